/- What the functions of this seat compute, and that the program's calls come to just that: written by this session's own program out of the translation; no condition. -/
import Derived.Test.YtninoenmhcbonaaX0
import Derived.Test.YtninoenmhcbonaaX5
import Derived.Test.YtninoenmhcbonaaX12
namespace Go.Proofs.Ytninoenmhcbonaa.X
open Go.RowKit Go.Proofs.YtninoenmhcbonaaW.PrintWords Go.Proofs.YtninoenmhcbonaaW.PrintLast Go.Proofs.YtninoenmhcbonaaW.PrintMore
attribute [local go_sem] max2_int min2_int max_two min_two max_three min_three max_four min_four
set_option linter.unusedVariables false
set_option linter.unusedSimpArgs false
set_option maxHeartbeats 8000000
set_option maxRecDepth 100000

/-! ### table_Run: function 46 -/
mutual
def table_Run.l0 : Nat → List Int → List Int → Int → Int → List ByteArray → List Bool → List Int → List (S73) → Option (Int × Int)
 | 0, _, _, _, _, _, _, _, _ => none
 | k + 1, x1, x17, x18, x19, x810000, x810001, x810002, x810003 => if x19 < x18 then (if 0 ≤ x19 then (if x19 < (x17.length : Int) then (if (rd x17 x19) < 0 then (some (0, 30)) else (if (rd x17 x19) ≥ (shl .i64 1 (x810000.length : Int)) then (some (0, 30)) else (table_Run.l0 k x1 x17 x18 (wrap64 (x19 + 1)) x810000 x810001 x810002 x810003))) else (none)) else (none)) else (table_Run.l1 k 0 x1 (x1.length : Int) 0 x810000 x810001 x810002 x810003)
def table_Run.l1 : Nat → Int → List Int → Int → Int → List ByteArray → List Bool → List Int → List (S73) → Option (Int × Int)
 | 0, _, _, _, _, _, _, _, _ => none
 | k + 1, x9, x34, x35, x36, x810000, x810001, x810002, x810003 => if x36 < x35 then (if 0 ≤ x36 then (if x36 < (x34.length : Int) then ((table_rowOf.f x810000 x810001 x810002 x810003 x9).bind fun t813 => ((row_At.f k t813 (rd x34 x36)).bind fun bt816 => (table_Run.l1 k bt816.1 x34 x35 (wrap64 (x36 + 1)) x810000 x810001 x810002 x810003))) else (none)) else (none)) else (some (x9, 0))
end
def table_Run.f (k : Nat) (l0_0 : List ByteArray) (l0_1 : List Bool) (l0_2 : List Int) (l0_3 : List (S73)) (l1 : List Int) : Option (Int × Int) := (table_Check.f k l0_0 l0_1 l0_2 l0_3).bind fun t810 => (if t810 = 0 then (table_Run.l0 k l1 l1 (l1.length : Int) 0 l0_0 l0_1 l0_2 l0_3) else (some (0, t810)))
theorem table_Run.mono_l : ∀ k, (∀ y0 y1 y2 y3 y4 y5 y6 y7, LeO (table_Run.l0 k y0 y1 y2 y3 y4 y5 y6 y7) (table_Run.l0 (k + 1) y0 y1 y2 y3 y4 y5 y6 y7)) ∧ (∀ y0 y1 y2 y3 y4 y5 y6 y7, LeO (table_Run.l1 k y0 y1 y2 y3 y4 y5 y6 y7) (table_Run.l1 (k + 1) y0 y1 y2 y3 y4 y5 y6 y7))
 | 0 => ⟨fun _ _ _ _ _ _ _ _ r h => by simp [table_Run.l0] at h, fun _ _ _ _ _ _ _ _ r h => by simp [table_Run.l1] at h⟩
 | k + 1 => by
  obtain ⟨ih0, ih1⟩ := table_Run.mono_l k; refine ⟨?_, ?_⟩
  ·intro y0 y1 y2 y3 y4 y5 y6 y7
   unfold table_Run.l0
   repeat' first | (with_reducible first | exact ih0 _ _ _ _ _ _ _ _ | exact ih1 _ _ _ _ _ _ _ _ | exact row_At.mono _ _ _ | exact table_Check.mono _ _ _ _ _ | exact lA | apply lI | refine lB ?_ fun _ => ?_) | exact lN _ | apply lI | refine lB ?_ fun _ => ?_
  ·intro y0 y1 y2 y3 y4 y5 y6 y7
   unfold table_Run.l1
   repeat' first | (with_reducible first | exact ih0 _ _ _ _ _ _ _ _ | exact ih1 _ _ _ _ _ _ _ _ | exact row_At.mono _ _ _ | exact table_Check.mono _ _ _ _ _ | exact lA | apply lI | refine lB ?_ fun _ => ?_) | exact lN _ | apply lI | refine lB ?_ fun _ => ?_
theorem table_Run.mono : ∀ a0 a1 a2 a3 a4 k, LeO (table_Run.f k a0 a1 a2 a3 a4) (table_Run.f (k + 1) a0 a1 a2 a3 a4) := by
 intro a0 a1 a2 a3 a4 k; obtain ⟨ih0, ih1⟩ := table_Run.mono_l k
 unfold table_Run.f
 repeat' first | (with_reducible first | exact ih0 _ _ _ _ _ _ _ _ | exact ih1 _ _ _ _ _ _ _ _ | exact row_At.mono _ _ _ | exact table_Check.mono _ _ _ _ _ | exact lA | apply lI | refine lB ?_ fun _ => ?_) | exact lN _ | apply lI | refine lB ?_ fun _ => ?_
theorem table_Run.calls (k : Nat) (Q : Option Addr) (R : Nat) (z : List ByteArray) (U : Option Addr) (V : Nat) (D : List Bool) (W : Option Addr) (Y : Nat) (E : List Int) (Z : Option Addr) (aa : Nat) (F : List (S73)) (A1 : Option Addr) (c1 : Nat) (L : List Int) (r1 : Int) (r2 : Int) (w : World) (aA : Kd.C Kd.string w Q z.length z) (aB : z.length ≤ R) (aC : Kd.C Kd.bool w U D.length D) (aD : D.length ≤ V) (aE : Kd.C (Kd.int .i64) w W E.length E) (aF : E.length ≤ Y) (aG : Kd.C k73 w Z F.length F) (aH : F.length ≤ aa) (a5 : Kd.C (Kd.int .i64) w A1 L.length L) (a6 : L.length ≤ c1) (h : table_Run.f k z D E F L = some (r1, r2)) :
  Calls Try.prog 46 #[.agg #[.slice Q z.length R, .slice U D.length V, .slice W E.length Y, .slice Z F.length aa], .slice A1 L.length c1] w fun e w' => e = .returned (.tuple #[.int .i64 r1, .int .i64 r2]) ∧ Below w.heap.size w w' := by
 have hu27 := Try.underlying27; have al := aM aA; have am := aM aB; clear aA aB; have an := aM aC; have ao := aM aD; clear aC aD; have ap := aM aE; have aq := aM aF; clear aE aF; have ar := aM aG; have au := aM aH; clear aG aH; have aI := aM a5; have cc := aM a6; clear a5 a6; have HB := aM (Below.refl w.heap.size w); rw [table_Run.f] at h; have H := h; clear h; replace H := Option.bind_eq_some_iff.mp H; obtain ⟨av, a7, H⟩ := H; have A3 := aM a7; clear a7
 by_cases c4 : av = 0
 ·rw [if_pos c4] at H; obtain ⟨a9, ba⟩ := bq c4; clear c4; have H' := aM H; clear H
  go_enter Try.func46, Try.ntmps46
  go_wp2_with (first | ((with_reducible refine gate_dst (N := 2) rfl ?_); (try (refine gate_guard (by rfl) ?_; dsimp only)); refine be_ (cs := #[.slice Q z.length R, .slice U D.length V, .slice W E.length Y, .slice Z F.length aa]) (t := 27) ?_; intro ab hg w5 hbox hb; have A := aM (hbox); have aJ := gE hg (bP0 HB); have G := gE hg (bP0 HB); replace HB := hS0 HB hb; clear hb hbox hg; obtain ⟨bT, bU, bV, bW, bX, bY, bZ, b0⟩ := bG4 A) | ((with_reducible refine gate_callee (f := 21) rfl ?_); refine gL_ (some 13) Try.func21 #[.agg #[.slice Q z.length R, .slice U D.length V, .slice W E.length Y, .slice Z F.length aa]] ?_; (with_reducible refine (table_Check.calls k _ _ z _ _ D _ _ E _ _ F av _ ?s1 am.out ?s3 ao.out ?s5 aq.out ?s7 au.out A3.out).mono ?_); (case s1 => exact cB al HB); (case s3 => exact cB an HB); (case s5 => exact cB ap HB); (case s7 => exact cB ar HB); rintro e w7 ⟨rfl, hb⟩; refine ⟨_, rfl, ?_⟩; replace A := kB A hb; replace HB := hS1 HB G hb; (try clear hb)))
  go_loopg [19] k (fun kq b1 w' => ∃ (B : Int), b1 = .int .i64 B ∧ Aside0 (table_Run.l0 kq L L (L.length : Int) B z D E F = some (r1, r2)) ∧ Aside0 (kq ≤ k) ∧ Aside0 (w'.heap[ab]? = some (.cells #[(.slice Q z.length R), (.slice U D.length V), (.slice W E.length Y), (.slice Z F.length aa)] 27 (0, 0))) ∧ BA w w')
  case atStart => exact ⟨(0), sI, H', ⟨Nat.le_refl _⟩, kQ A, bT1 HB G⟩
  case round =>
   clear H'
   obtain ⟨B, rfl, HA, HK1, A, HB⟩ := hrel; cases gk with
   | zero => exact absurd HA.out (by simp [table_Run.l0])
   | succ k1 =>
    have H := HA.out; clear HA; simp only [table_Run.l0] at H
    by_cases c8 : B < (L.length : Int)
    ·rw [if_pos c8] at H; have bb := dT c8; clear c8
     by_cases c9 : 0 ≤ B
     ·rw [if_pos c9] at H; have b9 := dT c9; clear c9
      by_cases aK : B < (L.length : Int)
      ·rw [if_pos aK] at H; have b5 := dT aK; clear aK
       by_cases ah : (rd L B) < 0
       ·rw [if_pos ah] at H; have aX := dT ah; clear ah; simp only [Option.some.injEq, Prod.mk.injEq] at H; obtain ⟨rfl, rfl⟩ := H; have M : 0 ≤ (B : Int) := oT aO; have O : B < (L.length : Int) := oT aO; obtain ⟨aL, ae, J⟩ := Kd.at_int aI.out B M O; cases ae; replace J := cX HB J; replace M := eq_true M; replace O := eq_true O
        go_wp2
        go_ret2
        exact ⟨eW, bS1 HB.out G.out⟩
       ·rw [if_neg ah] at H; have aX := decide_eq_false ah; clear ah; obtain ⟨P, ac⟩ : ∃ j_ : Int, (shl .i64 1 (z.length : Int)) = j_ := ⟨_, rfl⟩
        first | rw [ac] at H | simp only [ac] at H
        have af : (IntKind.i64.wrap (1 * 2 ^ min (z.length : Int).toNat 64)) = P := ac; have hji12z : (z.length : Int) ≤ 64 → (IntKind.i64.wrap (1 * 2 ^ (z.length : Int).toNat)) = P := shl_small ac; have hji12p : (IntKind.i64.wrap (1 * 2 ^ min z.length 64)) = P := af; have hji12q : (z.length : Int) ≤ 64 → (IntKind.i64.wrap (1 * 2 ^ z.length)) = P := hji12z
        have hji12r : (IntKind.i64.wrap (2 ^ min z.length 64)) = P := by have h_ := hji12p; rw [Int.one_mul] at h_; exact h_
        have hji12s : (z.length : Int) ≤ 64 → (IntKind.i64.wrap (2 ^ z.length)) = P := fun hle_ => by have h_ := hji12q hle_; rw [Int.one_mul] at h_; exact h_
        have hji12u : (IntKind.i64.wrap (2 ^ min (z.length : Int).toNat 64)) = P := by have h_ := af; rw [Int.one_mul] at h_; exact h_
        have hji12v : (z.length : Int) ≤ 64 → (IntKind.i64.wrap (2 ^ (z.length : Int).toNat)) = P := fun hle_ => by have h_ := hji12z hle_; rw [Int.one_mul] at h_; exact h_
        have hji12y : (wrap64 (1 * 2 ^ min (z.length : Int).toNat 64)) = P := (i64_w _).symm.trans af
        have hji12x : (z.length : Int) ≤ 64 → (wrap64 (1 * 2 ^ (z.length : Int).toNat)) = P := fun h_ => (i64_w _).symm.trans (hji12z h_)
        by_cases ai : (rd L B) ≥ (P)
        ·rw [if_pos ai] at H; have aY := dT ai; clear ai; simp only [Option.some.injEq, Prod.mk.injEq] at H; obtain ⟨rfl, rfl⟩ := H; have M : 0 ≤ (B : Int) := oT aO; have O : B < (L.length : Int) := oT aO; obtain ⟨aL, ae, J⟩ := Kd.at_int aI.out B M O; cases ae; replace J := cX HB J; replace M := eq_true M; replace O := eq_true O; obtain ⟨bh, bi, bj, bk, bl, bm, bo, bp⟩ := bG4 A
         go_wp2
         go_ret2
         exact ⟨by first | rfl | (simp [errW_none, errW_some] <;> rfl) | (simp only [← ac]; first | rfl | (simp [errW_none, errW_some] <;> rfl)) | (simp [*, errW_none, errW_some] <;> rfl), bS1 HB.out G.out⟩
        ·rw [if_neg ai] at H; have aY := decide_eq_false ai; clear ai; have H' := aM H; clear H; have M : 0 ≤ (B : Int) := oT aO; have O : B < (L.length : Int) := oT aO; obtain ⟨aL, ae, J⟩ := Kd.at_int aI.out B M O; cases ae; replace J := cX HB J; replace M := eq_true M; replace O := eq_true O; obtain ⟨br, bs, bt, bu, bv, bw, bx, bz⟩ := bG4 A
         go_wp2
         go_roundg k1
         case measure => have := HK1.out; omega
         case rel => exact ⟨(wrap64 (B + 1)), sI, H', ⟨by have := HK1.out; omega⟩, kQ A, bT1 HB G⟩
      ·exact nX aK H
     ·exact nX c9 H
    ·rw [if_neg c8] at H; have bb := decide_eq_false c8; clear c8; have H' := aM H; clear H
     go_wp2
     go_loopg [9, 36] k1 (fun kq v9 b2 w' => ∃ (ag : Int) (I : Int), v9 = .int .i64 ag ∧ b2 = .int .i64 I ∧ Aside0 (table_Run.l1 kq ag L (L.length : Int) I z D E F = some (r1, r2)) ∧ Aside0 (kq ≤ k1) ∧ Aside0 (w'.heap[ab]? = some (.cells #[(.slice Q z.length R), (.slice U D.length V), (.slice W E.length Y), (.slice Z F.length aa)] 27 (0, 0))) ∧ BA w w')
     case atStart => exact ⟨(0), (0), sI, sI, H', ⟨Nat.le_refl _⟩, kQ A, bT1 HB G⟩
     case round =>
      clear H'
      obtain ⟨ag, I, rfl, rfl, HA, HK2, A, HB⟩ := hrel; cases gk with
      | zero => exact absurd HA.out (by simp [table_Run.l1])
      | succ k2 =>
       have H := HA.out; clear HA; simp only [table_Run.l1] at H
       by_cases aj : I < (L.length : Int)
       ·rw [if_pos aj] at H; have aZ := dT aj; clear aj
        by_cases aN : 0 ≤ I
        ·rw [if_pos aN] at H; have b6 := dT aN; clear aN
         by_cases aP : I < (L.length : Int)
         ·rw [if_pos aP] at H; have b7 := dT aP; clear aP; replace H := Option.bind_eq_some_iff.mp H; obtain ⟨aw, aU, H⟩ := H; have b3 := aM aU; clear aU; replace H := Option.bind_eq_some_iff.mp H; obtain ⟨⟨ax, bc⟩, aV, H⟩ := H; replace H : (table_Run.l1 k2 ax L (L.length : Int) (wrap64 (I + 1)) z D E F) = some (r1, r2) := H; have b4 := aM aV; clear aV; have H' := aM H; clear H; have ay : 0 ≤ (I : Int) := oT aO; have az : I < (L.length : Int) := oT aO; obtain ⟨b8, bd, ak⟩ := Kd.at_int aI.out I ay az; cases bd; replace ak := cX HB ak; replace ay := eq_true ay; replace az := eq_true az; obtain ⟨bA, bB, bC, bD, bE, bF, bG, bH⟩ := bG4 A
          go_wp2_with (first | ((with_reducible refine gate_callee (f := 44) rfl ?_); refine gL_ (some 43) Try.func44 #[.agg #[.slice Q z.length R, .slice U D.length V, .slice W E.length Y, .slice Z F.length aa], .int .i64 ag] ?_; (with_reducible refine (table_rowOf.calls _ _ z _ _ D _ _ E (fun k_ => k_ < w.heap.size) _ _ F ag aw _ ?s1 am.out ?s3 ao.out ?s5 aq.out ?s7 b3.out).mono ?_); (case s1 => exact cB al HB); (case s3 => exact cB an HB); (case s5 => exact cB ap HB); (case s7 => exact Kd.V_mk au.out (Kd.F_below (Kd.C_F k73_heap ar.out) (bP1 HB G))); rintro e cd ⟨cb, rfl, a8, hb⟩; refine ⟨_, rfl, ?_⟩; have ad := aM (Kd.V_lower (Kd.V_mono (ok' := fun k_ => k_ ≠ ab) a8 (fun k_ hk_ => Or.elim hk_ (fun hs_ => fun e_ => Nat.not_le.2 hs_ (by rw [e_]; exact aJ.out)) (fun hn_ => (Kd.freshB (g := ab) (o := .cells #[.slice Q z.length R, .slice U D.length V, .slice W E.length Y, .slice Z F.length aa] 27 (0, 0)) (kO A.out) k_ hn_)))) (below_size (bP1 HB G))); replace A := kB A hb; replace HB := hS1 HB G hb; (try clear hb); (try clear a8); obtain ⟨be, bf, bg⟩ := Kd.V_slice ad.out; subst bg) | ((with_reducible refine gate_callee (f := 71) rfl ?_); refine gL_ (some 45) Try.func71 #[.slice be aw.length bf, .int .i64 (rd L I)] ?_; (with_reducible refine (row_At.calls k2 _ _ aw (rd L I) ax bc _ ?s1 ?s2 b4.out).mono ?_); (case s1 => exact cO (Kd.V_reads' ad.out).2.2); (case s2 => exact (Kd.V_reads' ad.out).2.1); rintro e ce ⟨rfl, hb⟩; refine ⟨_, rfl, ?_⟩; replace ad := aM (Kd.V_below (vO ad.out) hb); replace A := kB A hb; replace HB := hS1 HB G hb; (try clear hb)))
          go_roundg k2
          case measure => have := HK1.out; have := HK2.out; omega
          case rel => exact ⟨(ax), (wrap64 (I + 1)), sI, sI, H', ⟨by have := HK1.out; have := HK2.out; omega⟩, kQ A, bT1 HB G⟩
         ·exact nX aP H
        ·exact nX aN H
       ·rw [if_neg aj] at H; have aZ := decide_eq_false aj; clear aj; simp only [Option.some.injEq, Prod.mk.injEq] at H; obtain ⟨rfl, rfl⟩ := H
        go_wp2
        go_ret2
        exact ⟨eW, bS1 HB.out G.out⟩
 ·rw [if_neg c4] at H; obtain ⟨a9, ba⟩ := bn c4; simp only [Option.some.injEq, Prod.mk.injEq] at H; obtain ⟨rfl, rfl⟩ := H
  go_enter Try.func46, Try.ntmps46
  go_wp2_with (first | ((with_reducible refine gate_dst (N := 2) rfl ?_); (try (refine gate_guard (by rfl) ?_; dsimp only)); refine be_ (cs := #[.slice Q z.length R, .slice U D.length V, .slice W E.length Y, .slice Z F.length aa]) (t := 27) ?_; intro ab hg cf hbox hb; have A := aM (hbox); have aJ := gE hg (bP0 HB); have G := gE hg (bP0 HB); replace HB := hS0 HB hb; clear hb hbox hg; obtain ⟨bI, bJ, bK, bL, bM, bN, bO, bP⟩ := bG4 A) | ((with_reducible refine gate_callee (f := 21) rfl ?_); refine gL_ (some 13) Try.func21 #[.agg #[.slice Q z.length R, .slice U D.length V, .slice W E.length Y, .slice Z F.length aa]] ?_; (with_reducible refine (table_Check.calls k _ _ z _ _ D _ _ E _ _ F av _ ?s1 am.out ?s3 ao.out ?s5 aq.out ?s7 au.out A3.out).mono ?_); (case s1 => exact cB al HB); (case s3 => exact cB an HB); (case s5 => exact cB ap HB); (case s7 => exact cB ar HB); rintro e cg ⟨rfl, hb⟩; refine ⟨_, rfl, ?_⟩; replace A := kB A hb; replace HB := hS1 HB G hb; (try clear hb)))
  go_ret2
  exact ⟨eW, bS1 HB.out G.out⟩

end Go.Proofs.Ytninoenmhcbonaa.X

/- What the functions of this seat compute, and that the program's calls come to just that: written by this session's own program out of the translation; no condition. -/
import Derived.Test.YtghfclgcgecgdaaX0
import Derived.Test.YtghfclgcgecgdaaX12
import Derived.Test.YtghfclgcgecgdaaX13
import Derived.Test.YtghfclgcgecgdaaX16
namespace Go.Proofs.Ytghfclgcgecgdaa.X
open Go.RowKit Go.Proofs.YtghfclgcgecgdaaW.PrintWords Go.Proofs.YtghfclgcgecgdaaW.PrintLast Go.Proofs.YtghfclgcgecgdaaW.PrintMore
attribute [local go_sem] max2_int min2_int max_two min_two max_three min_three max_four min_four
set_option linter.unusedVariables false
set_option linter.unusedSimpArgs false
set_option maxHeartbeats 8000000
set_option maxRecDepth 100000

/-! ### table_Run: function 21 -/
mutual
def table_Run.l0 : Nat → List Int → List Int → Int → Int → List ByteArray → List Bool → List Int → List (S58) → Option (Int × Int)
 | 0, _, _, _, _, _, _, _, _ => none
 | k + 1, x1, x17, x18, x19, x210000, x210001, x210002, x210003 => if x19 < x18 then (if 0 ≤ x19 then (if x19 < (x17.length : Int) then (if (rd x17 x19) < 0 then (some (0, 30)) else (if (rd x17 x19) ≥ (shl .i64 1 (x210000.length : Int)) then (some (0, 30)) else (table_Run.l0 k x1 x17 x18 (wrap64 (x19 + 1)) x210000 x210001 x210002 x210003))) else (none)) else (none)) else (table_Run.l1 k 0 x1 (x1.length : Int) 0 x210000 x210001 x210002 x210003)
def table_Run.l1 : Nat → Int → List Int → Int → Int → List ByteArray → List Bool → List Int → List (S58) → Option (Int × Int)
 | 0, _, _, _, _, _, _, _, _ => none
 | k + 1, x9, x34, x35, x36, x210000, x210001, x210002, x210003 => if x36 < x35 then (if 0 ≤ x36 then (if x36 < (x34.length : Int) then ((table_rowOf.f x210000 x210001 x210002 x210003 x9).bind fun t213 => ((row_At.f k t213 (rd x34 x36)).bind fun bt216 => (table_Run.l1 k bt216.1 x34 x35 (wrap64 (x36 + 1)) x210000 x210001 x210002 x210003))) else (none)) else (none)) else (some (x9, 0))
end
def table_Run.f (k : Nat) (l0_0 : List ByteArray) (l0_1 : List Bool) (l0_2 : List Int) (l0_3 : List (S58)) (l1 : List Int) : Option (Int × Int) := (table_Check.f k l0_0 l0_1 l0_2 l0_3).bind fun t210 => (if t210 = 0 then (table_Run.l0 k l1 l1 (l1.length : Int) 0 l0_0 l0_1 l0_2 l0_3) else (some (0, t210)))
theorem table_Run.mono_l : ∀ k, (∀ y0 y1 y2 y3 y4 y5 y6 y7, LeO (table_Run.l0 k y0 y1 y2 y3 y4 y5 y6 y7) (table_Run.l0 (k + 1) y0 y1 y2 y3 y4 y5 y6 y7)) ∧ (∀ y0 y1 y2 y3 y4 y5 y6 y7, LeO (table_Run.l1 k y0 y1 y2 y3 y4 y5 y6 y7) (table_Run.l1 (k + 1) y0 y1 y2 y3 y4 y5 y6 y7))
 | 0 => ⟨fun _ _ _ _ _ _ _ _ r h => by simp [table_Run.l0] at h, fun _ _ _ _ _ _ _ _ r h => by simp [table_Run.l1] at h⟩
 | k + 1 => by
  obtain ⟨ih0, ih1⟩ := table_Run.mono_l k; refine ⟨?_, ?_⟩
  ·intro y0 y1 y2 y3 y4 y5 y6 y7
   unfold table_Run.l0
   repeat' first | (with_reducible first | exact ih0 _ _ _ _ _ _ _ _ | exact ih1 _ _ _ _ _ _ _ _ | exact row_At.mono _ _ _ | exact table_Check.mono _ _ _ _ _ | exact lA | apply lI | refine lB ?_ fun _ => ?_) | exact lN _ | apply lI | refine lB ?_ fun _ => ?_
  ·intro y0 y1 y2 y3 y4 y5 y6 y7
   unfold table_Run.l1
   repeat' first | (with_reducible first | exact ih0 _ _ _ _ _ _ _ _ | exact ih1 _ _ _ _ _ _ _ _ | exact row_At.mono _ _ _ | exact table_Check.mono _ _ _ _ _ | exact lA | apply lI | refine lB ?_ fun _ => ?_) | exact lN _ | apply lI | refine lB ?_ fun _ => ?_
theorem table_Run.mono : ∀ a0 a1 a2 a3 a4 k, LeO (table_Run.f k a0 a1 a2 a3 a4) (table_Run.f (k + 1) a0 a1 a2 a3 a4) := by
 intro a0 a1 a2 a3 a4 k; obtain ⟨ih0, ih1⟩ := table_Run.mono_l k
 unfold table_Run.f
 repeat' first | (with_reducible first | exact ih0 _ _ _ _ _ _ _ _ | exact ih1 _ _ _ _ _ _ _ _ | exact row_At.mono _ _ _ | exact table_Check.mono _ _ _ _ _ | exact lA | apply lI | refine lB ?_ fun _ => ?_) | exact lN _ | apply lI | refine lB ?_ fun _ => ?_
theorem table_Run.calls (k : Nat) (Q : Option Addr) (R : Nat) (z : List ByteArray) (U : Option Addr) (V : Nat) (D : List Bool) (W : Option Addr) (Y : Nat) (E : List Int) (Z : Option Addr) (aa : Nat) (F : List (S58)) (A1 : Option Addr) (c1 : Nat) (L : List Int) (r1 : Int) (r2 : Int) (w : World) (aA : Kd.C Kd.string w Q z.length z) (aB : z.length ≤ R) (aC : Kd.C Kd.bool w U D.length D) (aD : D.length ≤ V) (aE : Kd.C (Kd.int .i64) w W E.length E) (aF : E.length ≤ Y) (aG : Kd.C k58 w Z F.length F) (aH : F.length ≤ aa) (a5 : Kd.C (Kd.int .i64) w A1 L.length L) (a6 : L.length ≤ c1) (h : table_Run.f k z D E F L = some (r1, r2)) :
  Calls Try.prog 21 #[.agg #[.slice Q z.length R, .slice U D.length V, .slice W E.length Y, .slice Z F.length aa], .slice A1 L.length c1] w fun e w' => e = .returned (.tuple #[.int .i64 r1, .int .i64 r2]) ∧ Below w.heap.size w w' := by
 have hu32 := Try.underlying32; have al := aM aA; have am := aM aB; clear aA aB; have an := aM aC; have ao := aM aD; clear aC aD; have ap := aM aE; have aq := aM aF; clear aE aF; have ar := aM aG; have au := aM aH; clear aG aH; have aI := aM a5; have cc := aM a6; clear a5 a6; have HB := aM (Below.refl w.heap.size w); rw [table_Run.f] at h; have H := h; clear h; apply bSx H; clear H; intro av A3 H
 apply iB H <;> clear H <;> intro c4 H
 ·obtain ⟨a9, ba⟩ := bq c4; clear c4; have H' := aM H; clear H
  go_enter Try.func21, Try.ntmps21
  go_wp2_with (first | ((with_reducible refine gate_dst (N := 2) rfl ?_); (try (refine gate_guard (by rfl) ?_; dsimp only)); refine be_ (cs := #[.slice Q z.length R, .slice U D.length V, .slice W E.length Y, .slice Z F.length aa]) (t := 32) ?_; intro ab hg w5 aQ hb; have A := aM (aQ); have aJ := gE hg (bP0 HB); have G := gE hg (bP0 HB); replace HB := hS0 HB hb; clear hb aQ hg; obtain ⟨bT, bU, bV, bW, bX, bY, bZ, b0⟩ := bG4 A) | ((with_reducible refine gate_callee (f := 29) rfl ?_); refine gL_ (some 13) Try.func29 #[.agg #[.slice Q z.length R, .slice U D.length V, .slice W E.length Y, .slice Z F.length aa]] ?_; (with_reducible refine (table_Check.calls k _ _ z _ _ D _ _ E _ _ F av _ ?s1 am.out ?s3 ao.out ?s5 aq.out ?s7 au.out A3.out).mono ?_); (case s1 => exact cB al HB); (case s3 => exact cB an HB); (case s5 => exact cB ap HB); (case s7 => exact cB ar HB); rintro e w7 ⟨rfl, hb⟩; refine ⟨_, rfl, ?_⟩; replace A := kB A hb; replace HB := hS1 HB G hb; (try clear hb)))
  go_loopg [19] k (fun kq b1 w' => ∃ (B : Int), b1 = .int .i64 B ∧ Aside0 (table_Run.l0 kq L L (L.length : Int) B z D E F = some (r1, r2)) ∧ Aside0 (kq ≤ k) ∧ Aside0 (w'.heap[ab]? = some (.cells #[(.slice Q z.length R), (.slice U D.length V), (.slice W E.length Y), (.slice Z F.length aa)] 32 (0, 0))) ∧ BA w w')
  case atStart => exact ⟨(0), sI, H', ⟨Nat.le_refl _⟩, kQ A, bT1 HB G⟩
  case round =>
   clear H'
   obtain ⟨B, rfl, HA, aT, A, HB⟩ := hrel; cases gk with
   | zero => exact absurd HA.out (by simp [table_Run.l0])
   | succ k1 =>
    have H := HA.out; clear HA; simp only [table_Run.l0] at H
    apply iB H <;> clear H <;> intro c8 H
    ·have bb := dT c8; clear c8
     apply iN H; clear H; intro c9 H; have b9 := dT c9; clear c9
     apply iN H; clear H; intro aK H; have b5 := dT aK; clear aK
     apply iB H <;> clear H <;> intro ah H
     ·have aX := dT ah; clear ah; obtain ⟨rfl, rfl⟩ := pE2 H; obtain ⟨⟨aL, ae, J⟩, M, O⟩ := xAt (Kd.at_int aI.out) B; cases ae; replace J := cX HB J
      go_wp2
      go_ret2
      exact ⟨eW, bS1 HB.out G.out⟩
     ·have aX := decide_eq_false ah; clear ah; obtain ⟨P, ac⟩ : ∃ j_ : Int, (shl .i64 1 (z.length : Int)) = j_ := ⟨_, rfl⟩
      first | rw [ac] at H | simp only [ac] at H
      have af : (IntKind.i64.wrap (1 * 2 ^ min (z.length : Int).toNat 64)) = P := ac; have hji12z : (z.length : Int) ≤ 64 → (IntKind.i64.wrap (1 * 2 ^ (z.length : Int).toNat)) = P := shl_small ac; have hji12p : (IntKind.i64.wrap (1 * 2 ^ min z.length 64)) = P := af; have hji12q : (z.length : Int) ≤ 64 → (IntKind.i64.wrap (1 * 2 ^ z.length)) = P := hji12z
      have hji12r : (IntKind.i64.wrap (2 ^ min z.length 64)) = P := by have h_ := hji12p; rw [Int.one_mul] at h_; exact h_
      have hji12s : (z.length : Int) ≤ 64 → (IntKind.i64.wrap (2 ^ z.length)) = P := fun hle_ => by have h_ := hji12q hle_; rw [Int.one_mul] at h_; exact h_
      have hji12u : (IntKind.i64.wrap (2 ^ min (z.length : Int).toNat 64)) = P := by have h_ := af; rw [Int.one_mul] at h_; exact h_
      have hji12v : (z.length : Int) ≤ 64 → (IntKind.i64.wrap (2 ^ (z.length : Int).toNat)) = P := fun hle_ => by have h_ := hji12z hle_; rw [Int.one_mul] at h_; exact h_
      have hji12y : (wrap64 (1 * 2 ^ min (z.length : Int).toNat 64)) = P := (i64_w _).symm.trans af
      have hji12x : (z.length : Int) ≤ 64 → (wrap64 (1 * 2 ^ (z.length : Int).toNat)) = P := fun h_ => (i64_w _).symm.trans (hji12z h_)
      apply iB H <;> clear H <;> intro ai H
      ·have aY := dT ai; clear ai; obtain ⟨rfl, rfl⟩ := pE2 H; obtain ⟨⟨aL, ae, J⟩, M, O⟩ := xAt (Kd.at_int aI.out) B; cases ae; replace J := cX HB J; obtain ⟨bh, bi, bj, bk, bl, bm, bo, bp⟩ := bG4 A
       go_wp2
       go_ret2
       exact ⟨by first | rfl | (simp [errW_none, errW_some] <;> rfl) | (simp only [← ac]; first | rfl | (simp [errW_none, errW_some] <;> rfl)) | (simp [*, errW_none, errW_some] <;> rfl), bS1 HB.out G.out⟩
      ·have aY := decide_eq_false ai; clear ai; have H' := aM H; clear H; obtain ⟨⟨aL, ae, J⟩, M, O⟩ := xAt (Kd.at_int aI.out) B; cases ae; replace J := cX HB J; obtain ⟨br, bs, bt, bu, bv, bw, bx, bz⟩ := bG4 A
       go_wp2
       go_roundg k1
       case measure => have := aT.out; omega
       case rel => exact ⟨(wrap64 (B + 1)), sI, H', ⟨by have := aT.out; omega⟩, kQ A, bT1 HB G⟩
    ·have bb := decide_eq_false c8; clear c8; have H' := aM H; clear H
     go_wp2
     go_loopg [9, 36] k1 (fun kq v9 b2 w' => ∃ (ag : Int) (I : Int), v9 = .int .i64 ag ∧ b2 = .int .i64 I ∧ Aside0 (table_Run.l1 kq ag L (L.length : Int) I z D E F = some (r1, r2)) ∧ Aside0 (kq ≤ k1) ∧ Aside0 (w'.heap[ab]? = some (.cells #[(.slice Q z.length R), (.slice U D.length V), (.slice W E.length Y), (.slice Z F.length aa)] 32 (0, 0))) ∧ BA w w')
     case atStart => exact ⟨(0), (0), sI, sI, H', ⟨Nat.le_refl _⟩, kQ A, bT1 HB G⟩
     case round =>
      clear H'
      obtain ⟨ag, I, rfl, rfl, HA, aW, A, HB⟩ := hrel; cases gk with
      | zero => exact absurd HA.out (by simp [table_Run.l1])
      | succ k2 =>
       have H := HA.out; clear HA; simp only [table_Run.l1] at H
       apply iB H <;> clear H <;> intro aj H
       ·have aZ := dT aj; clear aj
        apply iN H; clear H; intro aN H; have b6 := dT aN; clear aN
        apply iN H; clear H; intro aP H; have b7 := dT aP; clear aP; apply bSx H; clear H; intro aw b3 H; replace H := Option.bind_eq_some_iff.mp H; obtain ⟨⟨ax, bc⟩, aV, H⟩ := H; replace H : (table_Run.l1 k2 ax L (L.length : Int) (wrap64 (I + 1)) z D E F) = some (r1, r2) := H; have b4 := aM aV; clear aV; have H' := aM H; clear H; obtain ⟨⟨b8, bd, ak⟩, ay, az⟩ := xAt (Kd.at_int aI.out) I; cases bd; replace ak := cX HB ak; obtain ⟨bA, bB, bC, bD, bE, bF, bG, bH⟩ := bG4 A
        go_wp2_with (first | ((with_reducible refine gate_callee (f := 48) rfl ?_); refine gL_ (some 43) Try.func48 #[.agg #[.slice Q z.length R, .slice U D.length V, .slice W E.length Y, .slice Z F.length aa], .int .i64 ag] ?_; (with_reducible refine (table_rowOf.calls _ _ z _ _ D _ _ E (fun k_ => k_ < w.heap.size) _ _ F ag aw _ ?s1 am.out ?s3 ao.out ?s5 aq.out ?s7 b3.out).mono ?_); (case s1 => exact cB al HB); (case s3 => exact cB an HB); (case s5 => exact cB ap HB); (case s7 => exact Kd.V_mk au.out (Kd.F_below (Kd.C_F k58_heap ar.out) (bP1 HB G))); rintro e cd ⟨cb, rfl, a8, hb⟩; refine ⟨_, rfl, ?_⟩; have ad := aM (Kd.V_lower (Kd.V_mono (ok' := fun k_ => k_ ≠ ab) a8 (fun k_ hk_ => Or.elim hk_ (fun hs_ => fun e_ => Nat.not_le.2 hs_ (by rw [e_]; exact aJ.out)) (fun hn_ => (Kd.freshB (g := ab) (o := .cells #[.slice Q z.length R, .slice U D.length V, .slice W E.length Y, .slice Z F.length aa] 32 (0, 0)) (kO A.out) k_ hn_)))) (below_size (bP1 HB G))); replace A := kB A hb; replace HB := hS1 HB G hb; (try clear hb); (try clear a8); obtain ⟨be, bf, bg⟩ := Kd.V_slice ad.out; subst bg) | ((with_reducible refine gate_callee (f := 47) rfl ?_); refine gL_ (some 45) Try.func47 #[.slice be aw.length bf, .int .i64 (rd L I)] ?_; (with_reducible refine (row_At.calls k2 _ _ aw (rd L I) ax bc _ ?s1 ?s2 b4.out).mono ?_); (case s1 => exact cO (Kd.V_reads' ad.out).2.2); (case s2 => exact (Kd.V_reads' ad.out).2.1); rintro e ce ⟨rfl, hb⟩; refine ⟨_, rfl, ?_⟩; replace ad := aM (Kd.V_below (vO ad.out) hb); replace A := kB A hb; replace HB := hS1 HB G hb; (try clear hb)))
        go_roundg k2
        case measure => have := aT.out; have := aW.out; omega
        case rel => exact ⟨(ax), (wrap64 (I + 1)), sI, sI, H', ⟨by have := aT.out; have := aW.out; omega⟩, kQ A, bT1 HB G⟩
       ·have aZ := decide_eq_false aj; clear aj; obtain ⟨rfl, rfl⟩ := pE2 H
        go_wp2
        go_ret2
        exact ⟨eW, bS1 HB.out G.out⟩
 ·obtain ⟨a9, ba⟩ := bn c4; obtain ⟨rfl, rfl⟩ := pE2 H
  go_enter Try.func21, Try.ntmps21
  go_wp2_with (first | ((with_reducible refine gate_dst (N := 2) rfl ?_); (try (refine gate_guard (by rfl) ?_; dsimp only)); refine be_ (cs := #[.slice Q z.length R, .slice U D.length V, .slice W E.length Y, .slice Z F.length aa]) (t := 32) ?_; intro ab hg cf aQ hb; have A := aM (aQ); have aJ := gE hg (bP0 HB); have G := gE hg (bP0 HB); replace HB := hS0 HB hb; clear hb aQ hg; obtain ⟨bI, bJ, bK, bL, bM, bN, bO, bP⟩ := bG4 A) | ((with_reducible refine gate_callee (f := 29) rfl ?_); refine gL_ (some 13) Try.func29 #[.agg #[.slice Q z.length R, .slice U D.length V, .slice W E.length Y, .slice Z F.length aa]] ?_; (with_reducible refine (table_Check.calls k _ _ z _ _ D _ _ E _ _ F av _ ?s1 am.out ?s3 ao.out ?s5 aq.out ?s7 au.out A3.out).mono ?_); (case s1 => exact cB al HB); (case s3 => exact cB an HB); (case s5 => exact cB ap HB); (case s7 => exact cB ar HB); rintro e cg ⟨rfl, hb⟩; refine ⟨_, rfl, ?_⟩; replace A := kB A hb; replace HB := hS1 HB G hb; (try clear hb)))
  go_ret2
  exact ⟨eW, bS1 HB.out G.out⟩

end Go.Proofs.Ytghfclgcgecgdaa.X

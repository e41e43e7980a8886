/- What the functions of this seat compute, and that the program's calls come to just that: written by this session's own program out of the translation; no condition. -/
import Derived.Test.YthgoonohpfoagaaX0
import Derived.Test.YthgoonohpfoagaaX33
import Derived.Test.YthgoonohpfoagaaX34
namespace Go.Proofs.Ythgoonohpfoagaa.X
open Go.RowKit Go.Proofs.YthgoonohpfoagaaW.PrintWords Go.Proofs.YthgoonohpfoagaaW.PrintLast Go.Proofs.YthgoonohpfoagaaW.PrintMore
attribute [local go_sem] max2_int min2_int max_two min_two max_three min_three max_four min_four
set_option linter.unusedVariables false
set_option linter.unusedSimpArgs false
set_option maxHeartbeats 8000000
set_option maxRecDepth 100000

/-! ### table_Right: function 61 -/
mutual
def table_Right.j0 : Nat → Int → Bool → List ByteArray → List Bool → List (List Int) → Option (Int)
 | 0, _, _, _, _, _ => none
 | k + 1, x3, x20, x258000, x258001, x258002 => if x20 = true then (some 3) else (table_Right.l0 k x3 x258002 (x258002.length : Int) 0 x258000 x258001 x258002)
def table_Right.l0 : Nat → Int → List (List Int) → Int → Int → List ByteArray → List Bool → List (List Int) → Option (Int)
 | 0, _, _, _, _, _, _, _ => none
 | k + 1, x3, x22, x23, x24, x258000, x258001, x258002 => if x24 < x23 then (if 0 ≤ x24 then (if x24 < (x22.length : Int) then (if ((rd_L3 x22 x24).length : Int) = (shl .i64 1 (x258000.length : Int)) then ((slices_Min_int_int.f k (rd_L3 x22 x24)).bind fun t260 => (if t260 < 0 then (some 3) else ((slices_Max_int_int.f k (rd_L3 x22 x24)).bind fun t261 => (if t261 ≥ x3 then (some 3) else (table_Right.l0 k x3 x22 x23 (wrap64 (x24 + 1)) x258000 x258001 x258002))))) else (some 3)) else (none)) else (none)) else (some 0)
end
def table_Right.f (k : Nat) (l0_0 : List ByteArray) (l0_1 : List Bool) (l0_2 : List (List Int)) : Option (Int) := (table_tracks.f k l0_0 (l0_1.length : Int)).bind fun t258 => (if t258 = true then (table_Right.j0 k (l0_1.length : Int) ((l0_2.length : Int) != (l0_1.length : Int)) l0_0 l0_1 l0_2) else (table_Right.j0 k (l0_1.length : Int) true l0_0 l0_1 l0_2))
theorem table_Right.mono_l : ∀ k, (∀ y0 y1 y2 y3 y4, LeO (table_Right.j0 k y0 y1 y2 y3 y4) (table_Right.j0 (k + 1) y0 y1 y2 y3 y4)) ∧ (∀ y0 y1 y2 y3 y4 y5 y6, LeO (table_Right.l0 k y0 y1 y2 y3 y4 y5 y6) (table_Right.l0 (k + 1) y0 y1 y2 y3 y4 y5 y6))
 | 0 => ⟨fun _ _ _ _ _ r h => by simp [table_Right.j0] at h, fun _ _ _ _ _ _ _ r h => by simp [table_Right.l0] at h⟩
 | k + 1 => by
  obtain ⟨ih0, ih1⟩ := table_Right.mono_l k; refine ⟨?_, ?_⟩
  ·intro y0 y1 y2 y3 y4
   unfold table_Right.j0
   repeat' first | (with_reducible first | exact ih0 _ _ _ _ _ | exact ih1 _ _ _ _ _ _ _ | exact slices_Max_int_int.mono _ _ | exact slices_Min_int_int.mono _ _ | exact table_tracks.mono _ _ _ | exact lA | apply lI | refine lB ?_ fun _ => ?_) | exact lN _ | apply lI | refine lB ?_ fun _ => ?_
  ·intro y0 y1 y2 y3 y4 y5 y6
   unfold table_Right.l0
   repeat' first | (with_reducible first | exact ih0 _ _ _ _ _ | exact ih1 _ _ _ _ _ _ _ | exact slices_Max_int_int.mono _ _ | exact slices_Min_int_int.mono _ _ | exact table_tracks.mono _ _ _ | exact lA | apply lI | refine lB ?_ fun _ => ?_) | exact lN _ | apply lI | refine lB ?_ fun _ => ?_
theorem table_Right.mono : ∀ a0 a1 a2 k, LeO (table_Right.f k a0 a1 a2) (table_Right.f (k + 1) a0 a1 a2) := by
 intro a0 a1 a2 k; obtain ⟨ih0, ih1⟩ := table_Right.mono_l k
 unfold table_Right.f
 repeat' first | (with_reducible first | exact ih0 _ _ _ _ _ | exact ih1 _ _ _ _ _ _ _ | exact slices_Max_int_int.mono _ _ | exact slices_Min_int_int.mono _ _ | exact table_tracks.mono _ _ _ | exact lA | apply lI | refine lB ?_ fun _ => ?_) | exact lN _ | apply lI | refine lB ?_ fun _ => ?_
theorem table_Right.calls (k : Nat) (U : Option Addr) (V : Nat) (B : List ByteArray) (aa : Option Addr) (ab : Nat) (J : List Bool) (ac : Option Addr) (ad : Nat) (D : List (List Int)) (r : Int) (w : World) (ao : Kd.C Kd.string w U B.length B) (ap : B.length ≤ V) (aq : Kd.C Kd.bool w aa J.length J) (ar : J.length ≤ ab) (au : Kd.C (Kd.slice 3 (Kd.int .i64)) w ac D.length D) (av : D.length ≤ ad) (h : table_Right.f k B J D = some r) :
  Calls Try.prog 61 #[.agg #[.slice U B.length V, .slice aa J.length ab, .slice ac D.length ad]] w fun e w' => e = .returned (.int .i64 r) ∧ Below w.heap.size w w' := by
 have hu31 := Try.underlying31; have aw := aM ao; have ax := aM ap; clear ao ap; have bT := aM aq; have bU := aM ar; clear aq ar; have Y := aM au; have bV := aM av; clear au av; have HB := aM (Below.refl w.heap.size w); rw [table_Right.f] at h; have H := h; clear h; have aC := aM H; clear H
 go_enter Try.func61, Try.ntmps61
 go_upto_region 2 with (first | ((with_reducible refine gate_dst (N := 1) rfl ?_); (try (refine gate_guard (by rfl) ?_; dsimp only)); refine be_ (cs := #[.slice U B.length V, .slice aa J.length ab, .slice ac D.length ad]) (t := 31) ?_; intro ay hg w3 hbox hb; have z := aM (hbox); have bW := gE hg (bP0 HB); have E := gE hg (bP0 HB); replace HB := hS0 HB hb; clear hb hbox hg; obtain ⟨bx, bz, bA, bB, bC, bD⟩ := bG3 z))
 (try simp only [Act.put, sA, sB, sC])
 go_cut [20] (fun bE wc => ∃ (kq : Nat) (Z : Bool), bE = .bool Z ∧ Aside0 (table_Right.j0 kq (J.length : Int) Z B J D = some r) ∧ Aside0 (kq ≤ k) ∧ Aside0 (wc.heap[ay]? = some (.cells #[(.slice U B.length V), (.slice aa J.length ab), (.slice ac D.length ad)] 31 (0, 0))) ∧ BA w wc)
 case first =>
  have H := aC.out; clear aC; replace H := Option.bind_eq_some_iff.mp H; obtain ⟨aR, aN, H⟩ := H; have A5 := aM aN; clear aN
  by_cases c6 : aR = true
  ·subst c6
   rw [if_pos rfl] at H; have H' := aM H; clear H; obtain ⟨bG, bH, bI, bJ, bK, bL⟩ := bG3 z
   go_wp2_with (first | ((with_reducible refine gate_callee (f := 84) rfl ?_); refine gL_ (some 12) Try.func84 #[.slice U B.length V, .int .i64 (J.length : Int)] ?_; (with_reducible refine (table_tracks.calls k _ _ B (J.length : Int) true _ ?s1 ax.out A5.out).mono ?_); (case s1 => exact cB aw HB); rintro e w8 ⟨rfl, hb⟩; refine ⟨_, rfl, ?_⟩; replace z := kB z hb; replace HB := hS1 HB E hb; (try clear hb); obtain ⟨bM, bN, bO, bP, bQ, bR⟩ := bG3 z))
   go_meet
   case rel => exact ⟨_, (((D.length : Int) != (J.length : Int))), sI, H', ⟨by first | omega | exact Nat.le_refl _⟩, kQ z, bT1 HB E⟩
  ·replace c6 := Bool.eq_false_iff.mpr c6; subst c6
   rw [if_neg nF] at H; have H' := aM H; clear H; obtain ⟨aS, aT, aU, aV, aW, aX⟩ := bG3 z
   go_wp2_with (first | ((with_reducible refine gate_callee (f := 84) rfl ?_); refine gL_ (some 12) Try.func84 #[.slice U B.length V, .int .i64 (J.length : Int)] ?_; (with_reducible refine (table_tracks.calls k _ _ B (J.length : Int) false _ ?s1 ax.out A5.out).mono ?_); (case s1 => exact cB aw HB); rintro e bZ ⟨rfl, hb⟩; refine ⟨_, rfl, ?_⟩; replace z := kB z hb; replace HB := hS1 HB E hb; (try clear hb)))
   go_meet
   case rel => exact ⟨_, (true), sI, H', ⟨by first | omega | exact Nat.le_refl _⟩, kQ z, bT1 HB E⟩
 case rest =>
  clear aC
  obtain ⟨kq, Z, rfl, HA, HJ1, z, HB⟩ := hcut; cases kq with
  | zero => exact absurd HA.out (by simp [table_Right.j0])
  | succ aP =>
   have H := HA.out; clear HA; simp only [table_Right.j0] at H
   by_cases az : Z = true
   ·subst az
    rw [if_pos rfl] at H; obtain rfl := Option.some.inj H
    go_wp2
    go_ret
    exact ⟨eW, bS1 HB.out E.out⟩
   ·replace az := Bool.eq_false_iff.mpr az; subst az
    rw [if_neg nF] at H; have H' := aM H; clear H; obtain ⟨aY, aZ, a3, a4, a5, a6⟩ := bG3 z
    go_wp2
    go_loopg [24] aP (fun kq bS w' => ∃ (A : Int), bS = .int .i64 A ∧ Aside0 (table_Right.l0 kq (J.length : Int) D (D.length : Int) A B J D = some r) ∧ Aside0 (kq ≤ aP) ∧ Aside0 (w'.heap[ay]? = some (.cells #[(.slice U B.length V), (.slice aa J.length ab), (.slice ac D.length ad)] 31 (0, 0))) ∧ BA w w')
    case atStart => exact ⟨(0), sI, H', ⟨Nat.le_refl _⟩, kQ z, bT1 HB E⟩
    case round =>
     clear H'
     obtain ⟨A, rfl, HA, HK2, z, HB⟩ := hrel; cases gk with
     | zero => exact absurd HA.out (by simp [table_Right.l0])
     | succ k2 =>
      have H := HA.out; clear HA; simp only [table_Right.l0] at H
      by_cases ah : A < (D.length : Int)
      ·rw [if_pos ah] at H; have aH := dT ah; clear ah
       by_cases aA : 0 ≤ A
       ·rw [if_pos aA] at H; have bX := dT aA; clear aA
        by_cases aB : A < (D.length : Int)
        ·rw [if_pos aB] at H; have bY := dT aB; clear aB; obtain ⟨Q, R⟩ : ∃ j_ : Int, (shl .i64 1 (B.length : Int)) = j_ := ⟨_, rfl⟩
         first | rw [R] at H | simp only [R] at H
         have ae : (IntKind.i64.wrap (1 * 2 ^ min (B.length : Int).toNat 64)) = Q := R; have hji17z : (B.length : Int) ≤ 64 → (IntKind.i64.wrap (1 * 2 ^ (B.length : Int).toNat)) = Q := shl_small R; have hji17p : (IntKind.i64.wrap (1 * 2 ^ min B.length 64)) = Q := ae; have hji17q : (B.length : Int) ≤ 64 → (IntKind.i64.wrap (1 * 2 ^ B.length)) = Q := hji17z
         have hji17r : (IntKind.i64.wrap (2 ^ min B.length 64)) = Q := by have h_ := hji17p; rw [Int.one_mul] at h_; exact h_
         have hji17s : (B.length : Int) ≤ 64 → (IntKind.i64.wrap (2 ^ B.length)) = Q := fun hle_ => by have h_ := hji17q hle_; rw [Int.one_mul] at h_; exact h_
         have hji17u : (IntKind.i64.wrap (2 ^ min (B.length : Int).toNat 64)) = Q := by have h_ := ae; rw [Int.one_mul] at h_; exact h_
         have hji17v : (B.length : Int) ≤ 64 → (IntKind.i64.wrap (2 ^ (B.length : Int).toNat)) = Q := fun hle_ => by have h_ := hji17z hle_; rw [Int.one_mul] at h_; exact h_
         have hji17y : (wrap64 (1 * 2 ^ min (B.length : Int).toNat 64)) = Q := (i64_w _).symm.trans ae
         have hji17x : (B.length : Int) ≤ 64 → (wrap64 (1 * 2 ^ (B.length : Int).toNat)) = Q := fun h_ => (i64_w _).symm.trans (hji17z h_)
         by_cases am : ((rd_L3 D A).length : Int) = (Q)
         ·rw [if_pos am] at H; obtain ⟨aI, aJ⟩ := bq am; clear am; replace H := Option.bind_eq_some_iff.mp H; obtain ⟨ak, aD, H⟩ := H; have aE := aM aD; clear aD
          by_cases ai : ak < 0
          ·rw [if_pos ai] at H; have aK := dT ai; clear ai; obtain rfl := Option.some.inj H; have L : 0 ≤ (A : Int) := oT aO; have M : A < (D.length : Int) := oT aO; obtain ⟨al, af, ag, W, F, G, I⟩ := at_L3 Y.out A L M; cases W; replace F := cX HB F; have O := aM I; have P := aM G; clear I G; replace L := eq_true L; replace M := eq_true M; obtain ⟨a7, a8, a9, ba, bb, bc⟩ := bG3 z
           go_wp2_with (first | (go_at_call 85; (with_reducible refine (slices_Min_int_int.calls k2 _ _ (rd_L3 D A) ak _ ?s1 P.out aE.out).mono ?_); (case s1 => exact cB O HB); rintro e b0 ⟨rfl, hb⟩; replace z := kB z hb; replace HB := hS1 HB E hb; (try clear hb)))
           go_ret
           exact ⟨by first | rfl | (simp [errW_none, errW_some] <;> rfl) | (simp only [← R]; first | rfl | (simp [errW_none, errW_some] <;> rfl)) | (simp [*, errW_none, errW_some] <;> rfl), bS1 HB.out E.out⟩
          ·rw [if_neg ai] at H; have aK := decide_eq_false ai; clear ai; replace H := Option.bind_eq_some_iff.mp H; obtain ⟨an, aF, H⟩ := H; have aQ := aM aF; clear aF
           by_cases aj : an ≥ (J.length : Int)
           ·rw [if_pos aj] at H; have aL := dT aj; clear aj; obtain rfl := Option.some.inj H; have L : 0 ≤ (A : Int) := oT aO; have M : A < (D.length : Int) := oT aO; obtain ⟨al, af, ag, W, F, G, I⟩ := at_L3 Y.out A L M; cases W; replace F := cX HB F; have O := aM I; have P := aM G; clear I G; replace L := eq_true L; replace M := eq_true M; obtain ⟨bd, be, bf, bg, bh, bi⟩ := bG3 z
            go_wp2_with (first | (go_at_call 85; (with_reducible refine (slices_Min_int_int.calls k2 _ _ (rd_L3 D A) ak _ ?s1 P.out aE.out).mono ?_); (case s1 => exact cB O HB); rintro e b1 ⟨rfl, hb⟩; replace z := kB z hb; replace HB := hS1 HB E hb; (try clear hb)) | (go_at_call 86; (with_reducible refine (slices_Max_int_int.calls k2 _ _ (rd_L3 D A) an _ ?s1 P.out aQ.out).mono ?_); (case s1 => exact cB O HB); rintro e b2 ⟨rfl, hb⟩; replace z := kB z hb; replace HB := hS1 HB E hb; (try clear hb)))
            go_ret
            exact ⟨by first | rfl | (simp [errW_none, errW_some] <;> rfl) | (simp only [← R]; first | rfl | (simp [errW_none, errW_some] <;> rfl)) | (simp [*, errW_none, errW_some] <;> rfl), bS1 HB.out E.out⟩
           ·rw [if_neg aj] at H; have aL := decide_eq_false aj; clear aj; have H' := aM H; clear H; have L : 0 ≤ (A : Int) := oT aO; have M : A < (D.length : Int) := oT aO; obtain ⟨al, af, ag, W, F, G, I⟩ := at_L3 Y.out A L M; cases W; replace F := cX HB F; have O := aM I; have P := aM G; clear I G; replace L := eq_true L; replace M := eq_true M; obtain ⟨bj, bk, bl, bm, bo, bp⟩ := bG3 z
            go_wp2_with (first | (go_at_call 85; (with_reducible refine (slices_Min_int_int.calls k2 _ _ (rd_L3 D A) ak _ ?s1 P.out aE.out).mono ?_); (case s1 => exact cB O HB); rintro e b3 ⟨rfl, hb⟩; replace z := kB z hb; replace HB := hS1 HB E hb; (try clear hb)) | (go_at_call 86; (with_reducible refine (slices_Max_int_int.calls k2 _ _ (rd_L3 D A) an _ ?s1 P.out aQ.out).mono ?_); (case s1 => exact cB O HB); rintro e b4 ⟨rfl, hb⟩; replace z := kB z hb; replace HB := hS1 HB E hb; (try clear hb)))
            go_roundg k2
            case measure => have := HJ1.out; have := HK2.out; omega
            case rel => exact ⟨(wrap64 (A + 1)), sI, H', ⟨by have := HJ1.out; have := HK2.out; omega⟩, kQ z, bT1 HB E⟩
         ·rw [if_neg am] at H; obtain ⟨aI, aJ⟩ := bn am; obtain rfl := Option.some.inj H; have L : 0 ≤ (A : Int) := oT aO; have M : A < (D.length : Int) := oT aO; obtain ⟨al, af, ag, W, F, G, I⟩ := at_L3 Y.out A L M; cases W; replace F := cX HB F; have O := aM I; have P := aM G; clear I G; replace L := eq_true L; replace M := eq_true M; obtain ⟨br, bs, bt, bu, bv, bw⟩ := bG3 z
          go_wp2
          go_ret
          exact ⟨by first | rfl | (simp [errW_none, errW_some] <;> rfl) | (simp only [← R]; first | rfl | (simp [errW_none, errW_some] <;> rfl)) | (simp [*, errW_none, errW_some] <;> rfl), bS1 HB.out E.out⟩
        ·exact nX aB H
       ·exact nX aA H
      ·rw [if_neg ah] at H; have aH := decide_eq_false ah; clear ah; obtain rfl := Option.some.inj H
       go_wp2
       go_ret
       exact ⟨eW, bS1 HB.out E.out⟩

end Go.Proofs.Ythgoonohpfoagaa.X

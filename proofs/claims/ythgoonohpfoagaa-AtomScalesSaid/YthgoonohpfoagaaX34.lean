/- What the functions of this seat compute, and that the program's calls come to just that: written by this session's own program out of the translation; no condition. -/
import Derived.Test.YthgoonohpfoagaaX0
namespace Go.Proofs.Ythgoonohpfoagaa.X
open Go.RowKit Go.Proofs.YthgoonohpfoagaaW.PrintWords Go.Proofs.YthgoonohpfoagaaW.PrintLast Go.Proofs.YthgoonohpfoagaaW.PrintMore
attribute [local go_sem] max2_int min2_int max_two min_two max_three min_three max_four min_four
set_option linter.unusedVariables false
set_option linter.unusedSimpArgs false
set_option maxHeartbeats 8000000
set_option maxRecDepth 100000

/-! ### slices_Max_int_int: function 86 -/
def slices_Max_int_int.l0 : Nat → List Int → Int → Int → Option (Int)
 | 0, _, _, _ => none
 | k + 1, x0, x3, x4 => if x4 < (x0.length : Int) then (if 0 ≤ x4 then (slices_Max_int_int.l0 k x0 (mx x3 (rd x0 x4)) (wrap64 (x4 + 1))) else (none)) else (some x3)
def slices_Max_int_int.f (k : Nat) (l0 : List Int) : Option (Int) := if (l0.length : Int) < 1 then (none) else (if 0 < (l0.length : Int) then (slices_Max_int_int.l0 k l0 (rd l0 0) 1) else (none))
theorem slices_Max_int_int.mono_l : ∀ k, (∀ y0 y1 y2, LeO (slices_Max_int_int.l0 k y0 y1 y2) (slices_Max_int_int.l0 (k + 1) y0 y1 y2))
 | 0 => fun _ _ _ r h => by simp [slices_Max_int_int.l0] at h
 | k + 1 => by
  have ih0 := slices_Max_int_int.mono_l k
  ·intro y0 y1 y2
   unfold slices_Max_int_int.l0
   repeat' first | (with_reducible first | exact ih0 _ _ _ | exact lA | apply lI | refine lB ?_ fun _ => ?_) | exact lN _ | apply lI | refine lB ?_ fun _ => ?_
theorem slices_Max_int_int.mono : ∀ a0 k, LeO (slices_Max_int_int.f k a0) (slices_Max_int_int.f (k + 1) a0) := by
 intro a0 k; have ih0 := slices_Max_int_int.mono_l k
 unfold slices_Max_int_int.f
 repeat' first | (with_reducible first | exact ih0 _ _ _ | exact lA | apply lI | refine lB ?_ fun _ => ?_) | exact lN _ | apply lI | refine lB ?_ fun _ => ?_
theorem slices_Max_int_int.calls (k : Nat) (A0 : Option Addr) (c0 : Nat) (A : List Int) (r : Int) (w : World) (U : Kd.C (Kd.int .i64) w A0 A.length A) (V : A.length ≤ c0) (h : slices_Max_int_int.f k A = some r) :
  Calls Try.prog 86 #[.slice A0 A.length c0] w fun e w' => e = .returned (.int .i64 r) ∧ Below w.heap.size w w' := by
 have W := aM U; have am := aM V; clear U V; have HB := aM (Below.refl w.heap.size w); rw [slices_Max_int_int.f] at h; have H := h; clear h
 by_cases N : (A.length : Int) < 1
 ·rw [if_pos N] at H; exact absurd H (by simp)
 ·rw [if_neg N] at H; have af := decide_eq_false N; have ag : decide (A.length < 1) = false := decide_eq_false (by omega); clear N
  by_cases O : 0 < (A.length : Int)
  ·rw [if_pos O] at H; have ah := dT O; have ai : decide (0 < A.length) = true := dT (by omega); clear O; have H' := aM H; clear H; have G : 0 ≤ (0 : Int) := (by omega); have I : 0 < (A.length : Int) := oT aO; obtain ⟨P, Z, D⟩ := Kd.at_int W.out 0 G I; cases Z; have qi255 : (0 < A.length) = True := eq_true (by omega)
   (try rw [show ((0 : Int)).toNat = 0 from rfl] at D)
   (try rw [Addr.add_zero'] at D)
   replace G := eq_true G; replace I := eq_true I
   go_enter Try.func86, Try.ntmps86
   go_wp2
   go_loopg [3, 4] k (fun kq v3 v4 w' => ∃ (B : Int) (z : Int), v3 = .int .i64 B ∧ v4 = .int .i64 z ∧ Aside0 (slices_Max_int_int.l0 kq A B z = some r) ∧ Aside0 (kq ≤ k) ∧ BA w w')
   case atStart => exact ⟨(rd A 0), (1), sI, sI, H', ⟨Nat.le_refl _⟩, bT0 HB⟩
   case round =>
    clear H'
    obtain ⟨B, z, rfl, rfl, HA, HK1, HB⟩ := hrel; cases gk with
    | zero => exact absurd HA.out (by simp [slices_Max_int_int.l0])
    | succ k1 =>
     have H := HA.out; clear HA; simp only [slices_Max_int_int.l0] at H
     by_cases M : z < (A.length : Int)
     ·rw [if_pos M] at H; have aa := dT M; clear M
      by_cases Q : 0 ≤ z
      ·rw [if_pos Q] at H; have al := dT Q; clear Q; obtain ⟨Y, F⟩ : ∃ j_ : Int, (mx B (rd A z)) = j_ := ⟨_, rfl⟩
       first | rw [F] at H | simp only [F] at H
       have ae : (if B < (rd A z) then (rd A z) else B) = Y := F; have H' := aM H; clear H; have J : 0 ≤ (z : Int) := oT aO; have L : z < (A.length : Int) := oT aO; obtain ⟨R, ab, E⟩ := Kd.at_int W.out z J L; have he_ : P = R := (by injection ab); subst he_; replace E := cX HB E; replace J := eq_true J; replace L := eq_true L
       go_wp2
       go_roundg k1
       case measure => have := HK1.out; omega
       case rel => exact ⟨(Y), (wrap64 (z + 1)), (by first | rfl | (simp; done) | (simp only [← F] <;> (first | rfl | simp)) | (simp [*]; done)), sI, H', ⟨by have := HK1.out; omega⟩, bT0 HB⟩
      ·exact nX Q H
     ·rw [if_neg M] at H; have aa := decide_eq_false M; clear M; obtain rfl := Option.some.inj H
      go_wp2
      go_ret
      exact ⟨eW, bO HB.out⟩
  ·exact nX O H

end Go.Proofs.Ythgoonohpfoagaa.X

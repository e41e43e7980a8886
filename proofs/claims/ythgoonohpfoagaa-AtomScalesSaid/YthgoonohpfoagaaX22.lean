/- What the functions of this seat compute, and that the program's calls come to just that: written by this session's own program out of the translation; no condition. -/
import Derived.Test.YthgoonohpfoagaaX0
import Derived.Test.YthgoonohpfoagaaX21
namespace Go.Proofs.Ythgoonohpfoagaa.X
open Go.RowKit Go.Proofs.YthgoonohpfoagaaW.PrintWords Go.Proofs.YthgoonohpfoagaaW.PrintLast Go.Proofs.YthgoonohpfoagaaW.PrintMore
attribute [local go_sem] max2_int min2_int max_two min_two max_three min_three max_four min_four
set_option linter.unusedVariables false
set_option linter.unusedSimpArgs false
set_option maxHeartbeats 8000000
set_option maxRecDepth 100000

/-! ### tabardref12_Frame: function 35 -/
def tabardref12_Frame.f (k : Nat) (l0 : List ByteArray) (a1 : Int) : Option (Bool) := if (l0.length : Int) ≤ 6 then ((tabardref04_Rises.f k l0).bind fun t249 => (if t249 = true then (if a1 ≥ 1 then (some (decide (a1 ≤ 256))) else (none)) else (none))) else (none)
theorem tabardref12_Frame.mono : ∀ a0 a1 k, LeO (tabardref12_Frame.f k a0 a1) (tabardref12_Frame.f (k + 1) a0 a1) := by
 intro a0 a1 k
 unfold tabardref12_Frame.f
 repeat' first | (with_reducible first | exact tabardref04_Rises.mono _ _ | exact lA | apply lI | refine lB ?_ fun _ => ?_) | exact lN _ | apply lI | refine lB ?_ fun _ => ?_
theorem tabardref12_Frame.calls (k : Nat) (L : Option Addr) (M : Nat) (z : List ByteArray) (I : Int) (r : Bool) (w : World) (E : Kd.C Kd.string w L z.length z) (F : z.length ≤ M) (h : tabardref12_Frame.f k z I = some r) :
  Calls Try.prog 35 #[.slice L z.length M, .int .i64 I] w fun e w' => e = .returned (.bool r) ∧ Below w.heap.size w w' := by
 have N := aM E; have O := aM F; clear E F; have HB := aM (Below.refl w.heap.size w); rw [tabardref12_Frame.f] at h; have H := h; clear h
 by_cases A : (z.length : Int) ≤ 6
 ·rw [if_pos A] at H; have P := dT A; have Q : decide (z.length ≤ 6) = true := dT (by omega); clear A; replace H := Option.bind_eq_some_iff.mp H; obtain ⟨J, G, H⟩ := H; have R := aM G; clear G
  by_cases B : J = true
  ·subst B
   rw [if_pos rfl] at H
   by_cases D : I ≥ 1
   ·rw [if_pos D] at H; have U := dT D; clear D; obtain rfl := Option.some.inj H
    go_enter Try.func35, Try.ntmps35
    go_wp2_with (first | (go_at_call 51; (with_reducible refine (tabardref04_Rises.calls k _ _ z true _ ?s1 O.out R.out).mono ?_); (case s1 => exact cO N.out); rintro e V ⟨rfl, hb⟩; replace HB := hS0 HB hb; (try clear hb)))
    go_ret
    exact ⟨eW, bO HB.out⟩
   ·exact nX D H
  ·replace B := Bool.eq_false_iff.mpr B; subst B
   rw [if_neg nF] at H; exact absurd H (by simp)
 ·exact nX A H

end Go.Proofs.Ythgoonohpfoagaa.X

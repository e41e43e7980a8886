/- What the functions of this seat compute, and that the program's calls come to just that: written by this session's own program out of the translation; no condition. -/
import Derived.Test.YtbpeloobnjbgkaaX0
import Derived.Test.YtbpeloobnjbgkaaX23
namespace Go.Proofs.Ytbpeloobnjbgkaa.X
open Go.RowKit Go.Proofs.YtbpeloobnjbgkaaW.PrintWords Go.Proofs.YtbpeloobnjbgkaaW.PrintLast Go.Proofs.YtbpeloobnjbgkaaW.PrintMore
attribute [local go_sem] max2_int min2_int max_two min_two max_three min_three max_four min_four
set_option linter.unusedVariables false
set_option linter.unusedSimpArgs false
set_option maxHeartbeats 8000000
set_option maxRecDepth 100000

/-! ### tabardref12_Frame: function 33 -/
def tabardref12_Frame.f (k : Nat) (l0 : List ByteArray) (a1 : Int) : Option (Bool) := if (l0.length : Int) ≤ 6 then ((tabardref04_Rises.f k l0).bind fun t323 => (if t323 = true then (if a1 ≥ 1 then (some (decide (a1 ≤ 256))) else (some false)) else (some false))) else (some false)
theorem tabardref12_Frame.mono : ∀ a0 a1 k, LeO (tabardref12_Frame.f k a0 a1) (tabardref12_Frame.f (k + 1) a0 a1) := by
 intro a0 a1 k
 unfold tabardref12_Frame.f
 repeat' first | (with_reducible first | exact tabardref04_Rises.mono _ _ | exact lA | apply lI | refine lB ?_ fun _ => ?_) | exact lN _ | apply lI | refine lB ?_ fun _ => ?_
theorem tabardref12_Frame.calls (k : Nat) (R : Option Addr) (U : Nat) (z : List ByteArray) (L : Int) (r : Bool) (w : World) (G : Kd.C Kd.string w R z.length z) (I : z.length ≤ U) (h : tabardref12_Frame.f k z L = some r) :
  Calls Try.prog 33 #[.slice R z.length U, .int .i64 L] w fun e w' => e = .returned (.bool r) ∧ Below w.heap.size w w' := by
 have D := aM G; have E := aM I; clear G I; have HB := aM (Below.refl w.heap.size w); rw [tabardref12_Frame.f] at h; have H := h; clear h
 apply iB H <;> clear H <;> intro A H
 ·have M := dT A; have N : decide (z.length ≤ 6) = true := dT (by omega); clear A; apply bSx H; clear H; intro O P H
  by_cases F : O = true
  ·subst F
   rw [if_pos rfl] at H
   apply iB H <;> clear H <;> intro B H
   ·have Q := dT B; clear B; obtain rfl := Option.some.inj H
    go_enter Try.func33, Try.ntmps33
    go_wp2_with (first | (go_at_call 47; (with_reducible refine (tabardref04_Rises.calls k _ _ z true _ ?s1 E.out P.out).mono ?_); (case s1 => exact cO D.out); rintro e V ⟨rfl, hb⟩; replace HB := hS0 HB hb; (try clear hb)))
    go_ret
    exact ⟨eW, bO HB.out⟩
   ·have Q := decide_eq_false B; clear B; obtain rfl := Option.some.inj H
    go_enter Try.func33, Try.ntmps33
    go_wp2_with (first | (go_at_call 47; (with_reducible refine (tabardref04_Rises.calls k _ _ z true _ ?s1 E.out P.out).mono ?_); (case s1 => exact cO D.out); rintro e W ⟨rfl, hb⟩; replace HB := hS0 HB hb; (try clear hb)))
    go_ret
    exact ⟨eW, bO HB.out⟩
  ·replace F := Bool.eq_false_iff.mpr F; subst F
   rw [if_neg nF] at H; obtain rfl := Option.some.inj H
   go_enter Try.func33, Try.ntmps33
   go_wp2_with (first | (go_at_call 47; (with_reducible refine (tabardref04_Rises.calls k _ _ z false _ ?s1 E.out P.out).mono ?_); (case s1 => exact cO D.out); rintro e Y ⟨rfl, hb⟩; replace HB := hS0 HB hb; (try clear hb)))
   go_ret
   exact ⟨eW, bO HB.out⟩
 ·have M := decide_eq_false A; have N : decide (z.length ≤ 6) = false := decide_eq_false (by omega); clear A; obtain rfl := Option.some.inj H
  go_enter Try.func33, Try.ntmps33
  go_wp2
  go_ret
  exact ⟨eW, bO HB.out⟩

/-! ### tabardref12_Letters: function 34 -/
def tabardref12_Letters.l0 : Nat → Int → Int → Int → Option (Int)
 | 0, _, _, _ => none
 | k + 1, x0, x3, x4 => if x4 < x0 then (tabardref12_Letters.l0 k x0 (wrap64 (x3 * 2)) (wrap64 (x4 + 1))) else (some x3)
def tabardref12_Letters.f (k : Nat) (a0 : Int) : Option (Int) := tabardref12_Letters.l0 k a0 1 0
theorem tabardref12_Letters.mono_l : ∀ k, (∀ y0 y1 y2, LeO (tabardref12_Letters.l0 k y0 y1 y2) (tabardref12_Letters.l0 (k + 1) y0 y1 y2))
 | 0 => fun _ _ _ r h => by simp [tabardref12_Letters.l0] at h
 | k + 1 => by
  have ih0 := tabardref12_Letters.mono_l k
  ·intro y0 y1 y2
   unfold tabardref12_Letters.l0
   repeat' first | (with_reducible first | exact ih0 _ _ _ | exact lA | apply lI | refine lB ?_ fun _ => ?_) | exact lN _ | apply lI | refine lB ?_ fun _ => ?_
theorem tabardref12_Letters.mono : ∀ a0 k, LeO (tabardref12_Letters.f k a0) (tabardref12_Letters.f (k + 1) a0) := by
 intro a0 k; have ih0 := tabardref12_Letters.mono_l k
 unfold tabardref12_Letters.f
 repeat' first | (with_reducible first | exact ih0 _ _ _ | exact lA | apply lI | refine lB ?_ fun _ => ?_) | exact lN _ | apply lI | refine lB ?_ fun _ => ?_
theorem tabardref12_Letters.calls (k : Nat) (D : Int) (r : Int) (w : World) (h : tabardref12_Letters.f k D = some r) :
  Calls Try.prog 34 #[.int .i64 D] w fun e w' => e = .returned (.int .i64 r) ∧ Drawn0 w w' := by
 rw [tabardref12_Letters.f] at h; have H := h; clear h; have Z := aM H; clear H
 go_enter Try.func34, Try.ntmps34
 go_wp2
 go_loopg [3, 4] k (fun kq F G w' => ∃ (A : Int) (z : Int), F = .int .i64 A ∧ G = .int .i64 z ∧ Aside0 (tabardref12_Letters.l0 kq D A z = some r) ∧ Aside0 (kq ≤ k) ∧ Drawn0 w w')
 case atStart => exact ⟨(1), (0), sI, sI, Z, ⟨Nat.le_refl _⟩, dRw⟩
 case round =>
  clear Z; obtain ⟨A, z, rfl, rfl, HA, aa, ⟨m1, rfl⟩⟩ := hrel; cases gk with
  | zero => exact absurd HA.out (by simp [tabardref12_Letters.l0])
  | succ k1 =>
   have H := HA.out; clear HA; simp only [tabardref12_Letters.l0] at H
   apply iB H <;> clear H <;> intro B H
   ·have E := dT B; clear B; have Z := aM H; clear H
    go_wp2
    go_roundg k1
    case measure => have := aa.out; omega
    case rel => exact ⟨(wrap64 (A * 2)), (wrap64 (z + 1)), sI, sI, Z, ⟨by have := aa.out; omega⟩, dRw⟩
   ·have E := decide_eq_false B; clear B; obtain rfl := Option.some.inj H
    go_wp2
    go_ret
    exact ⟨eVl, dRw⟩

end Go.Proofs.Ytbpeloobnjbgkaa.X

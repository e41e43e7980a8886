/- What the functions of this seat compute, and that the program's calls come to just that: written by this session's own program out of the translation; no condition. -/
import Derived.Test.YthgoonohpfoagaaX0
namespace Go.Proofs.Ythgoonohpfoagaa.X
open Go.RowKit Go.Proofs.YthgoonohpfoagaaW.PrintWords Go.Proofs.YthgoonohpfoagaaW.PrintLast Go.Proofs.YthgoonohpfoagaaW.PrintMore
attribute [local go_sem] max2_int min2_int max_two min_two max_three min_three max_four min_four
set_option linter.unusedVariables false
set_option linter.unusedSimpArgs false
set_option maxHeartbeats 8000000
set_option maxRecDepth 100000

/-! ### tabardref12_Letters: function 29 -/
def tabardref12_Letters.l0 : Nat → Int → Int → Int → Option (Int)
 | 0, _, _, _ => none
 | k + 1, x0, x3, x4 => if x4 < x0 then (tabardref12_Letters.l0 k x0 (wrap64 (x3 * 2)) (wrap64 (x4 + 1))) else (some x3)
def tabardref12_Letters.f (k : Nat) (a0 : Int) : Option (Int) := tabardref12_Letters.l0 k a0 1 0
theorem tabardref12_Letters.mono_l : ∀ k, (∀ y0 y1 y2, LeO (tabardref12_Letters.l0 k y0 y1 y2) (tabardref12_Letters.l0 (k + 1) y0 y1 y2))
 | 0 => fun _ _ _ r h => by simp [tabardref12_Letters.l0] at h
 | k + 1 => by
  have ih0 := tabardref12_Letters.mono_l k
  ·intro y0 y1 y2
   unfold tabardref12_Letters.l0
   repeat' first | (with_reducible first | exact ih0 _ _ _ | exact lA | apply lI | refine lB ?_ fun _ => ?_) | exact lN _ | apply lI | refine lB ?_ fun _ => ?_
theorem tabardref12_Letters.mono : ∀ a0 k, LeO (tabardref12_Letters.f k a0) (tabardref12_Letters.f (k + 1) a0) := by
 intro a0 k; have ih0 := tabardref12_Letters.mono_l k
 unfold tabardref12_Letters.f
 repeat' first | (with_reducible first | exact ih0 _ _ _ | exact lA | apply lI | refine lB ?_ fun _ => ?_) | exact lN _ | apply lI | refine lB ?_ fun _ => ?_
theorem tabardref12_Letters.calls (k : Nat) (C : Int) (r : Int) (w : World) (h : tabardref12_Letters.f k C = some r) :
  Calls Try.prog 29 #[.int .i64 C] w fun e w' => e = .returned (.int .i64 r) ∧ Drawn0 w w' := by
 rw [tabardref12_Letters.f] at h; have H := h; clear h; have H' := aM H; clear H
 go_enter Try.func29, Try.ntmps29
 go_wp2
 go_loopg [3, 4] k (fun kq E F w' => ∃ (A : Int) (z : Int), E = .int .i64 A ∧ F = .int .i64 z ∧ Aside0 (tabardref12_Letters.l0 kq C A z = some r) ∧ Aside0 (kq ≤ k) ∧ Drawn0 w w')
 case atStart => exact ⟨(1), (0), sI, sI, H', ⟨Nat.le_refl _⟩, by repeat (first | exact Drawn0.refl _ | apply Drawn0.step)⟩
 case round =>
  clear H'; obtain ⟨A, z, rfl, rfl, HA, HK1, ⟨m1, rfl⟩⟩ := hrel; cases gk with
  | zero => exact absurd HA.out (by simp [tabardref12_Letters.l0])
  | succ k1 =>
   have H := HA.out; clear HA; simp only [tabardref12_Letters.l0] at H
   by_cases B : z < C
   ·rw [if_pos B] at H; have D := dT B; clear B; have H' := aM H; clear H
    go_wp2
    go_roundg k1
    case measure => have := HK1.out; omega
    case rel => exact ⟨(wrap64 (A * 2)), (wrap64 (z + 1)), sI, sI, H', ⟨by have := HK1.out; omega⟩, by repeat (first | exact Drawn0.refl _ | apply Drawn0.step)⟩
   ·rw [if_neg B] at H; have D := decide_eq_false B; clear B; obtain rfl := Option.some.inj H
    go_wp2
    go_ret
    exact ⟨by first | rfl | (simp; done) | (simp [*]; done), by repeat (first | exact Drawn0.refl _ | apply Drawn0.step)⟩

end Go.Proofs.Ythgoonohpfoagaa.X

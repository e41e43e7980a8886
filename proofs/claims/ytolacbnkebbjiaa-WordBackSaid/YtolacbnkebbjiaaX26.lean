/- What the functions of this seat compute, and that the program's calls come to just that: written by this session's own program out of the translation; no condition. -/
import Derived.Test.YtolacbnkebbjiaaX0
namespace Go.Proofs.Ytolacbnkebbjiaa.X
open Go.RowKit Go.Proofs.YtolacbnkebbjiaaW.PrintWords Go.Proofs.YtolacbnkebbjiaaW.PrintLast Go.Proofs.YtolacbnkebbjiaaW.PrintMore
attribute [local go_sem] max2_int min2_int max_two min_two max_three min_three max_four min_four   -- for this text's walks alone
set_option linter.unusedVariables false
set_option linter.unusedSimpArgs false

/-! ### bits_Digit: function 27 -/
def bits_Digit.f (a0 : Int) (a1 : Int) : Option (Int) := if a0 < 0 then (some 0) else (if a1 < 0 then (some 0) else (if a1 > 61 then (some 0) else (if 0 ≤ a1 then (some (Go.bits .and .i64 (shr .i64 a0 a1) 1)) else (none))))
set_option maxHeartbeats 8000000 in
set_option maxRecDepth 100000 in
theorem bits_Digit.calls (a0 : Int) (a1 : Int) (r : Int) (w : World) (h : bits_Digit.f a0 a1 = some r) :
  Calls Try.prog 27 #[.int .i64 a0, .int .i64 a1] w fun e w' => e = .returned (.int .i64 r) ∧ Drawn0 w w' := by
 have H : (if a0 < 0 then (some 0) else (if a1 < 0 then (some 0) else (if a1 > 61 then (some 0) else (if 0 ≤ a1 then (some (Go.bits .and .i64 (shr .i64 a0 a1) 1)) else (none))))) = some r := h
 clear h
 by_cases c3 : a0 < 0
 ·rw [if_pos c3] at H
  have c3b0 : decide (a0 < 0) = true := decide_eq_true c3
  clear c3
  obtain rfl := Option.some.inj H
  go_enter Try.func27, Try.ntmps27
  go_wp2
  go_ret
  exact ⟨by first | rfl | (simp; done) | (simp [*]; done), by repeat (first | exact Drawn0.refl _ | apply Drawn0.step)⟩
 ·rw [if_neg c3] at H
  have c3b0 : decide (a0 < 0) = false := decide_eq_false c3
  clear c3
  by_cases c4 : a1 < 0
  ·rw [if_pos c4] at H
   have c4b0 : decide (a1 < 0) = true := decide_eq_true c4
   clear c4
   obtain rfl := Option.some.inj H
   go_enter Try.func27, Try.ntmps27
   go_wp2
   go_ret
   exact ⟨by first | rfl | (simp; done) | (simp [*]; done), by repeat (first | exact Drawn0.refl _ | apply Drawn0.step)⟩
  ·rw [if_neg c4] at H
   have c4b0 : decide (a1 < 0) = false := decide_eq_false c4
   clear c4
   by_cases c5 : a1 > 61
   ·rw [if_pos c5] at H
    have c5b0 : decide (61 < a1) = true := decide_eq_true c5
    clear c5
    obtain rfl := Option.some.inj H
    go_enter Try.func27, Try.ntmps27
    go_wp2
    go_ret
    exact ⟨by first | rfl | (simp; done) | (simp [*]; done), by repeat (first | exact Drawn0.refl _ | apply Drawn0.step)⟩
   ·rw [if_neg c5] at H
    have c5b0 : decide (61 < a1) = false := decide_eq_false c5
    clear c5
    by_cases c6 : 0 ≤ a1
    ·rw [if_pos c6] at H
     have c6b0 := eq_true c6
     have c6b1 : decide (0 ≤ a1) = true := decide_eq_true c6
     clear c6
     obtain ⟨ji7, hji7⟩ : ∃ j_ : Int, (shr .i64 a0 a1) = j_ := ⟨_, rfl⟩
     replace H : (some (Go.bits .and .i64 (ji7) 1)) = some r := by first | (rw [hji7] at H; exact H) | (simp only [hji7] at H ⊢; exact H)
     have hji7_ : (a0 / 2 ^ min a1.toNat 64) = ji7 := hji7
     have hji7z : a1 ≤ 64 → (a0 / 2 ^ a1.toNat) = ji7 := shr_small hji7
     obtain rfl := Option.some.inj H
     go_enter Try.func27, Try.ntmps27
     go_wp2
     go_ret
     exact ⟨by first | rfl | (simp; done) | (simp only [← hji7] <;> (first | rfl | simp)) | (simp [*]; done), by repeat (first | exact Drawn0.refl _ | apply Drawn0.step)⟩
    ·rw [if_neg c6] at H
     exact absurd H (by simp)

end Go.Proofs.Ytolacbnkebbjiaa.X

/- What the functions of this seat compute, and that the program's calls come to just that: written by this session's own program out of the translation; no condition. -/
import Derived.Test.YtpekanolhgcljaaX0
namespace Go.Proofs.Ytpekanolhgcljaa.X
open Go.RowKit Go.Proofs.YtpekanolhgcljaaW.PrintWords Go.Proofs.YtpekanolhgcljaaW.PrintLast Go.Proofs.YtpekanolhgcljaaW.PrintMore
attribute [local go_sem] max2_int min2_int max_two min_two max_three min_three max_four min_four   -- for this text's walks alone
set_option linter.unusedVariables false
set_option linter.unusedSimpArgs false

/-! ### bits_letters: function 27 -/
def bits_letters.f (a0 : Int) (a1 : Int) : Option (Bool) := if a0 ≥ 0 then (if 0 ≤ a1 then (some (decide (a0 < (shl .i64 1 a1)))) else (none)) else (some false)
set_option maxHeartbeats 8000000 in
set_option maxRecDepth 100000 in
theorem bits_letters.calls (a0 : Int) (a1 : Int) (r : Bool) (w : World) (h : bits_letters.f a0 a1 = some r) :
  Calls Try.prog 27 #[.int .i64 a0, .int .i64 a1] w fun e w' => e = .returned (.bool r) ∧ Drawn0 w w' := by
 have H : (if a0 ≥ 0 then (if 0 ≤ a1 then (some (decide (a0 < (shl .i64 1 a1)))) else (none)) else (some false)) = some r := h
 clear h
 by_cases c3 : a0 ≥ 0
 ·rw [if_pos c3] at H
  have c3b0 : decide (0 ≤ a0) = true := decide_eq_true c3
  clear c3
  by_cases c4 : 0 ≤ a1
  ·rw [if_pos c4] at H
   have c4b0 := eq_true c4
   have c4b1 : decide (0 ≤ a1) = true := decide_eq_true c4
   clear c4
   obtain ⟨ji5, hji5⟩ : ∃ j_ : Int, (shl .i64 1 a1) = j_ := ⟨_, rfl⟩
   replace H : (some (decide (a0 < (ji5)))) = some r := by first | (rw [hji5] at H; exact H) | (simp only [hji5] at H ⊢; exact H)
   have hji5_ : (IntKind.i64.wrap (1 * 2 ^ min a1.toNat 64)) = ji5 := hji5
   have hji5z : a1 ≤ 64 → (IntKind.i64.wrap (1 * 2 ^ a1.toNat)) = ji5 := shl_small hji5
   have hji5u : (IntKind.i64.wrap (2 ^ min a1.toNat 64)) = ji5 := by have h_ := hji5_; rw [Int.one_mul] at h_; exact h_
   have hji5v : a1 ≤ 64 → (IntKind.i64.wrap (2 ^ a1.toNat)) = ji5 := fun hle_ => by have h_ := hji5z hle_; rw [Int.one_mul] at h_; exact h_
   have hji5y : (wrap64 (1 * 2 ^ min a1.toNat 64)) = ji5 := (i64_w _).symm.trans hji5_
   have hji5x : a1 ≤ 64 → (wrap64 (1 * 2 ^ a1.toNat)) = ji5 := fun h_ => (i64_w _).symm.trans (hji5z h_)
   obtain rfl := Option.some.inj H
   go_enter Try.func27, Try.ntmps27
   go_wp2
   go_ret
   exact ⟨by first | rfl | (simp; done) | (simp only [← hji5] <;> (first | rfl | simp)) | (simp [*]; done), by repeat (first | exact Drawn0.refl _ | apply Drawn0.step)⟩
  ·rw [if_neg c4] at H
   exact absurd H (by simp)
 ·rw [if_neg c3] at H
  have c3b0 : decide (0 ≤ a0) = false := decide_eq_false c3
  clear c3
  obtain rfl := Option.some.inj H
  go_enter Try.func27, Try.ntmps27
  go_wp2
  go_ret
  exact ⟨by first | rfl | (simp; done) | (simp [*]; done), by repeat (first | exact Drawn0.refl _ | apply Drawn0.step)⟩

/-! ### bits_Insert: function 7 -/
def bits_Insert.f (a0 : Int) (a1 : Int) (a2 : Int) : Option (Int × Int) := (bits_letters.f a0 5).bind fun t101 => (if t101 = true then (if a1 < 0 then (some (0, 2)) else (if a1 ≥ 6 then (some (0, 2)) else (if a2 = 0 then (if 0 ≤ a1 then (some (Go.bits .or .i64 (Go.bits .or .i64 (wrap64 ((wrap64 (a0 - (Go.bits .and .i64 a0 (wrap64 ((shl .i64 1 a1) - 1))))) * 2)) (shl .i64 a2 a1)) (Go.bits .and .i64 a0 (wrap64 ((shl .i64 1 a1) - 1))), 0)) else (none)) else (if a2 = 1 then (if 0 ≤ a1 then (some (Go.bits .or .i64 (Go.bits .or .i64 (wrap64 ((wrap64 (a0 - (Go.bits .and .i64 a0 (wrap64 ((shl .i64 1 a1) - 1))))) * 2)) (shl .i64 a2 a1)) (Go.bits .and .i64 a0 (wrap64 ((shl .i64 1 a1) - 1))), 0)) else (none)) else (some (0, 2)))))) else (some (0, 2)))
set_option maxHeartbeats 8000000 in
set_option maxRecDepth 100000 in
theorem bits_Insert.calls (a0 : Int) (a1 : Int) (a2 : Int) (r1 : Int) (r2 : Int) (w : World) (h : bits_Insert.f a0 a1 a2 = some (r1, r2)) :
  Calls Try.prog 7 #[.int .i64 a0, .int .i64 a1, .int .i64 a2] w fun e w' => e = .returned (.tuple #[.int .i64 r1, .int .i64 r2]) ∧ Drawn0 w w' := by
 have H : ((bits_letters.f a0 5).bind fun t101 => (if t101 = true then (if a1 < 0 then (some (0, 2)) else (if a1 ≥ 6 then (some (0, 2)) else (if a2 = 0 then (if 0 ≤ a1 then (some (Go.bits .or .i64 (Go.bits .or .i64 (wrap64 ((wrap64 (a0 - (Go.bits .and .i64 a0 (wrap64 ((shl .i64 1 a1) - 1))))) * 2)) (shl .i64 a2 a1)) (Go.bits .and .i64 a0 (wrap64 ((shl .i64 1 a1) - 1))), 0)) else (none)) else (if a2 = 1 then (if 0 ≤ a1 then (some (Go.bits .or .i64 (Go.bits .or .i64 (wrap64 ((wrap64 (a0 - (Go.bits .and .i64 a0 (wrap64 ((shl .i64 1 a1) - 1))))) * 2)) (shl .i64 a2 a1)) (Go.bits .and .i64 a0 (wrap64 ((shl .i64 1 a1) - 1))), 0)) else (none)) else (some (0, 2)))))) else (some (0, 2)))) = some (r1, r2) := h
 clear h
 replace H := Option.bind_eq_some_iff.mp H
 obtain ⟨t101, A40, H⟩ := H
 replace H : (if t101 = true then (if a1 < 0 then (some (0, 2)) else (if a1 ≥ 6 then (some (0, 2)) else (if a2 = 0 then (if 0 ≤ a1 then (some (Go.bits .or .i64 (Go.bits .or .i64 (wrap64 ((wrap64 (a0 - (Go.bits .and .i64 a0 (wrap64 ((shl .i64 1 a1) - 1))))) * 2)) (shl .i64 a2 a1)) (Go.bits .and .i64 a0 (wrap64 ((shl .i64 1 a1) - 1))), 0)) else (none)) else (if a2 = 1 then (if 0 ≤ a1 then (some (Go.bits .or .i64 (Go.bits .or .i64 (wrap64 ((wrap64 (a0 - (Go.bits .and .i64 a0 (wrap64 ((shl .i64 1 a1) - 1))))) * 2)) (shl .i64 a2 a1)) (Go.bits .and .i64 a0 (wrap64 ((shl .i64 1 a1) - 1))), 0)) else (none)) else (some (0, 2)))))) else (some (0, 2))) = some (r1, r2) := H
 have A4 := Aside0.mk A40
 clear A40
 by_cases c5 : t101 = true
 ·subst c5
  have H1 : (if a1 < 0 then (some (0, 2)) else (if a1 ≥ 6 then (some (0, 2)) else (if a2 = 0 then (if 0 ≤ a1 then (some (Go.bits .or .i64 (Go.bits .or .i64 (wrap64 ((wrap64 (a0 - (Go.bits .and .i64 a0 (wrap64 ((shl .i64 1 a1) - 1))))) * 2)) (shl .i64 a2 a1)) (Go.bits .and .i64 a0 (wrap64 ((shl .i64 1 a1) - 1))), 0)) else (none)) else (if a2 = 1 then (if 0 ≤ a1 then (some (Go.bits .or .i64 (Go.bits .or .i64 (wrap64 ((wrap64 (a0 - (Go.bits .and .i64 a0 (wrap64 ((shl .i64 1 a1) - 1))))) * 2)) (shl .i64 a2 a1)) (Go.bits .and .i64 a0 (wrap64 ((shl .i64 1 a1) - 1))), 0)) else (none)) else (some (0, 2)))))) = some (r1, r2) := by rw [if_pos rfl] at H; exact H
  clear H
  have H := H1
  clear H1
  by_cases c6 : a1 < 0
  ·rw [if_pos c6] at H
   have c6b0 : decide (a1 < 0) = true := decide_eq_true c6
   clear c6
   simp only [Option.some.injEq, Prod.mk.injEq] at H
   obtain ⟨rfl, rfl⟩ := H
   go_enter Try.func7, Try.ntmps7
   go_wp2_with (first | ((with_reducible refine gate_callee (f := 27) rfl ?_); refine goesL_ (some 10) rfl rfl Try.func27 (by kernel_rfl) rfl #[.int .i64 a0, .int .i64 5] rfl mO ?_; (with_reducible refine (bits_letters.calls a0 5 true _ A4.out).mono ?_); rintro e w' ⟨rfl, ⟨nd, rfl⟩⟩; refine ⟨_, rfl, ?_⟩))
   go_ret2
   exact ⟨by first | rfl | (simp; done) | (simp [*]; done), by repeat (first | exact Drawn0.refl _ | apply Drawn0.step)⟩
  ·rw [if_neg c6] at H
   have c6b0 : decide (a1 < 0) = false := decide_eq_false c6
   clear c6
   by_cases c7 : a1 ≥ 6
   ·rw [if_pos c7] at H
    have c7b0 : decide (6 ≤ a1) = true := decide_eq_true c7
    clear c7
    simp only [Option.some.injEq, Prod.mk.injEq] at H
    obtain ⟨rfl, rfl⟩ := H
    go_enter Try.func7, Try.ntmps7
    go_wp2_with (first | ((with_reducible refine gate_callee (f := 27) rfl ?_); refine goesL_ (some 10) rfl rfl Try.func27 (by kernel_rfl) rfl #[.int .i64 a0, .int .i64 5] rfl mO ?_; (with_reducible refine (bits_letters.calls a0 5 true _ A4.out).mono ?_); rintro e w' ⟨rfl, ⟨nd, rfl⟩⟩; refine ⟨_, rfl, ?_⟩))
    go_ret2
    exact ⟨by first | rfl | (simp; done) | (simp [*]; done), by repeat (first | exact Drawn0.refl _ | apply Drawn0.step)⟩
   ·rw [if_neg c7] at H
    have c7b0 : decide (6 ≤ a1) = false := decide_eq_false c7
    clear c7
    by_cases c8 : a2 = 0
    ·rw [if_pos c8] at H
     have c8b0 : (a2 == 0) = true := beq_iff_eq.mpr c8
     have c8b1 : (a2 != 0) = false := bne_eq_false_iff_eq.mpr c8
     clear c8
     by_cases c9 : 0 ≤ a1
     ·rw [if_pos c9] at H
      have c9b0 := eq_true c9
      have c9b1 : decide (0 ≤ a1) = true := decide_eq_true c9
      clear c9
      obtain ⟨ji10, hji10⟩ : ∃ j_ : Int, (shl .i64 1 a1) = j_ := ⟨_, rfl⟩
      replace H : (some (Go.bits .or .i64 (Go.bits .or .i64 (wrap64 ((wrap64 (a0 - (Go.bits .and .i64 a0 (wrap64 ((ji10) - 1))))) * 2)) (shl .i64 a2 a1)) (Go.bits .and .i64 a0 (wrap64 ((ji10) - 1))), 0)) = some (r1, r2) := by first | (rw [hji10] at H; exact H) | (simp only [hji10] at H ⊢; exact H)
      (try rw [hji10] at A4)
      have hji10_ : (IntKind.i64.wrap (1 * 2 ^ min a1.toNat 64)) = ji10 := hji10
      have hji10z : a1 ≤ 64 → (IntKind.i64.wrap (1 * 2 ^ a1.toNat)) = ji10 := shl_small hji10
      have hji10u : (IntKind.i64.wrap (2 ^ min a1.toNat 64)) = ji10 := by have h_ := hji10_; rw [Int.one_mul] at h_; exact h_
      have hji10v : a1 ≤ 64 → (IntKind.i64.wrap (2 ^ a1.toNat)) = ji10 := fun hle_ => by have h_ := hji10z hle_; rw [Int.one_mul] at h_; exact h_
      have hji10y : (wrap64 (1 * 2 ^ min a1.toNat 64)) = ji10 := (i64_w _).symm.trans hji10_
      have hji10x : a1 ≤ 64 → (wrap64 (1 * 2 ^ a1.toNat)) = ji10 := fun h_ => (i64_w _).symm.trans (hji10z h_)
      have c11b0 := eq_true (of_decide_eq_true aO : 0 ≤ a1)
      obtain ⟨ji12, hji12⟩ : ∃ j_ : Int, (shl .i64 a2 a1) = j_ := ⟨_, rfl⟩
      replace H : (some (Go.bits .or .i64 (Go.bits .or .i64 (wrap64 ((wrap64 (a0 - (Go.bits .and .i64 a0 (wrap64 ((ji10) - 1))))) * 2)) (ji12)) (Go.bits .and .i64 a0 (wrap64 ((ji10) - 1))), 0)) = some (r1, r2) := by first | (rw [hji12] at H; exact H) | (simp only [hji12] at H ⊢; exact H)
      (try rw [hji12] at A4)
      have hji12_ : (IntKind.i64.wrap (a2 * 2 ^ min a1.toNat 64)) = ji12 := hji12
      have hji12z : a1 ≤ 64 → (IntKind.i64.wrap (a2 * 2 ^ a1.toNat)) = ji12 := shl_small hji12
      have hji12y : (wrap64 (a2 * 2 ^ min a1.toNat 64)) = ji12 := (i64_w _).symm.trans hji12_
      have hji12x : a1 ≤ 64 → (wrap64 (a2 * 2 ^ a1.toNat)) = ji12 := fun h_ => (i64_w _).symm.trans (hji12z h_)
      simp only [Option.some.injEq, Prod.mk.injEq] at H
      obtain ⟨rfl, rfl⟩ := H
      go_enter Try.func7, Try.ntmps7
      go_wp2_with (first | ((with_reducible refine gate_callee (f := 27) rfl ?_); refine goesL_ (some 10) rfl rfl Try.func27 (by kernel_rfl) rfl #[.int .i64 a0, .int .i64 5] rfl mO ?_; (with_reducible refine (bits_letters.calls a0 5 true _ A4.out).mono ?_); rintro e w' ⟨rfl, ⟨nd, rfl⟩⟩; refine ⟨_, rfl, ?_⟩))
      go_ret2
      exact ⟨by first | rfl | (simp; done) | (simp only [← hji10, ← hji12] <;> (first | rfl | simp)) | (simp [*]; done), by repeat (first | exact Drawn0.refl _ | apply Drawn0.step)⟩
     ·rw [if_neg c9] at H
      exact absurd H (by simp)
    ·rw [if_neg c8] at H
     have c8b0 : (a2 == 0) = false := beq_eq_false_iff_ne.mpr c8
     have c8b1 : (a2 != 0) = true := bne_iff_ne.mpr c8
     by_cases c13 : a2 = 1
     ·rw [if_pos c13] at H
      have c13b0 : (a2 == 1) = true := beq_iff_eq.mpr c13
      have c13b1 : (a2 != 1) = false := bne_eq_false_iff_eq.mpr c13
      clear c13
      by_cases c14 : 0 ≤ a1
      ·rw [if_pos c14] at H
       have c14b0 := eq_true c14
       have c14b1 : decide (0 ≤ a1) = true := decide_eq_true c14
       clear c14
       obtain ⟨ji15, hji15⟩ : ∃ j_ : Int, (shl .i64 1 a1) = j_ := ⟨_, rfl⟩
       replace H : (some (Go.bits .or .i64 (Go.bits .or .i64 (wrap64 ((wrap64 (a0 - (Go.bits .and .i64 a0 (wrap64 ((ji15) - 1))))) * 2)) (shl .i64 a2 a1)) (Go.bits .and .i64 a0 (wrap64 ((ji15) - 1))), 0)) = some (r1, r2) := by first | (rw [hji15] at H; exact H) | (simp only [hji15] at H ⊢; exact H)
       (try rw [hji15] at A4)
       have hji15_ : (IntKind.i64.wrap (1 * 2 ^ min a1.toNat 64)) = ji15 := hji15
       have hji15z : a1 ≤ 64 → (IntKind.i64.wrap (1 * 2 ^ a1.toNat)) = ji15 := shl_small hji15
       have hji15u : (IntKind.i64.wrap (2 ^ min a1.toNat 64)) = ji15 := by have h_ := hji15_; rw [Int.one_mul] at h_; exact h_
       have hji15v : a1 ≤ 64 → (IntKind.i64.wrap (2 ^ a1.toNat)) = ji15 := fun hle_ => by have h_ := hji15z hle_; rw [Int.one_mul] at h_; exact h_
       have hji15y : (wrap64 (1 * 2 ^ min a1.toNat 64)) = ji15 := (i64_w _).symm.trans hji15_
       have hji15x : a1 ≤ 64 → (wrap64 (1 * 2 ^ a1.toNat)) = ji15 := fun h_ => (i64_w _).symm.trans (hji15z h_)
       have c16b0 := eq_true (of_decide_eq_true aO : 0 ≤ a1)
       obtain ⟨ji17, hji17⟩ : ∃ j_ : Int, (shl .i64 a2 a1) = j_ := ⟨_, rfl⟩
       replace H : (some (Go.bits .or .i64 (Go.bits .or .i64 (wrap64 ((wrap64 (a0 - (Go.bits .and .i64 a0 (wrap64 ((ji15) - 1))))) * 2)) (ji17)) (Go.bits .and .i64 a0 (wrap64 ((ji15) - 1))), 0)) = some (r1, r2) := by first | (rw [hji17] at H; exact H) | (simp only [hji17] at H ⊢; exact H)
       (try rw [hji17] at A4)
       have hji17_ : (IntKind.i64.wrap (a2 * 2 ^ min a1.toNat 64)) = ji17 := hji17
       have hji17z : a1 ≤ 64 → (IntKind.i64.wrap (a2 * 2 ^ a1.toNat)) = ji17 := shl_small hji17
       have hji17y : (wrap64 (a2 * 2 ^ min a1.toNat 64)) = ji17 := (i64_w _).symm.trans hji17_
       have hji17x : a1 ≤ 64 → (wrap64 (a2 * 2 ^ a1.toNat)) = ji17 := fun h_ => (i64_w _).symm.trans (hji17z h_)
       simp only [Option.some.injEq, Prod.mk.injEq] at H
       obtain ⟨rfl, rfl⟩ := H
       go_enter Try.func7, Try.ntmps7
       go_wp2_with (first | ((with_reducible refine gate_callee (f := 27) rfl ?_); refine goesL_ (some 10) rfl rfl Try.func27 (by kernel_rfl) rfl #[.int .i64 a0, .int .i64 5] rfl mO ?_; (with_reducible refine (bits_letters.calls a0 5 true _ A4.out).mono ?_); rintro e w' ⟨rfl, ⟨nd, rfl⟩⟩; refine ⟨_, rfl, ?_⟩))
       go_ret2
       exact ⟨by first | rfl | (simp; done) | (simp only [← hji15, ← hji17] <;> (first | rfl | simp)) | (simp [*]; done), by repeat (first | exact Drawn0.refl _ | apply Drawn0.step)⟩
      ·rw [if_neg c14] at H
       exact absurd H (by simp)
     ·rw [if_neg c13] at H
      have c13b0 : (a2 == 1) = false := beq_eq_false_iff_ne.mpr c13
      have c13b1 : (a2 != 1) = true := bne_iff_ne.mpr c13
      simp only [Option.some.injEq, Prod.mk.injEq] at H
      obtain ⟨rfl, rfl⟩ := H
      go_enter Try.func7, Try.ntmps7
      go_wp2_with (first | ((with_reducible refine gate_callee (f := 27) rfl ?_); refine goesL_ (some 10) rfl rfl Try.func27 (by kernel_rfl) rfl #[.int .i64 a0, .int .i64 5] rfl mO ?_; (with_reducible refine (bits_letters.calls a0 5 true _ A4.out).mono ?_); rintro e w' ⟨rfl, ⟨nd, rfl⟩⟩; refine ⟨_, rfl, ?_⟩))
      go_ret2
      exact ⟨by first | rfl | (simp; done) | (simp [*]; done), by repeat (first | exact Drawn0.refl _ | apply Drawn0.step)⟩
 ·replace c5 := Bool.eq_false_iff.mpr c5
  subst c5
  have H1 : (some (0, 2)) = some (r1, r2) := by rw [if_neg (show ¬ (false = true) by decide)] at H; exact H
  clear H
  have H := H1
  clear H1
  simp only [Option.some.injEq, Prod.mk.injEq] at H
  obtain ⟨rfl, rfl⟩ := H
  go_enter Try.func7, Try.ntmps7
  go_wp2_with (first | ((with_reducible refine gate_callee (f := 27) rfl ?_); refine goesL_ (some 10) rfl rfl Try.func27 (by kernel_rfl) rfl #[.int .i64 a0, .int .i64 5] rfl mO ?_; (with_reducible refine (bits_letters.calls a0 5 false _ A4.out).mono ?_); rintro e w' ⟨rfl, ⟨nd, rfl⟩⟩; refine ⟨_, rfl, ?_⟩))
  go_ret2
  exact ⟨by first | rfl | (simp; done) | (simp [*]; done), by repeat (first | exact Drawn0.refl _ | apply Drawn0.step)⟩

/-! ### tabardref02_below: function 28 -/
def tabardref02_below.f (a0 : Int) (a1 : Int) : Option (Bool) := if a0 ≥ 0 then (some (decide (a0 < a1))) else (some false)
set_option maxHeartbeats 8000000 in
set_option maxRecDepth 100000 in
theorem tabardref02_below.calls (a0 : Int) (a1 : Int) (r : Bool) (w : World) (h : tabardref02_below.f a0 a1 = some r) :
  Calls Try.prog 28 #[.int .i64 a0, .int .i64 a1] w fun e w' => e = .returned (.bool r) ∧ Drawn0 w w' := by
 have H : (if a0 ≥ 0 then (some (decide (a0 < a1))) else (some false)) = some r := h
 clear h
 by_cases c3 : a0 ≥ 0
 ·rw [if_pos c3] at H
  have c3b0 : decide (0 ≤ a0) = true := decide_eq_true c3
  clear c3
  obtain rfl := Option.some.inj H
  go_enter Try.func28, Try.ntmps28
  go_wp2
  go_ret
  exact ⟨by first | rfl | (simp; done) | (simp [*]; done), by repeat (first | exact Drawn0.refl _ | apply Drawn0.step)⟩
 ·rw [if_neg c3] at H
  have c3b0 : decide (0 ≤ a0) = false := decide_eq_false c3
  clear c3
  obtain rfl := Option.some.inj H
  go_enter Try.func28, Try.ntmps28
  go_wp2
  go_ret
  exact ⟨by first | rfl | (simp; done) | (simp [*]; done), by repeat (first | exact Drawn0.refl _ | apply Drawn0.step)⟩

/-! ### tabardref02_Digits: function 29 -/
def tabardref02_Digits.l0 : Nat → Int → Int → List Int → Int → Option (List Int)
 | 0, _, _, _, _ => none
 | k + 1, x0, x1, x5, x6 => if x6 < x1 then (if x5.length < 17592186044416 then (tabardref02_Digits.l0 k (wrap64 (Int.tdiv x0 2)) x1 (x5 ++ [Int.tmod x0 2]) (wrap64 (x6 + 1))) else (none)) else (some x5)
def tabardref02_Digits.f (k : Nat) (a0 : Int) (a1 : Int) : Option (List Int) := tabardref02_Digits.l0 k a0 a1 ([] : List Int) 0
theorem tabardref02_Digits.mono_l : ∀ k, (∀ y0 y1 y2 y3, LeO (tabardref02_Digits.l0 k y0 y1 y2 y3) (tabardref02_Digits.l0 (k + 1) y0 y1 y2 y3))
 | 0 => fun _ _ _ _ r h => by simp [tabardref02_Digits.l0] at h
 | k + 1 => by
  have ih0 := tabardref02_Digits.mono_l k
  ·intro y0 y1 y2 y3
   unfold tabardref02_Digits.l0
   repeat' first
   | (with_reducible exact ih0 _ _ _ _)
   | (with_reducible exact LeO.refl _)
   | (with_reducible exact LeO.none _)
   | (with_reducible refine LeO.ite ?_ ?_)
   | (with_reducible refine LeO.bind ?_ (fun _ => ?_))
   | exact ih0 _ _ _ _
   | exact LeO.none _
   | refine LeO.ite ?_ ?_
   | refine LeO.bind ?_ (fun _ => ?_)
theorem tabardref02_Digits.mono : ∀ a0 a1 k, LeO (tabardref02_Digits.f k a0 a1) (tabardref02_Digits.f (k + 1) a0 a1) := by
 intro a0 a1 k
 have ih0 := tabardref02_Digits.mono_l k
 unfold tabardref02_Digits.f
 repeat' first
   | (with_reducible exact ih0 _ _ _ _)
   | (with_reducible exact LeO.refl _)
   | (with_reducible exact LeO.none _)
   | (with_reducible refine LeO.ite ?_ ?_)
   | (with_reducible refine LeO.bind ?_ (fun _ => ?_))
   | exact ih0 _ _ _ _
   | exact LeO.none _
   | refine LeO.ite ?_ ?_
   | refine LeO.bind ?_ (fun _ => ?_)
set_option maxHeartbeats 8000000 in
set_option maxRecDepth 100000 in
theorem tabardref02_Digits.calls (k : Nat) (a0 : Int) (a1 : Int) (r : List Int) (w : World) (h : tabardref02_Digits.f k a0 a1 = some r) :
  Calls Try.prog 29 #[.int .i64 a0, .int .i64 a1] w fun e w' => ∃ v0_ : Value, e = .returned (v0_) ∧ Kd.R (Kd.int .i64) 3 w' w.heap.size (fun _ => True) v0_ r ∧ Below w.heap.size w w' := by
 have HB := Aside0.mk (Below.refl w.heap.size w)
 have H : (tabardref02_Digits.l0 k a0 a1 ([] : List Int) 0) = some r := h
 clear h
 have H' := Aside0.mk H
 clear H
 go_enter Try.func29, Try.ntmps29
 go_wp2
 go_loopg [0, 5, 6] k (fun kq v0 v5 v6 w' => ∃ (x0_1 : Int) (x5_1 : List Int) (x6_1 : Int), v0 = .int .i64 x0_1 ∧ v6 = .int .i64 x6_1 ∧ Aside0 (tabardref02_Digits.l0 kq x0_1 a1 x5_1 x6_1 = some r) ∧ Aside0 (kq ≤ k) ∧ Aside0 (Kd.R (Kd.int .i64) 3 w' w.heap.size (fun _ => True) v5 x5_1) ∧ Aside0 (Below w.heap.size w w'))
 case atStart => exact ⟨(a0), (([] : List Int)), (0), (by first | rfl | (simp; done) | (simp [*]; done)), (by first | rfl | (simp; done) | (simp [*]; done)), H', ⟨Nat.le_refl _⟩, ⟨by first | exact Kd.R_nil _ _ _ _ _ | exact Kd.N_nil _ _ _ _ _ | exact Kd.V_nil _ _ _ _ _ | exact Kd.Q_nil _ _ _ _ _ | exact Kd.S_nil _ _ _ _ _⟩, ⟨bO HB.out⟩⟩
 case round =>
  clear H'
  try clear c2
  try clear p2
  obtain ⟨x0_1, x5_1, x6_1, rfl, rfl, HA, HK1, HO_5, HB⟩ := hrel
  cases gk with
  | zero => exact absurd HA.out (by simp [tabardref02_Digits.l0])
  | succ k1 =>
   have H := HA.out
   clear HA
   simp only [tabardref02_Digits.l0] at H
   by_cases c3 : x6_1 < a1
   ·rw [if_pos c3] at H
    have c3b0 : decide (x6_1 < a1) = true := decide_eq_true c3
    clear c3
    by_cases c4 : x5_1.length < 17592186044416
    ·rw [if_pos c4] at H
     have LMc4 := Aside0.mk c4
     clear c4
     obtain ⟨y102, hy102⟩ : ∃ y_ : List Int, y_ = (x5_1 ++ [Int.tmod x0_1 2]) := ⟨_, rfl⟩
     replace H : (tabardref02_Digits.l0 k1 (wrap64 (Int.tdiv x0_1 2)) a1 y102 (wrap64 (x6_1 + 1))) = some r := by first | (rw [hy102]; with_reducible exact H) | (have H2_ := (Option.bind_some _ _).symm.trans H; rw [hy102]; with_reducible exact H2_) | (have H2_ := (Option.bind_some _ _).symm.trans H; with_reducible exact H2_) | with_reducible exact H | (rw [hy102]; exact H) | exact H
     have Ny102 := Aside0.mk hy102
     clear hy102
     have H' := Aside0.mk H
     clear H
     go_wp2_with (first | ((with_reducible refine gate_builtin (b := .append) (xs := #[.tmp 12, .tmp 15]) rfl ?_); at_builtin; refine Kd.R_append (Kd.int .i64) (w0 := w) w.heap.size rfl (.tmp 12) (.tmp 15) 32 3 (.int .i64 0) 8 rfl Try.underlying32 info3 rfl (by decide) (by omega) u5 x5_1 (Int.tmod x0_1 2) [.int .i64 (Int.tmod x0_1 2)] (fun _ => True) (fun _ => False) rfl rfl ?aP (fun _ hk => hk.elim) ?aF ?aO ?aB ?aS ?aL ?_; (case aP => exact rfl); (case aB => exact (bO HB.out)); (case aF => exact (fun _ _ => trivial)); (case aO => exact (rO HO_5.out)); (case aS => exact (below_size (bO HB.out))); (case aL => have := LMc4.out; omega); intro v103 w5 ho hb hg hat; rw [← Ny102.out] at ho; have n0_ := Aside0.mk (hb); have n1_ := Aside0.mk (ho); clear HB; clear HO_5; have HB := n0_; have HO104 := n1_; clear n0_ n1_; clear ho hb hg hat))
     go_roundg k1
     case measure => have := HK1.out; omega
     case rel => exact ⟨(wrap64 (Int.tdiv x0_1 2)), (y102), (wrap64 (x6_1 + 1)), (by first | rfl | (simp; done) | (simp [*]; done)), (by first | rfl | (simp; done) | (simp [*]; done)), H', ⟨by have := HK1.out; omega⟩, ⟨rO HO104.out⟩, ⟨bO HB.out⟩⟩
    ·rw [if_neg c4] at H
     exact absurd H (by simp)
   ·rw [if_neg c3] at H
    have c3b0 : decide (x6_1 < a1) = false := decide_eq_false c3
    clear c3
    obtain rfl := Option.some.inj H
    go_wp2
    go_ret
    exact ⟨_, by first | rfl | (simp [errW_none, errW_some] <;> rfl) | (simp [*, errW_none, errW_some] <;> rfl), rO HO_5.out, bO HB.out⟩

end Go.Proofs.Ytpekanolhgcljaa.X

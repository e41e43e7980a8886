/- What the functions of this seat compute, and that the program's calls come to just that: written by this session's own program out of the translation; no condition. -/
import Derived.Test.YtpekanolhgcljaaX0
import Derived.Test.YtpekanolhgcljaaX1
import Derived.Test.YtpekanolhgcljaaX2
namespace Go.Proofs.Ytpekanolhgcljaa.X
open Go.RowKit Go.Proofs.YtpekanolhgcljaaW.PrintWords Go.Proofs.YtpekanolhgcljaaW.PrintLast Go.Proofs.YtpekanolhgcljaaW.PrintMore
attribute [local go_sem] max2_int min2_int max_two min_two max_three min_three max_four min_four   -- for this text's walks alone
set_option linter.unusedVariables false
set_option linter.unusedSimpArgs false

/-! ### bits_Remove: function 9 -/
def bits_Remove.f (a0 : Int) (a1 : Int) : Option (Int × Int) := (bits_letters.f a0 6).bind fun t133 => (if t133 = true then (if a1 < 0 then (some (0, 2)) else (if a1 ≥ 6 then (some (0, 2)) else (if 0 ≤ a1 then (if 0 ≤ (wrap64 (a1 + 1)) then (some (Go.bits .or .i64 (shl .i64 (shr .i64 a0 (wrap64 (a1 + 1))) a1) (Go.bits .and .i64 a0 (wrap64 ((shl .i64 1 a1) - 1))), 0)) else (none)) else (none)))) else (some (0, 2)))
set_option maxHeartbeats 8000000 in
set_option maxRecDepth 100000 in
theorem bits_Remove.calls (a0 : Int) (a1 : Int) (r1 : Int) (r2 : Int) (w : World) (h : bits_Remove.f a0 a1 = some (r1, r2)) :
  Calls Try.prog 9 #[.int .i64 a0, .int .i64 a1] w fun e w' => e = .returned (.tuple #[.int .i64 r1, .int .i64 r2]) ∧ Drawn0 w w' := by
 have H : ((bits_letters.f a0 6).bind fun t133 => (if t133 = true then (if a1 < 0 then (some (0, 2)) else (if a1 ≥ 6 then (some (0, 2)) else (if 0 ≤ a1 then (if 0 ≤ (wrap64 (a1 + 1)) then (some (Go.bits .or .i64 (shl .i64 (shr .i64 a0 (wrap64 (a1 + 1))) a1) (Go.bits .and .i64 a0 (wrap64 ((shl .i64 1 a1) - 1))), 0)) else (none)) else (none)))) else (some (0, 2)))) = some (r1, r2) := h
 clear h
 replace H := Option.bind_eq_some_iff.mp H
 obtain ⟨t133, A30, H⟩ := H
 replace H : (if t133 = true then (if a1 < 0 then (some (0, 2)) else (if a1 ≥ 6 then (some (0, 2)) else (if 0 ≤ a1 then (if 0 ≤ (wrap64 (a1 + 1)) then (some (Go.bits .or .i64 (shl .i64 (shr .i64 a0 (wrap64 (a1 + 1))) a1) (Go.bits .and .i64 a0 (wrap64 ((shl .i64 1 a1) - 1))), 0)) else (none)) else (none)))) else (some (0, 2))) = some (r1, r2) := H
 have A3 := Aside0.mk A30
 clear A30
 by_cases c4 : t133 = true
 ·subst c4
  have H1 : (if a1 < 0 then (some (0, 2)) else (if a1 ≥ 6 then (some (0, 2)) else (if 0 ≤ a1 then (if 0 ≤ (wrap64 (a1 + 1)) then (some (Go.bits .or .i64 (shl .i64 (shr .i64 a0 (wrap64 (a1 + 1))) a1) (Go.bits .and .i64 a0 (wrap64 ((shl .i64 1 a1) - 1))), 0)) else (none)) else (none)))) = some (r1, r2) := by rw [if_pos rfl] at H; exact H
  clear H
  have H := H1
  clear H1
  by_cases c5 : a1 < 0
  ·rw [if_pos c5] at H
   have c5b0 : decide (a1 < 0) = true := decide_eq_true c5
   clear c5
   simp only [Option.some.injEq, Prod.mk.injEq] at H
   obtain ⟨rfl, rfl⟩ := H
   go_enter Try.func9, Try.ntmps9
   go_wp2_with (first | ((with_reducible refine gate_callee (f := 27) rfl ?_); refine goesL_ (some 8) rfl rfl Try.func27 (by kernel_rfl) rfl #[.int .i64 a0, .int .i64 6] rfl mO ?_; (with_reducible refine (bits_letters.calls a0 6 true _ A3.out).mono ?_); rintro e w' ⟨rfl, ⟨nd, rfl⟩⟩; refine ⟨_, rfl, ?_⟩))
   go_ret2
   exact ⟨by first | rfl | (simp; done) | (simp [*]; done), by repeat (first | exact Drawn0.refl _ | apply Drawn0.step)⟩
  ·rw [if_neg c5] at H
   have c5b0 : decide (a1 < 0) = false := decide_eq_false c5
   clear c5
   by_cases c6 : a1 ≥ 6
   ·rw [if_pos c6] at H
    have c6b0 : decide (6 ≤ a1) = true := decide_eq_true c6
    clear c6
    simp only [Option.some.injEq, Prod.mk.injEq] at H
    obtain ⟨rfl, rfl⟩ := H
    go_enter Try.func9, Try.ntmps9
    go_wp2_with (first | ((with_reducible refine gate_callee (f := 27) rfl ?_); refine goesL_ (some 8) rfl rfl Try.func27 (by kernel_rfl) rfl #[.int .i64 a0, .int .i64 6] rfl mO ?_; (with_reducible refine (bits_letters.calls a0 6 true _ A3.out).mono ?_); rintro e w' ⟨rfl, ⟨nd, rfl⟩⟩; refine ⟨_, rfl, ?_⟩))
    go_ret2
    exact ⟨by first | rfl | (simp; done) | (simp [*]; done), by repeat (first | exact Drawn0.refl _ | apply Drawn0.step)⟩
   ·rw [if_neg c6] at H
    have c6b0 : decide (6 ≤ a1) = false := decide_eq_false c6
    clear c6
    by_cases c7 : 0 ≤ a1
    ·rw [if_pos c7] at H
     have c7b0 := eq_true c7
     have c7b1 : decide (0 ≤ a1) = true := decide_eq_true c7
     clear c7
     obtain ⟨ji8, hji8⟩ : ∃ j_ : Int, (shl .i64 1 a1) = j_ := ⟨_, rfl⟩
     replace H : (if 0 ≤ (wrap64 (a1 + 1)) then (some (Go.bits .or .i64 (shl .i64 (shr .i64 a0 (wrap64 (a1 + 1))) a1) (Go.bits .and .i64 a0 (wrap64 ((ji8) - 1))), 0)) else (none)) = some (r1, r2) := by first | (rw [hji8] at H; exact H) | (simp only [hji8] at H ⊢; exact H)
     (try rw [hji8] at A3)
     have hji8_ : (IntKind.i64.wrap (1 * 2 ^ min a1.toNat 64)) = ji8 := hji8
     have hji8z : a1 ≤ 64 → (IntKind.i64.wrap (1 * 2 ^ a1.toNat)) = ji8 := shl_small hji8
     have hji8u : (IntKind.i64.wrap (2 ^ min a1.toNat 64)) = ji8 := by have h_ := hji8_; rw [Int.one_mul] at h_; exact h_
     have hji8v : a1 ≤ 64 → (IntKind.i64.wrap (2 ^ a1.toNat)) = ji8 := fun hle_ => by have h_ := hji8z hle_; rw [Int.one_mul] at h_; exact h_
     have hji8y : (wrap64 (1 * 2 ^ min a1.toNat 64)) = ji8 := (i64_w _).symm.trans hji8_
     have hji8x : a1 ≤ 64 → (wrap64 (1 * 2 ^ a1.toNat)) = ji8 := fun h_ => (i64_w _).symm.trans (hji8z h_)
     obtain ⟨ji9, hji9⟩ : ∃ j_ : Int, (wrap64 (a1 + 1)) = j_ := ⟨_, rfl⟩
     replace H : (if 0 ≤ (ji9) then (some (Go.bits .or .i64 (shl .i64 (shr .i64 a0 (ji9)) a1) (Go.bits .and .i64 a0 (wrap64 ((ji8) - 1))), 0)) else (none)) = some (r1, r2) := by first | (rw [hji9] at H; exact H) | (simp only [hji9] at H ⊢; exact H)
     (try rw [hji9] at A3)
     have hji9w : (IntKind.i64.wrap (a1 + 1)) = ji9 := (i64_w _).trans hji9
     by_cases c10 : 0 ≤ (ji9)
     ·rw [if_pos c10] at H
      have c10b0 := eq_true c10
      have c10b1 : decide (0 ≤ (ji9)) = true := decide_eq_true c10
      clear c10
      obtain ⟨ji11, hji11⟩ : ∃ j_ : Int, (shr .i64 a0 (ji9)) = j_ := ⟨_, rfl⟩
      replace H : (some (Go.bits .or .i64 (shl .i64 (ji11) a1) (Go.bits .and .i64 a0 (wrap64 ((ji8) - 1))), 0)) = some (r1, r2) := by first | (rw [hji11] at H; exact H) | (simp only [hji11] at H ⊢; exact H)
      (try rw [hji11] at A3)
      have hji11_ : (a0 / 2 ^ min (ji9).toNat 64) = ji11 := hji11
      have hji11z : (ji9) ≤ 64 → (a0 / 2 ^ (ji9).toNat) = ji11 := shr_small hji11
      have c12b0 := eq_true (of_decide_eq_true aO : 0 ≤ a1)
      obtain ⟨ji13, hji13⟩ : ∃ j_ : Int, (shl .i64 (ji11) a1) = j_ := ⟨_, rfl⟩
      replace H : (some (Go.bits .or .i64 (ji13) (Go.bits .and .i64 a0 (wrap64 ((ji8) - 1))), 0)) = some (r1, r2) := by first | (rw [hji13] at H; exact H) | (simp only [hji13] at H ⊢; exact H)
      (try rw [hji13] at A3)
      have hji13_ : (IntKind.i64.wrap ((ji11) * 2 ^ min a1.toNat 64)) = ji13 := hji13
      have hji13z : a1 ≤ 64 → (IntKind.i64.wrap ((ji11) * 2 ^ a1.toNat)) = ji13 := shl_small hji13
      have hji13y : (wrap64 ((ji11) * 2 ^ min a1.toNat 64)) = ji13 := (i64_w _).symm.trans hji13_
      have hji13x : a1 ≤ 64 → (wrap64 ((ji11) * 2 ^ a1.toNat)) = ji13 := fun h_ => (i64_w _).symm.trans (hji13z h_)
      simp only [Option.some.injEq, Prod.mk.injEq] at H
      obtain ⟨rfl, rfl⟩ := H
      go_enter Try.func9, Try.ntmps9
      go_wp2_with (first | ((with_reducible refine gate_callee (f := 27) rfl ?_); refine goesL_ (some 8) rfl rfl Try.func27 (by kernel_rfl) rfl #[.int .i64 a0, .int .i64 6] rfl mO ?_; (with_reducible refine (bits_letters.calls a0 6 true _ A3.out).mono ?_); rintro e w' ⟨rfl, ⟨nd, rfl⟩⟩; refine ⟨_, rfl, ?_⟩))
      go_ret2
      exact ⟨by first | rfl | (simp; done) | (simp only [← hji8, ← hji9, ← hji11, ← hji13] <;> (first | rfl | simp)) | (simp [*]; done), by repeat (first | exact Drawn0.refl _ | apply Drawn0.step)⟩
     ·rw [if_neg c10] at H
      exact absurd H (by simp)
    ·rw [if_neg c7] at H
     exact absurd H (by simp)
 ·replace c4 := Bool.eq_false_iff.mpr c4
  subst c4
  have H1 : (some (0, 2)) = some (r1, r2) := by rw [if_neg (show ¬ (false = true) by decide)] at H; exact H
  clear H
  have H := H1
  clear H1
  simp only [Option.some.injEq, Prod.mk.injEq] at H
  obtain ⟨rfl, rfl⟩ := H
  go_enter Try.func9, Try.ntmps9
  go_wp2_with (first | ((with_reducible refine gate_callee (f := 27) rfl ?_); refine goesL_ (some 8) rfl rfl Try.func27 (by kernel_rfl) rfl #[.int .i64 a0, .int .i64 6] rfl mO ?_; (with_reducible refine (bits_letters.calls a0 6 false _ A3.out).mono ?_); rintro e w' ⟨rfl, ⟨nd, rfl⟩⟩; refine ⟨_, rfl, ?_⟩))
  go_ret2
  exact ⟨by first | rfl | (simp; done) | (simp [*]; done), by repeat (first | exact Drawn0.refl _ | apply Drawn0.step)⟩

/-! ### tabardref02_Remove: function 10 -/
def tabardref02_Remove.j0 : Nat → Int → Int → Bool → Option (Int × Int)
 | 0, _, _, _ => none
 | k + 1, x0, x1, x15 => if x15 = true then (some (0, 2)) else ((tabardref02_Digits.f k x0 6).bind fun t136 => ((some (([] : List Int) : List Int)).bind fun y139 => (if 0 ≤ x1 then (if x1 ≤ (t136.length : Int) then ((some (t136.take (x1 : Int).toNat : List Int)).bind fun y142 => (if y139.length + y142.length < 17592186044416 then ((some (y139 ++ y142 : List Int)).bind fun y146 => (if 0 ≤ (wrap64 (x1 + 1)) then (if (wrap64 (x1 + 1)) ≤ (t136.length : Int) then ((some (t136.drop ((wrap64 (x1 + 1)) : Int).toNat : List Int)).bind fun y149 => (if y146.length + y149.length < 17592186044416 then ((tabardref02_Letter.f k (y146 ++ y149)).bind fun t156 => (some (t156, 0))) else (none))) else (none)) else (none))) else (none))) else (none)) else (none))))
def tabardref02_Remove.f (k : Nat) (a0 : Int) (a1 : Int) : Option (Int × Int) := (tabardref02_below.f a0 64).bind fun t134 => (if t134 = true then ((tabardref02_below.f a1 6).bind fun t135 => (tabardref02_Remove.j0 k a0 a1 (!t135))) else (tabardref02_Remove.j0 k a0 a1 true))
theorem tabardref02_Remove.mono_l : ∀ k, (∀ y0 y1 y2, LeO (tabardref02_Remove.j0 k y0 y1 y2) (tabardref02_Remove.j0 (k + 1) y0 y1 y2))
 | 0 => fun _ _ _ r h => by simp [tabardref02_Remove.j0] at h
 | k + 1 => by
  have ih0 := tabardref02_Remove.mono_l k
  ·intro y0 y1 y2
   unfold tabardref02_Remove.j0
   repeat' first
   | (with_reducible exact ih0 _ _ _)
   | (with_reducible exact tabardref02_Digits.mono _ _ _)
   | (with_reducible exact tabardref02_Letter.mono _ _)
   | (with_reducible exact LeO.refl _)
   | (with_reducible exact LeO.none _)
   | (with_reducible refine LeO.ite ?_ ?_)
   | (with_reducible refine LeO.bind ?_ (fun _ => ?_))
   | exact ih0 _ _ _
   | exact tabardref02_Digits.mono _ _ _
   | exact tabardref02_Letter.mono _ _
   | exact LeO.none _
   | refine LeO.ite ?_ ?_
   | refine LeO.bind ?_ (fun _ => ?_)
theorem tabardref02_Remove.mono : ∀ a0 a1 k, LeO (tabardref02_Remove.f k a0 a1) (tabardref02_Remove.f (k + 1) a0 a1) := by
 intro a0 a1 k
 have ih0 := tabardref02_Remove.mono_l k
 unfold tabardref02_Remove.f
 repeat' first
   | (with_reducible exact ih0 _ _ _)
   | (with_reducible exact tabardref02_Digits.mono _ _ _)
   | (with_reducible exact tabardref02_Letter.mono _ _)
   | (with_reducible exact LeO.refl _)
   | (with_reducible exact LeO.none _)
   | (with_reducible refine LeO.ite ?_ ?_)
   | (with_reducible refine LeO.bind ?_ (fun _ => ?_))
   | exact ih0 _ _ _
   | exact tabardref02_Digits.mono _ _ _
   | exact tabardref02_Letter.mono _ _
   | exact LeO.none _
   | refine LeO.ite ?_ ?_
   | refine LeO.bind ?_ (fun _ => ?_)
set_option maxHeartbeats 8000000 in
set_option maxRecDepth 100000 in
theorem tabardref02_Remove.calls (k : Nat) (a0 : Int) (a1 : Int) (r1 : Int) (r2 : Int) (w : World) (h : tabardref02_Remove.f k a0 a1 = some (r1, r2)) :
  Calls Try.prog 10 #[.int .i64 a0, .int .i64 a1] w fun e w' => e = .returned (.tuple #[.int .i64 r1, .int .i64 r2]) ∧ Below w.heap.size w w' := by
 have HB := Aside0.mk (Below.refl w.heap.size w)
 have H : ((tabardref02_below.f a0 64).bind fun t134 => (if t134 = true then ((tabardref02_below.f a1 6).bind fun t135 => (tabardref02_Remove.j0 k a0 a1 (!t135))) else (tabardref02_Remove.j0 k a0 a1 true))) = some (r1, r2) := h
 clear h
 have HC3 := Aside0.mk H
 clear H
 go_enter Try.func10, Try.ntmps10
 go_upto_region 1 with (fail)
 go_cut [15] (fun v15 wc => ∃ (kq : Nat) (x15_2 : Bool), v15 = .bool x15_2 ∧ Aside0 (tabardref02_Remove.j0 kq a0 a1 x15_2 = some (r1, r2)) ∧ Aside0 (kq ≤ k) ∧ Aside0 (Below w.heap.size w wc))
 case first =>
  have H := HC3.out
  clear HC3
  replace H := Option.bind_eq_some_iff.mp H
  obtain ⟨t134, A40, H⟩ := H
  replace H : (if t134 = true then ((tabardref02_below.f a1 6).bind fun t135 => (tabardref02_Remove.j0 k a0 a1 (!t135))) else (tabardref02_Remove.j0 k a0 a1 true)) = some (r1, r2) := H
  have A4 := Aside0.mk A40
  clear A40
  by_cases c5 : t134 = true
  ·subst c5
   have H1 : ((tabardref02_below.f a1 6).bind fun t135 => (tabardref02_Remove.j0 k a0 a1 (!t135))) = some (r1, r2) := by rw [if_pos rfl] at H; exact H
   clear H
   have H := H1
   clear H1
   replace H := Option.bind_eq_some_iff.mp H
   obtain ⟨t135, A60, H⟩ := H
   replace H : (tabardref02_Remove.j0 k a0 a1 (!t135)) = some (r1, r2) := H
   have A6 := Aside0.mk A60
   clear A60
   have H' := Aside0.mk H
   clear H
   go_wp2_with (first | ((with_reducible refine gate_callee (f := 28) rfl ?_); refine goesL_ (some 9) rfl rfl Try.func28 (by kernel_rfl) rfl #[.int .i64 a0, .int .i64 64] rfl mO ?_; (with_reducible refine (tabardref02_below.calls a0 64 true _ A4.out).mono ?_); rintro e w' ⟨rfl, ⟨nd, rfl⟩⟩; refine ⟨_, rfl, ?_⟩) | (go_at_call 28; (with_reducible refine (tabardref02_below.calls a1 6 t135 _ A6.out).mono ?_); rintro e w' ⟨rfl, ⟨nd, rfl⟩⟩))
   go_meet
   case rel => exact ⟨_, (!t135), (by first | rfl | (simp; done) | (simp [*]; done)), H', ⟨by first | omega | exact Nat.le_refl _⟩, ⟨bO HB.out⟩⟩
  ·replace c5 := Bool.eq_false_iff.mpr c5
   subst c5
   have H1 : (tabardref02_Remove.j0 k a0 a1 true) = some (r1, r2) := by rw [if_neg (show ¬ (false = true) by decide)] at H; exact H
   clear H
   have H := H1
   clear H1
   have H' := Aside0.mk H
   clear H
   go_wp2_with (first | ((with_reducible refine gate_callee (f := 28) rfl ?_); refine goesL_ (some 9) rfl rfl Try.func28 (by kernel_rfl) rfl #[.int .i64 a0, .int .i64 64] rfl mO ?_; (with_reducible refine (tabardref02_below.calls a0 64 false _ A4.out).mono ?_); rintro e w' ⟨rfl, ⟨nd, rfl⟩⟩; refine ⟨_, rfl, ?_⟩))
   go_meet
   case rel => exact ⟨_, (true), (by first | rfl | (simp; done) | (simp [*]; done)), H', ⟨by first | omega | exact Nat.le_refl _⟩, ⟨bO HB.out⟩⟩
 case rest =>
  clear HC3
  try clear c1
  try clear c2
  try clear p2
  try clear c5
  obtain ⟨kq, x15_2, rfl, HA, HJ2, HB⟩ := hcut
  cases kq with
  | zero => exact absurd HA.out (by simp [tabardref02_Remove.j0])
  | succ kj2 =>
   have H := HA.out
   clear HA
   simp only [tabardref02_Remove.j0] at H
   by_cases c7 : x15_2 = true
   ·subst c7
    have H1 : (some (0, 2)) = some (r1, r2) := by rw [if_pos rfl] at H; exact H
    clear H
    have H := H1
    clear H1
    simp only [Option.some.injEq, Prod.mk.injEq] at H
    obtain ⟨rfl, rfl⟩ := H
    go_wp2
    go_ret2
    exact ⟨by first | rfl | (simp [errW_none, errW_some] <;> rfl) | (simp [*, errW_none, errW_some] <;> rfl), bO HB.out⟩
   ·replace c7 := Bool.eq_false_iff.mpr c7
    subst c7
    have H1 : ((tabardref02_Digits.f kj2 a0 6).bind fun t136 => ((some (([] : List Int) : List Int)).bind fun y139 => (if 0 ≤ a1 then (if a1 ≤ (t136.length : Int) then ((some (t136.take (a1 : Int).toNat : List Int)).bind fun y142 => (if y139.length + y142.length < 17592186044416 then ((some (y139 ++ y142 : List Int)).bind fun y146 => (if 0 ≤ (wrap64 (a1 + 1)) then (if (wrap64 (a1 + 1)) ≤ (t136.length : Int) then ((some (t136.drop ((wrap64 (a1 + 1)) : Int).toNat : List Int)).bind fun y149 => (if y146.length + y149.length < 17592186044416 then ((tabardref02_Letter.f kj2 (y146 ++ y149)).bind fun t156 => (some (t156, 0))) else (none))) else (none)) else (none))) else (none))) else (none)) else (none)))) = some (r1, r2) := by rw [if_neg (show ¬ (false = true) by decide)] at H; exact H
    clear H
    have H := H1
    clear H1
    replace H := Option.bind_eq_some_iff.mp H
    obtain ⟨t136, A80, H⟩ := H
    replace H : ((some (([] : List Int) : List Int)).bind fun y139 => (if 0 ≤ a1 then (if a1 ≤ (t136.length : Int) then ((some (t136.take (a1 : Int).toNat : List Int)).bind fun y142 => (if y139.length + y142.length < 17592186044416 then ((some (y139 ++ y142 : List Int)).bind fun y146 => (if 0 ≤ (wrap64 (a1 + 1)) then (if (wrap64 (a1 + 1)) ≤ (t136.length : Int) then ((some (t136.drop ((wrap64 (a1 + 1)) : Int).toNat : List Int)).bind fun y149 => (if y146.length + y149.length < 17592186044416 then ((tabardref02_Letter.f kj2 (y146 ++ y149)).bind fun t156 => (some (t156, 0))) else (none))) else (none)) else (none))) else (none))) else (none)) else (none))) = some (r1, r2) := H
    have A8 := Aside0.mk A80
    clear A80
    obtain ⟨y139, hy139⟩ : ∃ y_ : List Int, y_ = (([] : List Int)) := ⟨_, rfl⟩
    replace H : (if 0 ≤ a1 then (if a1 ≤ (t136.length : Int) then ((some (t136.take (a1 : Int).toNat : List Int)).bind fun y142 => (if y139.length + y142.length < 17592186044416 then ((some (y139 ++ y142 : List Int)).bind fun y146 => (if 0 ≤ (wrap64 (a1 + 1)) then (if (wrap64 (a1 + 1)) ≤ (t136.length : Int) then ((some (t136.drop ((wrap64 (a1 + 1)) : Int).toNat : List Int)).bind fun y149 => (if y146.length + y149.length < 17592186044416 then ((tabardref02_Letter.f kj2 (y146 ++ y149)).bind fun t156 => (some (t156, 0))) else (none))) else (none)) else (none))) else (none))) else (none)) else (none)) = some (r1, r2) := by first | (rw [hy139]; with_reducible exact H) | (have H2_ := (Option.bind_some _ _).symm.trans H; rw [hy139]; with_reducible exact H2_) | (have H2_ := (Option.bind_some _ _).symm.trans H; with_reducible exact H2_) | with_reducible exact H | (rw [hy139]; exact H) | exact H
    have Ny139 := Aside0.mk hy139
    clear hy139
    by_cases c9 : 0 ≤ a1
    ·rw [if_pos c9] at H
     have c9b0 := eq_true c9
     have c9b1 : decide (0 ≤ a1) = true := decide_eq_true c9
     clear c9
     by_cases c10 : a1 ≤ (t136.length : Int)
     ·rw [if_pos c10] at H
      have c10b0 := eq_true c10
      have c10b1 : decide (a1 ≤ (t136.length : Int)) = true := decide_eq_true c10
      clear c10
      obtain ⟨y142, hy142⟩ : ∃ y_ : List Int, y_ = (t136.take (a1 : Int).toNat) := ⟨_, rfl⟩
      replace H : (if y139.length + y142.length < 17592186044416 then ((some (y139 ++ y142 : List Int)).bind fun y146 => (if 0 ≤ (wrap64 (a1 + 1)) then (if (wrap64 (a1 + 1)) ≤ (t136.length : Int) then ((some (t136.drop ((wrap64 (a1 + 1)) : Int).toNat : List Int)).bind fun y149 => (if y146.length + y149.length < 17592186044416 then ((tabardref02_Letter.f kj2 (y146 ++ y149)).bind fun t156 => (some (t156, 0))) else (none))) else (none)) else (none))) else (none)) = some (r1, r2) := by first | (rw [hy142]; with_reducible exact H) | (have H2_ := (Option.bind_some _ _).symm.trans H; rw [hy142]; with_reducible exact H2_) | (have H2_ := (Option.bind_some _ _).symm.trans H; with_reducible exact H2_) | with_reducible exact H | (rw [hy142]; exact H) | exact H
      have Ny142 := Aside0.mk hy142
      clear hy142
      by_cases c11 : y139.length + y142.length < 17592186044416
      ·rw [if_pos c11] at H
       have LMc11 := Aside0.mk c11
       clear c11
       obtain ⟨y146, hy146⟩ : ∃ y_ : List Int, y_ = (y139 ++ y142) := ⟨_, rfl⟩
       replace H : (if 0 ≤ (wrap64 (a1 + 1)) then (if (wrap64 (a1 + 1)) ≤ (t136.length : Int) then ((some (t136.drop ((wrap64 (a1 + 1)) : Int).toNat : List Int)).bind fun y149 => (if y146.length + y149.length < 17592186044416 then ((tabardref02_Letter.f kj2 (y146 ++ y149)).bind fun t156 => (some (t156, 0))) else (none))) else (none)) else (none)) = some (r1, r2) := by first | (rw [hy146]; with_reducible exact H) | (have H2_ := (Option.bind_some _ _).symm.trans H; rw [hy146]; with_reducible exact H2_) | (have H2_ := (Option.bind_some _ _).symm.trans H; with_reducible exact H2_) | with_reducible exact H | (rw [hy146]; exact H) | exact H
       have Ny146 := Aside0.mk hy146
       clear hy146
       obtain ⟨ji12, hji12⟩ : ∃ j_ : Int, (wrap64 (a1 + 1)) = j_ := ⟨_, rfl⟩
       replace H : (if 0 ≤ (ji12) then (if (ji12) ≤ (t136.length : Int) then ((some (t136.drop ((ji12) : Int).toNat : List Int)).bind fun y149 => (if y146.length + y149.length < 17592186044416 then ((tabardref02_Letter.f kj2 (y146 ++ y149)).bind fun t156 => (some (t156, 0))) else (none))) else (none)) else (none)) = some (r1, r2) := by first | (rw [hji12] at H; exact H) | (simp only [hji12] at H ⊢; exact H)
       (try rw [hji12] at A8)
       have hji12w : (IntKind.i64.wrap (a1 + 1)) = ji12 := (i64_w _).trans hji12
       by_cases c13 : 0 ≤ (ji12)
       ·rw [if_pos c13] at H
        have c13b0 := eq_true c13
        have c13b1 : decide (0 ≤ (ji12)) = true := decide_eq_true c13
        clear c13
        by_cases c14 : (ji12) ≤ (t136.length : Int)
        ·rw [if_pos c14] at H
         have c14b0 := eq_true c14
         have c14b1 : decide ((ji12) ≤ (t136.length : Int)) = true := decide_eq_true c14
         clear c14
         obtain ⟨y149, hy149⟩ : ∃ y_ : List Int, y_ = (t136.drop ((ji12) : Int).toNat) := ⟨_, rfl⟩
         replace H : (if y146.length + y149.length < 17592186044416 then ((tabardref02_Letter.f kj2 (y146 ++ y149)).bind fun t156 => (some (t156, 0))) else (none)) = some (r1, r2) := by first | (rw [hy149]; with_reducible exact H) | (have H2_ := (Option.bind_some _ _).symm.trans H; rw [hy149]; with_reducible exact H2_) | (have H2_ := (Option.bind_some _ _).symm.trans H; with_reducible exact H2_) | with_reducible exact H | (rw [hy149]; exact H) | exact H
         have Ny149 := Aside0.mk hy149
         clear hy149
         by_cases c15 : y146.length + y149.length < 17592186044416
         ·rw [if_pos c15] at H
          have LMc15 := Aside0.mk c15
          clear c15
          obtain ⟨y153, hy153⟩ : ∃ y_ : List Int, y_ = (y146 ++ y149) := ⟨_, rfl⟩
          replace H : ((tabardref02_Letter.f kj2 y153).bind fun t156 => (some (t156, 0))) = some (r1, r2) := by first | (rw [hy153]; with_reducible exact H) | (have H2_ := (Option.bind_some _ _).symm.trans H; rw [hy153]; with_reducible exact H2_) | (have H2_ := (Option.bind_some _ _).symm.trans H; with_reducible exact H2_) | with_reducible exact H | (rw [hy153]; exact H) | exact H
          have Ny153 := Aside0.mk hy153
          clear hy153
          replace H := Option.bind_eq_some_iff.mp H
          obtain ⟨t156, A160, H⟩ := H
          replace H : (some (t156, 0)) = some (r1, r2) := H
          have A16 := Aside0.mk A160
          clear A160
          simp only [Option.some.injEq, Prod.mk.injEq] at H
          obtain ⟨rfl, rfl⟩ := H
          go_wp2_with (first | ((with_reducible refine gate_callee (f := 29) rfl ?_); refine goesL_ (some 17) rfl rfl Try.func29 (by kernel_rfl) rfl #[.int .i64 a0, .int .i64 6] rfl mO ?_; (with_reducible refine (tabardref02_Digits.calls kj2 a0 6 t136 _ A8.out).mono ?_); rintro e w17 ⟨v137, rfl, ho0, hb⟩; refine ⟨_, rfl, ?_⟩; have n0_ := Aside0.mk (Kd.R_lower ho0 (below_size (bO HB.out))); have n1_ := Aside0.mk (below_step (bO HB.out) hb); clear HB; have HO138 := n0_; have HB := n1_; clear n0_ n1_; (try clear hb); (try clear hb2); (try clear hk); (try clear hi); (try clear ho0)) | ((with_reducible refine gate_dst (N := 18) rfl ?_); refine Kd.R_lit (Kd.int .i64) _ 3 ?hg (N := 18) ?hd (xs := ([] : List Int)) (inner := []) (ok := fun _ => True) (okp := fun _ => True) ?hr ?hp (fun _ hk => hk) trivial (Below.refl _ _) (Nat.le_refl _) (by simp) ?_; (case hd => rfl); (case hg => rfl); (case hr => first | (go_simp; done) | (go_simp; rfl)); (case hp => exact (Reps.none _ _)); intro v140 w18 ho19 hb hg_ hnew_; clear hg_ hnew_; (first | rw [← Ny139.out] at ho19 | (simp only [Int.reduceToNat] at ho19; rw [← Ny139.out] at ho19)); have n0_ := Aside0.mk (Kd.R_elder' (rO HO138.out) (Kd.R_base ho19) hb); have n1_ := Aside0.mk (Kd.R_lower (Kd.R_new' ho19 (Kd.R_lt (rO HO138.out))) (below_size (bO HB.out))); have n2_ := Aside0.mk (below_step (bO HB.out) hb); clear HO138; clear HB; have HO138 := n0_; have HO141 := n1_; have HB := n2_; clear n0_ n1_ n2_; clear hb ho19; obtain ⟨Ao21, co21, eo21⟩ := Kd.R_slice HO138.out; subst eo21; have q20 : (a1 : Int) ≤ ((t136.length : Int) : Int) := of_decide_eq_true aO; obtain ⟨i020, hi020, _, hsz20, _⟩ := info_parts info3; have hroom20 : t136.length ≤ co21 := (Kd.R_reads' HO138.out).2.1; have hC20 : Kd.C (Kd.int .i64) _ Ao21 t136.length t136 := (Kd.R_reads' HO138.out).2.2; have hcut20 := cut_to (P := Try.prog) 32 3 .i64 Try.underlying32 hi020 Ao21 t136.length co21 a1 (of_decide_eq_true aO) q20 hroom20; have hr20 := Kd.C_take (m := (a1 : Int).toNat) hC20 (by omega); have hy20 : y142.length = (a1 : Int).toNat := (by rw [Ny142.out, List.length_take]; omega); rw [← Ny142.out] at hr20; rw [← hy20] at hcut20; have HR145 := Aside0.mk hr20; have HC145 := Aside0.mk (show y142.length ≤ co21 from by omega); clear hr20 hC20 hroom20 hi020 hsz20; have KY20 := Aside0.mk hy20; clear hy20; have KL20 := Aside0.mk (show (a1 : Int).toNat ≤ t136.length from by omega); replace q20 := eq_true q20) | ((with_reducible refine gate_builtin (b := .append) (xs := #[.tmp 18, .tmp 21]) rfl ?_); at_builtin; refine Kd.R_append_rows (Kd.int .i64) (w0 := w) w.heap.size rfl (.tmp 18) (.tmp 21) 32 3 (.int .i64 0) 8 rfl Try.underlying32 info3 rfl (by decide) (by omega) v140 y139 y142 _ _ _ (fun k_ => some k_ ≠ (.slice Ao21 t136.length co21 : Value).ownBlock) (fun _ => False) rfl rfl ?aO ?aR (fun _ _ h => h) (fun _ h => h.elim) ?aF ?aB ?aS ?aL ?_; (case aR => repeat (first | exact (by repeat (first | (with_reducible exact HR145.out) | (with_reducible refine Kd.C_alloc ?_ _) | (with_reducible refine Kd.C_drewN ?_ _) | (with_reducible refine Kd.C_drew ?_) | exact HR145.out)) | (with_reducible refine Kd.C_alloc ?_ _) | (with_reducible refine Kd.C_drewN ?_ _) | (with_reducible refine Kd.C_drew ?_))); (case aB => exact (bO HB.out)); (case aF => exact (fun k_ hk => Kd.fresh' (Kd.R_lt (rO HO138.out)) k_ hk)); (case aO => exact (by (with_reducible repeat (first | apply Kd.R_alloc | apply Kd.R_drewN | apply Kd.R_drew)); exact Kd.R_mono HO141.out (fun _ hk => hk.2))); (case aS => exact (below_size (bO HB.out))); (case aL => have := LMc11.out; omega); intro v147 w22 ho hb hg hat; rw [← Ny146.out] at ho; have n0_ := Aside0.mk (Kd.R_after (ok := (fun _ => True)) (rO HO138.out) hg hat); have n1_ := Aside0.mk (hb); have n2_ := Aside0.mk ((show Kd.C (Kd.int .i64) w22 Ao21 y142.length y142 from by rw [Ny142.out]; exact Kd.C_take (m := (a1 : Int).toNat) ((Kd.R_reads' (Kd.R_after (ok := (fun _ => True)) (rO HO138.out) hg hat)).2.2) KL20.out)); have n3_ := Aside0.mk (ho); clear HO138; clear HB; clear HR145; clear HO141; have HO138 := n0_; have HB := n1_; have HR145 := n2_; have HO148 := n3_; clear n0_ n1_ n2_ n3_; clear ho hb hg hat; have q23 : ((ji12) : Int) ≤ ((t136.length : Int) : Int) := of_decide_eq_true aO; obtain ⟨i023, hi023, _, hsz23, _⟩ := info_parts info3; have hroom23 : t136.length ≤ co21 := (Kd.R_reads' HO138.out).2.1; have hC23 : Kd.C (Kd.int .i64) _ Ao21 t136.length t136 := (Kd.R_reads' HO138.out).2.2; have q023 : (0 : Int) ≤ ((ji12) : Int) := of_decide_eq_true aO; have hcut23 := cut_from (P := Try.prog) 32 3 .i64 Try.underlying32 hi023 1 hsz23 Ao21 t136.length co21 (ji12) q023 q23; have hr23 := Kd.C_drop (m := ((ji12) : Int).toNat) (c := co21) hC23 (by omega) hroom23; obtain ⟨A23, hA23⟩ : ∃ A1, A1 = (if co21 = ((ji12) : Int).toNat then Ao21 else (Ao21 : Option Addr).map (·.add (((ji12) : Int).toNat * 1))) := ⟨_, rfl⟩; obtain ⟨c23, hc23⟩ : ∃ c1, c1 = co21 - ((ji12) : Int).toNat := ⟨_, rfl⟩; have hy23 : y149.length = t136.length - ((ji12) : Int).toNat := (by rw [Ny149.out, List.length_drop] <;> omega); rw [show (t136).drop ((ji12) : Int).toNat = y149 from Ny149.out.symm] at hr23; replace hr23 : Kd.C (Kd.int .i64) _ A23 y149.length y149 := (by rw [hA23]; exact hr23); rw [← hy23, ← hA23, ← hc23] at hcut23; have HR152 := Aside0.mk hr23; have HC152 := Aside0.mk (show y149.length ≤ c23 from by rw [hy23, hc23]; exact Nat.sub_le_sub_right hroom23 _); clear hr23 hC23 hroom23 hi023 hsz23 hc23; have KY23 := Aside0.mk hy23; have KA23 := Aside0.mk hA23; clear hy23 hA23; have KL23 := Aside0.mk (show ((ji12) : Int).toNat ≤ t136.length from by omega); replace q23 := eq_true q23) | ((with_reducible refine gate_builtin (b := .append) (xs := #[.tmp 23, .tmp 27]) rfl ?_); at_builtin; refine Kd.R_append_rows (Kd.int .i64) (w0 := w) w.heap.size rfl (.tmp 23) (.tmp 27) 32 3 (.int .i64 0) 8 rfl Try.underlying32 info3 rfl (by decide) (by omega) v147 y146 y149 _ _ _ (fun k_ => some k_ ≠ (.slice Ao21 t136.length co21 : Value).ownBlock) (fun _ => False) rfl rfl ?aO ?aR (fun _ _ h => h) (fun _ h => h.elim) ?aF ?aB ?aS ?aL ?_; (case aR => repeat (first | exact (by repeat (first | (with_reducible exact HR152.out) | (with_reducible refine Kd.C_alloc ?_ _) | (with_reducible refine Kd.C_drewN ?_ _) | (with_reducible refine Kd.C_drew ?_) | exact HR152.out)) | (with_reducible refine Kd.C_alloc ?_ _) | (with_reducible refine Kd.C_drewN ?_ _) | (with_reducible refine Kd.C_drew ?_))); (case aB => exact (bO HB.out)); (case aF => exact (fun k_ hk => Kd.fresh' (Kd.R_lt (rO HO138.out)) k_ hk)); (case aO => exact (rO HO148.out)); (case aS => exact (below_size (bO HB.out))); (case aL => have := LMc15.out; omega); intro v154 w24 ho hb hg hat; rw [← Ny153.out] at ho; have n0_ := Aside0.mk (Kd.R_after (ok := (fun _ => True)) (rO HO138.out) hg hat); have n1_ := Aside0.mk (hb); have n2_ := Aside0.mk ((show Kd.C (Kd.int .i64) w24 Ao21 y142.length y142 from by rw [Ny142.out]; exact Kd.C_take (m := (a1 : Int).toNat) ((Kd.R_reads' (Kd.R_after (ok := (fun _ => True)) (rO HO138.out) hg hat)).2.2) KL20.out)); have n3_ := Aside0.mk ((show Kd.C (Kd.int .i64) w24 A23 y149.length y149 from by rw [Ny149.out, KA23.out]; exact Kd.C_drop (m := ((ji12) : Int).toNat) (c := co21) ((Kd.R_reads' (Kd.R_after (ok := (fun _ => True)) (rO HO138.out) hg hat)).2.2) KL23.out ((Kd.R_reads' (Kd.R_after (ok := (fun _ => True)) (rO HO138.out) hg hat)).2.1))); have n4_ := Aside0.mk (ho); clear HO138; clear HB; clear HR145; clear HR152; clear HO148; have HO138 := n0_; have HB := n1_; have HR145 := n2_; have HR152 := n3_; have HO155 := n4_; clear n0_ n1_ n2_ n3_ n4_; clear ho hb hg hat; obtain ⟨Ao25, co25, eo25⟩ := Kd.R_slice HO155.out; subst eo25) | ((with_reducible refine gate_callee (f := 30) rfl ?_); refine goesL_ (some 29) rfl rfl Try.func30 (by kernel_rfl) rfl #[.slice Ao25 y153.length co25] rfl mO ?_; (with_reducible refine (tabardref02_Letter.calls kj2 _ _ y153 t156 _ ?side1 ?side2 A16.out).mono ?_); (case side1 => exact cO (Kd.R_reads' HO155.out).2.2); (case side2 => exact (Kd.R_reads' HO155.out).2.1); rintro e w' ⟨rfl, ⟨nd, rfl⟩⟩; refine ⟨_, rfl, ?_⟩))
          go_ret2
          exact ⟨by first | rfl | (simp [errW_none, errW_some] <;> rfl) | (simp only [← hji12]; first | rfl | (simp [errW_none, errW_some] <;> rfl)) | (simp [*, errW_none, errW_some] <;> rfl), bO HB.out⟩
         ·rw [if_neg c15] at H
          exact absurd H (by simp)
        ·rw [if_neg c14] at H
         exact absurd H (by simp)
       ·rw [if_neg c13] at H
        exact absurd H (by simp)
      ·rw [if_neg c11] at H
       exact absurd H (by simp)
     ·rw [if_neg c10] at H
      exact absurd H (by simp)
    ·rw [if_neg c9] at H
     exact absurd H (by simp)

/-! ### bits_OnesCount64: function 37 -/
def bits_OnesCount64.f (a0 : Int) : Option (Int) := some (Go.bits .and .i64 (wrap64 (IntKind.u64.wrap ((IntKind.u64.wrap ((IntKind.u64.wrap ((Go.bits .and .u64 (IntKind.u64.wrap (((IntKind.u64.wrap ((Go.bits .and .u64 ((IntKind.u64.wrap ((Go.bits .and .u64 (a0 / 2) 6148914691236517205) + (Go.bits .and .u64 a0 6148914691236517205))) / 4) 3689348814741910323) + (Go.bits .and .u64 (IntKind.u64.wrap ((Go.bits .and .u64 (a0 / 2) 6148914691236517205) + (Go.bits .and .u64 a0 6148914691236517205))) 3689348814741910323))) / 16) + (IntKind.u64.wrap ((Go.bits .and .u64 ((IntKind.u64.wrap ((Go.bits .and .u64 (a0 / 2) 6148914691236517205) + (Go.bits .and .u64 a0 6148914691236517205))) / 4) 3689348814741910323) + (Go.bits .and .u64 (IntKind.u64.wrap ((Go.bits .and .u64 (a0 / 2) 6148914691236517205) + (Go.bits .and .u64 a0 6148914691236517205))) 3689348814741910323))))) 1085102592571150095) + ((Go.bits .and .u64 (IntKind.u64.wrap (((IntKind.u64.wrap ((Go.bits .and .u64 ((IntKind.u64.wrap ((Go.bits .and .u64 (a0 / 2) 6148914691236517205) + (Go.bits .and .u64 a0 6148914691236517205))) / 4) 3689348814741910323) + (Go.bits .and .u64 (IntKind.u64.wrap ((Go.bits .and .u64 (a0 / 2) 6148914691236517205) + (Go.bits .and .u64 a0 6148914691236517205))) 3689348814741910323))) / 16) + (IntKind.u64.wrap ((Go.bits .and .u64 ((IntKind.u64.wrap ((Go.bits .and .u64 (a0 / 2) 6148914691236517205) + (Go.bits .and .u64 a0 6148914691236517205))) / 4) 3689348814741910323) + (Go.bits .and .u64 (IntKind.u64.wrap ((Go.bits .and .u64 (a0 / 2) 6148914691236517205) + (Go.bits .and .u64 a0 6148914691236517205))) 3689348814741910323))))) 1085102592571150095) / 256))) + ((IntKind.u64.wrap ((Go.bits .and .u64 (IntKind.u64.wrap (((IntKind.u64.wrap ((Go.bits .and .u64 ((IntKind.u64.wrap ((Go.bits .and .u64 (a0 / 2) 6148914691236517205) + (Go.bits .and .u64 a0 6148914691236517205))) / 4) 3689348814741910323) + (Go.bits .and .u64 (IntKind.u64.wrap ((Go.bits .and .u64 (a0 / 2) 6148914691236517205) + (Go.bits .and .u64 a0 6148914691236517205))) 3689348814741910323))) / 16) + (IntKind.u64.wrap ((Go.bits .and .u64 ((IntKind.u64.wrap ((Go.bits .and .u64 (a0 / 2) 6148914691236517205) + (Go.bits .and .u64 a0 6148914691236517205))) / 4) 3689348814741910323) + (Go.bits .and .u64 (IntKind.u64.wrap ((Go.bits .and .u64 (a0 / 2) 6148914691236517205) + (Go.bits .and .u64 a0 6148914691236517205))) 3689348814741910323))))) 1085102592571150095) + ((Go.bits .and .u64 (IntKind.u64.wrap (((IntKind.u64.wrap ((Go.bits .and .u64 ((IntKind.u64.wrap ((Go.bits .and .u64 (a0 / 2) 6148914691236517205) + (Go.bits .and .u64 a0 6148914691236517205))) / 4) 3689348814741910323) + (Go.bits .and .u64 (IntKind.u64.wrap ((Go.bits .and .u64 (a0 / 2) 6148914691236517205) + (Go.bits .and .u64 a0 6148914691236517205))) 3689348814741910323))) / 16) + (IntKind.u64.wrap ((Go.bits .and .u64 ((IntKind.u64.wrap ((Go.bits .and .u64 (a0 / 2) 6148914691236517205) + (Go.bits .and .u64 a0 6148914691236517205))) / 4) 3689348814741910323) + (Go.bits .and .u64 (IntKind.u64.wrap ((Go.bits .and .u64 (a0 / 2) 6148914691236517205) + (Go.bits .and .u64 a0 6148914691236517205))) 3689348814741910323))))) 1085102592571150095) / 256))) / 65536))) + ((IntKind.u64.wrap ((IntKind.u64.wrap ((Go.bits .and .u64 (IntKind.u64.wrap (((IntKind.u64.wrap ((Go.bits .and .u64 ((IntKind.u64.wrap ((Go.bits .and .u64 (a0 / 2) 6148914691236517205) + (Go.bits .and .u64 a0 6148914691236517205))) / 4) 3689348814741910323) + (Go.bits .and .u64 (IntKind.u64.wrap ((Go.bits .and .u64 (a0 / 2) 6148914691236517205) + (Go.bits .and .u64 a0 6148914691236517205))) 3689348814741910323))) / 16) + (IntKind.u64.wrap ((Go.bits .and .u64 ((IntKind.u64.wrap ((Go.bits .and .u64 (a0 / 2) 6148914691236517205) + (Go.bits .and .u64 a0 6148914691236517205))) / 4) 3689348814741910323) + (Go.bits .and .u64 (IntKind.u64.wrap ((Go.bits .and .u64 (a0 / 2) 6148914691236517205) + (Go.bits .and .u64 a0 6148914691236517205))) 3689348814741910323))))) 1085102592571150095) + ((Go.bits .and .u64 (IntKind.u64.wrap (((IntKind.u64.wrap ((Go.bits .and .u64 ((IntKind.u64.wrap ((Go.bits .and .u64 (a0 / 2) 6148914691236517205) + (Go.bits .and .u64 a0 6148914691236517205))) / 4) 3689348814741910323) + (Go.bits .and .u64 (IntKind.u64.wrap ((Go.bits .and .u64 (a0 / 2) 6148914691236517205) + (Go.bits .and .u64 a0 6148914691236517205))) 3689348814741910323))) / 16) + (IntKind.u64.wrap ((Go.bits .and .u64 ((IntKind.u64.wrap ((Go.bits .and .u64 (a0 / 2) 6148914691236517205) + (Go.bits .and .u64 a0 6148914691236517205))) / 4) 3689348814741910323) + (Go.bits .and .u64 (IntKind.u64.wrap ((Go.bits .and .u64 (a0 / 2) 6148914691236517205) + (Go.bits .and .u64 a0 6148914691236517205))) 3689348814741910323))))) 1085102592571150095) / 256))) + ((IntKind.u64.wrap ((Go.bits .and .u64 (IntKind.u64.wrap (((IntKind.u64.wrap ((Go.bits .and .u64 ((IntKind.u64.wrap ((Go.bits .and .u64 (a0 / 2) 6148914691236517205) + (Go.bits .and .u64 a0 6148914691236517205))) / 4) 3689348814741910323) + (Go.bits .and .u64 (IntKind.u64.wrap ((Go.bits .and .u64 (a0 / 2) 6148914691236517205) + (Go.bits .and .u64 a0 6148914691236517205))) 3689348814741910323))) / 16) + (IntKind.u64.wrap ((Go.bits .and .u64 ((IntKind.u64.wrap ((Go.bits .and .u64 (a0 / 2) 6148914691236517205) + (Go.bits .and .u64 a0 6148914691236517205))) / 4) 3689348814741910323) + (Go.bits .and .u64 (IntKind.u64.wrap ((Go.bits .and .u64 (a0 / 2) 6148914691236517205) + (Go.bits .and .u64 a0 6148914691236517205))) 3689348814741910323))))) 1085102592571150095) + ((Go.bits .and .u64 (IntKind.u64.wrap (((IntKind.u64.wrap ((Go.bits .and .u64 ((IntKind.u64.wrap ((Go.bits .and .u64 (a0 / 2) 6148914691236517205) + (Go.bits .and .u64 a0 6148914691236517205))) / 4) 3689348814741910323) + (Go.bits .and .u64 (IntKind.u64.wrap ((Go.bits .and .u64 (a0 / 2) 6148914691236517205) + (Go.bits .and .u64 a0 6148914691236517205))) 3689348814741910323))) / 16) + (IntKind.u64.wrap ((Go.bits .and .u64 ((IntKind.u64.wrap ((Go.bits .and .u64 (a0 / 2) 6148914691236517205) + (Go.bits .and .u64 a0 6148914691236517205))) / 4) 3689348814741910323) + (Go.bits .and .u64 (IntKind.u64.wrap ((Go.bits .and .u64 (a0 / 2) 6148914691236517205) + (Go.bits .and .u64 a0 6148914691236517205))) 3689348814741910323))))) 1085102592571150095) / 256))) / 65536))) / 4294967296)))) 127)
set_option maxHeartbeats 8000000 in
set_option maxRecDepth 100000 in
theorem bits_OnesCount64.calls (a0 : Int) (r : Int) (w : World) (h : bits_OnesCount64.f a0 = some r) :
  Calls Try.prog 37 #[.int .u64 a0] w fun e w' => e = .returned (.int .i64 r) ∧ Drawn0 w w' := by
 have H : (some (Go.bits .and .i64 (wrap64 (IntKind.u64.wrap ((IntKind.u64.wrap ((IntKind.u64.wrap ((Go.bits .and .u64 (IntKind.u64.wrap (((IntKind.u64.wrap ((Go.bits .and .u64 ((IntKind.u64.wrap ((Go.bits .and .u64 (a0 / 2) 6148914691236517205) + (Go.bits .and .u64 a0 6148914691236517205))) / 4) 3689348814741910323) + (Go.bits .and .u64 (IntKind.u64.wrap ((Go.bits .and .u64 (a0 / 2) 6148914691236517205) + (Go.bits .and .u64 a0 6148914691236517205))) 3689348814741910323))) / 16) + (IntKind.u64.wrap ((Go.bits .and .u64 ((IntKind.u64.wrap ((Go.bits .and .u64 (a0 / 2) 6148914691236517205) + (Go.bits .and .u64 a0 6148914691236517205))) / 4) 3689348814741910323) + (Go.bits .and .u64 (IntKind.u64.wrap ((Go.bits .and .u64 (a0 / 2) 6148914691236517205) + (Go.bits .and .u64 a0 6148914691236517205))) 3689348814741910323))))) 1085102592571150095) + ((Go.bits .and .u64 (IntKind.u64.wrap (((IntKind.u64.wrap ((Go.bits .and .u64 ((IntKind.u64.wrap ((Go.bits .and .u64 (a0 / 2) 6148914691236517205) + (Go.bits .and .u64 a0 6148914691236517205))) / 4) 3689348814741910323) + (Go.bits .and .u64 (IntKind.u64.wrap ((Go.bits .and .u64 (a0 / 2) 6148914691236517205) + (Go.bits .and .u64 a0 6148914691236517205))) 3689348814741910323))) / 16) + (IntKind.u64.wrap ((Go.bits .and .u64 ((IntKind.u64.wrap ((Go.bits .and .u64 (a0 / 2) 6148914691236517205) + (Go.bits .and .u64 a0 6148914691236517205))) / 4) 3689348814741910323) + (Go.bits .and .u64 (IntKind.u64.wrap ((Go.bits .and .u64 (a0 / 2) 6148914691236517205) + (Go.bits .and .u64 a0 6148914691236517205))) 3689348814741910323))))) 1085102592571150095) / 256))) + ((IntKind.u64.wrap ((Go.bits .and .u64 (IntKind.u64.wrap (((IntKind.u64.wrap ((Go.bits .and .u64 ((IntKind.u64.wrap ((Go.bits .and .u64 (a0 / 2) 6148914691236517205) + (Go.bits .and .u64 a0 6148914691236517205))) / 4) 3689348814741910323) + (Go.bits .and .u64 (IntKind.u64.wrap ((Go.bits .and .u64 (a0 / 2) 6148914691236517205) + (Go.bits .and .u64 a0 6148914691236517205))) 3689348814741910323))) / 16) + (IntKind.u64.wrap ((Go.bits .and .u64 ((IntKind.u64.wrap ((Go.bits .and .u64 (a0 / 2) 6148914691236517205) + (Go.bits .and .u64 a0 6148914691236517205))) / 4) 3689348814741910323) + (Go.bits .and .u64 (IntKind.u64.wrap ((Go.bits .and .u64 (a0 / 2) 6148914691236517205) + (Go.bits .and .u64 a0 6148914691236517205))) 3689348814741910323))))) 1085102592571150095) + ((Go.bits .and .u64 (IntKind.u64.wrap (((IntKind.u64.wrap ((Go.bits .and .u64 ((IntKind.u64.wrap ((Go.bits .and .u64 (a0 / 2) 6148914691236517205) + (Go.bits .and .u64 a0 6148914691236517205))) / 4) 3689348814741910323) + (Go.bits .and .u64 (IntKind.u64.wrap ((Go.bits .and .u64 (a0 / 2) 6148914691236517205) + (Go.bits .and .u64 a0 6148914691236517205))) 3689348814741910323))) / 16) + (IntKind.u64.wrap ((Go.bits .and .u64 ((IntKind.u64.wrap ((Go.bits .and .u64 (a0 / 2) 6148914691236517205) + (Go.bits .and .u64 a0 6148914691236517205))) / 4) 3689348814741910323) + (Go.bits .and .u64 (IntKind.u64.wrap ((Go.bits .and .u64 (a0 / 2) 6148914691236517205) + (Go.bits .and .u64 a0 6148914691236517205))) 3689348814741910323))))) 1085102592571150095) / 256))) / 65536))) + ((IntKind.u64.wrap ((IntKind.u64.wrap ((Go.bits .and .u64 (IntKind.u64.wrap (((IntKind.u64.wrap ((Go.bits .and .u64 ((IntKind.u64.wrap ((Go.bits .and .u64 (a0 / 2) 6148914691236517205) + (Go.bits .and .u64 a0 6148914691236517205))) / 4) 3689348814741910323) + (Go.bits .and .u64 (IntKind.u64.wrap ((Go.bits .and .u64 (a0 / 2) 6148914691236517205) + (Go.bits .and .u64 a0 6148914691236517205))) 3689348814741910323))) / 16) + (IntKind.u64.wrap ((Go.bits .and .u64 ((IntKind.u64.wrap ((Go.bits .and .u64 (a0 / 2) 6148914691236517205) + (Go.bits .and .u64 a0 6148914691236517205))) / 4) 3689348814741910323) + (Go.bits .and .u64 (IntKind.u64.wrap ((Go.bits .and .u64 (a0 / 2) 6148914691236517205) + (Go.bits .and .u64 a0 6148914691236517205))) 3689348814741910323))))) 1085102592571150095) + ((Go.bits .and .u64 (IntKind.u64.wrap (((IntKind.u64.wrap ((Go.bits .and .u64 ((IntKind.u64.wrap ((Go.bits .and .u64 (a0 / 2) 6148914691236517205) + (Go.bits .and .u64 a0 6148914691236517205))) / 4) 3689348814741910323) + (Go.bits .and .u64 (IntKind.u64.wrap ((Go.bits .and .u64 (a0 / 2) 6148914691236517205) + (Go.bits .and .u64 a0 6148914691236517205))) 3689348814741910323))) / 16) + (IntKind.u64.wrap ((Go.bits .and .u64 ((IntKind.u64.wrap ((Go.bits .and .u64 (a0 / 2) 6148914691236517205) + (Go.bits .and .u64 a0 6148914691236517205))) / 4) 3689348814741910323) + (Go.bits .and .u64 (IntKind.u64.wrap ((Go.bits .and .u64 (a0 / 2) 6148914691236517205) + (Go.bits .and .u64 a0 6148914691236517205))) 3689348814741910323))))) 1085102592571150095) / 256))) + ((IntKind.u64.wrap ((Go.bits .and .u64 (IntKind.u64.wrap (((IntKind.u64.wrap ((Go.bits .and .u64 ((IntKind.u64.wrap ((Go.bits .and .u64 (a0 / 2) 6148914691236517205) + (Go.bits .and .u64 a0 6148914691236517205))) / 4) 3689348814741910323) + (Go.bits .and .u64 (IntKind.u64.wrap ((Go.bits .and .u64 (a0 / 2) 6148914691236517205) + (Go.bits .and .u64 a0 6148914691236517205))) 3689348814741910323))) / 16) + (IntKind.u64.wrap ((Go.bits .and .u64 ((IntKind.u64.wrap ((Go.bits .and .u64 (a0 / 2) 6148914691236517205) + (Go.bits .and .u64 a0 6148914691236517205))) / 4) 3689348814741910323) + (Go.bits .and .u64 (IntKind.u64.wrap ((Go.bits .and .u64 (a0 / 2) 6148914691236517205) + (Go.bits .and .u64 a0 6148914691236517205))) 3689348814741910323))))) 1085102592571150095) + ((Go.bits .and .u64 (IntKind.u64.wrap (((IntKind.u64.wrap ((Go.bits .and .u64 ((IntKind.u64.wrap ((Go.bits .and .u64 (a0 / 2) 6148914691236517205) + (Go.bits .and .u64 a0 6148914691236517205))) / 4) 3689348814741910323) + (Go.bits .and .u64 (IntKind.u64.wrap ((Go.bits .and .u64 (a0 / 2) 6148914691236517205) + (Go.bits .and .u64 a0 6148914691236517205))) 3689348814741910323))) / 16) + (IntKind.u64.wrap ((Go.bits .and .u64 ((IntKind.u64.wrap ((Go.bits .and .u64 (a0 / 2) 6148914691236517205) + (Go.bits .and .u64 a0 6148914691236517205))) / 4) 3689348814741910323) + (Go.bits .and .u64 (IntKind.u64.wrap ((Go.bits .and .u64 (a0 / 2) 6148914691236517205) + (Go.bits .and .u64 a0 6148914691236517205))) 3689348814741910323))))) 1085102592571150095) / 256))) / 65536))) / 4294967296)))) 127)) = some r := h
 clear h
 obtain rfl := Option.some.inj H
 go_enter Try.func37, Try.ntmps37
 go_wp2
 go_ret
 exact ⟨by first | rfl | (simp; done) | (simp [*]; done), by repeat (first | exact Drawn0.refl _ | apply Drawn0.step)⟩

end Go.Proofs.Ytpekanolhgcljaa.X

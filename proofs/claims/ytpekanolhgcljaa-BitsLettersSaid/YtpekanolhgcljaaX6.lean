/- What the functions of this seat compute, and that the program's calls come to just that: written by this session's own program out of the translation; no condition. -/
import Derived.Test.YtpekanolhgcljaaX0
import Derived.Test.YtpekanolhgcljaaX1
import Derived.Test.YtpekanolhgcljaaX2
import Derived.Test.YtpekanolhgcljaaX3
import Derived.Test.YtpekanolhgcljaaX5
namespace Go.Proofs.Ytpekanolhgcljaa.X
open Go.RowKit Go.Proofs.YtpekanolhgcljaaW.PrintWords Go.Proofs.YtpekanolhgcljaaW.PrintLast Go.Proofs.YtpekanolhgcljaaW.PrintMore
attribute [local go_sem] max2_int min2_int max_two min_two max_three min_three max_four min_four   -- for this text's walks alone
set_option linter.unusedVariables false
set_option linter.unusedSimpArgs false

/-! ### tabardref02_Digit: function 13 -/
def tabardref02_Digit.f (k : Nat) (a0 : Int) (a1 : Int) : Option (Int) := if a0 < 0 then (some 0) else (if a1 < 0 then (some 0) else (if a1 > 61 then (some 0) else ((tabardref02_Digits.f k a0 62).bind fun t165 => (if 0 ≤ a1 then (if a1 < (t165.length : Int) then (some (rd t165 a1)) else (none)) else (none)))))
theorem tabardref02_Digit.mono : ∀ a0 a1 k, LeO (tabardref02_Digit.f k a0 a1) (tabardref02_Digit.f (k + 1) a0 a1) := by
 intro a0 a1 k
 unfold tabardref02_Digit.f
 repeat' first
   | (with_reducible exact tabardref02_Digits.mono _ _ _)
   | (with_reducible exact LeO.refl _)
   | (with_reducible exact LeO.none _)
   | (with_reducible refine LeO.ite ?_ ?_)
   | (with_reducible refine LeO.bind ?_ (fun _ => ?_))
   | exact tabardref02_Digits.mono _ _ _
   | exact LeO.none _
   | refine LeO.ite ?_ ?_
   | refine LeO.bind ?_ (fun _ => ?_)
set_option maxHeartbeats 8000000 in
set_option maxRecDepth 100000 in
theorem tabardref02_Digit.calls (k : Nat) (a0 : Int) (a1 : Int) (r : Int) (w : World) (h : tabardref02_Digit.f k a0 a1 = some r) :
  Calls Try.prog 13 #[.int .i64 a0, .int .i64 a1] w fun e w' => e = .returned (.int .i64 r) ∧ Below w.heap.size w w' := by
 have HB := Aside0.mk (Below.refl w.heap.size w)
 have H : (if a0 < 0 then (some 0) else (if a1 < 0 then (some 0) else (if a1 > 61 then (some 0) else ((tabardref02_Digits.f k a0 62).bind fun t165 => (if 0 ≤ a1 then (if a1 < (t165.length : Int) then (some (rd t165 a1)) else (none)) else (none)))))) = some r := h
 clear h
 by_cases c3 : a0 < 0
 ·rw [if_pos c3] at H
  have c3b0 : decide (a0 < 0) = true := decide_eq_true c3
  clear c3
  obtain rfl := Option.some.inj H
  go_enter Try.func13, Try.ntmps13
  go_wp2
  go_ret
  exact ⟨by first | rfl | (simp [errW_none, errW_some] <;> rfl) | (simp [*, errW_none, errW_some] <;> rfl), bO HB.out⟩
 ·rw [if_neg c3] at H
  have c3b0 : decide (a0 < 0) = false := decide_eq_false c3
  clear c3
  by_cases c4 : a1 < 0
  ·rw [if_pos c4] at H
   have c4b0 : decide (a1 < 0) = true := decide_eq_true c4
   clear c4
   obtain rfl := Option.some.inj H
   go_enter Try.func13, Try.ntmps13
   go_wp2
   go_ret
   exact ⟨by first | rfl | (simp [errW_none, errW_some] <;> rfl) | (simp [*, errW_none, errW_some] <;> rfl), bO HB.out⟩
  ·rw [if_neg c4] at H
   have c4b0 : decide (a1 < 0) = false := decide_eq_false c4
   clear c4
   by_cases c5 : a1 > 61
   ·rw [if_pos c5] at H
    have c5b0 : decide (61 < a1) = true := decide_eq_true c5
    clear c5
    obtain rfl := Option.some.inj H
    go_enter Try.func13, Try.ntmps13
    go_wp2
    go_ret
    exact ⟨by first | rfl | (simp [errW_none, errW_some] <;> rfl) | (simp [*, errW_none, errW_some] <;> rfl), bO HB.out⟩
   ·rw [if_neg c5] at H
    have c5b0 : decide (61 < a1) = false := decide_eq_false c5
    clear c5
    replace H := Option.bind_eq_some_iff.mp H
    obtain ⟨t165, A60, H⟩ := H
    replace H : (if 0 ≤ a1 then (if a1 < (t165.length : Int) then (some (rd t165 a1)) else (none)) else (none)) = some r := H
    have A6 := Aside0.mk A60
    clear A60
    by_cases c7 : 0 ≤ a1
    ·rw [if_pos c7] at H
     have c7b0 : decide (0 ≤ a1) = true := decide_eq_true c7
     clear c7
     by_cases c8 : a1 < (t165.length : Int)
     ·rw [if_pos c8] at H
      have c8b0 : decide (a1 < (t165.length : Int)) = true := decide_eq_true c8
      clear c8
      obtain rfl := Option.some.inj H
      go_enter Try.func13, Try.ntmps13
      go_wp2_with (first | ((with_reducible refine gate_callee (f := 29) rfl ?_); refine goesL_ (some 16) rfl rfl Try.func29 (by kernel_rfl) rfl #[.int .i64 a0, .int .i64 62] rfl mO ?_; (with_reducible refine (tabardref02_Digits.calls k a0 62 t165 _ A6.out).mono ?_); rintro e w9 ⟨v166, rfl, ho0, hb⟩; refine ⟨_, rfl, ?_⟩; have n0_ := Aside0.mk (Kd.R_lower ho0 (below_size (bO HB.out))); have n1_ := Aside0.mk (below_step (bO HB.out) hb); clear HB; have HO167 := n0_; have HB := n1_; clear n0_ n1_; (try clear hb); (try clear hb2); (try clear hk); (try clear hi); (try clear ho0); obtain ⟨Ao10, co10, eo10⟩ := Kd.R_slice HO167.out; subst eo10; have p168 : 0 ≤ (a1 : Int) := of_decide_eq_true aO; have q168 : a1 < (t165.length : Int) := of_decide_eq_true aO; obtain ⟨ad168, e168, hx168_0⟩ := Kd.at_int (Kd.R_reads' HO167.out).2.2 a1 p168 q168; cases e168; replace p168 := eq_true p168; replace q168 := eq_true q168))
      go_ret
      exact ⟨by first | rfl | (simp [errW_none, errW_some] <;> rfl) | (simp [*, errW_none, errW_some] <;> rfl), bO HB.out⟩
     ·rw [if_neg c8] at H
      exact absurd H (by simp)
    ·rw [if_neg c7] at H
     exact absurd H (by simp)

/-! ### tabardlaw02_BitsLetters: function 3 -/
def tabardlaw02_BitsLetters.f (k : Nat) (a0 : Int) (a1 : Int) (a2 : Int) : Option (Bool) := (bits_Insert.f a0 a1 a2).bind fun bt169 => ((tabardref02_Insert.f k a0 a1 a2).bind fun bt171 => ((bits_Remove.f a0 a1).bind fun bt173 => ((tabardref02_Remove.f k a0 a1).bind fun bt175 => ((tabardlaw02_fixed.f).bind fun t177 => (if t177 = true then ((bits_Digit.f a0 a1).bind fun t178 => ((tabardref02_Digit.f k a0 a1).bind fun t179 => (if t178 = t179 then (if bt169.1 = bt171.1 then (if bt169.2 = bt171.2 then (if bt173.1 = bt175.1 then (some (bt173.2 == bt175.2)) else (some false)) else (some false)) else (some false)) else (some false)))) else (some false))))))
theorem tabardlaw02_BitsLetters.mono : ∀ a0 a1 a2 k, LeO (tabardlaw02_BitsLetters.f k a0 a1 a2) (tabardlaw02_BitsLetters.f (k + 1) a0 a1 a2) := by
 intro a0 a1 a2 k
 unfold tabardlaw02_BitsLetters.f
 repeat' first
   | (with_reducible exact tabardref02_Digit.mono _ _ _)
   | (with_reducible exact tabardref02_Insert.mono _ _ _ _)
   | (with_reducible exact tabardref02_Remove.mono _ _ _)
   | (with_reducible exact LeO.refl _)
   | (with_reducible exact LeO.none _)
   | (with_reducible refine LeO.ite ?_ ?_)
   | (with_reducible refine LeO.bind ?_ (fun _ => ?_))
   | exact tabardref02_Digit.mono _ _ _
   | exact tabardref02_Insert.mono _ _ _ _
   | exact tabardref02_Remove.mono _ _ _
   | exact LeO.none _
   | refine LeO.ite ?_ ?_
   | refine LeO.bind ?_ (fun _ => ?_)
set_option maxHeartbeats 8000000 in
set_option maxRecDepth 100000 in
theorem tabardlaw02_BitsLetters.calls (k : Nat) (a0 : Int) (a1 : Int) (a2 : Int) (r : Bool) (w : World) (h : tabardlaw02_BitsLetters.f k a0 a1 a2 = some r) :
  Calls Try.prog 3 #[.int .i64 a0, .int .i64 a1, .int .i64 a2] w fun e w' => e = .returned (.bool r) ∧ Below w.heap.size w w' := by
 have HB := Aside0.mk (Below.refl w.heap.size w)
 have H : ((bits_Insert.f a0 a1 a2).bind fun bt169 => ((tabardref02_Insert.f k a0 a1 a2).bind fun bt171 => ((bits_Remove.f a0 a1).bind fun bt173 => ((tabardref02_Remove.f k a0 a1).bind fun bt175 => ((tabardlaw02_fixed.f).bind fun t177 => (if t177 = true then ((bits_Digit.f a0 a1).bind fun t178 => ((tabardref02_Digit.f k a0 a1).bind fun t179 => (if t178 = t179 then (if bt169.1 = bt171.1 then (if bt169.2 = bt171.2 then (if bt173.1 = bt175.1 then (some (bt173.2 == bt175.2)) else (some false)) else (some false)) else (some false)) else (some false)))) else (some false))))))) = some r := h
 clear h
 replace H := Option.bind_eq_some_iff.mp H
 obtain ⟨⟨t169, t170⟩, A40, H⟩ := H
 replace H : ((tabardref02_Insert.f k a0 a1 a2).bind fun bt171 => ((bits_Remove.f a0 a1).bind fun bt173 => ((tabardref02_Remove.f k a0 a1).bind fun bt175 => ((tabardlaw02_fixed.f).bind fun t177 => (if t177 = true then ((bits_Digit.f a0 a1).bind fun t178 => ((tabardref02_Digit.f k a0 a1).bind fun t179 => (if t178 = t179 then (if t169 = bt171.1 then (if t170 = bt171.2 then (if bt173.1 = bt175.1 then (some (bt173.2 == bt175.2)) else (some false)) else (some false)) else (some false)) else (some false)))) else (some false)))))) = some r := H
 have A4 := Aside0.mk A40
 clear A40
 replace H := Option.bind_eq_some_iff.mp H
 obtain ⟨⟨t171, t172⟩, A50, H⟩ := H
 replace H : ((bits_Remove.f a0 a1).bind fun bt173 => ((tabardref02_Remove.f k a0 a1).bind fun bt175 => ((tabardlaw02_fixed.f).bind fun t177 => (if t177 = true then ((bits_Digit.f a0 a1).bind fun t178 => ((tabardref02_Digit.f k a0 a1).bind fun t179 => (if t178 = t179 then (if t169 = t171 then (if t170 = t172 then (if bt173.1 = bt175.1 then (some (bt173.2 == bt175.2)) else (some false)) else (some false)) else (some false)) else (some false)))) else (some false))))) = some r := H
 have A5 := Aside0.mk A50
 clear A50
 replace H := Option.bind_eq_some_iff.mp H
 obtain ⟨⟨t173, t174⟩, A60, H⟩ := H
 replace H : ((tabardref02_Remove.f k a0 a1).bind fun bt175 => ((tabardlaw02_fixed.f).bind fun t177 => (if t177 = true then ((bits_Digit.f a0 a1).bind fun t178 => ((tabardref02_Digit.f k a0 a1).bind fun t179 => (if t178 = t179 then (if t169 = t171 then (if t170 = t172 then (if t173 = bt175.1 then (some (t174 == bt175.2)) else (some false)) else (some false)) else (some false)) else (some false)))) else (some false)))) = some r := H
 have A6 := Aside0.mk A60
 clear A60
 replace H := Option.bind_eq_some_iff.mp H
 obtain ⟨⟨t175, t176⟩, A70, H⟩ := H
 replace H : ((tabardlaw02_fixed.f).bind fun t177 => (if t177 = true then ((bits_Digit.f a0 a1).bind fun t178 => ((tabardref02_Digit.f k a0 a1).bind fun t179 => (if t178 = t179 then (if t169 = t171 then (if t170 = t172 then (if t173 = t175 then (some (t174 == t176)) else (some false)) else (some false)) else (some false)) else (some false)))) else (some false))) = some r := H
 have A7 := Aside0.mk A70
 clear A70
 replace H := Option.bind_eq_some_iff.mp H
 obtain ⟨t177, A80, H⟩ := H
 replace H : (if t177 = true then ((bits_Digit.f a0 a1).bind fun t178 => ((tabardref02_Digit.f k a0 a1).bind fun t179 => (if t178 = t179 then (if t169 = t171 then (if t170 = t172 then (if t173 = t175 then (some (t174 == t176)) else (some false)) else (some false)) else (some false)) else (some false)))) else (some false)) = some r := H
 have A8 := Aside0.mk A80
 clear A80
 by_cases c9 : t177 = true
 ·subst c9
  have H1 : ((bits_Digit.f a0 a1).bind fun t178 => ((tabardref02_Digit.f k a0 a1).bind fun t179 => (if t178 = t179 then (if t169 = t171 then (if t170 = t172 then (if t173 = t175 then (some (t174 == t176)) else (some false)) else (some false)) else (some false)) else (some false)))) = some r := by rw [if_pos rfl] at H; exact H
  clear H
  have H := H1
  clear H1
  replace H := Option.bind_eq_some_iff.mp H
  obtain ⟨t178, A100, H⟩ := H
  replace H : ((tabardref02_Digit.f k a0 a1).bind fun t179 => (if t178 = t179 then (if t169 = t171 then (if t170 = t172 then (if t173 = t175 then (some (t174 == t176)) else (some false)) else (some false)) else (some false)) else (some false))) = some r := H
  have A10 := Aside0.mk A100
  clear A100
  replace H := Option.bind_eq_some_iff.mp H
  obtain ⟨t179, A110, H⟩ := H
  replace H : (if t178 = t179 then (if t169 = t171 then (if t170 = t172 then (if t173 = t175 then (some (t174 == t176)) else (some false)) else (some false)) else (some false)) else (some false)) = some r := H
  have A11 := Aside0.mk A110
  clear A110
  by_cases c12 : t178 = t179
  ·rw [if_pos c12] at H
   have c12b0 : (t178 == t179) = true := beq_iff_eq.mpr c12
   have c12b1 : (t178 != t179) = false := bne_eq_false_iff_eq.mpr c12
   clear c12
   by_cases c13 : t169 = t171
   ·rw [if_pos c13] at H
    have c13b0 : (t169 == t171) = true := beq_iff_eq.mpr c13
    have c13b1 : (t169 != t171) = false := bne_eq_false_iff_eq.mpr c13
    clear c13
    by_cases c14 : t170 = t172
    ·rw [if_pos c14] at H
     have c14b0 : (t170 == t172) = true := beq_iff_eq.mpr c14
     have c14b1 : (t170 != t172) = false := bne_eq_false_iff_eq.mpr c14
     clear c14
     by_cases c15 : t173 = t175
     ·rw [if_pos c15] at H
      have c15b0 : (t173 == t175) = true := beq_iff_eq.mpr c15
      have c15b1 : (t173 != t175) = false := bne_eq_false_iff_eq.mpr c15
      clear c15
      obtain rfl := Option.some.inj H
      go_enter Try.func3, Try.ntmps3
      go_wp2_with (first | ((with_reducible refine gate_callee (f := 7) rfl ?_); refine goesL_ (some 19) rfl rfl Try.func7 (by kernel_rfl) rfl #[.int .i64 a0, .int .i64 a1, .int .i64 a2] rfl mO ?_; (with_reducible refine (bits_Insert.calls a0 a1 a2 t169 t170 _ A4.out).mono ?_); rintro e w' ⟨rfl, ⟨nd, rfl⟩⟩; refine ⟨_, rfl, ?_⟩) | ((with_reducible refine gate_callee (f := 8) rfl ?_); refine goesL_ (some 26) rfl rfl Try.func8 (by kernel_rfl) rfl #[.int .i64 a0, .int .i64 a1, .int .i64 a2] rfl mO ?_; (with_reducible refine (tabardref02_Insert.calls k a0 a1 a2 t171 t172 _ A5.out).mono ?_); rintro e w16 ⟨rfl, hb⟩; refine ⟨_, rfl, ?_⟩; have n0_ := Aside0.mk (below_step (bO HB.out) hb); clear HB; have HB := n0_; clear n0_; (try clear hb); (try clear hb2); (try clear hk); (try clear hi)) | ((with_reducible refine gate_callee (f := 9) rfl ?_); refine goesL_ (some 32) rfl rfl Try.func9 (by kernel_rfl) rfl #[.int .i64 a0, .int .i64 a1] rfl mO ?_; (with_reducible refine (bits_Remove.calls a0 a1 t173 t174 _ A6.out).mono ?_); rintro e w' ⟨rfl, ⟨nd, rfl⟩⟩; refine ⟨_, rfl, ?_⟩) | ((with_reducible refine gate_callee (f := 10) rfl ?_); refine goesL_ (some 38) rfl rfl Try.func10 (by kernel_rfl) rfl #[.int .i64 a0, .int .i64 a1] rfl mO ?_; (with_reducible refine (tabardref02_Remove.calls k a0 a1 t175 t176 _ A7.out).mono ?_); rintro e w17 ⟨rfl, hb⟩; refine ⟨_, rfl, ?_⟩; have n0_ := Aside0.mk (below_step (bO HB.out) hb); clear HB; have HB := n0_; clear n0_; (try clear hb); (try clear hb2); (try clear hk); (try clear hi)) | ((with_reducible refine gate_callee (f := 11) rfl ?_); refine goesL_ (some 41) rfl rfl Try.func11 (by kernel_rfl) rfl #[] rfl mO ?_; (with_reducible refine (tabardlaw02_fixed.calls  true _ A8.out).mono ?_); rintro e w18 ⟨rfl, hb⟩; refine ⟨_, rfl, ?_⟩; have n0_ := Aside0.mk (below_step (bO HB.out) hb); clear HB; have HB := n0_; clear n0_; (try clear hb); (try clear hb2); (try clear hk); (try clear hi)) | (go_at_call 12; (with_reducible refine (bits_Digit.calls a0 a1 t178 _ A10.out).mono ?_); rintro e w' ⟨rfl, ⟨nd, rfl⟩⟩) | (go_at_call 13; (with_reducible refine (tabardref02_Digit.calls k a0 a1 t179 _ A11.out).mono ?_); rintro e w19 ⟨rfl, hb⟩; have n0_ := Aside0.mk (below_step (bO HB.out) hb); clear HB; have HB := n0_; clear n0_; (try clear hb); (try clear hb2); (try clear hk); (try clear hi)))
      go_ret
      exact ⟨by first | rfl | (simp [errW_none, errW_some] <;> rfl) | (simp [*, errW_none, errW_some] <;> rfl), bO HB.out⟩
     ·rw [if_neg c15] at H
      have c15b0 : (t173 == t175) = false := beq_eq_false_iff_ne.mpr c15
      have c15b1 : (t173 != t175) = true := bne_iff_ne.mpr c15
      obtain rfl := Option.some.inj H
      go_enter Try.func3, Try.ntmps3
      go_wp2_with (first | ((with_reducible refine gate_callee (f := 7) rfl ?_); refine goesL_ (some 19) rfl rfl Try.func7 (by kernel_rfl) rfl #[.int .i64 a0, .int .i64 a1, .int .i64 a2] rfl mO ?_; (with_reducible refine (bits_Insert.calls a0 a1 a2 t169 t170 _ A4.out).mono ?_); rintro e w' ⟨rfl, ⟨nd, rfl⟩⟩; refine ⟨_, rfl, ?_⟩) | ((with_reducible refine gate_callee (f := 8) rfl ?_); refine goesL_ (some 26) rfl rfl Try.func8 (by kernel_rfl) rfl #[.int .i64 a0, .int .i64 a1, .int .i64 a2] rfl mO ?_; (with_reducible refine (tabardref02_Insert.calls k a0 a1 a2 t171 t172 _ A5.out).mono ?_); rintro e w20 ⟨rfl, hb⟩; refine ⟨_, rfl, ?_⟩; have n0_ := Aside0.mk (below_step (bO HB.out) hb); clear HB; have HB := n0_; clear n0_; (try clear hb); (try clear hb2); (try clear hk); (try clear hi)) | ((with_reducible refine gate_callee (f := 9) rfl ?_); refine goesL_ (some 32) rfl rfl Try.func9 (by kernel_rfl) rfl #[.int .i64 a0, .int .i64 a1] rfl mO ?_; (with_reducible refine (bits_Remove.calls a0 a1 t173 t174 _ A6.out).mono ?_); rintro e w' ⟨rfl, ⟨nd, rfl⟩⟩; refine ⟨_, rfl, ?_⟩) | ((with_reducible refine gate_callee (f := 10) rfl ?_); refine goesL_ (some 38) rfl rfl Try.func10 (by kernel_rfl) rfl #[.int .i64 a0, .int .i64 a1] rfl mO ?_; (with_reducible refine (tabardref02_Remove.calls k a0 a1 t175 t176 _ A7.out).mono ?_); rintro e w21 ⟨rfl, hb⟩; refine ⟨_, rfl, ?_⟩; have n0_ := Aside0.mk (below_step (bO HB.out) hb); clear HB; have HB := n0_; clear n0_; (try clear hb); (try clear hb2); (try clear hk); (try clear hi)) | ((with_reducible refine gate_callee (f := 11) rfl ?_); refine goesL_ (some 41) rfl rfl Try.func11 (by kernel_rfl) rfl #[] rfl mO ?_; (with_reducible refine (tabardlaw02_fixed.calls  true _ A8.out).mono ?_); rintro e w22 ⟨rfl, hb⟩; refine ⟨_, rfl, ?_⟩; have n0_ := Aside0.mk (below_step (bO HB.out) hb); clear HB; have HB := n0_; clear n0_; (try clear hb); (try clear hb2); (try clear hk); (try clear hi)) | (go_at_call 12; (with_reducible refine (bits_Digit.calls a0 a1 t178 _ A10.out).mono ?_); rintro e w' ⟨rfl, ⟨nd, rfl⟩⟩) | (go_at_call 13; (with_reducible refine (tabardref02_Digit.calls k a0 a1 t179 _ A11.out).mono ?_); rintro e w23 ⟨rfl, hb⟩; have n0_ := Aside0.mk (below_step (bO HB.out) hb); clear HB; have HB := n0_; clear n0_; (try clear hb); (try clear hb2); (try clear hk); (try clear hi)))
      go_ret
      exact ⟨by first | rfl | (simp [errW_none, errW_some] <;> rfl) | (simp [*, errW_none, errW_some] <;> rfl), bO HB.out⟩
    ·rw [if_neg c14] at H
     have c14b0 : (t170 == t172) = false := beq_eq_false_iff_ne.mpr c14
     have c14b1 : (t170 != t172) = true := bne_iff_ne.mpr c14
     obtain rfl := Option.some.inj H
     go_enter Try.func3, Try.ntmps3
     go_wp2_with (first | ((with_reducible refine gate_callee (f := 7) rfl ?_); refine goesL_ (some 19) rfl rfl Try.func7 (by kernel_rfl) rfl #[.int .i64 a0, .int .i64 a1, .int .i64 a2] rfl mO ?_; (with_reducible refine (bits_Insert.calls a0 a1 a2 t169 t170 _ A4.out).mono ?_); rintro e w' ⟨rfl, ⟨nd, rfl⟩⟩; refine ⟨_, rfl, ?_⟩) | ((with_reducible refine gate_callee (f := 8) rfl ?_); refine goesL_ (some 26) rfl rfl Try.func8 (by kernel_rfl) rfl #[.int .i64 a0, .int .i64 a1, .int .i64 a2] rfl mO ?_; (with_reducible refine (tabardref02_Insert.calls k a0 a1 a2 t171 t172 _ A5.out).mono ?_); rintro e w24 ⟨rfl, hb⟩; refine ⟨_, rfl, ?_⟩; have n0_ := Aside0.mk (below_step (bO HB.out) hb); clear HB; have HB := n0_; clear n0_; (try clear hb); (try clear hb2); (try clear hk); (try clear hi)) | ((with_reducible refine gate_callee (f := 9) rfl ?_); refine goesL_ (some 32) rfl rfl Try.func9 (by kernel_rfl) rfl #[.int .i64 a0, .int .i64 a1] rfl mO ?_; (with_reducible refine (bits_Remove.calls a0 a1 t173 t174 _ A6.out).mono ?_); rintro e w' ⟨rfl, ⟨nd, rfl⟩⟩; refine ⟨_, rfl, ?_⟩) | ((with_reducible refine gate_callee (f := 10) rfl ?_); refine goesL_ (some 38) rfl rfl Try.func10 (by kernel_rfl) rfl #[.int .i64 a0, .int .i64 a1] rfl mO ?_; (with_reducible refine (tabardref02_Remove.calls k a0 a1 t175 t176 _ A7.out).mono ?_); rintro e w25 ⟨rfl, hb⟩; refine ⟨_, rfl, ?_⟩; have n0_ := Aside0.mk (below_step (bO HB.out) hb); clear HB; have HB := n0_; clear n0_; (try clear hb); (try clear hb2); (try clear hk); (try clear hi)) | ((with_reducible refine gate_callee (f := 11) rfl ?_); refine goesL_ (some 41) rfl rfl Try.func11 (by kernel_rfl) rfl #[] rfl mO ?_; (with_reducible refine (tabardlaw02_fixed.calls  true _ A8.out).mono ?_); rintro e w26 ⟨rfl, hb⟩; refine ⟨_, rfl, ?_⟩; have n0_ := Aside0.mk (below_step (bO HB.out) hb); clear HB; have HB := n0_; clear n0_; (try clear hb); (try clear hb2); (try clear hk); (try clear hi)) | (go_at_call 12; (with_reducible refine (bits_Digit.calls a0 a1 t178 _ A10.out).mono ?_); rintro e w' ⟨rfl, ⟨nd, rfl⟩⟩) | (go_at_call 13; (with_reducible refine (tabardref02_Digit.calls k a0 a1 t179 _ A11.out).mono ?_); rintro e w27 ⟨rfl, hb⟩; have n0_ := Aside0.mk (below_step (bO HB.out) hb); clear HB; have HB := n0_; clear n0_; (try clear hb); (try clear hb2); (try clear hk); (try clear hi)))
     go_ret
     exact ⟨by first | rfl | (simp [errW_none, errW_some] <;> rfl) | (simp [*, errW_none, errW_some] <;> rfl), bO HB.out⟩
   ·rw [if_neg c13] at H
    have c13b0 : (t169 == t171) = false := beq_eq_false_iff_ne.mpr c13
    have c13b1 : (t169 != t171) = true := bne_iff_ne.mpr c13
    obtain rfl := Option.some.inj H
    go_enter Try.func3, Try.ntmps3
    go_wp2_with (first | ((with_reducible refine gate_callee (f := 7) rfl ?_); refine goesL_ (some 19) rfl rfl Try.func7 (by kernel_rfl) rfl #[.int .i64 a0, .int .i64 a1, .int .i64 a2] rfl mO ?_; (with_reducible refine (bits_Insert.calls a0 a1 a2 t169 t170 _ A4.out).mono ?_); rintro e w' ⟨rfl, ⟨nd, rfl⟩⟩; refine ⟨_, rfl, ?_⟩) | ((with_reducible refine gate_callee (f := 8) rfl ?_); refine goesL_ (some 26) rfl rfl Try.func8 (by kernel_rfl) rfl #[.int .i64 a0, .int .i64 a1, .int .i64 a2] rfl mO ?_; (with_reducible refine (tabardref02_Insert.calls k a0 a1 a2 t171 t172 _ A5.out).mono ?_); rintro e w28 ⟨rfl, hb⟩; refine ⟨_, rfl, ?_⟩; have n0_ := Aside0.mk (below_step (bO HB.out) hb); clear HB; have HB := n0_; clear n0_; (try clear hb); (try clear hb2); (try clear hk); (try clear hi)) | ((with_reducible refine gate_callee (f := 9) rfl ?_); refine goesL_ (some 32) rfl rfl Try.func9 (by kernel_rfl) rfl #[.int .i64 a0, .int .i64 a1] rfl mO ?_; (with_reducible refine (bits_Remove.calls a0 a1 t173 t174 _ A6.out).mono ?_); rintro e w' ⟨rfl, ⟨nd, rfl⟩⟩; refine ⟨_, rfl, ?_⟩) | ((with_reducible refine gate_callee (f := 10) rfl ?_); refine goesL_ (some 38) rfl rfl Try.func10 (by kernel_rfl) rfl #[.int .i64 a0, .int .i64 a1] rfl mO ?_; (with_reducible refine (tabardref02_Remove.calls k a0 a1 t175 t176 _ A7.out).mono ?_); rintro e w29 ⟨rfl, hb⟩; refine ⟨_, rfl, ?_⟩; have n0_ := Aside0.mk (below_step (bO HB.out) hb); clear HB; have HB := n0_; clear n0_; (try clear hb); (try clear hb2); (try clear hk); (try clear hi)) | ((with_reducible refine gate_callee (f := 11) rfl ?_); refine goesL_ (some 41) rfl rfl Try.func11 (by kernel_rfl) rfl #[] rfl mO ?_; (with_reducible refine (tabardlaw02_fixed.calls  true _ A8.out).mono ?_); rintro e w30 ⟨rfl, hb⟩; refine ⟨_, rfl, ?_⟩; have n0_ := Aside0.mk (below_step (bO HB.out) hb); clear HB; have HB := n0_; clear n0_; (try clear hb); (try clear hb2); (try clear hk); (try clear hi)) | (go_at_call 12; (with_reducible refine (bits_Digit.calls a0 a1 t178 _ A10.out).mono ?_); rintro e w' ⟨rfl, ⟨nd, rfl⟩⟩) | (go_at_call 13; (with_reducible refine (tabardref02_Digit.calls k a0 a1 t179 _ A11.out).mono ?_); rintro e w31 ⟨rfl, hb⟩; have n0_ := Aside0.mk (below_step (bO HB.out) hb); clear HB; have HB := n0_; clear n0_; (try clear hb); (try clear hb2); (try clear hk); (try clear hi)))
    go_ret
    exact ⟨by first | rfl | (simp [errW_none, errW_some] <;> rfl) | (simp [*, errW_none, errW_some] <;> rfl), bO HB.out⟩
  ·rw [if_neg c12] at H
   have c12b0 : (t178 == t179) = false := beq_eq_false_iff_ne.mpr c12
   have c12b1 : (t178 != t179) = true := bne_iff_ne.mpr c12
   obtain rfl := Option.some.inj H
   go_enter Try.func3, Try.ntmps3
   go_wp2_with (first | ((with_reducible refine gate_callee (f := 7) rfl ?_); refine goesL_ (some 19) rfl rfl Try.func7 (by kernel_rfl) rfl #[.int .i64 a0, .int .i64 a1, .int .i64 a2] rfl mO ?_; (with_reducible refine (bits_Insert.calls a0 a1 a2 t169 t170 _ A4.out).mono ?_); rintro e w' ⟨rfl, ⟨nd, rfl⟩⟩; refine ⟨_, rfl, ?_⟩) | ((with_reducible refine gate_callee (f := 8) rfl ?_); refine goesL_ (some 26) rfl rfl Try.func8 (by kernel_rfl) rfl #[.int .i64 a0, .int .i64 a1, .int .i64 a2] rfl mO ?_; (with_reducible refine (tabardref02_Insert.calls k a0 a1 a2 t171 t172 _ A5.out).mono ?_); rintro e w32 ⟨rfl, hb⟩; refine ⟨_, rfl, ?_⟩; have n0_ := Aside0.mk (below_step (bO HB.out) hb); clear HB; have HB := n0_; clear n0_; (try clear hb); (try clear hb2); (try clear hk); (try clear hi)) | ((with_reducible refine gate_callee (f := 9) rfl ?_); refine goesL_ (some 32) rfl rfl Try.func9 (by kernel_rfl) rfl #[.int .i64 a0, .int .i64 a1] rfl mO ?_; (with_reducible refine (bits_Remove.calls a0 a1 t173 t174 _ A6.out).mono ?_); rintro e w' ⟨rfl, ⟨nd, rfl⟩⟩; refine ⟨_, rfl, ?_⟩) | ((with_reducible refine gate_callee (f := 10) rfl ?_); refine goesL_ (some 38) rfl rfl Try.func10 (by kernel_rfl) rfl #[.int .i64 a0, .int .i64 a1] rfl mO ?_; (with_reducible refine (tabardref02_Remove.calls k a0 a1 t175 t176 _ A7.out).mono ?_); rintro e w33 ⟨rfl, hb⟩; refine ⟨_, rfl, ?_⟩; have n0_ := Aside0.mk (below_step (bO HB.out) hb); clear HB; have HB := n0_; clear n0_; (try clear hb); (try clear hb2); (try clear hk); (try clear hi)) | ((with_reducible refine gate_callee (f := 11) rfl ?_); refine goesL_ (some 41) rfl rfl Try.func11 (by kernel_rfl) rfl #[] rfl mO ?_; (with_reducible refine (tabardlaw02_fixed.calls  true _ A8.out).mono ?_); rintro e w34 ⟨rfl, hb⟩; refine ⟨_, rfl, ?_⟩; have n0_ := Aside0.mk (below_step (bO HB.out) hb); clear HB; have HB := n0_; clear n0_; (try clear hb); (try clear hb2); (try clear hk); (try clear hi)) | (go_at_call 12; (with_reducible refine (bits_Digit.calls a0 a1 t178 _ A10.out).mono ?_); rintro e w' ⟨rfl, ⟨nd, rfl⟩⟩) | (go_at_call 13; (with_reducible refine (tabardref02_Digit.calls k a0 a1 t179 _ A11.out).mono ?_); rintro e w35 ⟨rfl, hb⟩; have n0_ := Aside0.mk (below_step (bO HB.out) hb); clear HB; have HB := n0_; clear n0_; (try clear hb); (try clear hb2); (try clear hk); (try clear hi)))
   go_ret
   exact ⟨by first | rfl | (simp [errW_none, errW_some] <;> rfl) | (simp [*, errW_none, errW_some] <;> rfl), bO HB.out⟩
 ·replace c9 := Bool.eq_false_iff.mpr c9
  subst c9
  have H1 : (some false) = some r := by rw [if_neg (show ¬ (false = true) by decide)] at H; exact H
  clear H
  have H := H1
  clear H1
  obtain rfl := Option.some.inj H
  go_enter Try.func3, Try.ntmps3
  go_wp2_with (first | ((with_reducible refine gate_callee (f := 7) rfl ?_); refine goesL_ (some 19) rfl rfl Try.func7 (by kernel_rfl) rfl #[.int .i64 a0, .int .i64 a1, .int .i64 a2] rfl mO ?_; (with_reducible refine (bits_Insert.calls a0 a1 a2 t169 t170 _ A4.out).mono ?_); rintro e w' ⟨rfl, ⟨nd, rfl⟩⟩; refine ⟨_, rfl, ?_⟩) | ((with_reducible refine gate_callee (f := 8) rfl ?_); refine goesL_ (some 26) rfl rfl Try.func8 (by kernel_rfl) rfl #[.int .i64 a0, .int .i64 a1, .int .i64 a2] rfl mO ?_; (with_reducible refine (tabardref02_Insert.calls k a0 a1 a2 t171 t172 _ A5.out).mono ?_); rintro e w36 ⟨rfl, hb⟩; refine ⟨_, rfl, ?_⟩; have n0_ := Aside0.mk (below_step (bO HB.out) hb); clear HB; have HB := n0_; clear n0_; (try clear hb); (try clear hb2); (try clear hk); (try clear hi)) | ((with_reducible refine gate_callee (f := 9) rfl ?_); refine goesL_ (some 32) rfl rfl Try.func9 (by kernel_rfl) rfl #[.int .i64 a0, .int .i64 a1] rfl mO ?_; (with_reducible refine (bits_Remove.calls a0 a1 t173 t174 _ A6.out).mono ?_); rintro e w' ⟨rfl, ⟨nd, rfl⟩⟩; refine ⟨_, rfl, ?_⟩) | ((with_reducible refine gate_callee (f := 10) rfl ?_); refine goesL_ (some 38) rfl rfl Try.func10 (by kernel_rfl) rfl #[.int .i64 a0, .int .i64 a1] rfl mO ?_; (with_reducible refine (tabardref02_Remove.calls k a0 a1 t175 t176 _ A7.out).mono ?_); rintro e w37 ⟨rfl, hb⟩; refine ⟨_, rfl, ?_⟩; have n0_ := Aside0.mk (below_step (bO HB.out) hb); clear HB; have HB := n0_; clear n0_; (try clear hb); (try clear hb2); (try clear hk); (try clear hi)) | ((with_reducible refine gate_callee (f := 11) rfl ?_); refine goesL_ (some 41) rfl rfl Try.func11 (by kernel_rfl) rfl #[] rfl mO ?_; (with_reducible refine (tabardlaw02_fixed.calls  false _ A8.out).mono ?_); rintro e w38 ⟨rfl, hb⟩; refine ⟨_, rfl, ?_⟩; have n0_ := Aside0.mk (below_step (bO HB.out) hb); clear HB; have HB := n0_; clear n0_; (try clear hb); (try clear hb2); (try clear hk); (try clear hi)))
  go_ret
  exact ⟨by first | rfl | (simp [errW_none, errW_some] <;> rfl) | (simp [*, errW_none, errW_some] <;> rfl), bO HB.out⟩

/-- THE ONE PURE STATEMENT of tabardlaw02_BitsLetters: yours. -/
def tabardlaw02_BitsLetters.Pure : Prop := ∀ (a0 : Int) (a1 : Int) (a2 : Int), (Lit.int .i64 a0).wf = true → (Lit.int .i64 a1).wf = true → (Lit.int .i64 a2).wf = true → ∃ k, tabardlaw02_BitsLetters.f k a0 a1 a2 = some true
theorem tabardlaw02_BitsLetters.walk (P : tabardlaw02_BitsLetters.Pure) (a0 : Int) (a1 : Int) (a2 : Int) (w : World) (w0 : (Lit.int .i64 a0).wf = true) (w1 : (Lit.int .i64 a1).wf = true) (w2 : (Lit.int .i64 a2).wf = true) :
  Calls Try.prog 3 #[.int .i64 a0, .int .i64 a1, .int .i64 a2] w fun e w' => e = .returned (.bool true) ∧ Below w.heap.size w w' := by
 obtain ⟨k, h⟩ := P a0 a1 a2 w0 w1 w2
 refine (tabardlaw02_BitsLetters.calls k a0 a1 a2 true w h).mono ?_
 rintro e w' ⟨rfl, hd⟩
 exact ⟨rfl, hd⟩

end Go.Proofs.Ytpekanolhgcljaa.X

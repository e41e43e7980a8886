/- What the functions of this seat compute, and that the program's calls come to just that: written by this session's own program out of the translation; no condition. -/
import Derived.Test.YtghfclgcgecgdaaX0
import Derived.Test.YtghfclgcgecgdaaX41
namespace Go.Proofs.Ytghfclgcgecgdaa.X
open Go.RowKit Go.Proofs.YtghfclgcgecgdaaW.PrintWords Go.Proofs.YtghfclgcgecgdaaW.PrintLast Go.Proofs.YtghfclgcgecgdaaW.PrintMore
attribute [local go_sem] max2_int min2_int max_two min_two max_three min_three max_four min_four   -- for this text's walks alone
set_option linter.unusedVariables false
set_option linter.unusedSimpArgs false

/-! ### tabardref11_Right: function 45 -/
def tabardref11_Right.l0 : Nat → Int → List Int → Int → Option (Bool)
 | 0, _, _, _ => none
 | k + 1, x2, x7, x9 => if x9 < (x7.length : Int) then (if 0 ≤ x9 then (if (rd x7 x9) ≥ x2 then (some false) else (tabardref11_Right.l0 k x2 x7 (wrap64 (x9 + 1)))) else (none)) else (some true)
def tabardref11_Right.f (k : Nat) (l0 : List (S58)) (a1 : Int) (a2 : Int) : Option (Bool) := (tabardref11_Unpack.f k l0 a1).bind fun bt561 => (if bt561.2 = 0 then (tabardref11_Right.l0 k a2 bt561.1 0) else (some false))
theorem tabardref11_Right.mono_l : ∀ k, (∀ y0 y1 y2, LeO (tabardref11_Right.l0 k y0 y1 y2) (tabardref11_Right.l0 (k + 1) y0 y1 y2))
 | 0 => fun _ _ _ r h => by simp [tabardref11_Right.l0] at h
 | k + 1 => by
  have ih0 := tabardref11_Right.mono_l k
  ·intro y0 y1 y2
   unfold tabardref11_Right.l0
   repeat' first
   | (with_reducible exact ih0 _ _ _)
   | (with_reducible exact tabardref11_Unpack.mono _ _ _)
   | (with_reducible exact LeO.refl _)
   | (with_reducible exact LeO.none _)
   | (with_reducible refine LeO.ite ?_ ?_)
   | (with_reducible refine LeO.bind ?_ (fun _ => ?_))
   | exact LeO.none _
   | refine LeO.ite ?_ ?_
   | refine LeO.bind ?_ (fun _ => ?_)
theorem tabardref11_Right.mono : ∀ a0 a1 a2 k, LeO (tabardref11_Right.f k a0 a1 a2) (tabardref11_Right.f (k + 1) a0 a1 a2) := by
 intro a0 a1 a2 k; have ih0 := tabardref11_Right.mono_l k
 unfold tabardref11_Right.f
 repeat' first
   | (with_reducible exact ih0 _ _ _)
   | (with_reducible exact tabardref11_Unpack.mono _ _ _)
   | (with_reducible exact LeO.refl _)
   | (with_reducible exact LeO.none _)
   | (with_reducible refine LeO.ite ?_ ?_)
   | (with_reducible refine LeO.bind ?_ (fun _ => ?_))
   | exact LeO.none _
   | refine LeO.ite ?_ ?_
   | refine LeO.bind ?_ (fun _ => ?_)
set_option maxHeartbeats 8000000 in
set_option maxRecDepth 100000 in
theorem tabardref11_Right.calls (k : Nat) (A0 : Option Addr) (c0 : Nat) (l0 : List (S58)) (a1 : Int) (a2 : Int) (r : Bool) (w : World) (hr0 : Kd.C k58 w A0 l0.length l0) (hc0 : l0.length ≤ c0) (h : tabardref11_Right.f k l0 a1 a2 = some r) :
  Calls Try.prog 45 #[.slice A0 l0.length c0, .int .i64 a1, .int .i64 a2] w fun e w' => e = .returned (.bool r) ∧ Below w.heap.size w w' := by
 have HR0 := Aside0.mk hr0; have HC0 := Aside0.mk hc0; clear hr0 hc0; have HB := Aside0.mk (Below.refl w.heap.size w); have H : ((tabardref11_Unpack.f k l0 a1).bind fun bt561 => (if bt561.2 = 0 then (tabardref11_Right.l0 k a2 bt561.1 0) else (some false))) = some r := h; clear h; replace H := Option.bind_eq_some_iff.mp H; obtain ⟨⟨t561, t562⟩, A40, H⟩ := H; replace H : (if t562 = 0 then (tabardref11_Right.l0 k a2 t561 0) else (some false)) = some r := H; have A4 := Aside0.mk A40; clear A40
 by_cases c5 : t562 = 0
 ·rw [if_pos c5] at H; have c5b0 : (t562 == 0) = true := beq_iff_eq.mpr c5; have c5b1 : (t562 != 0) = false := bne_eq_false_iff_eq.mpr c5; clear c5; have H' := Aside0.mk H; clear H
  go_enter Try.func45, Try.ntmps45
  go_wp2_with (first | ((with_reducible refine gate_callee (f := 46) rfl ?_); refine goesL_ (some 13) rfl rfl Try.func46 (by kernel_rfl) rfl #[.slice A0 l0.length c0, .int .i64 a1] rfl mO ?_; (with_reducible refine (tabardref11_Unpack.calls k _ _ l0 a1 t561 t562 _ ?s1 ?s2 A4.out).mono ?_); (case s1 => exact cO HR0.out); (case s2 => exact HC0.out); rintro e w6 ⟨v563, rfl, ho0, hb⟩; refine ⟨_, rfl, ?_⟩; have HO564 := rW ho0 (bO HB.out); replace HB := hS0 HB hb; (try clear hb); (try clear hb2); (try clear hk); (try clear hi); (try clear ho0)))
  go_loopg [9] k (fun kq v9 w' => ∃ (x9_1 : Int), v9 = .int .i64 x9_1 ∧ Aside0 (tabardref11_Right.l0 kq a2 t561 x9_1 = some r) ∧ Aside0 (kq ≤ k) ∧ Aside0 (Kd.R (Kd.int .i64) 3 w' w.heap.size (fun _ => True) v563 t561) ∧ Aside0 (Below w.heap.size w w'))
  case atStart => exact ⟨(0), (by first | rfl | (simp; done) | (simp [*]; done)), H', ⟨Nat.le_refl _⟩, ⟨rO HO564.out⟩, ⟨bO HB.out⟩⟩
  case round =>
   clear H'
   try clear p2
   try clear c4
   try clear c5
   try clear c5b0
   try clear c5b1
   obtain ⟨x9_1, rfl, HA, HK1, HO_7, HB⟩ := hrel; cases gk with
   | zero => exact absurd HA.out (by simp [tabardref11_Right.l0])
   | succ k1 =>
    have H := HA.out; clear HA; simp only [tabardref11_Right.l0] at H
    by_cases c7 : x9_1 < (t561.length : Int)
    ·rw [if_pos c7] at H; have c7b0 : decide (x9_1 < (t561.length : Int)) = true := decide_eq_true c7; clear c7
     by_cases c8 : 0 ≤ x9_1
     ·rw [if_pos c8] at H; have c8b0 : decide (0 ≤ x9_1) = true := decide_eq_true c8; clear c8
      by_cases c9 : (rd t561 x9_1) ≥ a2
      ·rw [if_pos c9] at H; have c9b0 : decide (a2 ≤ (rd t561 x9_1)) = true := decide_eq_true c9; clear c9; obtain rfl := Option.some.inj H; obtain ⟨Ao10, co10, eo10⟩ := Kd.R_slice HO_7.out; subst eo10; have p565 : 0 ≤ (x9_1 : Int) := of_decide_eq_true aO; have q565 : x9_1 < (t561.length : Int) := of_decide_eq_true aO; obtain ⟨ad565, e565, hx565_0⟩ := Kd.at_int (Kd.R_reads' HO_7.out).2.2 x9_1 p565 q565; cases e565; replace p565 := eq_true p565; replace q565 := eq_true q565
       go_wp2
       go_ret
       exact ⟨eW, bO HB.out⟩
      ·rw [if_neg c9] at H; have c9b0 : decide (a2 ≤ (rd t561 x9_1)) = false := decide_eq_false c9; clear c9; have H' := Aside0.mk H; clear H; obtain ⟨Ao11, co11, eo11⟩ := Kd.R_slice HO_7.out; subst eo11; have p565 : 0 ≤ (x9_1 : Int) := of_decide_eq_true aO; have q565 : x9_1 < (t561.length : Int) := of_decide_eq_true aO; obtain ⟨ad565, e565, hx565_0⟩ := Kd.at_int (Kd.R_reads' HO_7.out).2.2 x9_1 p565 q565; cases e565; replace p565 := eq_true p565; replace q565 := eq_true q565
       go_wp2
       go_roundg k1
       case measure => have := HK1.out; omega
       case rel => exact ⟨(wrap64 (x9_1 + 1)), (by first | rfl | (simp; done) | (simp [*]; done)), H', ⟨by have := HK1.out; omega⟩, ⟨rO HO_7.out⟩, ⟨bO HB.out⟩⟩
     ·rw [if_neg c8] at H; exact absurd H (by simp)
    ·rw [if_neg c7] at H; have c7b0 : decide (x9_1 < (t561.length : Int)) = false := decide_eq_false c7; clear c7; obtain rfl := Option.some.inj H; obtain ⟨Ao12, co12, eo12⟩ := Kd.R_slice HO_7.out; subst eo12
     go_wp2
     go_ret
     exact ⟨eW, bO HB.out⟩
 ·rw [if_neg c5] at H; have c5b0 : (t562 == 0) = false := beq_eq_false_iff_ne.mpr c5; have c5b1 : (t562 != 0) = true := bne_iff_ne.mpr c5; obtain rfl := Option.some.inj H
  go_enter Try.func45, Try.ntmps45
  go_wp2_with (first | ((with_reducible refine gate_callee (f := 46) rfl ?_); refine goesL_ (some 13) rfl rfl Try.func46 (by kernel_rfl) rfl #[.slice A0 l0.length c0, .int .i64 a1] rfl mO ?_; (with_reducible refine (tabardref11_Unpack.calls k _ _ l0 a1 t561 t562 _ ?s1 ?s2 A4.out).mono ?_); (case s1 => exact cO HR0.out); (case s2 => exact HC0.out); rintro e w13 ⟨v563, rfl, ho0, hb⟩; refine ⟨_, rfl, ?_⟩; have HO564 := rW ho0 (bO HB.out); replace HB := hS0 HB hb; (try clear hb); (try clear hb2); (try clear hk); (try clear hi); (try clear ho0)))
  go_ret
  exact ⟨eW, bO HB.out⟩

end Go.Proofs.Ytghfclgcgecgdaa.X

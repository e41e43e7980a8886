/- What the functions of this seat compute, and that the program's calls come to just that: written by this session's own program out of the translation; no condition. -/
import Derived.Test.YtghfclgcgecgdaaX0
import Derived.Test.YtghfclgcgecgdaaX6
import Derived.Test.YtghfclgcgecgdaaX13
namespace Go.Proofs.Ytghfclgcgecgdaa.X
open Go.RowKit Go.Proofs.YtghfclgcgecgdaaW.PrintWords Go.Proofs.YtghfclgcgecgdaaW.PrintLast Go.Proofs.YtghfclgcgecgdaaW.PrintMore
attribute [local go_sem] max2_int min2_int max_two min_two max_three min_three max_four min_four   -- for this text's walks alone
set_option linter.unusedVariables false
set_option linter.unusedSimpArgs false

/-! ### row_Right: function 55 -/
def row_Right.f (k : Nat) (l0 : List (S58)) (a1 : Int) (a2 : Int) : Option (Bool) := (row_Unpack.f k l0 a1).bind fun bt170 => (if bt170.2 = 0 then ((slices_Max_int_int.f k bt170.1).bind fun t174 => (some (decide (t174 < a2)))) else (some false))
theorem row_Right.mono : ∀ a0 a1 a2 k, LeO (row_Right.f k a0 a1 a2) (row_Right.f (k + 1) a0 a1 a2) := by
 intro a0 a1 a2 k
 unfold row_Right.f
 repeat' first
   | (with_reducible exact row_Unpack.mono _ _ _)
   | (with_reducible exact slices_Max_int_int.mono _ _)
   | (with_reducible exact LeO.refl _)
   | (with_reducible exact LeO.none _)
   | (with_reducible refine LeO.ite ?_ ?_)
   | (with_reducible refine LeO.bind ?_ (fun _ => ?_))
   | exact LeO.none _
   | refine LeO.ite ?_ ?_
   | refine LeO.bind ?_ (fun _ => ?_)
set_option maxHeartbeats 8000000 in
set_option maxRecDepth 100000 in
theorem row_Right.calls (k : Nat) (A0 : Option Addr) (c0 : Nat) (l0 : List (S58)) (a1 : Int) (a2 : Int) (r : Bool) (w : World) (hr0 : Kd.C k58 w A0 l0.length l0) (hc0 : l0.length ≤ c0) (h : row_Right.f k l0 a1 a2 = some r) :
  Calls Try.prog 55 #[.slice A0 l0.length c0, .int .i64 a1, .int .i64 a2] w fun e w' => e = .returned (.bool r) ∧ Below w.heap.size w w' := by
 have HR0 := Aside0.mk hr0; have HC0 := Aside0.mk hc0; clear hr0 hc0; have HB := Aside0.mk (Below.refl w.heap.size w); have H : ((row_Unpack.f k l0 a1).bind fun bt170 => (if bt170.2 = 0 then ((slices_Max_int_int.f k bt170.1).bind fun t174 => (some (decide (t174 < a2)))) else (some false))) = some r := h; clear h; replace H := Option.bind_eq_some_iff.mp H; obtain ⟨⟨t170, t171⟩, A40, H⟩ := H; replace H : (if t171 = 0 then ((slices_Max_int_int.f k t170).bind fun t174 => (some (decide (t174 < a2)))) else (some false)) = some r := H; have A4 := Aside0.mk A40; clear A40
 by_cases c5 : t171 = 0
 ·rw [if_pos c5] at H; have c5b0 : (t171 == 0) = true := beq_iff_eq.mpr c5; have c5b1 : (t171 != 0) = false := bne_eq_false_iff_eq.mpr c5; clear c5; replace H := Option.bind_eq_some_iff.mp H; obtain ⟨t174, A60, H⟩ := H; replace H : (some (decide (t174 < a2))) = some r := H; have A6 := Aside0.mk A60; clear A60; obtain rfl := Option.some.inj H
  go_enter Try.func55, Try.ntmps55
  go_wp2_with (first | ((with_reducible refine gate_callee (f := 53) rfl ?_); refine goesL_ (some 12) rfl rfl Try.func53 (by kernel_rfl) rfl #[.slice A0 l0.length c0, .int .i64 a1] rfl mO ?_; (with_reducible refine (row_Unpack.calls k _ _ l0 a1 t170 t171 _ ?s1 ?s2 A4.out).mono ?_); (case s1 => exact cO HR0.out); (case s2 => exact HC0.out); rintro e w7 ⟨v172, rfl, ho0, hb⟩; refine ⟨_, rfl, ?_⟩; have HO173 := rW ho0 (bO HB.out); replace HB := hS0 HB hb; (try clear hb); (try clear hb2); (try clear hk); (try clear hi); (try clear ho0); obtain ⟨Ao8, co8, eo8⟩ := Kd.R_slice HO173.out; subst eo8) | (go_at_call 40; (with_reducible refine (slices_Max_int_int.calls k _ _ t170 t174 _ ?s1 ?s2 A6.out).mono ?_); (case s1 => exact cO (Kd.R_reads' HO173.out).2.2); (case s2 => exact (Kd.R_reads' HO173.out).2.1); rintro e w9 ⟨rfl, hb⟩; replace HO173 := rB HO173 hb; replace HB := hS0 HB hb; (try clear hb); (try clear hb2); (try clear hk); (try clear hi)))
  go_ret
  exact ⟨eW, bO HB.out⟩
 ·rw [if_neg c5] at H; have c5b0 : (t171 == 0) = false := beq_eq_false_iff_ne.mpr c5; have c5b1 : (t171 != 0) = true := bne_iff_ne.mpr c5; obtain rfl := Option.some.inj H
  go_enter Try.func55, Try.ntmps55
  go_wp2_with (first | ((with_reducible refine gate_callee (f := 53) rfl ?_); refine goesL_ (some 12) rfl rfl Try.func53 (by kernel_rfl) rfl #[.slice A0 l0.length c0, .int .i64 a1] rfl mO ?_; (with_reducible refine (row_Unpack.calls k _ _ l0 a1 t170 t171 _ ?s1 ?s2 A4.out).mono ?_); (case s1 => exact cO HR0.out); (case s2 => exact HC0.out); rintro e w10 ⟨v172, rfl, ho0, hb⟩; refine ⟨_, rfl, ?_⟩; have HO173 := rW ho0 (bO HB.out); replace HB := hS0 HB hb; (try clear hb); (try clear hb2); (try clear hk); (try clear hi); (try clear ho0)))
  go_ret
  exact ⟨eW, bO HB.out⟩

end Go.Proofs.Ytghfclgcgecgdaa.X

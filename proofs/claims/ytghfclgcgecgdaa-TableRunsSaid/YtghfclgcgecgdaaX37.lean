/- What the functions of this seat compute, and that the program's calls come to just that: written by this session's own program out of the translation; no condition. -/
import Derived.Test.YtghfclgcgecgdaaX0
import Derived.Test.YtghfclgcgecgdaaX35
import Derived.Test.YtghfclgcgecgdaaX36
namespace Go.Proofs.Ytghfclgcgecgdaa.X
open Go.RowKit Go.Proofs.YtghfclgcgecgdaaW.PrintWords Go.Proofs.YtghfclgcgecgdaaW.PrintLast Go.Proofs.YtghfclgcgecgdaaW.PrintMore
attribute [local go_sem] max2_int min2_int max_two min_two max_three min_three max_four min_four   -- for this text's walks alone
set_option linter.unusedVariables false
set_option linter.unusedSimpArgs false

/-! ### tabardref11_Cubes: function 63 -/
def tabardref11_Cubes.f : Nat → List Int → Int → Int → Option ((List (S58)))
 | 0, _, _, _ => none
 | k + 1, l0, a1, a2 => if (l0.length : Int) = 1 then (if 0 < (l0.length : Int) then (some (([(⟨a1, a2, rd l0 0⟩ : S58)] : List (S58)))) else (none)) else ((tabardref11_half.f k l0 0).bind fun t449 => ((tabardref11_half.f k l0 1).bind fun t452 => ((tabardref11_same.f k t449 t452).bind fun t455 => (if t455 = true then ((tabardref11_Cubes.f k t449 a1 a2).bind fun t456 => (some t456)) else ((tabardref11_Cubes.f k t449 (wrap64 (a1 + (t449.length : Int))) a2).bind fun t459 => ((tabardref11_Cubes.f k t452 (wrap64 (a1 + (t449.length : Int))) (wrap64 (a2 + (t449.length : Int)))).bind fun t462 => (if t459.length + t462.length < 5864062014805 then (some (t459 ++ t462)) else (none))))))))
theorem tabardref11_Cubes.mono_l : ∀ k, (∀ y0 y1 y2, LeO (tabardref11_Cubes.f k y0 y1 y2) (tabardref11_Cubes.f (k + 1) y0 y1 y2))
 | 0 => fun _ _ _ r h => by simp [tabardref11_Cubes.f] at h
 | k + 1 => by
  have ih0 := tabardref11_Cubes.mono_l k
  ·intro y0 y1 y2
   unfold tabardref11_Cubes.f
   repeat' first
   | (with_reducible exact ih0 _ _ _)
   | (with_reducible exact tabardref11_half.mono _ _ _)
   | (with_reducible exact tabardref11_same.mono _ _ _)
   | (with_reducible exact LeO.refl _)
   | (with_reducible exact LeO.none _)
   | (with_reducible refine LeO.ite ?_ ?_)
   | (with_reducible refine LeO.bind ?_ (fun _ => ?_))
   | exact LeO.none _
   | refine LeO.ite ?_ ?_
   | refine LeO.bind ?_ (fun _ => ?_)
theorem tabardref11_Cubes.mono : ∀ a0 a1 a2 k, LeO (tabardref11_Cubes.f k a0 a1 a2) (tabardref11_Cubes.f (k + 1) a0 a1 a2) := by
 intro a0 a1 a2 k; have ih0 := tabardref11_Cubes.mono_l k; exact ih0 a0 a1 a2
set_option maxHeartbeats 8000000 in
set_option maxRecDepth 100000 in
theorem tabardref11_Cubes.calls (k : Nat) : ∀ (A0 : Option Addr) (c0 : Nat) (l0 : List Int) (a1 : Int) (a2 : Int) (r : List (S58)) (w : World) (hr0 : Kd.C (Kd.int .i64) w A0 l0.length l0) (hc0 : l0.length ≤ c0) (h : tabardref11_Cubes.f k l0 a1 a2 = some r),
  Calls Try.prog 63 #[.slice A0 l0.length c0, .int .i64 a1, .int .i64 a2] w fun e w' => ∃ v0_ : Value, e = .returned (v0_) ∧ Kd.R k58 58 w' w.heap.size (fun _ => True) v0_ r ∧ Below w.heap.size w w' := by
 induction k using Nat.strongRecOn with
 | _ k ih =>
 intro A0 c0 l0 a1 a2 r w hr0 hc0 h; cases k with
 | zero => exact absurd h (by simp [tabardref11_Cubes.f])
 | succ k =>
 simp only [tabardref11_Cubes.f] at h; have hu58 := Try.underlying58; have HR0 := Aside0.mk hr0; have HC0 := Aside0.mk hc0; clear hr0 hc0; have HB := Aside0.mk (Below.refl w.heap.size w); have H : (if (l0.length : Int) = 1 then (if 0 < (l0.length : Int) then (some (([(⟨a1, a2, rd l0 0⟩ : S58)] : List (S58)))) else (none)) else ((tabardref11_half.f k l0 0).bind fun t449 => ((tabardref11_half.f k l0 1).bind fun t452 => ((tabardref11_same.f k t449 t452).bind fun t455 => (if t455 = true then ((tabardref11_Cubes.f k t449 a1 a2).bind fun t456 => (some t456)) else ((tabardref11_Cubes.f k t449 (wrap64 (a1 + (t449.length : Int))) a2).bind fun t459 => ((tabardref11_Cubes.f k t452 (wrap64 (a1 + (t449.length : Int))) (wrap64 (a2 + (t449.length : Int)))).bind fun t462 => (if t459.length + t462.length < 5864062014805 then (some (t459 ++ t462)) else (none))))))))) = some r := h; clear h
 by_cases c4 : (l0.length : Int) = 1
 ·rw [if_pos c4] at H; have c4b0 : ((l0.length : Int) == 1) = true := beq_iff_eq.mpr c4; have c4b1 : ((l0.length : Int) != 1) = false := bne_eq_false_iff_eq.mpr c4; clear c4
  by_cases c5 : 0 < (l0.length : Int)
  ·rw [if_pos c5] at H; have c5b0 : decide (0 < (l0.length : Int)) = true := decide_eq_true c5; have c5b1 : decide (0 < l0.length) = true := decide_eq_true (by omega); clear c5; obtain ⟨y446, hy446⟩ : ∃ y_ : List (S58), y_ = (([(⟨a1, a2, rd l0 0⟩ : S58)] : List (S58))) := ⟨_, rfl⟩
   replace H : (some y446) = some r := by first | (rw [hy446]; with_reducible exact H) | (have H2_ := (Option.bind_some _ _).symm.trans H; rw [hy446]; with_reducible exact H2_) | (have H2_ := (Option.bind_some _ _).symm.trans H; with_reducible exact H2_) | with_reducible exact H | (rw [hy446]; exact H) | exact H
   have Ny446 := Aside0.mk hy446; clear hy446; obtain rfl := Option.some.inj H; have p445 : 0 ≤ (0 : Int) := (by omega); have q445 : 0 < (l0.length : Int) := of_decide_eq_true aO; obtain ⟨ad445, e445, hx445_0⟩ := Kd.at_int HR0.out 0 p445 q445; cases e445; have qi445 : (0 < l0.length) = True := eq_true (by omega)
   (try rw [show ((0 : Int)).toNat = 0 from rfl] at hx445_0)
   (try rw [Addr.add_zero'] at hx445_0)
   replace p445 := eq_true p445; replace q445 := eq_true q445
   go_enter Try.func63, Try.ntmps63
   go_wp2_with (first | ((with_reducible refine gate_dst (N := 20) rfl ?_); refine Kd.R_lit k58 _ 58 ?hg (N := 20) ?hd (xs := ([(⟨a1, a2, rd l0 0⟩ : S58)] : List (S58))) (inner := [.int .i64 a1, .int .i64 a2, .int .i64 (rd l0 0)]) (ok := fun _ => True) (okp := fun _ => True) ?hr ?hp (fun _ hk => hk) trivial (Below.refl _ _) (Nat.le_refl _) (by simp) ?_; (case hd => rfl); (case hg => rfl); (case hr => first | (go_simp; done) | (go_simp; rfl)); (case hp => exact (Reps.c3 (show Kd.M k58 _ _ _ (⟨a1, a2, rd l0 0⟩ : S58) [.int .i64 a1, .int .i64 a2, .int .i64 (rd l0 0)] from (k58_mkM _ _ _ (⟨a1, a2, rd l0 0⟩ : S58) )) (Reps.none _ _))); intro v447 w6 ho7 hb hg_ hnew_; clear hg_ hnew_; (first | rw [← Ny446.out] at ho7 | (simp only [Int.reduceToNat] at ho7; rw [← Ny446.out] at ho7)); have HO448 := rW ho7 (bO HB.out); replace HB := hS0 HB hb; clear hb ho7))
   go_ret
   exact ⟨_, eW, rO HO448.out, bO HB.out⟩
  ·rw [if_neg c5] at H; exact absurd H (by simp)
 ·rw [if_neg c4] at H; have c4b0 : ((l0.length : Int) == 1) = false := beq_eq_false_iff_ne.mpr c4; have c4b1 : ((l0.length : Int) != 1) = true := bne_iff_ne.mpr c4; replace H := Option.bind_eq_some_iff.mp H; obtain ⟨t449, A80, H⟩ := H; replace H : ((tabardref11_half.f k l0 1).bind fun t452 => ((tabardref11_same.f k t449 t452).bind fun t455 => (if t455 = true then ((tabardref11_Cubes.f k t449 a1 a2).bind fun t456 => (some t456)) else ((tabardref11_Cubes.f k t449 (wrap64 (a1 + (t449.length : Int))) a2).bind fun t459 => ((tabardref11_Cubes.f k t452 (wrap64 (a1 + (t449.length : Int))) (wrap64 (a2 + (t449.length : Int)))).bind fun t462 => (if t459.length + t462.length < 5864062014805 then (some (t459 ++ t462)) else (none))))))) = some r := H; have A8 := Aside0.mk A80; clear A80; replace H := Option.bind_eq_some_iff.mp H; obtain ⟨t452, A90, H⟩ := H; replace H : ((tabardref11_same.f k t449 t452).bind fun t455 => (if t455 = true then ((tabardref11_Cubes.f k t449 a1 a2).bind fun t456 => (some t456)) else ((tabardref11_Cubes.f k t449 (wrap64 (a1 + (t449.length : Int))) a2).bind fun t459 => ((tabardref11_Cubes.f k t452 (wrap64 (a1 + (t449.length : Int))) (wrap64 (a2 + (t449.length : Int)))).bind fun t462 => (if t459.length + t462.length < 5864062014805 then (some (t459 ++ t462)) else (none)))))) = some r := H; have A9 := Aside0.mk A90; clear A90; replace H := Option.bind_eq_some_iff.mp H; obtain ⟨t455, A100, H⟩ := H; replace H : (if t455 = true then ((tabardref11_Cubes.f k t449 a1 a2).bind fun t456 => (some t456)) else ((tabardref11_Cubes.f k t449 (wrap64 (a1 + (t449.length : Int))) a2).bind fun t459 => ((tabardref11_Cubes.f k t452 (wrap64 (a1 + (t449.length : Int))) (wrap64 (a2 + (t449.length : Int)))).bind fun t462 => (if t459.length + t462.length < 5864062014805 then (some (t459 ++ t462)) else (none))))) = some r := H; have A10 := Aside0.mk A100; clear A100
  by_cases c11 : t455 = true
  ·subst c11
   have H1 : ((tabardref11_Cubes.f k t449 a1 a2).bind fun t456 => (some t456)) = some r := by rw [if_pos rfl] at H; exact H
   clear H; have H := H1; clear H1; replace H := Option.bind_eq_some_iff.mp H; obtain ⟨t456, A120, H⟩ := H; replace H : (some t456) = some r := H; have A12 := Aside0.mk A120; clear A120; obtain rfl := Option.some.inj H
   go_enter Try.func63, Try.ntmps63
   go_wp2_with (first | ((with_reducible refine gate_callee (f := 69) rfl ?_); refine goesL_ (some 22) rfl rfl Try.func69 (by kernel_rfl) rfl #[.slice A0 l0.length c0, .int .i64 0] rfl mO ?_; (with_reducible refine (tabardref11_half.calls k _ _ l0 0 t449 _ ?s1 ?s2 A8.out).mono ?_); (case s1 => exact cO HR0.out); (case s2 => exact HC0.out); rintro e w13 ⟨v450, rfl, ho0, hb⟩; refine ⟨_, rfl, ?_⟩; have HO451 := rW ho0 (bO HB.out); replace HB := hS0 HB hb; (try clear hb); (try clear hb2); (try clear hk); (try clear hi); (try clear ho0)) | ((with_reducible refine gate_callee (f := 69) rfl ?_); refine goesL_ (some 24) rfl rfl Try.func69 (by kernel_rfl) rfl #[.slice A0 l0.length c0, .int .i64 1] rfl mO ?_; (with_reducible refine (tabardref11_half.calls k _ _ l0 1 t452 _ ?s1 ?s2 A9.out).mono ?_); (case s1 => exact cB HR0 HB); (case s2 => exact HC0.out); rintro e w14 ⟨v453, rfl, ho0, hb⟩; refine ⟨_, rfl, ?_⟩; have HO454 := rW (Kd.R_new' ho0 (Kd.R_lt (rO HO451.out))) (bO HB.out); replace HO451 := Aside0.mk (Kd.R_elder' (rO HO451.out) (Kd.R_base ho0) hb); replace HB := hS0 HB hb; (try clear hb); (try clear hb2); (try clear hk); (try clear hi); (try clear ho0); obtain ⟨Ao15, co15, eo15⟩ := Kd.R_slice HO451.out; subst eo15; obtain ⟨Ao16, co16, eo16⟩ := Kd.R_slice HO454.out; subst eo16) | ((with_reducible refine gate_callee (f := 70) rfl ?_); refine goesL_ (some 27) rfl rfl Try.func70 (by kernel_rfl) rfl #[.slice Ao15 t449.length co15, .slice Ao16 t452.length co16] rfl mO ?_; (with_reducible refine (tabardref11_same.calls k _ _ t449 _ _ t452 true _ ?s1 ?s2 ?s3 ?s4 A10.out).mono ?_); (case s1 => exact cO (Kd.R_reads' HO451.out).2.2); (case s2 => exact (Kd.R_reads' HO451.out).2.1); (case s3 => exact cO (Kd.R_reads' HO454.out).2.2); (case s4 => exact (Kd.R_reads' HO454.out).2.1); rintro e w' ⟨rfl, ⟨nd, rfl⟩⟩; refine ⟨_, rfl, ?_⟩) | ((with_reducible refine gate_callee (f := 63) rfl ?_); refine goesL_ (some 31) rfl rfl Try.func63 (by kernel_rfl) rfl #[.slice Ao15 t449.length co15, .int .i64 a1, .int .i64 a2] rfl mO ?_; (with_reducible refine (ih k (by omega) _ _ t449 a1 a2 t456 _ ?s1 ?s2 A12.out).mono ?_); (case s1 => exact cO (Kd.R_reads' HO451.out).2.2); (case s2 => exact (Kd.R_reads' HO451.out).2.1); rintro e w17 ⟨v457, rfl, ho0, hb⟩; refine ⟨_, rfl, ?_⟩; replace HO451 := rB HO451 hb; replace HO454 := rB HO454 hb; have HO458 := rW ho0 (bO HB.out); replace HB := hS0 HB hb; (try clear hb); (try clear hb2); (try clear hk); (try clear hi); (try clear ho0)))
   go_ret
   exact ⟨_, eW, rO HO458.out, bO HB.out⟩
  ·replace c11 := Bool.eq_false_iff.mpr c11; subst c11
   have H1 : ((tabardref11_Cubes.f k t449 (wrap64 (a1 + (t449.length : Int))) a2).bind fun t459 => ((tabardref11_Cubes.f k t452 (wrap64 (a1 + (t449.length : Int))) (wrap64 (a2 + (t449.length : Int)))).bind fun t462 => (if t459.length + t462.length < 5864062014805 then (some (t459 ++ t462)) else (none)))) = some r := by rw [if_neg (show ¬ (false = true) by decide)] at H; exact H
   clear H; have H := H1; clear H1; replace H := Option.bind_eq_some_iff.mp H; obtain ⟨t459, A180, H⟩ := H; replace H : ((tabardref11_Cubes.f k t452 (wrap64 (a1 + (t449.length : Int))) (wrap64 (a2 + (t449.length : Int)))).bind fun t462 => (if t459.length + t462.length < 5864062014805 then (some (t459 ++ t462)) else (none))) = some r := H; have A18 := Aside0.mk A180; clear A180; replace H := Option.bind_eq_some_iff.mp H; obtain ⟨t462, A190, H⟩ := H; replace H : (if t459.length + t462.length < 5864062014805 then (some (t459 ++ t462)) else (none)) = some r := H; have A19 := Aside0.mk A190; clear A190
   by_cases c20 : t459.length + t462.length < 5864062014805
   ·rw [if_pos c20] at H; have LMc20 := Aside0.mk c20; clear c20; obtain ⟨y465, hy465⟩ : ∃ y_ : List (S58), y_ = (t459 ++ t462) := ⟨_, rfl⟩
    replace H : (some y465) = some r := by first | (rw [hy465]; with_reducible exact H) | (have H2_ := (Option.bind_some _ _).symm.trans H; rw [hy465]; with_reducible exact H2_) | (have H2_ := (Option.bind_some _ _).symm.trans H; with_reducible exact H2_) | with_reducible exact H | (rw [hy465]; exact H) | exact H
    have Ny465 := Aside0.mk hy465; clear hy465; obtain rfl := Option.some.inj H
    go_enter Try.func63, Try.ntmps63
    go_wp2_with (first | ((with_reducible refine gate_callee (f := 69) rfl ?_); refine goesL_ (some 22) rfl rfl Try.func69 (by kernel_rfl) rfl #[.slice A0 l0.length c0, .int .i64 0] rfl mO ?_; (with_reducible refine (tabardref11_half.calls k _ _ l0 0 t449 _ ?s1 ?s2 A8.out).mono ?_); (case s1 => exact cO HR0.out); (case s2 => exact HC0.out); rintro e w21 ⟨v450, rfl, ho0, hb⟩; refine ⟨_, rfl, ?_⟩; have HO451 := rW ho0 (bO HB.out); replace HB := hS0 HB hb; (try clear hb); (try clear hb2); (try clear hk); (try clear hi); (try clear ho0)) | ((with_reducible refine gate_callee (f := 69) rfl ?_); refine goesL_ (some 24) rfl rfl Try.func69 (by kernel_rfl) rfl #[.slice A0 l0.length c0, .int .i64 1] rfl mO ?_; (with_reducible refine (tabardref11_half.calls k _ _ l0 1 t452 _ ?s1 ?s2 A9.out).mono ?_); (case s1 => exact cB HR0 HB); (case s2 => exact HC0.out); rintro e w22 ⟨v453, rfl, ho0, hb⟩; refine ⟨_, rfl, ?_⟩; have HO454 := rW (Kd.R_new' ho0 (Kd.R_lt (rO HO451.out))) (bO HB.out); replace HO451 := Aside0.mk (Kd.R_elder' (rO HO451.out) (Kd.R_base ho0) hb); replace HB := hS0 HB hb; (try clear hb); (try clear hb2); (try clear hk); (try clear hi); (try clear ho0); obtain ⟨Ao23, co23, eo23⟩ := Kd.R_slice HO451.out; subst eo23; obtain ⟨Ao24, co24, eo24⟩ := Kd.R_slice HO454.out; subst eo24) | ((with_reducible refine gate_callee (f := 70) rfl ?_); refine goesL_ (some 27) rfl rfl Try.func70 (by kernel_rfl) rfl #[.slice Ao23 t449.length co23, .slice Ao24 t452.length co24] rfl mO ?_; (with_reducible refine (tabardref11_same.calls k _ _ t449 _ _ t452 false _ ?s1 ?s2 ?s3 ?s4 A10.out).mono ?_); (case s1 => exact cO (Kd.R_reads' HO451.out).2.2); (case s2 => exact (Kd.R_reads' HO451.out).2.1); (case s3 => exact cO (Kd.R_reads' HO454.out).2.2); (case s4 => exact (Kd.R_reads' HO454.out).2.1); rintro e w' ⟨rfl, ⟨nd, rfl⟩⟩; refine ⟨_, rfl, ?_⟩) | ((with_reducible refine gate_callee (f := 63) rfl ?_); refine goesL_ (some 39) rfl rfl Try.func63 (by kernel_rfl) rfl #[.slice Ao23 t449.length co23, .int .i64 (wrap64 (a1 + (t449.length : Int))), .int .i64 a2] rfl mO ?_; (with_reducible refine (ih k (by omega) _ _ t449 (wrap64 (a1 + (t449.length : Int))) a2 t459 _ ?s1 ?s2 A18.out).mono ?_); (case s1 => exact cO (Kd.R_reads' HO451.out).2.2); (case s2 => exact (Kd.R_reads' HO451.out).2.1); rintro e w25 ⟨v460, rfl, ho0, hb⟩; refine ⟨_, rfl, ?_⟩; replace HO451 := rB HO451 hb; replace HO454 := rB HO454 hb; have HO461 := rW ho0 (bO HB.out); replace HB := hS0 HB hb; (try clear hb); (try clear hb2); (try clear hk); (try clear hi); (try clear ho0)) | ((with_reducible refine gate_callee (f := 63) rfl ?_); refine goesL_ (some 48) rfl rfl Try.func63 (by kernel_rfl) rfl #[.slice Ao24 t452.length co24, .int .i64 (wrap64 (a1 + (t449.length : Int))), .int .i64 (wrap64 (a2 + (t449.length : Int)))] rfl mO ?_; (with_reducible refine (ih k (by omega) _ _ t452 (wrap64 (a1 + (t449.length : Int))) (wrap64 (a2 + (t449.length : Int))) t462 _ ?s1 ?s2 A19.out).mono ?_); (case s1 => exact cO (Kd.R_reads' HO454.out).2.2); (case s2 => exact (Kd.R_reads' HO454.out).2.1); rintro e w26 ⟨v463, rfl, ho0, hb⟩; refine ⟨_, rfl, ?_⟩; replace HO451 := rB HO451 hb; replace HO454 := rB HO454 hb; have HO464 := rW (Kd.R_new' ho0 (Kd.R_lt (rO HO461.out))) (bO HB.out); replace HO461 := Aside0.mk (Kd.R_elder' (rO HO461.out) (Kd.R_base ho0) hb); replace HB := hS0 HB hb; (try clear hb); (try clear hb2); (try clear hk); (try clear hi); (try clear ho0); obtain ⟨Ao28, co28, eo28⟩ := Kd.R_slice HO464.out; subst eo28) | ((with_reducible refine gate_builtin (b := .append) (xs := #[.tmp 40, .tmp 48]) rfl ?_); at_builtin; refine Kd.R_append_rows k58 (w0 := w) w.heap.size rfl (.tmp 40) (.tmp 48) 30 58 (.agg #[(.int .i64 0), (.int .i64 0), (.int .i64 0)]) 24 rfl Try.underlying30 info58 rfl (by decide) (by omega) v460 t459 t462 _ _ _ (fun k_ => some k_ ≠ (.slice Ao28 t462.length co28 : Value).ownBlock) (fun _ => False) rfl rfl ?aO ?aR (fun _ _ h => h) (fun _ h => h.elim) ?aF ?aB ?aS ?aL ?_; (case aR => exact cO (Kd.R_reads' HO464.out).2.2); (case aB => exact (bO HB.out)); (case aF => exact (fun k_ hk => Kd.fresh' (Kd.R_lt (rO HO464.out)) k_ hk)); (case aO => exact (by (with_reducible repeat (first | apply Kd.R_alloc | apply Kd.R_drewN | apply Kd.R_drew)); exact Kd.R_mono HO461.out (fun _ hk => hk.2))); (case aS => exact (below_size (bO HB.out))); (case aL => have := LMc20.out; omega); intro v466 w27 ho hb hg hat; rw [← Ny465.out] at ho; replace HO451 := Aside0.mk (Kd.R_over' (rO HO451.out) (Kd.R_typed (rO HO461.out)) (by decide) hg); replace HO454 := Aside0.mk (Kd.R_over' (rO HO454.out) (Kd.R_typed (rO HO461.out)) (by decide) hg); replace HO464 := Aside0.mk (Kd.R_after (ok := (fun _ => True)) (rO HO464.out) hg hat); replace HB := Aside0.mk (hb); have HO467 := Aside0.mk (ho); clear HO461; clear ho hb hg hat))
    go_ret
    exact ⟨_, eW, by (with_reducible repeat (first | apply Kd.R_alloc | apply Kd.R_drewN | apply Kd.R_drew)); exact Kd.R_mono HO467.out (fun _ hk => trivial), bO HB.out⟩
   ·rw [if_neg c20] at H; exact absurd H (by simp)

/-! ### tabardref11_Pack: function 44 -/
def tabardref11_Pack.f (k : Nat) (l0 : List Int) : Option ((List (S58)) × Int) := (tabardref11_Row.f k l0).bind fun t468 => (if t468 = true then ((tabardref11_Cubes.f k l0 0 0).bind fun t469 => (some (t469, 0))) else (some (([] : List (S58)), 3)))
theorem tabardref11_Pack.mono : ∀ a0 k, LeO (tabardref11_Pack.f k a0) (tabardref11_Pack.f (k + 1) a0) := by
 intro a0 k
 unfold tabardref11_Pack.f
 repeat' first
   | (with_reducible exact tabardref11_Cubes.mono _ _ _ _)
   | (with_reducible exact tabardref11_Row.mono _ _)
   | (with_reducible exact LeO.refl _)
   | (with_reducible exact LeO.none _)
   | (with_reducible refine LeO.ite ?_ ?_)
   | (with_reducible refine LeO.bind ?_ (fun _ => ?_))
   | exact LeO.none _
   | refine LeO.ite ?_ ?_
   | refine LeO.bind ?_ (fun _ => ?_)
set_option maxHeartbeats 8000000 in
set_option maxRecDepth 100000 in
theorem tabardref11_Pack.calls (k : Nat) (A0 : Option Addr) (c0 : Nat) (l0 : List Int) (r1 : List (S58)) (r2 : Int) (w : World) (hr0 : Kd.C (Kd.int .i64) w A0 l0.length l0) (hc0 : l0.length ≤ c0) (h : tabardref11_Pack.f k l0 = some (r1, r2)) :
  Calls Try.prog 44 #[.slice A0 l0.length c0] w fun e w' => ∃ v0_ : Value, e = .returned (.tuple #[v0_, .int .i64 r2]) ∧ Kd.R k58 58 w' w.heap.size (fun _ => True) v0_ r1 ∧ Below w.heap.size w w' := by
 have HR0 := Aside0.mk hr0; have HC0 := Aside0.mk hc0; clear hr0 hc0; have HB := Aside0.mk (Below.refl w.heap.size w); have H : ((tabardref11_Row.f k l0).bind fun t468 => (if t468 = true then ((tabardref11_Cubes.f k l0 0 0).bind fun t469 => (some (t469, 0))) else (some (([] : List (S58)), 3)))) = some (r1, r2) := h; clear h; replace H := Option.bind_eq_some_iff.mp H; obtain ⟨t468, A20, H⟩ := H; replace H : (if t468 = true then ((tabardref11_Cubes.f k l0 0 0).bind fun t469 => (some (t469, 0))) else (some (([] : List (S58)), 3))) = some (r1, r2) := H; have A2 := Aside0.mk A20; clear A20
 by_cases c3 : t468 = true
 ·subst c3
  have H1 : ((tabardref11_Cubes.f k l0 0 0).bind fun t469 => (some (t469, 0))) = some (r1, r2) := by rw [if_pos rfl] at H; exact H
  clear H; have H := H1; clear H1; replace H := Option.bind_eq_some_iff.mp H; obtain ⟨t469, A40, H⟩ := H; replace H : (some (t469, 0)) = some (r1, r2) := H; have A4 := Aside0.mk A40; clear A40; simp only [Option.some.injEq, Prod.mk.injEq] at H; obtain ⟨rfl, rfl⟩ := H
  go_enter Try.func44, Try.ntmps44
  go_wp2_with (first | ((with_reducible refine gate_callee (f := 62) rfl ?_); refine goesL_ (some 5) rfl rfl Try.func62 (by kernel_rfl) rfl #[.slice A0 l0.length c0] rfl mO ?_; (with_reducible refine (tabardref11_Row.calls k _ _ l0 true _ ?s1 ?s2 A2.out).mono ?_); (case s1 => exact cO HR0.out); (case s2 => exact HC0.out); rintro e w' ⟨rfl, ⟨nd, rfl⟩⟩; refine ⟨_, rfl, ?_⟩) | ((with_reducible refine gate_callee (f := 63) rfl ?_); refine goesL_ (some 8) rfl rfl Try.func63 (by kernel_rfl) rfl #[.slice A0 l0.length c0, .int .i64 0, .int .i64 0] rfl mO ?_; (with_reducible refine (tabardref11_Cubes.calls k _ _ l0 0 0 t469 _ ?s1 ?s2 A4.out).mono ?_); (case s1 => exact cO HR0.out); (case s2 => exact HC0.out); rintro e w5 ⟨v470, rfl, ho0, hb⟩; refine ⟨_, rfl, ?_⟩; have HO471 := rW ho0 (bO HB.out); replace HB := hS0 HB hb; (try clear hb); (try clear hb2); (try clear hk); (try clear hi); (try clear ho0)))
  go_ret2
  exact ⟨_, eW, rO HO471.out, bO HB.out⟩
 ·replace c3 := Bool.eq_false_iff.mpr c3; subst c3
  have H1 : (some (([] : List (S58)), 3)) = some (r1, r2) := by rw [if_neg (show ¬ (false = true) by decide)] at H; exact H
  clear H; have H := H1; clear H1; simp only [Option.some.injEq, Prod.mk.injEq] at H; obtain ⟨rfl, rfl⟩ := H
  go_enter Try.func44, Try.ntmps44
  go_wp2_with (first | ((with_reducible refine gate_callee (f := 62) rfl ?_); refine goesL_ (some 5) rfl rfl Try.func62 (by kernel_rfl) rfl #[.slice A0 l0.length c0] rfl mO ?_; (with_reducible refine (tabardref11_Row.calls k _ _ l0 false _ ?s1 ?s2 A2.out).mono ?_); (case s1 => exact cO HR0.out); (case s2 => exact HC0.out); rintro e w' ⟨rfl, ⟨nd, rfl⟩⟩; refine ⟨_, rfl, ?_⟩))
  go_ret2
  exact ⟨_, eW, by first | exact Kd.R_nil _ _ _ _ _ | exact Kd.N_nil _ _ _ _ _ | exact Kd.V_nil _ _ _ _ _ | exact Kd.Q_nil _ _ _ _ _ | exact Kd.S_nil _ _ _ _ _, bO HB.out⟩

end Go.Proofs.Ytghfclgcgecgdaa.X

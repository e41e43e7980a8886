/- What the functions of this seat compute, and that the program's calls come to just that: written by this session's own program out of the translation; no condition. -/
import Derived.Test.YtolacbnkebbjiaaX0
import Derived.Test.YtolacbnkebbjiaaX15
import Derived.Test.YtolacbnkebbjiaaX16
import Derived.Test.YtolacbnkebbjiaaX27
import Derived.Test.YtolacbnkebbjiaaX29
namespace Go.Proofs.Ytolacbnkebbjiaa.X
open Go.RowKit Go.Proofs.YtolacbnkebbjiaaW.PrintWords Go.Proofs.YtolacbnkebbjiaaW.PrintLast Go.Proofs.YtolacbnkebbjiaaW.PrintMore
attribute [local go_sem] max2_int min2_int max_two min_two max_three min_three max_four min_four   -- for this text's walks alone
set_option linter.unusedVariables false
set_option linter.unusedSimpArgs false

/-! ### tabardlaw03_WordDecodes: function 6 -/
def tabardlaw03_WordDecodes.f (k : Nat) (l0 : List Int) (a1 : Int) : Option (Bool) := (some (([] : List Int) : List Int)).bind fun y568 => (if y568.length + l0.length < 17592186044416 then ((some (y568 ++ l0 : List Int)).bind fun y571 => ((word_Decode.f k y571 a1).bind fun bt574 => ((tabardref03_Decode.f k l0 a1).bind fun bt578 => ((tabardlaw03_fixed.f k).bind fun t582 => (if t582 = true then ((tabardlaw03_tuples.f k bt574.1 bt578.1).bind fun t583 => (if t583 = true then (if bt574.2 = bt578.2 then ((tabardlaw03_same.f k y571 l0).bind fun t584 => (some t584)) else (some false)) else (some false))) else (some false)))))) else (none))
theorem tabardlaw03_WordDecodes.mono : ∀ a0 a1 k, LeO (tabardlaw03_WordDecodes.f k a0 a1) (tabardlaw03_WordDecodes.f (k + 1) a0 a1) := by
 intro a0 a1 k
 unfold tabardlaw03_WordDecodes.f
 repeat' first
   | (with_reducible exact tabardlaw03_fixed.mono _)
   | (with_reducible exact tabardlaw03_same.mono _ _ _)
   | (with_reducible exact tabardlaw03_tuples.mono _ _ _)
   | (with_reducible exact tabardref03_Decode.mono _ _ _)
   | (with_reducible exact word_Decode.mono _ _ _)
   | (with_reducible exact LeO.refl _)
   | (with_reducible exact LeO.none _)
   | (with_reducible refine LeO.ite ?_ ?_)
   | (with_reducible refine LeO.bind ?_ (fun _ => ?_))
   | exact tabardlaw03_fixed.mono _
   | exact tabardlaw03_same.mono _ _ _
   | exact tabardlaw03_tuples.mono _ _ _
   | exact tabardref03_Decode.mono _ _ _
   | exact word_Decode.mono _ _ _
   | exact LeO.none _
   | refine LeO.ite ?_ ?_
   | refine LeO.bind ?_ (fun _ => ?_)
set_option maxHeartbeats 8000000 in
set_option maxRecDepth 100000 in
theorem tabardlaw03_WordDecodes.calls (k : Nat) (A0 : Option Addr) (c0 : Nat) (l0 : List Int) (a1 : Int) (r : Bool) (w : World) (hr0 : Kd.C (Kd.int .i64) w A0 l0.length l0) (hc0 : l0.length ≤ c0) (h : tabardlaw03_WordDecodes.f k l0 a1 = some r) :
  Calls Try.prog 6 #[.slice A0 l0.length c0, .int .i64 a1] w fun e w' => e = .returned (.bool r) ∧ Below w.heap.size w w' := by
 have HR0 := Aside0.mk hr0
 have HC0 := Aside0.mk hc0
 clear hr0 hc0
 have HB := Aside0.mk (Below.refl w.heap.size w)
 have H : ((some (([] : List Int) : List Int)).bind fun y568 => (if y568.length + l0.length < 17592186044416 then ((some (y568 ++ l0 : List Int)).bind fun y571 => ((word_Decode.f k y571 a1).bind fun bt574 => ((tabardref03_Decode.f k l0 a1).bind fun bt578 => ((tabardlaw03_fixed.f k).bind fun t582 => (if t582 = true then ((tabardlaw03_tuples.f k bt574.1 bt578.1).bind fun t583 => (if t583 = true then (if bt574.2 = bt578.2 then ((tabardlaw03_same.f k y571 l0).bind fun t584 => (some t584)) else (some false)) else (some false))) else (some false)))))) else (none))) = some r := h
 clear h
 obtain ⟨y568, hy568⟩ : ∃ y_ : List Int, y_ = (([] : List Int)) := ⟨_, rfl⟩
 replace H : (if y568.length + l0.length < 17592186044416 then ((some (y568 ++ l0 : List Int)).bind fun y571 => ((word_Decode.f k y571 a1).bind fun bt574 => ((tabardref03_Decode.f k l0 a1).bind fun bt578 => ((tabardlaw03_fixed.f k).bind fun t582 => (if t582 = true then ((tabardlaw03_tuples.f k bt574.1 bt578.1).bind fun t583 => (if t583 = true then (if bt574.2 = bt578.2 then ((tabardlaw03_same.f k y571 l0).bind fun t584 => (some t584)) else (some false)) else (some false))) else (some false)))))) else (none)) = some r := by first | (rw [hy568]; with_reducible exact H) | (have H2_ := (Option.bind_some _ _).symm.trans H; rw [hy568]; with_reducible exact H2_) | (have H2_ := (Option.bind_some _ _).symm.trans H; with_reducible exact H2_) | with_reducible exact H | (rw [hy568]; exact H) | exact H
 have Ny568 := Aside0.mk hy568
 clear hy568
 by_cases c3 : y568.length + l0.length < 17592186044416
 ·rw [if_pos c3] at H
  have LMc3 := Aside0.mk c3
  clear c3
  obtain ⟨y571, hy571⟩ : ∃ y_ : List Int, y_ = (y568 ++ l0) := ⟨_, rfl⟩
  replace H : ((word_Decode.f k y571 a1).bind fun bt574 => ((tabardref03_Decode.f k l0 a1).bind fun bt578 => ((tabardlaw03_fixed.f k).bind fun t582 => (if t582 = true then ((tabardlaw03_tuples.f k bt574.1 bt578.1).bind fun t583 => (if t583 = true then (if bt574.2 = bt578.2 then ((tabardlaw03_same.f k y571 l0).bind fun t584 => (some t584)) else (some false)) else (some false))) else (some false))))) = some r := by first | (rw [hy571]; with_reducible exact H) | (have H2_ := (Option.bind_some _ _).symm.trans H; rw [hy571]; with_reducible exact H2_) | (have H2_ := (Option.bind_some _ _).symm.trans H; with_reducible exact H2_) | with_reducible exact H | (rw [hy571]; exact H) | exact H
  have Ny571 := Aside0.mk hy571
  clear hy571
  replace H := Option.bind_eq_some_iff.mp H
  obtain ⟨⟨t574, t575⟩, A40, H⟩ := H
  replace H : ((tabardref03_Decode.f k l0 a1).bind fun bt578 => ((tabardlaw03_fixed.f k).bind fun t582 => (if t582 = true then ((tabardlaw03_tuples.f k t574 bt578.1).bind fun t583 => (if t583 = true then (if t575 = bt578.2 then ((tabardlaw03_same.f k y571 l0).bind fun t584 => (some t584)) else (some false)) else (some false))) else (some false)))) = some r := H
  have A4 := Aside0.mk A40
  clear A40
  replace H := Option.bind_eq_some_iff.mp H
  obtain ⟨⟨t578, t579⟩, A50, H⟩ := H
  replace H : ((tabardlaw03_fixed.f k).bind fun t582 => (if t582 = true then ((tabardlaw03_tuples.f k t574 t578).bind fun t583 => (if t583 = true then (if t575 = t579 then ((tabardlaw03_same.f k y571 l0).bind fun t584 => (some t584)) else (some false)) else (some false))) else (some false))) = some r := H
  have A5 := Aside0.mk A50
  clear A50
  replace H := Option.bind_eq_some_iff.mp H
  obtain ⟨t582, A60, H⟩ := H
  replace H : (if t582 = true then ((tabardlaw03_tuples.f k t574 t578).bind fun t583 => (if t583 = true then (if t575 = t579 then ((tabardlaw03_same.f k y571 l0).bind fun t584 => (some t584)) else (some false)) else (some false))) else (some false)) = some r := H
  have A6 := Aside0.mk A60
  clear A60
  by_cases c7 : t582 = true
  ·subst c7
   have H1 : ((tabardlaw03_tuples.f k t574 t578).bind fun t583 => (if t583 = true then (if t575 = t579 then ((tabardlaw03_same.f k y571 l0).bind fun t584 => (some t584)) else (some false)) else (some false))) = some r := by rw [if_pos rfl] at H; exact H
   clear H
   have H := H1
   clear H1
   replace H := Option.bind_eq_some_iff.mp H
   obtain ⟨t583, A80, H⟩ := H
   replace H : (if t583 = true then (if t575 = t579 then ((tabardlaw03_same.f k y571 l0).bind fun t584 => (some t584)) else (some false)) else (some false)) = some r := H
   have A8 := Aside0.mk A80
   clear A80
   by_cases c9 : t583 = true
   ·subst c9
    have H1 : (if t575 = t579 then ((tabardlaw03_same.f k y571 l0).bind fun t584 => (some t584)) else (some false)) = some r := by rw [if_pos rfl] at H; exact H
    clear H
    have H := H1
    clear H1
    by_cases c10 : t575 = t579
    ·rw [if_pos c10] at H
     have c10b0 : (t575 == t579) = true := beq_iff_eq.mpr c10
     have c10b1 : (t575 != t579) = false := bne_eq_false_iff_eq.mpr c10
     clear c10
     replace H := Option.bind_eq_some_iff.mp H
     obtain ⟨t584, A110, H⟩ := H
     replace H : (some t584) = some r := H
     have A11 := Aside0.mk A110
     clear A110
     obtain rfl := Option.some.inj H
     go_enter Try.func6, Try.ntmps6
     go_wp2_with (first | ((with_reducible refine gate_dst (N := 10) rfl ?_); refine Kd.R_lit (Kd.int .i64) _ 3 ?hg (N := 10) ?hd (xs := ([] : List Int)) (inner := []) (ok := fun _ => True) (okp := fun _ => True) ?hr ?hp (fun _ hk => hk) trivial (Below.refl _ _) (Nat.le_refl _) (by simp) ?_; (case hd => rfl); (case hg => rfl); (case hr => first | (go_simp; done) | (go_simp; rfl)); (case hp => exact (Reps.none _ _)); intro v569 w12 ho13 hb hg_ hnew_; clear hg_ hnew_; (first | rw [← Ny568.out] at ho13 | (simp only [Int.reduceToNat] at ho13; rw [← Ny568.out] at ho13)); have n0_ := Aside0.mk (Kd.R_lower ho13 (below_size (bO HB.out))); have n1_ := Aside0.mk (below_step (bO HB.out) hb); clear HB; have HO570 := n0_; have HB := n1_; clear n0_ n1_; clear hb ho13) | ((with_reducible refine gate_builtin (b := .append) (xs := #[.tmp 10, .tmp 11]) rfl ?_); at_builtin; refine Kd.R_append_rows (Kd.int .i64) (w0 := w) w.heap.size rfl (.tmp 10) (.tmp 11) 23 3 (.int .i64 0) 8 rfl Try.underlying23 info3 rfl (by decide) (by omega) v569 y568 l0 _ _ _ (fun _ => True) (fun _ => False) rfl rfl ?aO ?aR (fun _ _ h => h) (fun _ h => h.elim) ?aF ?aB ?aS ?aL ?_; (case aR => exact cO (Kd.C_below HR0.out HB.out)); (case aB => exact (bO HB.out)); (case aF => exact (fun _ _ => trivial)); (case aO => exact (rO HO570.out)); (case aS => exact (below_size (bO HB.out))); (case aL => have := LMc3.out; omega); intro v572 w14 ho hb hg hat; rw [← Ny571.out] at ho; have n0_ := Aside0.mk (hb); have n1_ := Aside0.mk (ho); clear HB; clear HO570; have HB := n0_; have HO573 := n1_; clear n0_ n1_; clear ho hb hg hat; obtain ⟨Ao15, co15, eo15⟩ := Kd.R_slice HO573.out; subst eo15) | ((with_reducible refine gate_callee (f := 25) rfl ?_); refine goesL_ (some 16) rfl rfl Try.func25 (by kernel_rfl) rfl #[.slice Ao15 y571.length co15, .int .i64 a1] rfl mO ?_; (with_reducible refine (word_Decode.calls k _ _ y571 a1 t574 t575 _ ?side1 ?side2 A4.out).mono ?_); (case side1 => exact cO (Kd.R_reads' HO573.out).2.2); (case side2 => exact (Kd.R_reads' HO573.out).2.1); rintro e w16 ⟨v576, rfl, ho0, hb⟩; refine ⟨_, rfl, ?_⟩; have n0_ := Aside0.mk (Kd.R_below (rO HO573.out) hb); have n1_ := Aside0.mk (Kd.R_lower ho0 (below_size (bO HB.out))); have n2_ := Aside0.mk (below_step (bO HB.out) hb); clear HO573; clear HB; have HO573 := n0_; have HO577 := n1_; have HB := n2_; clear n0_ n1_ n2_; (try clear hb); (try clear hb2); (try clear hk); (try clear hi); (try clear ho0)) | ((with_reducible refine gate_callee (f := 26) rfl ?_); refine goesL_ (some 22) rfl rfl Try.func26 (by kernel_rfl) rfl #[.slice A0 l0.length c0, .int .i64 a1] rfl mO ?_; (with_reducible refine (tabardref03_Decode.calls k _ _ l0 a1 t578 t579 _ ?side1 ?side2 A5.out).mono ?_); (case side1 => exact cO (Kd.C_below HR0.out HB.out)); (case side2 => exact HC0.out); rintro e w17 ⟨v580, rfl, ho0, hb⟩; refine ⟨_, rfl, ?_⟩; have n0_ := Aside0.mk (Kd.R_below (rO HO573.out) hb); have n1_ := Aside0.mk (Kd.R_elder' (rO HO577.out) (Kd.R_base ho0) hb); have n2_ := Aside0.mk (Kd.R_lower (Kd.R_new' ho0 (Kd.R_lt (rO HO577.out))) (below_size (bO HB.out))); have n3_ := Aside0.mk (below_step (bO HB.out) hb); clear HO573; clear HO577; clear HB; have HO573 := n0_; have HO577 := n1_; have HO581 := n2_; have HB := n3_; clear n0_ n1_ n2_ n3_; (try clear hb); (try clear hb2); (try clear hk); (try clear hi); (try clear ho0)) | ((with_reducible refine gate_callee (f := 15) rfl ?_); refine goesL_ (some 25) rfl rfl Try.func15 (by kernel_rfl) rfl #[] rfl mO ?_; (with_reducible refine (tabardlaw03_fixed.calls k  true _ A6.out).mono ?_); rintro e w18 ⟨rfl, hb⟩; refine ⟨_, rfl, ?_⟩; have n0_ := Aside0.mk (Kd.R_below (rO HO573.out) hb); have n1_ := Aside0.mk (Kd.R_below (rO HO577.out) hb); have n2_ := Aside0.mk (Kd.R_below (rO HO581.out) hb); have n3_ := Aside0.mk (below_step (bO HB.out) hb); clear HO573; clear HO577; clear HO581; clear HB; have HO573 := n0_; have HO577 := n1_; have HO581 := n2_; have HB := n3_; clear n0_ n1_ n2_ n3_; (try clear hb); (try clear hb2); (try clear hk); (try clear hi); obtain ⟨Ao19, co19, eo19⟩ := Kd.R_slice HO577.out; subst eo19; obtain ⟨Ao20, co20, eo20⟩ := Kd.R_slice HO581.out; subst eo20) | (go_at_call 17; (with_reducible refine (tabardlaw03_tuples.calls k _ _ t574 _ _ t578 true _ ?side1 ?side2 ?side3 ?side4 A8.out).mono ?_); (case side1 => exact cO (Kd.R_reads' HO577.out).2.2); (case side2 => exact (Kd.R_reads' HO577.out).2.1); (case side3 => exact cO (Kd.R_reads' HO581.out).2.2); (case side4 => exact (Kd.R_reads' HO581.out).2.1); rintro e w' ⟨rfl, ⟨nd, rfl⟩⟩) | (go_at_call 16; (with_reducible refine (tabardlaw03_same.calls k _ _ y571 _ _ l0 t584 _ ?side1 ?side2 ?side3 ?side4 A11.out).mono ?_); (case side1 => exact cO (Kd.R_reads' HO573.out).2.2); (case side2 => exact (Kd.R_reads' HO573.out).2.1); (case side3 => repeat (first | exact (Kd.C_below HR0.out (bO HB.out)) | (with_reducible refine Kd.C_alloc ?_ _) | (with_reducible refine Kd.C_drewN ?_ _) | (with_reducible refine Kd.C_drew ?_))); (case side4 => exact HC0.out); rintro e w' ⟨rfl, ⟨nd, rfl⟩⟩))
     go_ret
     exact ⟨by first | rfl | (simp [errW_none, errW_some] <;> rfl) | (simp [*, errW_none, errW_some] <;> rfl), bO HB.out⟩
    ·rw [if_neg c10] at H
     have c10b0 : (t575 == t579) = false := beq_eq_false_iff_ne.mpr c10
     have c10b1 : (t575 != t579) = true := bne_iff_ne.mpr c10
     obtain rfl := Option.some.inj H
     go_enter Try.func6, Try.ntmps6
     go_wp2_with (first | ((with_reducible refine gate_dst (N := 10) rfl ?_); refine Kd.R_lit (Kd.int .i64) _ 3 ?hg (N := 10) ?hd (xs := ([] : List Int)) (inner := []) (ok := fun _ => True) (okp := fun _ => True) ?hr ?hp (fun _ hk => hk) trivial (Below.refl _ _) (Nat.le_refl _) (by simp) ?_; (case hd => rfl); (case hg => rfl); (case hr => first | (go_simp; done) | (go_simp; rfl)); (case hp => exact (Reps.none _ _)); intro v569 w21 ho22 hb hg_ hnew_; clear hg_ hnew_; (first | rw [← Ny568.out] at ho22 | (simp only [Int.reduceToNat] at ho22; rw [← Ny568.out] at ho22)); have n0_ := Aside0.mk (Kd.R_lower ho22 (below_size (bO HB.out))); have n1_ := Aside0.mk (below_step (bO HB.out) hb); clear HB; have HO570 := n0_; have HB := n1_; clear n0_ n1_; clear hb ho22) | ((with_reducible refine gate_builtin (b := .append) (xs := #[.tmp 10, .tmp 11]) rfl ?_); at_builtin; refine Kd.R_append_rows (Kd.int .i64) (w0 := w) w.heap.size rfl (.tmp 10) (.tmp 11) 23 3 (.int .i64 0) 8 rfl Try.underlying23 info3 rfl (by decide) (by omega) v569 y568 l0 _ _ _ (fun _ => True) (fun _ => False) rfl rfl ?aO ?aR (fun _ _ h => h) (fun _ h => h.elim) ?aF ?aB ?aS ?aL ?_; (case aR => exact cO (Kd.C_below HR0.out HB.out)); (case aB => exact (bO HB.out)); (case aF => exact (fun _ _ => trivial)); (case aO => exact (rO HO570.out)); (case aS => exact (below_size (bO HB.out))); (case aL => have := LMc3.out; omega); intro v572 w23 ho hb hg hat; rw [← Ny571.out] at ho; have n0_ := Aside0.mk (hb); have n1_ := Aside0.mk (ho); clear HB; clear HO570; have HB := n0_; have HO573 := n1_; clear n0_ n1_; clear ho hb hg hat; obtain ⟨Ao24, co24, eo24⟩ := Kd.R_slice HO573.out; subst eo24) | ((with_reducible refine gate_callee (f := 25) rfl ?_); refine goesL_ (some 16) rfl rfl Try.func25 (by kernel_rfl) rfl #[.slice Ao24 y571.length co24, .int .i64 a1] rfl mO ?_; (with_reducible refine (word_Decode.calls k _ _ y571 a1 t574 t575 _ ?side1 ?side2 A4.out).mono ?_); (case side1 => exact cO (Kd.R_reads' HO573.out).2.2); (case side2 => exact (Kd.R_reads' HO573.out).2.1); rintro e w25 ⟨v576, rfl, ho0, hb⟩; refine ⟨_, rfl, ?_⟩; have n0_ := Aside0.mk (Kd.R_below (rO HO573.out) hb); have n1_ := Aside0.mk (Kd.R_lower ho0 (below_size (bO HB.out))); have n2_ := Aside0.mk (below_step (bO HB.out) hb); clear HO573; clear HB; have HO573 := n0_; have HO577 := n1_; have HB := n2_; clear n0_ n1_ n2_; (try clear hb); (try clear hb2); (try clear hk); (try clear hi); (try clear ho0)) | ((with_reducible refine gate_callee (f := 26) rfl ?_); refine goesL_ (some 22) rfl rfl Try.func26 (by kernel_rfl) rfl #[.slice A0 l0.length c0, .int .i64 a1] rfl mO ?_; (with_reducible refine (tabardref03_Decode.calls k _ _ l0 a1 t578 t579 _ ?side1 ?side2 A5.out).mono ?_); (case side1 => exact cO (Kd.C_below HR0.out HB.out)); (case side2 => exact HC0.out); rintro e w26 ⟨v580, rfl, ho0, hb⟩; refine ⟨_, rfl, ?_⟩; have n0_ := Aside0.mk (Kd.R_below (rO HO573.out) hb); have n1_ := Aside0.mk (Kd.R_elder' (rO HO577.out) (Kd.R_base ho0) hb); have n2_ := Aside0.mk (Kd.R_lower (Kd.R_new' ho0 (Kd.R_lt (rO HO577.out))) (below_size (bO HB.out))); have n3_ := Aside0.mk (below_step (bO HB.out) hb); clear HO573; clear HO577; clear HB; have HO573 := n0_; have HO577 := n1_; have HO581 := n2_; have HB := n3_; clear n0_ n1_ n2_ n3_; (try clear hb); (try clear hb2); (try clear hk); (try clear hi); (try clear ho0)) | ((with_reducible refine gate_callee (f := 15) rfl ?_); refine goesL_ (some 25) rfl rfl Try.func15 (by kernel_rfl) rfl #[] rfl mO ?_; (with_reducible refine (tabardlaw03_fixed.calls k  true _ A6.out).mono ?_); rintro e w27 ⟨rfl, hb⟩; refine ⟨_, rfl, ?_⟩; have n0_ := Aside0.mk (Kd.R_below (rO HO573.out) hb); have n1_ := Aside0.mk (Kd.R_below (rO HO577.out) hb); have n2_ := Aside0.mk (Kd.R_below (rO HO581.out) hb); have n3_ := Aside0.mk (below_step (bO HB.out) hb); clear HO573; clear HO577; clear HO581; clear HB; have HO573 := n0_; have HO577 := n1_; have HO581 := n2_; have HB := n3_; clear n0_ n1_ n2_ n3_; (try clear hb); (try clear hb2); (try clear hk); (try clear hi); obtain ⟨Ao28, co28, eo28⟩ := Kd.R_slice HO577.out; subst eo28; obtain ⟨Ao29, co29, eo29⟩ := Kd.R_slice HO581.out; subst eo29) | (go_at_call 17; (with_reducible refine (tabardlaw03_tuples.calls k _ _ t574 _ _ t578 true _ ?side1 ?side2 ?side3 ?side4 A8.out).mono ?_); (case side1 => exact cO (Kd.R_reads' HO577.out).2.2); (case side2 => exact (Kd.R_reads' HO577.out).2.1); (case side3 => exact cO (Kd.R_reads' HO581.out).2.2); (case side4 => exact (Kd.R_reads' HO581.out).2.1); rintro e w' ⟨rfl, ⟨nd, rfl⟩⟩))
     go_ret
     exact ⟨by first | rfl | (simp [errW_none, errW_some] <;> rfl) | (simp [*, errW_none, errW_some] <;> rfl), bO HB.out⟩
   ·replace c9 := Bool.eq_false_iff.mpr c9
    subst c9
    have H1 : (some false) = some r := by rw [if_neg (show ¬ (false = true) by decide)] at H; exact H
    clear H
    have H := H1
    clear H1
    obtain rfl := Option.some.inj H
    go_enter Try.func6, Try.ntmps6
    go_wp2_with (first | ((with_reducible refine gate_dst (N := 10) rfl ?_); refine Kd.R_lit (Kd.int .i64) _ 3 ?hg (N := 10) ?hd (xs := ([] : List Int)) (inner := []) (ok := fun _ => True) (okp := fun _ => True) ?hr ?hp (fun _ hk => hk) trivial (Below.refl _ _) (Nat.le_refl _) (by simp) ?_; (case hd => rfl); (case hg => rfl); (case hr => first | (go_simp; done) | (go_simp; rfl)); (case hp => exact (Reps.none _ _)); intro v569 w30 ho31 hb hg_ hnew_; clear hg_ hnew_; (first | rw [← Ny568.out] at ho31 | (simp only [Int.reduceToNat] at ho31; rw [← Ny568.out] at ho31)); have n0_ := Aside0.mk (Kd.R_lower ho31 (below_size (bO HB.out))); have n1_ := Aside0.mk (below_step (bO HB.out) hb); clear HB; have HO570 := n0_; have HB := n1_; clear n0_ n1_; clear hb ho31) | ((with_reducible refine gate_builtin (b := .append) (xs := #[.tmp 10, .tmp 11]) rfl ?_); at_builtin; refine Kd.R_append_rows (Kd.int .i64) (w0 := w) w.heap.size rfl (.tmp 10) (.tmp 11) 23 3 (.int .i64 0) 8 rfl Try.underlying23 info3 rfl (by decide) (by omega) v569 y568 l0 _ _ _ (fun _ => True) (fun _ => False) rfl rfl ?aO ?aR (fun _ _ h => h) (fun _ h => h.elim) ?aF ?aB ?aS ?aL ?_; (case aR => exact cO (Kd.C_below HR0.out HB.out)); (case aB => exact (bO HB.out)); (case aF => exact (fun _ _ => trivial)); (case aO => exact (rO HO570.out)); (case aS => exact (below_size (bO HB.out))); (case aL => have := LMc3.out; omega); intro v572 w32 ho hb hg hat; rw [← Ny571.out] at ho; have n0_ := Aside0.mk (hb); have n1_ := Aside0.mk (ho); clear HB; clear HO570; have HB := n0_; have HO573 := n1_; clear n0_ n1_; clear ho hb hg hat; obtain ⟨Ao33, co33, eo33⟩ := Kd.R_slice HO573.out; subst eo33) | ((with_reducible refine gate_callee (f := 25) rfl ?_); refine goesL_ (some 16) rfl rfl Try.func25 (by kernel_rfl) rfl #[.slice Ao33 y571.length co33, .int .i64 a1] rfl mO ?_; (with_reducible refine (word_Decode.calls k _ _ y571 a1 t574 t575 _ ?side1 ?side2 A4.out).mono ?_); (case side1 => exact cO (Kd.R_reads' HO573.out).2.2); (case side2 => exact (Kd.R_reads' HO573.out).2.1); rintro e w34 ⟨v576, rfl, ho0, hb⟩; refine ⟨_, rfl, ?_⟩; have n0_ := Aside0.mk (Kd.R_below (rO HO573.out) hb); have n1_ := Aside0.mk (Kd.R_lower ho0 (below_size (bO HB.out))); have n2_ := Aside0.mk (below_step (bO HB.out) hb); clear HO573; clear HB; have HO573 := n0_; have HO577 := n1_; have HB := n2_; clear n0_ n1_ n2_; (try clear hb); (try clear hb2); (try clear hk); (try clear hi); (try clear ho0)) | ((with_reducible refine gate_callee (f := 26) rfl ?_); refine goesL_ (some 22) rfl rfl Try.func26 (by kernel_rfl) rfl #[.slice A0 l0.length c0, .int .i64 a1] rfl mO ?_; (with_reducible refine (tabardref03_Decode.calls k _ _ l0 a1 t578 t579 _ ?side1 ?side2 A5.out).mono ?_); (case side1 => exact cO (Kd.C_below HR0.out HB.out)); (case side2 => exact HC0.out); rintro e w35 ⟨v580, rfl, ho0, hb⟩; refine ⟨_, rfl, ?_⟩; have n0_ := Aside0.mk (Kd.R_below (rO HO573.out) hb); have n1_ := Aside0.mk (Kd.R_elder' (rO HO577.out) (Kd.R_base ho0) hb); have n2_ := Aside0.mk (Kd.R_lower (Kd.R_new' ho0 (Kd.R_lt (rO HO577.out))) (below_size (bO HB.out))); have n3_ := Aside0.mk (below_step (bO HB.out) hb); clear HO573; clear HO577; clear HB; have HO573 := n0_; have HO577 := n1_; have HO581 := n2_; have HB := n3_; clear n0_ n1_ n2_ n3_; (try clear hb); (try clear hb2); (try clear hk); (try clear hi); (try clear ho0)) | ((with_reducible refine gate_callee (f := 15) rfl ?_); refine goesL_ (some 25) rfl rfl Try.func15 (by kernel_rfl) rfl #[] rfl mO ?_; (with_reducible refine (tabardlaw03_fixed.calls k  true _ A6.out).mono ?_); rintro e w36 ⟨rfl, hb⟩; refine ⟨_, rfl, ?_⟩; have n0_ := Aside0.mk (Kd.R_below (rO HO573.out) hb); have n1_ := Aside0.mk (Kd.R_below (rO HO577.out) hb); have n2_ := Aside0.mk (Kd.R_below (rO HO581.out) hb); have n3_ := Aside0.mk (below_step (bO HB.out) hb); clear HO573; clear HO577; clear HO581; clear HB; have HO573 := n0_; have HO577 := n1_; have HO581 := n2_; have HB := n3_; clear n0_ n1_ n2_ n3_; (try clear hb); (try clear hb2); (try clear hk); (try clear hi); obtain ⟨Ao37, co37, eo37⟩ := Kd.R_slice HO577.out; subst eo37; obtain ⟨Ao38, co38, eo38⟩ := Kd.R_slice HO581.out; subst eo38) | (go_at_call 17; (with_reducible refine (tabardlaw03_tuples.calls k _ _ t574 _ _ t578 false _ ?side1 ?side2 ?side3 ?side4 A8.out).mono ?_); (case side1 => exact cO (Kd.R_reads' HO577.out).2.2); (case side2 => exact (Kd.R_reads' HO577.out).2.1); (case side3 => exact cO (Kd.R_reads' HO581.out).2.2); (case side4 => exact (Kd.R_reads' HO581.out).2.1); rintro e w' ⟨rfl, ⟨nd, rfl⟩⟩))
    go_ret
    exact ⟨by first | rfl | (simp [errW_none, errW_some] <;> rfl) | (simp [*, errW_none, errW_some] <;> rfl), bO HB.out⟩
  ·replace c7 := Bool.eq_false_iff.mpr c7
   subst c7
   have H1 : (some false) = some r := by rw [if_neg (show ¬ (false = true) by decide)] at H; exact H
   clear H
   have H := H1
   clear H1
   obtain rfl := Option.some.inj H
   go_enter Try.func6, Try.ntmps6
   go_wp2_with (first | ((with_reducible refine gate_dst (N := 10) rfl ?_); refine Kd.R_lit (Kd.int .i64) _ 3 ?hg (N := 10) ?hd (xs := ([] : List Int)) (inner := []) (ok := fun _ => True) (okp := fun _ => True) ?hr ?hp (fun _ hk => hk) trivial (Below.refl _ _) (Nat.le_refl _) (by simp) ?_; (case hd => rfl); (case hg => rfl); (case hr => first | (go_simp; done) | (go_simp; rfl)); (case hp => exact (Reps.none _ _)); intro v569 w39 ho40 hb hg_ hnew_; clear hg_ hnew_; (first | rw [← Ny568.out] at ho40 | (simp only [Int.reduceToNat] at ho40; rw [← Ny568.out] at ho40)); have n0_ := Aside0.mk (Kd.R_lower ho40 (below_size (bO HB.out))); have n1_ := Aside0.mk (below_step (bO HB.out) hb); clear HB; have HO570 := n0_; have HB := n1_; clear n0_ n1_; clear hb ho40) | ((with_reducible refine gate_builtin (b := .append) (xs := #[.tmp 10, .tmp 11]) rfl ?_); at_builtin; refine Kd.R_append_rows (Kd.int .i64) (w0 := w) w.heap.size rfl (.tmp 10) (.tmp 11) 23 3 (.int .i64 0) 8 rfl Try.underlying23 info3 rfl (by decide) (by omega) v569 y568 l0 _ _ _ (fun _ => True) (fun _ => False) rfl rfl ?aO ?aR (fun _ _ h => h) (fun _ h => h.elim) ?aF ?aB ?aS ?aL ?_; (case aR => exact cO (Kd.C_below HR0.out HB.out)); (case aB => exact (bO HB.out)); (case aF => exact (fun _ _ => trivial)); (case aO => exact (rO HO570.out)); (case aS => exact (below_size (bO HB.out))); (case aL => have := LMc3.out; omega); intro v572 w41 ho hb hg hat; rw [← Ny571.out] at ho; have n0_ := Aside0.mk (hb); have n1_ := Aside0.mk (ho); clear HB; clear HO570; have HB := n0_; have HO573 := n1_; clear n0_ n1_; clear ho hb hg hat; obtain ⟨Ao42, co42, eo42⟩ := Kd.R_slice HO573.out; subst eo42) | ((with_reducible refine gate_callee (f := 25) rfl ?_); refine goesL_ (some 16) rfl rfl Try.func25 (by kernel_rfl) rfl #[.slice Ao42 y571.length co42, .int .i64 a1] rfl mO ?_; (with_reducible refine (word_Decode.calls k _ _ y571 a1 t574 t575 _ ?side1 ?side2 A4.out).mono ?_); (case side1 => exact cO (Kd.R_reads' HO573.out).2.2); (case side2 => exact (Kd.R_reads' HO573.out).2.1); rintro e w43 ⟨v576, rfl, ho0, hb⟩; refine ⟨_, rfl, ?_⟩; have n0_ := Aside0.mk (Kd.R_below (rO HO573.out) hb); have n1_ := Aside0.mk (Kd.R_lower ho0 (below_size (bO HB.out))); have n2_ := Aside0.mk (below_step (bO HB.out) hb); clear HO573; clear HB; have HO573 := n0_; have HO577 := n1_; have HB := n2_; clear n0_ n1_ n2_; (try clear hb); (try clear hb2); (try clear hk); (try clear hi); (try clear ho0)) | ((with_reducible refine gate_callee (f := 26) rfl ?_); refine goesL_ (some 22) rfl rfl Try.func26 (by kernel_rfl) rfl #[.slice A0 l0.length c0, .int .i64 a1] rfl mO ?_; (with_reducible refine (tabardref03_Decode.calls k _ _ l0 a1 t578 t579 _ ?side1 ?side2 A5.out).mono ?_); (case side1 => exact cO (Kd.C_below HR0.out HB.out)); (case side2 => exact HC0.out); rintro e w44 ⟨v580, rfl, ho0, hb⟩; refine ⟨_, rfl, ?_⟩; have n0_ := Aside0.mk (Kd.R_below (rO HO573.out) hb); have n1_ := Aside0.mk (Kd.R_elder' (rO HO577.out) (Kd.R_base ho0) hb); have n2_ := Aside0.mk (Kd.R_lower (Kd.R_new' ho0 (Kd.R_lt (rO HO577.out))) (below_size (bO HB.out))); have n3_ := Aside0.mk (below_step (bO HB.out) hb); clear HO573; clear HO577; clear HB; have HO573 := n0_; have HO577 := n1_; have HO581 := n2_; have HB := n3_; clear n0_ n1_ n2_ n3_; (try clear hb); (try clear hb2); (try clear hk); (try clear hi); (try clear ho0)) | ((with_reducible refine gate_callee (f := 15) rfl ?_); refine goesL_ (some 25) rfl rfl Try.func15 (by kernel_rfl) rfl #[] rfl mO ?_; (with_reducible refine (tabardlaw03_fixed.calls k  false _ A6.out).mono ?_); rintro e w45 ⟨rfl, hb⟩; refine ⟨_, rfl, ?_⟩; have n0_ := Aside0.mk (Kd.R_below (rO HO573.out) hb); have n1_ := Aside0.mk (Kd.R_below (rO HO577.out) hb); have n2_ := Aside0.mk (Kd.R_below (rO HO581.out) hb); have n3_ := Aside0.mk (below_step (bO HB.out) hb); clear HO573; clear HO577; clear HO581; clear HB; have HO573 := n0_; have HO577 := n1_; have HO581 := n2_; have HB := n3_; clear n0_ n1_ n2_ n3_; (try clear hb); (try clear hb2); (try clear hk); (try clear hi)))
   go_ret
   exact ⟨by first | rfl | (simp [errW_none, errW_some] <;> rfl) | (simp [*, errW_none, errW_some] <;> rfl), bO HB.out⟩
 ·rw [if_neg c3] at H
  exact absurd H (by simp)

/-- THE ONE PURE STATEMENT of tabardlaw03_WordDecodes: yours. -/
def tabardlaw03_WordDecodes.Pure : Prop := ∀ (l0 : List Int) (a1 : Int), l0.length ≤ maxLen → l0.length * 8 ≤ 140737488351232 → (∀ x ∈ l0, (Lit.int .i64 x).wf = true) → (Lit.int .i64 a1).wf = true → ∃ k, tabardlaw03_WordDecodes.f k l0 a1 = some true
theorem tabardlaw03_WordDecodes.walk (P : tabardlaw03_WordDecodes.Pure) (a0 : Option Addr) (len0 cap0 : Nat) (z0 : List Int) (a1 : Int) (w : World) (w0 : (a0 = none ∧ len0 = 0 ∧ cap0 = 0 ∧ z0 = []) ∨ ∃ x, a0 = some x ∧ len0 ≤ cap0 ∧ cap0 ≤ maxLen ∧ z0.length = cap0 ∧ (∀ i, i < z0.length → w.cell? (x.add i) = some (.int .i64 (z0.getD i 0))) ∧ ∀ n ∈ z0, (Lit.int .i64 n).wf = true) (y0 : len0 * 8 ≤ 140737488351232) (w1 : (Lit.int .i64 a1).wf = true) :
  Calls Try.prog 6 #[.slice a0 len0 cap0, .int .i64 a1] w fun e w' => e = .returned (.bool true) ∧ Below w.heap.size w w' := by
 obtain ⟨l0, rfl, hr0, hm0, hw0, hc0⟩ := ReadsInt.ofRowC w0
 obtain ⟨k, h⟩ := P l0 a1 hm0 y0 hw0 w1
 refine (tabardlaw03_WordDecodes.calls k _ _ l0 a1 true w (Kd.C_of_reads (d := (0 : Int)) (h1 := fun _ => rfl) hr0) hc0 h).mono ?_
 rintro e w' ⟨rfl, hd⟩
 exact ⟨rfl, hd⟩

end Go.Proofs.Ytolacbnkebbjiaa.X

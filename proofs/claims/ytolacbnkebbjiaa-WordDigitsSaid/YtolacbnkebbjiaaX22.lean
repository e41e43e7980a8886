/- What the functions of this seat compute, and that the program's calls come to just that: written by this session's own program out of the translation; no condition. -/
import Derived.Test.YtolacbnkebbjiaaX0
import Derived.Test.YtolacbnkebbjiaaX1
import Derived.Test.YtolacbnkebbjiaaX13
import Derived.Test.YtolacbnkebbjiaaX15
import Derived.Test.YtolacbnkebbjiaaX18
import Derived.Test.YtolacbnkebbjiaaX19
import Derived.Test.YtolacbnkebbjiaaX21
namespace Go.Proofs.Ytolacbnkebbjiaa.X
open Go.RowKit Go.Proofs.YtolacbnkebbjiaaW.PrintWords Go.Proofs.YtolacbnkebbjiaaW.PrintLast Go.Proofs.YtolacbnkebbjiaaW.PrintMore
attribute [local go_sem] max2_int min2_int max_two min_two max_three min_three max_four min_four   -- for this text's walks alone
set_option linter.unusedVariables false
set_option linter.unusedSimpArgs false

/-! ### tabardlaw03_WordDigits: function 4 -/
mutual
def tabardlaw03_WordDigits.j0 : Nat → Int → Int → List Int → Int → Int → Bool → Option (Bool)
 | 0, _, _, _, _, _, _ => none
 | k + 1, x0, x1, x8, x9, x14, x59 => if x59 = true then (some false) else (if x1 < x14 then (tabardlaw03_WordDigits.j1 k x0 x1 x8 x9 true) else (tabardlaw03_WordDigits.j1 k x0 x1 x8 x9 (decide (x1 > 64))))
def tabardlaw03_WordDigits.j1 : Nat → Int → Int → List Int → Int → Bool → Option (Bool)
 | 0, _, _, _, _, _ => none
 | k + 1, x0, x1, x8, x9, x66 => if x66 = true then (if (x8.length : Int) = 0 then (some (x9 == 2)) else (some false)) else (if x9 = 0 then ((tabardref03_Digits.f k x0 x1).bind fun t428 => ((tabardlaw03_same.f k x8 t428).bind fun t431 => (some t431))) else (some false))
end
def tabardlaw03_WordDigits.f (k : Nat) (a0 : Int) (a1 : Int) (l2 : List Int) : Option (Bool) := (some (([] : List Int) : List Int)).bind fun y410 => (if y410.length + l2.length < 17592186044416 then ((some (y410 ++ l2 : List Int)).bind fun y413 => ((word_Digits.f k a0 a1).bind fun bt416 => ((word_Number.f k y413).bind fun bt420 => ((tabardref03_Number.f k l2).bind fun bt422 => ((tabardref03_Length.f k a0).bind fun t424 => ((tabardlaw03_fixed.f k).bind fun t425 => (if t425 = true then ((word_Length.f a0).bind fun t426 => (if t426 = t424 then (if bt420.1 = bt422.1 then (if bt420.2 = bt422.2 then ((tabardlaw03_same.f k y413 l2).bind fun t427 => (tabardlaw03_WordDigits.j0 k a0 a1 bt416.1 bt416.2 t424 (!t427))) else (tabardlaw03_WordDigits.j0 k a0 a1 bt416.1 bt416.2 t424 true)) else (tabardlaw03_WordDigits.j0 k a0 a1 bt416.1 bt416.2 t424 true)) else (tabardlaw03_WordDigits.j0 k a0 a1 bt416.1 bt416.2 t424 true))) else (tabardlaw03_WordDigits.j0 k a0 a1 bt416.1 bt416.2 t424 true)))))))) else (none))
theorem tabardlaw03_WordDigits.mono_l : ∀ k, (∀ y0 y1 y2 y3 y4 y5, LeO (tabardlaw03_WordDigits.j0 k y0 y1 y2 y3 y4 y5) (tabardlaw03_WordDigits.j0 (k + 1) y0 y1 y2 y3 y4 y5)) ∧ (∀ y0 y1 y2 y3 y4, LeO (tabardlaw03_WordDigits.j1 k y0 y1 y2 y3 y4) (tabardlaw03_WordDigits.j1 (k + 1) y0 y1 y2 y3 y4))
 | 0 => ⟨fun _ _ _ _ _ _ r h => by simp [tabardlaw03_WordDigits.j0] at h, fun _ _ _ _ _ r h => by simp [tabardlaw03_WordDigits.j1] at h⟩
 | k + 1 => by
  obtain ⟨ih0, ih1⟩ := tabardlaw03_WordDigits.mono_l k
  refine ⟨?_, ?_⟩
  ·intro y0 y1 y2 y3 y4 y5
   unfold tabardlaw03_WordDigits.j0
   repeat' first
   | (with_reducible exact ih0 _ _ _ _ _ _)
   | (with_reducible exact ih1 _ _ _ _ _)
   | (with_reducible exact tabardlaw03_fixed.mono _)
   | (with_reducible exact tabardlaw03_same.mono _ _ _)
   | (with_reducible exact tabardref03_Digits.mono _ _ _)
   | (with_reducible exact tabardref03_Length.mono _ _)
   | (with_reducible exact tabardref03_Number.mono _ _)
   | (with_reducible exact word_Digits.mono _ _ _)
   | (with_reducible exact word_Number.mono _ _)
   | (with_reducible exact LeO.refl _)
   | (with_reducible exact LeO.none _)
   | (with_reducible refine LeO.ite ?_ ?_)
   | (with_reducible refine LeO.bind ?_ (fun _ => ?_))
   | exact ih0 _ _ _ _ _ _
   | exact ih1 _ _ _ _ _
   | exact tabardlaw03_fixed.mono _
   | exact tabardlaw03_same.mono _ _ _
   | exact tabardref03_Digits.mono _ _ _
   | exact tabardref03_Length.mono _ _
   | exact tabardref03_Number.mono _ _
   | exact word_Digits.mono _ _ _
   | exact word_Number.mono _ _
   | exact LeO.none _
   | refine LeO.ite ?_ ?_
   | refine LeO.bind ?_ (fun _ => ?_)
  ·intro y0 y1 y2 y3 y4
   unfold tabardlaw03_WordDigits.j1
   repeat' first
   | (with_reducible exact ih0 _ _ _ _ _ _)
   | (with_reducible exact ih1 _ _ _ _ _)
   | (with_reducible exact tabardlaw03_fixed.mono _)
   | (with_reducible exact tabardlaw03_same.mono _ _ _)
   | (with_reducible exact tabardref03_Digits.mono _ _ _)
   | (with_reducible exact tabardref03_Length.mono _ _)
   | (with_reducible exact tabardref03_Number.mono _ _)
   | (with_reducible exact word_Digits.mono _ _ _)
   | (with_reducible exact word_Number.mono _ _)
   | (with_reducible exact LeO.refl _)
   | (with_reducible exact LeO.none _)
   | (with_reducible refine LeO.ite ?_ ?_)
   | (with_reducible refine LeO.bind ?_ (fun _ => ?_))
   | exact ih0 _ _ _ _ _ _
   | exact ih1 _ _ _ _ _
   | exact tabardlaw03_fixed.mono _
   | exact tabardlaw03_same.mono _ _ _
   | exact tabardref03_Digits.mono _ _ _
   | exact tabardref03_Length.mono _ _
   | exact tabardref03_Number.mono _ _
   | exact word_Digits.mono _ _ _
   | exact word_Number.mono _ _
   | exact LeO.none _
   | refine LeO.ite ?_ ?_
   | refine LeO.bind ?_ (fun _ => ?_)
theorem tabardlaw03_WordDigits.mono : ∀ a0 a1 a2 k, LeO (tabardlaw03_WordDigits.f k a0 a1 a2) (tabardlaw03_WordDigits.f (k + 1) a0 a1 a2) := by
 intro a0 a1 a2 k
 obtain ⟨ih0, ih1⟩ := tabardlaw03_WordDigits.mono_l k
 unfold tabardlaw03_WordDigits.f
 repeat' first
   | (with_reducible exact ih0 _ _ _ _ _ _)
   | (with_reducible exact ih1 _ _ _ _ _)
   | (with_reducible exact tabardlaw03_fixed.mono _)
   | (with_reducible exact tabardlaw03_same.mono _ _ _)
   | (with_reducible exact tabardref03_Digits.mono _ _ _)
   | (with_reducible exact tabardref03_Length.mono _ _)
   | (with_reducible exact tabardref03_Number.mono _ _)
   | (with_reducible exact word_Digits.mono _ _ _)
   | (with_reducible exact word_Number.mono _ _)
   | (with_reducible exact LeO.refl _)
   | (with_reducible exact LeO.none _)
   | (with_reducible refine LeO.ite ?_ ?_)
   | (with_reducible refine LeO.bind ?_ (fun _ => ?_))
   | exact ih0 _ _ _ _ _ _
   | exact ih1 _ _ _ _ _
   | exact tabardlaw03_fixed.mono _
   | exact tabardlaw03_same.mono _ _ _
   | exact tabardref03_Digits.mono _ _ _
   | exact tabardref03_Length.mono _ _
   | exact tabardref03_Number.mono _ _
   | exact word_Digits.mono _ _ _
   | exact word_Number.mono _ _
   | exact LeO.none _
   | refine LeO.ite ?_ ?_
   | refine LeO.bind ?_ (fun _ => ?_)
set_option maxHeartbeats 8000000 in
set_option maxRecDepth 100000 in
theorem tabardlaw03_WordDigits.calls (k : Nat) (a0 : Int) (a1 : Int) (A2 : Option Addr) (c2 : Nat) (l2 : List Int) (r : Bool) (w : World) (hr2 : Kd.C (Kd.int .i64) w A2 l2.length l2) (hc2 : l2.length ≤ c2) (h : tabardlaw03_WordDigits.f k a0 a1 l2 = some r) :
  Calls Try.prog 4 #[.int .i64 a0, .int .i64 a1, .slice A2 l2.length c2] w fun e w' => e = .returned (.bool r) ∧ Below w.heap.size w w' := by
 have HR2 := Aside0.mk hr2
 have HC2 := Aside0.mk hc2
 clear hr2 hc2
 have HB := Aside0.mk (Below.refl w.heap.size w)
 have H : ((some (([] : List Int) : List Int)).bind fun y410 => (if y410.length + l2.length < 17592186044416 then ((some (y410 ++ l2 : List Int)).bind fun y413 => ((word_Digits.f k a0 a1).bind fun bt416 => ((word_Number.f k y413).bind fun bt420 => ((tabardref03_Number.f k l2).bind fun bt422 => ((tabardref03_Length.f k a0).bind fun t424 => ((tabardlaw03_fixed.f k).bind fun t425 => (if t425 = true then ((word_Length.f a0).bind fun t426 => (if t426 = t424 then (if bt420.1 = bt422.1 then (if bt420.2 = bt422.2 then ((tabardlaw03_same.f k y413 l2).bind fun t427 => (tabardlaw03_WordDigits.j0 k a0 a1 bt416.1 bt416.2 t424 (!t427))) else (tabardlaw03_WordDigits.j0 k a0 a1 bt416.1 bt416.2 t424 true)) else (tabardlaw03_WordDigits.j0 k a0 a1 bt416.1 bt416.2 t424 true)) else (tabardlaw03_WordDigits.j0 k a0 a1 bt416.1 bt416.2 t424 true))) else (tabardlaw03_WordDigits.j0 k a0 a1 bt416.1 bt416.2 t424 true)))))))) else (none))) = some r := h
 clear h
 obtain ⟨y410, hy410⟩ : ∃ y_ : List Int, y_ = (([] : List Int)) := ⟨_, rfl⟩
 replace H : (if y410.length + l2.length < 17592186044416 then ((some (y410 ++ l2 : List Int)).bind fun y413 => ((word_Digits.f k a0 a1).bind fun bt416 => ((word_Number.f k y413).bind fun bt420 => ((tabardref03_Number.f k l2).bind fun bt422 => ((tabardref03_Length.f k a0).bind fun t424 => ((tabardlaw03_fixed.f k).bind fun t425 => (if t425 = true then ((word_Length.f a0).bind fun t426 => (if t426 = t424 then (if bt420.1 = bt422.1 then (if bt420.2 = bt422.2 then ((tabardlaw03_same.f k y413 l2).bind fun t427 => (tabardlaw03_WordDigits.j0 k a0 a1 bt416.1 bt416.2 t424 (!t427))) else (tabardlaw03_WordDigits.j0 k a0 a1 bt416.1 bt416.2 t424 true)) else (tabardlaw03_WordDigits.j0 k a0 a1 bt416.1 bt416.2 t424 true)) else (tabardlaw03_WordDigits.j0 k a0 a1 bt416.1 bt416.2 t424 true))) else (tabardlaw03_WordDigits.j0 k a0 a1 bt416.1 bt416.2 t424 true)))))))) else (none)) = some r := by first | (rw [hy410]; with_reducible exact H) | (have H2_ := (Option.bind_some _ _).symm.trans H; rw [hy410]; with_reducible exact H2_) | (have H2_ := (Option.bind_some _ _).symm.trans H; with_reducible exact H2_) | with_reducible exact H | (rw [hy410]; exact H) | exact H
 have Ny410 := Aside0.mk hy410
 clear hy410
 by_cases c4 : y410.length + l2.length < 17592186044416
 ·rw [if_pos c4] at H
  have LMc4 := Aside0.mk c4
  clear c4
  obtain ⟨y413, hy413⟩ : ∃ y_ : List Int, y_ = (y410 ++ l2) := ⟨_, rfl⟩
  replace H : ((word_Digits.f k a0 a1).bind fun bt416 => ((word_Number.f k y413).bind fun bt420 => ((tabardref03_Number.f k l2).bind fun bt422 => ((tabardref03_Length.f k a0).bind fun t424 => ((tabardlaw03_fixed.f k).bind fun t425 => (if t425 = true then ((word_Length.f a0).bind fun t426 => (if t426 = t424 then (if bt420.1 = bt422.1 then (if bt420.2 = bt422.2 then ((tabardlaw03_same.f k y413 l2).bind fun t427 => (tabardlaw03_WordDigits.j0 k a0 a1 bt416.1 bt416.2 t424 (!t427))) else (tabardlaw03_WordDigits.j0 k a0 a1 bt416.1 bt416.2 t424 true)) else (tabardlaw03_WordDigits.j0 k a0 a1 bt416.1 bt416.2 t424 true)) else (tabardlaw03_WordDigits.j0 k a0 a1 bt416.1 bt416.2 t424 true))) else (tabardlaw03_WordDigits.j0 k a0 a1 bt416.1 bt416.2 t424 true))))))) = some r := by first | (rw [hy413]; with_reducible exact H) | (have H2_ := (Option.bind_some _ _).symm.trans H; rw [hy413]; with_reducible exact H2_) | (have H2_ := (Option.bind_some _ _).symm.trans H; with_reducible exact H2_) | with_reducible exact H | (rw [hy413]; exact H) | exact H
  have Ny413 := Aside0.mk hy413
  clear hy413
  replace H := Option.bind_eq_some_iff.mp H
  obtain ⟨⟨t416, t417⟩, A50, H⟩ := H
  replace H : ((word_Number.f k y413).bind fun bt420 => ((tabardref03_Number.f k l2).bind fun bt422 => ((tabardref03_Length.f k a0).bind fun t424 => ((tabardlaw03_fixed.f k).bind fun t425 => (if t425 = true then ((word_Length.f a0).bind fun t426 => (if t426 = t424 then (if bt420.1 = bt422.1 then (if bt420.2 = bt422.2 then ((tabardlaw03_same.f k y413 l2).bind fun t427 => (tabardlaw03_WordDigits.j0 k a0 a1 t416 t417 t424 (!t427))) else (tabardlaw03_WordDigits.j0 k a0 a1 t416 t417 t424 true)) else (tabardlaw03_WordDigits.j0 k a0 a1 t416 t417 t424 true)) else (tabardlaw03_WordDigits.j0 k a0 a1 t416 t417 t424 true))) else (tabardlaw03_WordDigits.j0 k a0 a1 t416 t417 t424 true)))))) = some r := H
  have A5 := Aside0.mk A50
  clear A50
  replace H := Option.bind_eq_some_iff.mp H
  obtain ⟨⟨t420, t421⟩, A60, H⟩ := H
  replace H : ((tabardref03_Number.f k l2).bind fun bt422 => ((tabardref03_Length.f k a0).bind fun t424 => ((tabardlaw03_fixed.f k).bind fun t425 => (if t425 = true then ((word_Length.f a0).bind fun t426 => (if t426 = t424 then (if t420 = bt422.1 then (if t421 = bt422.2 then ((tabardlaw03_same.f k y413 l2).bind fun t427 => (tabardlaw03_WordDigits.j0 k a0 a1 t416 t417 t424 (!t427))) else (tabardlaw03_WordDigits.j0 k a0 a1 t416 t417 t424 true)) else (tabardlaw03_WordDigits.j0 k a0 a1 t416 t417 t424 true)) else (tabardlaw03_WordDigits.j0 k a0 a1 t416 t417 t424 true))) else (tabardlaw03_WordDigits.j0 k a0 a1 t416 t417 t424 true))))) = some r := H
  have A6 := Aside0.mk A60
  clear A60
  replace H := Option.bind_eq_some_iff.mp H
  obtain ⟨⟨t422, t423⟩, A70, H⟩ := H
  replace H : ((tabardref03_Length.f k a0).bind fun t424 => ((tabardlaw03_fixed.f k).bind fun t425 => (if t425 = true then ((word_Length.f a0).bind fun t426 => (if t426 = t424 then (if t420 = t422 then (if t421 = t423 then ((tabardlaw03_same.f k y413 l2).bind fun t427 => (tabardlaw03_WordDigits.j0 k a0 a1 t416 t417 t424 (!t427))) else (tabardlaw03_WordDigits.j0 k a0 a1 t416 t417 t424 true)) else (tabardlaw03_WordDigits.j0 k a0 a1 t416 t417 t424 true)) else (tabardlaw03_WordDigits.j0 k a0 a1 t416 t417 t424 true))) else (tabardlaw03_WordDigits.j0 k a0 a1 t416 t417 t424 true)))) = some r := H
  have A7 := Aside0.mk A70
  clear A70
  replace H := Option.bind_eq_some_iff.mp H
  obtain ⟨t424, A80, H⟩ := H
  replace H : ((tabardlaw03_fixed.f k).bind fun t425 => (if t425 = true then ((word_Length.f a0).bind fun t426 => (if t426 = t424 then (if t420 = t422 then (if t421 = t423 then ((tabardlaw03_same.f k y413 l2).bind fun t427 => (tabardlaw03_WordDigits.j0 k a0 a1 t416 t417 t424 (!t427))) else (tabardlaw03_WordDigits.j0 k a0 a1 t416 t417 t424 true)) else (tabardlaw03_WordDigits.j0 k a0 a1 t416 t417 t424 true)) else (tabardlaw03_WordDigits.j0 k a0 a1 t416 t417 t424 true))) else (tabardlaw03_WordDigits.j0 k a0 a1 t416 t417 t424 true))) = some r := H
  have A8 := Aside0.mk A80
  clear A80
  have HC9 := Aside0.mk H
  clear H
  go_enter Try.func4, Try.ntmps4
  go_upto_region 6 with (first | ((with_reducible refine gate_dst (N := 15) rfl ?_); refine Kd.R_lit (Kd.int .i64) _ 3 ?hg (N := 15) ?hd (xs := ([] : List Int)) (inner := []) (ok := fun _ => True) (okp := fun _ => True) ?hr ?hp (fun _ hk => hk) trivial (Below.refl _ _) (Nat.le_refl _) (by simp) ?_; (case hd => rfl); (case hg => rfl); (case hr => first | (go_simp; done) | (go_simp; rfl)); (case hp => exact (Reps.none _ _)); intro v411 w10 ho11 hb hg_ hnew_; clear hg_ hnew_; (first | rw [← Ny410.out] at ho11 | (simp only [Int.reduceToNat] at ho11; rw [← Ny410.out] at ho11)); have n0_ := Aside0.mk (Kd.R_lower ho11 (below_size (bO HB.out))); have n1_ := Aside0.mk (below_step (bO HB.out) hb); clear HB; have HO412 := n0_; have HB := n1_; clear n0_ n1_; clear hb ho11) | ((with_reducible refine gate_builtin (b := .append) (xs := #[.tmp 15, .tmp 16]) rfl ?_); at_builtin; refine Kd.R_append_rows (Kd.int .i64) (w0 := w) w.heap.size rfl (.tmp 15) (.tmp 16) 23 3 (.int .i64 0) 8 rfl Try.underlying23 info3 rfl (by decide) (by omega) v411 y410 l2 _ _ _ (fun _ => True) (fun _ => False) rfl rfl ?aO ?aR (fun _ _ h => h) (fun _ h => h.elim) ?aF ?aB ?aS ?aL ?_; (case aR => exact cO (Kd.C_below HR2.out HB.out)); (case aB => exact (bO HB.out)); (case aF => exact (fun _ _ => trivial)); (case aO => exact (rO HO412.out)); (case aS => exact (below_size (bO HB.out))); (case aL => have := LMc4.out; omega); intro v414 w12 ho hb hg hat; rw [← Ny413.out] at ho; have n0_ := Aside0.mk (hb); have n1_ := Aside0.mk (ho); clear HB; clear HO412; have HB := n0_; have HO415 := n1_; clear n0_ n1_; clear ho hb hg hat) | ((with_reducible refine gate_callee (f := 18) rfl ?_); refine goesL_ (some 21) rfl rfl Try.func18 (by kernel_rfl) rfl #[.int .i64 a0, .int .i64 a1] rfl mO ?_; (with_reducible refine (word_Digits.calls k a0 a1 t416 t417 _ A5.out).mono ?_); rintro e w13 ⟨v418, rfl, ho0, hb⟩; refine ⟨_, rfl, ?_⟩; have n0_ := Aside0.mk (Kd.R_elder' (rO HO415.out) (Kd.R_base ho0) hb); have n1_ := Aside0.mk (Kd.R_lower (Kd.R_new' ho0 (Kd.R_lt (rO HO415.out))) (below_size (bO HB.out))); have n2_ := Aside0.mk (below_step (bO HB.out) hb); clear HO415; clear HB; have HO415 := n0_; have HO419 := n1_; have HB := n2_; clear n0_ n1_ n2_; (try clear hb); (try clear hb2); (try clear hk); (try clear hi); (try clear ho0); obtain ⟨Ao14, co14, eo14⟩ := Kd.R_slice HO415.out; subst eo14) | ((with_reducible refine gate_callee (f := 19) rfl ?_); refine goesL_ (some 26) rfl rfl Try.func19 (by kernel_rfl) rfl #[.slice Ao14 y413.length co14] rfl mO ?_; (with_reducible refine (word_Number.calls k _ _ y413 t420 t421 _ ?side1 ?side2 A6.out).mono ?_); (case side1 => exact cO (Kd.R_reads' HO415.out).2.2); (case side2 => exact (Kd.R_reads' HO415.out).2.1); rintro e w' ⟨rfl, ⟨nd, rfl⟩⟩; refine ⟨_, rfl, ?_⟩) | ((with_reducible refine gate_callee (f := 20) rfl ?_); refine goesL_ (some 31) rfl rfl Try.func20 (by kernel_rfl) rfl #[.slice A2 l2.length c2] rfl mO ?_; (with_reducible refine (tabardref03_Number.calls k _ _ l2 t422 t423 _ ?side1 ?side2 A7.out).mono ?_); (case side1 => repeat (first | exact (Kd.C_below HR2.out (bO HB.out)) | (with_reducible refine Kd.C_alloc ?_ _) | (with_reducible refine Kd.C_drewN ?_ _) | (with_reducible refine Kd.C_drew ?_))); (case side2 => exact HC2.out); rintro e w15 ⟨rfl, hb⟩; refine ⟨_, rfl, ?_⟩; have n0_ := Aside0.mk (Kd.R_below (rO HO415.out) hb); have n1_ := Aside0.mk (Kd.R_below (rO HO419.out) hb); have n2_ := Aside0.mk (below_step (bO HB.out) hb); clear HO415; clear HO419; clear HB; have HO415 := n0_; have HO419 := n1_; have HB := n2_; clear n0_ n1_ n2_; (try clear hb); (try clear hb2); (try clear hk); (try clear hi)) | ((with_reducible refine gate_callee (f := 21) rfl ?_); refine goesL_ (some 35) rfl rfl Try.func21 (by kernel_rfl) rfl #[.int .i64 a0] rfl mO ?_; (with_reducible refine (tabardref03_Length.calls k a0 t424 _ A8.out).mono ?_); rintro e w16 ⟨rfl, hb⟩; refine ⟨_, rfl, ?_⟩; have n0_ := Aside0.mk (Kd.R_below (rO HO415.out) hb); have n1_ := Aside0.mk (Kd.R_below (rO HO419.out) hb); have n2_ := Aside0.mk (below_step (bO HB.out) hb); clear HO415; clear HO419; clear HB; have HO415 := n0_; have HO419 := n1_; have HB := n2_; clear n0_ n1_ n2_; (try clear hb); (try clear hb2); (try clear hk); (try clear hi)))
  (try simp only [Act.put, List.setIfInBounds_toArray, List.set_cons_zero, List.set_cons_succ])
  go_cut [59] (fun v59 wc => ∃ (kq : Nat) (x59_8 : Bool), v59 = .bool x59_8 ∧ Aside0 (tabardlaw03_WordDigits.j0 kq a0 a1 t416 t417 t424 x59_8 = some r) ∧ Aside0 (kq ≤ k) ∧ Aside0 (Kd.R (Kd.int .i64) 3 wc w.heap.size (fun _ => True) v418 t416) ∧ Aside0 (Below w.heap.size w wc))
  case first =>
   have H := HC9.out
   clear HC9
   replace H := Option.bind_eq_some_iff.mp H
   obtain ⟨t425, A170, H⟩ := H
   replace H : (if t425 = true then ((word_Length.f a0).bind fun t426 => (if t426 = t424 then (if t420 = t422 then (if t421 = t423 then ((tabardlaw03_same.f k y413 l2).bind fun t427 => (tabardlaw03_WordDigits.j0 k a0 a1 t416 t417 t424 (!t427))) else (tabardlaw03_WordDigits.j0 k a0 a1 t416 t417 t424 true)) else (tabardlaw03_WordDigits.j0 k a0 a1 t416 t417 t424 true)) else (tabardlaw03_WordDigits.j0 k a0 a1 t416 t417 t424 true))) else (tabardlaw03_WordDigits.j0 k a0 a1 t416 t417 t424 true)) = some r := H
   have A17 := Aside0.mk A170
   clear A170
   by_cases c18 : t425 = true
   ·subst c18
    have H1 : ((word_Length.f a0).bind fun t426 => (if t426 = t424 then (if t420 = t422 then (if t421 = t423 then ((tabardlaw03_same.f k y413 l2).bind fun t427 => (tabardlaw03_WordDigits.j0 k a0 a1 t416 t417 t424 (!t427))) else (tabardlaw03_WordDigits.j0 k a0 a1 t416 t417 t424 true)) else (tabardlaw03_WordDigits.j0 k a0 a1 t416 t417 t424 true)) else (tabardlaw03_WordDigits.j0 k a0 a1 t416 t417 t424 true))) = some r := by rw [if_pos rfl] at H; exact H
    clear H
    have H := H1
    clear H1
    replace H := Option.bind_eq_some_iff.mp H
    obtain ⟨t426, A190, H⟩ := H
    replace H : (if t426 = t424 then (if t420 = t422 then (if t421 = t423 then ((tabardlaw03_same.f k y413 l2).bind fun t427 => (tabardlaw03_WordDigits.j0 k a0 a1 t416 t417 t424 (!t427))) else (tabardlaw03_WordDigits.j0 k a0 a1 t416 t417 t424 true)) else (tabardlaw03_WordDigits.j0 k a0 a1 t416 t417 t424 true)) else (tabardlaw03_WordDigits.j0 k a0 a1 t416 t417 t424 true)) = some r := H
    have A19 := Aside0.mk A190
    clear A190
    by_cases c20 : t426 = t424
    ·rw [if_pos c20] at H
     have c20b0 : (t426 == t424) = true := beq_iff_eq.mpr c20
     have c20b1 : (t426 != t424) = false := bne_eq_false_iff_eq.mpr c20
     clear c20
     (first | rw [c20b0] | (simp only [i64_w, i32_w]; rw [c20b0]) | skip)
     by_cases c21 : t420 = t422
     ·rw [if_pos c21] at H
      have c21b0 : (t420 == t422) = true := beq_iff_eq.mpr c21
      have c21b1 : (t420 != t422) = false := bne_eq_false_iff_eq.mpr c21
      clear c21
      by_cases c22 : t421 = t423
      ·rw [if_pos c22] at H
       have c22b0 : (t421 == t423) = true := beq_iff_eq.mpr c22
       have c22b1 : (t421 != t423) = false := bne_eq_false_iff_eq.mpr c22
       clear c22
       replace H := Option.bind_eq_some_iff.mp H
       obtain ⟨t427, A230, H⟩ := H
       replace H : (tabardlaw03_WordDigits.j0 k a0 a1 t416 t417 t424 (!t427)) = some r := H
       have A23 := Aside0.mk A230
       clear A230
       have H' := Aside0.mk H
       clear H
       go_wp2_with (first | ((with_reducible refine gate_callee (f := 15) rfl ?_); refine goesL_ (some 36) rfl rfl Try.func15 (by kernel_rfl) rfl #[] rfl mO ?_; (with_reducible refine (tabardlaw03_fixed.calls k  true _ A17.out).mono ?_); rintro e w24 ⟨rfl, hb⟩; refine ⟨_, rfl, ?_⟩; have n0_ := Aside0.mk (Kd.R_below (rO HO415.out) hb); have n1_ := Aside0.mk (Kd.R_below (rO HO419.out) hb); have n2_ := Aside0.mk (below_step (bO HB.out) hb); clear HO415; clear HO419; clear HB; have HO415 := n0_; have HO419 := n1_; have HB := n2_; clear n0_ n1_ n2_; (try clear hb); (try clear hb2); (try clear hk); (try clear hi)) | (go_at_call 22; (with_reducible refine (word_Length.calls a0 t426 _ A19.out).mono ?_); rintro e w' ⟨rfl, ⟨nd, rfl⟩⟩) | (go_at_call 16; (with_reducible refine (tabardlaw03_same.calls k _ _ y413 _ _ l2 t427 _ ?side1 ?side2 ?side3 ?side4 A23.out).mono ?_); (case side1 => exact cO (Kd.R_reads' HO415.out).2.2); (case side2 => exact (Kd.R_reads' HO415.out).2.1); (case side3 => repeat (first | exact (Kd.C_below HR2.out (bO HB.out)) | (with_reducible refine Kd.C_alloc ?_ _) | (with_reducible refine Kd.C_drewN ?_ _) | (with_reducible refine Kd.C_drew ?_))); (case side4 => exact HC2.out); rintro e w' ⟨rfl, ⟨nd, rfl⟩⟩))
       go_meet
       case rel => exact ⟨_, (!t427), (by first | rfl | (simp; done) | (simp [*]; done)), H', ⟨by first | omega | exact Nat.le_refl _⟩, ⟨by (with_reducible repeat (first | apply Kd.R_alloc | apply Kd.R_drewN | apply Kd.R_drew)); exact Kd.R_mono HO419.out (fun _ hk => trivial)⟩, ⟨bO HB.out⟩⟩
      ·rw [if_neg c22] at H
       have c22b0 : (t421 == t423) = false := beq_eq_false_iff_ne.mpr c22
       have c22b1 : (t421 != t423) = true := bne_iff_ne.mpr c22
       have H' := Aside0.mk H
       clear H
       go_wp2_with (first | ((with_reducible refine gate_callee (f := 15) rfl ?_); refine goesL_ (some 36) rfl rfl Try.func15 (by kernel_rfl) rfl #[] rfl mO ?_; (with_reducible refine (tabardlaw03_fixed.calls k  true _ A17.out).mono ?_); rintro e w25 ⟨rfl, hb⟩; refine ⟨_, rfl, ?_⟩; have n0_ := Aside0.mk (Kd.R_below (rO HO415.out) hb); have n1_ := Aside0.mk (Kd.R_below (rO HO419.out) hb); have n2_ := Aside0.mk (below_step (bO HB.out) hb); clear HO415; clear HO419; clear HB; have HO415 := n0_; have HO419 := n1_; have HB := n2_; clear n0_ n1_ n2_; (try clear hb); (try clear hb2); (try clear hk); (try clear hi)) | (go_at_call 22; (with_reducible refine (word_Length.calls a0 t426 _ A19.out).mono ?_); rintro e w' ⟨rfl, ⟨nd, rfl⟩⟩))
       go_meet
       case rel => exact ⟨_, (true), (by first | rfl | (simp; done) | (simp [*]; done)), H', ⟨by first | omega | exact Nat.le_refl _⟩, ⟨by (with_reducible repeat (first | apply Kd.R_alloc | apply Kd.R_drewN | apply Kd.R_drew)); exact Kd.R_mono HO419.out (fun _ hk => trivial)⟩, ⟨bO HB.out⟩⟩
     ·rw [if_neg c21] at H
      have c21b0 : (t420 == t422) = false := beq_eq_false_iff_ne.mpr c21
      have c21b1 : (t420 != t422) = true := bne_iff_ne.mpr c21
      have H' := Aside0.mk H
      clear H
      go_wp2_with (first | ((with_reducible refine gate_callee (f := 15) rfl ?_); refine goesL_ (some 36) rfl rfl Try.func15 (by kernel_rfl) rfl #[] rfl mO ?_; (with_reducible refine (tabardlaw03_fixed.calls k  true _ A17.out).mono ?_); rintro e w26 ⟨rfl, hb⟩; refine ⟨_, rfl, ?_⟩; have n0_ := Aside0.mk (Kd.R_below (rO HO415.out) hb); have n1_ := Aside0.mk (Kd.R_below (rO HO419.out) hb); have n2_ := Aside0.mk (below_step (bO HB.out) hb); clear HO415; clear HO419; clear HB; have HO415 := n0_; have HO419 := n1_; have HB := n2_; clear n0_ n1_ n2_; (try clear hb); (try clear hb2); (try clear hk); (try clear hi)) | (go_at_call 22; (with_reducible refine (word_Length.calls a0 t426 _ A19.out).mono ?_); rintro e w' ⟨rfl, ⟨nd, rfl⟩⟩))
      go_meet
      case rel => exact ⟨_, (true), (by first | rfl | (simp; done) | (simp [*]; done)), H', ⟨by first | omega | exact Nat.le_refl _⟩, ⟨by (with_reducible repeat (first | apply Kd.R_alloc | apply Kd.R_drewN | apply Kd.R_drew)); exact Kd.R_mono HO419.out (fun _ hk => trivial)⟩, ⟨bO HB.out⟩⟩
    ·rw [if_neg c20] at H
     have c20b0 : (t426 == t424) = false := beq_eq_false_iff_ne.mpr c20
     have c20b1 : (t426 != t424) = true := bne_iff_ne.mpr c20
     (first | rw [c20b0] | (simp only [i64_w, i32_w]; rw [c20b0]) | skip)
     have H' := Aside0.mk H
     clear H
     go_wp2_with (first | ((with_reducible refine gate_callee (f := 15) rfl ?_); refine goesL_ (some 36) rfl rfl Try.func15 (by kernel_rfl) rfl #[] rfl mO ?_; (with_reducible refine (tabardlaw03_fixed.calls k  true _ A17.out).mono ?_); rintro e w27 ⟨rfl, hb⟩; refine ⟨_, rfl, ?_⟩; have n0_ := Aside0.mk (Kd.R_below (rO HO415.out) hb); have n1_ := Aside0.mk (Kd.R_below (rO HO419.out) hb); have n2_ := Aside0.mk (below_step (bO HB.out) hb); clear HO415; clear HO419; clear HB; have HO415 := n0_; have HO419 := n1_; have HB := n2_; clear n0_ n1_ n2_; (try clear hb); (try clear hb2); (try clear hk); (try clear hi)) | (go_at_call 22; (with_reducible refine (word_Length.calls a0 t426 _ A19.out).mono ?_); rintro e w' ⟨rfl, ⟨nd, rfl⟩⟩))
     go_meet
     case rel => exact ⟨_, (true), (by first | rfl | (simp; done) | (simp [*]; done)), H', ⟨by first | omega | exact Nat.le_refl _⟩, ⟨by (with_reducible repeat (first | apply Kd.R_alloc | apply Kd.R_drewN | apply Kd.R_drew)); exact Kd.R_mono HO419.out (fun _ hk => trivial)⟩, ⟨bO HB.out⟩⟩
   ·replace c18 := Bool.eq_false_iff.mpr c18
    subst c18
    have H1 : (tabardlaw03_WordDigits.j0 k a0 a1 t416 t417 t424 true) = some r := by rw [if_neg (show ¬ (false = true) by decide)] at H; exact H
    clear H
    have H := H1
    clear H1
    have H' := Aside0.mk H
    clear H
    go_wp2_with (first | ((with_reducible refine gate_callee (f := 15) rfl ?_); refine goesL_ (some 36) rfl rfl Try.func15 (by kernel_rfl) rfl #[] rfl mO ?_; (with_reducible refine (tabardlaw03_fixed.calls k  false _ A17.out).mono ?_); rintro e w28 ⟨rfl, hb⟩; refine ⟨_, rfl, ?_⟩; have n0_ := Aside0.mk (Kd.R_below (rO HO415.out) hb); have n1_ := Aside0.mk (Kd.R_below (rO HO419.out) hb); have n2_ := Aside0.mk (below_step (bO HB.out) hb); clear HO415; clear HO419; clear HB; have HO415 := n0_; have HO419 := n1_; have HB := n2_; clear n0_ n1_ n2_; (try clear hb); (try clear hb2); (try clear hk); (try clear hi)))
    go_meet
    case rel => exact ⟨_, (true), (by first | rfl | (simp; done) | (simp [*]; done)), H', ⟨by first | omega | exact Nat.le_refl _⟩, ⟨by (with_reducible repeat (first | apply Kd.R_alloc | apply Kd.R_drewN | apply Kd.R_drew)); exact Kd.R_mono HO419.out (fun _ hk => trivial)⟩, ⟨bO HB.out⟩⟩
  case rest =>
   clear HC9
   try clear c1
   try clear c2
   try clear p2
   try clear c4
   try clear c15
   try clear c18
   try clear c19
   try clear c20
   try clear c20b0
   try clear c20b1
   try clear c21
   try clear c21b0
   try clear c21b1
   try clear c22
   try clear c22b0
   try clear c22b1
   obtain ⟨kq, x59_8, rfl, HA, HJ8, HO_8, HB⟩ := hcut
   cases kq with
   | zero => exact absurd HA.out (by simp [tabardlaw03_WordDigits.j0])
   | succ kj8 =>
    have H := HA.out
    clear HA
    simp only [tabardlaw03_WordDigits.j0] at H
    by_cases c29 : x59_8 = true
    ·subst c29
     have H1 : (some false) = some r := by rw [if_pos rfl] at H; exact H
     clear H
     have H := H1
     clear H1
     obtain rfl := Option.some.inj H
     go_wp2
     go_ret
     exact ⟨by first | rfl | (simp [errW_none, errW_some] <;> rfl) | (simp [*, errW_none, errW_some] <;> rfl), bO HB.out⟩
    ·replace c29 := Bool.eq_false_iff.mpr c29
     subst c29
     have H1 : (if a1 < t424 then (tabardlaw03_WordDigits.j1 kj8 a0 a1 t416 t417 true) else (tabardlaw03_WordDigits.j1 kj8 a0 a1 t416 t417 (decide (a1 > 64)))) = some r := by rw [if_neg (show ¬ (false = true) by decide)] at H; exact H
     clear H
     have H := H1
     clear H1
     have HC30 := Aside0.mk H
     clear H
     go_upto_region 8 with (fail)
     go_cut [66] (fun v66 wc => ∃ (kq : Nat) (x66_29 : Bool), v66 = .bool x66_29 ∧ Aside0 (tabardlaw03_WordDigits.j1 kq a0 a1 t416 t417 x66_29 = some r) ∧ Aside0 (kq ≤ kj8) ∧ Aside0 (Kd.R (Kd.int .i64) 3 wc w.heap.size (fun _ => True) v418 t416) ∧ Aside0 (Below w.heap.size w wc))
     case first =>
      have H := HC30.out
      clear HC30
      by_cases c31 : a1 < t424
      ·rw [if_pos c31] at H
       have c31b0 : decide (a1 < t424) = true := decide_eq_true c31
       clear c31
       (first | rw [c31b0] | (simp only [i64_w, i32_w]; rw [c31b0]) | skip)
       have H' := Aside0.mk H
       clear H
       go_wp2
       go_meet
       case rel => exact ⟨_, (true), (by first | rfl | (simp; done) | (simp [*]; done)), H', ⟨by have := HJ8.out; first | omega | exact Nat.le_refl _⟩, ⟨rO HO_8.out⟩, ⟨bO HB.out⟩⟩
      ·rw [if_neg c31] at H
       have c31b0 : decide (a1 < t424) = false := decide_eq_false c31
       clear c31
       (first | rw [c31b0] | (simp only [i64_w, i32_w]; rw [c31b0]) | skip)
       have H' := Aside0.mk H
       clear H
       go_wp2
       go_meet
       case rel => exact ⟨_, (decide (a1 > 64)), (by first | rfl | (simp; done) | (simp [*]; done)), H', ⟨by have := HJ8.out; first | omega | exact Nat.le_refl _⟩, ⟨rO HO_8.out⟩, ⟨bO HB.out⟩⟩
     case rest =>
      clear HC30
      try clear c1
      try clear c2
      try clear p2
      try clear c3
      try clear c4
      try clear c15
      try clear c18
      try clear c19
      try clear c20
      try clear c20b0
      try clear c20b1
      try clear c21
      try clear c21b0
      try clear c21b1
      try clear c22
      try clear c22b0
      try clear c22b1
      try clear c29
      try clear c31
      try clear c31b0
      try clear p2
      obtain ⟨kq, x66_29, rfl, HA, HJ29, HO_8, HB⟩ := hcut
      cases kq with
      | zero => exact absurd HA.out (by simp [tabardlaw03_WordDigits.j1])
      | succ kj29 =>
       have H := HA.out
       clear HA
       simp only [tabardlaw03_WordDigits.j1] at H
       by_cases c32 : x66_29 = true
       ·subst c32
        have H1 : (if (t416.length : Int) = 0 then (some (t417 == 2)) else (some false)) = some r := by rw [if_pos rfl] at H; exact H
        clear H
        have H := H1
        clear H1
        by_cases c33 : (t416.length : Int) = 0
        ·rw [if_pos c33] at H
         have c33b0 : ((t416.length : Int) == 0) = true := beq_iff_eq.mpr c33
         have c33b1 : ((t416.length : Int) != 0) = false := bne_eq_false_iff_eq.mpr c33
         clear c33
         obtain rfl := Option.some.inj H
         obtain ⟨Ao34, co34, eo34⟩ := Kd.R_slice HO_8.out
         subst eo34
         go_wp2
         go_ret
         exact ⟨by first | rfl | (simp [errW_none, errW_some] <;> rfl) | (simp [*, errW_none, errW_some] <;> rfl), bO HB.out⟩
        ·rw [if_neg c33] at H
         have c33b0 : ((t416.length : Int) == 0) = false := beq_eq_false_iff_ne.mpr c33
         have c33b1 : ((t416.length : Int) != 0) = true := bne_iff_ne.mpr c33
         have c33b2 : ¬ (t416 = []) := fun h_ => c33 (by rw [h_]; rfl)
         obtain rfl := Option.some.inj H
         obtain ⟨Ao35, co35, eo35⟩ := Kd.R_slice HO_8.out
         subst eo35
         go_wp2
         go_ret
         exact ⟨by first | rfl | (simp [errW_none, errW_some] <;> rfl) | (simp [*, errW_none, errW_some] <;> rfl), bO HB.out⟩
       ·replace c32 := Bool.eq_false_iff.mpr c32
        subst c32
        have H1 : (if t417 = 0 then ((tabardref03_Digits.f kj29 a0 a1).bind fun t428 => ((tabardlaw03_same.f kj29 t416 t428).bind fun t431 => (some t431))) else (some false)) = some r := by rw [if_neg (show ¬ (false = true) by decide)] at H; exact H
        clear H
        have H := H1
        clear H1
        by_cases c36 : t417 = 0
        ·rw [if_pos c36] at H
         have c36b0 : (t417 == 0) = true := beq_iff_eq.mpr c36
         have c36b1 : (t417 != 0) = false := bne_eq_false_iff_eq.mpr c36
         clear c36
         replace H := Option.bind_eq_some_iff.mp H
         obtain ⟨t428, A370, H⟩ := H
         replace H : ((tabardlaw03_same.f kj29 t416 t428).bind fun t431 => (some t431)) = some r := H
         have A37 := Aside0.mk A370
         clear A370
         replace H := Option.bind_eq_some_iff.mp H
         obtain ⟨t431, A380, H⟩ := H
         replace H : (some t431) = some r := H
         have A38 := Aside0.mk A380
         clear A380
         obtain rfl := Option.some.inj H
         go_wp2_with (first | (go_at_call 23; (with_reducible refine (tabardref03_Digits.calls kj29 a0 a1 t428 _ A37.out).mono ?_); rintro e w39 ⟨v429, rfl, ho0, hb⟩; have n0_ := Aside0.mk (Kd.R_elder' (rO HO_8.out) (Kd.R_base ho0) hb); have n1_ := Aside0.mk (Kd.R_lower (Kd.R_new' ho0 (Kd.R_lt (rO HO_8.out))) (below_size (bO HB.out))); have n2_ := Aside0.mk (below_step (bO HB.out) hb); clear HO_8; clear HB; have HO_8 := n0_; have HO430 := n1_; have HB := n2_; clear n0_ n1_ n2_; (try clear hb); (try clear hb2); (try clear hk); (try clear hi); (try clear ho0); obtain ⟨Ao40, co40, eo40⟩ := Kd.R_slice HO_8.out; subst eo40; obtain ⟨Ao41, co41, eo41⟩ := Kd.R_slice HO430.out; subst eo41) | (go_at_call 16; (with_reducible refine (tabardlaw03_same.calls kj29 _ _ t416 _ _ t428 t431 _ ?side1 ?side2 ?side3 ?side4 A38.out).mono ?_); (case side1 => exact cO (Kd.R_reads' HO_8.out).2.2); (case side2 => exact (Kd.R_reads' HO_8.out).2.1); (case side3 => exact cO (Kd.R_reads' HO430.out).2.2); (case side4 => exact (Kd.R_reads' HO430.out).2.1); rintro e w' ⟨rfl, ⟨nd, rfl⟩⟩))
         go_ret
         exact ⟨by first | rfl | (simp [errW_none, errW_some] <;> rfl) | (simp [*, errW_none, errW_some] <;> rfl), bO HB.out⟩
        ·rw [if_neg c36] at H
         have c36b0 : (t417 == 0) = false := beq_eq_false_iff_ne.mpr c36
         have c36b1 : (t417 != 0) = true := bne_iff_ne.mpr c36
         obtain rfl := Option.some.inj H
         go_wp2
         go_ret
         exact ⟨by first | rfl | (simp [errW_none, errW_some] <;> rfl) | (simp [*, errW_none, errW_some] <;> rfl), bO HB.out⟩
 ·rw [if_neg c4] at H
  exact absurd H (by simp)

/-- THE ONE PURE STATEMENT of tabardlaw03_WordDigits: yours. -/
def tabardlaw03_WordDigits.Pure : Prop := ∀ (a0 : Int) (a1 : Int) (l2 : List Int), (Lit.int .i64 a0).wf = true → (Lit.int .i64 a1).wf = true → l2.length ≤ maxLen → l2.length * 8 ≤ 140737488351232 → (∀ x ∈ l2, (Lit.int .i64 x).wf = true) → ∃ k, tabardlaw03_WordDigits.f k a0 a1 l2 = some true
theorem tabardlaw03_WordDigits.walk (P : tabardlaw03_WordDigits.Pure) (a0 : Int) (a1 : Int) (a2 : Option Addr) (len2 cap2 : Nat) (z2 : List Int) (w : World) (w0 : (Lit.int .i64 a0).wf = true) (w1 : (Lit.int .i64 a1).wf = true) (w2 : (a2 = none ∧ len2 = 0 ∧ cap2 = 0 ∧ z2 = []) ∨ ∃ x, a2 = some x ∧ len2 ≤ cap2 ∧ cap2 ≤ maxLen ∧ z2.length = cap2 ∧ (∀ i, i < z2.length → w.cell? (x.add i) = some (.int .i64 (z2.getD i 0))) ∧ ∀ n ∈ z2, (Lit.int .i64 n).wf = true) (y2 : len2 * 8 ≤ 140737488351232) :
  Calls Try.prog 4 #[.int .i64 a0, .int .i64 a1, .slice a2 len2 cap2] w fun e w' => e = .returned (.bool true) ∧ Below w.heap.size w w' := by
 obtain ⟨l2, rfl, hr2, hm2, hw2, hc2⟩ := ReadsInt.ofRowC w2
 obtain ⟨k, h⟩ := P a0 a1 l2 w0 w1 hm2 y2 hw2
 refine (tabardlaw03_WordDigits.calls k a0 a1 _ _ l2 true w (Kd.C_of_reads (d := (0 : Int)) (h1 := fun _ => rfl) hr2) hc2 h).mono ?_
 rintro e w' ⟨rfl, hd⟩
 exact ⟨rfl, hd⟩

end Go.Proofs.Ytolacbnkebbjiaa.X

/- What the functions of this seat compute, and that the program's calls come to just that: written by this session's own program out of the translation; no condition. -/
import Derived.Test.YtpekanolhgcljaaX0
import Derived.Test.YtpekanolhgcljaaX1
import Derived.Test.YtpekanolhgcljaaX2
import Derived.Test.YtpekanolhgcljaaX9
namespace Go.Proofs.Ytpekanolhgcljaa.X
open Go.RowKit Go.Proofs.YtpekanolhgcljaaW.PrintWords Go.Proofs.YtpekanolhgcljaaW.PrintLast Go.Proofs.YtpekanolhgcljaaW.PrintMore
attribute [local go_sem] max2_int min2_int max_two min_two max_three min_three max_four min_four   -- for this text's walks alone
set_option linter.unusedVariables false
set_option linter.unusedSimpArgs false

/-! ### tabardref02_Gather: function 17 -/
mutual
def tabardref02_Gather.j0 : Nat → Int → List Int → Bool → Option (Int × Int)
 | 0, _, _, _ => none
 | k + 1, x0, x1, x16 => if x16 = true then (some (0, 2)) else ((tabardref02_Digits.f k x0 6).bind fun t211 => (tabardref02_Gather.l0 k x1 t211 ([] : List Int) 0))
def tabardref02_Gather.l0 : Nat → List Int → List Int → List Int → Int → Option (Int × Int)
 | 0, _, _, _, _ => none
 | k + 1, x1, x6, x7, x8 => if x8 < (x1.length : Int) then (if 0 ≤ x8 then (if 0 ≤ (rd x1 x8) then (if (rd x1 x8) < (x6.length : Int) then (if x7.length < 17592186044416 then (tabardref02_Gather.l0 k x1 x6 (x7 ++ [rd x6 (rd x1 x8)]) (wrap64 (x8 + 1))) else (none)) else (none)) else (none)) else (none)) else ((tabardref02_Letter.f k x7).bind fun t219 => (some (t219, 0)))
end
def tabardref02_Gather.f (k : Nat) (a0 : Int) (l1 : List Int) : Option (Int × Int) := (tabardref02_places.f k l1).bind fun t209 => (if t209 = true then ((tabardref02_below.f a0 64).bind fun t210 => (tabardref02_Gather.j0 k a0 l1 (!t210))) else (tabardref02_Gather.j0 k a0 l1 true))
theorem tabardref02_Gather.mono_l : ∀ k, (∀ y0 y1 y2, LeO (tabardref02_Gather.j0 k y0 y1 y2) (tabardref02_Gather.j0 (k + 1) y0 y1 y2)) ∧ (∀ y0 y1 y2 y3, LeO (tabardref02_Gather.l0 k y0 y1 y2 y3) (tabardref02_Gather.l0 (k + 1) y0 y1 y2 y3))
 | 0 => ⟨fun _ _ _ r h => by simp [tabardref02_Gather.j0] at h, fun _ _ _ _ r h => by simp [tabardref02_Gather.l0] at h⟩
 | k + 1 => by
  obtain ⟨ih0, ih1⟩ := tabardref02_Gather.mono_l k
  refine ⟨?_, ?_⟩
  ·intro y0 y1 y2
   unfold tabardref02_Gather.j0
   repeat' first
   | (with_reducible exact ih0 _ _ _)
   | (with_reducible exact ih1 _ _ _ _)
   | (with_reducible exact tabardref02_Digits.mono _ _ _)
   | (with_reducible exact tabardref02_Letter.mono _ _)
   | (with_reducible exact tabardref02_places.mono _ _)
   | (with_reducible exact LeO.refl _)
   | (with_reducible exact LeO.none _)
   | (with_reducible refine LeO.ite ?_ ?_)
   | (with_reducible refine LeO.bind ?_ (fun _ => ?_))
   | exact ih0 _ _ _
   | exact ih1 _ _ _ _
   | exact tabardref02_Digits.mono _ _ _
   | exact tabardref02_Letter.mono _ _
   | exact tabardref02_places.mono _ _
   | exact LeO.none _
   | refine LeO.ite ?_ ?_
   | refine LeO.bind ?_ (fun _ => ?_)
  ·intro y0 y1 y2 y3
   unfold tabardref02_Gather.l0
   repeat' first
   | (with_reducible exact ih0 _ _ _)
   | (with_reducible exact ih1 _ _ _ _)
   | (with_reducible exact tabardref02_Digits.mono _ _ _)
   | (with_reducible exact tabardref02_Letter.mono _ _)
   | (with_reducible exact tabardref02_places.mono _ _)
   | (with_reducible exact LeO.refl _)
   | (with_reducible exact LeO.none _)
   | (with_reducible refine LeO.ite ?_ ?_)
   | (with_reducible refine LeO.bind ?_ (fun _ => ?_))
   | exact ih0 _ _ _
   | exact ih1 _ _ _ _
   | exact tabardref02_Digits.mono _ _ _
   | exact tabardref02_Letter.mono _ _
   | exact tabardref02_places.mono _ _
   | exact LeO.none _
   | refine LeO.ite ?_ ?_
   | refine LeO.bind ?_ (fun _ => ?_)
theorem tabardref02_Gather.mono : ∀ a0 a1 k, LeO (tabardref02_Gather.f k a0 a1) (tabardref02_Gather.f (k + 1) a0 a1) := by
 intro a0 a1 k
 obtain ⟨ih0, ih1⟩ := tabardref02_Gather.mono_l k
 unfold tabardref02_Gather.f
 repeat' first
   | (with_reducible exact ih0 _ _ _)
   | (with_reducible exact ih1 _ _ _ _)
   | (with_reducible exact tabardref02_Digits.mono _ _ _)
   | (with_reducible exact tabardref02_Letter.mono _ _)
   | (with_reducible exact tabardref02_places.mono _ _)
   | (with_reducible exact LeO.refl _)
   | (with_reducible exact LeO.none _)
   | (with_reducible refine LeO.ite ?_ ?_)
   | (with_reducible refine LeO.bind ?_ (fun _ => ?_))
   | exact ih0 _ _ _
   | exact ih1 _ _ _ _
   | exact tabardref02_Digits.mono _ _ _
   | exact tabardref02_Letter.mono _ _
   | exact tabardref02_places.mono _ _
   | exact LeO.none _
   | refine LeO.ite ?_ ?_
   | refine LeO.bind ?_ (fun _ => ?_)
set_option maxHeartbeats 8000000 in
set_option maxRecDepth 100000 in
theorem tabardref02_Gather.calls (k : Nat) (a0 : Int) (A1 : Option Addr) (c1 : Nat) (l1 : List Int) (r1 : Int) (r2 : Int) (w : World) (hr1 : Kd.C (Kd.int .i64) w A1 l1.length l1) (hc1 : l1.length ≤ c1) (h : tabardref02_Gather.f k a0 l1 = some (r1, r2)) :
  Calls Try.prog 17 #[.int .i64 a0, .slice A1 l1.length c1] w fun e w' => e = .returned (.tuple #[.int .i64 r1, .int .i64 r2]) ∧ Below w.heap.size w w' := by
 have HR1 := Aside0.mk hr1
 have HC1 := Aside0.mk hc1
 clear hr1 hc1
 have HB := Aside0.mk (Below.refl w.heap.size w)
 have H : ((tabardref02_places.f k l1).bind fun t209 => (if t209 = true then ((tabardref02_below.f a0 64).bind fun t210 => (tabardref02_Gather.j0 k a0 l1 (!t210))) else (tabardref02_Gather.j0 k a0 l1 true))) = some (r1, r2) := h
 clear h
 have HC3 := Aside0.mk H
 clear H
 go_enter Try.func17, Try.ntmps17
 go_upto_region 1 with (fail)
 go_cut [16] (fun v16 wc => ∃ (kq : Nat) (x16_2 : Bool), v16 = .bool x16_2 ∧ Aside0 (tabardref02_Gather.j0 kq a0 l1 x16_2 = some (r1, r2)) ∧ Aside0 (kq ≤ k) ∧ Aside0 (Below w.heap.size w wc))
 case first =>
  have H := HC3.out
  clear HC3
  replace H := Option.bind_eq_some_iff.mp H
  obtain ⟨t209, A40, H⟩ := H
  replace H : (if t209 = true then ((tabardref02_below.f a0 64).bind fun t210 => (tabardref02_Gather.j0 k a0 l1 (!t210))) else (tabardref02_Gather.j0 k a0 l1 true)) = some (r1, r2) := H
  have A4 := Aside0.mk A40
  clear A40
  by_cases c5 : t209 = true
  ·subst c5
   have H1 : ((tabardref02_below.f a0 64).bind fun t210 => (tabardref02_Gather.j0 k a0 l1 (!t210))) = some (r1, r2) := by rw [if_pos rfl] at H; exact H
   clear H
   have H := H1
   clear H1
   replace H := Option.bind_eq_some_iff.mp H
   obtain ⟨t210, A60, H⟩ := H
   replace H : (tabardref02_Gather.j0 k a0 l1 (!t210)) = some (r1, r2) := H
   have A6 := Aside0.mk A60
   clear A60
   have H' := Aside0.mk H
   clear H
   go_wp2_with (first | ((with_reducible refine gate_callee (f := 35) rfl ?_); refine goesL_ (some 10) rfl rfl Try.func35 (by kernel_rfl) rfl #[.slice A1 l1.length c1] rfl mO ?_; (with_reducible refine (tabardref02_places.calls k _ _ l1 true _ ?side1 ?side2 A4.out).mono ?_); (case side1 => exact cO (Kd.C_below HR1.out HB.out)); (case side2 => exact HC1.out); rintro e w' ⟨rfl, ⟨nd, rfl⟩⟩; refine ⟨_, rfl, ?_⟩) | (go_at_call 28; (with_reducible refine (tabardref02_below.calls a0 64 t210 _ A6.out).mono ?_); rintro e w' ⟨rfl, ⟨nd, rfl⟩⟩))
   go_meet
   case rel => exact ⟨_, (!t210), (by first | rfl | (simp; done) | (simp [*]; done)), H', ⟨by first | omega | exact Nat.le_refl _⟩, ⟨bO HB.out⟩⟩
  ·replace c5 := Bool.eq_false_iff.mpr c5
   subst c5
   have H1 : (tabardref02_Gather.j0 k a0 l1 true) = some (r1, r2) := by rw [if_neg (show ¬ (false = true) by decide)] at H; exact H
   clear H
   have H := H1
   clear H1
   have H' := Aside0.mk H
   clear H
   go_wp2_with (first | ((with_reducible refine gate_callee (f := 35) rfl ?_); refine goesL_ (some 10) rfl rfl Try.func35 (by kernel_rfl) rfl #[.slice A1 l1.length c1] rfl mO ?_; (with_reducible refine (tabardref02_places.calls k _ _ l1 false _ ?side1 ?side2 A4.out).mono ?_); (case side1 => exact cO (Kd.C_below HR1.out HB.out)); (case side2 => exact HC1.out); rintro e w' ⟨rfl, ⟨nd, rfl⟩⟩; refine ⟨_, rfl, ?_⟩))
   go_meet
   case rel => exact ⟨_, (true), (by first | rfl | (simp; done) | (simp [*]; done)), H', ⟨by first | omega | exact Nat.le_refl _⟩, ⟨bO HB.out⟩⟩
 case rest =>
  clear HC3
  try clear c1
  try clear p2
  try clear c3
  try clear c5
  obtain ⟨kq, x16_2, rfl, HA, HJ2, HB⟩ := hcut
  cases kq with
  | zero => exact absurd HA.out (by simp [tabardref02_Gather.j0])
  | succ kj2 =>
   have H := HA.out
   clear HA
   simp only [tabardref02_Gather.j0] at H
   by_cases c7 : x16_2 = true
   ·subst c7
    have H1 : (some (0, 2)) = some (r1, r2) := by rw [if_pos rfl] at H; exact H
    clear H
    have H := H1
    clear H1
    simp only [Option.some.injEq, Prod.mk.injEq] at H
    obtain ⟨rfl, rfl⟩ := H
    go_wp2
    go_ret2
    exact ⟨by first | rfl | (simp [errW_none, errW_some] <;> rfl) | (simp [*, errW_none, errW_some] <;> rfl), bO HB.out⟩
   ·replace c7 := Bool.eq_false_iff.mpr c7
    subst c7
    have H1 : ((tabardref02_Digits.f kj2 a0 6).bind fun t211 => (tabardref02_Gather.l0 kj2 l1 t211 ([] : List Int) 0)) = some (r1, r2) := by rw [if_neg (show ¬ (false = true) by decide)] at H; exact H
    clear H
    have H := H1
    clear H1
    replace H := Option.bind_eq_some_iff.mp H
    obtain ⟨t211, A80, H⟩ := H
    replace H : (tabardref02_Gather.l0 kj2 l1 t211 ([] : List Int) 0) = some (r1, r2) := H
    have A8 := Aside0.mk A80
    clear A80
    have H' := Aside0.mk H
    clear H
    go_wp2_with (first | ((with_reducible refine gate_callee (f := 29) rfl ?_); refine goesL_ (some 18) rfl rfl Try.func29 (by kernel_rfl) rfl #[.int .i64 a0, .int .i64 6] rfl mO ?_; (with_reducible refine (tabardref02_Digits.calls kj2 a0 6 t211 _ A8.out).mono ?_); rintro e w9 ⟨v212, rfl, ho0, hb⟩; refine ⟨_, rfl, ?_⟩; have n0_ := Aside0.mk (Kd.R_lower ho0 (below_size (bO HB.out))); have n1_ := Aside0.mk (below_step (bO HB.out) hb); clear HB; have HO213 := n0_; have HB := n1_; clear n0_ n1_; (try clear hb); (try clear hb2); (try clear hk); (try clear hi); (try clear ho0)))
    go_loopg [7, 8] kj2 (fun kq v7 v8 w' => ∃ (x7_2 : List Int) (x8_2 : Int), v8 = .int .i64 x8_2 ∧ Aside0 (tabardref02_Gather.l0 kq l1 t211 x7_2 x8_2 = some (r1, r2)) ∧ Aside0 (kq ≤ kj2) ∧ Aside0 (Kd.R (Kd.int .i64) 3 w' w.heap.size (fun k_ => some k_ ≠ (v7 : Value).ownBlock) v212 t211) ∧ Aside0 (Kd.R (Kd.int .i64) 3 w' w.heap.size (fun k_ => some k_ ≠ (v212 : Value).ownBlock) v7 x7_2) ∧ Aside0 (Below w.heap.size w w'))
    case atStart => exact ⟨(([] : List Int)), (0), (by first | rfl | (simp; done) | (simp [*]; done)), H', ⟨Nat.le_refl _⟩, ⟨by (with_reducible repeat (first | apply Kd.R_alloc | apply Kd.R_drewN | apply Kd.R_drew)); exact Kd.R_mono HO213.out (fun _ hk => (by simp [Value.ownBlock]))⟩, ⟨by first | exact Kd.R_nil _ _ _ _ _ | exact Kd.N_nil _ _ _ _ _ | exact Kd.V_nil _ _ _ _ _ | exact Kd.Q_nil _ _ _ _ _ | exact Kd.S_nil _ _ _ _ _⟩, ⟨bO HB.out⟩⟩
    case round =>
     clear H'
     try clear c1
     try clear c2
     try clear p2
     try clear c3
     try clear c5
     try clear c7
     try clear p2
     obtain ⟨x7_2, x8_2, rfl, HA, HK2, HO_6, HO_7, HB⟩ := hrel
     cases gk with
     | zero => exact absurd HA.out (by simp [tabardref02_Gather.l0])
     | succ k2 =>
      have H := HA.out
      clear HA
      simp only [tabardref02_Gather.l0] at H
      by_cases c10 : x8_2 < (l1.length : Int)
      ·rw [if_pos c10] at H
       have c10b0 : decide (x8_2 < (l1.length : Int)) = true := decide_eq_true c10
       clear c10
       by_cases c11 : 0 ≤ x8_2
       ·rw [if_pos c11] at H
        have c11b0 : decide (0 ≤ x8_2) = true := decide_eq_true c11
        clear c11
        by_cases c12 : 0 ≤ (rd l1 x8_2)
        ·rw [if_pos c12] at H
         have c12b0 : decide (0 ≤ (rd l1 x8_2)) = true := decide_eq_true c12
         clear c12
         by_cases c13 : (rd l1 x8_2) < (t211.length : Int)
         ·rw [if_pos c13] at H
          have c13b0 : decide ((rd l1 x8_2) < (t211.length : Int)) = true := decide_eq_true c13
          clear c13
          by_cases c14 : x7_2.length < 17592186044416
          ·rw [if_pos c14] at H
           have LMc14 := Aside0.mk c14
           clear c14
           obtain ⟨y216, hy216⟩ : ∃ y_ : List Int, y_ = (x7_2 ++ [rd t211 (rd l1 x8_2)]) := ⟨_, rfl⟩
           replace H : (tabardref02_Gather.l0 k2 l1 t211 y216 (wrap64 (x8_2 + 1))) = some (r1, r2) := by first | (rw [hy216]; with_reducible exact H) | (have H2_ := (Option.bind_some _ _).symm.trans H; rw [hy216]; with_reducible exact H2_) | (have H2_ := (Option.bind_some _ _).symm.trans H; with_reducible exact H2_) | with_reducible exact H | (rw [hy216]; exact H) | exact H
           have Ny216 := Aside0.mk hy216
           clear hy216
           have H' := Aside0.mk H
           clear H
           have p214 : 0 ≤ (x8_2 : Int) := of_decide_eq_true aO
           have q214 : x8_2 < (l1.length : Int) := of_decide_eq_true aO
           obtain ⟨ad214, e214, hx214_0⟩ := Kd.at_int HR1.out x8_2 p214 q214
           cases e214
           replace hx214_0 := (HB.out.cell (World.block_lt_of_cell? w _ hx214_0)).trans hx214_0
           replace p214 := eq_true p214
           replace q214 := eq_true q214
           obtain ⟨Ao15, co15, eo15⟩ := Kd.R_slice HO_6.out
           subst eo15
           have p215 : 0 ≤ ((rd l1 x8_2) : Int) := of_decide_eq_true aO
           have q215 : (rd l1 x8_2) < (t211.length : Int) := of_decide_eq_true aO
           obtain ⟨ad215, e215, hx215_0⟩ := Kd.at_int (Kd.R_reads' HO_6.out).2.2 (rd l1 x8_2) p215 q215
           cases e215
           replace p215 := eq_true p215
           replace q215 := eq_true q215
           go_wp2_with (first | ((with_reducible refine gate_builtin (b := .append) (xs := #[.tmp 25, .tmp 33]) rfl ?_); at_builtin; refine Kd.R_append (Kd.int .i64) (w0 := w) w.heap.size rfl (.tmp 25) (.tmp 33) 32 3 (.int .i64 0) 8 rfl Try.underlying32 info3 rfl (by decide) (by omega) u7 x7_2 (rd t211 (rd l1 x8_2)) [.int .i64 (rd t211 (rd l1 x8_2))] (fun k_ => some k_ ≠ (.slice (some ad215) t211.length co15 : Value).ownBlock) (fun _ => False) rfl rfl ?aP (fun _ hk => hk.elim) ?aF ?aO ?aB ?aS ?aL ?_; (case aP => exact rfl); (case aB => exact (bO HB.out)); (case aF => exact (fun k_ hk => Kd.fresh' (Kd.R_lt (rO HO_6.out)) k_ hk)); (case aO => exact (rO HO_7.out)); (case aS => exact (below_size (bO HB.out))); (case aL => have := LMc14.out; omega); intro v217 w16 ho hb hg hat; rw [← Ny216.out] at ho; have n0_ := Aside0.mk (Kd.R_after (ok := (fun _ => True)) (by (with_reducible repeat (first | apply Kd.R_alloc | apply Kd.R_drewN | apply Kd.R_drew)); exact Kd.R_mono HO_6.out (fun _ hk => ⟨trivial, hk⟩)) hg hat); have n1_ := Aside0.mk (hb); have n2_ := Aside0.mk (ho); clear HO_6; clear HB; clear HO_7; have HO_6 := n0_; have HB := n1_; have HO218 := n2_; clear n0_ n1_ n2_; clear ho hb hg hat))
           go_roundg k2
           case measure => have := HJ2.out; have := HK2.out; omega
           case rel => exact ⟨(y216), (wrap64 (x8_2 + 1)), (by first | rfl | (simp; done) | (simp [*]; done)), H', ⟨by have := HJ2.out; have := HK2.out; omega⟩, ⟨by (with_reducible repeat (first | apply Kd.R_alloc | apply Kd.R_drewN | apply Kd.R_drew)); exact Kd.R_mono HO_6.out (fun _ hk => hk.2)⟩, ⟨rO HO218.out⟩, ⟨bO HB.out⟩⟩
          ·rw [if_neg c14] at H
           exact absurd H (by simp)
         ·rw [if_neg c13] at H
          exact absurd H (by simp)
        ·rw [if_neg c12] at H
         exact absurd H (by simp)
       ·rw [if_neg c11] at H
        exact absurd H (by simp)
      ·rw [if_neg c10] at H
       have c10b0 : decide (x8_2 < (l1.length : Int)) = false := decide_eq_false c10
       clear c10
       replace H := Option.bind_eq_some_iff.mp H
       obtain ⟨t219, A170, H⟩ := H
       replace H : (some (t219, 0)) = some (r1, r2) := H
       have A17 := Aside0.mk A170
       clear A170
       simp only [Option.some.injEq, Prod.mk.injEq] at H
       obtain ⟨rfl, rfl⟩ := H
       obtain ⟨Ao18, co18, eo18⟩ := Kd.R_slice HO_7.out
       subst eo18
       go_wp2_with (first | ((with_reducible refine gate_callee (f := 30) rfl ?_); refine goesL_ (some 36) rfl rfl Try.func30 (by kernel_rfl) rfl #[.slice Ao18 x7_2.length co18] rfl mO ?_; (with_reducible refine (tabardref02_Letter.calls k2 _ _ x7_2 t219 _ ?side1 ?side2 A17.out).mono ?_); (case side1 => exact cO (Kd.R_reads' HO_7.out).2.2); (case side2 => exact (Kd.R_reads' HO_7.out).2.1); rintro e w' ⟨rfl, ⟨nd, rfl⟩⟩; refine ⟨_, rfl, ?_⟩))
       go_ret2
       exact ⟨by first | rfl | (simp [errW_none, errW_some] <;> rfl) | (simp [*, errW_none, errW_some] <;> rfl), bO HB.out⟩

end Go.Proofs.Ytpekanolhgcljaa.X

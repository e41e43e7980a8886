/- What the functions of this seat compute, and that the program's calls come to just that: written by this session's own program out of the translation; no condition. -/
import Derived.Test.YtpekanolhgcljaaX0
import Derived.Test.YtpekanolhgcljaaX1
import Derived.Test.YtpekanolhgcljaaX3
import Derived.Test.YtpekanolhgcljaaX5
import Derived.Test.YtpekanolhgcljaaX8
import Derived.Test.YtpekanolhgcljaaX11
namespace Go.Proofs.Ytpekanolhgcljaa.X
open Go.RowKit Go.Proofs.YtpekanolhgcljaaW.PrintWords Go.Proofs.YtpekanolhgcljaaW.PrintLast Go.Proofs.YtpekanolhgcljaaW.PrintMore
attribute [local go_sem] max2_int min2_int max_two min_two max_three min_three max_four min_four   -- for this text's walks alone
set_option linter.unusedVariables false
set_option linter.unusedSimpArgs false

/-! ### tabardlaw02_BitsBack: function 5 -/
mutual
def tabardlaw02_BitsBack.j3 : Nat → Int → List Int → Option (Bool)
 | 0, _, _ => none
 | k + 1, x0, x3 => (some (([] : List Int) : List Int)).bind fun y246 => (if y246.length + x3.length < 17592186044416 then ((bits_Spread.f k x0 (y246 ++ x3)).bind fun bt252 => (if bt252.2 = 0 then ((some (([] : List Int) : List Int)).bind fun y254 => (if y254.length + x3.length < 17592186044416 then ((bits_Gather.f k bt252.1 (y254 ++ x3)).bind fun bt260 => (if bt260.2 = 0 then (some (bt260.1 == x0)) else (some false))) else (none))) else (if bt252.1 = 0 then (if bt252.2 = 2 then (some true) else (some (bt252.2 == 5))) else (some false)))) else (none))
def tabardlaw02_BitsBack.j0 : Nat → Int → Int → List Int → Int → Bool → Option (Bool)
 | 0, _, _, _, _, _ => none
 | k + 1, x0, x1, x3, x9, x48 => if x48 = true then (some false) else (tabardlaw02_BitsBack.l0 k x0 x1 x3 x9 0)
def tabardlaw02_BitsBack.l0 : Nat → Int → Int → List Int → Int → Int → Option (Bool)
 | 0, _, _, _, _, _ => none
 | k + 1, x0, x1, x3, x9, x49 => if x49 < 6 then (if x49 ≥ x1 then (tabardlaw02_BitsBack.j2 k x0 x1 x3 x9 x49 (wrap64 (x49 + 1)) x49) else (tabardlaw02_BitsBack.j2 k x0 x1 x3 x9 x49 x49 x49)) else (tabardlaw02_BitsBack.j3 k x0 x3)
def tabardlaw02_BitsBack.j2 : Nat → Int → Int → List Int → Int → Int → Int → Int → Option (Bool)
 | 0, _, _, _, _, _, _, _ => none
 | k + 1, x0, x1, x3, x9, x13, x14, x49 => (bits_Digit.f x9 x14).bind fun t244 => ((bits_Digit.f x0 x13).bind fun t245 => (if t244 = t245 then (tabardlaw02_BitsBack.l0 k x0 x1 x3 x9 (wrap64 (x49 + 1))) else (some false)))
end
def tabardlaw02_BitsBack.f (k : Nat) (a0 : Int) (a1 : Int) (a2 : Int) (l3 : List Int) : Option (Bool) := (tabardlaw02_fixed.f).bind fun t238 => (if t238 = true then ((bits_Insert.f a0 a1 a2).bind fun bt239 => (if bt239.2 = 0 then ((bits_Remove.f bt239.1 a1).bind fun bt241 => (if bt241.2 = 0 then (if bt241.1 = a0 then ((bits_Digit.f bt239.1 a1).bind fun t243 => (tabardlaw02_BitsBack.j0 k a0 a1 l3 bt239.1 (t243 != a2))) else (tabardlaw02_BitsBack.j0 k a0 a1 l3 bt239.1 true)) else (tabardlaw02_BitsBack.j0 k a0 a1 l3 bt239.1 true))) else (tabardlaw02_BitsBack.j3 k a0 l3))) else (some false))
theorem tabardlaw02_BitsBack.mono_l : ∀ k, (∀ y0 y1, LeO (tabardlaw02_BitsBack.j3 k y0 y1) (tabardlaw02_BitsBack.j3 (k + 1) y0 y1)) ∧ (∀ y0 y1 y2 y3 y4, LeO (tabardlaw02_BitsBack.j0 k y0 y1 y2 y3 y4) (tabardlaw02_BitsBack.j0 (k + 1) y0 y1 y2 y3 y4)) ∧ (∀ y0 y1 y2 y3 y4, LeO (tabardlaw02_BitsBack.l0 k y0 y1 y2 y3 y4) (tabardlaw02_BitsBack.l0 (k + 1) y0 y1 y2 y3 y4)) ∧ (∀ y0 y1 y2 y3 y4 y5 y6, LeO (tabardlaw02_BitsBack.j2 k y0 y1 y2 y3 y4 y5 y6) (tabardlaw02_BitsBack.j2 (k + 1) y0 y1 y2 y3 y4 y5 y6))
 | 0 => ⟨fun _ _ r h => by simp [tabardlaw02_BitsBack.j3] at h, fun _ _ _ _ _ r h => by simp [tabardlaw02_BitsBack.j0] at h, fun _ _ _ _ _ r h => by simp [tabardlaw02_BitsBack.l0] at h, fun _ _ _ _ _ _ _ r h => by simp [tabardlaw02_BitsBack.j2] at h⟩
 | k + 1 => by
  obtain ⟨ih0, ih1, ih2, ih3⟩ := tabardlaw02_BitsBack.mono_l k
  refine ⟨?_, ?_, ?_, ?_⟩
  ·intro y0 y1
   unfold tabardlaw02_BitsBack.j3
   repeat' first
   | (with_reducible exact ih0 _ _)
   | (with_reducible exact ih1 _ _ _ _ _)
   | (with_reducible exact ih2 _ _ _ _ _)
   | (with_reducible exact ih3 _ _ _ _ _ _ _)
   | (with_reducible exact bits_Gather.mono _ _ _)
   | (with_reducible exact bits_Spread.mono _ _ _)
   | (with_reducible exact LeO.refl _)
   | (with_reducible exact LeO.none _)
   | (with_reducible refine LeO.ite ?_ ?_)
   | (with_reducible refine LeO.bind ?_ (fun _ => ?_))
   | exact ih0 _ _
   | exact ih1 _ _ _ _ _
   | exact ih2 _ _ _ _ _
   | exact ih3 _ _ _ _ _ _ _
   | exact bits_Gather.mono _ _ _
   | exact bits_Spread.mono _ _ _
   | exact LeO.none _
   | refine LeO.ite ?_ ?_
   | refine LeO.bind ?_ (fun _ => ?_)
  ·intro y0 y1 y2 y3 y4
   unfold tabardlaw02_BitsBack.j0
   repeat' first
   | (with_reducible exact ih0 _ _)
   | (with_reducible exact ih1 _ _ _ _ _)
   | (with_reducible exact ih2 _ _ _ _ _)
   | (with_reducible exact ih3 _ _ _ _ _ _ _)
   | (with_reducible exact bits_Gather.mono _ _ _)
   | (with_reducible exact bits_Spread.mono _ _ _)
   | (with_reducible exact LeO.refl _)
   | (with_reducible exact LeO.none _)
   | (with_reducible refine LeO.ite ?_ ?_)
   | (with_reducible refine LeO.bind ?_ (fun _ => ?_))
   | exact ih0 _ _
   | exact ih1 _ _ _ _ _
   | exact ih2 _ _ _ _ _
   | exact ih3 _ _ _ _ _ _ _
   | exact bits_Gather.mono _ _ _
   | exact bits_Spread.mono _ _ _
   | exact LeO.none _
   | refine LeO.ite ?_ ?_
   | refine LeO.bind ?_ (fun _ => ?_)
  ·intro y0 y1 y2 y3 y4
   unfold tabardlaw02_BitsBack.l0
   repeat' first
   | (with_reducible exact ih0 _ _)
   | (with_reducible exact ih1 _ _ _ _ _)
   | (with_reducible exact ih2 _ _ _ _ _)
   | (with_reducible exact ih3 _ _ _ _ _ _ _)
   | (with_reducible exact bits_Gather.mono _ _ _)
   | (with_reducible exact bits_Spread.mono _ _ _)
   | (with_reducible exact LeO.refl _)
   | (with_reducible exact LeO.none _)
   | (with_reducible refine LeO.ite ?_ ?_)
   | (with_reducible refine LeO.bind ?_ (fun _ => ?_))
   | exact ih0 _ _
   | exact ih1 _ _ _ _ _
   | exact ih2 _ _ _ _ _
   | exact ih3 _ _ _ _ _ _ _
   | exact bits_Gather.mono _ _ _
   | exact bits_Spread.mono _ _ _
   | exact LeO.none _
   | refine LeO.ite ?_ ?_
   | refine LeO.bind ?_ (fun _ => ?_)
  ·intro y0 y1 y2 y3 y4 y5 y6
   unfold tabardlaw02_BitsBack.j2
   repeat' first
   | (with_reducible exact ih0 _ _)
   | (with_reducible exact ih1 _ _ _ _ _)
   | (with_reducible exact ih2 _ _ _ _ _)
   | (with_reducible exact ih3 _ _ _ _ _ _ _)
   | (with_reducible exact bits_Gather.mono _ _ _)
   | (with_reducible exact bits_Spread.mono _ _ _)
   | (with_reducible exact LeO.refl _)
   | (with_reducible exact LeO.none _)
   | (with_reducible refine LeO.ite ?_ ?_)
   | (with_reducible refine LeO.bind ?_ (fun _ => ?_))
   | exact ih0 _ _
   | exact ih1 _ _ _ _ _
   | exact ih2 _ _ _ _ _
   | exact ih3 _ _ _ _ _ _ _
   | exact bits_Gather.mono _ _ _
   | exact bits_Spread.mono _ _ _
   | exact LeO.none _
   | refine LeO.ite ?_ ?_
   | refine LeO.bind ?_ (fun _ => ?_)
theorem tabardlaw02_BitsBack.mono : ∀ a0 a1 a2 a3 k, LeO (tabardlaw02_BitsBack.f k a0 a1 a2 a3) (tabardlaw02_BitsBack.f (k + 1) a0 a1 a2 a3) := by
 intro a0 a1 a2 a3 k
 obtain ⟨ih0, ih1, ih2, ih3⟩ := tabardlaw02_BitsBack.mono_l k
 unfold tabardlaw02_BitsBack.f
 repeat' first
   | (with_reducible exact ih0 _ _)
   | (with_reducible exact ih1 _ _ _ _ _)
   | (with_reducible exact ih2 _ _ _ _ _)
   | (with_reducible exact ih3 _ _ _ _ _ _ _)
   | (with_reducible exact bits_Gather.mono _ _ _)
   | (with_reducible exact bits_Spread.mono _ _ _)
   | (with_reducible exact LeO.refl _)
   | (with_reducible exact LeO.none _)
   | (with_reducible refine LeO.ite ?_ ?_)
   | (with_reducible refine LeO.bind ?_ (fun _ => ?_))
   | exact ih0 _ _
   | exact ih1 _ _ _ _ _
   | exact ih2 _ _ _ _ _
   | exact ih3 _ _ _ _ _ _ _
   | exact bits_Gather.mono _ _ _
   | exact bits_Spread.mono _ _ _
   | exact LeO.none _
   | refine LeO.ite ?_ ?_
   | refine LeO.bind ?_ (fun _ => ?_)
set_option maxHeartbeats 8000000 in
set_option maxRecDepth 100000 in
theorem tabardlaw02_BitsBack.calls (k : Nat) (a0 : Int) (a1 : Int) (a2 : Int) (A3 : Option Addr) (c3 : Nat) (l3 : List Int) (r : Bool) (w : World) (hr3 : Kd.C (Kd.int .i64) w A3 l3.length l3) (hc3 : l3.length ≤ c3) (h : tabardlaw02_BitsBack.f k a0 a1 a2 l3 = some r) :
  Calls Try.prog 5 #[.int .i64 a0, .int .i64 a1, .int .i64 a2, .slice A3 l3.length c3] w fun e w' => e = .returned (.bool r) ∧ Below w.heap.size w w' := by
 have HR3 := Aside0.mk hr3
 have HC3 := Aside0.mk hc3
 clear hr3 hc3
 have HB := Aside0.mk (Below.refl w.heap.size w)
 have H : ((tabardlaw02_fixed.f).bind fun t238 => (if t238 = true then ((bits_Insert.f a0 a1 a2).bind fun bt239 => (if bt239.2 = 0 then ((bits_Remove.f bt239.1 a1).bind fun bt241 => (if bt241.2 = 0 then (if bt241.1 = a0 then ((bits_Digit.f bt239.1 a1).bind fun t243 => (tabardlaw02_BitsBack.j0 k a0 a1 l3 bt239.1 (t243 != a2))) else (tabardlaw02_BitsBack.j0 k a0 a1 l3 bt239.1 true)) else (tabardlaw02_BitsBack.j0 k a0 a1 l3 bt239.1 true))) else (tabardlaw02_BitsBack.j3 k a0 l3))) else (some false))) = some r := h
 clear h
 replace H := Option.bind_eq_some_iff.mp H
 obtain ⟨t238, A50, H⟩ := H
 replace H : (if t238 = true then ((bits_Insert.f a0 a1 a2).bind fun bt239 => (if bt239.2 = 0 then ((bits_Remove.f bt239.1 a1).bind fun bt241 => (if bt241.2 = 0 then (if bt241.1 = a0 then ((bits_Digit.f bt239.1 a1).bind fun t243 => (tabardlaw02_BitsBack.j0 k a0 a1 l3 bt239.1 (t243 != a2))) else (tabardlaw02_BitsBack.j0 k a0 a1 l3 bt239.1 true)) else (tabardlaw02_BitsBack.j0 k a0 a1 l3 bt239.1 true))) else (tabardlaw02_BitsBack.j3 k a0 l3))) else (some false)) = some r := H
 have A5 := Aside0.mk A50
 clear A50
 by_cases c6 : t238 = true
 ·subst c6
  have H1 : ((bits_Insert.f a0 a1 a2).bind fun bt239 => (if bt239.2 = 0 then ((bits_Remove.f bt239.1 a1).bind fun bt241 => (if bt241.2 = 0 then (if bt241.1 = a0 then ((bits_Digit.f bt239.1 a1).bind fun t243 => (tabardlaw02_BitsBack.j0 k a0 a1 l3 bt239.1 (t243 != a2))) else (tabardlaw02_BitsBack.j0 k a0 a1 l3 bt239.1 true)) else (tabardlaw02_BitsBack.j0 k a0 a1 l3 bt239.1 true))) else (tabardlaw02_BitsBack.j3 k a0 l3))) = some r := by rw [if_pos rfl] at H; exact H
  clear H
  have H := H1
  clear H1
  replace H := Option.bind_eq_some_iff.mp H
  obtain ⟨⟨t239, t240⟩, A70, H⟩ := H
  replace H : (if t240 = 0 then ((bits_Remove.f t239 a1).bind fun bt241 => (if bt241.2 = 0 then (if bt241.1 = a0 then ((bits_Digit.f t239 a1).bind fun t243 => (tabardlaw02_BitsBack.j0 k a0 a1 l3 t239 (t243 != a2))) else (tabardlaw02_BitsBack.j0 k a0 a1 l3 t239 true)) else (tabardlaw02_BitsBack.j0 k a0 a1 l3 t239 true))) else (tabardlaw02_BitsBack.j3 k a0 l3)) = some r := H
  have A7 := Aside0.mk A70
  clear A70
  have HC8 := Aside0.mk H
  clear H
  go_enter Try.func5, Try.ntmps5
  go_upto_if 28 with (first | ((with_reducible refine gate_callee (f := 11) rfl ?_); refine goesL_ (some 18) rfl rfl Try.func11 (by kernel_rfl) rfl #[] rfl mO ?_; (with_reducible refine (tabardlaw02_fixed.calls  true _ A5.out).mono ?_); rintro e w9 ⟨rfl, hb⟩; refine ⟨_, rfl, ?_⟩; have n0_ := Aside0.mk (below_step (bO HB.out) hb); clear HB; have HB := n0_; clear n0_; (try clear hb); (try clear hb2); (try clear hk); (try clear hi)) | ((with_reducible refine gate_callee (f := 7) rfl ?_); refine goesL_ (some 24) rfl rfl Try.func7 (by kernel_rfl) rfl #[.int .i64 a0, .int .i64 a1, .int .i64 a2] rfl mO ?_; (with_reducible refine (bits_Insert.calls a0 a1 a2 t239 t240 _ A7.out).mono ?_); rintro e w' ⟨rfl, ⟨nd, rfl⟩⟩; refine ⟨_, rfl, ?_⟩))
  (try simp only [Act.put, List.setIfInBounds_toArray, List.set_cons_zero, List.set_cons_succ])
  go_cut [] (fun wc => ∃ (kq : Nat), Aside0 (tabardlaw02_BitsBack.j3 kq a0 l3 = some r) ∧ Aside0 (kq ≤ k) ∧ Aside0 (Below w.heap.size w wc))
  case first =>
   have H := HC8.out
   clear HC8
   by_cases c10 : t240 = 0
   ·rw [if_pos c10] at H
    have c10b0 : (t240 == 0) = true := beq_iff_eq.mpr c10
    have c10b1 : (t240 != 0) = false := bne_eq_false_iff_eq.mpr c10
    clear c10
    (first | rw [c10b0] | (simp only [i64_w, i32_w]; rw [c10b0]) | skip)
    replace H := Option.bind_eq_some_iff.mp H
    obtain ⟨⟨t241, t242⟩, A110, H⟩ := H
    replace H : (if t242 = 0 then (if t241 = a0 then ((bits_Digit.f t239 a1).bind fun t243 => (tabardlaw02_BitsBack.j0 k a0 a1 l3 t239 (t243 != a2))) else (tabardlaw02_BitsBack.j0 k a0 a1 l3 t239 true)) else (tabardlaw02_BitsBack.j0 k a0 a1 l3 t239 true)) = some r := H
    have A11 := Aside0.mk A110
    clear A110
    have HC12 := Aside0.mk H
    clear H
    go_upto_region 6 with (first | ((with_reducible refine gate_callee (f := 9) rfl ?_); refine goesL_ (some 32) rfl rfl Try.func9 (by kernel_rfl) rfl #[.int .i64 t239, .int .i64 a1] rfl mO ?_; (with_reducible refine (bits_Remove.calls t239 a1 t241 t242 _ A11.out).mono ?_); rintro e w' ⟨rfl, ⟨nd, rfl⟩⟩; refine ⟨_, rfl, ?_⟩))
    (try simp only [Act.put, List.setIfInBounds_toArray, List.set_cons_zero, List.set_cons_succ])
    go_cut [48] (fun v48 wc => ∃ (kq : Nat) (x48_11 : Bool), v48 = .bool x48_11 ∧ Aside0 (tabardlaw02_BitsBack.j0 kq a0 a1 l3 t239 x48_11 = some r) ∧ Aside0 (kq ≤ k) ∧ Aside0 (Below w.heap.size w wc))
    case first =>
     have H := HC12.out
     clear HC12
     by_cases c13 : t242 = 0
     ·rw [if_pos c13] at H
      have c13b0 : (t242 == 0) = true := beq_iff_eq.mpr c13
      have c13b1 : (t242 != 0) = false := bne_eq_false_iff_eq.mpr c13
      clear c13
      (first | rw [c13b0] | (simp only [i64_w, i32_w]; rw [c13b0]) | skip)
      by_cases c14 : t241 = a0
      ·rw [if_pos c14] at H
       have c14b0 : (t241 == a0) = true := beq_iff_eq.mpr c14
       have c14b1 : (t241 != a0) = false := bne_eq_false_iff_eq.mpr c14
       clear c14
       replace H := Option.bind_eq_some_iff.mp H
       obtain ⟨t243, A150, H⟩ := H
       replace H : (tabardlaw02_BitsBack.j0 k a0 a1 l3 t239 (t243 != a2)) = some r := H
       have A15 := Aside0.mk A150
       clear A150
       have H' := Aside0.mk H
       clear H
       go_wp2_with (first | (go_at_call 12; (with_reducible refine (bits_Digit.calls t239 a1 t243 _ A15.out).mono ?_); rintro e w' ⟨rfl, ⟨nd, rfl⟩⟩))
       go_meet
       case rel => exact ⟨_, ((t243 != a2)), (by first | rfl | (simp; done) | (simp [*]; done)), H', ⟨by first | omega | exact Nat.le_refl _⟩, ⟨bO HB.out⟩⟩
      ·rw [if_neg c14] at H
       have c14b0 : (t241 == a0) = false := beq_eq_false_iff_ne.mpr c14
       have c14b1 : (t241 != a0) = true := bne_iff_ne.mpr c14
       have H' := Aside0.mk H
       clear H
       go_wp2
       go_meet
       case rel => exact ⟨_, (true), (by first | rfl | (simp; done) | (simp [*]; done)), H', ⟨by first | omega | exact Nat.le_refl _⟩, ⟨bO HB.out⟩⟩
     ·rw [if_neg c13] at H
      have c13b0 : (t242 == 0) = false := beq_eq_false_iff_ne.mpr c13
      have c13b1 : (t242 != 0) = true := bne_iff_ne.mpr c13
      (first | rw [c13b0] | (simp only [i64_w, i32_w]; rw [c13b0]) | skip)
      have H' := Aside0.mk H
      clear H
      go_wp2
      go_meet
      case rel => exact ⟨_, (true), (by first | rfl | (simp; done) | (simp [*]; done)), H', ⟨by first | omega | exact Nat.le_refl _⟩, ⟨bO HB.out⟩⟩
    case rest =>
     clear HC12
     try clear c1
     try clear p2
     try clear c3
     try clear c5
     try clear c6
     try clear c7
     try clear c9
     try clear c10
     try clear c10b0
     try clear c10b1
     try clear c11
     try clear c13
     try clear c13b0
     try clear c13b1
     try clear c14
     try clear c14b0
     try clear c14b1
     obtain ⟨kq, x48_11, rfl, HA, HJ11, HB⟩ := hcut
     cases kq with
     | zero => exact absurd HA.out (by simp [tabardlaw02_BitsBack.j0])
     | succ kj11 =>
      have H := HA.out
      clear HA
      simp only [tabardlaw02_BitsBack.j0] at H
      by_cases c16 : x48_11 = true
      ·subst c16
       have H1 : (some false) = some r := by rw [if_pos rfl] at H; exact H
       clear H
       have H := H1
       clear H1
       obtain rfl := Option.some.inj H
       go_wp2
       go_ret
       exact ⟨by first | rfl | (simp [errW_none, errW_some] <;> rfl) | (simp [*, errW_none, errW_some] <;> rfl), bO HB.out⟩
      ·replace c16 := Bool.eq_false_iff.mpr c16
       subst c16
       have H1 : (tabardlaw02_BitsBack.l0 kj11 a0 a1 l3 t239 0) = some r := by rw [if_neg (show ¬ (false = true) by decide)] at H; exact H
       clear H
       have H := H1
       clear H1
       have H' := Aside0.mk H
       clear H
       go_wp2
       go_loopg [49] kj11 (fun kq v49 w' => ∃ (x49_2 : Int), v49 = .int .i64 x49_2 ∧ Aside0 (tabardlaw02_BitsBack.l0 kq a0 a1 l3 t239 x49_2 = some r) ∧ Aside0 (kq ≤ kj11) ∧ Aside0 (Below w.heap.size w w'))
       case atStart => exact ⟨(0), (by first | rfl | (simp; done) | (simp [*]; done)), H', ⟨Nat.le_refl _⟩, ⟨bO HB.out⟩⟩
       case round =>
        clear H'
        try clear c1
        try clear p2
        try clear c3
        try clear c5
        try clear c6
        try clear c7
        try clear c9
        try clear c10
        try clear c10b0
        try clear c10b1
        try clear c11
        try clear c13
        try clear c13b0
        try clear c13b1
        try clear c14
        try clear c14b0
        try clear c14b1
        try clear c16
        try clear p2
        obtain ⟨x49_2, rfl, HA, HK2, HB⟩ := hrel
        cases gk with
        | zero => exact absurd HA.out (by simp [tabardlaw02_BitsBack.l0])
        | succ k2 =>
         have H := HA.out
         clear HA
         simp only [tabardlaw02_BitsBack.l0] at H
         by_cases c17 : x49_2 < 6
         ·rw [if_pos c17] at H
          have c17b0 : decide (x49_2 < 6) = true := decide_eq_true c17
          clear c17
          have HC18 := Aside0.mk H
          clear H
          go_upto_if 55 with (fail)
          go_cut [14] (fun v14 wc => ∃ (kq : Nat) (x14_17 : Int), v14 = .int .i64 x14_17 ∧ Aside0 (tabardlaw02_BitsBack.j2 kq a0 a1 l3 t239 x49_2 x14_17 x49_2 = some r) ∧ Aside0 (kq ≤ k2) ∧ Aside0 (Below w.heap.size w wc))
          case first =>
           have H := HC18.out
           clear HC18
           by_cases c19 : x49_2 ≥ a1
           ·rw [if_pos c19] at H
            have c19b0 : decide (a1 ≤ x49_2) = true := decide_eq_true c19
            clear c19
            (first | rw [c19b0] | (simp only [i64_w, i32_w]; rw [c19b0]) | skip)
            have H' := Aside0.mk H
            clear H
            go_wp2
            go_meet
            case rel => exact ⟨_, (wrap64 (x49_2 + 1)), (by first | rfl | (simp; done) | (simp [*]; done)), H', ⟨by have := HJ11.out; have := HK2.out; first | omega | exact Nat.le_refl _⟩, ⟨bO HB.out⟩⟩
           ·rw [if_neg c19] at H
            have c19b0 : decide (a1 ≤ x49_2) = false := decide_eq_false c19
            clear c19
            (first | rw [c19b0] | (simp only [i64_w, i32_w]; rw [c19b0]) | skip)
            have H' := Aside0.mk H
            clear H
            go_wp2
            go_meet
            case rel => exact ⟨_, (x49_2), (by first | rfl | (simp; done) | (simp [*]; done)), H', ⟨by have := HJ11.out; have := HK2.out; first | omega | exact Nat.le_refl _⟩, ⟨bO HB.out⟩⟩
          case rest =>
           clear HC18
           try clear c1
           try clear p2
           try clear c3
           try clear c5
           try clear c6
           try clear p6
           try clear c7
           try clear c9
           try clear c10
           try clear c10b0
           try clear c10b1
           try clear c11
           try clear c13
           try clear c13b0
           try clear c13b1
           try clear c14
           try clear c14b0
           try clear c14b1
           try clear c16
           try clear c17
           try clear c17b0
           try clear c19
           try clear c19b0
           try clear p2
           obtain ⟨kq, x14_17, rfl, HA, HJ17, HB⟩ := hcut
           cases kq with
           | zero => exact absurd HA.out (by simp [tabardlaw02_BitsBack.j2])
           | succ kj17 =>
            have H := HA.out
            clear HA
            simp only [tabardlaw02_BitsBack.j2] at H
            replace H := Option.bind_eq_some_iff.mp H
            obtain ⟨t244, A200, H⟩ := H
            replace H : ((bits_Digit.f a0 x49_2).bind fun t245 => (if t244 = t245 then (tabardlaw02_BitsBack.l0 kj17 a0 a1 l3 t239 (wrap64 (x49_2 + 1))) else (some false))) = some r := H
            have A20 := Aside0.mk A200
            clear A200
            replace H := Option.bind_eq_some_iff.mp H
            obtain ⟨t245, A210, H⟩ := H
            replace H : (if t244 = t245 then (tabardlaw02_BitsBack.l0 kj17 a0 a1 l3 t239 (wrap64 (x49_2 + 1))) else (some false)) = some r := H
            have A21 := Aside0.mk A210
            clear A210
            by_cases c22 : t244 = t245
            ·rw [if_pos c22] at H
             have c22b0 : (t244 == t245) = true := beq_iff_eq.mpr c22
             have c22b1 : (t244 != t245) = false := bne_eq_false_iff_eq.mpr c22
             clear c22
             have H' := Aside0.mk H
             clear H
             go_wp2_with (first | ((with_reducible refine gate_callee (f := 12) rfl ?_); refine goesL_ (some 60) rfl rfl Try.func12 (by kernel_rfl) rfl #[.int .i64 t239, .int .i64 x14_17] rfl mO ?_; (with_reducible refine (bits_Digit.calls t239 x14_17 t244 _ A20.out).mono ?_); rintro e w' ⟨rfl, ⟨nd, rfl⟩⟩; refine ⟨_, rfl, ?_⟩) | ((with_reducible refine gate_callee (f := 12) rfl ?_); refine goesL_ (some 63) rfl rfl Try.func12 (by kernel_rfl) rfl #[.int .i64 a0, .int .i64 x49_2] rfl mO ?_; (with_reducible refine (bits_Digit.calls a0 x49_2 t245 _ A21.out).mono ?_); rintro e w' ⟨rfl, ⟨nd, rfl⟩⟩; refine ⟨_, rfl, ?_⟩))
             go_roundg kj17
             case measure => have := HJ11.out; have := HK2.out; have := HJ17.out; omega
             case rel => exact ⟨(wrap64 (x49_2 + 1)), (by first | rfl | (simp; done) | (simp [*]; done)), H', ⟨by have := HJ11.out; have := HK2.out; have := HJ17.out; omega⟩, ⟨bO HB.out⟩⟩
            ·rw [if_neg c22] at H
             have c22b0 : (t244 == t245) = false := beq_eq_false_iff_ne.mpr c22
             have c22b1 : (t244 != t245) = true := bne_iff_ne.mpr c22
             obtain rfl := Option.some.inj H
             go_wp2_with (first | ((with_reducible refine gate_callee (f := 12) rfl ?_); refine goesL_ (some 60) rfl rfl Try.func12 (by kernel_rfl) rfl #[.int .i64 t239, .int .i64 x14_17] rfl mO ?_; (with_reducible refine (bits_Digit.calls t239 x14_17 t244 _ A20.out).mono ?_); rintro e w' ⟨rfl, ⟨nd, rfl⟩⟩; refine ⟨_, rfl, ?_⟩) | ((with_reducible refine gate_callee (f := 12) rfl ?_); refine goesL_ (some 63) rfl rfl Try.func12 (by kernel_rfl) rfl #[.int .i64 a0, .int .i64 x49_2] rfl mO ?_; (with_reducible refine (bits_Digit.calls a0 x49_2 t245 _ A21.out).mono ?_); rintro e w' ⟨rfl, ⟨nd, rfl⟩⟩; refine ⟨_, rfl, ?_⟩))
             go_ret
             exact ⟨by first | rfl | (simp [errW_none, errW_some] <;> rfl) | (simp [*, errW_none, errW_some] <;> rfl), bO HB.out⟩
         ·rw [if_neg c17] at H
          have c17b0 : decide (x49_2 < 6) = false := decide_eq_false c17
          clear c17
          have H' := Aside0.mk H
          clear H
          go_wp2
          go_meet
          case rel => exact ⟨_, H', ⟨by have := HJ11.out; have := HK2.out; first | omega | exact Nat.le_refl _⟩, ⟨bO HB.out⟩⟩
   ·rw [if_neg c10] at H
    have c10b0 : (t240 == 0) = false := beq_eq_false_iff_ne.mpr c10
    have c10b1 : (t240 != 0) = true := bne_iff_ne.mpr c10
    (first | rw [c10b0] | (simp only [i64_w, i32_w]; rw [c10b0]) | skip)
    have H' := Aside0.mk H
    clear H
    go_wp2
    go_meet
    case rel => exact ⟨_, H', ⟨by first | omega | exact Nat.le_refl _⟩, ⟨bO HB.out⟩⟩
  case rest =>
   clear HC8
   try clear c1
   try clear c2
   try clear p2
   try clear c3
   try clear c5
   try clear c6
   try clear p6
   try clear c7
   try clear c9
   try clear c10
   try clear c10b0
   try clear c10b1
   try clear c11
   try clear c12
   try clear c13
   try clear c13b0
   try clear c13b1
   try clear c14
   try clear c14b0
   try clear c14b1
   try clear c16
   try clear c17
   try clear c17b0
   try clear c19
   try clear c19b0
   try clear c22
   try clear c22b0
   try clear c22b1
   try clear p2
   try clear p6
   obtain ⟨kq, HA, HJ7, HB⟩ := hcut
   cases kq with
   | zero => exact absurd HA.out (by simp [tabardlaw02_BitsBack.j3])
   | succ kj7 =>
    have H := HA.out
    clear HA
    simp only [tabardlaw02_BitsBack.j3] at H
    obtain ⟨y246, hy246⟩ : ∃ y_ : List Int, y_ = (([] : List Int)) := ⟨_, rfl⟩
    replace H : (if y246.length + l3.length < 17592186044416 then ((bits_Spread.f kj7 a0 (y246 ++ l3)).bind fun bt252 => (if bt252.2 = 0 then ((some (([] : List Int) : List Int)).bind fun y254 => (if y254.length + l3.length < 17592186044416 then ((bits_Gather.f kj7 bt252.1 (y254 ++ l3)).bind fun bt260 => (if bt260.2 = 0 then (some (bt260.1 == a0)) else (some false))) else (none))) else (if bt252.1 = 0 then (if bt252.2 = 2 then (some true) else (some (bt252.2 == 5))) else (some false)))) else (none)) = some r := by first | (rw [hy246]; with_reducible exact H) | (have H2_ := (Option.bind_some _ _).symm.trans H; rw [hy246]; with_reducible exact H2_) | (have H2_ := (Option.bind_some _ _).symm.trans H; with_reducible exact H2_) | with_reducible exact H | (rw [hy246]; exact H) | exact H
    have Ny246 := Aside0.mk hy246
    clear hy246
    by_cases c23 : y246.length + l3.length < 17592186044416
    ·rw [if_pos c23] at H
     have LMc23 := Aside0.mk c23
     clear c23
     obtain ⟨y249, hy249⟩ : ∃ y_ : List Int, y_ = (y246 ++ l3) := ⟨_, rfl⟩
     replace H : ((bits_Spread.f kj7 a0 y249).bind fun bt252 => (if bt252.2 = 0 then ((some (([] : List Int) : List Int)).bind fun y254 => (if y254.length + l3.length < 17592186044416 then ((bits_Gather.f kj7 bt252.1 (y254 ++ l3)).bind fun bt260 => (if bt260.2 = 0 then (some (bt260.1 == a0)) else (some false))) else (none))) else (if bt252.1 = 0 then (if bt252.2 = 2 then (some true) else (some (bt252.2 == 5))) else (some false)))) = some r := by first | (rw [hy249]; with_reducible exact H) | (have H2_ := (Option.bind_some _ _).symm.trans H; rw [hy249]; with_reducible exact H2_) | (have H2_ := (Option.bind_some _ _).symm.trans H; with_reducible exact H2_) | with_reducible exact H | (rw [hy249]; exact H) | exact H
     have Ny249 := Aside0.mk hy249
     clear hy249
     replace H := Option.bind_eq_some_iff.mp H
     obtain ⟨⟨t252, t253⟩, A240, H⟩ := H
     replace H : (if t253 = 0 then ((some (([] : List Int) : List Int)).bind fun y254 => (if y254.length + l3.length < 17592186044416 then ((bits_Gather.f kj7 t252 (y254 ++ l3)).bind fun bt260 => (if bt260.2 = 0 then (some (bt260.1 == a0)) else (some false))) else (none))) else (if t252 = 0 then (if t253 = 2 then (some true) else (some (t253 == 5))) else (some false))) = some r := H
     have A24 := Aside0.mk A240
     clear A240
     by_cases c25 : t253 = 0
     ·rw [if_pos c25] at H
      have c25b0 : (t253 == 0) = true := beq_iff_eq.mpr c25
      have c25b1 : (t253 != 0) = false := bne_eq_false_iff_eq.mpr c25
      clear c25
      obtain ⟨y254, hy254⟩ : ∃ y_ : List Int, y_ = (([] : List Int)) := ⟨_, rfl⟩
      replace H : (if y254.length + l3.length < 17592186044416 then ((bits_Gather.f kj7 t252 (y254 ++ l3)).bind fun bt260 => (if bt260.2 = 0 then (some (bt260.1 == a0)) else (some false))) else (none)) = some r := by first | (rw [hy254]; with_reducible exact H) | (have H2_ := (Option.bind_some _ _).symm.trans H; rw [hy254]; with_reducible exact H2_) | (have H2_ := (Option.bind_some _ _).symm.trans H; with_reducible exact H2_) | with_reducible exact H | (rw [hy254]; exact H) | exact H
      have Ny254 := Aside0.mk hy254
      clear hy254
      by_cases c26 : y254.length + l3.length < 17592186044416
      ·rw [if_pos c26] at H
       have LMc26 := Aside0.mk c26
       clear c26
       obtain ⟨y257, hy257⟩ : ∃ y_ : List Int, y_ = (y254 ++ l3) := ⟨_, rfl⟩
       replace H : ((bits_Gather.f kj7 t252 y257).bind fun bt260 => (if bt260.2 = 0 then (some (bt260.1 == a0)) else (some false))) = some r := by first | (rw [hy257]; with_reducible exact H) | (have H2_ := (Option.bind_some _ _).symm.trans H; rw [hy257]; with_reducible exact H2_) | (have H2_ := (Option.bind_some _ _).symm.trans H; with_reducible exact H2_) | with_reducible exact H | (rw [hy257]; exact H) | exact H
       have Ny257 := Aside0.mk hy257
       clear hy257
       replace H := Option.bind_eq_some_iff.mp H
       obtain ⟨⟨t260, t261⟩, A270, H⟩ := H
       replace H : (if t261 = 0 then (some (t260 == a0)) else (some false)) = some r := H
       have A27 := Aside0.mk A270
       clear A270
       by_cases c28 : t261 = 0
       ·rw [if_pos c28] at H
        have c28b0 : (t261 == 0) = true := beq_iff_eq.mpr c28
        have c28b1 : (t261 != 0) = false := bne_eq_false_iff_eq.mpr c28
        clear c28
        obtain rfl := Option.some.inj H
        go_wp2_with (first | ((with_reducible refine gate_dst (N := 68) rfl ?_); refine Kd.R_lit (Kd.int .i64) _ 3 ?hg (N := 68) ?hd (xs := ([] : List Int)) (inner := []) (ok := fun _ => True) (okp := fun _ => True) ?hr ?hp (fun _ hk => hk) trivial (Below.refl _ _) (Nat.le_refl _) (by simp) ?_; (case hd => rfl); (case hg => rfl); (case hr => first | (go_simp; done) | (go_simp; rfl)); (case hp => exact (Reps.none _ _)); intro v247 w29 ho30 hb hg_ hnew_; clear hg_ hnew_; (first | rw [← Ny246.out] at ho30 | (simp only [Int.reduceToNat] at ho30; rw [← Ny246.out] at ho30)); have n0_ := Aside0.mk (Kd.R_lower ho30 (below_size (bO HB.out))); have n1_ := Aside0.mk (below_step (bO HB.out) hb); clear HB; have HO248 := n0_; have HB := n1_; clear n0_ n1_; clear hb ho30) | ((with_reducible refine gate_builtin (b := .append) (xs := #[.tmp 68, .tmp 69]) rfl ?_); at_builtin; refine Kd.R_append_rows (Kd.int .i64) (w0 := w) w.heap.size rfl (.tmp 68) (.tmp 69) 32 3 (.int .i64 0) 8 rfl Try.underlying32 info3 rfl (by decide) (by omega) v247 y246 l3 _ _ _ (fun _ => True) (fun _ => False) rfl rfl ?aO ?aR (fun _ _ h => h) (fun _ h => h.elim) ?aF ?aB ?aS ?aL ?_; (case aR => exact cO (Kd.C_below HR3.out HB.out)); (case aB => exact (bO HB.out)); (case aF => exact (fun _ _ => trivial)); (case aO => exact (rO HO248.out)); (case aS => exact (below_size (bO HB.out))); (case aL => have := LMc23.out; omega); intro v250 w31 ho hb hg hat; rw [← Ny249.out] at ho; have n0_ := Aside0.mk (hb); have n1_ := Aside0.mk (ho); clear HB; clear HO248; have HB := n0_; have HO251 := n1_; clear n0_ n1_; clear ho hb hg hat; obtain ⟨Ao32, co32, eo32⟩ := Kd.R_slice HO251.out; subst eo32) | ((with_reducible refine gate_callee (f := 14) rfl ?_); refine goesL_ (some 71) rfl rfl Try.func14 (by kernel_rfl) rfl #[.int .i64 a0, .slice Ao32 y249.length co32] rfl mO ?_; (with_reducible refine (bits_Spread.calls kj7 a0 _ _ y249 t252 t253 _ ?side1 ?side2 A24.out).mono ?_); (case side1 => exact cO (Kd.R_reads' HO251.out).2.2); (case side2 => exact (Kd.R_reads' HO251.out).2.1); rintro e w' ⟨rfl, ⟨nd, rfl⟩⟩; refine ⟨_, rfl, ?_⟩) | ((with_reducible refine gate_dst (N := 88) rfl ?_); refine Kd.R_lit (Kd.int .i64) _ 3 ?hg (N := 88) ?hd (xs := ([] : List Int)) (inner := []) (ok := fun _ => True) (okp := fun _ => True) ?hr ?hp (fun _ hk => hk) trivial (Below.refl _ _) (Nat.le_refl _) (by simp) ?_; (case hd => rfl); (case hg => rfl); (case hr => first | (go_simp; done) | (go_simp; rfl)); (case hp => exact (Reps.none _ _)); intro v255 w33 ho34 hb hg_ hnew_; clear hg_ hnew_; (first | rw [← Ny254.out] at ho34 | (simp only [Int.reduceToNat] at ho34; rw [← Ny254.out] at ho34)); have n0_ := Aside0.mk (Kd.R_elder' (rO HO251.out) (Kd.R_base ho34) hb); have n1_ := Aside0.mk (Kd.R_lower (Kd.R_new' ho34 (Kd.R_lt (rO HO251.out))) (below_size (bO HB.out))); have n2_ := Aside0.mk (below_step (bO HB.out) hb); clear HO251; clear HB; have HO251 := n0_; have HO256 := n1_; have HB := n2_; clear n0_ n1_ n2_; clear hb ho34) | ((with_reducible refine gate_builtin (b := .append) (xs := #[.tmp 88, .tmp 89]) rfl ?_); at_builtin; refine Kd.R_append_rows (Kd.int .i64) (w0 := w) w.heap.size rfl (.tmp 88) (.tmp 89) 32 3 (.int .i64 0) 8 rfl Try.underlying32 info3 rfl (by decide) (by omega) v255 y254 l3 _ _ _ (fun k_ => some k_ ≠ (.slice Ao32 y249.length co32 : Value).ownBlock) (fun _ => False) rfl rfl ?aO ?aR (fun _ _ h => h) (fun _ h => h.elim) ?aF ?aB ?aS ?aL ?_; (case aR => exact cO (Kd.C_below HR3.out HB.out)); (case aB => exact (bO HB.out)); (case aF => exact (fun k_ hk => Kd.fresh' (Kd.R_lt (rO HO251.out)) k_ hk)); (case aO => exact (by (with_reducible repeat (first | apply Kd.R_alloc | apply Kd.R_drewN | apply Kd.R_drew)); exact Kd.R_mono HO256.out (fun _ hk => hk.2))); (case aS => exact (below_size (bO HB.out))); (case aL => have := LMc26.out; omega); intro v258 w35 ho hb hg hat; rw [← Ny257.out] at ho; have n0_ := Aside0.mk (Kd.R_after (ok := (fun _ => True)) (rO HO251.out) hg hat); have n1_ := Aside0.mk (hb); have n2_ := Aside0.mk (ho); clear HO251; clear HB; clear HO256; have HO251 := n0_; have HB := n1_; have HO259 := n2_; clear n0_ n1_ n2_; clear ho hb hg hat; obtain ⟨Ao36, co36, eo36⟩ := Kd.R_slice HO259.out; subst eo36) | ((with_reducible refine gate_callee (f := 16) rfl ?_); refine goesL_ (some 91) rfl rfl Try.func16 (by kernel_rfl) rfl #[.int .i64 t252, .slice Ao36 y257.length co36] rfl mO ?_; (with_reducible refine (bits_Gather.calls kj7 t252 _ _ y257 t260 t261 _ ?side1 ?side2 A27.out).mono ?_); (case side1 => exact cO (Kd.R_reads' HO259.out).2.2); (case side2 => exact (Kd.R_reads' HO259.out).2.1); rintro e w' ⟨rfl, ⟨nd, rfl⟩⟩; refine ⟨_, rfl, ?_⟩))
        go_ret
        exact ⟨by first | rfl | (simp [errW_none, errW_some] <;> rfl) | (simp [*, errW_none, errW_some] <;> rfl), bO HB.out⟩
       ·rw [if_neg c28] at H
        have c28b0 : (t261 == 0) = false := beq_eq_false_iff_ne.mpr c28
        have c28b1 : (t261 != 0) = true := bne_iff_ne.mpr c28
        obtain rfl := Option.some.inj H
        go_wp2_with (first | ((with_reducible refine gate_dst (N := 68) rfl ?_); refine Kd.R_lit (Kd.int .i64) _ 3 ?hg (N := 68) ?hd (xs := ([] : List Int)) (inner := []) (ok := fun _ => True) (okp := fun _ => True) ?hr ?hp (fun _ hk => hk) trivial (Below.refl _ _) (Nat.le_refl _) (by simp) ?_; (case hd => rfl); (case hg => rfl); (case hr => first | (go_simp; done) | (go_simp; rfl)); (case hp => exact (Reps.none _ _)); intro v247 w37 ho38 hb hg_ hnew_; clear hg_ hnew_; (first | rw [← Ny246.out] at ho38 | (simp only [Int.reduceToNat] at ho38; rw [← Ny246.out] at ho38)); have n0_ := Aside0.mk (Kd.R_lower ho38 (below_size (bO HB.out))); have n1_ := Aside0.mk (below_step (bO HB.out) hb); clear HB; have HO248 := n0_; have HB := n1_; clear n0_ n1_; clear hb ho38) | ((with_reducible refine gate_builtin (b := .append) (xs := #[.tmp 68, .tmp 69]) rfl ?_); at_builtin; refine Kd.R_append_rows (Kd.int .i64) (w0 := w) w.heap.size rfl (.tmp 68) (.tmp 69) 32 3 (.int .i64 0) 8 rfl Try.underlying32 info3 rfl (by decide) (by omega) v247 y246 l3 _ _ _ (fun _ => True) (fun _ => False) rfl rfl ?aO ?aR (fun _ _ h => h) (fun _ h => h.elim) ?aF ?aB ?aS ?aL ?_; (case aR => exact cO (Kd.C_below HR3.out HB.out)); (case aB => exact (bO HB.out)); (case aF => exact (fun _ _ => trivial)); (case aO => exact (rO HO248.out)); (case aS => exact (below_size (bO HB.out))); (case aL => have := LMc23.out; omega); intro v250 w39 ho hb hg hat; rw [← Ny249.out] at ho; have n0_ := Aside0.mk (hb); have n1_ := Aside0.mk (ho); clear HB; clear HO248; have HB := n0_; have HO251 := n1_; clear n0_ n1_; clear ho hb hg hat; obtain ⟨Ao40, co40, eo40⟩ := Kd.R_slice HO251.out; subst eo40) | ((with_reducible refine gate_callee (f := 14) rfl ?_); refine goesL_ (some 71) rfl rfl Try.func14 (by kernel_rfl) rfl #[.int .i64 a0, .slice Ao40 y249.length co40] rfl mO ?_; (with_reducible refine (bits_Spread.calls kj7 a0 _ _ y249 t252 t253 _ ?side1 ?side2 A24.out).mono ?_); (case side1 => exact cO (Kd.R_reads' HO251.out).2.2); (case side2 => exact (Kd.R_reads' HO251.out).2.1); rintro e w' ⟨rfl, ⟨nd, rfl⟩⟩; refine ⟨_, rfl, ?_⟩) | ((with_reducible refine gate_dst (N := 88) rfl ?_); refine Kd.R_lit (Kd.int .i64) _ 3 ?hg (N := 88) ?hd (xs := ([] : List Int)) (inner := []) (ok := fun _ => True) (okp := fun _ => True) ?hr ?hp (fun _ hk => hk) trivial (Below.refl _ _) (Nat.le_refl _) (by simp) ?_; (case hd => rfl); (case hg => rfl); (case hr => first | (go_simp; done) | (go_simp; rfl)); (case hp => exact (Reps.none _ _)); intro v255 w41 ho42 hb hg_ hnew_; clear hg_ hnew_; (first | rw [← Ny254.out] at ho42 | (simp only [Int.reduceToNat] at ho42; rw [← Ny254.out] at ho42)); have n0_ := Aside0.mk (Kd.R_elder' (rO HO251.out) (Kd.R_base ho42) hb); have n1_ := Aside0.mk (Kd.R_lower (Kd.R_new' ho42 (Kd.R_lt (rO HO251.out))) (below_size (bO HB.out))); have n2_ := Aside0.mk (below_step (bO HB.out) hb); clear HO251; clear HB; have HO251 := n0_; have HO256 := n1_; have HB := n2_; clear n0_ n1_ n2_; clear hb ho42) | ((with_reducible refine gate_builtin (b := .append) (xs := #[.tmp 88, .tmp 89]) rfl ?_); at_builtin; refine Kd.R_append_rows (Kd.int .i64) (w0 := w) w.heap.size rfl (.tmp 88) (.tmp 89) 32 3 (.int .i64 0) 8 rfl Try.underlying32 info3 rfl (by decide) (by omega) v255 y254 l3 _ _ _ (fun k_ => some k_ ≠ (.slice Ao40 y249.length co40 : Value).ownBlock) (fun _ => False) rfl rfl ?aO ?aR (fun _ _ h => h) (fun _ h => h.elim) ?aF ?aB ?aS ?aL ?_; (case aR => exact cO (Kd.C_below HR3.out HB.out)); (case aB => exact (bO HB.out)); (case aF => exact (fun k_ hk => Kd.fresh' (Kd.R_lt (rO HO251.out)) k_ hk)); (case aO => exact (by (with_reducible repeat (first | apply Kd.R_alloc | apply Kd.R_drewN | apply Kd.R_drew)); exact Kd.R_mono HO256.out (fun _ hk => hk.2))); (case aS => exact (below_size (bO HB.out))); (case aL => have := LMc26.out; omega); intro v258 w43 ho hb hg hat; rw [← Ny257.out] at ho; have n0_ := Aside0.mk (Kd.R_after (ok := (fun _ => True)) (rO HO251.out) hg hat); have n1_ := Aside0.mk (hb); have n2_ := Aside0.mk (ho); clear HO251; clear HB; clear HO256; have HO251 := n0_; have HB := n1_; have HO259 := n2_; clear n0_ n1_ n2_; clear ho hb hg hat; obtain ⟨Ao44, co44, eo44⟩ := Kd.R_slice HO259.out; subst eo44) | ((with_reducible refine gate_callee (f := 16) rfl ?_); refine goesL_ (some 91) rfl rfl Try.func16 (by kernel_rfl) rfl #[.int .i64 t252, .slice Ao44 y257.length co44] rfl mO ?_; (with_reducible refine (bits_Gather.calls kj7 t252 _ _ y257 t260 t261 _ ?side1 ?side2 A27.out).mono ?_); (case side1 => exact cO (Kd.R_reads' HO259.out).2.2); (case side2 => exact (Kd.R_reads' HO259.out).2.1); rintro e w' ⟨rfl, ⟨nd, rfl⟩⟩; refine ⟨_, rfl, ?_⟩))
        go_ret
        exact ⟨by first | rfl | (simp [errW_none, errW_some] <;> rfl) | (simp [*, errW_none, errW_some] <;> rfl), bO HB.out⟩
      ·rw [if_neg c26] at H
       exact absurd H (by simp)
     ·rw [if_neg c25] at H
      have c25b0 : (t253 == 0) = false := beq_eq_false_iff_ne.mpr c25
      have c25b1 : (t253 != 0) = true := bne_iff_ne.mpr c25
      by_cases c45 : t252 = 0
      ·rw [if_pos c45] at H
       have c45b0 : (t252 == 0) = true := beq_iff_eq.mpr c45
       have c45b1 : (t252 != 0) = false := bne_eq_false_iff_eq.mpr c45
       clear c45
       by_cases c46 : t253 = 2
       ·rw [if_pos c46] at H
        have c46b0 : (t253 == 2) = true := beq_iff_eq.mpr c46
        have c46b1 : (t253 != 2) = false := bne_eq_false_iff_eq.mpr c46
        clear c46
        obtain rfl := Option.some.inj H
        go_wp2_with (first | ((with_reducible refine gate_dst (N := 68) rfl ?_); refine Kd.R_lit (Kd.int .i64) _ 3 ?hg (N := 68) ?hd (xs := ([] : List Int)) (inner := []) (ok := fun _ => True) (okp := fun _ => True) ?hr ?hp (fun _ hk => hk) trivial (Below.refl _ _) (Nat.le_refl _) (by simp) ?_; (case hd => rfl); (case hg => rfl); (case hr => first | (go_simp; done) | (go_simp; rfl)); (case hp => exact (Reps.none _ _)); intro v247 w47 ho48 hb hg_ hnew_; clear hg_ hnew_; (first | rw [← Ny246.out] at ho48 | (simp only [Int.reduceToNat] at ho48; rw [← Ny246.out] at ho48)); have n0_ := Aside0.mk (Kd.R_lower ho48 (below_size (bO HB.out))); have n1_ := Aside0.mk (below_step (bO HB.out) hb); clear HB; have HO248 := n0_; have HB := n1_; clear n0_ n1_; clear hb ho48) | ((with_reducible refine gate_builtin (b := .append) (xs := #[.tmp 68, .tmp 69]) rfl ?_); at_builtin; refine Kd.R_append_rows (Kd.int .i64) (w0 := w) w.heap.size rfl (.tmp 68) (.tmp 69) 32 3 (.int .i64 0) 8 rfl Try.underlying32 info3 rfl (by decide) (by omega) v247 y246 l3 _ _ _ (fun _ => True) (fun _ => False) rfl rfl ?aO ?aR (fun _ _ h => h) (fun _ h => h.elim) ?aF ?aB ?aS ?aL ?_; (case aR => exact cO (Kd.C_below HR3.out HB.out)); (case aB => exact (bO HB.out)); (case aF => exact (fun _ _ => trivial)); (case aO => exact (rO HO248.out)); (case aS => exact (below_size (bO HB.out))); (case aL => have := LMc23.out; omega); intro v250 w49 ho hb hg hat; rw [← Ny249.out] at ho; have n0_ := Aside0.mk (hb); have n1_ := Aside0.mk (ho); clear HB; clear HO248; have HB := n0_; have HO251 := n1_; clear n0_ n1_; clear ho hb hg hat; obtain ⟨Ao50, co50, eo50⟩ := Kd.R_slice HO251.out; subst eo50) | ((with_reducible refine gate_callee (f := 14) rfl ?_); refine goesL_ (some 71) rfl rfl Try.func14 (by kernel_rfl) rfl #[.int .i64 a0, .slice Ao50 y249.length co50] rfl mO ?_; (with_reducible refine (bits_Spread.calls kj7 a0 _ _ y249 t252 t253 _ ?side1 ?side2 A24.out).mono ?_); (case side1 => exact cO (Kd.R_reads' HO251.out).2.2); (case side2 => exact (Kd.R_reads' HO251.out).2.1); rintro e w' ⟨rfl, ⟨nd, rfl⟩⟩; refine ⟨_, rfl, ?_⟩))
        go_ret
        exact ⟨by first | rfl | (simp [errW_none, errW_some] <;> rfl) | (simp [*, errW_none, errW_some] <;> rfl), bO HB.out⟩
       ·rw [if_neg c46] at H
        have c46b0 : (t253 == 2) = false := beq_eq_false_iff_ne.mpr c46
        have c46b1 : (t253 != 2) = true := bne_iff_ne.mpr c46
        obtain rfl := Option.some.inj H
        go_wp2_with (first | ((with_reducible refine gate_dst (N := 68) rfl ?_); refine Kd.R_lit (Kd.int .i64) _ 3 ?hg (N := 68) ?hd (xs := ([] : List Int)) (inner := []) (ok := fun _ => True) (okp := fun _ => True) ?hr ?hp (fun _ hk => hk) trivial (Below.refl _ _) (Nat.le_refl _) (by simp) ?_; (case hd => rfl); (case hg => rfl); (case hr => first | (go_simp; done) | (go_simp; rfl)); (case hp => exact (Reps.none _ _)); intro v247 w51 ho52 hb hg_ hnew_; clear hg_ hnew_; (first | rw [← Ny246.out] at ho52 | (simp only [Int.reduceToNat] at ho52; rw [← Ny246.out] at ho52)); have n0_ := Aside0.mk (Kd.R_lower ho52 (below_size (bO HB.out))); have n1_ := Aside0.mk (below_step (bO HB.out) hb); clear HB; have HO248 := n0_; have HB := n1_; clear n0_ n1_; clear hb ho52) | ((with_reducible refine gate_builtin (b := .append) (xs := #[.tmp 68, .tmp 69]) rfl ?_); at_builtin; refine Kd.R_append_rows (Kd.int .i64) (w0 := w) w.heap.size rfl (.tmp 68) (.tmp 69) 32 3 (.int .i64 0) 8 rfl Try.underlying32 info3 rfl (by decide) (by omega) v247 y246 l3 _ _ _ (fun _ => True) (fun _ => False) rfl rfl ?aO ?aR (fun _ _ h => h) (fun _ h => h.elim) ?aF ?aB ?aS ?aL ?_; (case aR => exact cO (Kd.C_below HR3.out HB.out)); (case aB => exact (bO HB.out)); (case aF => exact (fun _ _ => trivial)); (case aO => exact (rO HO248.out)); (case aS => exact (below_size (bO HB.out))); (case aL => have := LMc23.out; omega); intro v250 w53 ho hb hg hat; rw [← Ny249.out] at ho; have n0_ := Aside0.mk (hb); have n1_ := Aside0.mk (ho); clear HB; clear HO248; have HB := n0_; have HO251 := n1_; clear n0_ n1_; clear ho hb hg hat; obtain ⟨Ao54, co54, eo54⟩ := Kd.R_slice HO251.out; subst eo54) | ((with_reducible refine gate_callee (f := 14) rfl ?_); refine goesL_ (some 71) rfl rfl Try.func14 (by kernel_rfl) rfl #[.int .i64 a0, .slice Ao54 y249.length co54] rfl mO ?_; (with_reducible refine (bits_Spread.calls kj7 a0 _ _ y249 t252 t253 _ ?side1 ?side2 A24.out).mono ?_); (case side1 => exact cO (Kd.R_reads' HO251.out).2.2); (case side2 => exact (Kd.R_reads' HO251.out).2.1); rintro e w' ⟨rfl, ⟨nd, rfl⟩⟩; refine ⟨_, rfl, ?_⟩))
        go_ret
        exact ⟨by first | rfl | (simp [errW_none, errW_some] <;> rfl) | (simp [*, errW_none, errW_some] <;> rfl), bO HB.out⟩
      ·rw [if_neg c45] at H
       have c45b0 : (t252 == 0) = false := beq_eq_false_iff_ne.mpr c45
       have c45b1 : (t252 != 0) = true := bne_iff_ne.mpr c45
       obtain rfl := Option.some.inj H
       go_wp2_with (first | ((with_reducible refine gate_dst (N := 68) rfl ?_); refine Kd.R_lit (Kd.int .i64) _ 3 ?hg (N := 68) ?hd (xs := ([] : List Int)) (inner := []) (ok := fun _ => True) (okp := fun _ => True) ?hr ?hp (fun _ hk => hk) trivial (Below.refl _ _) (Nat.le_refl _) (by simp) ?_; (case hd => rfl); (case hg => rfl); (case hr => first | (go_simp; done) | (go_simp; rfl)); (case hp => exact (Reps.none _ _)); intro v247 w55 ho56 hb hg_ hnew_; clear hg_ hnew_; (first | rw [← Ny246.out] at ho56 | (simp only [Int.reduceToNat] at ho56; rw [← Ny246.out] at ho56)); have n0_ := Aside0.mk (Kd.R_lower ho56 (below_size (bO HB.out))); have n1_ := Aside0.mk (below_step (bO HB.out) hb); clear HB; have HO248 := n0_; have HB := n1_; clear n0_ n1_; clear hb ho56) | ((with_reducible refine gate_builtin (b := .append) (xs := #[.tmp 68, .tmp 69]) rfl ?_); at_builtin; refine Kd.R_append_rows (Kd.int .i64) (w0 := w) w.heap.size rfl (.tmp 68) (.tmp 69) 32 3 (.int .i64 0) 8 rfl Try.underlying32 info3 rfl (by decide) (by omega) v247 y246 l3 _ _ _ (fun _ => True) (fun _ => False) rfl rfl ?aO ?aR (fun _ _ h => h) (fun _ h => h.elim) ?aF ?aB ?aS ?aL ?_; (case aR => exact cO (Kd.C_below HR3.out HB.out)); (case aB => exact (bO HB.out)); (case aF => exact (fun _ _ => trivial)); (case aO => exact (rO HO248.out)); (case aS => exact (below_size (bO HB.out))); (case aL => have := LMc23.out; omega); intro v250 w57 ho hb hg hat; rw [← Ny249.out] at ho; have n0_ := Aside0.mk (hb); have n1_ := Aside0.mk (ho); clear HB; clear HO248; have HB := n0_; have HO251 := n1_; clear n0_ n1_; clear ho hb hg hat; obtain ⟨Ao58, co58, eo58⟩ := Kd.R_slice HO251.out; subst eo58) | ((with_reducible refine gate_callee (f := 14) rfl ?_); refine goesL_ (some 71) rfl rfl Try.func14 (by kernel_rfl) rfl #[.int .i64 a0, .slice Ao58 y249.length co58] rfl mO ?_; (with_reducible refine (bits_Spread.calls kj7 a0 _ _ y249 t252 t253 _ ?side1 ?side2 A24.out).mono ?_); (case side1 => exact cO (Kd.R_reads' HO251.out).2.2); (case side2 => exact (Kd.R_reads' HO251.out).2.1); rintro e w' ⟨rfl, ⟨nd, rfl⟩⟩; refine ⟨_, rfl, ?_⟩))
       go_ret
       exact ⟨by first | rfl | (simp [errW_none, errW_some] <;> rfl) | (simp [*, errW_none, errW_some] <;> rfl), bO HB.out⟩
    ·rw [if_neg c23] at H
     exact absurd H (by simp)
 ·replace c6 := Bool.eq_false_iff.mpr c6
  subst c6
  have H1 : (some false) = some r := by rw [if_neg (show ¬ (false = true) by decide)] at H; exact H
  clear H
  have H := H1
  clear H1
  obtain rfl := Option.some.inj H
  go_enter Try.func5, Try.ntmps5
  go_wp2_with (first | ((with_reducible refine gate_callee (f := 11) rfl ?_); refine goesL_ (some 18) rfl rfl Try.func11 (by kernel_rfl) rfl #[] rfl mO ?_; (with_reducible refine (tabardlaw02_fixed.calls  false _ A5.out).mono ?_); rintro e w59 ⟨rfl, hb⟩; refine ⟨_, rfl, ?_⟩; have n0_ := Aside0.mk (below_step (bO HB.out) hb); clear HB; have HB := n0_; clear n0_; (try clear hb); (try clear hb2); (try clear hk); (try clear hi)))
  go_ret
  exact ⟨by first | rfl | (simp [errW_none, errW_some] <;> rfl) | (simp [*, errW_none, errW_some] <;> rfl), bO HB.out⟩

/-- THE ONE PURE STATEMENT of tabardlaw02_BitsBack: yours. -/
def tabardlaw02_BitsBack.Pure : Prop := ∀ (a0 : Int) (a1 : Int) (a2 : Int) (l3 : List Int), (Lit.int .i64 a0).wf = true → (Lit.int .i64 a1).wf = true → (Lit.int .i64 a2).wf = true → l3.length ≤ maxLen → l3.length * 8 ≤ 140737488351232 → (∀ x ∈ l3, (Lit.int .i64 x).wf = true) → ∃ k, tabardlaw02_BitsBack.f k a0 a1 a2 l3 = some true
theorem tabardlaw02_BitsBack.walk (P : tabardlaw02_BitsBack.Pure) (a0 : Int) (a1 : Int) (a2 : Int) (a3 : Option Addr) (len3 cap3 : Nat) (z3 : List Int) (w : World) (w0 : (Lit.int .i64 a0).wf = true) (w1 : (Lit.int .i64 a1).wf = true) (w2 : (Lit.int .i64 a2).wf = true) (w3 : (a3 = none ∧ len3 = 0 ∧ cap3 = 0 ∧ z3 = []) ∨ ∃ x, a3 = some x ∧ len3 ≤ cap3 ∧ cap3 ≤ maxLen ∧ z3.length = cap3 ∧ (∀ i, i < z3.length → w.cell? (x.add i) = some (.int .i64 (z3.getD i 0))) ∧ ∀ n ∈ z3, (Lit.int .i64 n).wf = true) (y3 : len3 * 8 ≤ 140737488351232) :
  Calls Try.prog 5 #[.int .i64 a0, .int .i64 a1, .int .i64 a2, .slice a3 len3 cap3] w fun e w' => e = .returned (.bool true) ∧ Below w.heap.size w w' := by
 obtain ⟨l3, rfl, hr3, hm3, hw3, hc3⟩ := ReadsInt.ofRowC w3
 obtain ⟨k, h⟩ := P a0 a1 a2 l3 w0 w1 w2 hm3 y3 hw3
 refine (tabardlaw02_BitsBack.calls k a0 a1 a2 _ _ l3 true w (Kd.C_of_reads (d := (0 : Int)) (h1 := fun _ => rfl) hr3) hc3 h).mono ?_
 rintro e w' ⟨rfl, hd⟩
 exact ⟨rfl, hd⟩

end Go.Proofs.Ytpekanolhgcljaa.X

/- What the functions of this seat compute, and that the program's calls come to just that: written by this session's own program out of the translation; no condition. -/
import Derived.Test.YtpekanolhgcljaaX0
import Derived.Test.YtpekanolhgcljaaX5
import Derived.Test.YtpekanolhgcljaaX8
import Derived.Test.YtpekanolhgcljaaX10
import Derived.Test.YtpekanolhgcljaaX11
import Derived.Test.YtpekanolhgcljaaX12
namespace Go.Proofs.Ytpekanolhgcljaa.X
open Go.RowKit Go.Proofs.YtpekanolhgcljaaW.PrintWords Go.Proofs.YtpekanolhgcljaaW.PrintLast Go.Proofs.YtpekanolhgcljaaW.PrintMore
attribute [local go_sem] max2_int min2_int max_two min_two max_three min_three max_four min_four   -- for this text's walks alone
set_option linter.unusedVariables false
set_option linter.unusedSimpArgs false

/-! ### tabardlaw02_ints: function 18 -/
def tabardlaw02_ints.l0 : Nat → List Int → List Int → Int → Int → Option (Bool)
 | 0, _, _, _, _ => none
 | k + 1, x0, x1, x12, x13 => if x13 < x12 then (if 0 ≤ x13 then (if x13 < (x0.length : Int) then (if x13 < (x1.length : Int) then (if (rd x0 x13) = (rd x1 x13) then (tabardlaw02_ints.l0 k x0 x1 x12 (wrap64 (x13 + 1))) else (some false)) else (none)) else (none)) else (none)) else (some true)
def tabardlaw02_ints.f (k : Nat) (l0 : List Int) (l1 : List Int) : Option (Bool) := if (l0.length : Int) = (l1.length : Int) then (tabardlaw02_ints.l0 k l0 l1 (l0.length : Int) 0) else (some false)
theorem tabardlaw02_ints.mono_l : ∀ k, (∀ y0 y1 y2 y3, LeO (tabardlaw02_ints.l0 k y0 y1 y2 y3) (tabardlaw02_ints.l0 (k + 1) y0 y1 y2 y3))
 | 0 => fun _ _ _ _ r h => by simp [tabardlaw02_ints.l0] at h
 | k + 1 => by
  have ih0 := tabardlaw02_ints.mono_l k
  ·intro y0 y1 y2 y3
   unfold tabardlaw02_ints.l0
   repeat' first
   | (with_reducible exact ih0 _ _ _ _)
   | (with_reducible exact LeO.refl _)
   | (with_reducible exact LeO.none _)
   | (with_reducible refine LeO.ite ?_ ?_)
   | (with_reducible refine LeO.bind ?_ (fun _ => ?_))
   | exact ih0 _ _ _ _
   | exact LeO.none _
   | refine LeO.ite ?_ ?_
   | refine LeO.bind ?_ (fun _ => ?_)
theorem tabardlaw02_ints.mono : ∀ a0 a1 k, LeO (tabardlaw02_ints.f k a0 a1) (tabardlaw02_ints.f (k + 1) a0 a1) := by
 intro a0 a1 k
 have ih0 := tabardlaw02_ints.mono_l k
 unfold tabardlaw02_ints.f
 repeat' first
   | (with_reducible exact ih0 _ _ _ _)
   | (with_reducible exact LeO.refl _)
   | (with_reducible exact LeO.none _)
   | (with_reducible refine LeO.ite ?_ ?_)
   | (with_reducible refine LeO.bind ?_ (fun _ => ?_))
   | exact ih0 _ _ _ _
   | exact LeO.none _
   | refine LeO.ite ?_ ?_
   | refine LeO.bind ?_ (fun _ => ?_)
set_option maxHeartbeats 8000000 in
set_option maxRecDepth 100000 in
theorem tabardlaw02_ints.calls (k : Nat) (A0 : Option Addr) (c0 : Nat) (l0 : List Int) (A1 : Option Addr) (c1 : Nat) (l1 : List Int) (r : Bool) (w : World) (hr0 : Kd.C (Kd.int .i64) w A0 l0.length l0) (hc0 : l0.length ≤ c0) (hr1 : Kd.C (Kd.int .i64) w A1 l1.length l1) (hc1 : l1.length ≤ c1) (h : tabardlaw02_ints.f k l0 l1 = some r) :
  Calls Try.prog 18 #[.slice A0 l0.length c0, .slice A1 l1.length c1] w fun e w' => e = .returned (.bool r) ∧ Drawn0 w w' := by
 have HR0 := Aside0.mk hr0
 have HC0 := Aside0.mk hc0
 clear hr0 hc0
 have HR1 := Aside0.mk hr1
 have HC1 := Aside0.mk hc1
 clear hr1 hc1
 have H : (if (l0.length : Int) = (l1.length : Int) then (tabardlaw02_ints.l0 k l0 l1 (l0.length : Int) 0) else (some false)) = some r := h
 clear h
 by_cases c3 : (l0.length : Int) = (l1.length : Int)
 ·rw [if_pos c3] at H
  have c3b0 : ((l0.length : Int) == (l1.length : Int)) = true := beq_iff_eq.mpr c3
  have c3b1 : ((l0.length : Int) != (l1.length : Int)) = false := bne_eq_false_iff_eq.mpr c3
  have c3b2 : (l0.length == l1.length) = true := by first | simpa using c3 | (simp at c3 ⊢; omega)
  clear c3
  have H' := Aside0.mk H
  clear H
  go_enter Try.func18, Try.ntmps18
  go_wp2
  repeat (go_quiet (fail); try go_wp2)
  go_loopg [13] k (fun kq v13 w' => ∃ (x13_1 : Int), v13 = .int .i64 x13_1 ∧ Aside0 (tabardlaw02_ints.l0 kq l0 l1 (l0.length : Int) x13_1 = some r) ∧ Aside0 (kq ≤ k) ∧ Drawn0 w w')
  case atStart => exact ⟨(0), (by first | rfl | (simp; done) | (simp [*]; done)), H', ⟨Nat.le_refl _⟩, by repeat (first | exact Drawn0.refl _ | apply Drawn0.step)⟩
  case round =>
   clear H'
   try clear c1
   try clear p2
   try clear c3
   try clear c3b0
   try clear c3b1
   try clear c3b2
   obtain ⟨x13_1, rfl, HA, HK1, ⟨m1, rfl⟩⟩ := hrel
   cases gk with
   | zero => exact absurd HA.out (by simp [tabardlaw02_ints.l0])
   | succ k1 =>
    have H := HA.out
    clear HA
    simp only [tabardlaw02_ints.l0] at H
    by_cases c4 : x13_1 < (l0.length : Int)
    ·rw [if_pos c4] at H
     have c4b0 : decide (x13_1 < (l0.length : Int)) = true := decide_eq_true c4
     clear c4
     by_cases c5 : 0 ≤ x13_1
     ·rw [if_pos c5] at H
      have c5b0 : decide (0 ≤ x13_1) = true := decide_eq_true c5
      clear c5
      by_cases c6 : x13_1 < (l0.length : Int)
      ·rw [if_pos c6] at H
       have c6b0 : decide (x13_1 < (l0.length : Int)) = true := decide_eq_true c6
       clear c6
       by_cases c7 : x13_1 < (l1.length : Int)
       ·rw [if_pos c7] at H
        have c7b0 : decide (x13_1 < (l1.length : Int)) = true := decide_eq_true c7
        clear c7
        by_cases c8 : (rd l0 x13_1) = (rd l1 x13_1)
        ·rw [if_pos c8] at H
         have c8b0 : ((rd l0 x13_1) == (rd l1 x13_1)) = true := beq_iff_eq.mpr c8
         have c8b1 : ((rd l0 x13_1) != (rd l1 x13_1)) = false := bne_eq_false_iff_eq.mpr c8
         clear c8
         have H' := Aside0.mk H
         clear H
         have p220 : 0 ≤ (x13_1 : Int) := of_decide_eq_true aO
         have q220 : x13_1 < (l0.length : Int) := of_decide_eq_true aO
         obtain ⟨ad220, e220, hx220_0⟩ := Kd.at_int HR0.out x13_1 p220 q220
         cases e220
         replace p220 := eq_true p220
         replace q220 := eq_true q220
         have p221 : 0 ≤ (x13_1 : Int) := of_decide_eq_true aO
         have q221 : x13_1 < (l1.length : Int) := of_decide_eq_true aO
         obtain ⟨ad221, e221, hx221_0⟩ := Kd.at_int HR1.out x13_1 p221 q221
         cases e221
         replace p221 := eq_true p221
         replace q221 := eq_true q221
         go_wp2
         repeat (go_quiet (fail); try go_wp2)
         go_roundg k1
         case measure => have := HK1.out; omega
         case rel => exact ⟨(wrap64 (x13_1 + 1)), (by first | rfl | (simp; done) | (simp [*]; done)), H', ⟨by have := HK1.out; omega⟩, by repeat (first | exact Drawn0.refl _ | apply Drawn0.step)⟩
        ·rw [if_neg c8] at H
         have c8b0 : ((rd l0 x13_1) == (rd l1 x13_1)) = false := beq_eq_false_iff_ne.mpr c8
         have c8b1 : ((rd l0 x13_1) != (rd l1 x13_1)) = true := bne_iff_ne.mpr c8
         obtain rfl := Option.some.inj H
         have p220 : 0 ≤ (x13_1 : Int) := of_decide_eq_true aO
         have q220 : x13_1 < (l0.length : Int) := of_decide_eq_true aO
         obtain ⟨ad220, e220, hx220_0⟩ := Kd.at_int HR0.out x13_1 p220 q220
         cases e220
         replace p220 := eq_true p220
         replace q220 := eq_true q220
         have p221 : 0 ≤ (x13_1 : Int) := of_decide_eq_true aO
         have q221 : x13_1 < (l1.length : Int) := of_decide_eq_true aO
         obtain ⟨ad221, e221, hx221_0⟩ := Kd.at_int HR1.out x13_1 p221 q221
         cases e221
         replace p221 := eq_true p221
         replace q221 := eq_true q221
         go_wp2
         repeat (go_quiet (fail); try go_wp2)
         go_ret
         exact ⟨by first | rfl | (simp; done) | (simp [*]; done), by repeat (first | exact Drawn0.refl _ | apply Drawn0.step)⟩
       ·rw [if_neg c7] at H
        exact absurd H (by simp)
      ·rw [if_neg c6] at H
       exact absurd H (by simp)
     ·rw [if_neg c5] at H
      exact absurd H (by simp)
    ·rw [if_neg c4] at H
     have c4b0 : decide (x13_1 < (l0.length : Int)) = false := decide_eq_false c4
     clear c4
     obtain rfl := Option.some.inj H
     go_wp2
     repeat (go_quiet (fail); try go_wp2)
     go_ret
     exact ⟨by first | rfl | (simp; done) | (simp [*]; done), by repeat (first | exact Drawn0.refl _ | apply Drawn0.step)⟩
 ·rw [if_neg c3] at H
  have c3b0 : ((l0.length : Int) == (l1.length : Int)) = false := beq_eq_false_iff_ne.mpr c3
  have c3b1 : ((l0.length : Int) != (l1.length : Int)) = true := bne_iff_ne.mpr c3
  have c3b2 : (l0.length == l1.length) = false := by first | simpa using c3 | (simp at c3 ⊢; omega)
  obtain rfl := Option.some.inj H
  go_enter Try.func18, Try.ntmps18
  go_wp2
  repeat (go_quiet (fail); try go_wp2)
  go_ret
  exact ⟨by first | rfl | (simp; done) | (simp [*]; done), by repeat (first | exact Drawn0.refl _ | apply Drawn0.step)⟩

/-! ### tabardlaw02_BitsPlaces: function 4 -/
def tabardlaw02_BitsPlaces.f (k : Nat) (a0 : Int) (l1 : List Int) : Option (Bool) := (some (([] : List Int) : List Int)).bind fun y222 => (if y222.length + l1.length < 17592186044416 then ((some (y222 ++ l1 : List Int)).bind fun y225 => ((bits_Spread.f k a0 y225).bind fun bt228 => ((tabardref02_Spread.f k a0 l1).bind fun bt230 => ((bits_Gather.f k a0 y225).bind fun bt232 => ((tabardref02_Gather.f k a0 l1).bind fun bt234 => ((tabardlaw02_fixed.f).bind fun t236 => (if t236 = true then (if bt228.1 = bt230.1 then (if bt228.2 = bt230.2 then (if bt232.1 = bt234.1 then (if bt232.2 = bt234.2 then ((tabardlaw02_ints.f k y225 l1).bind fun t237 => (some t237)) else (some false)) else (some false)) else (some false)) else (some false)) else (some false)))))))) else (none))
theorem tabardlaw02_BitsPlaces.mono : ∀ a0 a1 k, LeO (tabardlaw02_BitsPlaces.f k a0 a1) (tabardlaw02_BitsPlaces.f (k + 1) a0 a1) := by
 intro a0 a1 k
 unfold tabardlaw02_BitsPlaces.f
 repeat' first
   | (with_reducible exact bits_Gather.mono _ _ _)
   | (with_reducible exact bits_Spread.mono _ _ _)
   | (with_reducible exact tabardlaw02_ints.mono _ _ _)
   | (with_reducible exact tabardref02_Gather.mono _ _ _)
   | (with_reducible exact tabardref02_Spread.mono _ _ _)
   | (with_reducible exact LeO.refl _)
   | (with_reducible exact LeO.none _)
   | (with_reducible refine LeO.ite ?_ ?_)
   | (with_reducible refine LeO.bind ?_ (fun _ => ?_))
   | exact bits_Gather.mono _ _ _
   | exact bits_Spread.mono _ _ _
   | exact tabardlaw02_ints.mono _ _ _
   | exact tabardref02_Gather.mono _ _ _
   | exact tabardref02_Spread.mono _ _ _
   | exact LeO.none _
   | refine LeO.ite ?_ ?_
   | refine LeO.bind ?_ (fun _ => ?_)
set_option maxHeartbeats 8000000 in
set_option maxRecDepth 100000 in
theorem tabardlaw02_BitsPlaces.calls (k : Nat) (a0 : Int) (A1 : Option Addr) (c1 : Nat) (l1 : List Int) (r : Bool) (w : World) (hr1 : Kd.C (Kd.int .i64) w A1 l1.length l1) (hc1 : l1.length ≤ c1) (h : tabardlaw02_BitsPlaces.f k a0 l1 = some r) :
  Calls Try.prog 4 #[.int .i64 a0, .slice A1 l1.length c1] w fun e w' => e = .returned (.bool r) ∧ Below w.heap.size w w' := by
 have HR1 := Aside0.mk hr1
 have HC1 := Aside0.mk hc1
 clear hr1 hc1
 have HB := Aside0.mk (Below.refl w.heap.size w)
 have H : ((some (([] : List Int) : List Int)).bind fun y222 => (if y222.length + l1.length < 17592186044416 then ((some (y222 ++ l1 : List Int)).bind fun y225 => ((bits_Spread.f k a0 y225).bind fun bt228 => ((tabardref02_Spread.f k a0 l1).bind fun bt230 => ((bits_Gather.f k a0 y225).bind fun bt232 => ((tabardref02_Gather.f k a0 l1).bind fun bt234 => ((tabardlaw02_fixed.f).bind fun t236 => (if t236 = true then (if bt228.1 = bt230.1 then (if bt228.2 = bt230.2 then (if bt232.1 = bt234.1 then (if bt232.2 = bt234.2 then ((tabardlaw02_ints.f k y225 l1).bind fun t237 => (some t237)) else (some false)) else (some false)) else (some false)) else (some false)) else (some false)))))))) else (none))) = some r := h
 clear h
 obtain ⟨y222, hy222⟩ : ∃ y_ : List Int, y_ = (([] : List Int)) := ⟨_, rfl⟩
 replace H : (if y222.length + l1.length < 17592186044416 then ((some (y222 ++ l1 : List Int)).bind fun y225 => ((bits_Spread.f k a0 y225).bind fun bt228 => ((tabardref02_Spread.f k a0 l1).bind fun bt230 => ((bits_Gather.f k a0 y225).bind fun bt232 => ((tabardref02_Gather.f k a0 l1).bind fun bt234 => ((tabardlaw02_fixed.f).bind fun t236 => (if t236 = true then (if bt228.1 = bt230.1 then (if bt228.2 = bt230.2 then (if bt232.1 = bt234.1 then (if bt232.2 = bt234.2 then ((tabardlaw02_ints.f k y225 l1).bind fun t237 => (some t237)) else (some false)) else (some false)) else (some false)) else (some false)) else (some false)))))))) else (none)) = some r := by first | (rw [hy222]; with_reducible exact H) | (have H2_ := (Option.bind_some _ _).symm.trans H; rw [hy222]; with_reducible exact H2_) | (have H2_ := (Option.bind_some _ _).symm.trans H; with_reducible exact H2_) | with_reducible exact H | (rw [hy222]; exact H) | exact H
 have Ny222 := Aside0.mk hy222
 clear hy222
 by_cases c3 : y222.length + l1.length < 17592186044416
 ·rw [if_pos c3] at H
  have LMc3 := Aside0.mk c3
  clear c3
  obtain ⟨y225, hy225⟩ : ∃ y_ : List Int, y_ = (y222 ++ l1) := ⟨_, rfl⟩
  replace H : ((bits_Spread.f k a0 y225).bind fun bt228 => ((tabardref02_Spread.f k a0 l1).bind fun bt230 => ((bits_Gather.f k a0 y225).bind fun bt232 => ((tabardref02_Gather.f k a0 l1).bind fun bt234 => ((tabardlaw02_fixed.f).bind fun t236 => (if t236 = true then (if bt228.1 = bt230.1 then (if bt228.2 = bt230.2 then (if bt232.1 = bt234.1 then (if bt232.2 = bt234.2 then ((tabardlaw02_ints.f k y225 l1).bind fun t237 => (some t237)) else (some false)) else (some false)) else (some false)) else (some false)) else (some false))))))) = some r := by first | (rw [hy225]; with_reducible exact H) | (have H2_ := (Option.bind_some _ _).symm.trans H; rw [hy225]; with_reducible exact H2_) | (have H2_ := (Option.bind_some _ _).symm.trans H; with_reducible exact H2_) | with_reducible exact H | (rw [hy225]; exact H) | exact H
  have Ny225 := Aside0.mk hy225
  clear hy225
  replace H := Option.bind_eq_some_iff.mp H
  obtain ⟨⟨t228, t229⟩, A40, H⟩ := H
  replace H : ((tabardref02_Spread.f k a0 l1).bind fun bt230 => ((bits_Gather.f k a0 y225).bind fun bt232 => ((tabardref02_Gather.f k a0 l1).bind fun bt234 => ((tabardlaw02_fixed.f).bind fun t236 => (if t236 = true then (if t228 = bt230.1 then (if t229 = bt230.2 then (if bt232.1 = bt234.1 then (if bt232.2 = bt234.2 then ((tabardlaw02_ints.f k y225 l1).bind fun t237 => (some t237)) else (some false)) else (some false)) else (some false)) else (some false)) else (some false)))))) = some r := H
  have A4 := Aside0.mk A40
  clear A40
  replace H := Option.bind_eq_some_iff.mp H
  obtain ⟨⟨t230, t231⟩, A50, H⟩ := H
  replace H : ((bits_Gather.f k a0 y225).bind fun bt232 => ((tabardref02_Gather.f k a0 l1).bind fun bt234 => ((tabardlaw02_fixed.f).bind fun t236 => (if t236 = true then (if t228 = t230 then (if t229 = t231 then (if bt232.1 = bt234.1 then (if bt232.2 = bt234.2 then ((tabardlaw02_ints.f k y225 l1).bind fun t237 => (some t237)) else (some false)) else (some false)) else (some false)) else (some false)) else (some false))))) = some r := H
  have A5 := Aside0.mk A50
  clear A50
  replace H := Option.bind_eq_some_iff.mp H
  obtain ⟨⟨t232, t233⟩, A60, H⟩ := H
  replace H : ((tabardref02_Gather.f k a0 l1).bind fun bt234 => ((tabardlaw02_fixed.f).bind fun t236 => (if t236 = true then (if t228 = t230 then (if t229 = t231 then (if t232 = bt234.1 then (if t233 = bt234.2 then ((tabardlaw02_ints.f k y225 l1).bind fun t237 => (some t237)) else (some false)) else (some false)) else (some false)) else (some false)) else (some false)))) = some r := H
  have A6 := Aside0.mk A60
  clear A60
  replace H := Option.bind_eq_some_iff.mp H
  obtain ⟨⟨t234, t235⟩, A70, H⟩ := H
  replace H : ((tabardlaw02_fixed.f).bind fun t236 => (if t236 = true then (if t228 = t230 then (if t229 = t231 then (if t232 = t234 then (if t233 = t235 then ((tabardlaw02_ints.f k y225 l1).bind fun t237 => (some t237)) else (some false)) else (some false)) else (some false)) else (some false)) else (some false))) = some r := H
  have A7 := Aside0.mk A70
  clear A70
  replace H := Option.bind_eq_some_iff.mp H
  obtain ⟨t236, A80, H⟩ := H
  replace H : (if t236 = true then (if t228 = t230 then (if t229 = t231 then (if t232 = t234 then (if t233 = t235 then ((tabardlaw02_ints.f k y225 l1).bind fun t237 => (some t237)) else (some false)) else (some false)) else (some false)) else (some false)) else (some false)) = some r := H
  have A8 := Aside0.mk A80
  clear A80
  by_cases c9 : t236 = true
  ·subst c9
   have H1 : (if t228 = t230 then (if t229 = t231 then (if t232 = t234 then (if t233 = t235 then ((tabardlaw02_ints.f k y225 l1).bind fun t237 => (some t237)) else (some false)) else (some false)) else (some false)) else (some false)) = some r := by rw [if_pos rfl] at H; exact H
   clear H
   have H := H1
   clear H1
   by_cases c10 : t228 = t230
   ·rw [if_pos c10] at H
    have c10b0 : (t228 == t230) = true := beq_iff_eq.mpr c10
    have c10b1 : (t228 != t230) = false := bne_eq_false_iff_eq.mpr c10
    clear c10
    by_cases c11 : t229 = t231
    ·rw [if_pos c11] at H
     have c11b0 : (t229 == t231) = true := beq_iff_eq.mpr c11
     have c11b1 : (t229 != t231) = false := bne_eq_false_iff_eq.mpr c11
     clear c11
     by_cases c12 : t232 = t234
     ·rw [if_pos c12] at H
      have c12b0 : (t232 == t234) = true := beq_iff_eq.mpr c12
      have c12b1 : (t232 != t234) = false := bne_eq_false_iff_eq.mpr c12
      clear c12
      by_cases c13 : t233 = t235
      ·rw [if_pos c13] at H
       have c13b0 : (t233 == t235) = true := beq_iff_eq.mpr c13
       have c13b1 : (t233 != t235) = false := bne_eq_false_iff_eq.mpr c13
       clear c13
       replace H := Option.bind_eq_some_iff.mp H
       obtain ⟨t237, A140, H⟩ := H
       replace H : (some t237) = some r := H
       have A14 := Aside0.mk A140
       clear A140
       obtain rfl := Option.some.inj H
       go_enter Try.func4, Try.ntmps4
       go_wp2_with (first | ((with_reducible refine gate_dst (N := 14) rfl ?_); refine Kd.R_lit (Kd.int .i64) _ 3 ?hg (N := 14) ?hd (xs := ([] : List Int)) (inner := []) (ok := fun _ => True) (okp := fun _ => True) ?hr ?hp (fun _ hk => hk) trivial (Below.refl _ _) (Nat.le_refl _) (by simp) ?_; (case hd => rfl); (case hg => rfl); (case hr => first | (go_simp; done) | (go_simp; rfl)); (case hp => exact (Reps.none _ _)); intro v223 w15 ho16 hb hg_ hnew_; clear hg_ hnew_; (first | rw [← Ny222.out] at ho16 | (simp only [Int.reduceToNat] at ho16; rw [← Ny222.out] at ho16)); have n0_ := Aside0.mk (Kd.R_lower ho16 (below_size (bO HB.out))); have n1_ := Aside0.mk (below_step (bO HB.out) hb); clear HB; have HO224 := n0_; have HB := n1_; clear n0_ n1_; clear hb ho16) | ((with_reducible refine gate_builtin (b := .append) (xs := #[.tmp 14, .tmp 15]) rfl ?_); at_builtin; refine Kd.R_append_rows (Kd.int .i64) (w0 := w) w.heap.size rfl (.tmp 14) (.tmp 15) 32 3 (.int .i64 0) 8 rfl Try.underlying32 info3 rfl (by decide) (by omega) v223 y222 l1 _ _ _ (fun _ => True) (fun _ => False) rfl rfl ?aO ?aR (fun _ _ h => h) (fun _ h => h.elim) ?aF ?aB ?aS ?aL ?_; (case aR => exact cO (Kd.C_below HR1.out HB.out)); (case aB => exact (bO HB.out)); (case aF => exact (fun _ _ => trivial)); (case aO => exact (rO HO224.out)); (case aS => exact (below_size (bO HB.out))); (case aL => have := LMc3.out; omega); intro v226 w17 ho hb hg hat; rw [← Ny225.out] at ho; have n0_ := Aside0.mk (hb); have n1_ := Aside0.mk (ho); clear HB; clear HO224; have HB := n0_; have HO227 := n1_; clear n0_ n1_; clear ho hb hg hat; obtain ⟨Ao18, co18, eo18⟩ := Kd.R_slice HO227.out; subst eo18) | ((with_reducible refine gate_callee (f := 14) rfl ?_); refine goesL_ (some 20) rfl rfl Try.func14 (by kernel_rfl) rfl #[.int .i64 a0, .slice Ao18 y225.length co18] rfl mO ?_; (with_reducible refine (bits_Spread.calls k a0 _ _ y225 t228 t229 _ ?side1 ?side2 A4.out).mono ?_); (case side1 => exact cO (Kd.R_reads' HO227.out).2.2); (case side2 => exact (Kd.R_reads' HO227.out).2.1); rintro e w' ⟨rfl, ⟨nd, rfl⟩⟩; refine ⟨_, rfl, ?_⟩) | ((with_reducible refine gate_callee (f := 15) rfl ?_); refine goesL_ (some 26) rfl rfl Try.func15 (by kernel_rfl) rfl #[.int .i64 a0, .slice A1 l1.length c1] rfl mO ?_; (with_reducible refine (tabardref02_Spread.calls k a0 _ _ l1 t230 t231 _ ?side1 ?side2 A5.out).mono ?_); (case side1 => repeat (first | exact (Kd.C_below HR1.out (bO HB.out)) | (with_reducible refine Kd.C_alloc ?_ _) | (with_reducible refine Kd.C_drewN ?_ _) | (with_reducible refine Kd.C_drew ?_))); (case side2 => exact HC1.out); rintro e w19 ⟨rfl, hb⟩; refine ⟨_, rfl, ?_⟩; have n0_ := Aside0.mk (Kd.R_below (rO HO227.out) hb); have n1_ := Aside0.mk (below_step (bO HB.out) hb); clear HO227; clear HB; have HO227 := n0_; have HB := n1_; clear n0_ n1_; (try clear hb); (try clear hb2); (try clear hk); (try clear hi)) | ((with_reducible refine gate_callee (f := 16) rfl ?_); refine goesL_ (some 32) rfl rfl Try.func16 (by kernel_rfl) rfl #[.int .i64 a0, .slice Ao18 y225.length co18] rfl mO ?_; (with_reducible refine (bits_Gather.calls k a0 _ _ y225 t232 t233 _ ?side1 ?side2 A6.out).mono ?_); (case side1 => exact cO (Kd.R_reads' HO227.out).2.2); (case side2 => exact (Kd.R_reads' HO227.out).2.1); rintro e w' ⟨rfl, ⟨nd, rfl⟩⟩; refine ⟨_, rfl, ?_⟩) | ((with_reducible refine gate_callee (f := 17) rfl ?_); refine goesL_ (some 38) rfl rfl Try.func17 (by kernel_rfl) rfl #[.int .i64 a0, .slice A1 l1.length c1] rfl mO ?_; (with_reducible refine (tabardref02_Gather.calls k a0 _ _ l1 t234 t235 _ ?side1 ?side2 A7.out).mono ?_); (case side1 => repeat (first | exact (Kd.C_below HR1.out (bO HB.out)) | (with_reducible refine Kd.C_alloc ?_ _) | (with_reducible refine Kd.C_drewN ?_ _) | (with_reducible refine Kd.C_drew ?_))); (case side2 => exact HC1.out); rintro e w20 ⟨rfl, hb⟩; refine ⟨_, rfl, ?_⟩; have n0_ := Aside0.mk (Kd.R_below (rO HO227.out) hb); have n1_ := Aside0.mk (below_step (bO HB.out) hb); clear HO227; clear HB; have HO227 := n0_; have HB := n1_; clear n0_ n1_; (try clear hb); (try clear hb2); (try clear hk); (try clear hi)) | ((with_reducible refine gate_callee (f := 11) rfl ?_); refine goesL_ (some 41) rfl rfl Try.func11 (by kernel_rfl) rfl #[] rfl mO ?_; (with_reducible refine (tabardlaw02_fixed.calls  true _ A8.out).mono ?_); rintro e w21 ⟨rfl, hb⟩; refine ⟨_, rfl, ?_⟩; have n0_ := Aside0.mk (Kd.R_below (rO HO227.out) hb); have n1_ := Aside0.mk (below_step (bO HB.out) hb); clear HO227; clear HB; have HO227 := n0_; have HB := n1_; clear n0_ n1_; (try clear hb); (try clear hb2); (try clear hk); (try clear hi)) | (go_at_call 18; (with_reducible refine (tabardlaw02_ints.calls k _ _ y225 _ _ l1 t237 _ ?side1 ?side2 ?side3 ?side4 A14.out).mono ?_); (case side1 => exact cO (Kd.R_reads' HO227.out).2.2); (case side2 => exact (Kd.R_reads' HO227.out).2.1); (case side3 => exact cO (Kd.C_below HR1.out HB.out)); (case side4 => exact HC1.out); rintro e w' ⟨rfl, ⟨nd, rfl⟩⟩))
       go_ret
       exact ⟨by first | rfl | (simp [errW_none, errW_some] <;> rfl) | (simp [*, errW_none, errW_some] <;> rfl), bO HB.out⟩
      ·rw [if_neg c13] at H
       have c13b0 : (t233 == t235) = false := beq_eq_false_iff_ne.mpr c13
       have c13b1 : (t233 != t235) = true := bne_iff_ne.mpr c13
       obtain rfl := Option.some.inj H
       go_enter Try.func4, Try.ntmps4
       go_wp2_with (first | ((with_reducible refine gate_dst (N := 14) rfl ?_); refine Kd.R_lit (Kd.int .i64) _ 3 ?hg (N := 14) ?hd (xs := ([] : List Int)) (inner := []) (ok := fun _ => True) (okp := fun _ => True) ?hr ?hp (fun _ hk => hk) trivial (Below.refl _ _) (Nat.le_refl _) (by simp) ?_; (case hd => rfl); (case hg => rfl); (case hr => first | (go_simp; done) | (go_simp; rfl)); (case hp => exact (Reps.none _ _)); intro v223 w22 ho23 hb hg_ hnew_; clear hg_ hnew_; (first | rw [← Ny222.out] at ho23 | (simp only [Int.reduceToNat] at ho23; rw [← Ny222.out] at ho23)); have n0_ := Aside0.mk (Kd.R_lower ho23 (below_size (bO HB.out))); have n1_ := Aside0.mk (below_step (bO HB.out) hb); clear HB; have HO224 := n0_; have HB := n1_; clear n0_ n1_; clear hb ho23) | ((with_reducible refine gate_builtin (b := .append) (xs := #[.tmp 14, .tmp 15]) rfl ?_); at_builtin; refine Kd.R_append_rows (Kd.int .i64) (w0 := w) w.heap.size rfl (.tmp 14) (.tmp 15) 32 3 (.int .i64 0) 8 rfl Try.underlying32 info3 rfl (by decide) (by omega) v223 y222 l1 _ _ _ (fun _ => True) (fun _ => False) rfl rfl ?aO ?aR (fun _ _ h => h) (fun _ h => h.elim) ?aF ?aB ?aS ?aL ?_; (case aR => exact cO (Kd.C_below HR1.out HB.out)); (case aB => exact (bO HB.out)); (case aF => exact (fun _ _ => trivial)); (case aO => exact (rO HO224.out)); (case aS => exact (below_size (bO HB.out))); (case aL => have := LMc3.out; omega); intro v226 w24 ho hb hg hat; rw [← Ny225.out] at ho; have n0_ := Aside0.mk (hb); have n1_ := Aside0.mk (ho); clear HB; clear HO224; have HB := n0_; have HO227 := n1_; clear n0_ n1_; clear ho hb hg hat; obtain ⟨Ao25, co25, eo25⟩ := Kd.R_slice HO227.out; subst eo25) | ((with_reducible refine gate_callee (f := 14) rfl ?_); refine goesL_ (some 20) rfl rfl Try.func14 (by kernel_rfl) rfl #[.int .i64 a0, .slice Ao25 y225.length co25] rfl mO ?_; (with_reducible refine (bits_Spread.calls k a0 _ _ y225 t228 t229 _ ?side1 ?side2 A4.out).mono ?_); (case side1 => exact cO (Kd.R_reads' HO227.out).2.2); (case side2 => exact (Kd.R_reads' HO227.out).2.1); rintro e w' ⟨rfl, ⟨nd, rfl⟩⟩; refine ⟨_, rfl, ?_⟩) | ((with_reducible refine gate_callee (f := 15) rfl ?_); refine goesL_ (some 26) rfl rfl Try.func15 (by kernel_rfl) rfl #[.int .i64 a0, .slice A1 l1.length c1] rfl mO ?_; (with_reducible refine (tabardref02_Spread.calls k a0 _ _ l1 t230 t231 _ ?side1 ?side2 A5.out).mono ?_); (case side1 => repeat (first | exact (Kd.C_below HR1.out (bO HB.out)) | (with_reducible refine Kd.C_alloc ?_ _) | (with_reducible refine Kd.C_drewN ?_ _) | (with_reducible refine Kd.C_drew ?_))); (case side2 => exact HC1.out); rintro e w26 ⟨rfl, hb⟩; refine ⟨_, rfl, ?_⟩; have n0_ := Aside0.mk (Kd.R_below (rO HO227.out) hb); have n1_ := Aside0.mk (below_step (bO HB.out) hb); clear HO227; clear HB; have HO227 := n0_; have HB := n1_; clear n0_ n1_; (try clear hb); (try clear hb2); (try clear hk); (try clear hi)) | ((with_reducible refine gate_callee (f := 16) rfl ?_); refine goesL_ (some 32) rfl rfl Try.func16 (by kernel_rfl) rfl #[.int .i64 a0, .slice Ao25 y225.length co25] rfl mO ?_; (with_reducible refine (bits_Gather.calls k a0 _ _ y225 t232 t233 _ ?side1 ?side2 A6.out).mono ?_); (case side1 => exact cO (Kd.R_reads' HO227.out).2.2); (case side2 => exact (Kd.R_reads' HO227.out).2.1); rintro e w' ⟨rfl, ⟨nd, rfl⟩⟩; refine ⟨_, rfl, ?_⟩) | ((with_reducible refine gate_callee (f := 17) rfl ?_); refine goesL_ (some 38) rfl rfl Try.func17 (by kernel_rfl) rfl #[.int .i64 a0, .slice A1 l1.length c1] rfl mO ?_; (with_reducible refine (tabardref02_Gather.calls k a0 _ _ l1 t234 t235 _ ?side1 ?side2 A7.out).mono ?_); (case side1 => repeat (first | exact (Kd.C_below HR1.out (bO HB.out)) | (with_reducible refine Kd.C_alloc ?_ _) | (with_reducible refine Kd.C_drewN ?_ _) | (with_reducible refine Kd.C_drew ?_))); (case side2 => exact HC1.out); rintro e w27 ⟨rfl, hb⟩; refine ⟨_, rfl, ?_⟩; have n0_ := Aside0.mk (Kd.R_below (rO HO227.out) hb); have n1_ := Aside0.mk (below_step (bO HB.out) hb); clear HO227; clear HB; have HO227 := n0_; have HB := n1_; clear n0_ n1_; (try clear hb); (try clear hb2); (try clear hk); (try clear hi)) | ((with_reducible refine gate_callee (f := 11) rfl ?_); refine goesL_ (some 41) rfl rfl Try.func11 (by kernel_rfl) rfl #[] rfl mO ?_; (with_reducible refine (tabardlaw02_fixed.calls  true _ A8.out).mono ?_); rintro e w28 ⟨rfl, hb⟩; refine ⟨_, rfl, ?_⟩; have n0_ := Aside0.mk (Kd.R_below (rO HO227.out) hb); have n1_ := Aside0.mk (below_step (bO HB.out) hb); clear HO227; clear HB; have HO227 := n0_; have HB := n1_; clear n0_ n1_; (try clear hb); (try clear hb2); (try clear hk); (try clear hi)))
       go_ret
       exact ⟨by first | rfl | (simp [errW_none, errW_some] <;> rfl) | (simp [*, errW_none, errW_some] <;> rfl), bO HB.out⟩
     ·rw [if_neg c12] at H
      have c12b0 : (t232 == t234) = false := beq_eq_false_iff_ne.mpr c12
      have c12b1 : (t232 != t234) = true := bne_iff_ne.mpr c12
      obtain rfl := Option.some.inj H
      go_enter Try.func4, Try.ntmps4
      go_wp2_with (first | ((with_reducible refine gate_dst (N := 14) rfl ?_); refine Kd.R_lit (Kd.int .i64) _ 3 ?hg (N := 14) ?hd (xs := ([] : List Int)) (inner := []) (ok := fun _ => True) (okp := fun _ => True) ?hr ?hp (fun _ hk => hk) trivial (Below.refl _ _) (Nat.le_refl _) (by simp) ?_; (case hd => rfl); (case hg => rfl); (case hr => first | (go_simp; done) | (go_simp; rfl)); (case hp => exact (Reps.none _ _)); intro v223 w29 ho30 hb hg_ hnew_; clear hg_ hnew_; (first | rw [← Ny222.out] at ho30 | (simp only [Int.reduceToNat] at ho30; rw [← Ny222.out] at ho30)); have n0_ := Aside0.mk (Kd.R_lower ho30 (below_size (bO HB.out))); have n1_ := Aside0.mk (below_step (bO HB.out) hb); clear HB; have HO224 := n0_; have HB := n1_; clear n0_ n1_; clear hb ho30) | ((with_reducible refine gate_builtin (b := .append) (xs := #[.tmp 14, .tmp 15]) rfl ?_); at_builtin; refine Kd.R_append_rows (Kd.int .i64) (w0 := w) w.heap.size rfl (.tmp 14) (.tmp 15) 32 3 (.int .i64 0) 8 rfl Try.underlying32 info3 rfl (by decide) (by omega) v223 y222 l1 _ _ _ (fun _ => True) (fun _ => False) rfl rfl ?aO ?aR (fun _ _ h => h) (fun _ h => h.elim) ?aF ?aB ?aS ?aL ?_; (case aR => exact cO (Kd.C_below HR1.out HB.out)); (case aB => exact (bO HB.out)); (case aF => exact (fun _ _ => trivial)); (case aO => exact (rO HO224.out)); (case aS => exact (below_size (bO HB.out))); (case aL => have := LMc3.out; omega); intro v226 w31 ho hb hg hat; rw [← Ny225.out] at ho; have n0_ := Aside0.mk (hb); have n1_ := Aside0.mk (ho); clear HB; clear HO224; have HB := n0_; have HO227 := n1_; clear n0_ n1_; clear ho hb hg hat; obtain ⟨Ao32, co32, eo32⟩ := Kd.R_slice HO227.out; subst eo32) | ((with_reducible refine gate_callee (f := 14) rfl ?_); refine goesL_ (some 20) rfl rfl Try.func14 (by kernel_rfl) rfl #[.int .i64 a0, .slice Ao32 y225.length co32] rfl mO ?_; (with_reducible refine (bits_Spread.calls k a0 _ _ y225 t228 t229 _ ?side1 ?side2 A4.out).mono ?_); (case side1 => exact cO (Kd.R_reads' HO227.out).2.2); (case side2 => exact (Kd.R_reads' HO227.out).2.1); rintro e w' ⟨rfl, ⟨nd, rfl⟩⟩; refine ⟨_, rfl, ?_⟩) | ((with_reducible refine gate_callee (f := 15) rfl ?_); refine goesL_ (some 26) rfl rfl Try.func15 (by kernel_rfl) rfl #[.int .i64 a0, .slice A1 l1.length c1] rfl mO ?_; (with_reducible refine (tabardref02_Spread.calls k a0 _ _ l1 t230 t231 _ ?side1 ?side2 A5.out).mono ?_); (case side1 => repeat (first | exact (Kd.C_below HR1.out (bO HB.out)) | (with_reducible refine Kd.C_alloc ?_ _) | (with_reducible refine Kd.C_drewN ?_ _) | (with_reducible refine Kd.C_drew ?_))); (case side2 => exact HC1.out); rintro e w33 ⟨rfl, hb⟩; refine ⟨_, rfl, ?_⟩; have n0_ := Aside0.mk (Kd.R_below (rO HO227.out) hb); have n1_ := Aside0.mk (below_step (bO HB.out) hb); clear HO227; clear HB; have HO227 := n0_; have HB := n1_; clear n0_ n1_; (try clear hb); (try clear hb2); (try clear hk); (try clear hi)) | ((with_reducible refine gate_callee (f := 16) rfl ?_); refine goesL_ (some 32) rfl rfl Try.func16 (by kernel_rfl) rfl #[.int .i64 a0, .slice Ao32 y225.length co32] rfl mO ?_; (with_reducible refine (bits_Gather.calls k a0 _ _ y225 t232 t233 _ ?side1 ?side2 A6.out).mono ?_); (case side1 => exact cO (Kd.R_reads' HO227.out).2.2); (case side2 => exact (Kd.R_reads' HO227.out).2.1); rintro e w' ⟨rfl, ⟨nd, rfl⟩⟩; refine ⟨_, rfl, ?_⟩) | ((with_reducible refine gate_callee (f := 17) rfl ?_); refine goesL_ (some 38) rfl rfl Try.func17 (by kernel_rfl) rfl #[.int .i64 a0, .slice A1 l1.length c1] rfl mO ?_; (with_reducible refine (tabardref02_Gather.calls k a0 _ _ l1 t234 t235 _ ?side1 ?side2 A7.out).mono ?_); (case side1 => repeat (first | exact (Kd.C_below HR1.out (bO HB.out)) | (with_reducible refine Kd.C_alloc ?_ _) | (with_reducible refine Kd.C_drewN ?_ _) | (with_reducible refine Kd.C_drew ?_))); (case side2 => exact HC1.out); rintro e w34 ⟨rfl, hb⟩; refine ⟨_, rfl, ?_⟩; have n0_ := Aside0.mk (Kd.R_below (rO HO227.out) hb); have n1_ := Aside0.mk (below_step (bO HB.out) hb); clear HO227; clear HB; have HO227 := n0_; have HB := n1_; clear n0_ n1_; (try clear hb); (try clear hb2); (try clear hk); (try clear hi)) | ((with_reducible refine gate_callee (f := 11) rfl ?_); refine goesL_ (some 41) rfl rfl Try.func11 (by kernel_rfl) rfl #[] rfl mO ?_; (with_reducible refine (tabardlaw02_fixed.calls  true _ A8.out).mono ?_); rintro e w35 ⟨rfl, hb⟩; refine ⟨_, rfl, ?_⟩; have n0_ := Aside0.mk (Kd.R_below (rO HO227.out) hb); have n1_ := Aside0.mk (below_step (bO HB.out) hb); clear HO227; clear HB; have HO227 := n0_; have HB := n1_; clear n0_ n1_; (try clear hb); (try clear hb2); (try clear hk); (try clear hi)))
      go_ret
      exact ⟨by first | rfl | (simp [errW_none, errW_some] <;> rfl) | (simp [*, errW_none, errW_some] <;> rfl), bO HB.out⟩
    ·rw [if_neg c11] at H
     have c11b0 : (t229 == t231) = false := beq_eq_false_iff_ne.mpr c11
     have c11b1 : (t229 != t231) = true := bne_iff_ne.mpr c11
     obtain rfl := Option.some.inj H
     go_enter Try.func4, Try.ntmps4
     go_wp2_with (first | ((with_reducible refine gate_dst (N := 14) rfl ?_); refine Kd.R_lit (Kd.int .i64) _ 3 ?hg (N := 14) ?hd (xs := ([] : List Int)) (inner := []) (ok := fun _ => True) (okp := fun _ => True) ?hr ?hp (fun _ hk => hk) trivial (Below.refl _ _) (Nat.le_refl _) (by simp) ?_; (case hd => rfl); (case hg => rfl); (case hr => first | (go_simp; done) | (go_simp; rfl)); (case hp => exact (Reps.none _ _)); intro v223 w36 ho37 hb hg_ hnew_; clear hg_ hnew_; (first | rw [← Ny222.out] at ho37 | (simp only [Int.reduceToNat] at ho37; rw [← Ny222.out] at ho37)); have n0_ := Aside0.mk (Kd.R_lower ho37 (below_size (bO HB.out))); have n1_ := Aside0.mk (below_step (bO HB.out) hb); clear HB; have HO224 := n0_; have HB := n1_; clear n0_ n1_; clear hb ho37) | ((with_reducible refine gate_builtin (b := .append) (xs := #[.tmp 14, .tmp 15]) rfl ?_); at_builtin; refine Kd.R_append_rows (Kd.int .i64) (w0 := w) w.heap.size rfl (.tmp 14) (.tmp 15) 32 3 (.int .i64 0) 8 rfl Try.underlying32 info3 rfl (by decide) (by omega) v223 y222 l1 _ _ _ (fun _ => True) (fun _ => False) rfl rfl ?aO ?aR (fun _ _ h => h) (fun _ h => h.elim) ?aF ?aB ?aS ?aL ?_; (case aR => exact cO (Kd.C_below HR1.out HB.out)); (case aB => exact (bO HB.out)); (case aF => exact (fun _ _ => trivial)); (case aO => exact (rO HO224.out)); (case aS => exact (below_size (bO HB.out))); (case aL => have := LMc3.out; omega); intro v226 w38 ho hb hg hat; rw [← Ny225.out] at ho; have n0_ := Aside0.mk (hb); have n1_ := Aside0.mk (ho); clear HB; clear HO224; have HB := n0_; have HO227 := n1_; clear n0_ n1_; clear ho hb hg hat; obtain ⟨Ao39, co39, eo39⟩ := Kd.R_slice HO227.out; subst eo39) | ((with_reducible refine gate_callee (f := 14) rfl ?_); refine goesL_ (some 20) rfl rfl Try.func14 (by kernel_rfl) rfl #[.int .i64 a0, .slice Ao39 y225.length co39] rfl mO ?_; (with_reducible refine (bits_Spread.calls k a0 _ _ y225 t228 t229 _ ?side1 ?side2 A4.out).mono ?_); (case side1 => exact cO (Kd.R_reads' HO227.out).2.2); (case side2 => exact (Kd.R_reads' HO227.out).2.1); rintro e w' ⟨rfl, ⟨nd, rfl⟩⟩; refine ⟨_, rfl, ?_⟩) | ((with_reducible refine gate_callee (f := 15) rfl ?_); refine goesL_ (some 26) rfl rfl Try.func15 (by kernel_rfl) rfl #[.int .i64 a0, .slice A1 l1.length c1] rfl mO ?_; (with_reducible refine (tabardref02_Spread.calls k a0 _ _ l1 t230 t231 _ ?side1 ?side2 A5.out).mono ?_); (case side1 => repeat (first | exact (Kd.C_below HR1.out (bO HB.out)) | (with_reducible refine Kd.C_alloc ?_ _) | (with_reducible refine Kd.C_drewN ?_ _) | (with_reducible refine Kd.C_drew ?_))); (case side2 => exact HC1.out); rintro e w40 ⟨rfl, hb⟩; refine ⟨_, rfl, ?_⟩; have n0_ := Aside0.mk (Kd.R_below (rO HO227.out) hb); have n1_ := Aside0.mk (below_step (bO HB.out) hb); clear HO227; clear HB; have HO227 := n0_; have HB := n1_; clear n0_ n1_; (try clear hb); (try clear hb2); (try clear hk); (try clear hi)) | ((with_reducible refine gate_callee (f := 16) rfl ?_); refine goesL_ (some 32) rfl rfl Try.func16 (by kernel_rfl) rfl #[.int .i64 a0, .slice Ao39 y225.length co39] rfl mO ?_; (with_reducible refine (bits_Gather.calls k a0 _ _ y225 t232 t233 _ ?side1 ?side2 A6.out).mono ?_); (case side1 => exact cO (Kd.R_reads' HO227.out).2.2); (case side2 => exact (Kd.R_reads' HO227.out).2.1); rintro e w' ⟨rfl, ⟨nd, rfl⟩⟩; refine ⟨_, rfl, ?_⟩) | ((with_reducible refine gate_callee (f := 17) rfl ?_); refine goesL_ (some 38) rfl rfl Try.func17 (by kernel_rfl) rfl #[.int .i64 a0, .slice A1 l1.length c1] rfl mO ?_; (with_reducible refine (tabardref02_Gather.calls k a0 _ _ l1 t234 t235 _ ?side1 ?side2 A7.out).mono ?_); (case side1 => repeat (first | exact (Kd.C_below HR1.out (bO HB.out)) | (with_reducible refine Kd.C_alloc ?_ _) | (with_reducible refine Kd.C_drewN ?_ _) | (with_reducible refine Kd.C_drew ?_))); (case side2 => exact HC1.out); rintro e w41 ⟨rfl, hb⟩; refine ⟨_, rfl, ?_⟩; have n0_ := Aside0.mk (Kd.R_below (rO HO227.out) hb); have n1_ := Aside0.mk (below_step (bO HB.out) hb); clear HO227; clear HB; have HO227 := n0_; have HB := n1_; clear n0_ n1_; (try clear hb); (try clear hb2); (try clear hk); (try clear hi)) | ((with_reducible refine gate_callee (f := 11) rfl ?_); refine goesL_ (some 41) rfl rfl Try.func11 (by kernel_rfl) rfl #[] rfl mO ?_; (with_reducible refine (tabardlaw02_fixed.calls  true _ A8.out).mono ?_); rintro e w42 ⟨rfl, hb⟩; refine ⟨_, rfl, ?_⟩; have n0_ := Aside0.mk (Kd.R_below (rO HO227.out) hb); have n1_ := Aside0.mk (below_step (bO HB.out) hb); clear HO227; clear HB; have HO227 := n0_; have HB := n1_; clear n0_ n1_; (try clear hb); (try clear hb2); (try clear hk); (try clear hi)))
     go_ret
     exact ⟨by first | rfl | (simp [errW_none, errW_some] <;> rfl) | (simp [*, errW_none, errW_some] <;> rfl), bO HB.out⟩
   ·rw [if_neg c10] at H
    have c10b0 : (t228 == t230) = false := beq_eq_false_iff_ne.mpr c10
    have c10b1 : (t228 != t230) = true := bne_iff_ne.mpr c10
    obtain rfl := Option.some.inj H
    go_enter Try.func4, Try.ntmps4
    go_wp2_with (first | ((with_reducible refine gate_dst (N := 14) rfl ?_); refine Kd.R_lit (Kd.int .i64) _ 3 ?hg (N := 14) ?hd (xs := ([] : List Int)) (inner := []) (ok := fun _ => True) (okp := fun _ => True) ?hr ?hp (fun _ hk => hk) trivial (Below.refl _ _) (Nat.le_refl _) (by simp) ?_; (case hd => rfl); (case hg => rfl); (case hr => first | (go_simp; done) | (go_simp; rfl)); (case hp => exact (Reps.none _ _)); intro v223 w43 ho44 hb hg_ hnew_; clear hg_ hnew_; (first | rw [← Ny222.out] at ho44 | (simp only [Int.reduceToNat] at ho44; rw [← Ny222.out] at ho44)); have n0_ := Aside0.mk (Kd.R_lower ho44 (below_size (bO HB.out))); have n1_ := Aside0.mk (below_step (bO HB.out) hb); clear HB; have HO224 := n0_; have HB := n1_; clear n0_ n1_; clear hb ho44) | ((with_reducible refine gate_builtin (b := .append) (xs := #[.tmp 14, .tmp 15]) rfl ?_); at_builtin; refine Kd.R_append_rows (Kd.int .i64) (w0 := w) w.heap.size rfl (.tmp 14) (.tmp 15) 32 3 (.int .i64 0) 8 rfl Try.underlying32 info3 rfl (by decide) (by omega) v223 y222 l1 _ _ _ (fun _ => True) (fun _ => False) rfl rfl ?aO ?aR (fun _ _ h => h) (fun _ h => h.elim) ?aF ?aB ?aS ?aL ?_; (case aR => exact cO (Kd.C_below HR1.out HB.out)); (case aB => exact (bO HB.out)); (case aF => exact (fun _ _ => trivial)); (case aO => exact (rO HO224.out)); (case aS => exact (below_size (bO HB.out))); (case aL => have := LMc3.out; omega); intro v226 w45 ho hb hg hat; rw [← Ny225.out] at ho; have n0_ := Aside0.mk (hb); have n1_ := Aside0.mk (ho); clear HB; clear HO224; have HB := n0_; have HO227 := n1_; clear n0_ n1_; clear ho hb hg hat; obtain ⟨Ao46, co46, eo46⟩ := Kd.R_slice HO227.out; subst eo46) | ((with_reducible refine gate_callee (f := 14) rfl ?_); refine goesL_ (some 20) rfl rfl Try.func14 (by kernel_rfl) rfl #[.int .i64 a0, .slice Ao46 y225.length co46] rfl mO ?_; (with_reducible refine (bits_Spread.calls k a0 _ _ y225 t228 t229 _ ?side1 ?side2 A4.out).mono ?_); (case side1 => exact cO (Kd.R_reads' HO227.out).2.2); (case side2 => exact (Kd.R_reads' HO227.out).2.1); rintro e w' ⟨rfl, ⟨nd, rfl⟩⟩; refine ⟨_, rfl, ?_⟩) | ((with_reducible refine gate_callee (f := 15) rfl ?_); refine goesL_ (some 26) rfl rfl Try.func15 (by kernel_rfl) rfl #[.int .i64 a0, .slice A1 l1.length c1] rfl mO ?_; (with_reducible refine (tabardref02_Spread.calls k a0 _ _ l1 t230 t231 _ ?side1 ?side2 A5.out).mono ?_); (case side1 => repeat (first | exact (Kd.C_below HR1.out (bO HB.out)) | (with_reducible refine Kd.C_alloc ?_ _) | (with_reducible refine Kd.C_drewN ?_ _) | (with_reducible refine Kd.C_drew ?_))); (case side2 => exact HC1.out); rintro e w47 ⟨rfl, hb⟩; refine ⟨_, rfl, ?_⟩; have n0_ := Aside0.mk (Kd.R_below (rO HO227.out) hb); have n1_ := Aside0.mk (below_step (bO HB.out) hb); clear HO227; clear HB; have HO227 := n0_; have HB := n1_; clear n0_ n1_; (try clear hb); (try clear hb2); (try clear hk); (try clear hi)) | ((with_reducible refine gate_callee (f := 16) rfl ?_); refine goesL_ (some 32) rfl rfl Try.func16 (by kernel_rfl) rfl #[.int .i64 a0, .slice Ao46 y225.length co46] rfl mO ?_; (with_reducible refine (bits_Gather.calls k a0 _ _ y225 t232 t233 _ ?side1 ?side2 A6.out).mono ?_); (case side1 => exact cO (Kd.R_reads' HO227.out).2.2); (case side2 => exact (Kd.R_reads' HO227.out).2.1); rintro e w' ⟨rfl, ⟨nd, rfl⟩⟩; refine ⟨_, rfl, ?_⟩) | ((with_reducible refine gate_callee (f := 17) rfl ?_); refine goesL_ (some 38) rfl rfl Try.func17 (by kernel_rfl) rfl #[.int .i64 a0, .slice A1 l1.length c1] rfl mO ?_; (with_reducible refine (tabardref02_Gather.calls k a0 _ _ l1 t234 t235 _ ?side1 ?side2 A7.out).mono ?_); (case side1 => repeat (first | exact (Kd.C_below HR1.out (bO HB.out)) | (with_reducible refine Kd.C_alloc ?_ _) | (with_reducible refine Kd.C_drewN ?_ _) | (with_reducible refine Kd.C_drew ?_))); (case side2 => exact HC1.out); rintro e w48 ⟨rfl, hb⟩; refine ⟨_, rfl, ?_⟩; have n0_ := Aside0.mk (Kd.R_below (rO HO227.out) hb); have n1_ := Aside0.mk (below_step (bO HB.out) hb); clear HO227; clear HB; have HO227 := n0_; have HB := n1_; clear n0_ n1_; (try clear hb); (try clear hb2); (try clear hk); (try clear hi)) | ((with_reducible refine gate_callee (f := 11) rfl ?_); refine goesL_ (some 41) rfl rfl Try.func11 (by kernel_rfl) rfl #[] rfl mO ?_; (with_reducible refine (tabardlaw02_fixed.calls  true _ A8.out).mono ?_); rintro e w49 ⟨rfl, hb⟩; refine ⟨_, rfl, ?_⟩; have n0_ := Aside0.mk (Kd.R_below (rO HO227.out) hb); have n1_ := Aside0.mk (below_step (bO HB.out) hb); clear HO227; clear HB; have HO227 := n0_; have HB := n1_; clear n0_ n1_; (try clear hb); (try clear hb2); (try clear hk); (try clear hi)))
    go_ret
    exact ⟨by first | rfl | (simp [errW_none, errW_some] <;> rfl) | (simp [*, errW_none, errW_some] <;> rfl), bO HB.out⟩
  ·replace c9 := Bool.eq_false_iff.mpr c9
   subst c9
   have H1 : (some false) = some r := by rw [if_neg (show ¬ (false = true) by decide)] at H; exact H
   clear H
   have H := H1
   clear H1
   obtain rfl := Option.some.inj H
   go_enter Try.func4, Try.ntmps4
   go_wp2_with (first | ((with_reducible refine gate_dst (N := 14) rfl ?_); refine Kd.R_lit (Kd.int .i64) _ 3 ?hg (N := 14) ?hd (xs := ([] : List Int)) (inner := []) (ok := fun _ => True) (okp := fun _ => True) ?hr ?hp (fun _ hk => hk) trivial (Below.refl _ _) (Nat.le_refl _) (by simp) ?_; (case hd => rfl); (case hg => rfl); (case hr => first | (go_simp; done) | (go_simp; rfl)); (case hp => exact (Reps.none _ _)); intro v223 w50 ho51 hb hg_ hnew_; clear hg_ hnew_; (first | rw [← Ny222.out] at ho51 | (simp only [Int.reduceToNat] at ho51; rw [← Ny222.out] at ho51)); have n0_ := Aside0.mk (Kd.R_lower ho51 (below_size (bO HB.out))); have n1_ := Aside0.mk (below_step (bO HB.out) hb); clear HB; have HO224 := n0_; have HB := n1_; clear n0_ n1_; clear hb ho51) | ((with_reducible refine gate_builtin (b := .append) (xs := #[.tmp 14, .tmp 15]) rfl ?_); at_builtin; refine Kd.R_append_rows (Kd.int .i64) (w0 := w) w.heap.size rfl (.tmp 14) (.tmp 15) 32 3 (.int .i64 0) 8 rfl Try.underlying32 info3 rfl (by decide) (by omega) v223 y222 l1 _ _ _ (fun _ => True) (fun _ => False) rfl rfl ?aO ?aR (fun _ _ h => h) (fun _ h => h.elim) ?aF ?aB ?aS ?aL ?_; (case aR => exact cO (Kd.C_below HR1.out HB.out)); (case aB => exact (bO HB.out)); (case aF => exact (fun _ _ => trivial)); (case aO => exact (rO HO224.out)); (case aS => exact (below_size (bO HB.out))); (case aL => have := LMc3.out; omega); intro v226 w52 ho hb hg hat; rw [← Ny225.out] at ho; have n0_ := Aside0.mk (hb); have n1_ := Aside0.mk (ho); clear HB; clear HO224; have HB := n0_; have HO227 := n1_; clear n0_ n1_; clear ho hb hg hat; obtain ⟨Ao53, co53, eo53⟩ := Kd.R_slice HO227.out; subst eo53) | ((with_reducible refine gate_callee (f := 14) rfl ?_); refine goesL_ (some 20) rfl rfl Try.func14 (by kernel_rfl) rfl #[.int .i64 a0, .slice Ao53 y225.length co53] rfl mO ?_; (with_reducible refine (bits_Spread.calls k a0 _ _ y225 t228 t229 _ ?side1 ?side2 A4.out).mono ?_); (case side1 => exact cO (Kd.R_reads' HO227.out).2.2); (case side2 => exact (Kd.R_reads' HO227.out).2.1); rintro e w' ⟨rfl, ⟨nd, rfl⟩⟩; refine ⟨_, rfl, ?_⟩) | ((with_reducible refine gate_callee (f := 15) rfl ?_); refine goesL_ (some 26) rfl rfl Try.func15 (by kernel_rfl) rfl #[.int .i64 a0, .slice A1 l1.length c1] rfl mO ?_; (with_reducible refine (tabardref02_Spread.calls k a0 _ _ l1 t230 t231 _ ?side1 ?side2 A5.out).mono ?_); (case side1 => repeat (first | exact (Kd.C_below HR1.out (bO HB.out)) | (with_reducible refine Kd.C_alloc ?_ _) | (with_reducible refine Kd.C_drewN ?_ _) | (with_reducible refine Kd.C_drew ?_))); (case side2 => exact HC1.out); rintro e w54 ⟨rfl, hb⟩; refine ⟨_, rfl, ?_⟩; have n0_ := Aside0.mk (Kd.R_below (rO HO227.out) hb); have n1_ := Aside0.mk (below_step (bO HB.out) hb); clear HO227; clear HB; have HO227 := n0_; have HB := n1_; clear n0_ n1_; (try clear hb); (try clear hb2); (try clear hk); (try clear hi)) | ((with_reducible refine gate_callee (f := 16) rfl ?_); refine goesL_ (some 32) rfl rfl Try.func16 (by kernel_rfl) rfl #[.int .i64 a0, .slice Ao53 y225.length co53] rfl mO ?_; (with_reducible refine (bits_Gather.calls k a0 _ _ y225 t232 t233 _ ?side1 ?side2 A6.out).mono ?_); (case side1 => exact cO (Kd.R_reads' HO227.out).2.2); (case side2 => exact (Kd.R_reads' HO227.out).2.1); rintro e w' ⟨rfl, ⟨nd, rfl⟩⟩; refine ⟨_, rfl, ?_⟩) | ((with_reducible refine gate_callee (f := 17) rfl ?_); refine goesL_ (some 38) rfl rfl Try.func17 (by kernel_rfl) rfl #[.int .i64 a0, .slice A1 l1.length c1] rfl mO ?_; (with_reducible refine (tabardref02_Gather.calls k a0 _ _ l1 t234 t235 _ ?side1 ?side2 A7.out).mono ?_); (case side1 => repeat (first | exact (Kd.C_below HR1.out (bO HB.out)) | (with_reducible refine Kd.C_alloc ?_ _) | (with_reducible refine Kd.C_drewN ?_ _) | (with_reducible refine Kd.C_drew ?_))); (case side2 => exact HC1.out); rintro e w55 ⟨rfl, hb⟩; refine ⟨_, rfl, ?_⟩; have n0_ := Aside0.mk (Kd.R_below (rO HO227.out) hb); have n1_ := Aside0.mk (below_step (bO HB.out) hb); clear HO227; clear HB; have HO227 := n0_; have HB := n1_; clear n0_ n1_; (try clear hb); (try clear hb2); (try clear hk); (try clear hi)) | ((with_reducible refine gate_callee (f := 11) rfl ?_); refine goesL_ (some 41) rfl rfl Try.func11 (by kernel_rfl) rfl #[] rfl mO ?_; (with_reducible refine (tabardlaw02_fixed.calls  false _ A8.out).mono ?_); rintro e w56 ⟨rfl, hb⟩; refine ⟨_, rfl, ?_⟩; have n0_ := Aside0.mk (Kd.R_below (rO HO227.out) hb); have n1_ := Aside0.mk (below_step (bO HB.out) hb); clear HO227; clear HB; have HO227 := n0_; have HB := n1_; clear n0_ n1_; (try clear hb); (try clear hb2); (try clear hk); (try clear hi)))
   go_ret
   exact ⟨by first | rfl | (simp [errW_none, errW_some] <;> rfl) | (simp [*, errW_none, errW_some] <;> rfl), bO HB.out⟩
 ·rw [if_neg c3] at H
  exact absurd H (by simp)

/-- THE ONE PURE STATEMENT of tabardlaw02_BitsPlaces: yours. -/
def tabardlaw02_BitsPlaces.Pure : Prop := ∀ (a0 : Int) (l1 : List Int), (Lit.int .i64 a0).wf = true → l1.length ≤ maxLen → l1.length * 8 ≤ 140737488351232 → (∀ x ∈ l1, (Lit.int .i64 x).wf = true) → ∃ k, tabardlaw02_BitsPlaces.f k a0 l1 = some true
theorem tabardlaw02_BitsPlaces.walk (P : tabardlaw02_BitsPlaces.Pure) (a0 : Int) (a1 : Option Addr) (len1 cap1 : Nat) (z1 : List Int) (w : World) (w0 : (Lit.int .i64 a0).wf = true) (w1 : (a1 = none ∧ len1 = 0 ∧ cap1 = 0 ∧ z1 = []) ∨ ∃ x, a1 = some x ∧ len1 ≤ cap1 ∧ cap1 ≤ maxLen ∧ z1.length = cap1 ∧ (∀ i, i < z1.length → w.cell? (x.add i) = some (.int .i64 (z1.getD i 0))) ∧ ∀ n ∈ z1, (Lit.int .i64 n).wf = true) (y1 : len1 * 8 ≤ 140737488351232) :
  Calls Try.prog 4 #[.int .i64 a0, .slice a1 len1 cap1] w fun e w' => e = .returned (.bool true) ∧ Below w.heap.size w w' := by
 obtain ⟨l1, rfl, hr1, hm1, hw1, hc1⟩ := ReadsInt.ofRowC w1
 obtain ⟨k, h⟩ := P a0 l1 w0 hm1 y1 hw1
 refine (tabardlaw02_BitsPlaces.calls k a0 _ _ l1 true w (Kd.C_of_reads (d := (0 : Int)) (h1 := fun _ => rfl) hr1) hc1 h).mono ?_
 rintro e w' ⟨rfl, hd⟩
 exact ⟨rfl, hd⟩

end Go.Proofs.Ytpekanolhgcljaa.X

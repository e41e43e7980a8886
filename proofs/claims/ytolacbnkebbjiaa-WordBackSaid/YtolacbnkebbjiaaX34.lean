/- What the functions of this seat compute, and that the program's calls come to just that: written by this session's own program out of the translation; no condition. -/
import Derived.Test.YtolacbnkebbjiaaX0
namespace Go.Proofs.Ytolacbnkebbjiaa.X
open Go.RowKit Go.Proofs.YtolacbnkebbjiaaW.PrintWords Go.Proofs.YtolacbnkebbjiaaW.PrintLast Go.Proofs.YtolacbnkebbjiaaW.PrintMore
attribute [local go_sem] max2_int min2_int max_two min_two max_three min_three max_four min_four   -- for this text's walks alone
set_option linter.unusedVariables false
set_option linter.unusedSimpArgs false

/-! ### tabardref03_Compare: function 30 -/
def tabardref03_Compare.l0 : Nat → List Int → List Int → Int → Option (Int)
 | 0, _, _, _ => none
 | k + 1, x0, x1, x5 => if x5 < (x0.length : Int) then (if 0 ≤ x5 then (if x5 < (x1.length : Int) then (if (rd x0 x5) < (rd x1 x5) then (some (-1)) else (if (rd x0 x5) > (rd x1 x5) then (some 1) else (tabardref03_Compare.l0 k x0 x1 (wrap64 (x5 + 1))))) else (none)) else (none)) else (some 0)
def tabardref03_Compare.f (k : Nat) (l0 : List Int) (l1 : List Int) : Option (Int) := if (l0.length : Int) < (l1.length : Int) then (some (-1)) else (if (l0.length : Int) > (l1.length : Int) then (some 1) else (tabardref03_Compare.l0 k l0 l1 0))
theorem tabardref03_Compare.mono_l : ∀ k, (∀ y0 y1 y2, LeO (tabardref03_Compare.l0 k y0 y1 y2) (tabardref03_Compare.l0 (k + 1) y0 y1 y2))
 | 0 => fun _ _ _ r h => by simp [tabardref03_Compare.l0] at h
 | k + 1 => by
  have ih0 := tabardref03_Compare.mono_l k
  ·intro y0 y1 y2
   unfold tabardref03_Compare.l0
   repeat' first
   | (with_reducible exact ih0 _ _ _)
   | (with_reducible exact LeO.refl _)
   | (with_reducible exact LeO.none _)
   | (with_reducible refine LeO.ite ?_ ?_)
   | (with_reducible refine LeO.bind ?_ (fun _ => ?_))
   | exact ih0 _ _ _
   | exact LeO.none _
   | refine LeO.ite ?_ ?_
   | refine LeO.bind ?_ (fun _ => ?_)
theorem tabardref03_Compare.mono : ∀ a0 a1 k, LeO (tabardref03_Compare.f k a0 a1) (tabardref03_Compare.f (k + 1) a0 a1) := by
 intro a0 a1 k
 have ih0 := tabardref03_Compare.mono_l k
 unfold tabardref03_Compare.f
 repeat' first
   | (with_reducible exact ih0 _ _ _)
   | (with_reducible exact LeO.refl _)
   | (with_reducible exact LeO.none _)
   | (with_reducible refine LeO.ite ?_ ?_)
   | (with_reducible refine LeO.bind ?_ (fun _ => ?_))
   | exact ih0 _ _ _
   | exact LeO.none _
   | refine LeO.ite ?_ ?_
   | refine LeO.bind ?_ (fun _ => ?_)
set_option maxHeartbeats 8000000 in
set_option maxRecDepth 100000 in
theorem tabardref03_Compare.calls (k : Nat) (A0 : Option Addr) (c0 : Nat) (l0 : List Int) (A1 : Option Addr) (c1 : Nat) (l1 : List Int) (r : Int) (w : World) (hr0 : Kd.C (Kd.int .i64) w A0 l0.length l0) (hc0 : l0.length ≤ c0) (hr1 : Kd.C (Kd.int .i64) w A1 l1.length l1) (hc1 : l1.length ≤ c1) (h : tabardref03_Compare.f k l0 l1 = some r) :
  Calls Try.prog 30 #[.slice A0 l0.length c0, .slice A1 l1.length c1] w fun e w' => e = .returned (.int .i64 r) ∧ Drawn0 w w' := by
 have HR0 := Aside0.mk hr0
 have HC0 := Aside0.mk hc0
 clear hr0 hc0
 have HR1 := Aside0.mk hr1
 have HC1 := Aside0.mk hc1
 clear hr1 hc1
 have H : (if (l0.length : Int) < (l1.length : Int) then (some (-1)) else (if (l0.length : Int) > (l1.length : Int) then (some 1) else (tabardref03_Compare.l0 k l0 l1 0))) = some r := h
 clear h
 by_cases c3 : (l0.length : Int) < (l1.length : Int)
 ·rw [if_pos c3] at H
  have c3b0 : decide ((l0.length : Int) < (l1.length : Int)) = true := decide_eq_true c3
  have c3b1 : decide (l0.length < l1.length) = true := decide_eq_true (Int.ofNat_lt.mp c3)
  clear c3
  obtain rfl := Option.some.inj H
  go_enter Try.func30, Try.ntmps30
  go_wp2
  repeat (go_quiet (fail); try go_wp2)
  go_ret
  exact ⟨by first | rfl | (simp; done) | (simp [*]; done), by repeat (first | exact Drawn0.refl _ | apply Drawn0.step)⟩
 ·rw [if_neg c3] at H
  have c3b0 : decide ((l0.length : Int) < (l1.length : Int)) = false := decide_eq_false c3
  have c3b1 : decide (l0.length < l1.length) = false := decide_eq_false (fun h => c3 (Int.ofNat_lt.mpr h))
  clear c3
  by_cases c4 : (l0.length : Int) > (l1.length : Int)
  ·rw [if_pos c4] at H
   have c4b0 : decide ((l1.length : Int) < (l0.length : Int)) = true := decide_eq_true c4
   have c4b1 : decide (l1.length < l0.length) = true := decide_eq_true (Int.ofNat_lt.mp c4)
   clear c4
   obtain rfl := Option.some.inj H
   go_enter Try.func30, Try.ntmps30
   go_wp2
   repeat (go_quiet (fail); try go_wp2)
   go_ret
   exact ⟨by first | rfl | (simp; done) | (simp [*]; done), by repeat (first | exact Drawn0.refl _ | apply Drawn0.step)⟩
  ·rw [if_neg c4] at H
   have c4b0 : decide ((l1.length : Int) < (l0.length : Int)) = false := decide_eq_false c4
   have c4b1 : decide (l1.length < l0.length) = false := decide_eq_false (fun h => c4 (Int.ofNat_lt.mpr h))
   clear c4
   have H' := Aside0.mk H
   clear H
   go_enter Try.func30, Try.ntmps30
   go_wp2
   repeat (go_quiet (fail); try go_wp2)
   go_loopg [5] k (fun kq v5 w' => ∃ (x5_1 : Int), v5 = .int .i64 x5_1 ∧ Aside0 (tabardref03_Compare.l0 kq l0 l1 x5_1 = some r) ∧ Aside0 (kq ≤ k) ∧ Drawn0 w w')
   case atStart => exact ⟨(0), (by first | rfl | (simp; done) | (simp [*]; done)), H', ⟨Nat.le_refl _⟩, by repeat (first | exact Drawn0.refl _ | apply Drawn0.step)⟩
   case round =>
    clear H'
    try clear c1
    try clear p2
    try clear c3
    try clear c3b0
    try clear c3b1
    try clear c4
    try clear c4b0
    try clear c4b1
    obtain ⟨x5_1, rfl, HA, HK1, ⟨m1, rfl⟩⟩ := hrel
    cases gk with
    | zero => exact absurd HA.out (by simp [tabardref03_Compare.l0])
    | succ k1 =>
     have H := HA.out
     clear HA
     simp only [tabardref03_Compare.l0] at H
     by_cases c5 : x5_1 < (l0.length : Int)
     ·rw [if_pos c5] at H
      have c5b0 : decide (x5_1 < (l0.length : Int)) = true := decide_eq_true c5
      clear c5
      by_cases c6 : 0 ≤ x5_1
      ·rw [if_pos c6] at H
       have c6b0 : decide (0 ≤ x5_1) = true := decide_eq_true c6
       clear c6
       by_cases c7 : x5_1 < (l1.length : Int)
       ·rw [if_pos c7] at H
        have c7b0 : decide (x5_1 < (l1.length : Int)) = true := decide_eq_true c7
        clear c7
        by_cases c8 : (rd l0 x5_1) < (rd l1 x5_1)
        ·rw [if_pos c8] at H
         have c8b0 : decide ((rd l0 x5_1) < (rd l1 x5_1)) = true := decide_eq_true c8
         clear c8
         obtain rfl := Option.some.inj H
         have p647 : 0 ≤ (x5_1 : Int) := of_decide_eq_true aO
         have q647 : x5_1 < (l0.length : Int) := of_decide_eq_true aO
         obtain ⟨ad647, e647, hx647_0⟩ := Kd.at_int HR0.out x5_1 p647 q647
         cases e647
         replace p647 := eq_true p647
         replace q647 := eq_true q647
         have p648 : 0 ≤ (x5_1 : Int) := of_decide_eq_true aO
         have q648 : x5_1 < (l1.length : Int) := of_decide_eq_true aO
         obtain ⟨ad648, e648, hx648_0⟩ := Kd.at_int HR1.out x5_1 p648 q648
         cases e648
         replace p648 := eq_true p648
         replace q648 := eq_true q648
         go_wp2
         repeat (go_quiet (fail); try go_wp2)
         go_ret
         exact ⟨by first | rfl | (simp; done) | (simp [*]; done), by repeat (first | exact Drawn0.refl _ | apply Drawn0.step)⟩
        ·rw [if_neg c8] at H
         have c8b0 : decide ((rd l0 x5_1) < (rd l1 x5_1)) = false := decide_eq_false c8
         clear c8
         by_cases c9 : (rd l0 x5_1) > (rd l1 x5_1)
         ·rw [if_pos c9] at H
          have c9b0 : decide ((rd l1 x5_1) < (rd l0 x5_1)) = true := decide_eq_true c9
          clear c9
          obtain rfl := Option.some.inj H
          have p647 : 0 ≤ (x5_1 : Int) := of_decide_eq_true aO
          have q647 : x5_1 < (l0.length : Int) := of_decide_eq_true aO
          obtain ⟨ad647, e647, hx647_0⟩ := Kd.at_int HR0.out x5_1 p647 q647
          cases e647
          replace p647 := eq_true p647
          replace q647 := eq_true q647
          have p648 : 0 ≤ (x5_1 : Int) := of_decide_eq_true aO
          have q648 : x5_1 < (l1.length : Int) := of_decide_eq_true aO
          obtain ⟨ad648, e648, hx648_0⟩ := Kd.at_int HR1.out x5_1 p648 q648
          cases e648
          replace p648 := eq_true p648
          replace q648 := eq_true q648
          have p649 : 0 ≤ (x5_1 : Int) := of_decide_eq_true aO
          have q649 : x5_1 < (l0.length : Int) := of_decide_eq_true aO
          obtain ⟨ad649, e649, hx649_0⟩ := Kd.at_int HR0.out x5_1 p649 q649
          obtain rfl : ad647 = ad649 := (by injection e649)
          replace p649 := eq_true p649
          replace q649 := eq_true q649
          have p650 : 0 ≤ (x5_1 : Int) := of_decide_eq_true aO
          have q650 : x5_1 < (l1.length : Int) := of_decide_eq_true aO
          obtain ⟨ad650, e650, hx650_0⟩ := Kd.at_int HR1.out x5_1 p650 q650
          obtain rfl : ad648 = ad650 := (by injection e650)
          replace p650 := eq_true p650
          replace q650 := eq_true q650
          go_wp2
          repeat (go_quiet (fail); try go_wp2)
          go_ret
          exact ⟨by first | rfl | (simp; done) | (simp [*]; done), by repeat (first | exact Drawn0.refl _ | apply Drawn0.step)⟩
         ·rw [if_neg c9] at H
          have c9b0 : decide ((rd l1 x5_1) < (rd l0 x5_1)) = false := decide_eq_false c9
          clear c9
          have H' := Aside0.mk H
          clear H
          have p647 : 0 ≤ (x5_1 : Int) := of_decide_eq_true aO
          have q647 : x5_1 < (l0.length : Int) := of_decide_eq_true aO
          obtain ⟨ad647, e647, hx647_0⟩ := Kd.at_int HR0.out x5_1 p647 q647
          cases e647
          replace p647 := eq_true p647
          replace q647 := eq_true q647
          have p648 : 0 ≤ (x5_1 : Int) := of_decide_eq_true aO
          have q648 : x5_1 < (l1.length : Int) := of_decide_eq_true aO
          obtain ⟨ad648, e648, hx648_0⟩ := Kd.at_int HR1.out x5_1 p648 q648
          cases e648
          replace p648 := eq_true p648
          replace q648 := eq_true q648
          have p649 : 0 ≤ (x5_1 : Int) := of_decide_eq_true aO
          have q649 : x5_1 < (l0.length : Int) := of_decide_eq_true aO
          obtain ⟨ad649, e649, hx649_0⟩ := Kd.at_int HR0.out x5_1 p649 q649
          obtain rfl : ad647 = ad649 := (by injection e649)
          replace p649 := eq_true p649
          replace q649 := eq_true q649
          have p650 : 0 ≤ (x5_1 : Int) := of_decide_eq_true aO
          have q650 : x5_1 < (l1.length : Int) := of_decide_eq_true aO
          obtain ⟨ad650, e650, hx650_0⟩ := Kd.at_int HR1.out x5_1 p650 q650
          obtain rfl : ad648 = ad650 := (by injection e650)
          replace p650 := eq_true p650
          replace q650 := eq_true q650
          go_wp2
          repeat (go_quiet (fail); try go_wp2)
          go_roundg k1
          case measure => have := HK1.out; omega
          case rel => exact ⟨(wrap64 (x5_1 + 1)), (by first | rfl | (simp; done) | (simp [*]; done)), H', ⟨by have := HK1.out; omega⟩, by repeat (first | exact Drawn0.refl _ | apply Drawn0.step)⟩
       ·rw [if_neg c7] at H
        exact absurd H (by simp)
      ·rw [if_neg c6] at H
       exact absurd H (by simp)
     ·rw [if_neg c5] at H
      have c5b0 : decide (x5_1 < (l0.length : Int)) = false := decide_eq_false c5
      clear c5
      obtain rfl := Option.some.inj H
      go_wp2
      repeat (go_quiet (fail); try go_wp2)
      go_ret
      exact ⟨by first | rfl | (simp; done) | (simp [*]; done), by repeat (first | exact Drawn0.refl _ | apply Drawn0.step)⟩

end Go.Proofs.Ytolacbnkebbjiaa.X

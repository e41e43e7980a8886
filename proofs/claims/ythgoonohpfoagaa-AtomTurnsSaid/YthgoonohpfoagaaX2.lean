/- What the functions of this seat compute, and that the program's calls come to just that: written by this session's own program out of the translation; no condition. -/
import Derived.Test.YthgoonohpfoagaaX0
namespace Go.Proofs.Ythgoonohpfoagaa.X
open Go.RowKit Go.Proofs.YthgoonohpfoagaaW.PrintWords Go.Proofs.YthgoonohpfoagaaW.PrintLast Go.Proofs.YthgoonohpfoagaaW.PrintMore
attribute [local go_sem] max2_int min2_int max_two min_two max_three min_three max_four min_four
set_option linter.unusedVariables false
set_option linter.unusedSimpArgs false

/-! ### chk_Sub: function 102 -/
def chk_Sub.f (a0 : Int) (a1 : Int) : Option (Int × Int) := if ((decide (a0 ≥ 0)) != (decide (a1 ≥ 0))) = true then (if ((decide ((wrap64 (a0 - a1)) ≥ 0)) != (decide (a0 ≥ 0))) = true then (some (0, 10)) else (some (wrap64 (a0 - a1), 0))) else (some (wrap64 (a0 - a1), 0))
set_option maxHeartbeats 8000000 in
set_option maxRecDepth 100000 in
theorem chk_Sub.calls (a0 : Int) (a1 : Int) (r1 : Int) (r2 : Int) (w : World) (h : chk_Sub.f a0 a1 = some (r1, r2)) :
  Calls Try.prog 102 #[.int .i64 a0, .int .i64 a1] w fun e w' => e = .returned (.tuple #[.int .i64 r1, .int .i64 r2]) ∧ Drawn0 w w' := by
 have H : (if ((decide (a0 ≥ 0)) != (decide (a1 ≥ 0))) = true then (if ((decide ((wrap64 (a0 - a1)) ≥ 0)) != (decide (a0 ≥ 0))) = true then (some (0, 10)) else (some (wrap64 (a0 - a1), 0))) else (some (wrap64 (a0 - a1), 0))) = some (r1, r2) := h; clear h
 by_cases c3 : ((decide (a0 ≥ 0)) != (decide (a1 ≥ 0))) = true
 ·rw [if_pos c3] at H; have c3b0 : ((decide (a0 ≥ 0)) != (decide (a1 ≥ 0))) = true := c3
  (try (have c3b1 : decide ((decide (a0 ≥ 0)) = (decide (a1 ≥ 0))) = false := by simpa using c3))
  (try (have c3b2 : ((decide (a0 ≥ 0)) == (decide (a1 ≥ 0))) = false := by simpa using c3))
  (try (have c3b3 : ¬ ((decide (a0 ≥ 0)) = (decide (a1 ≥ 0))) := by simpa using c3))
  clear c3
  by_cases c4 : ((decide ((wrap64 (a0 - a1)) ≥ 0)) != (decide (a0 ≥ 0))) = true
  ·rw [if_pos c4] at H; have c4b0 : ((decide ((wrap64 (a0 - a1)) ≥ 0)) != (decide (a0 ≥ 0))) = true := c4
   (try (have c4b1 : decide ((decide ((wrap64 (a0 - a1)) ≥ 0)) = (decide (a0 ≥ 0))) = false := by simpa using c4))
   (try (have c4b2 : ((decide ((wrap64 (a0 - a1)) ≥ 0)) == (decide (a0 ≥ 0))) = false := by simpa using c4))
   (try (have c4b3 : ¬ ((decide ((wrap64 (a0 - a1)) ≥ 0)) = (decide (a0 ≥ 0))) := by simpa using c4))
   clear c4; simp only [Option.some.injEq, Prod.mk.injEq] at H; obtain ⟨rfl, rfl⟩ := H
   go_enter Try.func102, Try.ntmps102
   go_wp2
   go_ret2
   exact ⟨by first | rfl | (simp; done) | (simp [*]; done), by repeat (first | exact Drawn0.refl _ | apply Drawn0.step)⟩
  ·rw [if_neg c4] at H
   have c4b0 : ((decide ((wrap64 (a0 - a1)) ≥ 0)) != (decide (a0 ≥ 0))) = false := by simpa using c4
   (try (have c4b1 : decide ((decide ((wrap64 (a0 - a1)) ≥ 0)) = (decide (a0 ≥ 0))) = true := by simpa using c4))
   (try (have c4b2 : ((decide ((wrap64 (a0 - a1)) ≥ 0)) == (decide (a0 ≥ 0))) = true := by simpa using c4))
   clear c4; simp only [Option.some.injEq, Prod.mk.injEq] at H; obtain ⟨rfl, rfl⟩ := H
   go_enter Try.func102, Try.ntmps102
   go_wp2
   go_ret2
   exact ⟨by first | rfl | (simp; done) | (simp [*]; done), by repeat (first | exact Drawn0.refl _ | apply Drawn0.step)⟩
 ·rw [if_neg c3] at H
  have c3b0 : ((decide (a0 ≥ 0)) != (decide (a1 ≥ 0))) = false := by simpa using c3
  (try (have c3b1 : decide ((decide (a0 ≥ 0)) = (decide (a1 ≥ 0))) = true := by simpa using c3))
  (try (have c3b2 : ((decide (a0 ≥ 0)) == (decide (a1 ≥ 0))) = true := by simpa using c3))
  clear c3; simp only [Option.some.injEq, Prod.mk.injEq] at H; obtain ⟨rfl, rfl⟩ := H
  go_enter Try.func102, Try.ntmps102
  go_wp2
  go_ret2
  exact ⟨by first | rfl | (simp; done) | (simp [*]; done), by repeat (first | exact Drawn0.refl _ | apply Drawn0.step)⟩

/-! ### chk_Neg: function 90 -/
def chk_Neg.f (a0 : Int) : Option (Int × Int) := (chk_Sub.f 0 a0).bind fun bt115 => (some (bt115.1, bt115.2))
set_option maxHeartbeats 8000000 in
set_option maxRecDepth 100000 in
theorem chk_Neg.calls (a0 : Int) (r1 : Int) (r2 : Int) (w : World) (h : chk_Neg.f a0 = some (r1, r2)) :
  Calls Try.prog 90 #[.int .i64 a0] w fun e w' => e = .returned (.tuple #[.int .i64 r1, .int .i64 r2]) ∧ Drawn0 w w' := by
 have H : ((chk_Sub.f 0 a0).bind fun bt115 => (some (bt115.1, bt115.2))) = some (r1, r2) := h; clear h; replace H := Option.bind_eq_some_iff.mp H; obtain ⟨⟨t115, t116⟩, A20, H⟩ := H; replace H : (some (t115, t116)) = some (r1, r2) := H; have A2 := Aside0.mk A20; clear A20; simp only [Option.some.injEq, Prod.mk.injEq] at H; obtain ⟨rfl, rfl⟩ := H
 go_enter Try.func90, Try.ntmps90
 go_wp2_with (first | ((with_reducible refine gate_callee (f := 102) rfl ?_); refine gL_ (some 5) Try.func102 #[.int .i64 0, .int .i64 a0] ?_; (with_reducible refine (chk_Sub.calls 0 a0 t115 t116 _ A2.out).mono ?_); rintro e w' ⟨rfl, ⟨nd, rfl⟩⟩; refine ⟨_, rfl, ?_⟩))
 go_ret2
 exact ⟨by first | rfl | (simp; done) | (simp [*]; done), by repeat (first | exact Drawn0.refl _ | apply Drawn0.step)⟩

/-! ### chk_Abs: function 70 -/
def chk_Abs.f (a0 : Int) : Option (Int × Int) := if a0 < 0 then ((chk_Neg.f a0).bind fun bt117 => (some (bt117.1, bt117.2))) else (some (a0, 0))
set_option maxHeartbeats 8000000 in
set_option maxRecDepth 100000 in
theorem chk_Abs.calls (a0 : Int) (r1 : Int) (r2 : Int) (w : World) (h : chk_Abs.f a0 = some (r1, r2)) :
  Calls Try.prog 70 #[.int .i64 a0] w fun e w' => e = .returned (.tuple #[.int .i64 r1, .int .i64 r2]) ∧ Drawn0 w w' := by
 have H : (if a0 < 0 then ((chk_Neg.f a0).bind fun bt117 => (some (bt117.1, bt117.2))) else (some (a0, 0))) = some (r1, r2) := h; clear h
 by_cases c2 : a0 < 0
 ·rw [if_pos c2] at H; have c2b0 := decide_eq_true c2; clear c2; replace H := Option.bind_eq_some_iff.mp H; obtain ⟨⟨t117, t118⟩, A30, H⟩ := H; replace H : (some (t117, t118)) = some (r1, r2) := H; have A3 := Aside0.mk A30; clear A30; simp only [Option.some.injEq, Prod.mk.injEq] at H; obtain ⟨rfl, rfl⟩ := H
  go_enter Try.func70, Try.ntmps70
  go_wp2_with (first | ((with_reducible refine gate_callee (f := 90) rfl ?_); refine gL_ (some 7) Try.func90 #[.int .i64 a0] ?_; (with_reducible refine (chk_Neg.calls a0 t117 t118 _ A3.out).mono ?_); rintro e w' ⟨rfl, ⟨nd, rfl⟩⟩; refine ⟨_, rfl, ?_⟩))
  go_ret2
  exact ⟨by first | rfl | (simp; done) | (simp [*]; done), by repeat (first | exact Drawn0.refl _ | apply Drawn0.step)⟩
 ·rw [if_neg c2] at H; have c2b0 := decide_eq_false c2; clear c2; simp only [Option.some.injEq, Prod.mk.injEq] at H; obtain ⟨rfl, rfl⟩ := H
  go_enter Try.func70, Try.ntmps70
  go_wp2
  go_ret2
  exact ⟨by first | rfl | (simp; done) | (simp [*]; done), by repeat (first | exact Drawn0.refl _ | apply Drawn0.step)⟩

/-! ### chk_Add: function 71 -/
def chk_Add.f (a0 : Int) (a1 : Int) : Option (Int × Int) := if ((decide (a0 ≥ 0)) == (decide (a1 ≥ 0))) = true then (if ((decide ((wrap64 (a0 + a1)) ≥ 0)) != (decide (a0 ≥ 0))) = true then (some (0, 10)) else (some (wrap64 (a0 + a1), 0))) else (some (wrap64 (a0 + a1), 0))
set_option maxHeartbeats 8000000 in
set_option maxRecDepth 100000 in
theorem chk_Add.calls (a0 : Int) (a1 : Int) (r1 : Int) (r2 : Int) (w : World) (h : chk_Add.f a0 a1 = some (r1, r2)) :
  Calls Try.prog 71 #[.int .i64 a0, .int .i64 a1] w fun e w' => e = .returned (.tuple #[.int .i64 r1, .int .i64 r2]) ∧ Drawn0 w w' := by
 have H : (if ((decide (a0 ≥ 0)) == (decide (a1 ≥ 0))) = true then (if ((decide ((wrap64 (a0 + a1)) ≥ 0)) != (decide (a0 ≥ 0))) = true then (some (0, 10)) else (some (wrap64 (a0 + a1), 0))) else (some (wrap64 (a0 + a1), 0))) = some (r1, r2) := h; clear h
 by_cases c3 : ((decide (a0 ≥ 0)) == (decide (a1 ≥ 0))) = true
 ·rw [if_pos c3] at H; have c3b0 : ((decide (a0 ≥ 0)) == (decide (a1 ≥ 0))) = true := c3
  (try (have c3b1 : decide ((decide (a0 ≥ 0)) = (decide (a1 ≥ 0))) = true := by simpa using c3))
  (try (have c3b2 : ((decide (a0 ≥ 0)) == (decide (a1 ≥ 0))) = true := by simpa using c3))
  clear c3
  by_cases c4 : ((decide ((wrap64 (a0 + a1)) ≥ 0)) != (decide (a0 ≥ 0))) = true
  ·rw [if_pos c4] at H; have c4b0 : ((decide ((wrap64 (a0 + a1)) ≥ 0)) != (decide (a0 ≥ 0))) = true := c4
   (try (have c4b1 : decide ((decide ((wrap64 (a0 + a1)) ≥ 0)) = (decide (a0 ≥ 0))) = false := by simpa using c4))
   (try (have c4b2 : ((decide ((wrap64 (a0 + a1)) ≥ 0)) == (decide (a0 ≥ 0))) = false := by simpa using c4))
   (try (have c4b3 : ¬ ((decide ((wrap64 (a0 + a1)) ≥ 0)) = (decide (a0 ≥ 0))) := by simpa using c4))
   clear c4; simp only [Option.some.injEq, Prod.mk.injEq] at H; obtain ⟨rfl, rfl⟩ := H
   go_enter Try.func71, Try.ntmps71
   go_wp2
   go_ret2
   exact ⟨by first | rfl | (simp; done) | (simp [*]; done), by repeat (first | exact Drawn0.refl _ | apply Drawn0.step)⟩
  ·rw [if_neg c4] at H
   have c4b0 : ((decide ((wrap64 (a0 + a1)) ≥ 0)) != (decide (a0 ≥ 0))) = false := by simpa using c4
   (try (have c4b1 : decide ((decide ((wrap64 (a0 + a1)) ≥ 0)) = (decide (a0 ≥ 0))) = true := by simpa using c4))
   (try (have c4b2 : ((decide ((wrap64 (a0 + a1)) ≥ 0)) == (decide (a0 ≥ 0))) = true := by simpa using c4))
   clear c4; simp only [Option.some.injEq, Prod.mk.injEq] at H; obtain ⟨rfl, rfl⟩ := H
   go_enter Try.func71, Try.ntmps71
   go_wp2
   go_ret2
   exact ⟨by first | rfl | (simp; done) | (simp [*]; done), by repeat (first | exact Drawn0.refl _ | apply Drawn0.step)⟩
 ·rw [if_neg c3] at H
  have c3b0 : ((decide (a0 ≥ 0)) == (decide (a1 ≥ 0))) = false := by simpa using c3
  (try (have c3b1 : decide ((decide (a0 ≥ 0)) = (decide (a1 ≥ 0))) = false := by simpa using c3))
  (try (have c3b2 : ((decide (a0 ≥ 0)) == (decide (a1 ≥ 0))) = false := by simpa using c3))
  (try (have c3b3 : ¬ ((decide (a0 ≥ 0)) = (decide (a1 ≥ 0))) := by simpa using c3))
  clear c3; simp only [Option.some.injEq, Prod.mk.injEq] at H; obtain ⟨rfl, rfl⟩ := H
  go_enter Try.func71, Try.ntmps71
  go_wp2
  go_ret2
  exact ⟨by first | rfl | (simp; done) | (simp [*]; done), by repeat (first | exact Drawn0.refl _ | apply Drawn0.step)⟩

/-! ### chk_Total: function 46 -/
def chk_Total.l0 : Nat → Int → List Int → Int → Int → Option (Int × Int)
 | 0, _, _, _, _ => none
 | k + 1, x4, x9, x10, x11 => if x11 < x10 then (if 0 ≤ x11 then (if x11 < (x9.length : Int) then ((chk_Abs.f (rd x9 x11)).bind fun bt120 => (if bt120.2 = 0 then ((chk_Add.f x4 bt120.1).bind fun bt122 => (if bt122.2 = 0 then (chk_Total.l0 k bt122.1 x9 x10 (wrap64 (x11 + 1))) else (some (0, bt122.2)))) else (some (0, bt120.2)))) else (none)) else (none)) else (some (x4, 0))
def chk_Total.f (k : Nat) (l0 : List Int) : Option (Int × Int) := chk_Total.l0 k 0 l0 (l0.length : Int) 0
theorem chk_Total.mono_l : ∀ k, (∀ y0 y1 y2 y3, LeO (chk_Total.l0 k y0 y1 y2 y3) (chk_Total.l0 (k + 1) y0 y1 y2 y3))
 | 0 => fun _ _ _ _ r h => by simp [chk_Total.l0] at h
 | k + 1 => by
  have ih0 := chk_Total.mono_l k
  ·intro y0 y1 y2 y3
   unfold chk_Total.l0
   repeat' first | (with_reducible first | exact ih0 _ _ _ _ | exact lA | apply lI | refine lB ?_ fun _ => ?_) | exact lN _ | apply lI | refine lB ?_ fun _ => ?_
theorem chk_Total.mono : ∀ a0 k, LeO (chk_Total.f k a0) (chk_Total.f (k + 1) a0) := by
 intro a0 k; have ih0 := chk_Total.mono_l k
 unfold chk_Total.f
 repeat' first | (with_reducible first | exact ih0 _ _ _ _ | exact lA | apply lI | refine lB ?_ fun _ => ?_) | exact lN _ | apply lI | refine lB ?_ fun _ => ?_
set_option maxHeartbeats 8000000 in
set_option maxRecDepth 100000 in
theorem chk_Total.calls (k : Nat) (A0 : Option Addr) (c0 : Nat) (l0 : List Int) (r1 : Int) (r2 : Int) (w : World) (hr0 : Kd.C (Kd.int .i64) w A0 l0.length l0) (hc0 : l0.length ≤ c0) (h : chk_Total.f k l0 = some (r1, r2)) :
  Calls Try.prog 46 #[.slice A0 l0.length c0] w fun e w' => e = .returned (.tuple #[.int .i64 r1, .int .i64 r2]) ∧ Drawn0 w w' := by
 have HR0 := Aside0.mk hr0; have HC0 := Aside0.mk hc0; clear hr0 hc0; have H : (chk_Total.l0 k 0 l0 (l0.length : Int) 0) = some (r1, r2) := h; clear h; have H' := Aside0.mk H; clear H
 go_enter Try.func46, Try.ntmps46
 go_wp2
 go_loopg [4, 11] k (fun kq v4 v11 w' => ∃ (x4_1 : Int) (x11_1 : Int), v4 = .int .i64 x4_1 ∧ v11 = .int .i64 x11_1 ∧ Aside0 (chk_Total.l0 kq x4_1 l0 (l0.length : Int) x11_1 = some (r1, r2)) ∧ Aside0 (kq ≤ k) ∧ Drawn0 w w')
 case atStart => exact ⟨(0), (0), sI, sI, H', ⟨Nat.le_refl _⟩, by repeat (first | exact Drawn0.refl _ | apply Drawn0.step)⟩
 case round =>
  clear H'; obtain ⟨x4_1, x11_1, rfl, rfl, HA, HK1, ⟨m1, rfl⟩⟩ := hrel; cases gk with
  | zero => exact absurd HA.out (by simp [chk_Total.l0])
  | succ k1 =>
   have H := HA.out; clear HA; simp only [chk_Total.l0] at H
   by_cases c2 : x11_1 < (l0.length : Int)
   ·rw [if_pos c2] at H; have c2b0 := decide_eq_true c2; clear c2
    by_cases c3 : 0 ≤ x11_1
    ·rw [if_pos c3] at H; have c3b0 := decide_eq_true c3; clear c3
     by_cases c4 : x11_1 < (l0.length : Int)
     ·rw [if_pos c4] at H; have c4b0 := decide_eq_true c4; clear c4; replace H := Option.bind_eq_some_iff.mp H; obtain ⟨⟨t120, t121⟩, A50, H⟩ := H; replace H : (if t121 = 0 then ((chk_Add.f x4_1 t120).bind fun bt122 => (if bt122.2 = 0 then (chk_Total.l0 k1 bt122.1 l0 (l0.length : Int) (wrap64 (x11_1 + 1))) else (some (0, bt122.2)))) else (some (0, t121))) = some (r1, r2) := H; have A5 := Aside0.mk A50; clear A50
      by_cases c6 : t121 = 0
      ·rw [if_pos c6] at H; obtain ⟨c6b0, c6b1⟩ := bq c6; clear c6; replace H := Option.bind_eq_some_iff.mp H; obtain ⟨⟨t122, t123⟩, A70, H⟩ := H; replace H : (if t123 = 0 then (chk_Total.l0 k1 t122 l0 (l0.length : Int) (wrap64 (x11_1 + 1))) else (some (0, t123))) = some (r1, r2) := H; have A7 := Aside0.mk A70; clear A70
       by_cases c8 : t123 = 0
       ·rw [if_pos c8] at H; obtain ⟨c8b0, c8b1⟩ := bq c8; clear c8; have H' := Aside0.mk H; clear H; have p119 : 0 ≤ (x11_1 : Int) := of_decide_eq_true aO; have q119 : x11_1 < (l0.length : Int) := of_decide_eq_true aO; obtain ⟨ad119, e119, hx119_0⟩ := Kd.at_int HR0.out x11_1 p119 q119; cases e119; replace p119 := eq_true p119; replace q119 := eq_true q119
        go_wp2_with (first | ((with_reducible refine gate_callee (f := 70) rfl ?_); refine gL_ (some 17) Try.func70 #[.int .i64 (rd l0 x11_1)] ?_; (with_reducible refine (chk_Abs.calls (rd l0 x11_1) t120 t121 _ A5.out).mono ?_); rintro e w' ⟨rfl, ⟨nd, rfl⟩⟩; refine ⟨_, rfl, ?_⟩) | ((with_reducible refine gate_callee (f := 71) rfl ?_); refine gL_ (some 26) Try.func71 #[.int .i64 x4_1, .int .i64 t120] ?_; (with_reducible refine (chk_Add.calls x4_1 t120 t122 t123 _ A7.out).mono ?_); rintro e w' ⟨rfl, ⟨nd, rfl⟩⟩; refine ⟨_, rfl, ?_⟩))
        go_roundg k1
        case measure => have := HK1.out; omega
        case rel => exact ⟨(t122), (wrap64 (x11_1 + 1)), sI, sI, H', ⟨by have := HK1.out; omega⟩, by repeat (first | exact Drawn0.refl _ | apply Drawn0.step)⟩
       ·rw [if_neg c8] at H; obtain ⟨c8b0, c8b1⟩ := bn c8; simp only [Option.some.injEq, Prod.mk.injEq] at H; obtain ⟨rfl, rfl⟩ := H; have p119 : 0 ≤ (x11_1 : Int) := of_decide_eq_true aO; have q119 : x11_1 < (l0.length : Int) := of_decide_eq_true aO; obtain ⟨ad119, e119, hx119_0⟩ := Kd.at_int HR0.out x11_1 p119 q119; cases e119; replace p119 := eq_true p119; replace q119 := eq_true q119
        go_wp2_with (first | ((with_reducible refine gate_callee (f := 70) rfl ?_); refine gL_ (some 17) Try.func70 #[.int .i64 (rd l0 x11_1)] ?_; (with_reducible refine (chk_Abs.calls (rd l0 x11_1) t120 t121 _ A5.out).mono ?_); rintro e w' ⟨rfl, ⟨nd, rfl⟩⟩; refine ⟨_, rfl, ?_⟩) | ((with_reducible refine gate_callee (f := 71) rfl ?_); refine gL_ (some 26) Try.func71 #[.int .i64 x4_1, .int .i64 t120] ?_; (with_reducible refine (chk_Add.calls x4_1 t120 t122 t123 _ A7.out).mono ?_); rintro e w' ⟨rfl, ⟨nd, rfl⟩⟩; refine ⟨_, rfl, ?_⟩))
        go_ret2
        exact ⟨by first | rfl | (simp; done) | (simp [*]; done), by repeat (first | exact Drawn0.refl _ | apply Drawn0.step)⟩
      ·rw [if_neg c6] at H; obtain ⟨c6b0, c6b1⟩ := bn c6; simp only [Option.some.injEq, Prod.mk.injEq] at H; obtain ⟨rfl, rfl⟩ := H; have p119 : 0 ≤ (x11_1 : Int) := of_decide_eq_true aO; have q119 : x11_1 < (l0.length : Int) := of_decide_eq_true aO; obtain ⟨ad119, e119, hx119_0⟩ := Kd.at_int HR0.out x11_1 p119 q119; cases e119; replace p119 := eq_true p119; replace q119 := eq_true q119
       go_wp2_with (first | ((with_reducible refine gate_callee (f := 70) rfl ?_); refine gL_ (some 17) Try.func70 #[.int .i64 (rd l0 x11_1)] ?_; (with_reducible refine (chk_Abs.calls (rd l0 x11_1) t120 t121 _ A5.out).mono ?_); rintro e w' ⟨rfl, ⟨nd, rfl⟩⟩; refine ⟨_, rfl, ?_⟩))
       go_ret2
       exact ⟨by first | rfl | (simp; done) | (simp [*]; done), by repeat (first | exact Drawn0.refl _ | apply Drawn0.step)⟩
     ·rw [if_neg c4] at H; exact absurd H (by simp)
    ·rw [if_neg c3] at H; exact absurd H (by simp)
   ·rw [if_neg c2] at H; have c2b0 := decide_eq_false c2; clear c2; simp only [Option.some.injEq, Prod.mk.injEq] at H; obtain ⟨rfl, rfl⟩ := H
    go_wp2
    go_ret2
    exact ⟨by first | rfl | (simp; done) | (simp [*]; done), by repeat (first | exact Drawn0.refl _ | apply Drawn0.step)⟩

end Go.Proofs.Ythgoonohpfoagaa.X

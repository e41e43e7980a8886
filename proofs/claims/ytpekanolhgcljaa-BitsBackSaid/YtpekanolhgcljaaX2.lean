/- What the functions of this seat compute, and that the program's calls come to just that: written by this session's own program out of the translation; no condition. -/
import Derived.Test.YtpekanolhgcljaaX0
import Derived.Test.YtpekanolhgcljaaX1
namespace Go.Proofs.Ytpekanolhgcljaa.X
open Go.RowKit Go.Proofs.YtpekanolhgcljaaW.PrintWords Go.Proofs.YtpekanolhgcljaaW.PrintLast Go.Proofs.YtpekanolhgcljaaW.PrintMore
attribute [local go_sem] max2_int min2_int max_two min_two max_three min_three max_four min_four   -- for this text's walks alone
set_option linter.unusedVariables false
set_option linter.unusedSimpArgs false

/-! ### tabardref02_Letter: function 30 -/
def tabardref02_Letter.l0 : Nat → List Int → Int → Int → Option (Int)
 | 0, _, _, _ => none
 | k + 1, x0, x3, x4 => if x4 ≥ 0 then (if 0 ≤ x4 then (if x4 < (x0.length : Int) then (tabardref02_Letter.l0 k x0 (wrap64 ((wrap64 (2 * x3)) + (rd x0 x4))) (wrap64 (x4 - 1))) else (none)) else (none)) else (some x3)
def tabardref02_Letter.f (k : Nat) (l0 : List Int) : Option (Int) := tabardref02_Letter.l0 k l0 0 (wrap64 ((l0.length : Int) - 1))
theorem tabardref02_Letter.mono_l : ∀ k, (∀ y0 y1 y2, LeO (tabardref02_Letter.l0 k y0 y1 y2) (tabardref02_Letter.l0 (k + 1) y0 y1 y2))
 | 0 => fun _ _ _ r h => by simp [tabardref02_Letter.l0] at h
 | k + 1 => by
  have ih0 := tabardref02_Letter.mono_l k
  ·intro y0 y1 y2
   unfold tabardref02_Letter.l0
   repeat' first
   | (with_reducible exact ih0 _ _ _)
   | (with_reducible exact LeO.refl _)
   | (with_reducible exact LeO.none _)
   | (with_reducible refine LeO.ite ?_ ?_)
   | (with_reducible refine LeO.bind ?_ (fun _ => ?_))
   | exact ih0 _ _ _
   | exact LeO.none _
   | refine LeO.ite ?_ ?_
   | refine LeO.bind ?_ (fun _ => ?_)
theorem tabardref02_Letter.mono : ∀ a0 k, LeO (tabardref02_Letter.f k a0) (tabardref02_Letter.f (k + 1) a0) := by
 intro a0 k
 have ih0 := tabardref02_Letter.mono_l k
 unfold tabardref02_Letter.f
 repeat' first
   | (with_reducible exact ih0 _ _ _)
   | (with_reducible exact LeO.refl _)
   | (with_reducible exact LeO.none _)
   | (with_reducible refine LeO.ite ?_ ?_)
   | (with_reducible refine LeO.bind ?_ (fun _ => ?_))
   | exact ih0 _ _ _
   | exact LeO.none _
   | refine LeO.ite ?_ ?_
   | refine LeO.bind ?_ (fun _ => ?_)
set_option maxHeartbeats 8000000 in
set_option maxRecDepth 100000 in
theorem tabardref02_Letter.calls (k : Nat) (A0 : Option Addr) (c0 : Nat) (l0 : List Int) (r : Int) (w : World) (hr0 : Kd.C (Kd.int .i64) w A0 l0.length l0) (hc0 : l0.length ≤ c0) (h : tabardref02_Letter.f k l0 = some r) :
  Calls Try.prog 30 #[.slice A0 l0.length c0] w fun e w' => e = .returned (.int .i64 r) ∧ Drawn0 w w' := by
 have HR0 := Aside0.mk hr0
 have HC0 := Aside0.mk hc0
 clear hr0 hc0
 have H : (tabardref02_Letter.l0 k l0 0 (wrap64 ((l0.length : Int) - 1))) = some r := h
 clear h
 have H' := Aside0.mk H
 clear H
 go_enter Try.func30, Try.ntmps30
 go_wp2
 go_loopg [3, 4] k (fun kq v3 v4 w' => ∃ (x3_1 : Int) (x4_1 : Int), v3 = .int .i64 x3_1 ∧ v4 = .int .i64 x4_1 ∧ Aside0 (tabardref02_Letter.l0 kq l0 x3_1 x4_1 = some r) ∧ Aside0 (kq ≤ k) ∧ Drawn0 w w')
 case atStart => exact ⟨(0), (wrap64 ((l0.length : Int) - 1)), (by first | rfl | (simp; done) | (simp [*]; done)), (by first | rfl | (simp; done) | (simp [*]; done)), H', ⟨Nat.le_refl _⟩, by repeat (first | exact Drawn0.refl _ | apply Drawn0.step)⟩
 case round =>
  clear H'
  obtain ⟨x3_1, x4_1, rfl, rfl, HA, HK1, ⟨m1, rfl⟩⟩ := hrel
  cases gk with
  | zero => exact absurd HA.out (by simp [tabardref02_Letter.l0])
  | succ k1 =>
   have H := HA.out
   clear HA
   simp only [tabardref02_Letter.l0] at H
   by_cases c2 : x4_1 ≥ 0
   ·rw [if_pos c2] at H
    have c2b0 : decide (0 ≤ x4_1) = true := decide_eq_true c2
    clear c2
    by_cases c3 : 0 ≤ x4_1
    ·rw [if_pos c3] at H
     have c3b0 : decide (0 ≤ x4_1) = true := decide_eq_true c3
     clear c3
     by_cases c4 : x4_1 < (l0.length : Int)
     ·rw [if_pos c4] at H
      have c4b0 : decide (x4_1 < (l0.length : Int)) = true := decide_eq_true c4
      clear c4
      have H' := Aside0.mk H
      clear H
      have p105 : 0 ≤ (x4_1 : Int) := of_decide_eq_true aO
      have q105 : x4_1 < (l0.length : Int) := of_decide_eq_true aO
      obtain ⟨ad105, e105, hx105_0⟩ := Kd.at_int HR0.out x4_1 p105 q105
      cases e105
      replace p105 := eq_true p105
      replace q105 := eq_true q105
      go_wp2
      go_roundg k1
      case measure => have := HK1.out; omega
      case rel => exact ⟨(wrap64 ((wrap64 (2 * x3_1)) + (rd l0 x4_1))), (wrap64 (x4_1 - 1)), (by first | rfl | (simp; done) | (simp [*]; done)), (by first | rfl | (simp; done) | (simp [*]; done)), H', ⟨by have := HK1.out; omega⟩, by repeat (first | exact Drawn0.refl _ | apply Drawn0.step)⟩
     ·rw [if_neg c4] at H
      exact absurd H (by simp)
    ·rw [if_neg c3] at H
     exact absurd H (by simp)
   ·rw [if_neg c2] at H
    have c2b0 : decide (0 ≤ x4_1) = false := decide_eq_false c2
    clear c2
    obtain rfl := Option.some.inj H
    go_wp2
    go_ret
    exact ⟨by first | rfl | (simp; done) | (simp [*]; done), by repeat (first | exact Drawn0.refl _ | apply Drawn0.step)⟩

/-! ### tabardref02_Insert: function 8 -/
def tabardref02_Insert.j0 : Nat → Int → Int → Int → Bool → Option (Int × Int)
 | 0, _, _, _, _ => none
 | k + 1, x0, x1, x2, x22 => if x22 = true then (some (0, 2)) else ((tabardref02_Digits.f k x0 5).bind fun t109 => ((some (([] : List Int) : List Int)).bind fun y112 => (if 0 ≤ x1 then (if x1 ≤ (t109.length : Int) then ((some (t109.take (x1 : Int).toNat : List Int)).bind fun y115 => (if y112.length + y115.length < 17592186044416 then ((some (y112 ++ y115 : List Int)).bind fun y119 => (if y119.length < 17592186044416 then ((some (y119 ++ [x2] : List Int)).bind fun y122 => ((some (t109.drop (x1 : Int).toNat : List Int)).bind fun y125 => (if y122.length + y125.length < 17592186044416 then ((tabardref02_Letter.f k (y122 ++ y125)).bind fun t132 => (some (t132, 0))) else (none)))) else (none))) else (none))) else (none)) else (none))))
def tabardref02_Insert.f (k : Nat) (a0 : Int) (a1 : Int) (a2 : Int) : Option (Int × Int) := (tabardref02_below.f a0 32).bind fun t106 => (if t106 = true then ((tabardref02_below.f a1 6).bind fun t107 => (if t107 = true then ((tabardref02_below.f a2 2).bind fun t108 => (tabardref02_Insert.j0 k a0 a1 a2 (!t108))) else (tabardref02_Insert.j0 k a0 a1 a2 true))) else (tabardref02_Insert.j0 k a0 a1 a2 true))
theorem tabardref02_Insert.mono_l : ∀ k, (∀ y0 y1 y2 y3, LeO (tabardref02_Insert.j0 k y0 y1 y2 y3) (tabardref02_Insert.j0 (k + 1) y0 y1 y2 y3))
 | 0 => fun _ _ _ _ r h => by simp [tabardref02_Insert.j0] at h
 | k + 1 => by
  have ih0 := tabardref02_Insert.mono_l k
  ·intro y0 y1 y2 y3
   unfold tabardref02_Insert.j0
   repeat' first
   | (with_reducible exact ih0 _ _ _ _)
   | (with_reducible exact tabardref02_Digits.mono _ _ _)
   | (with_reducible exact tabardref02_Letter.mono _ _)
   | (with_reducible exact LeO.refl _)
   | (with_reducible exact LeO.none _)
   | (with_reducible refine LeO.ite ?_ ?_)
   | (with_reducible refine LeO.bind ?_ (fun _ => ?_))
   | exact ih0 _ _ _ _
   | exact tabardref02_Digits.mono _ _ _
   | exact tabardref02_Letter.mono _ _
   | exact LeO.none _
   | refine LeO.ite ?_ ?_
   | refine LeO.bind ?_ (fun _ => ?_)
theorem tabardref02_Insert.mono : ∀ a0 a1 a2 k, LeO (tabardref02_Insert.f k a0 a1 a2) (tabardref02_Insert.f (k + 1) a0 a1 a2) := by
 intro a0 a1 a2 k
 have ih0 := tabardref02_Insert.mono_l k
 unfold tabardref02_Insert.f
 repeat' first
   | (with_reducible exact ih0 _ _ _ _)
   | (with_reducible exact tabardref02_Digits.mono _ _ _)
   | (with_reducible exact tabardref02_Letter.mono _ _)
   | (with_reducible exact LeO.refl _)
   | (with_reducible exact LeO.none _)
   | (with_reducible refine LeO.ite ?_ ?_)
   | (with_reducible refine LeO.bind ?_ (fun _ => ?_))
   | exact ih0 _ _ _ _
   | exact tabardref02_Digits.mono _ _ _
   | exact tabardref02_Letter.mono _ _
   | exact LeO.none _
   | refine LeO.ite ?_ ?_
   | refine LeO.bind ?_ (fun _ => ?_)
set_option maxHeartbeats 8000000 in
set_option maxRecDepth 100000 in
theorem tabardref02_Insert.calls (k : Nat) (a0 : Int) (a1 : Int) (a2 : Int) (r1 : Int) (r2 : Int) (w : World) (h : tabardref02_Insert.f k a0 a1 a2 = some (r1, r2)) :
  Calls Try.prog 8 #[.int .i64 a0, .int .i64 a1, .int .i64 a2] w fun e w' => e = .returned (.tuple #[.int .i64 r1, .int .i64 r2]) ∧ Below w.heap.size w w' := by
 have HB := Aside0.mk (Below.refl w.heap.size w)
 have H : ((tabardref02_below.f a0 32).bind fun t106 => (if t106 = true then ((tabardref02_below.f a1 6).bind fun t107 => (if t107 = true then ((tabardref02_below.f a2 2).bind fun t108 => (tabardref02_Insert.j0 k a0 a1 a2 (!t108))) else (tabardref02_Insert.j0 k a0 a1 a2 true))) else (tabardref02_Insert.j0 k a0 a1 a2 true))) = some (r1, r2) := h
 clear h
 have HC4 := Aside0.mk H
 clear H
 go_enter Try.func8, Try.ntmps8
 go_upto_region 1 with (fail)
 go_cut [22] (fun v22 wc => ∃ (kq : Nat) (x22_3 : Bool), v22 = .bool x22_3 ∧ Aside0 (tabardref02_Insert.j0 kq a0 a1 a2 x22_3 = some (r1, r2)) ∧ Aside0 (kq ≤ k) ∧ Aside0 (Below w.heap.size w wc))
 case first =>
  have H := HC4.out
  clear HC4
  replace H := Option.bind_eq_some_iff.mp H
  obtain ⟨t106, A50, H⟩ := H
  replace H : (if t106 = true then ((tabardref02_below.f a1 6).bind fun t107 => (if t107 = true then ((tabardref02_below.f a2 2).bind fun t108 => (tabardref02_Insert.j0 k a0 a1 a2 (!t108))) else (tabardref02_Insert.j0 k a0 a1 a2 true))) else (tabardref02_Insert.j0 k a0 a1 a2 true)) = some (r1, r2) := H
  have A5 := Aside0.mk A50
  clear A50
  by_cases c6 : t106 = true
  ·subst c6
   have H1 : ((tabardref02_below.f a1 6).bind fun t107 => (if t107 = true then ((tabardref02_below.f a2 2).bind fun t108 => (tabardref02_Insert.j0 k a0 a1 a2 (!t108))) else (tabardref02_Insert.j0 k a0 a1 a2 true))) = some (r1, r2) := by rw [if_pos rfl] at H; exact H
   clear H
   have H := H1
   clear H1
   replace H := Option.bind_eq_some_iff.mp H
   obtain ⟨t107, A70, H⟩ := H
   replace H : (if t107 = true then ((tabardref02_below.f a2 2).bind fun t108 => (tabardref02_Insert.j0 k a0 a1 a2 (!t108))) else (tabardref02_Insert.j0 k a0 a1 a2 true)) = some (r1, r2) := H
   have A7 := Aside0.mk A70
   clear A70
   by_cases c8 : t107 = true
   ·subst c8
    have H1 : ((tabardref02_below.f a2 2).bind fun t108 => (tabardref02_Insert.j0 k a0 a1 a2 (!t108))) = some (r1, r2) := by rw [if_pos rfl] at H; exact H
    clear H
    have H := H1
    clear H1
    replace H := Option.bind_eq_some_iff.mp H
    obtain ⟨t108, A90, H⟩ := H
    replace H : (tabardref02_Insert.j0 k a0 a1 a2 (!t108)) = some (r1, r2) := H
    have A9 := Aside0.mk A90
    clear A90
    have H' := Aside0.mk H
    clear H
    go_wp2_with (first | ((with_reducible refine gate_callee (f := 28) rfl ?_); refine goesL_ (some 11) rfl rfl Try.func28 (by kernel_rfl) rfl #[.int .i64 a0, .int .i64 32] rfl mO ?_; (with_reducible refine (tabardref02_below.calls a0 32 true _ A5.out).mono ?_); rintro e w' ⟨rfl, ⟨nd, rfl⟩⟩; refine ⟨_, rfl, ?_⟩) | (go_at_call 28; (with_reducible refine (tabardref02_below.calls a1 6 true _ A7.out).mono ?_); rintro e w' ⟨rfl, ⟨nd, rfl⟩⟩) | (go_at_call 28; (with_reducible refine (tabardref02_below.calls a2 2 t108 _ A9.out).mono ?_); rintro e w' ⟨rfl, ⟨nd, rfl⟩⟩))
    go_meet
    case rel => exact ⟨_, (!t108), (by first | rfl | (simp; done) | (simp [*]; done)), H', ⟨by first | omega | exact Nat.le_refl _⟩, ⟨bO HB.out⟩⟩
   ·replace c8 := Bool.eq_false_iff.mpr c8
    subst c8
    have H1 : (tabardref02_Insert.j0 k a0 a1 a2 true) = some (r1, r2) := by rw [if_neg (show ¬ (false = true) by decide)] at H; exact H
    clear H
    have H := H1
    clear H1
    have H' := Aside0.mk H
    clear H
    go_wp2_with (first | ((with_reducible refine gate_callee (f := 28) rfl ?_); refine goesL_ (some 11) rfl rfl Try.func28 (by kernel_rfl) rfl #[.int .i64 a0, .int .i64 32] rfl mO ?_; (with_reducible refine (tabardref02_below.calls a0 32 true _ A5.out).mono ?_); rintro e w' ⟨rfl, ⟨nd, rfl⟩⟩; refine ⟨_, rfl, ?_⟩) | (go_at_call 28; (with_reducible refine (tabardref02_below.calls a1 6 false _ A7.out).mono ?_); rintro e w' ⟨rfl, ⟨nd, rfl⟩⟩))
    go_meet
    case rel => exact ⟨_, (true), (by first | rfl | (simp; done) | (simp [*]; done)), H', ⟨by first | omega | exact Nat.le_refl _⟩, ⟨bO HB.out⟩⟩
  ·replace c6 := Bool.eq_false_iff.mpr c6
   subst c6
   have H1 : (tabardref02_Insert.j0 k a0 a1 a2 true) = some (r1, r2) := by rw [if_neg (show ¬ (false = true) by decide)] at H; exact H
   clear H
   have H := H1
   clear H1
   have H' := Aside0.mk H
   clear H
   go_wp2_with (first | ((with_reducible refine gate_callee (f := 28) rfl ?_); refine goesL_ (some 11) rfl rfl Try.func28 (by kernel_rfl) rfl #[.int .i64 a0, .int .i64 32] rfl mO ?_; (with_reducible refine (tabardref02_below.calls a0 32 false _ A5.out).mono ?_); rintro e w' ⟨rfl, ⟨nd, rfl⟩⟩; refine ⟨_, rfl, ?_⟩))
   go_meet
   case rel => exact ⟨_, (true), (by first | rfl | (simp; done) | (simp [*]; done)), H', ⟨by first | omega | exact Nat.le_refl _⟩, ⟨bO HB.out⟩⟩
 case rest =>
  clear HC4
  try clear c2
  try clear p2
  try clear c6
  try clear c8
  obtain ⟨kq, x22_3, rfl, HA, HJ3, HB⟩ := hcut
  cases kq with
  | zero => exact absurd HA.out (by simp [tabardref02_Insert.j0])
  | succ kj3 =>
   have H := HA.out
   clear HA
   simp only [tabardref02_Insert.j0] at H
   by_cases c10 : x22_3 = true
   ·subst c10
    have H1 : (some (0, 2)) = some (r1, r2) := by rw [if_pos rfl] at H; exact H
    clear H
    have H := H1
    clear H1
    simp only [Option.some.injEq, Prod.mk.injEq] at H
    obtain ⟨rfl, rfl⟩ := H
    go_wp2
    go_ret2
    exact ⟨by first | rfl | (simp [errW_none, errW_some] <;> rfl) | (simp [*, errW_none, errW_some] <;> rfl), bO HB.out⟩
   ·replace c10 := Bool.eq_false_iff.mpr c10
    subst c10
    have H1 : ((tabardref02_Digits.f kj3 a0 5).bind fun t109 => ((some (([] : List Int) : List Int)).bind fun y112 => (if 0 ≤ a1 then (if a1 ≤ (t109.length : Int) then ((some (t109.take (a1 : Int).toNat : List Int)).bind fun y115 => (if y112.length + y115.length < 17592186044416 then ((some (y112 ++ y115 : List Int)).bind fun y119 => (if y119.length < 17592186044416 then ((some (y119 ++ [a2] : List Int)).bind fun y122 => ((some (t109.drop (a1 : Int).toNat : List Int)).bind fun y125 => (if y122.length + y125.length < 17592186044416 then ((tabardref02_Letter.f kj3 (y122 ++ y125)).bind fun t132 => (some (t132, 0))) else (none)))) else (none))) else (none))) else (none)) else (none)))) = some (r1, r2) := by rw [if_neg (show ¬ (false = true) by decide)] at H; exact H
    clear H
    have H := H1
    clear H1
    replace H := Option.bind_eq_some_iff.mp H
    obtain ⟨t109, A110, H⟩ := H
    replace H : ((some (([] : List Int) : List Int)).bind fun y112 => (if 0 ≤ a1 then (if a1 ≤ (t109.length : Int) then ((some (t109.take (a1 : Int).toNat : List Int)).bind fun y115 => (if y112.length + y115.length < 17592186044416 then ((some (y112 ++ y115 : List Int)).bind fun y119 => (if y119.length < 17592186044416 then ((some (y119 ++ [a2] : List Int)).bind fun y122 => ((some (t109.drop (a1 : Int).toNat : List Int)).bind fun y125 => (if y122.length + y125.length < 17592186044416 then ((tabardref02_Letter.f kj3 (y122 ++ y125)).bind fun t132 => (some (t132, 0))) else (none)))) else (none))) else (none))) else (none)) else (none))) = some (r1, r2) := H
    have A11 := Aside0.mk A110
    clear A110
    obtain ⟨y112, hy112⟩ : ∃ y_ : List Int, y_ = (([] : List Int)) := ⟨_, rfl⟩
    replace H : (if 0 ≤ a1 then (if a1 ≤ (t109.length : Int) then ((some (t109.take (a1 : Int).toNat : List Int)).bind fun y115 => (if y112.length + y115.length < 17592186044416 then ((some (y112 ++ y115 : List Int)).bind fun y119 => (if y119.length < 17592186044416 then ((some (y119 ++ [a2] : List Int)).bind fun y122 => ((some (t109.drop (a1 : Int).toNat : List Int)).bind fun y125 => (if y122.length + y125.length < 17592186044416 then ((tabardref02_Letter.f kj3 (y122 ++ y125)).bind fun t132 => (some (t132, 0))) else (none)))) else (none))) else (none))) else (none)) else (none)) = some (r1, r2) := by first | (rw [hy112]; with_reducible exact H) | (have H2_ := (Option.bind_some _ _).symm.trans H; rw [hy112]; with_reducible exact H2_) | (have H2_ := (Option.bind_some _ _).symm.trans H; with_reducible exact H2_) | with_reducible exact H | (rw [hy112]; exact H) | exact H
    have Ny112 := Aside0.mk hy112
    clear hy112
    by_cases c12 : 0 ≤ a1
    ·rw [if_pos c12] at H
     have c12b0 := eq_true c12
     have c12b1 : decide (0 ≤ a1) = true := decide_eq_true c12
     clear c12
     by_cases c13 : a1 ≤ (t109.length : Int)
     ·rw [if_pos c13] at H
      have c13b0 := eq_true c13
      have c13b1 : decide (a1 ≤ (t109.length : Int)) = true := decide_eq_true c13
      clear c13
      obtain ⟨y115, hy115⟩ : ∃ y_ : List Int, y_ = (t109.take (a1 : Int).toNat) := ⟨_, rfl⟩
      replace H : (if y112.length + y115.length < 17592186044416 then ((some (y112 ++ y115 : List Int)).bind fun y119 => (if y119.length < 17592186044416 then ((some (y119 ++ [a2] : List Int)).bind fun y122 => ((some (t109.drop (a1 : Int).toNat : List Int)).bind fun y125 => (if y122.length + y125.length < 17592186044416 then ((tabardref02_Letter.f kj3 (y122 ++ y125)).bind fun t132 => (some (t132, 0))) else (none)))) else (none))) else (none)) = some (r1, r2) := by first | (rw [hy115]; with_reducible exact H) | (have H2_ := (Option.bind_some _ _).symm.trans H; rw [hy115]; with_reducible exact H2_) | (have H2_ := (Option.bind_some _ _).symm.trans H; with_reducible exact H2_) | with_reducible exact H | (rw [hy115]; exact H) | exact H
      have Ny115 := Aside0.mk hy115
      clear hy115
      by_cases c14 : y112.length + y115.length < 17592186044416
      ·rw [if_pos c14] at H
       have LMc14 := Aside0.mk c14
       clear c14
       obtain ⟨y119, hy119⟩ : ∃ y_ : List Int, y_ = (y112 ++ y115) := ⟨_, rfl⟩
       replace H : (if y119.length < 17592186044416 then ((some (y119 ++ [a2] : List Int)).bind fun y122 => ((some (t109.drop (a1 : Int).toNat : List Int)).bind fun y125 => (if y122.length + y125.length < 17592186044416 then ((tabardref02_Letter.f kj3 (y122 ++ y125)).bind fun t132 => (some (t132, 0))) else (none)))) else (none)) = some (r1, r2) := by first | (rw [hy119]; with_reducible exact H) | (have H2_ := (Option.bind_some _ _).symm.trans H; rw [hy119]; with_reducible exact H2_) | (have H2_ := (Option.bind_some _ _).symm.trans H; with_reducible exact H2_) | with_reducible exact H | (rw [hy119]; exact H) | exact H
       have Ny119 := Aside0.mk hy119
       clear hy119
       by_cases c15 : y119.length < 17592186044416
       ·rw [if_pos c15] at H
        have LMc15 := Aside0.mk c15
        clear c15
        obtain ⟨y122, hy122⟩ : ∃ y_ : List Int, y_ = (y119 ++ [a2]) := ⟨_, rfl⟩
        replace H : ((some (t109.drop (a1 : Int).toNat : List Int)).bind fun y125 => (if y122.length + y125.length < 17592186044416 then ((tabardref02_Letter.f kj3 (y122 ++ y125)).bind fun t132 => (some (t132, 0))) else (none))) = some (r1, r2) := by first | (rw [hy122]; with_reducible exact H) | (have H2_ := (Option.bind_some _ _).symm.trans H; rw [hy122]; with_reducible exact H2_) | (have H2_ := (Option.bind_some _ _).symm.trans H; with_reducible exact H2_) | with_reducible exact H | (rw [hy122]; exact H) | exact H
        have Ny122 := Aside0.mk hy122
        clear hy122
        have c16b0 := eq_true (of_decide_eq_true aO : 0 ≤ a1)
        have c17b0 := eq_true (of_decide_eq_true aO : a1 ≤ (t109.length : Int))
        obtain ⟨y125, hy125⟩ : ∃ y_ : List Int, y_ = (t109.drop (a1 : Int).toNat) := ⟨_, rfl⟩
        replace H : (if y122.length + y125.length < 17592186044416 then ((tabardref02_Letter.f kj3 (y122 ++ y125)).bind fun t132 => (some (t132, 0))) else (none)) = some (r1, r2) := by first | (rw [hy125]; with_reducible exact H) | (have H2_ := (Option.bind_some _ _).symm.trans H; rw [hy125]; with_reducible exact H2_) | (have H2_ := (Option.bind_some _ _).symm.trans H; with_reducible exact H2_) | with_reducible exact H | (rw [hy125]; exact H) | exact H
        have Ny125 := Aside0.mk hy125
        clear hy125
        by_cases c18 : y122.length + y125.length < 17592186044416
        ·rw [if_pos c18] at H
         have LMc18 := Aside0.mk c18
         clear c18
         obtain ⟨y129, hy129⟩ : ∃ y_ : List Int, y_ = (y122 ++ y125) := ⟨_, rfl⟩
         replace H : ((tabardref02_Letter.f kj3 y129).bind fun t132 => (some (t132, 0))) = some (r1, r2) := by first | (rw [hy129]; with_reducible exact H) | (have H2_ := (Option.bind_some _ _).symm.trans H; rw [hy129]; with_reducible exact H2_) | (have H2_ := (Option.bind_some _ _).symm.trans H; with_reducible exact H2_) | with_reducible exact H | (rw [hy129]; exact H) | exact H
         have Ny129 := Aside0.mk hy129
         clear hy129
         replace H := Option.bind_eq_some_iff.mp H
         obtain ⟨t132, A190, H⟩ := H
         replace H : (some (t132, 0)) = some (r1, r2) := H
         have A19 := Aside0.mk A190
         clear A190
         simp only [Option.some.injEq, Prod.mk.injEq] at H
         obtain ⟨rfl, rfl⟩ := H
         go_wp2_with (first | ((with_reducible refine gate_callee (f := 29) rfl ?_); refine goesL_ (some 24) rfl rfl Try.func29 (by kernel_rfl) rfl #[.int .i64 a0, .int .i64 5] rfl mO ?_; (with_reducible refine (tabardref02_Digits.calls kj3 a0 5 t109 _ A11.out).mono ?_); rintro e w20 ⟨v110, rfl, ho0, hb⟩; refine ⟨_, rfl, ?_⟩; have n0_ := Aside0.mk (Kd.R_lower ho0 (below_size (bO HB.out))); have n1_ := Aside0.mk (below_step (bO HB.out) hb); clear HB; have HO111 := n0_; have HB := n1_; clear n0_ n1_; (try clear hb); (try clear hb2); (try clear hk); (try clear hi); (try clear ho0)) | ((with_reducible refine gate_dst (N := 25) rfl ?_); refine Kd.R_lit (Kd.int .i64) _ 3 ?hg (N := 25) ?hd (xs := ([] : List Int)) (inner := []) (ok := fun _ => True) (okp := fun _ => True) ?hr ?hp (fun _ hk => hk) trivial (Below.refl _ _) (Nat.le_refl _) (by simp) ?_; (case hd => rfl); (case hg => rfl); (case hr => first | (go_simp; done) | (go_simp; rfl)); (case hp => exact (Reps.none _ _)); intro v113 w21 ho22 hb hg_ hnew_; clear hg_ hnew_; (first | rw [← Ny112.out] at ho22 | (simp only [Int.reduceToNat] at ho22; rw [← Ny112.out] at ho22)); have n0_ := Aside0.mk (Kd.R_elder' (rO HO111.out) (Kd.R_base ho22) hb); have n1_ := Aside0.mk (Kd.R_lower (Kd.R_new' ho22 (Kd.R_lt (rO HO111.out))) (below_size (bO HB.out))); have n2_ := Aside0.mk (below_step (bO HB.out) hb); clear HO111; clear HB; have HO111 := n0_; have HO114 := n1_; have HB := n2_; clear n0_ n1_ n2_; clear hb ho22; obtain ⟨Ao24, co24, eo24⟩ := Kd.R_slice HO111.out; subst eo24; have q23 : (a1 : Int) ≤ ((t109.length : Int) : Int) := of_decide_eq_true aO; obtain ⟨i023, hi023, _, hsz23, _⟩ := info_parts info3; have hroom23 : t109.length ≤ co24 := (Kd.R_reads' HO111.out).2.1; have hC23 : Kd.C (Kd.int .i64) _ Ao24 t109.length t109 := (Kd.R_reads' HO111.out).2.2; have hcut23 := cut_to (P := Try.prog) 32 3 .i64 Try.underlying32 hi023 Ao24 t109.length co24 a1 (of_decide_eq_true aO) q23 hroom23; have hr23 := Kd.C_take (m := (a1 : Int).toNat) hC23 (by omega); have hy23 : y115.length = (a1 : Int).toNat := (by rw [Ny115.out, List.length_take]; omega); rw [← Ny115.out] at hr23; rw [← hy23] at hcut23; have HR118 := Aside0.mk hr23; have HC118 := Aside0.mk (show y115.length ≤ co24 from by omega); clear hr23 hC23 hroom23 hi023 hsz23; have KY23 := Aside0.mk hy23; clear hy23; have KL23 := Aside0.mk (show (a1 : Int).toNat ≤ t109.length from by omega); replace q23 := eq_true q23) | ((with_reducible refine gate_builtin (b := .append) (xs := #[.tmp 25, .tmp 28]) rfl ?_); at_builtin; refine Kd.R_append_rows (Kd.int .i64) (w0 := w) w.heap.size rfl (.tmp 25) (.tmp 28) 32 3 (.int .i64 0) 8 rfl Try.underlying32 info3 rfl (by decide) (by omega) v113 y112 y115 _ _ _ (fun k_ => some k_ ≠ (.slice Ao24 t109.length co24 : Value).ownBlock) (fun _ => False) rfl rfl ?aO ?aR (fun _ _ h => h) (fun _ h => h.elim) ?aF ?aB ?aS ?aL ?_; (case aR => repeat (first | exact (by repeat (first | (with_reducible exact HR118.out) | (with_reducible refine Kd.C_alloc ?_ _) | (with_reducible refine Kd.C_drewN ?_ _) | (with_reducible refine Kd.C_drew ?_) | exact HR118.out)) | (with_reducible refine Kd.C_alloc ?_ _) | (with_reducible refine Kd.C_drewN ?_ _) | (with_reducible refine Kd.C_drew ?_))); (case aB => exact (bO HB.out)); (case aF => exact (fun k_ hk => Kd.fresh' (Kd.R_lt (rO HO111.out)) k_ hk)); (case aO => exact (by (with_reducible repeat (first | apply Kd.R_alloc | apply Kd.R_drewN | apply Kd.R_drew)); exact Kd.R_mono HO114.out (fun _ hk => hk.2))); (case aS => exact (below_size (bO HB.out))); (case aL => have := LMc14.out; omega); intro v120 w25 ho hb hg hat; rw [← Ny119.out] at ho; have n0_ := Aside0.mk (Kd.R_after (ok := (fun _ => True)) (rO HO111.out) hg hat); have n1_ := Aside0.mk (hb); have n2_ := Aside0.mk ((show Kd.C (Kd.int .i64) w25 Ao24 y115.length y115 from by rw [Ny115.out]; exact Kd.C_take (m := (a1 : Int).toNat) ((Kd.R_reads' (Kd.R_after (ok := (fun _ => True)) (rO HO111.out) hg hat)).2.2) KL23.out)); have n3_ := Aside0.mk (ho); clear HO111; clear HB; clear HR118; clear HO114; have HO111 := n0_; have HB := n1_; have HR118 := n2_; have HO121 := n3_; clear n0_ n1_ n2_ n3_; clear ho hb hg hat) | ((with_reducible refine gate_builtin (b := .append) (xs := #[.tmp 30, .tmp 32]) rfl ?_); at_builtin; refine Kd.R_append (Kd.int .i64) (w0 := w) w.heap.size rfl (.tmp 30) (.tmp 32) 32 3 (.int .i64 0) 8 rfl Try.underlying32 info3 rfl (by decide) (by omega) v120 y119 a2 [.int .i64 a2] (fun k_ => some k_ ≠ (.slice Ao24 t109.length co24 : Value).ownBlock) (fun _ => False) rfl rfl ?aP (fun _ hk => hk.elim) ?aF ?aO ?aB ?aS ?aL ?_; (case aP => exact rfl); (case aB => exact (bO HB.out)); (case aF => exact (fun k_ hk => Kd.fresh' (Kd.R_lt (rO HO111.out)) k_ hk)); (case aO => exact (rO HO121.out)); (case aS => exact (below_size (bO HB.out))); (case aL => have := LMc15.out; omega); intro v123 w26 ho hb hg hat; rw [← Ny122.out] at ho; have n0_ := Aside0.mk (Kd.R_after (ok := (fun _ => True)) (rO HO111.out) hg hat); have n1_ := Aside0.mk (hb); have n2_ := Aside0.mk ((show Kd.C (Kd.int .i64) w26 Ao24 y115.length y115 from by rw [Ny115.out]; exact Kd.C_take (m := (a1 : Int).toNat) ((Kd.R_reads' (Kd.R_after (ok := (fun _ => True)) (rO HO111.out) hg hat)).2.2) KL23.out)); have n3_ := Aside0.mk (ho); clear HO111; clear HB; clear HR118; clear HO121; have HO111 := n0_; have HB := n1_; have HR118 := n2_; have HO124 := n3_; clear n0_ n1_ n2_ n3_; clear ho hb hg hat; have q27 : (a1 : Int) ≤ ((t109.length : Int) : Int) := of_decide_eq_true aO; obtain ⟨i027, hi027, _, hsz27, _⟩ := info_parts info3; have hroom27 : t109.length ≤ co24 := (Kd.R_reads' HO111.out).2.1; have hC27 : Kd.C (Kd.int .i64) _ Ao24 t109.length t109 := (Kd.R_reads' HO111.out).2.2; have q027 : (0 : Int) ≤ (a1 : Int) := of_decide_eq_true aO; have hcut27 := cut_from (P := Try.prog) 32 3 .i64 Try.underlying32 hi027 1 hsz27 Ao24 t109.length co24 a1 q027 q27; have hr27 := Kd.C_drop (m := (a1 : Int).toNat) (c := co24) hC27 (by omega) hroom27; obtain ⟨A27, hA27⟩ : ∃ A1, A1 = (if co24 = (a1 : Int).toNat then Ao24 else (Ao24 : Option Addr).map (·.add ((a1 : Int).toNat * 1))) := ⟨_, rfl⟩; obtain ⟨c27, hc27⟩ : ∃ c1, c1 = co24 - (a1 : Int).toNat := ⟨_, rfl⟩; have hy27 : y125.length = t109.length - (a1 : Int).toNat := (by rw [Ny125.out, List.length_drop] <;> omega); rw [show (t109).drop (a1 : Int).toNat = y125 from Ny125.out.symm] at hr27; replace hr27 : Kd.C (Kd.int .i64) _ A27 y125.length y125 := (by rw [hA27]; exact hr27); rw [← hy27, ← hA27, ← hc27] at hcut27; have HR128 := Aside0.mk hr27; have HC128 := Aside0.mk (show y125.length ≤ c27 from by rw [hy27, hc27]; exact Nat.sub_le_sub_right hroom27 _); clear hr27 hC27 hroom27 hi027 hsz27 hc27; have KY27 := Aside0.mk hy27; have KA27 := Aside0.mk hA27; clear hy27 hA27; have KL27 := Aside0.mk (show (a1 : Int).toNat ≤ t109.length from by omega); replace q27 := eq_true q27) | ((with_reducible refine gate_builtin (b := .append) (xs := #[.tmp 34, .tmp 37]) rfl ?_); at_builtin; refine Kd.R_append_rows (Kd.int .i64) (w0 := w) w.heap.size rfl (.tmp 34) (.tmp 37) 32 3 (.int .i64 0) 8 rfl Try.underlying32 info3 rfl (by decide) (by omega) v123 y122 y125 _ _ _ (fun k_ => some k_ ≠ (.slice Ao24 t109.length co24 : Value).ownBlock) (fun _ => False) rfl rfl ?aO ?aR (fun _ _ h => h) (fun _ h => h.elim) ?aF ?aB ?aS ?aL ?_; (case aR => repeat (first | exact (by repeat (first | (with_reducible exact HR128.out) | (with_reducible refine Kd.C_alloc ?_ _) | (with_reducible refine Kd.C_drewN ?_ _) | (with_reducible refine Kd.C_drew ?_) | exact HR128.out)) | (with_reducible refine Kd.C_alloc ?_ _) | (with_reducible refine Kd.C_drewN ?_ _) | (with_reducible refine Kd.C_drew ?_))); (case aB => exact (bO HB.out)); (case aF => exact (fun k_ hk => Kd.fresh' (Kd.R_lt (rO HO111.out)) k_ hk)); (case aO => exact (rO HO124.out)); (case aS => exact (below_size (bO HB.out))); (case aL => have := LMc18.out; omega); intro v130 w28 ho hb hg hat; rw [← Ny129.out] at ho; have n0_ := Aside0.mk (Kd.R_after (ok := (fun _ => True)) (rO HO111.out) hg hat); have n1_ := Aside0.mk (hb); have n2_ := Aside0.mk ((show Kd.C (Kd.int .i64) w28 Ao24 y115.length y115 from by rw [Ny115.out]; exact Kd.C_take (m := (a1 : Int).toNat) ((Kd.R_reads' (Kd.R_after (ok := (fun _ => True)) (rO HO111.out) hg hat)).2.2) KL23.out)); have n3_ := Aside0.mk ((show Kd.C (Kd.int .i64) w28 A27 y125.length y125 from by rw [Ny125.out, KA27.out]; exact Kd.C_drop (m := (a1 : Int).toNat) (c := co24) ((Kd.R_reads' (Kd.R_after (ok := (fun _ => True)) (rO HO111.out) hg hat)).2.2) KL27.out ((Kd.R_reads' (Kd.R_after (ok := (fun _ => True)) (rO HO111.out) hg hat)).2.1))); have n4_ := Aside0.mk (ho); clear HO111; clear HB; clear HR118; clear HR128; clear HO124; have HO111 := n0_; have HB := n1_; have HR118 := n2_; have HR128 := n3_; have HO131 := n4_; clear n0_ n1_ n2_ n3_ n4_; clear ho hb hg hat; obtain ⟨Ao29, co29, eo29⟩ := Kd.R_slice HO131.out; subst eo29) | ((with_reducible refine gate_callee (f := 30) rfl ?_); refine goesL_ (some 40) rfl rfl Try.func30 (by kernel_rfl) rfl #[.slice Ao29 y129.length co29] rfl mO ?_; (with_reducible refine (tabardref02_Letter.calls kj3 _ _ y129 t132 _ ?side1 ?side2 A19.out).mono ?_); (case side1 => exact cO (Kd.R_reads' HO131.out).2.2); (case side2 => exact (Kd.R_reads' HO131.out).2.1); rintro e w' ⟨rfl, ⟨nd, rfl⟩⟩; refine ⟨_, rfl, ?_⟩))
         go_ret2
         exact ⟨by first | rfl | (simp [errW_none, errW_some] <;> rfl) | (simp [*, errW_none, errW_some] <;> rfl), bO HB.out⟩
        ·rw [if_neg c18] at H
         exact absurd H (by simp)
       ·rw [if_neg c15] at H
        exact absurd H (by simp)
      ·rw [if_neg c14] at H
       exact absurd H (by simp)
     ·rw [if_neg c13] at H
      exact absurd H (by simp)
    ·rw [if_neg c12] at H
     exact absurd H (by simp)

end Go.Proofs.Ytpekanolhgcljaa.X

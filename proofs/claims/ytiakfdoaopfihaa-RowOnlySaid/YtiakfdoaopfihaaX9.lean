/- What the functions of this seat compute, and that the program's calls come to just that: written by this session's own program out of the translation; no condition. -/
import Derived.Test.YtiakfdoaopfihaaX0
namespace Go.Proofs.Ytiakfdoaopfihaa.X
open Go.RowKit Go.Proofs.YtiakfdoaopfihaaW.PrintWords Go.Proofs.YtiakfdoaopfihaaW.PrintLast Go.Proofs.YtiakfdoaopfihaaW.PrintMore
attribute [local go_sem] max2_int min2_int max_two min_two max_three min_three max_four min_four   -- for this text's walks alone
set_option linter.unusedVariables false
set_option linter.unusedSimpArgs false

/-! ### tabardref11_Tracks: function 30 -/
def tabardref11_Tracks.l0 : Nat → Int → Int → Int → Option (Int)
 | 0, _, _, _ => none
 | k + 1, x0, x3, x4 => if x4 ≤ 6 then (if x3 = x0 then (some x4) else (tabardref11_Tracks.l0 k x0 (wrap64 (x3 * 2)) (wrap64 (x4 + 1)))) else (some (-1))
def tabardref11_Tracks.f (k : Nat) (a0 : Int) : Option (Int) := tabardref11_Tracks.l0 k a0 1 0
theorem tabardref11_Tracks.mono_l : ∀ k, (∀ y0 y1 y2, LeO (tabardref11_Tracks.l0 k y0 y1 y2) (tabardref11_Tracks.l0 (k + 1) y0 y1 y2))
 | 0 => fun _ _ _ r h => by simp [tabardref11_Tracks.l0] at h
 | k + 1 => by
  have ih0 := tabardref11_Tracks.mono_l k
  ·intro y0 y1 y2
   unfold tabardref11_Tracks.l0
   repeat' first
   | (with_reducible exact ih0 _ _ _)
   | (with_reducible exact LeO.refl _)
   | (with_reducible exact LeO.none _)
   | (with_reducible refine LeO.ite ?_ ?_)
   | (with_reducible refine LeO.bind ?_ (fun _ => ?_))
   | exact ih0 _ _ _
   | exact LeO.none _
   | refine LeO.ite ?_ ?_
   | refine LeO.bind ?_ (fun _ => ?_)
theorem tabardref11_Tracks.mono : ∀ a0 k, LeO (tabardref11_Tracks.f k a0) (tabardref11_Tracks.f (k + 1) a0) := by
 intro a0 k
 have ih0 := tabardref11_Tracks.mono_l k
 unfold tabardref11_Tracks.f
 repeat' first
   | (with_reducible exact ih0 _ _ _)
   | (with_reducible exact LeO.refl _)
   | (with_reducible exact LeO.none _)
   | (with_reducible refine LeO.ite ?_ ?_)
   | (with_reducible refine LeO.bind ?_ (fun _ => ?_))
   | exact ih0 _ _ _
   | exact LeO.none _
   | refine LeO.ite ?_ ?_
   | refine LeO.bind ?_ (fun _ => ?_)
set_option maxHeartbeats 8000000 in
set_option maxRecDepth 100000 in
theorem tabardref11_Tracks.calls (k : Nat) (a0 : Int) (r : Int) (w : World) (h : tabardref11_Tracks.f k a0 = some r) :
  Calls Try.prog 30 #[.int .i64 a0] w fun e w' => e = .returned (.int .i64 r) ∧ Drawn0 w w' := by
 have H : (tabardref11_Tracks.l0 k a0 1 0) = some r := h
 clear h
 have H' := Aside0.mk H
 clear H
 go_enter Try.func30, Try.ntmps30
 go_wp2
 go_loopg [3, 4] k (fun kq v3 v4 w' => ∃ (x3_1 : Int) (x4_1 : Int), v3 = .int .i64 x3_1 ∧ v4 = .int .i64 x4_1 ∧ Aside0 (tabardref11_Tracks.l0 kq a0 x3_1 x4_1 = some r) ∧ Aside0 (kq ≤ k) ∧ Drawn0 w w')
 case atStart => exact ⟨(1), (0), (by first | rfl | (simp; done) | (simp [*]; done)), (by first | rfl | (simp; done) | (simp [*]; done)), H', ⟨Nat.le_refl _⟩, by repeat (first | exact Drawn0.refl _ | apply Drawn0.step)⟩
 case round =>
  clear H'
  obtain ⟨x3_1, x4_1, rfl, rfl, HA, HK1, ⟨m1, rfl⟩⟩ := hrel
  cases gk with
  | zero => exact absurd HA.out (by simp [tabardref11_Tracks.l0])
  | succ k1 =>
   have H := HA.out
   clear HA
   simp only [tabardref11_Tracks.l0] at H
   by_cases c2 : x4_1 ≤ 6
   ·rw [if_pos c2] at H
    have c2b0 : decide (x4_1 ≤ 6) = true := decide_eq_true c2
    clear c2
    by_cases c3 : x3_1 = a0
    ·rw [if_pos c3] at H
     have c3b0 : (x3_1 == a0) = true := beq_iff_eq.mpr c3
     have c3b1 : (x3_1 != a0) = false := bne_eq_false_iff_eq.mpr c3
     clear c3
     obtain rfl := Option.some.inj H
     go_wp2
     go_ret
     exact ⟨by first | rfl | (simp; done) | (simp [*]; done), by repeat (first | exact Drawn0.refl _ | apply Drawn0.step)⟩
    ·rw [if_neg c3] at H
     have c3b0 : (x3_1 == a0) = false := beq_eq_false_iff_ne.mpr c3
     have c3b1 : (x3_1 != a0) = true := bne_iff_ne.mpr c3
     have H' := Aside0.mk H
     clear H
     go_wp2
     go_roundg k1
     case measure => have := HK1.out; omega
     case rel => exact ⟨(wrap64 (x3_1 * 2)), (wrap64 (x4_1 + 1)), (by first | rfl | (simp; done) | (simp [*]; done)), (by first | rfl | (simp; done) | (simp [*]; done)), H', ⟨by have := HK1.out; omega⟩, by repeat (first | exact Drawn0.refl _ | apply Drawn0.step)⟩
   ·rw [if_neg c2] at H
    have c2b0 : decide (x4_1 ≤ 6) = false := decide_eq_false c2
    clear c2
    obtain rfl := Option.some.inj H
    go_wp2
    go_ret
    exact ⟨by first | rfl | (simp; done) | (simp [*]; done), by repeat (first | exact Drawn0.refl _ | apply Drawn0.step)⟩

/-! ### tabardref11_Row: function 24 -/
def tabardref11_Row.l0 : Nat → List Int → Int → Option (Bool)
 | 0, _, _ => none
 | k + 1, x0, x3 => if x3 < (x0.length : Int) then (if 0 ≤ x3 then (if (rd x0 x3) < 0 then (some false) else (tabardref11_Row.l0 k x0 (wrap64 (x3 + 1)))) else (none)) else (some true)
def tabardref11_Row.f (k : Nat) (l0 : List Int) : Option (Bool) := (tabardref11_Tracks.f k (l0.length : Int)).bind fun t167 => (if t167 < 0 then (some false) else (tabardref11_Row.l0 k l0 0))
theorem tabardref11_Row.mono_l : ∀ k, (∀ y0 y1, LeO (tabardref11_Row.l0 k y0 y1) (tabardref11_Row.l0 (k + 1) y0 y1))
 | 0 => fun _ _ r h => by simp [tabardref11_Row.l0] at h
 | k + 1 => by
  have ih0 := tabardref11_Row.mono_l k
  ·intro y0 y1
   unfold tabardref11_Row.l0
   repeat' first
   | (with_reducible exact ih0 _ _)
   | (with_reducible exact tabardref11_Tracks.mono _ _)
   | (with_reducible exact LeO.refl _)
   | (with_reducible exact LeO.none _)
   | (with_reducible refine LeO.ite ?_ ?_)
   | (with_reducible refine LeO.bind ?_ (fun _ => ?_))
   | exact ih0 _ _
   | exact tabardref11_Tracks.mono _ _
   | exact LeO.none _
   | refine LeO.ite ?_ ?_
   | refine LeO.bind ?_ (fun _ => ?_)
theorem tabardref11_Row.mono : ∀ a0 k, LeO (tabardref11_Row.f k a0) (tabardref11_Row.f (k + 1) a0) := by
 intro a0 k
 have ih0 := tabardref11_Row.mono_l k
 unfold tabardref11_Row.f
 repeat' first
   | (with_reducible exact ih0 _ _)
   | (with_reducible exact tabardref11_Tracks.mono _ _)
   | (with_reducible exact LeO.refl _)
   | (with_reducible exact LeO.none _)
   | (with_reducible refine LeO.ite ?_ ?_)
   | (with_reducible refine LeO.bind ?_ (fun _ => ?_))
   | exact ih0 _ _
   | exact tabardref11_Tracks.mono _ _
   | exact LeO.none _
   | refine LeO.ite ?_ ?_
   | refine LeO.bind ?_ (fun _ => ?_)
set_option maxHeartbeats 8000000 in
set_option maxRecDepth 100000 in
theorem tabardref11_Row.calls (k : Nat) (A0 : Option Addr) (c0 : Nat) (l0 : List Int) (r : Bool) (w : World) (hr0 : Kd.C (Kd.int .i64) w A0 l0.length l0) (hc0 : l0.length ≤ c0) (h : tabardref11_Row.f k l0 = some r) :
  Calls Try.prog 24 #[.slice A0 l0.length c0] w fun e w' => e = .returned (.bool r) ∧ Drawn0 w w' := by
 have HR0 := Aside0.mk hr0
 have HC0 := Aside0.mk hc0
 clear hr0 hc0
 have H : ((tabardref11_Tracks.f k (l0.length : Int)).bind fun t167 => (if t167 < 0 then (some false) else (tabardref11_Row.l0 k l0 0))) = some r := h
 clear h
 replace H := Option.bind_eq_some_iff.mp H
 obtain ⟨t167, A20, H⟩ := H
 replace H : (if t167 < 0 then (some false) else (tabardref11_Row.l0 k l0 0)) = some r := H
 have A2 := Aside0.mk A20
 clear A20
 by_cases c3 : t167 < 0
 ·rw [if_pos c3] at H
  have c3b0 : decide (t167 < 0) = true := decide_eq_true c3
  clear c3
  obtain rfl := Option.some.inj H
  go_enter Try.func24, Try.ntmps24
  go_wp2_with (first | ((with_reducible refine gate_callee (f := 30) rfl ?_); refine goesL_ (some 6) rfl rfl Try.func30 (by kernel_rfl) rfl #[.int .i64 (l0.length : Int)] rfl mO ?_; (with_reducible refine (tabardref11_Tracks.calls k (l0.length : Int) t167 _ A2.out).mono ?_); rintro e w' ⟨rfl, ⟨nd, rfl⟩⟩; refine ⟨_, rfl, ?_⟩))
  go_ret
  exact ⟨by first | rfl | (simp; done) | (simp [*]; done), by repeat (first | exact Drawn0.refl _ | apply Drawn0.step)⟩
 ·rw [if_neg c3] at H
  have c3b0 : decide (t167 < 0) = false := decide_eq_false c3
  clear c3
  have H' := Aside0.mk H
  clear H
  go_enter Try.func24, Try.ntmps24
  go_wp2_with (first | ((with_reducible refine gate_callee (f := 30) rfl ?_); refine goesL_ (some 6) rfl rfl Try.func30 (by kernel_rfl) rfl #[.int .i64 (l0.length : Int)] rfl mO ?_; (with_reducible refine (tabardref11_Tracks.calls k (l0.length : Int) t167 _ A2.out).mono ?_); rintro e w' ⟨rfl, ⟨nd, rfl⟩⟩; refine ⟨_, rfl, ?_⟩))
  go_loopg [3] k (fun kq v3 w' => ∃ (x3_1 : Int), v3 = .int .i64 x3_1 ∧ Aside0 (tabardref11_Row.l0 kq l0 x3_1 = some r) ∧ Aside0 (kq ≤ k) ∧ Drawn0 w w')
  case atStart => exact ⟨(0), (by first | rfl | (simp; done) | (simp [*]; done)), H', ⟨Nat.le_refl _⟩, by repeat (first | exact Drawn0.refl _ | apply Drawn0.step)⟩
  case round =>
   clear H'
   try clear c2
   try clear p2
   try clear c3
   try clear c3b0
   obtain ⟨x3_1, rfl, HA, HK1, ⟨m1, rfl⟩⟩ := hrel
   cases gk with
   | zero => exact absurd HA.out (by simp [tabardref11_Row.l0])
   | succ k1 =>
    have H := HA.out
    clear HA
    simp only [tabardref11_Row.l0] at H
    by_cases c4 : x3_1 < (l0.length : Int)
    ·rw [if_pos c4] at H
     have c4b0 : decide (x3_1 < (l0.length : Int)) = true := decide_eq_true c4
     clear c4
     by_cases c5 : 0 ≤ x3_1
     ·rw [if_pos c5] at H
      have c5b0 : decide (0 ≤ x3_1) = true := decide_eq_true c5
      clear c5
      by_cases c6 : (rd l0 x3_1) < 0
      ·rw [if_pos c6] at H
       have c6b0 : decide ((rd l0 x3_1) < 0) = true := decide_eq_true c6
       clear c6
       obtain rfl := Option.some.inj H
       have p168 : 0 ≤ (x3_1 : Int) := of_decide_eq_true aO
       have q168 : x3_1 < (l0.length : Int) := of_decide_eq_true aO
       obtain ⟨ad168, e168, hx168_0⟩ := Kd.at_int HR0.out x3_1 p168 q168
       cases e168
       replace p168 := eq_true p168
       replace q168 := eq_true q168
       go_wp2
       go_ret
       exact ⟨by first | rfl | (simp; done) | (simp [*]; done), by repeat (first | exact Drawn0.refl _ | apply Drawn0.step)⟩
      ·rw [if_neg c6] at H
       have c6b0 : decide ((rd l0 x3_1) < 0) = false := decide_eq_false c6
       clear c6
       have H' := Aside0.mk H
       clear H
       have p168 : 0 ≤ (x3_1 : Int) := of_decide_eq_true aO
       have q168 : x3_1 < (l0.length : Int) := of_decide_eq_true aO
       obtain ⟨ad168, e168, hx168_0⟩ := Kd.at_int HR0.out x3_1 p168 q168
       cases e168
       replace p168 := eq_true p168
       replace q168 := eq_true q168
       go_wp2
       go_roundg k1
       case measure => have := HK1.out; omega
       case rel => exact ⟨(wrap64 (x3_1 + 1)), (by first | rfl | (simp; done) | (simp [*]; done)), H', ⟨by have := HK1.out; omega⟩, by repeat (first | exact Drawn0.refl _ | apply Drawn0.step)⟩
     ·rw [if_neg c5] at H
      exact absurd H (by simp)
    ·rw [if_neg c4] at H
     have c4b0 : decide (x3_1 < (l0.length : Int)) = false := decide_eq_false c4
     clear c4
     obtain rfl := Option.some.inj H
     go_wp2
     go_ret
     exact ⟨by first | rfl | (simp; done) | (simp [*]; done), by repeat (first | exact Drawn0.refl _ | apply Drawn0.step)⟩

/-! ### tabardref11_half: function 31 -/
def tabardref11_half.l0 : Nat → List Int → Int → List Int → Int → Int → Option (List Int)
 | 0, _, _, _, _, _ => none
 | k + 1, x0, x1, x5, x6, x7 => if x7 < x6 then (if 0 ≤ (wrap64 ((wrap64 (x1 * x6)) + x7)) then (if (wrap64 ((wrap64 (x1 * x6)) + x7)) < (x0.length : Int) then (if x5.length < 17592186044416 then (tabardref11_half.l0 k x0 x1 (x5 ++ [rd x0 (wrap64 ((wrap64 (x1 * x6)) + x7))]) x6 (wrap64 (x7 + 1))) else (none)) else (none)) else (none)) else (some x5)
def tabardref11_half.f (k : Nat) (l0 : List Int) (a1 : Int) : Option (List Int) := tabardref11_half.l0 k l0 a1 ([] : List Int) (wrap64 ((l0.length : Int) / 2)) 0
theorem tabardref11_half.mono_l : ∀ k, (∀ y0 y1 y2 y3 y4, LeO (tabardref11_half.l0 k y0 y1 y2 y3 y4) (tabardref11_half.l0 (k + 1) y0 y1 y2 y3 y4))
 | 0 => fun _ _ _ _ _ r h => by simp [tabardref11_half.l0] at h
 | k + 1 => by
  have ih0 := tabardref11_half.mono_l k
  ·intro y0 y1 y2 y3 y4
   unfold tabardref11_half.l0
   repeat' first
   | (with_reducible exact ih0 _ _ _ _ _)
   | (with_reducible exact LeO.refl _)
   | (with_reducible exact LeO.none _)
   | (with_reducible refine LeO.ite ?_ ?_)
   | (with_reducible refine LeO.bind ?_ (fun _ => ?_))
   | exact ih0 _ _ _ _ _
   | exact LeO.none _
   | refine LeO.ite ?_ ?_
   | refine LeO.bind ?_ (fun _ => ?_)
theorem tabardref11_half.mono : ∀ a0 a1 k, LeO (tabardref11_half.f k a0 a1) (tabardref11_half.f (k + 1) a0 a1) := by
 intro a0 a1 k
 have ih0 := tabardref11_half.mono_l k
 unfold tabardref11_half.f
 repeat' first
   | (with_reducible exact ih0 _ _ _ _ _)
   | (with_reducible exact LeO.refl _)
   | (with_reducible exact LeO.none _)
   | (with_reducible refine LeO.ite ?_ ?_)
   | (with_reducible refine LeO.bind ?_ (fun _ => ?_))
   | exact ih0 _ _ _ _ _
   | exact LeO.none _
   | refine LeO.ite ?_ ?_
   | refine LeO.bind ?_ (fun _ => ?_)
set_option maxHeartbeats 8000000 in
set_option maxRecDepth 100000 in
theorem tabardref11_half.calls (k : Nat) (A0 : Option Addr) (c0 : Nat) (l0 : List Int) (a1 : Int) (r : List Int) (w : World) (hr0 : Kd.C (Kd.int .i64) w A0 l0.length l0) (hc0 : l0.length ≤ c0) (h : tabardref11_half.f k l0 a1 = some r) :
  Calls Try.prog 31 #[.slice A0 l0.length c0, .int .i64 a1] w fun e w' => ∃ v0_ : Value, e = .returned (v0_) ∧ Kd.R (Kd.int .i64) 3 w' w.heap.size (fun _ => True) v0_ r ∧ Below w.heap.size w w' := by
 have HR0 := Aside0.mk hr0
 have HC0 := Aside0.mk hc0
 clear hr0 hc0
 have HB := Aside0.mk (Below.refl w.heap.size w)
 have H : (tabardref11_half.l0 k l0 a1 ([] : List Int) (wrap64 ((l0.length : Int) / 2)) 0) = some r := h
 clear h
 have H' := Aside0.mk H
 clear H
 go_enter Try.func31, Try.ntmps31
 go_wp2
 go_loopg [5, 7] k (fun kq v5 v7 w' => ∃ (x5_1 : List Int) (x7_1 : Int), v7 = .int .i64 x7_1 ∧ Aside0 (tabardref11_half.l0 kq l0 a1 x5_1 (wrap64 ((l0.length : Int) / 2)) x7_1 = some r) ∧ Aside0 (kq ≤ k) ∧ Aside0 (Kd.R (Kd.int .i64) 3 w' w.heap.size (fun _ => True) v5 x5_1) ∧ Aside0 (Below w.heap.size w w'))
 case atStart => exact ⟨(([] : List Int)), (0), (by first | rfl | (simp; done) | (simp [*]; done)), H', ⟨Nat.le_refl _⟩, ⟨by first | exact Kd.R_nil _ _ _ _ _ | exact Kd.N_nil _ _ _ _ _ | exact Kd.V_nil _ _ _ _ _ | exact Kd.Q_nil _ _ _ _ _ | exact Kd.S_nil _ _ _ _ _⟩, ⟨bO HB.out⟩⟩
 case round =>
  clear H'
  try clear p2
  obtain ⟨x5_1, x7_1, rfl, HA, HK1, HO_5, HB⟩ := hrel
  cases gk with
  | zero => exact absurd HA.out (by simp [tabardref11_half.l0])
  | succ k1 =>
   have H := HA.out
   clear HA
   simp only [tabardref11_half.l0] at H
   by_cases c3 : x7_1 < (wrap64 ((l0.length : Int) / 2))
   ·rw [if_pos c3] at H
    have c3b0 : decide (x7_1 < (wrap64 ((l0.length : Int) / 2))) = true := decide_eq_true c3
    clear c3
    obtain ⟨ji4, hji4⟩ : ∃ j_ : Int, (wrap64 ((wrap64 (a1 * (wrap64 ((l0.length : Int) / 2)))) + x7_1)) = j_ := ⟨_, rfl⟩
    replace H : (if 0 ≤ (ji4) then (if (ji4) < (l0.length : Int) then (if x5_1.length < 17592186044416 then (tabardref11_half.l0 k1 l0 a1 (x5_1 ++ [rd l0 (ji4)]) (wrap64 ((l0.length : Int) / 2)) (wrap64 (x7_1 + 1))) else (none)) else (none)) else (none)) = some r := by first | (rw [hji4] at H; exact H) | (simp only [hji4] at H ⊢; exact H)
    have hji4w : (IntKind.i64.wrap ((wrap64 (a1 * (wrap64 ((l0.length : Int) / 2)))) + x7_1)) = ji4 := (i64_w _).trans hji4
    by_cases c5 : 0 ≤ (ji4)
    ·rw [if_pos c5] at H
     have c5b0 : decide (0 ≤ (ji4)) = true := decide_eq_true c5
     clear c5
     by_cases c6 : (ji4) < (l0.length : Int)
     ·rw [if_pos c6] at H
      have c6b0 : decide ((ji4) < (l0.length : Int)) = true := decide_eq_true c6
      clear c6
      by_cases c7 : x5_1.length < 17592186044416
      ·rw [if_pos c7] at H
       have LMc7 := Aside0.mk c7
       clear c7
       obtain ⟨y170, hy170⟩ : ∃ y_ : List Int, y_ = (x5_1 ++ [rd l0 (ji4)]) := ⟨_, rfl⟩
       replace H : (tabardref11_half.l0 k1 l0 a1 y170 (wrap64 ((l0.length : Int) / 2)) (wrap64 (x7_1 + 1))) = some r := by first | (rw [hy170]; with_reducible exact H) | (have H2_ := (Option.bind_some _ _).symm.trans H; rw [hy170]; with_reducible exact H2_) | (have H2_ := (Option.bind_some _ _).symm.trans H; with_reducible exact H2_) | with_reducible exact H | (rw [hy170]; exact H) | exact H
       have Ny170 := Aside0.mk hy170
       clear hy170
       have H' := Aside0.mk H
       clear H
       have p169 : 0 ≤ ((ji4) : Int) := of_decide_eq_true aO
       have q169 : (ji4) < (l0.length : Int) := of_decide_eq_true aO
       obtain ⟨ad169, e169, hx169_0⟩ := Kd.at_int HR0.out (ji4) p169 q169
       cases e169
       replace hx169_0 := (HB.out.cell (World.block_lt_of_cell? w _ hx169_0)).trans hx169_0
       replace p169 := eq_true p169
       replace q169 := eq_true q169
       go_wp2_with (first | ((with_reducible refine gate_builtin (b := .append) (xs := #[.tmp 16, .tmp 25]) rfl ?_); at_builtin; refine Kd.R_append (Kd.int .i64) (w0 := w) w.heap.size rfl (.tmp 16) (.tmp 25) 22 3 (.int .i64 0) 8 rfl Try.underlying22 info3 rfl (by decide) (by omega) u5 x5_1 (rd l0 (ji4)) [.int .i64 (rd l0 (ji4))] (fun _ => True) (fun _ => False) rfl rfl ?aP (fun _ hk => hk.elim) ?aF ?aO ?aB ?aS ?aL ?_; (case aP => exact rfl); (case aB => exact (bO HB.out)); (case aF => exact (fun _ _ => trivial)); (case aO => exact (rO HO_5.out)); (case aS => exact (below_size (bO HB.out))); (case aL => have := LMc7.out; omega); intro v171 w8 ho hb hg hat; rw [← Ny170.out] at ho; have n0_ := Aside0.mk (hb); have n1_ := Aside0.mk (ho); clear HB; clear HO_5; have HB := n0_; have HO172 := n1_; clear n0_ n1_; clear ho hb hg hat))
       go_roundg k1
       case measure => have := HK1.out; omega
       case rel => exact ⟨(y170), (wrap64 (x7_1 + 1)), (by first | rfl | (simp; done) | (simp [*]; done)), H', ⟨by have := HK1.out; omega⟩, ⟨rO HO172.out⟩, ⟨bO HB.out⟩⟩
      ·rw [if_neg c7] at H
       exact absurd H (by simp)
     ·rw [if_neg c6] at H
      exact absurd H (by simp)
    ·rw [if_neg c5] at H
     exact absurd H (by simp)
   ·rw [if_neg c3] at H
    have c3b0 : decide (x7_1 < (wrap64 ((l0.length : Int) / 2))) = false := decide_eq_false c3
    clear c3
    obtain rfl := Option.some.inj H
    go_wp2
    go_ret
    exact ⟨_, by first | rfl | (simp [errW_none, errW_some] <;> rfl) | (simp [*, errW_none, errW_some] <;> rfl), rO HO_5.out, bO HB.out⟩

end Go.Proofs.Ytiakfdoaopfihaa.X

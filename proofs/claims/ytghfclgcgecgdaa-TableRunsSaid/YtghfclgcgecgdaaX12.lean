/- What the functions of this seat compute, and that the program's calls come to just that: written by this session's own program out of the translation; no condition. -/
import Derived.Test.YtghfclgcgecgdaaX0
import Derived.Test.YtghfclgcgecgdaaX1
namespace Go.Proofs.Ytghfclgcgecgdaa.X
open Go.RowKit Go.Proofs.YtghfclgcgecgdaaW.PrintWords Go.Proofs.YtghfclgcgecgdaaW.PrintLast Go.Proofs.YtghfclgcgecgdaaW.PrintMore
attribute [local go_sem] max2_int min2_int max_two min_two max_three min_three max_four min_four   -- for this text's walks alone
set_option linter.unusedVariables false
set_option linter.unusedSimpArgs false

attribute [local go_sem high] eqA58
/-! ### row_At: function 47 -/
def row_At.l0 : Nat → Int → List (S58) → Int → Int → Option (Int × Bool)
 | 0, _, _, _, _ => none
 | k + 1, x1, x8, x9, x10 => if x10 < x9 then (if 0 ≤ x10 then (if x10 < (x8.length : Int) then (if (Go.bits .and .i64 x1 ((rd_T58 x8 x10).f0)) = ((rd_T58 x8 x10).f1) then (some ((rd_T58 x8 x10).f2, true)) else (row_At.l0 k x1 x8 x9 (wrap64 (x10 + 1)))) else (none)) else (none)) else (some (0, false))
def row_At.f (k : Nat) (l0 : List (S58)) (a1 : Int) : Option (Int × Bool) := row_At.l0 k a1 l0 (l0.length : Int) 0
theorem row_At.mono_l : ∀ k, (∀ y0 y1 y2 y3, LeO (row_At.l0 k y0 y1 y2 y3) (row_At.l0 (k + 1) y0 y1 y2 y3))
 | 0 => fun _ _ _ _ r h => by simp [row_At.l0] at h
 | k + 1 => by
  have ih0 := row_At.mono_l k
  ·intro y0 y1 y2 y3
   unfold row_At.l0
   repeat' first
   | (with_reducible exact ih0 _ _ _ _)
   | (with_reducible exact LeO.refl _)
   | (with_reducible exact LeO.none _)
   | (with_reducible refine LeO.ite ?_ ?_)
   | (with_reducible refine LeO.bind ?_ (fun _ => ?_))
   | exact LeO.none _
   | refine LeO.ite ?_ ?_
   | refine LeO.bind ?_ (fun _ => ?_)
theorem row_At.mono : ∀ a0 a1 k, LeO (row_At.f k a0 a1) (row_At.f (k + 1) a0 a1) := by
 intro a0 a1 k; have ih0 := row_At.mono_l k
 unfold row_At.f
 repeat' first
   | (with_reducible exact ih0 _ _ _ _)
   | (with_reducible exact LeO.refl _)
   | (with_reducible exact LeO.none _)
   | (with_reducible refine LeO.ite ?_ ?_)
   | (with_reducible refine LeO.bind ?_ (fun _ => ?_))
   | exact LeO.none _
   | refine LeO.ite ?_ ?_
   | refine LeO.bind ?_ (fun _ => ?_)
set_option maxHeartbeats 8000000 in
set_option maxRecDepth 100000 in
theorem row_At.calls (k : Nat) (A0 : Option Addr) (c0 : Nat) (l0 : List (S58)) (a1 : Int) (r1 : Int) (r2 : Bool) (w : World) (hr0 : Kd.C k58 w A0 l0.length l0) (hc0 : l0.length ≤ c0) (h : row_At.f k l0 a1 = some (r1, r2)) :
  Calls Try.prog 47 #[.slice A0 l0.length c0, .int .i64 a1] w fun e w' => e = .returned (.tuple #[.int .i64 r1, .bool r2]) ∧ Below w.heap.size w w' := by
 have hu58 := Try.underlying58; have HR0 := Aside0.mk hr0; have HC0 := Aside0.mk hc0; clear hr0 hc0; have HB := Aside0.mk (Below.refl w.heap.size w); have H : (row_At.l0 k a1 l0 (l0.length : Int) 0) = some (r1, r2) := h; clear h; have H' := Aside0.mk H; clear H
 go_enter Try.func47, Try.ntmps47
 go_wp2
 go_loopg [10] k (fun kq v10 w' => ∃ (x10_1 : Int), v10 = .int .i64 x10_1 ∧ Aside0 (row_At.l0 kq a1 l0 (l0.length : Int) x10_1 = some (r1, r2)) ∧ Aside0 (kq ≤ k) ∧ Aside0 (Below w.heap.size w w'))
 case atStart => exact ⟨(0), (by first | rfl | (simp; done) | (simp [*]; done)), H', ⟨Nat.le_refl _⟩, ⟨bO HB.out⟩⟩
 case round =>
  clear H'
  try clear p2
  obtain ⟨x10_1, rfl, HA, HK1, HB⟩ := hrel; cases gk with
  | zero => exact absurd HA.out (by simp [row_At.l0])
  | succ k1 =>
   have H := HA.out; clear HA; simp only [row_At.l0] at H
   by_cases c3 : x10_1 < (l0.length : Int)
   ·rw [if_pos c3] at H; have c3b0 : decide (x10_1 < (l0.length : Int)) = true := decide_eq_true c3; clear c3
    by_cases c4 : 0 ≤ x10_1
    ·rw [if_pos c4] at H; have c4b0 : decide (0 ≤ x10_1) = true := decide_eq_true c4; clear c4
     by_cases c5 : x10_1 < (l0.length : Int)
     ·rw [if_pos c5] at H; have c5b0 : decide (x10_1 < (l0.length : Int)) = true := decide_eq_true c5; clear c5
      by_cases c6 : (Go.bits .and .i64 a1 ((rd_T58 l0 x10_1).f0)) = ((rd_T58 l0 x10_1).f1)
      ·rw [if_pos c6] at H; have c6b0 : ((Go.bits .and .i64 a1 ((rd_T58 l0 x10_1).f0)) == ((rd_T58 l0 x10_1).f1)) = true := beq_iff_eq.mpr c6; have c6b1 : ((Go.bits .and .i64 a1 ((rd_T58 l0 x10_1).f0)) != ((rd_T58 l0 x10_1).f1)) = false := bne_eq_false_iff_eq.mpr c6; clear c6; simp only [Option.some.injEq, Prod.mk.injEq] at H; obtain ⟨rfl, rfl⟩ := H; have p155 : 0 ≤ (x10_1 : Int) := of_decide_eq_true aO; have q155 : x10_1 < (l0.length : Int) := of_decide_eq_true aO; obtain ⟨ad155, e155, hx155_0, hx155_1, hx155_2⟩ := at_T58 HR0.out x10_1 p155 q155; cases e155; replace hx155_0 := (HB.out.cell (World.block_lt_of_cell? w _ hx155_0)).trans hx155_0; replace hx155_1 := (HB.out.cell (World.block_lt_of_cell? w _ hx155_1)).trans hx155_1; replace hx155_2 := (HB.out.cell (World.block_lt_of_cell? w _ hx155_2)).trans hx155_2; replace p155 := eq_true p155; replace q155 := eq_true q155
       go_wp2_with (first | ((with_reducible refine gate_dst (N := 7) rfl ?_); refine be_ (cs := #[.int .i64 0, .int .i64 0, .int .i64 0]) (t := 58) ?_; intro gb156 hg w7 hbox hb; have BK156 := Aside0.mk (hbox); have GW156 := gE hg (bO HB.out); have GE156 := gE hg (bO HB.out); replace HB := hS0 HB hb; clear hb hbox hg; obtain ⟨hcz8_0, hcz8_1, hcz8_2, hfz8_0, hfz8_1, hfz8_2⟩ := bF3 BK156.out))
       go_ret2
       exact ⟨eW, bS1 HB.out GE156.out⟩
      ·rw [if_neg c6] at H; have c6b0 : ((Go.bits .and .i64 a1 ((rd_T58 l0 x10_1).f0)) == ((rd_T58 l0 x10_1).f1)) = false := beq_eq_false_iff_ne.mpr c6; have c6b1 : ((Go.bits .and .i64 a1 ((rd_T58 l0 x10_1).f0)) != ((rd_T58 l0 x10_1).f1)) = true := bne_iff_ne.mpr c6; have H' := Aside0.mk H; clear H; have p155 : 0 ≤ (x10_1 : Int) := of_decide_eq_true aO; have q155 : x10_1 < (l0.length : Int) := of_decide_eq_true aO; obtain ⟨ad155, e155, hx155_0, hx155_1, hx155_2⟩ := at_T58 HR0.out x10_1 p155 q155; cases e155; replace hx155_0 := (HB.out.cell (World.block_lt_of_cell? w _ hx155_0)).trans hx155_0; replace hx155_1 := (HB.out.cell (World.block_lt_of_cell? w _ hx155_1)).trans hx155_1; replace hx155_2 := (HB.out.cell (World.block_lt_of_cell? w _ hx155_2)).trans hx155_2; replace p155 := eq_true p155; replace q155 := eq_true q155
       go_wp2_with (first | ((with_reducible refine gate_dst (N := 7) rfl ?_); refine be_ (cs := #[.int .i64 0, .int .i64 0, .int .i64 0]) (t := 58) ?_; intro gb156 hg w9 hbox hb; have BK156 := Aside0.mk (hbox); have GW156 := gE hg (bO HB.out); have GE156 := gE hg (bO HB.out); replace HB := hS0 HB hb; clear hb hbox hg; obtain ⟨hcz10_0, hcz10_1, hcz10_2, hfz10_0, hfz10_1, hfz10_2⟩ := bF3 BK156.out))
       go_roundg k1
       case measure => have := HK1.out; omega
       case rel => exact ⟨(wrap64 (x10_1 + 1)), (by first | rfl | (simp; done) | (simp [*]; done)), H', ⟨by have := HK1.out; omega⟩, ⟨bS1 HB.out GE156.out⟩⟩
     ·rw [if_neg c5] at H; exact absurd H (by simp)
    ·rw [if_neg c4] at H; exact absurd H (by simp)
   ·rw [if_neg c3] at H; have c3b0 : decide (x10_1 < (l0.length : Int)) = false := decide_eq_false c3; clear c3; simp only [Option.some.injEq, Prod.mk.injEq] at H; obtain ⟨rfl, rfl⟩ := H
    go_wp2
    go_ret2
    exact ⟨eW, bO HB.out⟩

/-! ### api_Cube: function 52 -/
def api_Cube.l0 : Nat → List (S58) → List (S58) → Int → Int → Option (Bool)
 | 0, _, _, _, _ => none
 | k + 1, x0, x1, x12, x13 => if x13 < x12 then (if 0 ≤ x13 then (if x13 < (x0.length : Int) then (if x13 < (x1.length : Int) then (if (!(((rd_T58 x0 x13).f0) == ((rd_T58 x1 x13).f0)) || (!(((rd_T58 x0 x13).f1) == ((rd_T58 x1 x13).f1)) || (!(((rd_T58 x0 x13).f2) == ((rd_T58 x1 x13).f2))))) = true then (some false) else (api_Cube.l0 k x0 x1 x12 (wrap64 (x13 + 1)))) else (none)) else (none)) else (none)) else (some true)
def api_Cube.f (k : Nat) (l0 : List (S58)) (l1 : List (S58)) : Option (Bool) := if (l0.length : Int) = (l1.length : Int) then (api_Cube.l0 k l0 l1 (l0.length : Int) 0) else (some false)
theorem api_Cube.mono_l : ∀ k, (∀ y0 y1 y2 y3, LeO (api_Cube.l0 k y0 y1 y2 y3) (api_Cube.l0 (k + 1) y0 y1 y2 y3))
 | 0 => fun _ _ _ _ r h => by simp [api_Cube.l0] at h
 | k + 1 => by
  have ih0 := api_Cube.mono_l k
  ·intro y0 y1 y2 y3
   unfold api_Cube.l0
   repeat' first
   | (with_reducible exact ih0 _ _ _ _)
   | (with_reducible exact LeO.refl _)
   | (with_reducible exact LeO.none _)
   | (with_reducible refine LeO.ite ?_ ?_)
   | (with_reducible refine LeO.bind ?_ (fun _ => ?_))
   | exact LeO.none _
   | refine LeO.ite ?_ ?_
   | refine LeO.bind ?_ (fun _ => ?_)
theorem api_Cube.mono : ∀ a0 a1 k, LeO (api_Cube.f k a0 a1) (api_Cube.f (k + 1) a0 a1) := by
 intro a0 a1 k; have ih0 := api_Cube.mono_l k
 unfold api_Cube.f
 repeat' first
   | (with_reducible exact ih0 _ _ _ _)
   | (with_reducible exact LeO.refl _)
   | (with_reducible exact LeO.none _)
   | (with_reducible refine LeO.ite ?_ ?_)
   | (with_reducible refine LeO.bind ?_ (fun _ => ?_))
   | exact LeO.none _
   | refine LeO.ite ?_ ?_
   | refine LeO.bind ?_ (fun _ => ?_)
set_option maxHeartbeats 8000000 in
set_option maxRecDepth 100000 in
theorem api_Cube.calls (k : Nat) (A0 : Option Addr) (c0 : Nat) (l0 : List (S58)) (A1 : Option Addr) (c1 : Nat) (l1 : List (S58)) (r : Bool) (w : World) (hr0 : Kd.C k58 w A0 l0.length l0) (hc0 : l0.length ≤ c0) (hr1 : Kd.C k58 w A1 l1.length l1) (hc1 : l1.length ≤ c1) (h : api_Cube.f k l0 l1 = some r) :
  Calls Try.prog 52 #[.slice A0 l0.length c0, .slice A1 l1.length c1] w fun e w' => e = .returned (.bool r) ∧ Drawn0 w w' := by
 have hu58 := Try.underlying58; have HR0 := Aside0.mk hr0; have HC0 := Aside0.mk hc0; clear hr0 hc0; have HR1 := Aside0.mk hr1; have HC1 := Aside0.mk hc1; clear hr1 hc1; have H : (if (l0.length : Int) = (l1.length : Int) then (api_Cube.l0 k l0 l1 (l0.length : Int) 0) else (some false)) = some r := h; clear h
 by_cases c3 : (l0.length : Int) = (l1.length : Int)
 ·rw [if_pos c3] at H; have c3b0 : ((l0.length : Int) == (l1.length : Int)) = true := beq_iff_eq.mpr c3; have c3b1 : ((l0.length : Int) != (l1.length : Int)) = false := bne_eq_false_iff_eq.mpr c3
  have c3b2 : (l0.length == l1.length) = true := by first | simpa using c3 | (simp at c3 ⊢; omega)
  clear c3; have H' := Aside0.mk H; clear H
  go_enter Try.func52, Try.ntmps52
  go_wp2
  repeat (go_quiet (fail); try go_wp2)
  go_loopg [13] k (fun kq v13 w' => ∃ (x13_1 : Int), v13 = .int .i64 x13_1 ∧ Aside0 (api_Cube.l0 kq l0 l1 (l0.length : Int) x13_1 = some r) ∧ Aside0 (kq ≤ k) ∧ Drawn0 w w')
  case atStart => exact ⟨(0), (by first | rfl | (simp; done) | (simp [*]; done)), H', ⟨Nat.le_refl _⟩, by repeat (first | exact Drawn0.refl _ | apply Drawn0.step)⟩
  case round =>
   clear H'
   try clear c1
   try clear p2
   try clear c3
   try clear c3b0
   try clear c3b1
   try clear c3b2
   obtain ⟨x13_1, rfl, HA, HK1, ⟨m1, rfl⟩⟩ := hrel; cases gk with
   | zero => exact absurd HA.out (by simp [api_Cube.l0])
   | succ k1 =>
    have H := HA.out; clear HA; simp only [api_Cube.l0] at H
    by_cases c4 : x13_1 < (l0.length : Int)
    ·rw [if_pos c4] at H; have c4b0 : decide (x13_1 < (l0.length : Int)) = true := decide_eq_true c4; clear c4
     by_cases c5 : 0 ≤ x13_1
     ·rw [if_pos c5] at H; have c5b0 : decide (0 ≤ x13_1) = true := decide_eq_true c5; clear c5
      by_cases c6 : x13_1 < (l0.length : Int)
      ·rw [if_pos c6] at H; have c6b0 : decide (x13_1 < (l0.length : Int)) = true := decide_eq_true c6; clear c6
       by_cases c7 : x13_1 < (l1.length : Int)
       ·rw [if_pos c7] at H; have c7b0 : decide (x13_1 < (l1.length : Int)) = true := decide_eq_true c7; clear c7
        by_cases c8 : (!(((rd_T58 l0 x13_1).f0) == ((rd_T58 l1 x13_1).f0)) || (!(((rd_T58 l0 x13_1).f1) == ((rd_T58 l1 x13_1).f1)) || (!(((rd_T58 l0 x13_1).f2) == ((rd_T58 l1 x13_1).f2))))) = true
        ·rw [if_pos c8] at H; have c8b0 : (!(((rd_T58 l0 x13_1).f0) == ((rd_T58 l1 x13_1).f0)) || (!(((rd_T58 l0 x13_1).f1) == ((rd_T58 l1 x13_1).f1)) || (!(((rd_T58 l0 x13_1).f2) == ((rd_T58 l1 x13_1).f2))))) = true := c8; clear c8; obtain rfl := Option.some.inj H; have p157 : 0 ≤ (x13_1 : Int) := of_decide_eq_true aO; have q157 : x13_1 < (l0.length : Int) := of_decide_eq_true aO; obtain ⟨ad157, e157, hx157_0, hx157_1, hx157_2⟩ := at_T58 HR0.out x13_1 p157 q157; cases e157; replace p157 := eq_true p157; replace q157 := eq_true q157; have p158 : 0 ≤ (x13_1 : Int) := of_decide_eq_true aO; have q158 : x13_1 < (l1.length : Int) := of_decide_eq_true aO; obtain ⟨ad158, e158, hx158_0, hx158_1, hx158_2⟩ := at_T58 HR1.out x13_1 p158 q158; cases e158; replace p158 := eq_true p158; replace q158 := eq_true q158
         go_wp2
         repeat (go_quiet (fail); try go_wp2)
         go_ret
         exact ⟨by first | rfl | (simp; done) | (simp [*]; done), by repeat (first | exact Drawn0.refl _ | apply Drawn0.step)⟩
        ·rw [if_neg c8] at H
         have c8b0 : (!(((rd_T58 l0 x13_1).f0) == ((rd_T58 l1 x13_1).f0)) || (!(((rd_T58 l0 x13_1).f1) == ((rd_T58 l1 x13_1).f1)) || (!(((rd_T58 l0 x13_1).f2) == ((rd_T58 l1 x13_1).f2))))) = false := by simpa using c8
         clear c8; have H' := Aside0.mk H; clear H; have p157 : 0 ≤ (x13_1 : Int) := of_decide_eq_true aO; have q157 : x13_1 < (l0.length : Int) := of_decide_eq_true aO; obtain ⟨ad157, e157, hx157_0, hx157_1, hx157_2⟩ := at_T58 HR0.out x13_1 p157 q157; cases e157; replace p157 := eq_true p157; replace q157 := eq_true q157; have p158 : 0 ≤ (x13_1 : Int) := of_decide_eq_true aO; have q158 : x13_1 < (l1.length : Int) := of_decide_eq_true aO; obtain ⟨ad158, e158, hx158_0, hx158_1, hx158_2⟩ := at_T58 HR1.out x13_1 p158 q158; cases e158; replace p158 := eq_true p158; replace q158 := eq_true q158
         go_wp2
         repeat (go_quiet (fail); try go_wp2)
         go_roundg k1
         case measure => have := HK1.out; omega
         case rel => exact ⟨(wrap64 (x13_1 + 1)), (by first | rfl | (simp; done) | (simp [*]; done)), H', ⟨by have := HK1.out; omega⟩, by repeat (first | exact Drawn0.refl _ | apply Drawn0.step)⟩
       ·rw [if_neg c7] at H; exact absurd H (by simp)
      ·rw [if_neg c6] at H; exact absurd H (by simp)
     ·rw [if_neg c5] at H; exact absurd H (by simp)
    ·rw [if_neg c4] at H; have c4b0 : decide (x13_1 < (l0.length : Int)) = false := decide_eq_false c4; clear c4; obtain rfl := Option.some.inj H
     go_wp2
     repeat (go_quiet (fail); try go_wp2)
     go_ret
     exact ⟨by first | rfl | (simp; done) | (simp [*]; done), by repeat (first | exact Drawn0.refl _ | apply Drawn0.step)⟩
 ·rw [if_neg c3] at H; have c3b0 : ((l0.length : Int) == (l1.length : Int)) = false := beq_eq_false_iff_ne.mpr c3; have c3b1 : ((l0.length : Int) != (l1.length : Int)) = true := bne_iff_ne.mpr c3
  have c3b2 : (l0.length == l1.length) = false := by first | simpa using c3 | (simp at c3 ⊢; omega)
  obtain rfl := Option.some.inj H
  go_enter Try.func52, Try.ntmps52
  go_wp2
  repeat (go_quiet (fail); try go_wp2)
  go_ret
  exact ⟨by first | rfl | (simp; done) | (simp [*]; done), by repeat (first | exact Drawn0.refl _ | apply Drawn0.step)⟩

end Go.Proofs.Ytghfclgcgecgdaa.X

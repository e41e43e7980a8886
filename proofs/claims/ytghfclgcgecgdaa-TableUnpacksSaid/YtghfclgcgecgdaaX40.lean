/- What the functions of this seat compute, and that the program's calls come to just that: written by this session's own program out of the translation; no condition. -/
import Derived.Test.YtghfclgcgecgdaaX0
import Derived.Test.YtghfclgcgecgdaaX1
import Derived.Test.YtghfclgcgecgdaaX37
namespace Go.Proofs.Ytghfclgcgecgdaa.X
open Go.RowKit Go.Proofs.YtghfclgcgecgdaaW.PrintWords Go.Proofs.YtghfclgcgecgdaaW.PrintLast Go.Proofs.YtghfclgcgecgdaaW.PrintMore
attribute [local go_sem] max2_int min2_int max_two min_two max_three min_three max_four min_four
set_option linter.unusedVariables false
set_option linter.unusedSimpArgs false

/-! ### tabardref11_At: function 64 -/
def tabardref11_At.l0 : Nat → List (S58) → Int → Int → Option (Int × Bool)
 | 0, _, _, _ => none
 | k + 1, x0, x1, x6 => if x6 < (x0.length : Int) then (if 0 ≤ x6 then (if (Go.bits .and .i64 x1 ((rd_T58 x0 x6).f0)) = ((rd_T58 x0 x6).f1) then (some ((rd_T58 x0 x6).f2, true)) else (tabardref11_At.l0 k x0 x1 (wrap64 (x6 + 1)))) else (none)) else (some (0, false))
def tabardref11_At.f (k : Nat) (l0 : List (S58)) (a1 : Int) : Option (Int × Bool) := tabardref11_At.l0 k l0 a1 0
theorem tabardref11_At.mono_l : ∀ k, (∀ y0 y1 y2, LeO (tabardref11_At.l0 k y0 y1 y2) (tabardref11_At.l0 (k + 1) y0 y1 y2))
 | 0 => fun _ _ _ r h => by simp [tabardref11_At.l0] at h
 | k + 1 => by
  have ih0 := tabardref11_At.mono_l k
  ·intro y0 y1 y2
   unfold tabardref11_At.l0
   repeat' first | (with_reducible first | exact ih0 _ _ _ | exact lA | apply lI | refine lB ?_ fun _ => ?_) | exact lN _ | apply lI | refine lB ?_ fun _ => ?_
theorem tabardref11_At.mono : ∀ a0 a1 k, LeO (tabardref11_At.f k a0 a1) (tabardref11_At.f (k + 1) a0 a1) := by
 intro a0 a1 k; have ih0 := tabardref11_At.mono_l k
 unfold tabardref11_At.f
 repeat' first | (with_reducible first | exact ih0 _ _ _ | exact lA | apply lI | refine lB ?_ fun _ => ?_) | exact lN _ | apply lI | refine lB ?_ fun _ => ?_
set_option maxHeartbeats 8000000 in
set_option maxRecDepth 100000 in
theorem tabardref11_At.calls (k : Nat) (A0 : Option Addr) (c0 : Nat) (l0 : List (S58)) (a1 : Int) (r1 : Int) (r2 : Bool) (w : World) (hr0 : Kd.C k58 w A0 l0.length l0) (hc0 : l0.length ≤ c0) (h : tabardref11_At.f k l0 a1 = some (r1, r2)) :
  Calls Try.prog 64 #[.slice A0 l0.length c0, .int .i64 a1] w fun e w' => e = .returned (.tuple #[.int .i64 r1, .bool r2]) ∧ Drawn0 w w' := by
 have HR0 := Aside0.mk hr0; have HC0 := Aside0.mk hc0; clear hr0 hc0; have H : (tabardref11_At.l0 k l0 a1 0) = some (r1, r2) := h; clear h; have H' := Aside0.mk H; clear H
 go_enter Try.func64, Try.ntmps64
 go_wp2
 repeat (go_quiet (fail); try go_wp2)
 go_loopg [6] k (fun kq v6 w' => ∃ (x6_1 : Int), v6 = .int .i64 x6_1 ∧ Aside0 (tabardref11_At.l0 kq l0 a1 x6_1 = some (r1, r2)) ∧ Aside0 (kq ≤ k) ∧ Drawn0 w w')
 case atStart => exact ⟨(0), sI, H', ⟨Nat.le_refl _⟩, by repeat (first | exact Drawn0.refl _ | apply Drawn0.step)⟩
 case round =>
  clear H'
  try clear p2
  obtain ⟨x6_1, rfl, HA, HK1, ⟨m1, rfl⟩⟩ := hrel; cases gk with
  | zero => exact absurd HA.out (by simp [tabardref11_At.l0])
  | succ k1 =>
   have H := HA.out; clear HA; simp only [tabardref11_At.l0] at H
   by_cases c3 : x6_1 < (l0.length : Int)
   ·rw [if_pos c3] at H; have c3b0 := decide_eq_true c3; clear c3
    by_cases c4 : 0 ≤ x6_1
    ·rw [if_pos c4] at H; have c4b0 := decide_eq_true c4; clear c4
     by_cases c5 : (Go.bits .and .i64 a1 ((rd_T58 l0 x6_1).f0)) = ((rd_T58 l0 x6_1).f1)
     ·rw [if_pos c5] at H; obtain ⟨c5b0, c5b1⟩ := bq c5; clear c5; simp only [Option.some.injEq, Prod.mk.injEq] at H; obtain ⟨rfl, rfl⟩ := H; have p548 : 0 ≤ (x6_1 : Int) := of_decide_eq_true aO; have q548 : x6_1 < (l0.length : Int) := of_decide_eq_true aO; obtain ⟨ad548, e548, hx548_0, hx548_1, hx548_2⟩ := at_T58 HR0.out x6_1 p548 q548; cases e548; replace p548 := eq_true p548; replace q548 := eq_true q548; have p549 : 0 ≤ (x6_1 : Int) := of_decide_eq_true aO; have q549 : x6_1 < (l0.length : Int) := of_decide_eq_true aO; obtain ⟨ad549, e549, hx549_0, hx549_1, hx549_2⟩ := at_T58 HR0.out x6_1 p549 q549; have he_ : ad548 = ad549 := (by injection e549); subst he_; replace p549 := eq_true p549; replace q549 := eq_true q549; have p550 : 0 ≤ (x6_1 : Int) := of_decide_eq_true aO; have q550 : x6_1 < (l0.length : Int) := of_decide_eq_true aO; obtain ⟨ad550, e550, hx550_0, hx550_1, hx550_2⟩ := at_T58 HR0.out x6_1 p550 q550; have he_ : ad548 = ad550 := (by injection e550); subst he_; replace p550 := eq_true p550; replace q550 := eq_true q550
      go_wp2
      repeat (go_quiet (fail); try go_wp2)
      go_ret2
      exact ⟨by first | rfl | (simp; done) | (simp [*]; done), by repeat (first | exact Drawn0.refl _ | apply Drawn0.step)⟩
     ·rw [if_neg c5] at H; obtain ⟨c5b0, c5b1⟩ := bn c5; have H' := Aside0.mk H; clear H; have p548 : 0 ≤ (x6_1 : Int) := of_decide_eq_true aO; have q548 : x6_1 < (l0.length : Int) := of_decide_eq_true aO; obtain ⟨ad548, e548, hx548_0, hx548_1, hx548_2⟩ := at_T58 HR0.out x6_1 p548 q548; cases e548; replace p548 := eq_true p548; replace q548 := eq_true q548; have p549 : 0 ≤ (x6_1 : Int) := of_decide_eq_true aO; have q549 : x6_1 < (l0.length : Int) := of_decide_eq_true aO; obtain ⟨ad549, e549, hx549_0, hx549_1, hx549_2⟩ := at_T58 HR0.out x6_1 p549 q549; have he_ : ad548 = ad549 := (by injection e549); subst he_; replace p549 := eq_true p549; replace q549 := eq_true q549
      go_wp2
      repeat (go_quiet (fail); try go_wp2)
      go_roundg k1
      case measure => have := HK1.out; omega
      case rel => exact ⟨(wrap64 (x6_1 + 1)), sI, H', ⟨by have := HK1.out; omega⟩, by repeat (first | exact Drawn0.refl _ | apply Drawn0.step)⟩
    ·rw [if_neg c4] at H; exact absurd H (by simp)
   ·rw [if_neg c3] at H; have c3b0 := decide_eq_false c3; clear c3; simp only [Option.some.injEq, Prod.mk.injEq] at H; obtain ⟨rfl, rfl⟩ := H
    go_wp2
    repeat (go_quiet (fail); try go_wp2)
    go_ret2
    exact ⟨by first | rfl | (simp; done) | (simp [*]; done), by repeat (first | exact Drawn0.refl _ | apply Drawn0.step)⟩

end Go.Proofs.Ytghfclgcgecgdaa.X
namespace Go.Proofs.Ytghfclgcgecgdaa.X
open Go.RowKit Go.Proofs.YtghfclgcgecgdaaW.PrintWords Go.Proofs.YtghfclgcgecgdaaW.PrintLast Go.Proofs.YtghfclgcgecgdaaW.PrintMore
attribute [local go_sem] max2_int min2_int max_two min_two max_three min_three max_four min_four
set_option linter.unusedVariables false
set_option linter.unusedSimpArgs false

attribute [local go_sem high] eqA58
/-! ### tabardref11_Unpack: function 46 -/
mutual
def tabardref11_Unpack.j0 : Nat → List (S58) → Int → Bool → Option (List Int × Int)
 | 0, _, _, _ => none
 | k + 1, x0, x1, x19 => if x19 = true then (some (([] : List Int), 150)) else (tabardref11_Unpack.l0 k x0 x1 1 0)
def tabardref11_Unpack.l0 : Nat → List (S58) → Int → Int → Int → Option (List Int × Int)
 | 0, _, _, _, _ => none
 | k + 1, x0, x1, x6, x7 => if x7 < x1 then (tabardref11_Unpack.l0 k x0 x1 (wrap64 (x6 * 2)) (wrap64 (x7 + 1))) else (if (x0.length : Int) > x6 then (some (([] : List Int), 3)) else (tabardref11_Unpack.l1 k x0 x6 ([] : List Int) 0))
def tabardref11_Unpack.l1 : Nat → List (S58) → Int → List Int → Int → Option (List Int × Int)
 | 0, _, _, _, _ => none
 | k + 1, x0, x6, x8, x9 => if x9 < x6 then ((tabardref11_At.f k x0 x9).bind fun bt551 => (if bt551.2 = true then (if bt551.1 < 0 then (some (([] : List Int), 3)) else (if x8.length < 17592186044416 then (tabardref11_Unpack.l1 k x0 x6 (x8 ++ [bt551.1]) (wrap64 (x9 + 1))) else (none))) else (some (([] : List Int), 3)))) else ((tabardref11_Cubes.f k x8 0 0).bind fun t556 => (if (t556.length : Int) = (x0.length : Int) then (tabardref11_Unpack.l2 k x0 x8 t556 0) else (some (([] : List Int), 3))))
def tabardref11_Unpack.l2 : Nat → List (S58) → List Int → List (S58) → Int → Option (List Int × Int)
 | 0, _, _, _, _ => none
 | k + 1, x0, x8, x12, x13 => if x13 < (x0.length : Int) then (if 0 ≤ x13 then (if x13 < (x12.length : Int) then (if (!(((rd_T58 x12 x13).f0) == ((rd_T58 x0 x13).f0)) || (!(((rd_T58 x12 x13).f1) == ((rd_T58 x0 x13).f1)) || (!(((rd_T58 x12 x13).f2) == ((rd_T58 x0 x13).f2))))) = true then (some (([] : List Int), 3)) else (tabardref11_Unpack.l2 k x0 x8 x12 (wrap64 (x13 + 1)))) else (none)) else (none)) else (some (x8, 0))
end
def tabardref11_Unpack.f (k : Nat) (l0 : List (S58)) (a1 : Int) : Option (List Int × Int) := if a1 < 0 then (tabardref11_Unpack.j0 k l0 a1 true) else (tabardref11_Unpack.j0 k l0 a1 (decide (a1 > 6)))
theorem tabardref11_Unpack.mono_l : ∀ k, (∀ y0 y1 y2, LeO (tabardref11_Unpack.j0 k y0 y1 y2) (tabardref11_Unpack.j0 (k + 1) y0 y1 y2)) ∧ (∀ y0 y1 y2 y3, LeO (tabardref11_Unpack.l0 k y0 y1 y2 y3) (tabardref11_Unpack.l0 (k + 1) y0 y1 y2 y3)) ∧ (∀ y0 y1 y2 y3, LeO (tabardref11_Unpack.l1 k y0 y1 y2 y3) (tabardref11_Unpack.l1 (k + 1) y0 y1 y2 y3)) ∧ (∀ y0 y1 y2 y3, LeO (tabardref11_Unpack.l2 k y0 y1 y2 y3) (tabardref11_Unpack.l2 (k + 1) y0 y1 y2 y3))
 | 0 => ⟨fun _ _ _ r h => by simp [tabardref11_Unpack.j0] at h, fun _ _ _ _ r h => by simp [tabardref11_Unpack.l0] at h, fun _ _ _ _ r h => by simp [tabardref11_Unpack.l1] at h, fun _ _ _ _ r h => by simp [tabardref11_Unpack.l2] at h⟩
 | k + 1 => by
  obtain ⟨ih0, ih1, ih2, ih3⟩ := tabardref11_Unpack.mono_l k; refine ⟨?_, ?_, ?_, ?_⟩
  ·intro y0 y1 y2
   unfold tabardref11_Unpack.j0
   repeat' first | (with_reducible first | exact ih0 _ _ _ | exact ih1 _ _ _ _ | exact ih2 _ _ _ _ | exact ih3 _ _ _ _ | exact tabardref11_At.mono _ _ _ | exact tabardref11_Cubes.mono _ _ _ _ | exact lA | apply lI | refine lB ?_ fun _ => ?_) | exact lN _ | apply lI | refine lB ?_ fun _ => ?_
  ·intro y0 y1 y2 y3
   unfold tabardref11_Unpack.l0
   repeat' first | (with_reducible first | exact ih0 _ _ _ | exact ih1 _ _ _ _ | exact ih2 _ _ _ _ | exact ih3 _ _ _ _ | exact tabardref11_At.mono _ _ _ | exact tabardref11_Cubes.mono _ _ _ _ | exact lA | apply lI | refine lB ?_ fun _ => ?_) | exact lN _ | apply lI | refine lB ?_ fun _ => ?_
  ·intro y0 y1 y2 y3
   unfold tabardref11_Unpack.l1
   repeat' first | (with_reducible first | exact ih0 _ _ _ | exact ih1 _ _ _ _ | exact ih2 _ _ _ _ | exact ih3 _ _ _ _ | exact tabardref11_At.mono _ _ _ | exact tabardref11_Cubes.mono _ _ _ _ | exact lA | apply lI | refine lB ?_ fun _ => ?_) | exact lN _ | apply lI | refine lB ?_ fun _ => ?_
  ·intro y0 y1 y2 y3
   unfold tabardref11_Unpack.l2
   repeat' first | (with_reducible first | exact ih0 _ _ _ | exact ih1 _ _ _ _ | exact ih2 _ _ _ _ | exact ih3 _ _ _ _ | exact tabardref11_At.mono _ _ _ | exact tabardref11_Cubes.mono _ _ _ _ | exact lA | apply lI | refine lB ?_ fun _ => ?_) | exact lN _ | apply lI | refine lB ?_ fun _ => ?_
theorem tabardref11_Unpack.mono : ∀ a0 a1 k, LeO (tabardref11_Unpack.f k a0 a1) (tabardref11_Unpack.f (k + 1) a0 a1) := by
 intro a0 a1 k; obtain ⟨ih0, ih1, ih2, ih3⟩ := tabardref11_Unpack.mono_l k
 unfold tabardref11_Unpack.f
 repeat' first | (with_reducible first | exact ih0 _ _ _ | exact ih1 _ _ _ _ | exact ih2 _ _ _ _ | exact ih3 _ _ _ _ | exact tabardref11_At.mono _ _ _ | exact tabardref11_Cubes.mono _ _ _ _ | exact lA | apply lI | refine lB ?_ fun _ => ?_) | exact lN _ | apply lI | refine lB ?_ fun _ => ?_
set_option maxHeartbeats 8000000 in
set_option maxRecDepth 100000 in
theorem tabardref11_Unpack.calls (k : Nat) (A0 : Option Addr) (c0 : Nat) (l0 : List (S58)) (a1 : Int) (r1 : List Int) (r2 : Int) (w : World) (hr0 : Kd.C k58 w A0 l0.length l0) (hc0 : l0.length ≤ c0) (h : tabardref11_Unpack.f k l0 a1 = some (r1, r2)) :
  Calls Try.prog 46 #[.slice A0 l0.length c0, .int .i64 a1] w fun e w' => ∃ v0_ : Value, e = .returned (.tuple #[v0_, .int .i64 r2]) ∧ Kd.R (Kd.int .i64) 3 w' w.heap.size (fun _ => True) v0_ r1 ∧ Below w.heap.size w w' := by
 have hu58 := Try.underlying58; have HR0 := Aside0.mk hr0; have HC0 := Aside0.mk hc0; clear hr0 hc0; have HB := Aside0.mk (Below.refl w.heap.size w); have H : (if a1 < 0 then (tabardref11_Unpack.j0 k l0 a1 true) else (tabardref11_Unpack.j0 k l0 a1 (decide (a1 > 6)))) = some (r1, r2) := h; clear h; have HC3 := Aside0.mk H; clear H
 go_enter Try.func46, Try.ntmps46
 go_upto_region 1 with (fail)
 repeat (go_quiet (fail); go_upto_region 1 with (fail))
 go_cut [19] (fun v19 wc => ∃ (kq : Nat) (x19_2 : Bool), v19 = .bool x19_2 ∧ Aside0 (tabardref11_Unpack.j0 kq l0 a1 x19_2 = some (r1, r2)) ∧ Aside0 (kq ≤ k) ∧ Aside0 (Below w.heap.size w wc))
 case first =>
  have H := HC3.out; clear HC3
  by_cases c4 : a1 < 0
  ·rw [if_pos c4] at H; have c4b0 := decide_eq_true c4; clear c4
   (first | rw [c4b0] | (simp only [i64_w, i32_w]; rw [c4b0]) | skip)
   have H' := Aside0.mk H; clear H
   go_wp2
   repeat (go_quiet (fail); try go_wp2)
   go_meet
   case rel => exact ⟨_, (true), sI, H', ⟨by first | omega | exact Nat.le_refl _⟩, ⟨bO HB.out⟩⟩
  ·rw [if_neg c4] at H; have c4b0 := decide_eq_false c4; clear c4
   (first | rw [c4b0] | (simp only [i64_w, i32_w]; rw [c4b0]) | skip)
   have H' := Aside0.mk H; clear H
   go_wp2
   repeat (go_quiet (fail); try go_wp2)
   go_meet
   case rel => exact ⟨_, (decide (a1 > 6)), sI, H', ⟨by first | omega | exact Nat.le_refl _⟩, ⟨bO HB.out⟩⟩
 case rest =>
  clear HC3
  try clear p2
  try clear c4
  try clear c4b0
  obtain ⟨kq, x19_2, rfl, HA, HJ2, HB⟩ := hcut; cases kq with
  | zero => exact absurd HA.out (by simp [tabardref11_Unpack.j0])
  | succ kj2 =>
   have H := HA.out; clear HA; simp only [tabardref11_Unpack.j0] at H
   by_cases c5 : x19_2 = true
   ·subst c5
    have H1 : (some (([] : List Int), 150)) = some (r1, r2) := by rw [if_pos rfl] at H; exact H
    clear H; have H := H1; clear H1; simp only [Option.some.injEq, Prod.mk.injEq] at H; obtain ⟨rfl, rfl⟩ := H
    go_wp2
    repeat (go_quiet (fail); try go_wp2)
    go_ret2
    exact ⟨_, eW, by first | exact Kd.R_nil _ _ _ _ _ | exact Kd.N_nil _ _ _ _ _ | exact Kd.V_nil _ _ _ _ _ | exact Kd.Q_nil _ _ _ _ _ | exact Kd.S_nil _ _ _ _ _, bO HB.out⟩
   ·replace c5 := Bool.eq_false_iff.mpr c5; subst c5
    have H1 : (tabardref11_Unpack.l0 kj2 l0 a1 1 0) = some (r1, r2) := by rw [if_neg (show ¬ (false = true) by decide)] at H; exact H
    clear H; have H := H1; clear H1; have H' := Aside0.mk H; clear H
    go_wp2
    repeat (go_quiet (fail); try go_wp2)
    go_loopg [6, 7] kj2 (fun kq v6 v7 w' => ∃ (x6_2 : Int) (x7_2 : Int), v6 = .int .i64 x6_2 ∧ v7 = .int .i64 x7_2 ∧ Aside0 (tabardref11_Unpack.l0 kq l0 a1 x6_2 x7_2 = some (r1, r2)) ∧ Aside0 (kq ≤ kj2) ∧ Aside0 (Below w.heap.size w w'))
    case atStart => exact ⟨(1), (0), sI, sI, H', ⟨Nat.le_refl _⟩, ⟨bO HB.out⟩⟩
    case round =>
     clear H'
     try clear p2
     try clear c4
     try clear c4b0
     try clear c5
     try clear p2
     obtain ⟨x6_2, x7_2, rfl, rfl, HA, HK2, HB⟩ := hrel; cases gk with
     | zero => exact absurd HA.out (by simp [tabardref11_Unpack.l0])
     | succ k2 =>
      have H := HA.out; clear HA; simp only [tabardref11_Unpack.l0] at H
      by_cases c6 : x7_2 < a1
      ·rw [if_pos c6] at H; have c6b0 := decide_eq_true c6; clear c6; have H' := Aside0.mk H; clear H
       go_wp2
       repeat (go_quiet (fail); try go_wp2)
       go_roundg k2
       case measure => have := HJ2.out; have := HK2.out; omega
       case rel => exact ⟨(wrap64 (x6_2 * 2)), (wrap64 (x7_2 + 1)), sI, sI, H', ⟨by have := HJ2.out; have := HK2.out; omega⟩, ⟨bO HB.out⟩⟩
      ·rw [if_neg c6] at H; have c6b0 := decide_eq_false c6; clear c6
       by_cases c7 : (l0.length : Int) > x6_2
       ·rw [if_pos c7] at H; have c7b0 := decide_eq_true c7; clear c7; simp only [Option.some.injEq, Prod.mk.injEq] at H; obtain ⟨rfl, rfl⟩ := H
        go_wp2
        repeat (go_quiet (fail); try go_wp2)
        go_ret2
        exact ⟨_, eW, by first | exact Kd.R_nil _ _ _ _ _ | exact Kd.N_nil _ _ _ _ _ | exact Kd.V_nil _ _ _ _ _ | exact Kd.Q_nil _ _ _ _ _ | exact Kd.S_nil _ _ _ _ _, bO HB.out⟩
       ·rw [if_neg c7] at H; have c7b0 := decide_eq_false c7; clear c7; have H' := Aside0.mk H; clear H
        go_wp2
        repeat (go_quiet (fail); try go_wp2)
        go_loopg [8, 9] k2 (fun kq v8 v9 w' => ∃ (x8_3 : List Int) (x9_3 : Int), v9 = .int .i64 x9_3 ∧ Aside0 (tabardref11_Unpack.l1 kq l0 x6_2 x8_3 x9_3 = some (r1, r2)) ∧ Aside0 (kq ≤ k2) ∧ Aside0 (Kd.R (Kd.int .i64) 3 w' w.heap.size (fun _ => True) v8 x8_3) ∧ Aside0 (Below w.heap.size w w'))
        case atStart => exact ⟨(([] : List Int)), (0), sI, H', ⟨Nat.le_refl _⟩, ⟨by first | exact Kd.R_nil _ _ _ _ _ | exact Kd.N_nil _ _ _ _ _ | exact Kd.V_nil _ _ _ _ _ | exact Kd.Q_nil _ _ _ _ _ | exact Kd.S_nil _ _ _ _ _⟩, ⟨bO HB.out⟩⟩
        case round =>
         clear H'
         try clear p2
         try clear c4
         try clear c4b0
         try clear c5
         try clear c6
         try clear c6b0
         try clear p6
         try clear c7
         try clear c7b0
         try clear p2
         obtain ⟨x8_3, x9_3, rfl, HA, HK3, HO_8, HB⟩ := hrel; cases gk with
         | zero => exact absurd HA.out (by simp [tabardref11_Unpack.l1])
         | succ k3 =>
          have H := HA.out; clear HA; simp only [tabardref11_Unpack.l1] at H
          by_cases c8 : x9_3 < x6_2
          ·rw [if_pos c8] at H; have c8b0 := decide_eq_true c8; clear c8; replace H := Option.bind_eq_some_iff.mp H; obtain ⟨⟨t551, t552⟩, A90, H⟩ := H; replace H : (if t552 = true then (if t551 < 0 then (some (([] : List Int), 3)) else (if x8_3.length < 17592186044416 then (tabardref11_Unpack.l1 k3 l0 x6_2 (x8_3 ++ [t551]) (wrap64 (x9_3 + 1))) else (none))) else (some (([] : List Int), 3))) = some (r1, r2) := H; have A9 := Aside0.mk A90; clear A90
           by_cases c10 : t552 = true
           ·subst c10
            have H1 : (if t551 < 0 then (some (([] : List Int), 3)) else (if x8_3.length < 17592186044416 then (tabardref11_Unpack.l1 k3 l0 x6_2 (x8_3 ++ [t551]) (wrap64 (x9_3 + 1))) else (none))) = some (r1, r2) := by rw [if_pos rfl] at H; exact H
            clear H; have H := H1; clear H1
            by_cases c11 : t551 < 0
            ·rw [if_pos c11] at H; have c11b0 := decide_eq_true c11; clear c11; simp only [Option.some.injEq, Prod.mk.injEq] at H; obtain ⟨rfl, rfl⟩ := H
             go_wp2_with (first | (go_at_call 64; (with_reducible refine (tabardref11_At.calls k3 _ _ l0 x9_3 t551 true _ ?s1 ?s2 A9.out).mono ?_); (case s1 => exact cB HR0 HB); (case s2 => exact HC0.out); rintro e w' ⟨rfl, ⟨nd, rfl⟩⟩; (try exact dN)))
             repeat (go_quiet (first | (go_at_call 64; (with_reducible refine (tabardref11_At.calls k3 _ _ l0 x9_3 t551 true _ ?s1 ?s2 A9.out).mono ?_); (case s1 => exact cB HR0 HB); (case s2 => exact HC0.out); rintro e w' ⟨rfl, ⟨nd, rfl⟩⟩; (try exact dN))); try go_wp2_with (first | (go_at_call 64; (with_reducible refine (tabardref11_At.calls k3 _ _ l0 x9_3 t551 true _ ?s1 ?s2 A9.out).mono ?_); (case s1 => exact cB HR0 HB); (case s2 => exact HC0.out); rintro e w' ⟨rfl, ⟨nd, rfl⟩⟩; (try exact dN))))
             go_ret2
             exact ⟨_, eW, by first | exact Kd.R_nil _ _ _ _ _ | exact Kd.N_nil _ _ _ _ _ | exact Kd.V_nil _ _ _ _ _ | exact Kd.Q_nil _ _ _ _ _ | exact Kd.S_nil _ _ _ _ _, bO HB.out⟩
            ·rw [if_neg c11] at H; have c11b0 := decide_eq_false c11; clear c11
             by_cases c12 : x8_3.length < 17592186044416
             ·rw [if_pos c12] at H; have LMc12 := Aside0.mk c12; clear c12; obtain ⟨y553, hy553⟩ : ∃ y_ : List Int, y_ = (x8_3 ++ [t551]) := ⟨_, rfl⟩
              replace H : (tabardref11_Unpack.l1 k3 l0 x6_2 y553 (wrap64 (x9_3 + 1))) = some (r1, r2) := rH hy553 H
              have Ny553 := Aside0.mk hy553; clear hy553; have H' := Aside0.mk H; clear H
              go_wp2_with (first | (go_at_call 64; (with_reducible refine (tabardref11_At.calls k3 _ _ l0 x9_3 t551 true _ ?s1 ?s2 A9.out).mono ?_); (case s1 => exact cB HR0 HB); (case s2 => exact HC0.out); rintro e w' ⟨rfl, ⟨nd, rfl⟩⟩; (try exact dN)) | ((with_reducible refine gate_builtin (b := .append) (xs := #[.tmp 48, .tmp 50]) rfl ?_); at_builtin; refine Kd.R_append (Kd.int .i64) (w0 := w) w.heap.size rfl (.tmp 48) (.tmp 50) 29 3 (.int .i64 0) 8 rfl Try.underlying29 info3 rfl (by decide) (by omega) u8 x8_3 t551 [.int .i64 t551] (fun _ => True) (fun _ => False) rfl rfl ?aP (fun _ hk => hk.elim) ?aF ?aO ?aB ?aS ?aL ?_; (case aP => exact rfl); (case aB => exact (bO HB.out)); (case aF => exact (fun _ _ => trivial)); (case aO => exact (rO HO_8.out)); (case aS => exact (below_size (bO HB.out))); (case aL => have := LMc12.out; omega); intro v554 w13 ho hb hg hat; rw [← Ny553.out] at ho; replace HB := Aside0.mk (hb); have HO555 := Aside0.mk (ho); clear HO_8; clear ho hb hg hat))
              repeat (go_quiet (first | (go_at_call 64; (with_reducible refine (tabardref11_At.calls k3 _ _ l0 x9_3 t551 true _ ?s1 ?s2 A9.out).mono ?_); (case s1 => exact cB HR0 HB); (case s2 => exact HC0.out); rintro e w' ⟨rfl, ⟨nd, rfl⟩⟩; (try exact dN)) | ((with_reducible refine gate_builtin (b := .append) (xs := #[.tmp 48, .tmp 50]) rfl ?_); at_builtin; refine Kd.R_append (Kd.int .i64) (w0 := w) w.heap.size rfl (.tmp 48) (.tmp 50) 29 3 (.int .i64 0) 8 rfl Try.underlying29 info3 rfl (by decide) (by omega) u8 x8_3 t551 [.int .i64 t551] (fun _ => True) (fun _ => False) rfl rfl ?aP (fun _ hk => hk.elim) ?aF ?aO ?aB ?aS ?aL ?_; (case aP => exact rfl); (case aB => exact (bO HB.out)); (case aF => exact (fun _ _ => trivial)); (case aO => exact (rO HO_8.out)); (case aS => exact (below_size (bO HB.out))); (case aL => have := LMc12.out; omega); intro v554 w13 ho hb hg hat; rw [← Ny553.out] at ho; replace HB := Aside0.mk (hb); have HO555 := Aside0.mk (ho); clear HO_8; clear ho hb hg hat)); try go_wp2_with (first | (go_at_call 64; (with_reducible refine (tabardref11_At.calls k3 _ _ l0 x9_3 t551 true _ ?s1 ?s2 A9.out).mono ?_); (case s1 => exact cB HR0 HB); (case s2 => exact HC0.out); rintro e w' ⟨rfl, ⟨nd, rfl⟩⟩; (try exact dN)) | ((with_reducible refine gate_builtin (b := .append) (xs := #[.tmp 48, .tmp 50]) rfl ?_); at_builtin; refine Kd.R_append (Kd.int .i64) (w0 := w) w.heap.size rfl (.tmp 48) (.tmp 50) 29 3 (.int .i64 0) 8 rfl Try.underlying29 info3 rfl (by decide) (by omega) u8 x8_3 t551 [.int .i64 t551] (fun _ => True) (fun _ => False) rfl rfl ?aP (fun _ hk => hk.elim) ?aF ?aO ?aB ?aS ?aL ?_; (case aP => exact rfl); (case aB => exact (bO HB.out)); (case aF => exact (fun _ _ => trivial)); (case aO => exact (rO HO_8.out)); (case aS => exact (below_size (bO HB.out))); (case aL => have := LMc12.out; omega); intro v554 w13 ho hb hg hat; rw [← Ny553.out] at ho; replace HB := Aside0.mk (hb); have HO555 := Aside0.mk (ho); clear HO_8; clear ho hb hg hat)))
              go_roundg k3
              case measure => have := HJ2.out; have := HK2.out; have := HK3.out; omega
              case rel => exact ⟨(y553), (wrap64 (x9_3 + 1)), sI, H', ⟨by have := HJ2.out; have := HK2.out; have := HK3.out; omega⟩, ⟨rO HO555.out⟩, ⟨bO HB.out⟩⟩
             ·rw [if_neg c12] at H; exact absurd H (by simp)
           ·replace c10 := Bool.eq_false_iff.mpr c10; subst c10
            have H1 : (some (([] : List Int), 3)) = some (r1, r2) := by rw [if_neg (show ¬ (false = true) by decide)] at H; exact H
            clear H; have H := H1; clear H1; simp only [Option.some.injEq, Prod.mk.injEq] at H; obtain ⟨rfl, rfl⟩ := H
            go_wp2_with (first | (go_at_call 64; (with_reducible refine (tabardref11_At.calls k3 _ _ l0 x9_3 t551 false _ ?s1 ?s2 A9.out).mono ?_); (case s1 => exact cB HR0 HB); (case s2 => exact HC0.out); rintro e w' ⟨rfl, ⟨nd, rfl⟩⟩; (try exact dN)))
            repeat (go_quiet (first | (go_at_call 64; (with_reducible refine (tabardref11_At.calls k3 _ _ l0 x9_3 t551 false _ ?s1 ?s2 A9.out).mono ?_); (case s1 => exact cB HR0 HB); (case s2 => exact HC0.out); rintro e w' ⟨rfl, ⟨nd, rfl⟩⟩; (try exact dN))); try go_wp2_with (first | (go_at_call 64; (with_reducible refine (tabardref11_At.calls k3 _ _ l0 x9_3 t551 false _ ?s1 ?s2 A9.out).mono ?_); (case s1 => exact cB HR0 HB); (case s2 => exact HC0.out); rintro e w' ⟨rfl, ⟨nd, rfl⟩⟩; (try exact dN))))
            go_ret2
            exact ⟨_, eW, by first | exact Kd.R_nil _ _ _ _ _ | exact Kd.N_nil _ _ _ _ _ | exact Kd.V_nil _ _ _ _ _ | exact Kd.Q_nil _ _ _ _ _ | exact Kd.S_nil _ _ _ _ _, bO HB.out⟩
          ·rw [if_neg c8] at H; have c8b0 := decide_eq_false c8; clear c8; replace H := Option.bind_eq_some_iff.mp H; obtain ⟨t556, A140, H⟩ := H; replace H : (if (t556.length : Int) = (l0.length : Int) then (tabardref11_Unpack.l2 k3 l0 x8_3 t556 0) else (some (([] : List Int), 3))) = some (r1, r2) := H; have A14 := Aside0.mk A140; clear A140
           by_cases c15 : (t556.length : Int) = (l0.length : Int)
           ·rw [if_pos c15] at H; obtain ⟨c15b0, c15b1⟩ := bq c15
            have c15b2 : (t556.length == l0.length) = true := by first | simpa using c15 | (simp at c15 ⊢; omega)
            clear c15; have H' := Aside0.mk H; clear H; obtain ⟨Ao16, co16, eo16⟩ := Kd.R_slice HO_8.out; subst eo16
            go_wp2_with (first | (go_at_call 63; (with_reducible refine (tabardref11_Cubes.calls k3 _ _ x8_3 0 0 t556 _ ?s1 ?s2 A14.out).mono ?_); (case s1 => exact cO (Kd.R_reads' HO_8.out).2.2); (case s2 => exact (Kd.R_reads' HO_8.out).2.1); rintro e w17 ⟨v557, rfl, ho0, hb⟩; replace HO_8 := rB HO_8 hb; have HO558 := rW ho0 (bO HB.out); replace HB := hS0 HB hb; (try clear hb); (try clear hb2); (try clear hk); (try clear hi); (try clear ho0); obtain ⟨Ao18, co18, eo18⟩ := Kd.R_slice HO558.out; subst eo18))
            repeat (go_quiet (first | (go_at_call 63; (with_reducible refine (tabardref11_Cubes.calls k3 _ _ x8_3 0 0 t556 _ ?s1 ?s2 A14.out).mono ?_); (case s1 => exact cO (Kd.R_reads' HO_8.out).2.2); (case s2 => exact (Kd.R_reads' HO_8.out).2.1); rintro e w17 ⟨v557, rfl, ho0, hb⟩; replace HO_8 := rB HO_8 hb; have HO558 := rW ho0 (bO HB.out); replace HB := hS0 HB hb; (try clear hb); (try clear hb2); (try clear hk); (try clear hi); (try clear ho0); obtain ⟨Ao18, co18, eo18⟩ := Kd.R_slice HO558.out; subst eo18)); try go_wp2_with (first | (go_at_call 63; (with_reducible refine (tabardref11_Cubes.calls k3 _ _ x8_3 0 0 t556 _ ?s1 ?s2 A14.out).mono ?_); (case s1 => exact cO (Kd.R_reads' HO_8.out).2.2); (case s2 => exact (Kd.R_reads' HO_8.out).2.1); rintro e w17 ⟨v557, rfl, ho0, hb⟩; replace HO_8 := rB HO_8 hb; have HO558 := rW ho0 (bO HB.out); replace HB := hS0 HB hb; (try clear hb); (try clear hb2); (try clear hk); (try clear hi); (try clear ho0); obtain ⟨Ao18, co18, eo18⟩ := Kd.R_slice HO558.out; subst eo18)))
            go_loopg [13] k3 (fun kq v13 w' => ∃ (x13_4 : Int), v13 = .int .i64 x13_4 ∧ Aside0 (tabardref11_Unpack.l2 kq l0 x8_3 t556 x13_4 = some (r1, r2)) ∧ Aside0 (kq ≤ k3) ∧ Aside0 (Kd.R (Kd.int .i64) 3 w' w.heap.size (fun _ => True) (.slice Ao16 x8_3.length co16) x8_3) ∧ Aside0 (Kd.R k58 58 w' w.heap.size (fun _ => True) (.slice Ao18 t556.length co18) t556) ∧ Aside0 (Below w.heap.size w w'))
            case atStart => exact ⟨(0), sI, H', ⟨Nat.le_refl _⟩, ⟨rO HO_8.out⟩, ⟨rO HO558.out⟩, ⟨bO HB.out⟩⟩
            case round =>
             clear H'
             try clear c1
             try clear p2
             try clear c4
             try clear c4b0
             try clear c5
             try clear c6
             try clear c6b0
             try clear p6
             try clear c7
             try clear c7b0
             try clear c8
             try clear c8b0
             try clear c10
             try clear c11
             try clear c11b0
             try clear c12
             try clear c15
             try clear c15b0
             try clear c15b1
             try clear c15b2
             try clear p2
             try clear p6
             obtain ⟨x13_4, rfl, HA, HK4, HO_8, HO_12, HB⟩ := hrel; cases gk with
             | zero => exact absurd HA.out (by simp [tabardref11_Unpack.l2])
             | succ k4 =>
              have H := HA.out; clear HA; simp only [tabardref11_Unpack.l2] at H
              by_cases c19 : x13_4 < (l0.length : Int)
              ·rw [if_pos c19] at H; have c19b0 := decide_eq_true c19; clear c19
               by_cases c20 : 0 ≤ x13_4
               ·rw [if_pos c20] at H; have c20b0 := decide_eq_true c20; clear c20
                by_cases c21 : x13_4 < (t556.length : Int)
                ·rw [if_pos c21] at H; have c21b0 := decide_eq_true c21; clear c21
                 by_cases c22 : (!(((rd_T58 t556 x13_4).f0) == ((rd_T58 l0 x13_4).f0)) || (!(((rd_T58 t556 x13_4).f1) == ((rd_T58 l0 x13_4).f1)) || (!(((rd_T58 t556 x13_4).f2) == ((rd_T58 l0 x13_4).f2))))) = true
                 ·rw [if_pos c22] at H; have c22b0 : (!(((rd_T58 t556 x13_4).f0) == ((rd_T58 l0 x13_4).f0)) || (!(((rd_T58 t556 x13_4).f1) == ((rd_T58 l0 x13_4).f1)) || (!(((rd_T58 t556 x13_4).f2) == ((rd_T58 l0 x13_4).f2))))) = true := c22; clear c22; simp only [Option.some.injEq, Prod.mk.injEq] at H; obtain ⟨rfl, rfl⟩ := H; have p559 : 0 ≤ (x13_4 : Int) := of_decide_eq_true aO; have q559 : x13_4 < (t556.length : Int) := of_decide_eq_true aO; obtain ⟨ad559, e559, hx559_0, hx559_1, hx559_2⟩ := at_T58 (Kd.R_reads' HO_12.out).2.2 x13_4 p559 q559; cases e559; replace p559 := eq_true p559; replace q559 := eq_true q559; have p560 : 0 ≤ (x13_4 : Int) := of_decide_eq_true aO; have q560 : x13_4 < (l0.length : Int) := of_decide_eq_true aO; obtain ⟨ad560, e560, hx560_0, hx560_1, hx560_2⟩ := at_T58 HR0.out x13_4 p560 q560; cases e560; replace hx560_0 := cX HB hx560_0; replace hx560_1 := cX HB hx560_1; replace hx560_2 := cX HB hx560_2; replace p560 := eq_true p560; replace q560 := eq_true q560
                  go_wp2
                  repeat (go_quiet (fail); try go_wp2)
                  go_ret2
                  exact ⟨_, eW, by first | exact Kd.R_nil _ _ _ _ _ | exact Kd.N_nil _ _ _ _ _ | exact Kd.V_nil _ _ _ _ _ | exact Kd.Q_nil _ _ _ _ _ | exact Kd.S_nil _ _ _ _ _, bO HB.out⟩
                 ·rw [if_neg c22] at H
                  have c22b0 : (!(((rd_T58 t556 x13_4).f0) == ((rd_T58 l0 x13_4).f0)) || (!(((rd_T58 t556 x13_4).f1) == ((rd_T58 l0 x13_4).f1)) || (!(((rd_T58 t556 x13_4).f2) == ((rd_T58 l0 x13_4).f2))))) = false := by simpa using c22
                  clear c22; have H' := Aside0.mk H; clear H; have p559 : 0 ≤ (x13_4 : Int) := of_decide_eq_true aO; have q559 : x13_4 < (t556.length : Int) := of_decide_eq_true aO; obtain ⟨ad559, e559, hx559_0, hx559_1, hx559_2⟩ := at_T58 (Kd.R_reads' HO_12.out).2.2 x13_4 p559 q559; cases e559; replace p559 := eq_true p559; replace q559 := eq_true q559; have p560 : 0 ≤ (x13_4 : Int) := of_decide_eq_true aO; have q560 : x13_4 < (l0.length : Int) := of_decide_eq_true aO; obtain ⟨ad560, e560, hx560_0, hx560_1, hx560_2⟩ := at_T58 HR0.out x13_4 p560 q560; cases e560; replace hx560_0 := cX HB hx560_0; replace hx560_1 := cX HB hx560_1; replace hx560_2 := cX HB hx560_2; replace p560 := eq_true p560; replace q560 := eq_true q560
                  go_wp2
                  repeat (go_quiet (fail); try go_wp2)
                  go_roundg k4
                  case measure => have := HJ2.out; have := HK2.out; have := HK3.out; have := HK4.out; omega
                  case rel => exact ⟨(wrap64 (x13_4 + 1)), sI, H', ⟨by have := HJ2.out; have := HK2.out; have := HK3.out; have := HK4.out; omega⟩, ⟨rO HO_8.out⟩, ⟨rO HO_12.out⟩, ⟨bO HB.out⟩⟩
                ·rw [if_neg c21] at H; exact absurd H (by simp)
               ·rw [if_neg c20] at H; exact absurd H (by simp)
              ·rw [if_neg c19] at H; have c19b0 := decide_eq_false c19; clear c19; simp only [Option.some.injEq, Prod.mk.injEq] at H; obtain ⟨rfl, rfl⟩ := H
               go_wp2
               repeat (go_quiet (fail); try go_wp2)
               go_ret2
               exact ⟨_, eW, rO HO_8.out, bO HB.out⟩
           ·rw [if_neg c15] at H; obtain ⟨c15b0, c15b1⟩ := bn c15
            have c15b2 : (t556.length == l0.length) = false := by first | simpa using c15 | (simp at c15 ⊢; omega)
            simp only [Option.some.injEq, Prod.mk.injEq] at H; obtain ⟨rfl, rfl⟩ := H; obtain ⟨Ao23, co23, eo23⟩ := Kd.R_slice HO_8.out; subst eo23
            go_wp2_with (first | (go_at_call 63; (with_reducible refine (tabardref11_Cubes.calls k3 _ _ x8_3 0 0 t556 _ ?s1 ?s2 A14.out).mono ?_); (case s1 => exact cO (Kd.R_reads' HO_8.out).2.2); (case s2 => exact (Kd.R_reads' HO_8.out).2.1); rintro e w24 ⟨v557, rfl, ho0, hb⟩; replace HO_8 := rB HO_8 hb; have HO558 := rW ho0 (bO HB.out); replace HB := hS0 HB hb; (try clear hb); (try clear hb2); (try clear hk); (try clear hi); (try clear ho0); obtain ⟨Ao25, co25, eo25⟩ := Kd.R_slice HO558.out; subst eo25))
            repeat (go_quiet (first | (go_at_call 63; (with_reducible refine (tabardref11_Cubes.calls k3 _ _ x8_3 0 0 t556 _ ?s1 ?s2 A14.out).mono ?_); (case s1 => exact cO (Kd.R_reads' HO_8.out).2.2); (case s2 => exact (Kd.R_reads' HO_8.out).2.1); rintro e w24 ⟨v557, rfl, ho0, hb⟩; replace HO_8 := rB HO_8 hb; have HO558 := rW ho0 (bO HB.out); replace HB := hS0 HB hb; (try clear hb); (try clear hb2); (try clear hk); (try clear hi); (try clear ho0); obtain ⟨Ao25, co25, eo25⟩ := Kd.R_slice HO558.out; subst eo25)); try go_wp2_with (first | (go_at_call 63; (with_reducible refine (tabardref11_Cubes.calls k3 _ _ x8_3 0 0 t556 _ ?s1 ?s2 A14.out).mono ?_); (case s1 => exact cO (Kd.R_reads' HO_8.out).2.2); (case s2 => exact (Kd.R_reads' HO_8.out).2.1); rintro e w24 ⟨v557, rfl, ho0, hb⟩; replace HO_8 := rB HO_8 hb; have HO558 := rW ho0 (bO HB.out); replace HB := hS0 HB hb; (try clear hb); (try clear hb2); (try clear hk); (try clear hi); (try clear ho0); obtain ⟨Ao25, co25, eo25⟩ := Kd.R_slice HO558.out; subst eo25)))
            go_ret2
            exact ⟨_, eW, by first | exact Kd.R_nil _ _ _ _ _ | exact Kd.N_nil _ _ _ _ _ | exact Kd.V_nil _ _ _ _ _ | exact Kd.Q_nil _ _ _ _ _ | exact Kd.S_nil _ _ _ _ _, bO HB.out⟩

end Go.Proofs.Ytghfclgcgecgdaa.X
namespace Go.Proofs.Ytghfclgcgecgdaa.X
open Go.RowKit Go.Proofs.YtghfclgcgecgdaaW.PrintWords Go.Proofs.YtghfclgcgecgdaaW.PrintLast Go.Proofs.YtghfclgcgecgdaaW.PrintMore
attribute [local go_sem] max2_int min2_int max_two min_two max_three min_three max_four min_four
set_option linter.unusedVariables false
set_option linter.unusedSimpArgs false

/-! ### tabardref11_Right: function 45 -/
def tabardref11_Right.l0 : Nat → Int → List Int → Int → Option (Bool)
 | 0, _, _, _ => none
 | k + 1, x2, x7, x9 => if x9 < (x7.length : Int) then (if 0 ≤ x9 then (if (rd x7 x9) ≥ x2 then (some false) else (tabardref11_Right.l0 k x2 x7 (wrap64 (x9 + 1)))) else (none)) else (some true)
def tabardref11_Right.f (k : Nat) (l0 : List (S58)) (a1 : Int) (a2 : Int) : Option (Bool) := (tabardref11_Unpack.f k l0 a1).bind fun bt561 => (if bt561.2 = 0 then (tabardref11_Right.l0 k a2 bt561.1 0) else (some false))
theorem tabardref11_Right.mono_l : ∀ k, (∀ y0 y1 y2, LeO (tabardref11_Right.l0 k y0 y1 y2) (tabardref11_Right.l0 (k + 1) y0 y1 y2))
 | 0 => fun _ _ _ r h => by simp [tabardref11_Right.l0] at h
 | k + 1 => by
  have ih0 := tabardref11_Right.mono_l k
  ·intro y0 y1 y2
   unfold tabardref11_Right.l0
   repeat' first | (with_reducible first | exact ih0 _ _ _ | exact tabardref11_Unpack.mono _ _ _ | exact lA | apply lI | refine lB ?_ fun _ => ?_) | exact lN _ | apply lI | refine lB ?_ fun _ => ?_
theorem tabardref11_Right.mono : ∀ a0 a1 a2 k, LeO (tabardref11_Right.f k a0 a1 a2) (tabardref11_Right.f (k + 1) a0 a1 a2) := by
 intro a0 a1 a2 k; have ih0 := tabardref11_Right.mono_l k
 unfold tabardref11_Right.f
 repeat' first | (with_reducible first | exact ih0 _ _ _ | exact tabardref11_Unpack.mono _ _ _ | exact lA | apply lI | refine lB ?_ fun _ => ?_) | exact lN _ | apply lI | refine lB ?_ fun _ => ?_
set_option maxHeartbeats 8000000 in
set_option maxRecDepth 100000 in
theorem tabardref11_Right.calls (k : Nat) (A0 : Option Addr) (c0 : Nat) (l0 : List (S58)) (a1 : Int) (a2 : Int) (r : Bool) (w : World) (hr0 : Kd.C k58 w A0 l0.length l0) (hc0 : l0.length ≤ c0) (h : tabardref11_Right.f k l0 a1 a2 = some r) :
  Calls Try.prog 45 #[.slice A0 l0.length c0, .int .i64 a1, .int .i64 a2] w fun e w' => e = .returned (.bool r) ∧ Below w.heap.size w w' := by
 have HR0 := Aside0.mk hr0; have HC0 := Aside0.mk hc0; clear hr0 hc0; have HB := Aside0.mk (Below.refl w.heap.size w); have H : ((tabardref11_Unpack.f k l0 a1).bind fun bt561 => (if bt561.2 = 0 then (tabardref11_Right.l0 k a2 bt561.1 0) else (some false))) = some r := h; clear h; replace H := Option.bind_eq_some_iff.mp H; obtain ⟨⟨t561, t562⟩, A40, H⟩ := H; replace H : (if t562 = 0 then (tabardref11_Right.l0 k a2 t561 0) else (some false)) = some r := H; have A4 := Aside0.mk A40; clear A40
 by_cases c5 : t562 = 0
 ·rw [if_pos c5] at H; obtain ⟨c5b0, c5b1⟩ := bq c5; clear c5; have H' := Aside0.mk H; clear H
  go_enter Try.func45, Try.ntmps45
  go_wp2_with (first | ((with_reducible refine gate_callee (f := 46) rfl ?_); refine gL_ (some 13) Try.func46 #[.slice A0 l0.length c0, .int .i64 a1] ?_; (with_reducible refine (tabardref11_Unpack.calls k _ _ l0 a1 t561 t562 _ ?s1 ?s2 A4.out).mono ?_); (case s1 => exact cO HR0.out); (case s2 => exact HC0.out); rintro e w6 ⟨v563, rfl, ho0, hb⟩; refine ⟨_, rfl, ?_⟩; have HO564 := rW ho0 (bO HB.out); replace HB := hS0 HB hb; (try clear hb); (try clear hb2); (try clear hk); (try clear hi); (try clear ho0)))
  go_loopg [9] k (fun kq v9 w' => ∃ (x9_1 : Int), v9 = .int .i64 x9_1 ∧ Aside0 (tabardref11_Right.l0 kq a2 t561 x9_1 = some r) ∧ Aside0 (kq ≤ k) ∧ Aside0 (Kd.R (Kd.int .i64) 3 w' w.heap.size (fun _ => True) v563 t561) ∧ Aside0 (Below w.heap.size w w'))
  case atStart => exact ⟨(0), sI, H', ⟨Nat.le_refl _⟩, ⟨rO HO564.out⟩, ⟨bO HB.out⟩⟩
  case round =>
   clear H'
   try clear p2
   try clear c4
   try clear c5
   try clear c5b0
   try clear c5b1
   obtain ⟨x9_1, rfl, HA, HK1, HO_7, HB⟩ := hrel; cases gk with
   | zero => exact absurd HA.out (by simp [tabardref11_Right.l0])
   | succ k1 =>
    have H := HA.out; clear HA; simp only [tabardref11_Right.l0] at H
    by_cases c7 : x9_1 < (t561.length : Int)
    ·rw [if_pos c7] at H; have c7b0 := decide_eq_true c7; clear c7
     by_cases c8 : 0 ≤ x9_1
     ·rw [if_pos c8] at H; have c8b0 := decide_eq_true c8; clear c8
      by_cases c9 : (rd t561 x9_1) ≥ a2
      ·rw [if_pos c9] at H; have c9b0 := decide_eq_true c9; clear c9; obtain rfl := Option.some.inj H; obtain ⟨Ao10, co10, eo10⟩ := Kd.R_slice HO_7.out; subst eo10; have p565 : 0 ≤ (x9_1 : Int) := of_decide_eq_true aO; have q565 : x9_1 < (t561.length : Int) := of_decide_eq_true aO; obtain ⟨ad565, e565, hx565_0⟩ := Kd.at_int (Kd.R_reads' HO_7.out).2.2 x9_1 p565 q565; cases e565; replace p565 := eq_true p565; replace q565 := eq_true q565
       go_wp2
       go_ret
       exact ⟨eW, bO HB.out⟩
      ·rw [if_neg c9] at H; have c9b0 := decide_eq_false c9; clear c9; have H' := Aside0.mk H; clear H; obtain ⟨Ao11, co11, eo11⟩ := Kd.R_slice HO_7.out; subst eo11; have p565 : 0 ≤ (x9_1 : Int) := of_decide_eq_true aO; have q565 : x9_1 < (t561.length : Int) := of_decide_eq_true aO; obtain ⟨ad565, e565, hx565_0⟩ := Kd.at_int (Kd.R_reads' HO_7.out).2.2 x9_1 p565 q565; cases e565; replace p565 := eq_true p565; replace q565 := eq_true q565
       go_wp2
       go_roundg k1
       case measure => have := HK1.out; omega
       case rel => exact ⟨(wrap64 (x9_1 + 1)), sI, H', ⟨by have := HK1.out; omega⟩, ⟨rO HO_7.out⟩, ⟨bO HB.out⟩⟩
     ·rw [if_neg c8] at H; exact absurd H (by simp)
    ·rw [if_neg c7] at H; have c7b0 := decide_eq_false c7; clear c7; obtain rfl := Option.some.inj H; obtain ⟨Ao12, co12, eo12⟩ := Kd.R_slice HO_7.out; subst eo12
     go_wp2
     go_ret
     exact ⟨eW, bO HB.out⟩
 ·rw [if_neg c5] at H; obtain ⟨c5b0, c5b1⟩ := bn c5; obtain rfl := Option.some.inj H
  go_enter Try.func45, Try.ntmps45
  go_wp2_with (first | ((with_reducible refine gate_callee (f := 46) rfl ?_); refine gL_ (some 13) Try.func46 #[.slice A0 l0.length c0, .int .i64 a1] ?_; (with_reducible refine (tabardref11_Unpack.calls k _ _ l0 a1 t561 t562 _ ?s1 ?s2 A4.out).mono ?_); (case s1 => exact cO HR0.out); (case s2 => exact HC0.out); rintro e w13 ⟨v563, rfl, ho0, hb⟩; refine ⟨_, rfl, ?_⟩; have HO564 := rW ho0 (bO HB.out); replace HB := hS0 HB hb; (try clear hb); (try clear hb2); (try clear hk); (try clear hi); (try clear ho0)))
  go_ret
  exact ⟨eW, bO HB.out⟩

end Go.Proofs.Ytghfclgcgecgdaa.X

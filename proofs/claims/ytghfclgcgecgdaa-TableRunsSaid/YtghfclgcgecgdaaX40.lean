/- What the functions of this seat compute, and that the program's calls come to just that: written by this session's own program out of the translation; no condition. -/
import Derived.Test.YtghfclgcgecgdaaX0
namespace Go.Proofs.Ytghfclgcgecgdaa.X
open Go.RowKit Go.Proofs.YtghfclgcgecgdaaW.PrintWords Go.Proofs.YtghfclgcgecgdaaW.PrintLast Go.Proofs.YtghfclgcgecgdaaW.PrintMore
attribute [local go_sem] max2_int min2_int max_two min_two max_three min_three max_four min_four   -- for this text's walks alone
set_option linter.unusedVariables false
set_option linter.unusedSimpArgs false

/-! ### tabardref11_At: function 64 -/
def tabardref11_At.l0 : Nat → List (S58) → Int → Int → Option (Int × Bool)
 | 0, _, _, _ => none
 | k + 1, x0, x1, x6 => if x6 < (x0.length : Int) then (if 0 ≤ x6 then (if (Go.bits .and .i64 x1 ((rd_T58 x0 x6).f0)) = ((rd_T58 x0 x6).f1) then (some ((rd_T58 x0 x6).f2, true)) else (tabardref11_At.l0 k x0 x1 (wrap64 (x6 + 1)))) else (none)) else (some (0, false))
def tabardref11_At.f (k : Nat) (l0 : List (S58)) (a1 : Int) : Option (Int × Bool) := tabardref11_At.l0 k l0 a1 0
theorem tabardref11_At.mono_l : ∀ k, (∀ y0 y1 y2, LeO (tabardref11_At.l0 k y0 y1 y2) (tabardref11_At.l0 (k + 1) y0 y1 y2))
 | 0 => fun _ _ _ r h => by simp [tabardref11_At.l0] at h
 | k + 1 => by
  have ih0 := tabardref11_At.mono_l k
  ·intro y0 y1 y2
   unfold tabardref11_At.l0
   repeat' first
   | (with_reducible exact ih0 _ _ _)
   | (with_reducible exact LeO.refl _)
   | (with_reducible exact LeO.none _)
   | (with_reducible refine LeO.ite ?_ ?_)
   | (with_reducible refine LeO.bind ?_ (fun _ => ?_))
   | exact LeO.none _
   | refine LeO.ite ?_ ?_
   | refine LeO.bind ?_ (fun _ => ?_)
theorem tabardref11_At.mono : ∀ a0 a1 k, LeO (tabardref11_At.f k a0 a1) (tabardref11_At.f (k + 1) a0 a1) := by
 intro a0 a1 k; have ih0 := tabardref11_At.mono_l k
 unfold tabardref11_At.f
 repeat' first
   | (with_reducible exact ih0 _ _ _)
   | (with_reducible exact LeO.refl _)
   | (with_reducible exact LeO.none _)
   | (with_reducible refine LeO.ite ?_ ?_)
   | (with_reducible refine LeO.bind ?_ (fun _ => ?_))
   | exact LeO.none _
   | refine LeO.ite ?_ ?_
   | refine LeO.bind ?_ (fun _ => ?_)
set_option maxHeartbeats 8000000 in
set_option maxRecDepth 100000 in
theorem tabardref11_At.calls (k : Nat) (A0 : Option Addr) (c0 : Nat) (l0 : List (S58)) (a1 : Int) (r1 : Int) (r2 : Bool) (w : World) (hr0 : Kd.C k58 w A0 l0.length l0) (hc0 : l0.length ≤ c0) (h : tabardref11_At.f k l0 a1 = some (r1, r2)) :
  Calls Try.prog 64 #[.slice A0 l0.length c0, .int .i64 a1] w fun e w' => e = .returned (.tuple #[.int .i64 r1, .bool r2]) ∧ Drawn0 w w' := by
 have HR0 := Aside0.mk hr0; have HC0 := Aside0.mk hc0; clear hr0 hc0; have H : (tabardref11_At.l0 k l0 a1 0) = some (r1, r2) := h; clear h; have H' := Aside0.mk H; clear H
 go_enter Try.func64, Try.ntmps64
 go_wp2
 repeat (go_quiet (fail); try go_wp2)
 go_loopg [6] k (fun kq v6 w' => ∃ (x6_1 : Int), v6 = .int .i64 x6_1 ∧ Aside0 (tabardref11_At.l0 kq l0 a1 x6_1 = some (r1, r2)) ∧ Aside0 (kq ≤ k) ∧ Drawn0 w w')
 case atStart => exact ⟨(0), (by first | rfl | (simp; done) | (simp [*]; done)), H', ⟨Nat.le_refl _⟩, by repeat (first | exact Drawn0.refl _ | apply Drawn0.step)⟩
 case round =>
  clear H'
  try clear p2
  obtain ⟨x6_1, rfl, HA, HK1, ⟨m1, rfl⟩⟩ := hrel; cases gk with
  | zero => exact absurd HA.out (by simp [tabardref11_At.l0])
  | succ k1 =>
   have H := HA.out; clear HA; simp only [tabardref11_At.l0] at H
   by_cases c3 : x6_1 < (l0.length : Int)
   ·rw [if_pos c3] at H; have c3b0 : decide (x6_1 < (l0.length : Int)) = true := decide_eq_true c3; clear c3
    by_cases c4 : 0 ≤ x6_1
    ·rw [if_pos c4] at H; have c4b0 : decide (0 ≤ x6_1) = true := decide_eq_true c4; clear c4
     by_cases c5 : (Go.bits .and .i64 a1 ((rd_T58 l0 x6_1).f0)) = ((rd_T58 l0 x6_1).f1)
     ·rw [if_pos c5] at H; have c5b0 : ((Go.bits .and .i64 a1 ((rd_T58 l0 x6_1).f0)) == ((rd_T58 l0 x6_1).f1)) = true := beq_iff_eq.mpr c5; have c5b1 : ((Go.bits .and .i64 a1 ((rd_T58 l0 x6_1).f0)) != ((rd_T58 l0 x6_1).f1)) = false := bne_eq_false_iff_eq.mpr c5; clear c5; simp only [Option.some.injEq, Prod.mk.injEq] at H; obtain ⟨rfl, rfl⟩ := H; have p548 : 0 ≤ (x6_1 : Int) := of_decide_eq_true aO; have q548 : x6_1 < (l0.length : Int) := of_decide_eq_true aO; obtain ⟨ad548, e548, hx548_0, hx548_1, hx548_2⟩ := at_T58 HR0.out x6_1 p548 q548; cases e548; replace p548 := eq_true p548; replace q548 := eq_true q548; have p549 : 0 ≤ (x6_1 : Int) := of_decide_eq_true aO; have q549 : x6_1 < (l0.length : Int) := of_decide_eq_true aO; obtain ⟨ad549, e549, hx549_0, hx549_1, hx549_2⟩ := at_T58 HR0.out x6_1 p549 q549; have he_ : ad548 = ad549 := (by injection e549); subst he_; replace p549 := eq_true p549; replace q549 := eq_true q549; have p550 : 0 ≤ (x6_1 : Int) := of_decide_eq_true aO; have q550 : x6_1 < (l0.length : Int) := of_decide_eq_true aO; obtain ⟨ad550, e550, hx550_0, hx550_1, hx550_2⟩ := at_T58 HR0.out x6_1 p550 q550; have he_ : ad548 = ad550 := (by injection e550); subst he_; replace p550 := eq_true p550; replace q550 := eq_true q550
      go_wp2
      repeat (go_quiet (fail); try go_wp2)
      go_ret2
      exact ⟨by first | rfl | (simp; done) | (simp [*]; done), by repeat (first | exact Drawn0.refl _ | apply Drawn0.step)⟩
     ·rw [if_neg c5] at H; have c5b0 : ((Go.bits .and .i64 a1 ((rd_T58 l0 x6_1).f0)) == ((rd_T58 l0 x6_1).f1)) = false := beq_eq_false_iff_ne.mpr c5; have c5b1 : ((Go.bits .and .i64 a1 ((rd_T58 l0 x6_1).f0)) != ((rd_T58 l0 x6_1).f1)) = true := bne_iff_ne.mpr c5; have H' := Aside0.mk H; clear H; have p548 : 0 ≤ (x6_1 : Int) := of_decide_eq_true aO; have q548 : x6_1 < (l0.length : Int) := of_decide_eq_true aO; obtain ⟨ad548, e548, hx548_0, hx548_1, hx548_2⟩ := at_T58 HR0.out x6_1 p548 q548; cases e548; replace p548 := eq_true p548; replace q548 := eq_true q548; have p549 : 0 ≤ (x6_1 : Int) := of_decide_eq_true aO; have q549 : x6_1 < (l0.length : Int) := of_decide_eq_true aO; obtain ⟨ad549, e549, hx549_0, hx549_1, hx549_2⟩ := at_T58 HR0.out x6_1 p549 q549; have he_ : ad548 = ad549 := (by injection e549); subst he_; replace p549 := eq_true p549; replace q549 := eq_true q549
      go_wp2
      repeat (go_quiet (fail); try go_wp2)
      go_roundg k1
      case measure => have := HK1.out; omega
      case rel => exact ⟨(wrap64 (x6_1 + 1)), (by first | rfl | (simp; done) | (simp [*]; done)), H', ⟨by have := HK1.out; omega⟩, by repeat (first | exact Drawn0.refl _ | apply Drawn0.step)⟩
    ·rw [if_neg c4] at H; exact absurd H (by simp)
   ·rw [if_neg c3] at H; have c3b0 : decide (x6_1 < (l0.length : Int)) = false := decide_eq_false c3; clear c3; simp only [Option.some.injEq, Prod.mk.injEq] at H; obtain ⟨rfl, rfl⟩ := H
    go_wp2
    repeat (go_quiet (fail); try go_wp2)
    go_ret2
    exact ⟨by first | rfl | (simp; done) | (simp [*]; done), by repeat (first | exact Drawn0.refl _ | apply Drawn0.step)⟩

end Go.Proofs.Ytghfclgcgecgdaa.X

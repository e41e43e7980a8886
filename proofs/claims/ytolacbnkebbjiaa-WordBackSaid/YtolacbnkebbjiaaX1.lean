/- What the functions of this seat compute, and that the program's calls come to just that: written by this session's own program out of the translation; no condition. -/
import Derived.Test.YtolacbnkebbjiaaX0
namespace Go.Proofs.Ytolacbnkebbjiaa.X
open Go.RowKit Go.Proofs.YtolacbnkebbjiaaW.PrintWords Go.Proofs.YtolacbnkebbjiaaW.PrintLast Go.Proofs.YtolacbnkebbjiaaW.PrintMore
attribute [local go_sem] max2_int min2_int max_two min_two max_three min_three max_four min_four   -- for this text's walks alone
set_option linter.unusedVariables false
set_option linter.unusedSimpArgs false

/-! ### bits_Len64: function 36 -/
def bits_Len64.f (a0 : Int) : Option Int := if 0 ≤ a0 ∧ a0 ≤ 18446744073709551615 then some ((Go.Lib.bitLen a0.toNat : Nat) : Int) else none
theorem bits_Len64.calls (a0 : Int) (r : Int) (w : World) (h : bits_Len64.f a0 = some r) :
  Calls Try.prog 36 #[.int .u64 a0] w fun e w' => e = .returned (.int .i64 r) ∧ Drawn0 w w' := by
 unfold bits_Len64.f at h
 by_cases hc : 0 ≤ a0 ∧ a0 ≤ 18446744073709551615
 ·rw [if_pos hc] at h
  obtain rfl := Option.some.inj h
  refine (Try.bits_Len64 a0 w hc.1 hc.2).mono ?_
  rintro e w' ⟨rfl, rfl⟩
  exact ⟨rfl, Drawn0.refl _⟩
 ·rw [if_neg hc] at h; cases h

/-! ### word_Length: function 22 -/
def word_Length.f (a0 : Int) : Option (Int) := if a0 < 0 then ((bits_Len64.f (IntKind.u64.wrap (Go.bits .xor .i64 (-1) a0))).bind fun t101 => (some (wrap64 (t101 + 1)))) else ((bits_Len64.f (IntKind.u64.wrap (a0))).bind fun t102 => (some (wrap64 (t102 + 1))))
set_option maxHeartbeats 8000000 in
set_option maxRecDepth 100000 in
theorem word_Length.calls (a0 : Int) (r : Int) (w : World) (h : word_Length.f a0 = some r) :
  Calls Try.prog 22 #[.int .i64 a0] w fun e w' => e = .returned (.int .i64 r) ∧ Drawn0 w w' := by
 have H : (if a0 < 0 then ((bits_Len64.f (IntKind.u64.wrap (Go.bits .xor .i64 (-1) a0))).bind fun t101 => (some (wrap64 (t101 + 1)))) else ((bits_Len64.f (IntKind.u64.wrap (a0))).bind fun t102 => (some (wrap64 (t102 + 1))))) = some r := h
 clear h
 by_cases c2 : a0 < 0
 ·rw [if_pos c2] at H
  have c2b0 : decide (a0 < 0) = true := decide_eq_true c2
  clear c2
  replace H := Option.bind_eq_some_iff.mp H
  obtain ⟨t101, A30, H⟩ := H
  replace H : (some (wrap64 (t101 + 1))) = some r := H
  have A3 := Aside0.mk A30
  clear A30
  obtain rfl := Option.some.inj H
  go_enter Try.func22, Try.ntmps22
  go_wp2_with (first | ((with_reducible refine gate_callee (f := 36) rfl ?_); refine goesL_ (some 9) rfl rfl Try.func36 (by kernel_rfl) rfl #[.int .u64 (IntKind.u64.wrap (Go.bits .xor .i64 (-1) a0))] rfl mO ?_; (with_reducible refine (bits_Len64.calls (IntKind.u64.wrap (Go.bits .xor .i64 (-1) a0)) t101 _ A3.out).mono ?_); rintro e w' ⟨rfl, ⟨nd, rfl⟩⟩; refine ⟨_, rfl, ?_⟩))
  go_ret
  exact ⟨by first | rfl | (simp; done) | (simp [*]; done), by repeat (first | exact Drawn0.refl _ | apply Drawn0.step)⟩
 ·rw [if_neg c2] at H
  have c2b0 : decide (a0 < 0) = false := decide_eq_false c2
  clear c2
  replace H := Option.bind_eq_some_iff.mp H
  obtain ⟨t102, A40, H⟩ := H
  replace H : (some (wrap64 (t102 + 1))) = some r := H
  have A4 := Aside0.mk A40
  clear A40
  obtain rfl := Option.some.inj H
  go_enter Try.func22, Try.ntmps22
  go_wp2_with (first | ((with_reducible refine gate_callee (f := 36) rfl ?_); refine goesL_ (some 9) rfl rfl Try.func36 (by kernel_rfl) rfl #[.int .u64 (IntKind.u64.wrap (a0))] rfl mO ?_; (with_reducible refine (bits_Len64.calls (IntKind.u64.wrap (a0)) t102 _ A4.out).mono ?_); rintro e w' ⟨rfl, ⟨nd, rfl⟩⟩; refine ⟨_, rfl, ?_⟩))
  go_ret
  exact ⟨by first | rfl | (simp; done) | (simp [*]; done), by repeat (first | exact Drawn0.refl _ | apply Drawn0.step)⟩

/-! ### word_Longest: function 12 -/
def word_Longest.l0 : Nat → Int → List Int → Int → Int → Option (Int)
 | 0, _, _, _, _ => none
 | k + 1, x3, x6, x7, x8 => if x8 < x7 then (if 0 ≤ x8 then (if x8 < (x6.length : Int) then ((word_Length.f (rd x6 x8)).bind fun t104 => (word_Longest.l0 k (mx x3 t104) x6 x7 (wrap64 (x8 + 1)))) else (none)) else (none)) else (some x3)
def word_Longest.f (k : Nat) (l0 : List Int) : Option (Int) := word_Longest.l0 k 1 l0 (l0.length : Int) 0
theorem word_Longest.mono_l : ∀ k, (∀ y0 y1 y2 y3, LeO (word_Longest.l0 k y0 y1 y2 y3) (word_Longest.l0 (k + 1) y0 y1 y2 y3))
 | 0 => fun _ _ _ _ r h => by simp [word_Longest.l0] at h
 | k + 1 => by
  have ih0 := word_Longest.mono_l k
  ·intro y0 y1 y2 y3
   unfold word_Longest.l0
   repeat' first
   | (with_reducible exact ih0 _ _ _ _)
   | (with_reducible exact LeO.refl _)
   | (with_reducible exact LeO.none _)
   | (with_reducible refine LeO.ite ?_ ?_)
   | (with_reducible refine LeO.bind ?_ (fun _ => ?_))
   | exact ih0 _ _ _ _
   | exact LeO.none _
   | refine LeO.ite ?_ ?_
   | refine LeO.bind ?_ (fun _ => ?_)
theorem word_Longest.mono : ∀ a0 k, LeO (word_Longest.f k a0) (word_Longest.f (k + 1) a0) := by
 intro a0 k
 have ih0 := word_Longest.mono_l k
 unfold word_Longest.f
 repeat' first
   | (with_reducible exact ih0 _ _ _ _)
   | (with_reducible exact LeO.refl _)
   | (with_reducible exact LeO.none _)
   | (with_reducible refine LeO.ite ?_ ?_)
   | (with_reducible refine LeO.bind ?_ (fun _ => ?_))
   | exact ih0 _ _ _ _
   | exact LeO.none _
   | refine LeO.ite ?_ ?_
   | refine LeO.bind ?_ (fun _ => ?_)
set_option maxHeartbeats 8000000 in
set_option maxRecDepth 100000 in
theorem word_Longest.calls (k : Nat) (A0 : Option Addr) (c0 : Nat) (l0 : List Int) (r : Int) (w : World) (hr0 : Kd.C (Kd.int .i64) w A0 l0.length l0) (hc0 : l0.length ≤ c0) (h : word_Longest.f k l0 = some r) :
  Calls Try.prog 12 #[.slice A0 l0.length c0] w fun e w' => e = .returned (.int .i64 r) ∧ Below w.heap.size w w' := by
 have HR0 := Aside0.mk hr0
 have HC0 := Aside0.mk hc0
 clear hr0 hc0
 have HB := Aside0.mk (Below.refl w.heap.size w)
 have H : (word_Longest.l0 k 1 l0 (l0.length : Int) 0) = some r := h
 clear h
 have H' := Aside0.mk H
 clear H
 go_enter Try.func12, Try.ntmps12
 go_wp2
 go_loopg [3, 8] k (fun kq v3 v8 w' => ∃ (x3_1 : Int) (x8_1 : Int), v3 = .int .i64 x3_1 ∧ v8 = .int .i64 x8_1 ∧ Aside0 (word_Longest.l0 kq x3_1 l0 (l0.length : Int) x8_1 = some r) ∧ Aside0 (kq ≤ k) ∧ Aside0 (Below w.heap.size w w'))
 case atStart => exact ⟨(1), (0), (by first | rfl | (simp; done) | (simp [*]; done)), (by first | rfl | (simp; done) | (simp [*]; done)), H', ⟨Nat.le_refl _⟩, ⟨bO HB.out⟩⟩
 case round =>
  clear H'
  try clear c1
  obtain ⟨x3_1, x8_1, rfl, rfl, HA, HK1, HB⟩ := hrel
  cases gk with
  | zero => exact absurd HA.out (by simp [word_Longest.l0])
  | succ k1 =>
   have H := HA.out
   clear HA
   simp only [word_Longest.l0] at H
   by_cases c2 : x8_1 < (l0.length : Int)
   ·rw [if_pos c2] at H
    have c2b0 : decide (x8_1 < (l0.length : Int)) = true := decide_eq_true c2
    clear c2
    by_cases c3 : 0 ≤ x8_1
    ·rw [if_pos c3] at H
     have c3b0 : decide (0 ≤ x8_1) = true := decide_eq_true c3
     clear c3
     by_cases c4 : x8_1 < (l0.length : Int)
     ·rw [if_pos c4] at H
      have c4b0 : decide (x8_1 < (l0.length : Int)) = true := decide_eq_true c4
      clear c4
      replace H := Option.bind_eq_some_iff.mp H
      obtain ⟨t104, A50, H⟩ := H
      replace H : (word_Longest.l0 k1 (mx x3_1 t104) l0 (l0.length : Int) (wrap64 (x8_1 + 1))) = some r := H
      have A5 := Aside0.mk A50
      clear A50
      obtain ⟨ji6, hji6⟩ : ∃ j_ : Int, (mx x3_1 t104) = j_ := ⟨_, rfl⟩
      replace H : (word_Longest.l0 k1 ji6 l0 (l0.length : Int) (wrap64 (x8_1 + 1))) = some r := by first | (rw [hji6] at H; exact H) | (simp only [hji6] at H ⊢; exact H)
      (try rw [hji6] at A5)
      have hji6_ : (if x3_1 < t104 then t104 else x3_1) = ji6 := hji6
      have H' := Aside0.mk H
      clear H
      have p103 : 0 ≤ (x8_1 : Int) := of_decide_eq_true aO
      have q103 : x8_1 < (l0.length : Int) := of_decide_eq_true aO
      obtain ⟨ad103, e103, hx103_0⟩ := Kd.at_int HR0.out x8_1 p103 q103
      cases e103
      replace hx103_0 := (HB.out.cell (World.block_lt_of_cell? w _ hx103_0)).trans hx103_0
      replace p103 := eq_true p103
      replace q103 := eq_true q103
      go_wp2_with (first | ((with_reducible refine gate_callee (f := 22) rfl ?_); refine goesL_ (some 14) rfl rfl Try.func22 (by kernel_rfl) rfl #[.int .i64 (rd l0 x8_1)] rfl mO ?_; (with_reducible refine (word_Length.calls (rd l0 x8_1) t104 _ A5.out).mono ?_); rintro e w' ⟨rfl, ⟨nd, rfl⟩⟩; refine ⟨_, rfl, ?_⟩))
      go_roundg k1
      case measure => have := HK1.out; omega
      case rel => exact ⟨(ji6), (wrap64 (x8_1 + 1)), (by first | rfl | (simp; done) | (simp only [← hji6] <;> (first | rfl | simp)) | (simp [*]; done)), (by first | rfl | (simp; done) | (simp [*]; done)), H', ⟨by have := HK1.out; omega⟩, ⟨bO HB.out⟩⟩
     ·rw [if_neg c4] at H
      exact absurd H (by simp)
    ·rw [if_neg c3] at H
     exact absurd H (by simp)
   ·rw [if_neg c2] at H
    have c2b0 : decide (x8_1 < (l0.length : Int)) = false := decide_eq_false c2
    clear c2
    obtain rfl := Option.some.inj H
    go_wp2
    go_ret
    exact ⟨by first | rfl | (simp [errW_none, errW_some] <;> rfl) | (simp [*, errW_none, errW_some] <;> rfl), bO HB.out⟩

end Go.Proofs.Ytolacbnkebbjiaa.X

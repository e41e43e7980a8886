/- What the functions of this seat compute, and that the program's calls come to just that: written by this session's own program out of the translation; no condition. -/
import Derived.Test.YtghfclgcgecgdaaX0
import Derived.Test.YtghfclgcgecgdaaX30
namespace Go.Proofs.Ytghfclgcgecgdaa.X
open Go.RowKit Go.Proofs.YtghfclgcgecgdaaW.PrintWords Go.Proofs.YtghfclgcgecgdaaW.PrintLast Go.Proofs.YtghfclgcgecgdaaW.PrintMore
attribute [local go_sem] max2_int min2_int max_two min_two max_three min_three max_four min_four   -- for this text's walks alone
set_option linter.unusedVariables false
set_option linter.unusedSimpArgs false

/-! ### tabardref12_Frame: function 32 -/
def tabardref12_Frame.f (k : Nat) (l0 : List ByteArray) (a1 : Int) : Option (Bool) := if (l0.length : Int) ≤ 6 then ((tabardref04_Rises.f k l0).bind fun t419 => (if t419 = true then (if a1 ≥ 1 then (some (decide (a1 ≤ 256))) else (some false)) else (some false))) else (some false)
theorem tabardref12_Frame.mono : ∀ a0 a1 k, LeO (tabardref12_Frame.f k a0 a1) (tabardref12_Frame.f (k + 1) a0 a1) := by
 intro a0 a1 k
 unfold tabardref12_Frame.f
 repeat' first
   | (with_reducible exact tabardref04_Rises.mono _ _)
   | (with_reducible exact LeO.refl _)
   | (with_reducible exact LeO.none _)
   | (with_reducible refine LeO.ite ?_ ?_)
   | (with_reducible refine LeO.bind ?_ (fun _ => ?_))
   | exact LeO.none _
   | refine LeO.ite ?_ ?_
   | refine LeO.bind ?_ (fun _ => ?_)
set_option maxHeartbeats 8000000 in
set_option maxRecDepth 100000 in
theorem tabardref12_Frame.calls (k : Nat) (A0 : Option Addr) (c0 : Nat) (l0 : List ByteArray) (a1 : Int) (r : Bool) (w : World) (hr0 : Kd.C Kd.string w A0 l0.length l0) (hc0 : l0.length ≤ c0) (h : tabardref12_Frame.f k l0 a1 = some r) :
  Calls Try.prog 32 #[.slice A0 l0.length c0, .int .i64 a1] w fun e w' => e = .returned (.bool r) ∧ Below w.heap.size w w' := by
 have HR0 := Aside0.mk hr0; have HC0 := Aside0.mk hc0; clear hr0 hc0; have HB := Aside0.mk (Below.refl w.heap.size w); have H : (if (l0.length : Int) ≤ 6 then ((tabardref04_Rises.f k l0).bind fun t419 => (if t419 = true then (if a1 ≥ 1 then (some (decide (a1 ≤ 256))) else (some false)) else (some false))) else (some false)) = some r := h; clear h
 by_cases c3 : (l0.length : Int) ≤ 6
 ·rw [if_pos c3] at H; have c3b0 : decide ((l0.length : Int) ≤ 6) = true := decide_eq_true c3; have c3b1 : decide (l0.length ≤ 6) = true := decide_eq_true (by omega); clear c3; replace H := Option.bind_eq_some_iff.mp H; obtain ⟨t419, A40, H⟩ := H; replace H : (if t419 = true then (if a1 ≥ 1 then (some (decide (a1 ≤ 256))) else (some false)) else (some false)) = some r := H; have A4 := Aside0.mk A40; clear A40
  by_cases c5 : t419 = true
  ·subst c5
   have H1 : (if a1 ≥ 1 then (some (decide (a1 ≤ 256))) else (some false)) = some r := by rw [if_pos rfl] at H; exact H
   clear H; have H := H1; clear H1
   by_cases c6 : a1 ≥ 1
   ·rw [if_pos c6] at H; have c6b0 : decide (1 ≤ a1) = true := decide_eq_true c6; clear c6; obtain rfl := Option.some.inj H
    go_enter Try.func32, Try.ntmps32
    go_wp2_with (first | (go_at_call 59; (with_reducible refine (tabardref04_Rises.calls k _ _ l0 true _ ?s1 ?s2 A4.out).mono ?_); (case s1 => exact cO HR0.out); (case s2 => exact HC0.out); rintro e w7 ⟨rfl, hb⟩; replace HB := hS0 HB hb; (try clear hb); (try clear hb2); (try clear hk); (try clear hi)))
    go_ret
    exact ⟨eW, bO HB.out⟩
   ·rw [if_neg c6] at H; have c6b0 : decide (1 ≤ a1) = false := decide_eq_false c6; clear c6; obtain rfl := Option.some.inj H
    go_enter Try.func32, Try.ntmps32
    go_wp2_with (first | (go_at_call 59; (with_reducible refine (tabardref04_Rises.calls k _ _ l0 true _ ?s1 ?s2 A4.out).mono ?_); (case s1 => exact cO HR0.out); (case s2 => exact HC0.out); rintro e w8 ⟨rfl, hb⟩; replace HB := hS0 HB hb; (try clear hb); (try clear hb2); (try clear hk); (try clear hi)))
    go_ret
    exact ⟨eW, bO HB.out⟩
  ·replace c5 := Bool.eq_false_iff.mpr c5; subst c5
   have H1 : (some false) = some r := by rw [if_neg (show ¬ (false = true) by decide)] at H; exact H
   clear H; have H := H1; clear H1; obtain rfl := Option.some.inj H
   go_enter Try.func32, Try.ntmps32
   go_wp2_with (first | (go_at_call 59; (with_reducible refine (tabardref04_Rises.calls k _ _ l0 false _ ?s1 ?s2 A4.out).mono ?_); (case s1 => exact cO HR0.out); (case s2 => exact HC0.out); rintro e w9 ⟨rfl, hb⟩; replace HB := hS0 HB hb; (try clear hb); (try clear hb2); (try clear hk); (try clear hi)))
   go_ret
   exact ⟨eW, bO HB.out⟩
 ·rw [if_neg c3] at H; have c3b0 : decide ((l0.length : Int) ≤ 6) = false := decide_eq_false c3; have c3b1 : decide (l0.length ≤ 6) = false := decide_eq_false (by omega); clear c3; obtain rfl := Option.some.inj H
  go_enter Try.func32, Try.ntmps32
  go_wp2
  go_ret
  exact ⟨eW, bO HB.out⟩

/-! ### tabardref12_Letters: function 33 -/
def tabardref12_Letters.l0 : Nat → Int → Int → Int → Option (Int)
 | 0, _, _, _ => none
 | k + 1, x0, x3, x4 => if x4 < x0 then (tabardref12_Letters.l0 k x0 (wrap64 (x3 * 2)) (wrap64 (x4 + 1))) else (some x3)
def tabardref12_Letters.f (k : Nat) (a0 : Int) : Option (Int) := tabardref12_Letters.l0 k a0 1 0
theorem tabardref12_Letters.mono_l : ∀ k, (∀ y0 y1 y2, LeO (tabardref12_Letters.l0 k y0 y1 y2) (tabardref12_Letters.l0 (k + 1) y0 y1 y2))
 | 0 => fun _ _ _ r h => by simp [tabardref12_Letters.l0] at h
 | k + 1 => by
  have ih0 := tabardref12_Letters.mono_l k
  ·intro y0 y1 y2
   unfold tabardref12_Letters.l0
   repeat' first
   | (with_reducible exact ih0 _ _ _)
   | (with_reducible exact LeO.refl _)
   | (with_reducible exact LeO.none _)
   | (with_reducible refine LeO.ite ?_ ?_)
   | (with_reducible refine LeO.bind ?_ (fun _ => ?_))
   | exact LeO.none _
   | refine LeO.ite ?_ ?_
   | refine LeO.bind ?_ (fun _ => ?_)
theorem tabardref12_Letters.mono : ∀ a0 k, LeO (tabardref12_Letters.f k a0) (tabardref12_Letters.f (k + 1) a0) := by
 intro a0 k; have ih0 := tabardref12_Letters.mono_l k
 unfold tabardref12_Letters.f
 repeat' first
   | (with_reducible exact ih0 _ _ _)
   | (with_reducible exact LeO.refl _)
   | (with_reducible exact LeO.none _)
   | (with_reducible refine LeO.ite ?_ ?_)
   | (with_reducible refine LeO.bind ?_ (fun _ => ?_))
   | exact LeO.none _
   | refine LeO.ite ?_ ?_
   | refine LeO.bind ?_ (fun _ => ?_)
set_option maxHeartbeats 8000000 in
set_option maxRecDepth 100000 in
theorem tabardref12_Letters.calls (k : Nat) (a0 : Int) (r : Int) (w : World) (h : tabardref12_Letters.f k a0 = some r) :
  Calls Try.prog 33 #[.int .i64 a0] w fun e w' => e = .returned (.int .i64 r) ∧ Drawn0 w w' := by
 have H : (tabardref12_Letters.l0 k a0 1 0) = some r := h; clear h; have H' := Aside0.mk H; clear H
 go_enter Try.func33, Try.ntmps33
 go_wp2
 go_loopg [3, 4] k (fun kq v3 v4 w' => ∃ (x3_1 : Int) (x4_1 : Int), v3 = .int .i64 x3_1 ∧ v4 = .int .i64 x4_1 ∧ Aside0 (tabardref12_Letters.l0 kq a0 x3_1 x4_1 = some r) ∧ Aside0 (kq ≤ k) ∧ Drawn0 w w')
 case atStart => exact ⟨(1), (0), (by first | rfl | (simp; done) | (simp [*]; done)), (by first | rfl | (simp; done) | (simp [*]; done)), H', ⟨Nat.le_refl _⟩, by repeat (first | exact Drawn0.refl _ | apply Drawn0.step)⟩
 case round =>
  clear H'; obtain ⟨x3_1, x4_1, rfl, rfl, HA, HK1, ⟨m1, rfl⟩⟩ := hrel; cases gk with
  | zero => exact absurd HA.out (by simp [tabardref12_Letters.l0])
  | succ k1 =>
   have H := HA.out; clear HA; simp only [tabardref12_Letters.l0] at H
   by_cases c2 : x4_1 < a0
   ·rw [if_pos c2] at H; have c2b0 : decide (x4_1 < a0) = true := decide_eq_true c2; clear c2; have H' := Aside0.mk H; clear H
    go_wp2
    go_roundg k1
    case measure => have := HK1.out; omega
    case rel => exact ⟨(wrap64 (x3_1 * 2)), (wrap64 (x4_1 + 1)), (by first | rfl | (simp; done) | (simp [*]; done)), (by first | rfl | (simp; done) | (simp [*]; done)), H', ⟨by have := HK1.out; omega⟩, by repeat (first | exact Drawn0.refl _ | apply Drawn0.step)⟩
   ·rw [if_neg c2] at H; have c2b0 : decide (x4_1 < a0) = false := decide_eq_false c2; clear c2; obtain rfl := Option.some.inj H
    go_wp2
    go_ret
    exact ⟨by first | rfl | (simp; done) | (simp [*]; done), by repeat (first | exact Drawn0.refl _ | apply Drawn0.step)⟩

end Go.Proofs.Ytghfclgcgecgdaa.X

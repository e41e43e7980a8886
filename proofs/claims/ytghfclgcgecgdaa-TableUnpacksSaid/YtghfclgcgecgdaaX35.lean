/- What the functions of this seat compute, and that the program's calls come to just that: written by this session's own program out of the translation; no condition. -/
import Derived.Test.YtghfclgcgecgdaaX0
namespace Go.Proofs.Ytghfclgcgecgdaa.X
open Go.RowKit Go.Proofs.YtghfclgcgecgdaaW.PrintWords Go.Proofs.YtghfclgcgecgdaaW.PrintLast Go.Proofs.YtghfclgcgecgdaaW.PrintMore
attribute [local go_sem] max2_int min2_int max_two min_two max_three min_three max_four min_four
set_option linter.unusedVariables false
set_option linter.unusedSimpArgs false

/-! ### tabardlaw12_none: function 17 -/
def tabardlaw12_none.f (l0_0 : List ByteArray) (l0_1 : List Bool) (l0_2 : List Int) (l0_3 : List (S58)) : Option (Bool) := if (l0_0.length : Int) = 0 then (if (l0_1.length : Int) = 0 then (if (l0_2.length : Int) = 0 then (some ((l0_3.length : Int) == 0)) else (some false)) else (some false)) else (some false)
set_option maxHeartbeats 8000000 in
set_option maxRecDepth 100000 in
theorem tabardlaw12_none.calls (A0_0 : Option Addr) (c0_0 : Nat) (l0_0 : List ByteArray) (A0_1 : Option Addr) (c0_1 : Nat) (l0_1 : List Bool) (A0_2 : Option Addr) (c0_2 : Nat) (l0_2 : List Int) (A0_3 : Option Addr) (c0_3 : Nat) (l0_3 : List (S58)) (r : Bool) (w : World) (hr0_0 : Kd.C Kd.string w A0_0 l0_0.length l0_0) (hc0_0 : l0_0.length ≤ c0_0) (hr0_1 : Kd.C Kd.bool w A0_1 l0_1.length l0_1) (hc0_1 : l0_1.length ≤ c0_1) (hr0_2 : Kd.C (Kd.int .i64) w A0_2 l0_2.length l0_2) (hc0_2 : l0_2.length ≤ c0_2) (hr0_3 : Kd.C k58 w A0_3 l0_3.length l0_3) (hc0_3 : l0_3.length ≤ c0_3) (h : tabardlaw12_none.f l0_0 l0_1 l0_2 l0_3 = some r) :
  Calls Try.prog 17 #[.agg #[.slice A0_0 l0_0.length c0_0, .slice A0_1 l0_1.length c0_1, .slice A0_2 l0_2.length c0_2, .slice A0_3 l0_3.length c0_3]] w fun e w' => e = .returned (.bool r) ∧ Below w.heap.size w w' := by
 have hu32 := Try.underlying32; have HR0_0 := Aside0.mk hr0_0; have HC0_0 := Aside0.mk hc0_0; clear hr0_0 hc0_0; have HR0_1 := Aside0.mk hr0_1; have HC0_1 := Aside0.mk hc0_1; clear hr0_1 hc0_1; have HR0_2 := Aside0.mk hr0_2; have HC0_2 := Aside0.mk hc0_2; clear hr0_2 hc0_2; have HR0_3 := Aside0.mk hr0_3; have HC0_3 := Aside0.mk hc0_3; clear hr0_3 hc0_3; have HB := Aside0.mk (Below.refl w.heap.size w); have H : (if (l0_0.length : Int) = 0 then (if (l0_1.length : Int) = 0 then (if (l0_2.length : Int) = 0 then (some ((l0_3.length : Int) == 0)) else (some false)) else (some false)) else (some false)) = some r := h; clear h
 by_cases c2 : (l0_0.length : Int) = 0
 ·rw [if_pos c2] at H; obtain ⟨c2b0, c2b1⟩ := bq c2; clear c2
  by_cases c3 : (l0_1.length : Int) = 0
  ·rw [if_pos c3] at H; obtain ⟨c3b0, c3b1⟩ := bq c3; clear c3
   by_cases c4 : (l0_2.length : Int) = 0
   ·rw [if_pos c4] at H; obtain ⟨c4b0, c4b1⟩ := bq c4; clear c4; obtain rfl := Option.some.inj H
    go_enter Try.func17, Try.ntmps17
    go_wp2_with (first | ((with_reducible refine gate_dst (N := 1) rfl ?_); (try (refine gate_guard (by rfl) ?_; dsimp only)); refine be_ (cs := #[.slice A0_0 l0_0.length c0_0, .slice A0_1 l0_1.length c0_1, .slice A0_2 l0_2.length c0_2, .slice A0_3 l0_3.length c0_3]) (t := 32) ?_; intro gb436 hg w5 hbox hb; have BK436 := Aside0.mk (hbox); have GW436 := gE hg (bO HB.out); have GE436 := gE hg (bO HB.out); replace HB := hS0 HB hb; clear hb hbox hg; obtain ⟨hcz6_0, hcz6_1, hcz6_2, hcz6_3, hfz6_0, hfz6_1, hfz6_2, hfz6_3⟩ := bF4 BK436.out))
    go_ret
    exact ⟨eW, bS1 HB.out GE436.out⟩
   ·rw [if_neg c4] at H; obtain ⟨c4b0, c4b1⟩ := bn c4
    have c4b2 : ¬ (l0_2 = []) := fun h_ => c4 (by rw [h_]; rfl)
    obtain rfl := Option.some.inj H
    go_enter Try.func17, Try.ntmps17
    go_wp2_with (first | ((with_reducible refine gate_dst (N := 1) rfl ?_); (try (refine gate_guard (by rfl) ?_; dsimp only)); refine be_ (cs := #[.slice A0_0 l0_0.length c0_0, .slice A0_1 l0_1.length c0_1, .slice A0_2 l0_2.length c0_2, .slice A0_3 l0_3.length c0_3]) (t := 32) ?_; intro gb436 hg w7 hbox hb; have BK436 := Aside0.mk (hbox); have GW436 := gE hg (bO HB.out); have GE436 := gE hg (bO HB.out); replace HB := hS0 HB hb; clear hb hbox hg; obtain ⟨hcz8_0, hcz8_1, hcz8_2, hcz8_3, hfz8_0, hfz8_1, hfz8_2, hfz8_3⟩ := bF4 BK436.out))
    go_ret
    exact ⟨eW, bS1 HB.out GE436.out⟩
  ·rw [if_neg c3] at H; obtain ⟨c3b0, c3b1⟩ := bn c3
   have c3b2 : ¬ (l0_1 = []) := fun h_ => c3 (by rw [h_]; rfl)
   obtain rfl := Option.some.inj H
   go_enter Try.func17, Try.ntmps17
   go_wp2_with (first | ((with_reducible refine gate_dst (N := 1) rfl ?_); (try (refine gate_guard (by rfl) ?_; dsimp only)); refine be_ (cs := #[.slice A0_0 l0_0.length c0_0, .slice A0_1 l0_1.length c0_1, .slice A0_2 l0_2.length c0_2, .slice A0_3 l0_3.length c0_3]) (t := 32) ?_; intro gb436 hg w9 hbox hb; have BK436 := Aside0.mk (hbox); have GW436 := gE hg (bO HB.out); have GE436 := gE hg (bO HB.out); replace HB := hS0 HB hb; clear hb hbox hg; obtain ⟨hcz10_0, hcz10_1, hcz10_2, hcz10_3, hfz10_0, hfz10_1, hfz10_2, hfz10_3⟩ := bF4 BK436.out))
   go_ret
   exact ⟨eW, bS1 HB.out GE436.out⟩
 ·rw [if_neg c2] at H; obtain ⟨c2b0, c2b1⟩ := bn c2
  have c2b2 : ¬ (l0_0 = []) := fun h_ => c2 (by rw [h_]; rfl)
  obtain rfl := Option.some.inj H
  go_enter Try.func17, Try.ntmps17
  go_wp2_with (first | ((with_reducible refine gate_dst (N := 1) rfl ?_); (try (refine gate_guard (by rfl) ?_; dsimp only)); refine be_ (cs := #[.slice A0_0 l0_0.length c0_0, .slice A0_1 l0_1.length c0_1, .slice A0_2 l0_2.length c0_2, .slice A0_3 l0_3.length c0_3]) (t := 32) ?_; intro gb436 hg w11 hbox hb; have BK436 := Aside0.mk (hbox); have GW436 := gE hg (bO HB.out); have GE436 := gE hg (bO HB.out); replace HB := hS0 HB hb; clear hb hbox hg; obtain ⟨hcz12_0, hcz12_1, hcz12_2, hcz12_3, hfz12_0, hfz12_1, hfz12_2, hfz12_3⟩ := bF4 BK436.out))
  go_ret
  exact ⟨eW, bS1 HB.out GE436.out⟩

/-! ### tabardref11_Tracks: function 68 -/
def tabardref11_Tracks.l0 : Nat → Int → Int → Int → Option (Int)
 | 0, _, _, _ => none
 | k + 1, x0, x3, x4 => if x4 ≤ 6 then (if x3 = x0 then (some x4) else (tabardref11_Tracks.l0 k x0 (wrap64 (x3 * 2)) (wrap64 (x4 + 1)))) else (some (-1))
def tabardref11_Tracks.f (k : Nat) (a0 : Int) : Option (Int) := tabardref11_Tracks.l0 k a0 1 0
theorem tabardref11_Tracks.mono_l : ∀ k, (∀ y0 y1 y2, LeO (tabardref11_Tracks.l0 k y0 y1 y2) (tabardref11_Tracks.l0 (k + 1) y0 y1 y2))
 | 0 => fun _ _ _ r h => by simp [tabardref11_Tracks.l0] at h
 | k + 1 => by
  have ih0 := tabardref11_Tracks.mono_l k
  ·intro y0 y1 y2
   unfold tabardref11_Tracks.l0
   repeat' first | (with_reducible first | exact ih0 _ _ _ | exact lA | apply lI | refine lB ?_ fun _ => ?_) | exact lN _ | apply lI | refine lB ?_ fun _ => ?_
theorem tabardref11_Tracks.mono : ∀ a0 k, LeO (tabardref11_Tracks.f k a0) (tabardref11_Tracks.f (k + 1) a0) := by
 intro a0 k; have ih0 := tabardref11_Tracks.mono_l k
 unfold tabardref11_Tracks.f
 repeat' first | (with_reducible first | exact ih0 _ _ _ | exact lA | apply lI | refine lB ?_ fun _ => ?_) | exact lN _ | apply lI | refine lB ?_ fun _ => ?_
set_option maxHeartbeats 8000000 in
set_option maxRecDepth 100000 in
theorem tabardref11_Tracks.calls (k : Nat) (a0 : Int) (r : Int) (w : World) (h : tabardref11_Tracks.f k a0 = some r) :
  Calls Try.prog 68 #[.int .i64 a0] w fun e w' => e = .returned (.int .i64 r) ∧ Drawn0 w w' := by
 have H : (tabardref11_Tracks.l0 k a0 1 0) = some r := h; clear h; have H' := Aside0.mk H; clear H
 go_enter Try.func68, Try.ntmps68
 go_wp2
 go_loopg [3, 4] k (fun kq v3 v4 w' => ∃ (x3_1 : Int) (x4_1 : Int), v3 = .int .i64 x3_1 ∧ v4 = .int .i64 x4_1 ∧ Aside0 (tabardref11_Tracks.l0 kq a0 x3_1 x4_1 = some r) ∧ Aside0 (kq ≤ k) ∧ Drawn0 w w')
 case atStart => exact ⟨(1), (0), sI, sI, H', ⟨Nat.le_refl _⟩, by repeat (first | exact Drawn0.refl _ | apply Drawn0.step)⟩
 case round =>
  clear H'; obtain ⟨x3_1, x4_1, rfl, rfl, HA, HK1, ⟨m1, rfl⟩⟩ := hrel; cases gk with
  | zero => exact absurd HA.out (by simp [tabardref11_Tracks.l0])
  | succ k1 =>
   have H := HA.out; clear HA; simp only [tabardref11_Tracks.l0] at H
   by_cases c2 : x4_1 ≤ 6
   ·rw [if_pos c2] at H; have c2b0 := decide_eq_true c2; clear c2
    by_cases c3 : x3_1 = a0
    ·rw [if_pos c3] at H; obtain ⟨c3b0, c3b1⟩ := bq c3; clear c3; obtain rfl := Option.some.inj H
     go_wp2
     go_ret
     exact ⟨by first | rfl | (simp; done) | (simp [*]; done), by repeat (first | exact Drawn0.refl _ | apply Drawn0.step)⟩
    ·rw [if_neg c3] at H; obtain ⟨c3b0, c3b1⟩ := bn c3; have H' := Aside0.mk H; clear H
     go_wp2
     go_roundg k1
     case measure => have := HK1.out; omega
     case rel => exact ⟨(wrap64 (x3_1 * 2)), (wrap64 (x4_1 + 1)), sI, sI, H', ⟨by have := HK1.out; omega⟩, by repeat (first | exact Drawn0.refl _ | apply Drawn0.step)⟩
   ·rw [if_neg c2] at H; have c2b0 := decide_eq_false c2; clear c2; obtain rfl := Option.some.inj H
    go_wp2
    go_ret
    exact ⟨by first | rfl | (simp; done) | (simp [*]; done), by repeat (first | exact Drawn0.refl _ | apply Drawn0.step)⟩

/-! ### tabardref11_Row: function 62 -/
def tabardref11_Row.l0 : Nat → List Int → Int → Option (Bool)
 | 0, _, _ => none
 | k + 1, x0, x3 => if x3 < (x0.length : Int) then (if 0 ≤ x3 then (if (rd x0 x3) < 0 then (some false) else (tabardref11_Row.l0 k x0 (wrap64 (x3 + 1)))) else (none)) else (some true)
def tabardref11_Row.f (k : Nat) (l0 : List Int) : Option (Bool) := (tabardref11_Tracks.f k (l0.length : Int)).bind fun t437 => (if t437 < 0 then (some false) else (tabardref11_Row.l0 k l0 0))
theorem tabardref11_Row.mono_l : ∀ k, (∀ y0 y1, LeO (tabardref11_Row.l0 k y0 y1) (tabardref11_Row.l0 (k + 1) y0 y1))
 | 0 => fun _ _ r h => by simp [tabardref11_Row.l0] at h
 | k + 1 => by
  have ih0 := tabardref11_Row.mono_l k
  ·intro y0 y1
   unfold tabardref11_Row.l0
   repeat' first | (with_reducible first | exact ih0 _ _ | exact tabardref11_Tracks.mono _ _ | exact lA | apply lI | refine lB ?_ fun _ => ?_) | exact lN _ | apply lI | refine lB ?_ fun _ => ?_
theorem tabardref11_Row.mono : ∀ a0 k, LeO (tabardref11_Row.f k a0) (tabardref11_Row.f (k + 1) a0) := by
 intro a0 k; have ih0 := tabardref11_Row.mono_l k
 unfold tabardref11_Row.f
 repeat' first | (with_reducible first | exact ih0 _ _ | exact tabardref11_Tracks.mono _ _ | exact lA | apply lI | refine lB ?_ fun _ => ?_) | exact lN _ | apply lI | refine lB ?_ fun _ => ?_
set_option maxHeartbeats 8000000 in
set_option maxRecDepth 100000 in
theorem tabardref11_Row.calls (k : Nat) (A0 : Option Addr) (c0 : Nat) (l0 : List Int) (r : Bool) (w : World) (hr0 : Kd.C (Kd.int .i64) w A0 l0.length l0) (hc0 : l0.length ≤ c0) (h : tabardref11_Row.f k l0 = some r) :
  Calls Try.prog 62 #[.slice A0 l0.length c0] w fun e w' => e = .returned (.bool r) ∧ Drawn0 w w' := by
 have HR0 := Aside0.mk hr0; have HC0 := Aside0.mk hc0; clear hr0 hc0; have H : ((tabardref11_Tracks.f k (l0.length : Int)).bind fun t437 => (if t437 < 0 then (some false) else (tabardref11_Row.l0 k l0 0))) = some r := h; clear h; replace H := Option.bind_eq_some_iff.mp H; obtain ⟨t437, A20, H⟩ := H; replace H : (if t437 < 0 then (some false) else (tabardref11_Row.l0 k l0 0)) = some r := H; have A2 := Aside0.mk A20; clear A20
 by_cases c3 : t437 < 0
 ·rw [if_pos c3] at H; have c3b0 := decide_eq_true c3; clear c3; obtain rfl := Option.some.inj H
  go_enter Try.func62, Try.ntmps62
  go_wp2_with (first | ((with_reducible refine gate_callee (f := 68) rfl ?_); refine gL_ (some 6) Try.func68 #[.int .i64 (l0.length : Int)] ?_; (with_reducible refine (tabardref11_Tracks.calls k (l0.length : Int) t437 _ A2.out).mono ?_); rintro e w' ⟨rfl, ⟨nd, rfl⟩⟩; refine ⟨_, rfl, ?_⟩))
  go_ret
  exact ⟨by first | rfl | (simp; done) | (simp [*]; done), by repeat (first | exact Drawn0.refl _ | apply Drawn0.step)⟩
 ·rw [if_neg c3] at H; have c3b0 := decide_eq_false c3; clear c3; have H' := Aside0.mk H; clear H
  go_enter Try.func62, Try.ntmps62
  go_wp2_with (first | ((with_reducible refine gate_callee (f := 68) rfl ?_); refine gL_ (some 6) Try.func68 #[.int .i64 (l0.length : Int)] ?_; (with_reducible refine (tabardref11_Tracks.calls k (l0.length : Int) t437 _ A2.out).mono ?_); rintro e w' ⟨rfl, ⟨nd, rfl⟩⟩; refine ⟨_, rfl, ?_⟩))
  go_loopg [3] k (fun kq v3 w' => ∃ (x3_1 : Int), v3 = .int .i64 x3_1 ∧ Aside0 (tabardref11_Row.l0 kq l0 x3_1 = some r) ∧ Aside0 (kq ≤ k) ∧ Drawn0 w w')
  case atStart => exact ⟨(0), sI, H', ⟨Nat.le_refl _⟩, by repeat (first | exact Drawn0.refl _ | apply Drawn0.step)⟩
  case round =>
   clear H'
   try clear p2
   try clear c3
   try clear c3b0
   obtain ⟨x3_1, rfl, HA, HK1, ⟨m1, rfl⟩⟩ := hrel; cases gk with
   | zero => exact absurd HA.out (by simp [tabardref11_Row.l0])
   | succ k1 =>
    have H := HA.out; clear HA; simp only [tabardref11_Row.l0] at H
    by_cases c4 : x3_1 < (l0.length : Int)
    ·rw [if_pos c4] at H; have c4b0 := decide_eq_true c4; clear c4
     by_cases c5 : 0 ≤ x3_1
     ·rw [if_pos c5] at H; have c5b0 := decide_eq_true c5; clear c5
      by_cases c6 : (rd l0 x3_1) < 0
      ·rw [if_pos c6] at H; have c6b0 := decide_eq_true c6; clear c6; obtain rfl := Option.some.inj H; have p438 : 0 ≤ (x3_1 : Int) := of_decide_eq_true aO; have q438 : x3_1 < (l0.length : Int) := of_decide_eq_true aO; obtain ⟨ad438, e438, hx438_0⟩ := Kd.at_int HR0.out x3_1 p438 q438; cases e438; replace p438 := eq_true p438; replace q438 := eq_true q438
       go_wp2
       go_ret
       exact ⟨by first | rfl | (simp; done) | (simp [*]; done), by repeat (first | exact Drawn0.refl _ | apply Drawn0.step)⟩
      ·rw [if_neg c6] at H; have c6b0 := decide_eq_false c6; clear c6; have H' := Aside0.mk H; clear H; have p438 : 0 ≤ (x3_1 : Int) := of_decide_eq_true aO; have q438 : x3_1 < (l0.length : Int) := of_decide_eq_true aO; obtain ⟨ad438, e438, hx438_0⟩ := Kd.at_int HR0.out x3_1 p438 q438; cases e438; replace p438 := eq_true p438; replace q438 := eq_true q438
       go_wp2
       go_roundg k1
       case measure => have := HK1.out; omega
       case rel => exact ⟨(wrap64 (x3_1 + 1)), sI, H', ⟨by have := HK1.out; omega⟩, by repeat (first | exact Drawn0.refl _ | apply Drawn0.step)⟩
     ·rw [if_neg c5] at H; exact absurd H (by simp)
    ·rw [if_neg c4] at H; have c4b0 := decide_eq_false c4; clear c4; obtain rfl := Option.some.inj H
     go_wp2
     go_ret
     exact ⟨by first | rfl | (simp; done) | (simp [*]; done), by repeat (first | exact Drawn0.refl _ | apply Drawn0.step)⟩

end Go.Proofs.Ytghfclgcgecgdaa.X

/- What the functions of this seat compute, and that the program's calls come to just that: written by this session's own program out of the translation; no condition. -/
import Derived.Test.YthgoonohpfoagaaX0
import Derived.Test.YthgoonohpfoagaaX17
namespace Go.Proofs.Ythgoonohpfoagaa.X
open Go.RowKit Go.Proofs.YthgoonohpfoagaaW.PrintWords Go.Proofs.YthgoonohpfoagaaW.PrintLast Go.Proofs.YthgoonohpfoagaaW.PrintMore
attribute [local go_sem] max2_int min2_int max_two min_two max_three min_three max_four min_four
set_option linter.unusedVariables false
set_option linter.unusedSimpArgs false

/-! ### tabardref12_Word: function 17 -/
def tabardref12_Word.l0 : Nat → List Int → Int → Int → Option (Bool)
 | 0, _, _, _ => none
 | k + 1, x0, x1, x5 => if x5 < (x0.length : Int) then (if 0 ≤ x5 then (if (rd x0 x5) < 0 then (some false) else ((tabardref12_Letters.f k x1).bind fun t261 => (if (rd x0 x5) ≥ t261 then (some false) else (tabardref12_Word.l0 k x0 x1 (wrap64 (x5 + 1)))))) else (none)) else (some true)
def tabardref12_Word.f (k : Nat) (l0 : List Int) (a1 : Int) : Option (Bool) := tabardref12_Word.l0 k l0 a1 0
theorem tabardref12_Word.mono_l : ∀ k, (∀ y0 y1 y2, LeO (tabardref12_Word.l0 k y0 y1 y2) (tabardref12_Word.l0 (k + 1) y0 y1 y2))
 | 0 => fun _ _ _ r h => by simp [tabardref12_Word.l0] at h
 | k + 1 => by
  have ih0 := tabardref12_Word.mono_l k
  ·intro y0 y1 y2
   unfold tabardref12_Word.l0
   repeat' first | (with_reducible first | exact ih0 _ _ _ | exact tabardref12_Letters.mono _ _ | exact lA | apply lI | refine lB ?_ fun _ => ?_) | exact lN _ | apply lI | refine lB ?_ fun _ => ?_
theorem tabardref12_Word.mono : ∀ a0 a1 k, LeO (tabardref12_Word.f k a0 a1) (tabardref12_Word.f (k + 1) a0 a1) := by
 intro a0 a1 k; have ih0 := tabardref12_Word.mono_l k
 unfold tabardref12_Word.f
 repeat' first | (with_reducible first | exact ih0 _ _ _ | exact tabardref12_Letters.mono _ _ | exact lA | apply lI | refine lB ?_ fun _ => ?_) | exact lN _ | apply lI | refine lB ?_ fun _ => ?_
set_option maxHeartbeats 8000000 in
set_option maxRecDepth 100000 in
theorem tabardref12_Word.calls (k : Nat) (A0 : Option Addr) (c0 : Nat) (l0 : List Int) (a1 : Int) (r : Bool) (w : World) (hr0 : Kd.C (Kd.int .i64) w A0 l0.length l0) (hc0 : l0.length ≤ c0) (h : tabardref12_Word.f k l0 a1 = some r) :
  Calls Try.prog 17 #[.slice A0 l0.length c0, .int .i64 a1] w fun e w' => e = .returned (.bool r) ∧ Drawn0 w w' := by
 have HR0 := Aside0.mk hr0; have HC0 := Aside0.mk hc0; clear hr0 hc0; have H : (tabardref12_Word.l0 k l0 a1 0) = some r := h; clear h; have H' := Aside0.mk H; clear H
 go_enter Try.func17, Try.ntmps17
 go_wp2
 repeat (go_quiet (fail); try go_wp2)
 go_loopg [5] k (fun kq v5 w' => ∃ (x5_1 : Int), v5 = .int .i64 x5_1 ∧ Aside0 (tabardref12_Word.l0 kq l0 a1 x5_1 = some r) ∧ Aside0 (kq ≤ k) ∧ Drawn0 w w')
 case atStart => exact ⟨(0), sI, H', ⟨Nat.le_refl _⟩, by repeat (first | exact Drawn0.refl _ | apply Drawn0.step)⟩
 case round =>
  clear H'
  try clear c1
  try clear p2
  obtain ⟨x5_1, rfl, HA, HK1, ⟨m1, rfl⟩⟩ := hrel; cases gk with
  | zero => exact absurd HA.out (by simp [tabardref12_Word.l0])
  | succ k1 =>
   have H := HA.out; clear HA; simp only [tabardref12_Word.l0] at H
   by_cases c3 : x5_1 < (l0.length : Int)
   ·rw [if_pos c3] at H; have c3b0 := decide_eq_true c3; clear c3
    by_cases c4 : 0 ≤ x5_1
    ·rw [if_pos c4] at H; have c4b0 := decide_eq_true c4; clear c4
     by_cases c5 : (rd l0 x5_1) < 0
     ·rw [if_pos c5] at H; have c5b0 := decide_eq_true c5; clear c5; obtain rfl := Option.some.inj H; have p259 : 0 ≤ (x5_1 : Int) := of_decide_eq_true aO; have q259 : x5_1 < (l0.length : Int) := of_decide_eq_true aO; obtain ⟨ad259, e259, hx259_0⟩ := Kd.at_int HR0.out x5_1 p259 q259; cases e259; replace p259 := eq_true p259; replace q259 := eq_true q259
      go_wp2
      repeat (go_quiet (fail); try go_wp2)
      go_ret
      exact ⟨by first | rfl | (simp; done) | (simp [*]; done), by repeat (first | exact Drawn0.refl _ | apply Drawn0.step)⟩
     ·rw [if_neg c5] at H; have c5b0 := decide_eq_false c5; clear c5; replace H := Option.bind_eq_some_iff.mp H; obtain ⟨t261, A60, H⟩ := H; replace H : (if (rd l0 x5_1) ≥ t261 then (some false) else (tabardref12_Word.l0 k1 l0 a1 (wrap64 (x5_1 + 1)))) = some r := H; have A6 := Aside0.mk A60; clear A60
      by_cases c7 : (rd l0 x5_1) ≥ t261
      ·rw [if_pos c7] at H; have c7b0 := decide_eq_true c7; clear c7; obtain rfl := Option.some.inj H; have p259 : 0 ≤ (x5_1 : Int) := of_decide_eq_true aO; have q259 : x5_1 < (l0.length : Int) := of_decide_eq_true aO; obtain ⟨ad259, e259, hx259_0⟩ := Kd.at_int HR0.out x5_1 p259 q259; cases e259; replace p259 := eq_true p259; replace q259 := eq_true q259; have p260 : 0 ≤ (x5_1 : Int) := of_decide_eq_true aO; have q260 : x5_1 < (l0.length : Int) := of_decide_eq_true aO; obtain ⟨ad260, e260, hx260_0⟩ := Kd.at_int HR0.out x5_1 p260 q260; have he_ : ad259 = ad260 := (by injection e260); subst he_; replace p260 := eq_true p260; replace q260 := eq_true q260
       go_wp2_with (first | (go_at_call 29; (with_reducible refine (tabardref12_Letters.calls k1 a1 t261 _ A6.out).mono ?_); rintro e w' ⟨rfl, ⟨nd, rfl⟩⟩; (try exact dN)))
       repeat (go_quiet (first | (go_at_call 29; (with_reducible refine (tabardref12_Letters.calls k1 a1 t261 _ A6.out).mono ?_); rintro e w' ⟨rfl, ⟨nd, rfl⟩⟩; (try exact dN))); try go_wp2_with (first | (go_at_call 29; (with_reducible refine (tabardref12_Letters.calls k1 a1 t261 _ A6.out).mono ?_); rintro e w' ⟨rfl, ⟨nd, rfl⟩⟩; (try exact dN))))
       go_ret
       exact ⟨by first | rfl | (simp; done) | (simp [*]; done), by repeat (first | exact Drawn0.refl _ | apply Drawn0.step)⟩
      ·rw [if_neg c7] at H; have c7b0 := decide_eq_false c7; clear c7; have H' := Aside0.mk H; clear H; have p259 : 0 ≤ (x5_1 : Int) := of_decide_eq_true aO; have q259 : x5_1 < (l0.length : Int) := of_decide_eq_true aO; obtain ⟨ad259, e259, hx259_0⟩ := Kd.at_int HR0.out x5_1 p259 q259; cases e259; replace p259 := eq_true p259; replace q259 := eq_true q259; have p260 : 0 ≤ (x5_1 : Int) := of_decide_eq_true aO; have q260 : x5_1 < (l0.length : Int) := of_decide_eq_true aO; obtain ⟨ad260, e260, hx260_0⟩ := Kd.at_int HR0.out x5_1 p260 q260; have he_ : ad259 = ad260 := (by injection e260); subst he_; replace p260 := eq_true p260; replace q260 := eq_true q260
       go_wp2_with (first | (go_at_call 29; (with_reducible refine (tabardref12_Letters.calls k1 a1 t261 _ A6.out).mono ?_); rintro e w' ⟨rfl, ⟨nd, rfl⟩⟩; (try exact dN)))
       repeat (go_quiet (first | (go_at_call 29; (with_reducible refine (tabardref12_Letters.calls k1 a1 t261 _ A6.out).mono ?_); rintro e w' ⟨rfl, ⟨nd, rfl⟩⟩; (try exact dN))); try go_wp2_with (first | (go_at_call 29; (with_reducible refine (tabardref12_Letters.calls k1 a1 t261 _ A6.out).mono ?_); rintro e w' ⟨rfl, ⟨nd, rfl⟩⟩; (try exact dN))))
       go_roundg k1
       case measure => have := HK1.out; omega
       case rel => exact ⟨(wrap64 (x5_1 + 1)), sI, H', ⟨by have := HK1.out; omega⟩, by repeat (first | exact Drawn0.refl _ | apply Drawn0.step)⟩
    ·rw [if_neg c4] at H; exact absurd H (by simp)
   ·rw [if_neg c3] at H; have c3b0 := decide_eq_false c3; clear c3; obtain rfl := Option.some.inj H
    go_wp2
    repeat (go_quiet (fail); try go_wp2)
    go_ret
    exact ⟨by first | rfl | (simp; done) | (simp [*]; done), by repeat (first | exact Drawn0.refl _ | apply Drawn0.step)⟩

/-! ### tabardref12_Run: function 36 -/
def tabardref12_Run.l0 : Nat → Int → List Int → Int → List ByteArray → List Bool → List (List Int) → Option (Int)
 | 0, _, _, _, _, _, _ => none
 | k + 1, x1, x2, x7, x263000, x263001, x263002 => if x7 < (x2.length : Int) then (if 0 ≤ x1 then (if x1 < (x263002.length : Int) then (if 0 ≤ x7 then (if 0 ≤ (rd x2 x7) then (if (rd x2 x7) < ((rd_L3 x263002 x1).length : Int) then (tabardref12_Run.l0 k (rd (rd_L3 x263002 x1) (rd x2 x7)) x2 (wrap64 (x7 + 1)) x263000 x263001 x263002) else (none)) else (none)) else (none)) else (none)) else (none)) else (some x1)
def tabardref12_Run.f (k : Nat) (l0_0 : List ByteArray) (l0_1 : List Bool) (l0_2 : List (List Int)) (a1 : Int) (l2 : List Int) : Option (Int) := tabardref12_Run.l0 k a1 l2 0 l0_0 l0_1 l0_2
theorem tabardref12_Run.mono_l : ∀ k, (∀ y0 y1 y2 y3 y4 y5, LeO (tabardref12_Run.l0 k y0 y1 y2 y3 y4 y5) (tabardref12_Run.l0 (k + 1) y0 y1 y2 y3 y4 y5))
 | 0 => fun _ _ _ _ _ _ r h => by simp [tabardref12_Run.l0] at h
 | k + 1 => by
  have ih0 := tabardref12_Run.mono_l k
  ·intro y0 y1 y2 y3 y4 y5
   unfold tabardref12_Run.l0
   repeat' first | (with_reducible first | exact ih0 _ _ _ _ _ _ | exact lA | apply lI | refine lB ?_ fun _ => ?_) | exact lN _ | apply lI | refine lB ?_ fun _ => ?_
theorem tabardref12_Run.mono : ∀ a0 a1 a2 a3 a4 k, LeO (tabardref12_Run.f k a0 a1 a2 a3 a4) (tabardref12_Run.f (k + 1) a0 a1 a2 a3 a4) := by
 intro a0 a1 a2 a3 a4 k; have ih0 := tabardref12_Run.mono_l k
 unfold tabardref12_Run.f
 repeat' first | (with_reducible first | exact ih0 _ _ _ _ _ _ | exact lA | apply lI | refine lB ?_ fun _ => ?_) | exact lN _ | apply lI | refine lB ?_ fun _ => ?_
set_option maxHeartbeats 8000000 in
set_option maxRecDepth 100000 in
theorem tabardref12_Run.calls (k : Nat) (A0_0 : Option Addr) (c0_0 : Nat) (l0_0 : List ByteArray) (A0_1 : Option Addr) (c0_1 : Nat) (l0_1 : List Bool) (A0_2 : Option Addr) (c0_2 : Nat) (l0_2 : List (List Int)) (a1 : Int) (A2 : Option Addr) (c2 : Nat) (l2 : List Int) (r : Int) (w : World) (hr0_0 : Kd.C Kd.string w A0_0 l0_0.length l0_0) (hc0_0 : l0_0.length ≤ c0_0) (hr0_1 : Kd.C Kd.bool w A0_1 l0_1.length l0_1) (hc0_1 : l0_1.length ≤ c0_1) (hr0_2 : Kd.C (Kd.slice 3 (Kd.int .i64)) w A0_2 l0_2.length l0_2) (hc0_2 : l0_2.length ≤ c0_2) (hr2 : Kd.C (Kd.int .i64) w A2 l2.length l2) (hc2 : l2.length ≤ c2) (h : tabardref12_Run.f k l0_0 l0_1 l0_2 a1 l2 = some r) :
  Calls Try.prog 36 #[.agg #[.slice A0_0 l0_0.length c0_0, .slice A0_1 l0_1.length c0_1, .slice A0_2 l0_2.length c0_2], .int .i64 a1, .slice A2 l2.length c2] w fun e w' => e = .returned (.int .i64 r) ∧ Below w.heap.size w w' := by
 have hu31 := Try.underlying31; have HR0_0 := Aside0.mk hr0_0; have HC0_0 := Aside0.mk hc0_0; clear hr0_0 hc0_0; have HR0_1 := Aside0.mk hr0_1; have HC0_1 := Aside0.mk hc0_1; clear hr0_1 hc0_1; have HR0_2 := Aside0.mk hr0_2; have HC0_2 := Aside0.mk hc0_2; clear hr0_2 hc0_2; have HR2 := Aside0.mk hr2; have HC2 := Aside0.mk hc2; clear hr2 hc2; have HB := Aside0.mk (Below.refl w.heap.size w); have H : (tabardref12_Run.l0 k a1 l2 0 l0_0 l0_1 l0_2) = some r := h; clear h; have H' := Aside0.mk H; clear H
 go_enter Try.func36, Try.ntmps36
 go_wp2_with (first | ((with_reducible refine gate_dst (N := 3) rfl ?_); refine be_ (cs := #[.slice A0_0 l0_0.length c0_0, .slice A0_1 l0_1.length c0_1, .slice A0_2 l0_2.length c0_2]) (t := 31) ?_; intro gb262 hg w4 hbox hb; have BK262 := Aside0.mk (hbox); have GW262 := gE hg (bO HB.out); have GE262 := gE hg (bO HB.out); replace HB := hS0 HB hb; clear hb hbox hg))
 repeat (go_quiet (first | ((with_reducible refine gate_dst (N := 3) rfl ?_); refine be_ (cs := #[.slice A0_0 l0_0.length c0_0, .slice A0_1 l0_1.length c0_1, .slice A0_2 l0_2.length c0_2]) (t := 31) ?_; intro gb262 hg w4 hbox hb; have BK262 := Aside0.mk (hbox); have GW262 := gE hg (bO HB.out); have GE262 := gE hg (bO HB.out); replace HB := hS0 HB hb; clear hb hbox hg)); try go_wp2_with (first | ((with_reducible refine gate_dst (N := 3) rfl ?_); refine be_ (cs := #[.slice A0_0 l0_0.length c0_0, .slice A0_1 l0_1.length c0_1, .slice A0_2 l0_2.length c0_2]) (t := 31) ?_; intro gb262 hg w4 hbox hb; have BK262 := Aside0.mk (hbox); have GW262 := gE hg (bO HB.out); have GE262 := gE hg (bO HB.out); replace HB := hS0 HB hb; clear hb hbox hg)))
 go_loopg [1, 7] k (fun kq v1 v7 w' => ∃ (x1_1 : Int) (x7_1 : Int), v1 = .int .i64 x1_1 ∧ v7 = .int .i64 x7_1 ∧ Aside0 (tabardref12_Run.l0 kq x1_1 l2 x7_1 l0_0 l0_1 l0_2 = some r) ∧ Aside0 (kq ≤ k) ∧ Aside0 (w'.heap[gb262]? = some (.cells #[(.slice A0_0 l0_0.length c0_0), (.slice A0_1 l0_1.length c0_1), (.slice A0_2 l0_2.length c0_2)] 31 (0, 0))) ∧ Aside0 (Below w.heap.size w w'))
 case atStart => exact ⟨(a1), (0), sI, sI, H', ⟨Nat.le_refl _⟩, ⟨kO BK262.out⟩, ⟨bS1 HB.out GE262.out⟩⟩
 case round =>
  clear H'
  try clear c2
  try clear p2
  try clear c3
  obtain ⟨x1_1, x7_1, rfl, rfl, HA, HK1, BK262, HB⟩ := hrel; cases gk with
  | zero => exact absurd HA.out (by simp [tabardref12_Run.l0])
  | succ k1 =>
   have H := HA.out; clear HA; simp only [tabardref12_Run.l0] at H
   by_cases c5 : x7_1 < (l2.length : Int)
   ·rw [if_pos c5] at H; have c5b0 := decide_eq_true c5; clear c5
    by_cases c6 : 0 ≤ x1_1
    ·rw [if_pos c6] at H; have c6b0 := decide_eq_true c6; clear c6
     by_cases c7 : x1_1 < (l0_2.length : Int)
     ·rw [if_pos c7] at H; have c7b0 := decide_eq_true c7; clear c7
      by_cases c8 : 0 ≤ x7_1
      ·rw [if_pos c8] at H; have c8b0 := decide_eq_true c8; clear c8
       by_cases c9 : 0 ≤ (rd l2 x7_1)
       ·rw [if_pos c9] at H; have c9b0 := decide_eq_true c9; clear c9
        by_cases c10 : (rd l2 x7_1) < ((rd_L3 l0_2 x1_1).length : Int)
        ·rw [if_pos c10] at H; have c10b0 := decide_eq_true c10; clear c10; have H' := Aside0.mk H; clear H; obtain ⟨hcz11_0, hcz11_1, hcz11_2, hfz11_0, hfz11_1, hfz11_2⟩ := bF3 BK262.out; have p263 : 0 ≤ (x1_1 : Int) := of_decide_eq_true aO; have q263 : x1_1 < (l0_2.length : Int) := of_decide_eq_true aO; obtain ⟨ad263, A263_0, c263_0, e263, hx263_0, hl263_0, hi263_0⟩ := at_L3 HR0_2.out x1_1 p263 q263; cases e263; replace hx263_0 := cX HB hx263_0; have HR263_0 := Aside0.mk hi263_0; have HC263_0 := Aside0.mk hl263_0; clear hi263_0 hl263_0; replace p263 := eq_true p263; replace q263 := eq_true q263; have p264 : 0 ≤ (x7_1 : Int) := of_decide_eq_true aO; have q264 : x7_1 < (l2.length : Int) := of_decide_eq_true aO; obtain ⟨ad264, e264, hx264_0⟩ := Kd.at_int HR2.out x7_1 p264 q264; cases e264; replace hx264_0 := cX HB hx264_0; replace p264 := eq_true p264; replace q264 := eq_true q264; have p265 : 0 ≤ ((rd l2 x7_1) : Int) := of_decide_eq_true aO; have q265 : (rd l2 x7_1) < ((rd_L3 l0_2 x1_1).length : Int) := of_decide_eq_true aO; obtain ⟨ad265, e265, hx265_0⟩ := Kd.at_int HR263_0.out (rd l2 x7_1) p265 q265; cases e265; replace hx265_0 := cX HB hx265_0; replace p265 := eq_true p265; replace q265 := eq_true q265
         go_wp2
         repeat (go_quiet (fail); try go_wp2)
         go_roundg k1
         case measure => have := HK1.out; omega
         case rel => exact ⟨(rd (rd_L3 l0_2 x1_1) (rd l2 x7_1)), (wrap64 (x7_1 + 1)), sI, sI, H', ⟨by have := HK1.out; omega⟩, ⟨kO BK262.out⟩, ⟨bS1 HB.out GE262.out⟩⟩
        ·rw [if_neg c10] at H; exact absurd H (by simp)
       ·rw [if_neg c9] at H; exact absurd H (by simp)
      ·rw [if_neg c8] at H; exact absurd H (by simp)
     ·rw [if_neg c7] at H; exact absurd H (by simp)
    ·rw [if_neg c6] at H; exact absurd H (by simp)
   ·rw [if_neg c5] at H; have c5b0 := decide_eq_false c5; clear c5; obtain rfl := Option.some.inj H
    go_wp2
    repeat (go_quiet (fail); try go_wp2)
    go_ret
    exact ⟨eW, bS1 HB.out GE262.out⟩

end Go.Proofs.Ythgoonohpfoagaa.X

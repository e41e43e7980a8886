/- What the functions of this seat compute, and that the program's calls come to just that: written by this session's own program out of the translation; no condition. -/
import Derived.Test.YtghfclgcgecgdaaX0
import Derived.Test.YtghfclgcgecgdaaX1
namespace Go.Proofs.Ytghfclgcgecgdaa.X
open Go.RowKit Go.Proofs.YtghfclgcgecgdaaW.PrintWords Go.Proofs.YtghfclgcgecgdaaW.PrintLast Go.Proofs.YtghfclgcgecgdaaW.PrintMore
attribute [local go_sem] max2_int min2_int max_two min_two max_three min_three max_four min_four
set_option linter.unusedVariables false
set_option linter.unusedSimpArgs false

/-! ### tabardref12_texts: function 41 -/
def tabardref12_texts.l0 : Nat → List ByteArray → List ByteArray → Int → Option (Bool)
 | 0, _, _, _ => none
 | k + 1, x0, x1, x5 => if x5 < (x0.length : Int) then (if 0 ≤ x5 then (if x5 < (x1.length : Int) then (if (rdOf ByteArray.empty x0 x5).toList = (rdOf ByteArray.empty x1 x5).toList then (tabardref12_texts.l0 k x0 x1 (wrap64 (x5 + 1))) else (some false)) else (none)) else (none)) else (some true)
def tabardref12_texts.f (k : Nat) (l0 : List ByteArray) (l1 : List ByteArray) : Option (Bool) := if (l0.length : Int) = (l1.length : Int) then (tabardref12_texts.l0 k l0 l1 0) else (some false)
theorem tabardref12_texts.mono_l : ∀ k, (∀ y0 y1 y2, LeO (tabardref12_texts.l0 k y0 y1 y2) (tabardref12_texts.l0 (k + 1) y0 y1 y2))
 | 0 => fun _ _ _ r h => by simp [tabardref12_texts.l0] at h
 | k + 1 => by
  have ih0 := tabardref12_texts.mono_l k
  ·intro y0 y1 y2
   unfold tabardref12_texts.l0
   repeat' first | (with_reducible first | exact ih0 _ _ _ | exact lA | apply lI | refine lB ?_ fun _ => ?_) | exact lN _ | apply lI | refine lB ?_ fun _ => ?_
theorem tabardref12_texts.mono : ∀ a0 a1 k, LeO (tabardref12_texts.f k a0 a1) (tabardref12_texts.f (k + 1) a0 a1) := by
 intro a0 a1 k; have ih0 := tabardref12_texts.mono_l k
 unfold tabardref12_texts.f
 repeat' first | (with_reducible first | exact ih0 _ _ _ | exact lA | apply lI | refine lB ?_ fun _ => ?_) | exact lN _ | apply lI | refine lB ?_ fun _ => ?_
set_option maxHeartbeats 8000000 in
set_option maxRecDepth 100000 in
theorem tabardref12_texts.calls (k : Nat) (A0 : Option Addr) (c0 : Nat) (l0 : List ByteArray) (A1 : Option Addr) (c1 : Nat) (l1 : List ByteArray) (r : Bool) (w : World) (hr0 : Kd.C Kd.string w A0 l0.length l0) (hc0 : l0.length ≤ c0) (hr1 : Kd.C Kd.string w A1 l1.length l1) (hc1 : l1.length ≤ c1) (h : tabardref12_texts.f k l0 l1 = some r) :
  Calls Try.prog 41 #[.slice A0 l0.length c0, .slice A1 l1.length c1] w fun e w' => e = .returned (.bool r) ∧ Drawn0 w w' := by
 have HR0 := Aside0.mk hr0; have HC0 := Aside0.mk hc0; clear hr0 hc0; have HR1 := Aside0.mk hr1; have HC1 := Aside0.mk hc1; clear hr1 hc1; have H : (if (l0.length : Int) = (l1.length : Int) then (tabardref12_texts.l0 k l0 l1 0) else (some false)) = some r := h; clear h
 by_cases c3 : (l0.length : Int) = (l1.length : Int)
 ·rw [if_pos c3] at H; obtain ⟨c3b0, c3b1⟩ := bq c3
  have c3b2 : (l0.length == l1.length) = true := by first | simpa using c3 | (simp at c3 ⊢; omega)
  clear c3; have H' := Aside0.mk H; clear H
  go_enter Try.func41, Try.ntmps41
  go_wp2
  repeat (go_quiet (fail); try go_wp2)
  go_loopg [5] k (fun kq v5 w' => ∃ (x5_1 : Int), v5 = .int .i64 x5_1 ∧ Aside0 (tabardref12_texts.l0 kq l0 l1 x5_1 = some r) ∧ Aside0 (kq ≤ k) ∧ Drawn0 w w')
  case atStart => exact ⟨(0), sI, H', ⟨Nat.le_refl _⟩, by repeat (first | exact Drawn0.refl _ | apply Drawn0.step)⟩
  case round =>
   clear H'
   try clear c1
   try clear p2
   try clear c3
   try clear c3b0
   try clear c3b1
   try clear c3b2
   obtain ⟨x5_1, rfl, HA, HK1, ⟨m1, rfl⟩⟩ := hrel; cases gk with
   | zero => exact absurd HA.out (by simp [tabardref12_texts.l0])
   | succ k1 =>
    have H := HA.out; clear HA; simp only [tabardref12_texts.l0] at H
    by_cases c4 : x5_1 < (l0.length : Int)
    ·rw [if_pos c4] at H; have c4b0 := decide_eq_true c4; clear c4
     by_cases c5 : 0 ≤ x5_1
     ·rw [if_pos c5] at H; have c5b0 := decide_eq_true c5; clear c5
      by_cases c6 : x5_1 < (l1.length : Int)
      ·rw [if_pos c6] at H; have c6b0 := decide_eq_true c6; clear c6
       by_cases c7 : (rdOf ByteArray.empty l0 x5_1).toList = (rdOf ByteArray.empty l1 x5_1).toList
       ·rw [if_pos c7] at H; obtain ⟨c7b0, c7b1⟩ := bq c7; clear c7; have H' := Aside0.mk H; clear H; have p246 : 0 ≤ (x5_1 : Int) := of_decide_eq_true aO; have q246 : x5_1 < (l0.length : Int) := of_decide_eq_true aO; obtain ⟨ad246, e246, hx246_0⟩ := Kd.at_string HR0.out x5_1 p246 q246; cases e246; replace p246 := eq_true p246; replace q246 := eq_true q246; have p247 : 0 ≤ (x5_1 : Int) := of_decide_eq_true aO; have q247 : x5_1 < (l1.length : Int) := of_decide_eq_true aO; obtain ⟨ad247, e247, hx247_0⟩ := Kd.at_string HR1.out x5_1 p247 q247; cases e247; replace p247 := eq_true p247; replace q247 := eq_true q247
        go_wp2
        repeat (go_quiet (fail); try go_wp2)
        go_roundg k1
        case measure => have := HK1.out; omega
        case rel => exact ⟨(wrap64 (x5_1 + 1)), sI, H', ⟨by have := HK1.out; omega⟩, by repeat (first | exact Drawn0.refl _ | apply Drawn0.step)⟩
       ·rw [if_neg c7] at H; obtain ⟨c7b0, c7b1⟩ := bn c7; obtain rfl := Option.some.inj H; have p246 : 0 ≤ (x5_1 : Int) := of_decide_eq_true aO; have q246 : x5_1 < (l0.length : Int) := of_decide_eq_true aO; obtain ⟨ad246, e246, hx246_0⟩ := Kd.at_string HR0.out x5_1 p246 q246; cases e246; replace p246 := eq_true p246; replace q246 := eq_true q246; have p247 : 0 ≤ (x5_1 : Int) := of_decide_eq_true aO; have q247 : x5_1 < (l1.length : Int) := of_decide_eq_true aO; obtain ⟨ad247, e247, hx247_0⟩ := Kd.at_string HR1.out x5_1 p247 q247; cases e247; replace p247 := eq_true p247; replace q247 := eq_true q247
        go_wp2
        repeat (go_quiet (fail); try go_wp2)
        go_ret
        exact ⟨by first | rfl | (simp; done) | (simp [*]; done), by repeat (first | exact Drawn0.refl _ | apply Drawn0.step)⟩
      ·rw [if_neg c6] at H; exact absurd H (by simp)
     ·rw [if_neg c5] at H; exact absurd H (by simp)
    ·rw [if_neg c4] at H; have c4b0 := decide_eq_false c4; clear c4; obtain rfl := Option.some.inj H
     go_wp2
     repeat (go_quiet (fail); try go_wp2)
     go_ret
     exact ⟨by first | rfl | (simp; done) | (simp [*]; done), by repeat (first | exact Drawn0.refl _ | apply Drawn0.step)⟩
 ·rw [if_neg c3] at H; obtain ⟨c3b0, c3b1⟩ := bn c3
  have c3b2 : (l0.length == l1.length) = false := by first | simpa using c3 | (simp at c3 ⊢; omega)
  obtain rfl := Option.some.inj H
  go_enter Try.func41, Try.ntmps41
  go_wp2
  repeat (go_quiet (fail); try go_wp2)
  go_ret
  exact ⟨by first | rfl | (simp; done) | (simp [*]; done), by repeat (first | exact Drawn0.refl _ | apply Drawn0.step)⟩

/-! ### tabardref12_flags: function 42 -/
def tabardref12_flags.l0 : Nat → List Bool → List Bool → Int → Option (Bool)
 | 0, _, _, _ => none
 | k + 1, x0, x1, x5 => if x5 < (x0.length : Int) then (if 0 ≤ x5 then (if x5 < (x1.length : Int) then (if ((rdOf false x0 x5) != (rdOf false x1 x5)) = true then (some false) else (tabardref12_flags.l0 k x0 x1 (wrap64 (x5 + 1)))) else (none)) else (none)) else (some true)
def tabardref12_flags.f (k : Nat) (l0 : List Bool) (l1 : List Bool) : Option (Bool) := if (l0.length : Int) = (l1.length : Int) then (tabardref12_flags.l0 k l0 l1 0) else (some false)
theorem tabardref12_flags.mono_l : ∀ k, (∀ y0 y1 y2, LeO (tabardref12_flags.l0 k y0 y1 y2) (tabardref12_flags.l0 (k + 1) y0 y1 y2))
 | 0 => fun _ _ _ r h => by simp [tabardref12_flags.l0] at h
 | k + 1 => by
  have ih0 := tabardref12_flags.mono_l k
  ·intro y0 y1 y2
   unfold tabardref12_flags.l0
   repeat' first | (with_reducible first | exact ih0 _ _ _ | exact lA | apply lI | refine lB ?_ fun _ => ?_) | exact lN _ | apply lI | refine lB ?_ fun _ => ?_
theorem tabardref12_flags.mono : ∀ a0 a1 k, LeO (tabardref12_flags.f k a0 a1) (tabardref12_flags.f (k + 1) a0 a1) := by
 intro a0 a1 k; have ih0 := tabardref12_flags.mono_l k
 unfold tabardref12_flags.f
 repeat' first | (with_reducible first | exact ih0 _ _ _ | exact lA | apply lI | refine lB ?_ fun _ => ?_) | exact lN _ | apply lI | refine lB ?_ fun _ => ?_
set_option maxHeartbeats 8000000 in
set_option maxRecDepth 100000 in
theorem tabardref12_flags.calls (k : Nat) (A0 : Option Addr) (c0 : Nat) (l0 : List Bool) (A1 : Option Addr) (c1 : Nat) (l1 : List Bool) (r : Bool) (w : World) (hr0 : Kd.C Kd.bool w A0 l0.length l0) (hc0 : l0.length ≤ c0) (hr1 : Kd.C Kd.bool w A1 l1.length l1) (hc1 : l1.length ≤ c1) (h : tabardref12_flags.f k l0 l1 = some r) :
  Calls Try.prog 42 #[.slice A0 l0.length c0, .slice A1 l1.length c1] w fun e w' => e = .returned (.bool r) ∧ Drawn0 w w' := by
 have HR0 := Aside0.mk hr0; have HC0 := Aside0.mk hc0; clear hr0 hc0; have HR1 := Aside0.mk hr1; have HC1 := Aside0.mk hc1; clear hr1 hc1; have H : (if (l0.length : Int) = (l1.length : Int) then (tabardref12_flags.l0 k l0 l1 0) else (some false)) = some r := h; clear h
 by_cases c3 : (l0.length : Int) = (l1.length : Int)
 ·rw [if_pos c3] at H; obtain ⟨c3b0, c3b1⟩ := bq c3
  have c3b2 : (l0.length == l1.length) = true := by first | simpa using c3 | (simp at c3 ⊢; omega)
  clear c3; have H' := Aside0.mk H; clear H
  go_enter Try.func42, Try.ntmps42
  go_wp2
  repeat (go_quiet (fail); try go_wp2)
  go_loopg [5] k (fun kq v5 w' => ∃ (x5_1 : Int), v5 = .int .i64 x5_1 ∧ Aside0 (tabardref12_flags.l0 kq l0 l1 x5_1 = some r) ∧ Aside0 (kq ≤ k) ∧ Drawn0 w w')
  case atStart => exact ⟨(0), sI, H', ⟨Nat.le_refl _⟩, by repeat (first | exact Drawn0.refl _ | apply Drawn0.step)⟩
  case round =>
   clear H'
   try clear c1
   try clear p2
   try clear c3
   try clear c3b0
   try clear c3b1
   try clear c3b2
   obtain ⟨x5_1, rfl, HA, HK1, ⟨m1, rfl⟩⟩ := hrel; cases gk with
   | zero => exact absurd HA.out (by simp [tabardref12_flags.l0])
   | succ k1 =>
    have H := HA.out; clear HA; simp only [tabardref12_flags.l0] at H
    by_cases c4 : x5_1 < (l0.length : Int)
    ·rw [if_pos c4] at H; have c4b0 := decide_eq_true c4; clear c4
     by_cases c5 : 0 ≤ x5_1
     ·rw [if_pos c5] at H; have c5b0 := decide_eq_true c5; clear c5
      by_cases c6 : x5_1 < (l1.length : Int)
      ·rw [if_pos c6] at H; have c6b0 := decide_eq_true c6; clear c6
       by_cases c7 : ((rdOf false l0 x5_1) != (rdOf false l1 x5_1)) = true
       ·rw [if_pos c7] at H; have c7b0 : ((rdOf false l0 x5_1) != (rdOf false l1 x5_1)) = true := c7
        (try (have c7b1 : decide ((rdOf false l0 x5_1) = (rdOf false l1 x5_1)) = false := by simpa using c7))
        (try (have c7b2 : ((rdOf false l0 x5_1) == (rdOf false l1 x5_1)) = false := by simpa using c7))
        (try (have c7b3 : ¬ ((rdOf false l0 x5_1) = (rdOf false l1 x5_1)) := by simpa using c7))
        clear c7; obtain rfl := Option.some.inj H; have p248 : 0 ≤ (x5_1 : Int) := of_decide_eq_true aO; have q248 : x5_1 < (l0.length : Int) := of_decide_eq_true aO; obtain ⟨ad248, e248, hx248_0⟩ := Kd.at_bool HR0.out x5_1 p248 q248; cases e248; replace p248 := eq_true p248; replace q248 := eq_true q248; have p249 : 0 ≤ (x5_1 : Int) := of_decide_eq_true aO; have q249 : x5_1 < (l1.length : Int) := of_decide_eq_true aO; obtain ⟨ad249, e249, hx249_0⟩ := Kd.at_bool HR1.out x5_1 p249 q249; cases e249; replace p249 := eq_true p249; replace q249 := eq_true q249
        go_wp2
        repeat (go_quiet (fail); try go_wp2)
        go_ret
        exact ⟨by first | rfl | (simp; done) | (simp [*]; done), by repeat (first | exact Drawn0.refl _ | apply Drawn0.step)⟩
       ·rw [if_neg c7] at H
        have c7b0 : ((rdOf false l0 x5_1) != (rdOf false l1 x5_1)) = false := by simpa using c7
        (try (have c7b1 : decide ((rdOf false l0 x5_1) = (rdOf false l1 x5_1)) = true := by simpa using c7))
        (try (have c7b2 : ((rdOf false l0 x5_1) == (rdOf false l1 x5_1)) = true := by simpa using c7))
        clear c7; have H' := Aside0.mk H; clear H; have p248 : 0 ≤ (x5_1 : Int) := of_decide_eq_true aO; have q248 : x5_1 < (l0.length : Int) := of_decide_eq_true aO; obtain ⟨ad248, e248, hx248_0⟩ := Kd.at_bool HR0.out x5_1 p248 q248; cases e248; replace p248 := eq_true p248; replace q248 := eq_true q248; have p249 : 0 ≤ (x5_1 : Int) := of_decide_eq_true aO; have q249 : x5_1 < (l1.length : Int) := of_decide_eq_true aO; obtain ⟨ad249, e249, hx249_0⟩ := Kd.at_bool HR1.out x5_1 p249 q249; cases e249; replace p249 := eq_true p249; replace q249 := eq_true q249
        go_wp2
        repeat (go_quiet (fail); try go_wp2)
        go_roundg k1
        case measure => have := HK1.out; omega
        case rel => exact ⟨(wrap64 (x5_1 + 1)), sI, H', ⟨by have := HK1.out; omega⟩, by repeat (first | exact Drawn0.refl _ | apply Drawn0.step)⟩
      ·rw [if_neg c6] at H; exact absurd H (by simp)
     ·rw [if_neg c5] at H; exact absurd H (by simp)
    ·rw [if_neg c4] at H; have c4b0 := decide_eq_false c4; clear c4; obtain rfl := Option.some.inj H
     go_wp2
     repeat (go_quiet (fail); try go_wp2)
     go_ret
     exact ⟨by first | rfl | (simp; done) | (simp [*]; done), by repeat (first | exact Drawn0.refl _ | apply Drawn0.step)⟩
 ·rw [if_neg c3] at H; obtain ⟨c3b0, c3b1⟩ := bn c3
  have c3b2 : (l0.length == l1.length) = false := by first | simpa using c3 | (simp at c3 ⊢; omega)
  obtain rfl := Option.some.inj H
  go_enter Try.func42, Try.ntmps42
  go_wp2
  repeat (go_quiet (fail); try go_wp2)
  go_ret
  exact ⟨by first | rfl | (simp; done) | (simp [*]; done), by repeat (first | exact Drawn0.refl _ | apply Drawn0.step)⟩

end Go.Proofs.Ytghfclgcgecgdaa.X
namespace Go.Proofs.Ytghfclgcgecgdaa.X
open Go.RowKit Go.Proofs.YtghfclgcgecgdaaW.PrintWords Go.Proofs.YtghfclgcgecgdaaW.PrintLast Go.Proofs.YtghfclgcgecgdaaW.PrintMore
attribute [local go_sem] max2_int min2_int max_two min_two max_three min_three max_four min_four
set_option linter.unusedVariables false
set_option linter.unusedSimpArgs false

/-! ### tabardref12_ints: function 43 -/
def tabardref12_ints.l0 : Nat → List Int → List Int → Int → Option (Bool)
 | 0, _, _, _ => none
 | k + 1, x0, x1, x5 => if x5 < (x0.length : Int) then (if 0 ≤ x5 then (if x5 < (x1.length : Int) then (if (rd x0 x5) = (rd x1 x5) then (tabardref12_ints.l0 k x0 x1 (wrap64 (x5 + 1))) else (some false)) else (none)) else (none)) else (some true)
def tabardref12_ints.f (k : Nat) (l0 : List Int) (l1 : List Int) : Option (Bool) := if (l0.length : Int) = (l1.length : Int) then (tabardref12_ints.l0 k l0 l1 0) else (some false)
theorem tabardref12_ints.mono_l : ∀ k, (∀ y0 y1 y2, LeO (tabardref12_ints.l0 k y0 y1 y2) (tabardref12_ints.l0 (k + 1) y0 y1 y2))
 | 0 => fun _ _ _ r h => by simp [tabardref12_ints.l0] at h
 | k + 1 => by
  have ih0 := tabardref12_ints.mono_l k
  ·intro y0 y1 y2
   unfold tabardref12_ints.l0
   repeat' first | (with_reducible first | exact ih0 _ _ _ | exact lA | apply lI | refine lB ?_ fun _ => ?_) | exact lN _ | apply lI | refine lB ?_ fun _ => ?_
theorem tabardref12_ints.mono : ∀ a0 a1 k, LeO (tabardref12_ints.f k a0 a1) (tabardref12_ints.f (k + 1) a0 a1) := by
 intro a0 a1 k; have ih0 := tabardref12_ints.mono_l k
 unfold tabardref12_ints.f
 repeat' first | (with_reducible first | exact ih0 _ _ _ | exact lA | apply lI | refine lB ?_ fun _ => ?_) | exact lN _ | apply lI | refine lB ?_ fun _ => ?_
set_option maxHeartbeats 8000000 in
set_option maxRecDepth 100000 in
theorem tabardref12_ints.calls (k : Nat) (A0 : Option Addr) (c0 : Nat) (l0 : List Int) (A1 : Option Addr) (c1 : Nat) (l1 : List Int) (r : Bool) (w : World) (hr0 : Kd.C (Kd.int .i64) w A0 l0.length l0) (hc0 : l0.length ≤ c0) (hr1 : Kd.C (Kd.int .i64) w A1 l1.length l1) (hc1 : l1.length ≤ c1) (h : tabardref12_ints.f k l0 l1 = some r) :
  Calls Try.prog 43 #[.slice A0 l0.length c0, .slice A1 l1.length c1] w fun e w' => e = .returned (.bool r) ∧ Drawn0 w w' := by
 have HR0 := Aside0.mk hr0; have HC0 := Aside0.mk hc0; clear hr0 hc0; have HR1 := Aside0.mk hr1; have HC1 := Aside0.mk hc1; clear hr1 hc1; have H : (if (l0.length : Int) = (l1.length : Int) then (tabardref12_ints.l0 k l0 l1 0) else (some false)) = some r := h; clear h
 by_cases c3 : (l0.length : Int) = (l1.length : Int)
 ·rw [if_pos c3] at H; obtain ⟨c3b0, c3b1⟩ := bq c3
  have c3b2 : (l0.length == l1.length) = true := by first | simpa using c3 | (simp at c3 ⊢; omega)
  clear c3; have H' := Aside0.mk H; clear H
  go_enter Try.func43, Try.ntmps43
  go_wp2
  repeat (go_quiet (fail); try go_wp2)
  go_loopg [5] k (fun kq v5 w' => ∃ (x5_1 : Int), v5 = .int .i64 x5_1 ∧ Aside0 (tabardref12_ints.l0 kq l0 l1 x5_1 = some r) ∧ Aside0 (kq ≤ k) ∧ Drawn0 w w')
  case atStart => exact ⟨(0), sI, H', ⟨Nat.le_refl _⟩, by repeat (first | exact Drawn0.refl _ | apply Drawn0.step)⟩
  case round =>
   clear H'
   try clear c1
   try clear p2
   try clear c3
   try clear c3b0
   try clear c3b1
   try clear c3b2
   obtain ⟨x5_1, rfl, HA, HK1, ⟨m1, rfl⟩⟩ := hrel; cases gk with
   | zero => exact absurd HA.out (by simp [tabardref12_ints.l0])
   | succ k1 =>
    have H := HA.out; clear HA; simp only [tabardref12_ints.l0] at H
    by_cases c4 : x5_1 < (l0.length : Int)
    ·rw [if_pos c4] at H; have c4b0 := decide_eq_true c4; clear c4
     by_cases c5 : 0 ≤ x5_1
     ·rw [if_pos c5] at H; have c5b0 := decide_eq_true c5; clear c5
      by_cases c6 : x5_1 < (l1.length : Int)
      ·rw [if_pos c6] at H; have c6b0 := decide_eq_true c6; clear c6
       by_cases c7 : (rd l0 x5_1) = (rd l1 x5_1)
       ·rw [if_pos c7] at H; obtain ⟨c7b0, c7b1⟩ := bq c7; clear c7; have H' := Aside0.mk H; clear H; have p250 : 0 ≤ (x5_1 : Int) := of_decide_eq_true aO; have q250 : x5_1 < (l0.length : Int) := of_decide_eq_true aO; obtain ⟨ad250, e250, hx250_0⟩ := Kd.at_int HR0.out x5_1 p250 q250; cases e250; replace p250 := eq_true p250; replace q250 := eq_true q250; have p251 : 0 ≤ (x5_1 : Int) := of_decide_eq_true aO; have q251 : x5_1 < (l1.length : Int) := of_decide_eq_true aO; obtain ⟨ad251, e251, hx251_0⟩ := Kd.at_int HR1.out x5_1 p251 q251; cases e251; replace p251 := eq_true p251; replace q251 := eq_true q251
        go_wp2
        repeat (go_quiet (fail); try go_wp2)
        go_roundg k1
        case measure => have := HK1.out; omega
        case rel => exact ⟨(wrap64 (x5_1 + 1)), sI, H', ⟨by have := HK1.out; omega⟩, by repeat (first | exact Drawn0.refl _ | apply Drawn0.step)⟩
       ·rw [if_neg c7] at H; obtain ⟨c7b0, c7b1⟩ := bn c7; obtain rfl := Option.some.inj H; have p250 : 0 ≤ (x5_1 : Int) := of_decide_eq_true aO; have q250 : x5_1 < (l0.length : Int) := of_decide_eq_true aO; obtain ⟨ad250, e250, hx250_0⟩ := Kd.at_int HR0.out x5_1 p250 q250; cases e250; replace p250 := eq_true p250; replace q250 := eq_true q250; have p251 : 0 ≤ (x5_1 : Int) := of_decide_eq_true aO; have q251 : x5_1 < (l1.length : Int) := of_decide_eq_true aO; obtain ⟨ad251, e251, hx251_0⟩ := Kd.at_int HR1.out x5_1 p251 q251; cases e251; replace p251 := eq_true p251; replace q251 := eq_true q251
        go_wp2
        repeat (go_quiet (fail); try go_wp2)
        go_ret
        exact ⟨by first | rfl | (simp; done) | (simp [*]; done), by repeat (first | exact Drawn0.refl _ | apply Drawn0.step)⟩
      ·rw [if_neg c6] at H; exact absurd H (by simp)
     ·rw [if_neg c5] at H; exact absurd H (by simp)
    ·rw [if_neg c4] at H; have c4b0 := decide_eq_false c4; clear c4; obtain rfl := Option.some.inj H
     go_wp2
     repeat (go_quiet (fail); try go_wp2)
     go_ret
     exact ⟨by first | rfl | (simp; done) | (simp [*]; done), by repeat (first | exact Drawn0.refl _ | apply Drawn0.step)⟩
 ·rw [if_neg c3] at H; obtain ⟨c3b0, c3b1⟩ := bn c3
  have c3b2 : (l0.length == l1.length) = false := by first | simpa using c3 | (simp at c3 ⊢; omega)
  obtain rfl := Option.some.inj H
  go_enter Try.func43, Try.ntmps43
  go_wp2
  repeat (go_quiet (fail); try go_wp2)
  go_ret
  exact ⟨by first | rfl | (simp; done) | (simp [*]; done), by repeat (first | exact Drawn0.refl _ | apply Drawn0.step)⟩

end Go.Proofs.Ytghfclgcgecgdaa.X
namespace Go.Proofs.Ytghfclgcgecgdaa.X
open Go.RowKit Go.Proofs.YtghfclgcgecgdaaW.PrintWords Go.Proofs.YtghfclgcgecgdaaW.PrintLast Go.Proofs.YtghfclgcgecgdaaW.PrintMore
attribute [local go_sem] max2_int min2_int max_two min_two max_three min_three max_four min_four
set_option linter.unusedVariables false
set_option linter.unusedSimpArgs false

attribute [local go_sem high] eqA58
/-! ### tabardref12_Same: function 19 -/
mutual
def tabardref12_Same.j0 : Nat → Bool → List ByteArray → List Bool → List Int → List (S58) → List ByteArray → List Bool → List Int → List (S58) → Option (Bool)
 | 0, _, _, _, _, _, _, _, _, _ => none
 | k + 1, x36, x253000, x253001, x253002, x253003, x254000, x254001, x254002, x254003 => if x36 = true then (some false) else (tabardref12_Same.l0 k 0 x253000 x253001 x253002 x253003 x254000 x254001 x254002 x254003)
def tabardref12_Same.l0 : Nat → Int → List ByteArray → List Bool → List Int → List (S58) → List ByteArray → List Bool → List Int → List (S58) → Option (Bool)
 | 0, _, _, _, _, _, _, _, _, _ => none
 | k + 1, x5, x253000, x253001, x253002, x253003, x254000, x254001, x254002, x254003 => if x5 < (x253003.length : Int) then (if 0 ≤ x5 then (if x5 < (x254003.length : Int) then (if (!(((rd_T58 x253003 x5).f0) == ((rd_T58 x254003 x5).f0)) || (!(((rd_T58 x253003 x5).f1) == ((rd_T58 x254003 x5).f1)) || (!(((rd_T58 x253003 x5).f2) == ((rd_T58 x254003 x5).f2))))) = true then (some false) else (tabardref12_Same.l0 k (wrap64 (x5 + 1)) x253000 x253001 x253002 x253003 x254000 x254001 x254002 x254003)) else (none)) else (none)) else (some true)
end
def tabardref12_Same.f (k : Nat) (l0_0 : List ByteArray) (l0_1 : List Bool) (l0_2 : List Int) (l0_3 : List (S58)) (l1_0 : List ByteArray) (l1_1 : List Bool) (l1_2 : List Int) (l1_3 : List (S58)) : Option (Bool) := (tabardref12_texts.f k l0_0 l1_0).bind fun t254 => (if t254 = true then ((tabardref12_flags.f k l0_1 l1_1).bind fun t255 => (if t255 = true then ((tabardref12_ints.f k l0_2 l1_2).bind fun t256 => (if t256 = true then (tabardref12_Same.j0 k ((l0_3.length : Int) != (l1_3.length : Int)) l0_0 l0_1 l0_2 l0_3 l1_0 l1_1 l1_2 l1_3) else (tabardref12_Same.j0 k true l0_0 l0_1 l0_2 l0_3 l1_0 l1_1 l1_2 l1_3))) else (tabardref12_Same.j0 k true l0_0 l0_1 l0_2 l0_3 l1_0 l1_1 l1_2 l1_3))) else (tabardref12_Same.j0 k true l0_0 l0_1 l0_2 l0_3 l1_0 l1_1 l1_2 l1_3))
theorem tabardref12_Same.mono_l : ∀ k, (∀ y0 y1 y2 y3 y4 y5 y6 y7 y8, LeO (tabardref12_Same.j0 k y0 y1 y2 y3 y4 y5 y6 y7 y8) (tabardref12_Same.j0 (k + 1) y0 y1 y2 y3 y4 y5 y6 y7 y8)) ∧ (∀ y0 y1 y2 y3 y4 y5 y6 y7 y8, LeO (tabardref12_Same.l0 k y0 y1 y2 y3 y4 y5 y6 y7 y8) (tabardref12_Same.l0 (k + 1) y0 y1 y2 y3 y4 y5 y6 y7 y8))
 | 0 => ⟨fun _ _ _ _ _ _ _ _ _ r h => by simp [tabardref12_Same.j0] at h, fun _ _ _ _ _ _ _ _ _ r h => by simp [tabardref12_Same.l0] at h⟩
 | k + 1 => by
  obtain ⟨ih0, ih1⟩ := tabardref12_Same.mono_l k; refine ⟨?_, ?_⟩
  ·intro y0 y1 y2 y3 y4 y5 y6 y7 y8
   unfold tabardref12_Same.j0
   repeat' first | (with_reducible first | exact ih0 _ _ _ _ _ _ _ _ _ | exact ih1 _ _ _ _ _ _ _ _ _ | exact tabardref12_flags.mono _ _ _ | exact tabardref12_ints.mono _ _ _ | exact tabardref12_texts.mono _ _ _ | exact lA | apply lI | refine lB ?_ fun _ => ?_) | exact lN _ | apply lI | refine lB ?_ fun _ => ?_
  ·intro y0 y1 y2 y3 y4 y5 y6 y7 y8
   unfold tabardref12_Same.l0
   repeat' first | (with_reducible first | exact ih0 _ _ _ _ _ _ _ _ _ | exact ih1 _ _ _ _ _ _ _ _ _ | exact tabardref12_flags.mono _ _ _ | exact tabardref12_ints.mono _ _ _ | exact tabardref12_texts.mono _ _ _ | exact lA | apply lI | refine lB ?_ fun _ => ?_) | exact lN _ | apply lI | refine lB ?_ fun _ => ?_
theorem tabardref12_Same.mono : ∀ a0 a1 a2 a3 a4 a5 a6 a7 k, LeO (tabardref12_Same.f k a0 a1 a2 a3 a4 a5 a6 a7) (tabardref12_Same.f (k + 1) a0 a1 a2 a3 a4 a5 a6 a7) := by
 intro a0 a1 a2 a3 a4 a5 a6 a7 k; obtain ⟨ih0, ih1⟩ := tabardref12_Same.mono_l k
 unfold tabardref12_Same.f
 repeat' first | (with_reducible first | exact ih0 _ _ _ _ _ _ _ _ _ | exact ih1 _ _ _ _ _ _ _ _ _ | exact tabardref12_flags.mono _ _ _ | exact tabardref12_ints.mono _ _ _ | exact tabardref12_texts.mono _ _ _ | exact lA | apply lI | refine lB ?_ fun _ => ?_) | exact lN _ | apply lI | refine lB ?_ fun _ => ?_
set_option maxHeartbeats 8000000 in
set_option maxRecDepth 100000 in
theorem tabardref12_Same.calls (k : Nat) (A0_0 : Option Addr) (c0_0 : Nat) (l0_0 : List ByteArray) (A0_1 : Option Addr) (c0_1 : Nat) (l0_1 : List Bool) (A0_2 : Option Addr) (c0_2 : Nat) (l0_2 : List Int) (A0_3 : Option Addr) (c0_3 : Nat) (l0_3 : List (S58)) (A1_0 : Option Addr) (c1_0 : Nat) (l1_0 : List ByteArray) (A1_1 : Option Addr) (c1_1 : Nat) (l1_1 : List Bool) (A1_2 : Option Addr) (c1_2 : Nat) (l1_2 : List Int) (A1_3 : Option Addr) (c1_3 : Nat) (l1_3 : List (S58)) (r : Bool) (w : World) (hr0_0 : Kd.C Kd.string w A0_0 l0_0.length l0_0) (hc0_0 : l0_0.length ≤ c0_0) (hr0_1 : Kd.C Kd.bool w A0_1 l0_1.length l0_1) (hc0_1 : l0_1.length ≤ c0_1) (hr0_2 : Kd.C (Kd.int .i64) w A0_2 l0_2.length l0_2) (hc0_2 : l0_2.length ≤ c0_2) (hr0_3 : Kd.C k58 w A0_3 l0_3.length l0_3) (hc0_3 : l0_3.length ≤ c0_3) (hr1_0 : Kd.C Kd.string w A1_0 l1_0.length l1_0) (hc1_0 : l1_0.length ≤ c1_0) (hr1_1 : Kd.C Kd.bool w A1_1 l1_1.length l1_1) (hc1_1 : l1_1.length ≤ c1_1) (hr1_2 : Kd.C (Kd.int .i64) w A1_2 l1_2.length l1_2) (hc1_2 : l1_2.length ≤ c1_2) (hr1_3 : Kd.C k58 w A1_3 l1_3.length l1_3) (hc1_3 : l1_3.length ≤ c1_3) (h : tabardref12_Same.f k l0_0 l0_1 l0_2 l0_3 l1_0 l1_1 l1_2 l1_3 = some r) :
  Calls Try.prog 19 #[.agg #[.slice A0_0 l0_0.length c0_0, .slice A0_1 l0_1.length c0_1, .slice A0_2 l0_2.length c0_2, .slice A0_3 l0_3.length c0_3], .agg #[.slice A1_0 l1_0.length c1_0, .slice A1_1 l1_1.length c1_1, .slice A1_2 l1_2.length c1_2, .slice A1_3 l1_3.length c1_3]] w fun e w' => e = .returned (.bool r) ∧ Below w.heap.size w w' := by
 have hu32 := Try.underlying32; have hu58 := Try.underlying58; have HR0_0 := Aside0.mk hr0_0; have HC0_0 := Aside0.mk hc0_0; clear hr0_0 hc0_0; have HR0_1 := Aside0.mk hr0_1; have HC0_1 := Aside0.mk hc0_1; clear hr0_1 hc0_1; have HR0_2 := Aside0.mk hr0_2; have HC0_2 := Aside0.mk hc0_2; clear hr0_2 hc0_2; have HR0_3 := Aside0.mk hr0_3; have HC0_3 := Aside0.mk hc0_3; clear hr0_3 hc0_3; have HR1_0 := Aside0.mk hr1_0; have HC1_0 := Aside0.mk hc1_0; clear hr1_0 hc1_0; have HR1_1 := Aside0.mk hr1_1; have HC1_1 := Aside0.mk hc1_1; clear hr1_1 hc1_1; have HR1_2 := Aside0.mk hr1_2; have HC1_2 := Aside0.mk hc1_2; clear hr1_2 hc1_2; have HR1_3 := Aside0.mk hr1_3; have HC1_3 := Aside0.mk hc1_3; clear hr1_3 hc1_3; have HB := Aside0.mk (Below.refl w.heap.size w); have H : ((tabardref12_texts.f k l0_0 l1_0).bind fun t254 => (if t254 = true then ((tabardref12_flags.f k l0_1 l1_1).bind fun t255 => (if t255 = true then ((tabardref12_ints.f k l0_2 l1_2).bind fun t256 => (if t256 = true then (tabardref12_Same.j0 k ((l0_3.length : Int) != (l1_3.length : Int)) l0_0 l0_1 l0_2 l0_3 l1_0 l1_1 l1_2 l1_3) else (tabardref12_Same.j0 k true l0_0 l0_1 l0_2 l0_3 l1_0 l1_1 l1_2 l1_3))) else (tabardref12_Same.j0 k true l0_0 l0_1 l0_2 l0_3 l1_0 l1_1 l1_2 l1_3))) else (tabardref12_Same.j0 k true l0_0 l0_1 l0_2 l0_3 l1_0 l1_1 l1_2 l1_3))) = some r := h; clear h; have HC3 := Aside0.mk H; clear H
 go_enter Try.func19, Try.ntmps19
 go_upto_region 1 with (first | ((with_reducible refine gate_dst (N := 2) rfl ?_); (try (refine gate_guard (by rfl) ?_; dsimp only)); refine be_ (cs := #[.slice A0_0 l0_0.length c0_0, .slice A0_1 l0_1.length c0_1, .slice A0_2 l0_2.length c0_2, .slice A0_3 l0_3.length c0_3]) (t := 32) ?_; intro gb252 hg w4 hbox hb; have BK252 := Aside0.mk (hbox); have GW252 := gE hg (bO HB.out); have GE252 := gE hg (bO HB.out); replace HB := hS0 HB hb; clear hb hbox hg) | ((with_reducible refine gate_dst (N := 3) rfl ?_); (try (refine gate_guard (by rfl) ?_; dsimp only)); refine be_ (cs := #[.slice A1_0 l1_0.length c1_0, .slice A1_1 l1_1.length c1_1, .slice A1_2 l1_2.length c1_2, .slice A1_3 l1_3.length c1_3]) (t := 32) ?_; intro gb253 hg w5 hbox hb; have BK253 := Aside0.mk (hbox); have GW253 := gE hg (bS1 HB.out GE252.out); have GE253 := gE hg (bS1 HB.out GE252.out); replace HB := hS1 HB GE252 hb; have NB252_253 := nL hg BK252; have NB253_252 := nG hg BK252; replace BK252 := kB BK252 hb; clear hb hbox hg))
 repeat (go_quiet (first | ((with_reducible refine gate_dst (N := 2) rfl ?_); (try (refine gate_guard (by rfl) ?_; dsimp only)); refine be_ (cs := #[.slice A0_0 l0_0.length c0_0, .slice A0_1 l0_1.length c0_1, .slice A0_2 l0_2.length c0_2, .slice A0_3 l0_3.length c0_3]) (t := 32) ?_; intro gb252 hg w4 hbox hb; have BK252 := Aside0.mk (hbox); have GW252 := gE hg (bO HB.out); have GE252 := gE hg (bO HB.out); replace HB := hS0 HB hb; clear hb hbox hg) | ((with_reducible refine gate_dst (N := 3) rfl ?_); (try (refine gate_guard (by rfl) ?_; dsimp only)); refine be_ (cs := #[.slice A1_0 l1_0.length c1_0, .slice A1_1 l1_1.length c1_1, .slice A1_2 l1_2.length c1_2, .slice A1_3 l1_3.length c1_3]) (t := 32) ?_; intro gb253 hg w5 hbox hb; have BK253 := Aside0.mk (hbox); have GW253 := gE hg (bS1 HB.out GE252.out); have GE253 := gE hg (bS1 HB.out GE252.out); replace HB := hS1 HB GE252 hb; have NB252_253 := nL hg BK252; have NB253_252 := nG hg BK252; replace BK252 := kB BK252 hb; clear hb hbox hg)); go_upto_region 1 with (first | ((with_reducible refine gate_dst (N := 2) rfl ?_); (try (refine gate_guard (by rfl) ?_; dsimp only)); refine be_ (cs := #[.slice A0_0 l0_0.length c0_0, .slice A0_1 l0_1.length c0_1, .slice A0_2 l0_2.length c0_2, .slice A0_3 l0_3.length c0_3]) (t := 32) ?_; intro gb252 hg w4 hbox hb; have BK252 := Aside0.mk (hbox); have GW252 := gE hg (bO HB.out); have GE252 := gE hg (bO HB.out); replace HB := hS0 HB hb; clear hb hbox hg) | ((with_reducible refine gate_dst (N := 3) rfl ?_); (try (refine gate_guard (by rfl) ?_; dsimp only)); refine be_ (cs := #[.slice A1_0 l1_0.length c1_0, .slice A1_1 l1_1.length c1_1, .slice A1_2 l1_2.length c1_2, .slice A1_3 l1_3.length c1_3]) (t := 32) ?_; intro gb253 hg w5 hbox hb; have BK253 := Aside0.mk (hbox); have GW253 := gE hg (bS1 HB.out GE252.out); have GE253 := gE hg (bS1 HB.out GE252.out); replace HB := hS1 HB GE252 hb; have NB252_253 := nL hg BK252; have NB253_252 := nG hg BK252; replace BK252 := kB BK252 hb; clear hb hbox hg)))
 (try simp only [Act.put, sA, sB, sC])
 go_cut [36] (fun v36 wc => ∃ (kq : Nat) (x36_2 : Bool), v36 = .bool x36_2 ∧ Aside0 (tabardref12_Same.j0 kq x36_2 l0_0 l0_1 l0_2 l0_3 l1_0 l1_1 l1_2 l1_3 = some r) ∧ Aside0 (kq ≤ k) ∧ Aside0 (wc.heap[gb252]? = some (.cells #[(.slice A0_0 l0_0.length c0_0), (.slice A0_1 l0_1.length c0_1), (.slice A0_2 l0_2.length c0_2), (.slice A0_3 l0_3.length c0_3)] 32 (0, 0))) ∧ Aside0 (wc.heap[gb253]? = some (.cells #[(.slice A1_0 l1_0.length c1_0), (.slice A1_1 l1_1.length c1_1), (.slice A1_2 l1_2.length c1_2), (.slice A1_3 l1_3.length c1_3)] 32 (0, 0))) ∧ Aside0 (Below w.heap.size w wc))
 case first =>
  have H := HC3.out; clear HC3; replace H := Option.bind_eq_some_iff.mp H; obtain ⟨t254, A60, H⟩ := H; replace H : (if t254 = true then ((tabardref12_flags.f k l0_1 l1_1).bind fun t255 => (if t255 = true then ((tabardref12_ints.f k l0_2 l1_2).bind fun t256 => (if t256 = true then (tabardref12_Same.j0 k ((l0_3.length : Int) != (l1_3.length : Int)) l0_0 l0_1 l0_2 l0_3 l1_0 l1_1 l1_2 l1_3) else (tabardref12_Same.j0 k true l0_0 l0_1 l0_2 l0_3 l1_0 l1_1 l1_2 l1_3))) else (tabardref12_Same.j0 k true l0_0 l0_1 l0_2 l0_3 l1_0 l1_1 l1_2 l1_3))) else (tabardref12_Same.j0 k true l0_0 l0_1 l0_2 l0_3 l1_0 l1_1 l1_2 l1_3)) = some r := H; have A6 := Aside0.mk A60; clear A60
  by_cases c7 : t254 = true
  ·subst c7
   have H1 : ((tabardref12_flags.f k l0_1 l1_1).bind fun t255 => (if t255 = true then ((tabardref12_ints.f k l0_2 l1_2).bind fun t256 => (if t256 = true then (tabardref12_Same.j0 k ((l0_3.length : Int) != (l1_3.length : Int)) l0_0 l0_1 l0_2 l0_3 l1_0 l1_1 l1_2 l1_3) else (tabardref12_Same.j0 k true l0_0 l0_1 l0_2 l0_3 l1_0 l1_1 l1_2 l1_3))) else (tabardref12_Same.j0 k true l0_0 l0_1 l0_2 l0_3 l1_0 l1_1 l1_2 l1_3))) = some r := by rw [if_pos rfl] at H; exact H
   clear H; have H := H1; clear H1; replace H := Option.bind_eq_some_iff.mp H; obtain ⟨t255, A80, H⟩ := H; replace H : (if t255 = true then ((tabardref12_ints.f k l0_2 l1_2).bind fun t256 => (if t256 = true then (tabardref12_Same.j0 k ((l0_3.length : Int) != (l1_3.length : Int)) l0_0 l0_1 l0_2 l0_3 l1_0 l1_1 l1_2 l1_3) else (tabardref12_Same.j0 k true l0_0 l0_1 l0_2 l0_3 l1_0 l1_1 l1_2 l1_3))) else (tabardref12_Same.j0 k true l0_0 l0_1 l0_2 l0_3 l1_0 l1_1 l1_2 l1_3)) = some r := H; have A8 := Aside0.mk A80; clear A80
   by_cases c9 : t255 = true
   ·subst c9
    have H1 : ((tabardref12_ints.f k l0_2 l1_2).bind fun t256 => (if t256 = true then (tabardref12_Same.j0 k ((l0_3.length : Int) != (l1_3.length : Int)) l0_0 l0_1 l0_2 l0_3 l1_0 l1_1 l1_2 l1_3) else (tabardref12_Same.j0 k true l0_0 l0_1 l0_2 l0_3 l1_0 l1_1 l1_2 l1_3))) = some r := by rw [if_pos rfl] at H; exact H
    clear H; have H := H1; clear H1; replace H := Option.bind_eq_some_iff.mp H; obtain ⟨t256, A100, H⟩ := H; replace H : (if t256 = true then (tabardref12_Same.j0 k ((l0_3.length : Int) != (l1_3.length : Int)) l0_0 l0_1 l0_2 l0_3 l1_0 l1_1 l1_2 l1_3) else (tabardref12_Same.j0 k true l0_0 l0_1 l0_2 l0_3 l1_0 l1_1 l1_2 l1_3)) = some r := H; have A10 := Aside0.mk A100; clear A100
    by_cases c11 : t256 = true
    ·subst c11
     have H1 : (tabardref12_Same.j0 k ((l0_3.length : Int) != (l1_3.length : Int)) l0_0 l0_1 l0_2 l0_3 l1_0 l1_1 l1_2 l1_3) = some r := by rw [if_pos rfl] at H; exact H
     clear H; have H := H1; clear H1; have H' := Aside0.mk H; clear H; have hnb12 := NB252_253.out; have hnc12 := NB253_252.out; obtain ⟨hcz13_0, hcz13_1, hcz13_2, hcz13_3, hfz13_0, hfz13_1, hfz13_2, hfz13_3⟩ := bF4 BK252.out; obtain ⟨hcz14_0, hcz14_1, hcz14_2, hcz14_3, hfz14_0, hfz14_1, hfz14_2, hfz14_3⟩ := bF4 BK253.out
     go_wp2_with (first | (go_at_call 41; (with_reducible refine (tabardref12_texts.calls k _ _ l0_0 _ _ l1_0 true _ ?s1 ?s2 ?s3 ?s4 A6.out).mono ?_); (case s1 => exact cB HR0_0 HB); (case s2 => exact HC0_0.out); (case s3 => exact cB HR1_0 HB); (case s4 => exact HC1_0.out); rintro e w' ⟨rfl, ⟨nd, rfl⟩⟩; (try exact dN)) | (go_at_call 42; (with_reducible refine (tabardref12_flags.calls k _ _ l0_1 _ _ l1_1 true _ ?s1 ?s2 ?s3 ?s4 A8.out).mono ?_); (case s1 => repeat (first | exact (Kd.C_below HR0_1.out (bS2 HB.out GE252.out GE253.out)) | (with_reducible refine Kd.C_alloc ?_ _) | (with_reducible refine Kd.C_drewN ?_ _) | (with_reducible refine Kd.C_drew ?_))); (case s2 => exact HC0_1.out); (case s3 => repeat (first | exact (Kd.C_below HR1_1.out (bS2 HB.out GE252.out GE253.out)) | (with_reducible refine Kd.C_alloc ?_ _) | (with_reducible refine Kd.C_drewN ?_ _) | (with_reducible refine Kd.C_drew ?_))); (case s4 => exact HC1_1.out); rintro e w' ⟨rfl, ⟨nd, rfl⟩⟩; (try exact dN)) | (go_at_call 43; (with_reducible refine (tabardref12_ints.calls k _ _ l0_2 _ _ l1_2 true _ ?s1 ?s2 ?s3 ?s4 A10.out).mono ?_); (case s1 => repeat (first | exact (Kd.C_below HR0_2.out (bS2 HB.out GE252.out GE253.out)) | (with_reducible refine Kd.C_alloc ?_ _) | (with_reducible refine Kd.C_drewN ?_ _) | (with_reducible refine Kd.C_drew ?_))); (case s2 => exact HC0_2.out); (case s3 => repeat (first | exact (Kd.C_below HR1_2.out (bS2 HB.out GE252.out GE253.out)) | (with_reducible refine Kd.C_alloc ?_ _) | (with_reducible refine Kd.C_drewN ?_ _) | (with_reducible refine Kd.C_drew ?_))); (case s4 => exact HC1_2.out); rintro e w' ⟨rfl, ⟨nd, rfl⟩⟩; (try exact dN)))
     repeat (go_quiet (first | (go_at_call 41; (with_reducible refine (tabardref12_texts.calls k _ _ l0_0 _ _ l1_0 true _ ?s1 ?s2 ?s3 ?s4 A6.out).mono ?_); (case s1 => exact cB HR0_0 HB); (case s2 => exact HC0_0.out); (case s3 => exact cB HR1_0 HB); (case s4 => exact HC1_0.out); rintro e w' ⟨rfl, ⟨nd, rfl⟩⟩; (try exact dN)) | (go_at_call 42; (with_reducible refine (tabardref12_flags.calls k _ _ l0_1 _ _ l1_1 true _ ?s1 ?s2 ?s3 ?s4 A8.out).mono ?_); (case s1 => repeat (first | exact (Kd.C_below HR0_1.out (bS2 HB.out GE252.out GE253.out)) | (with_reducible refine Kd.C_alloc ?_ _) | (with_reducible refine Kd.C_drewN ?_ _) | (with_reducible refine Kd.C_drew ?_))); (case s2 => exact HC0_1.out); (case s3 => repeat (first | exact (Kd.C_below HR1_1.out (bS2 HB.out GE252.out GE253.out)) | (with_reducible refine Kd.C_alloc ?_ _) | (with_reducible refine Kd.C_drewN ?_ _) | (with_reducible refine Kd.C_drew ?_))); (case s4 => exact HC1_1.out); rintro e w' ⟨rfl, ⟨nd, rfl⟩⟩; (try exact dN)) | (go_at_call 43; (with_reducible refine (tabardref12_ints.calls k _ _ l0_2 _ _ l1_2 true _ ?s1 ?s2 ?s3 ?s4 A10.out).mono ?_); (case s1 => repeat (first | exact (Kd.C_below HR0_2.out (bS2 HB.out GE252.out GE253.out)) | (with_reducible refine Kd.C_alloc ?_ _) | (with_reducible refine Kd.C_drewN ?_ _) | (with_reducible refine Kd.C_drew ?_))); (case s2 => exact HC0_2.out); (case s3 => repeat (first | exact (Kd.C_below HR1_2.out (bS2 HB.out GE252.out GE253.out)) | (with_reducible refine Kd.C_alloc ?_ _) | (with_reducible refine Kd.C_drewN ?_ _) | (with_reducible refine Kd.C_drew ?_))); (case s4 => exact HC1_2.out); rintro e w' ⟨rfl, ⟨nd, rfl⟩⟩; (try exact dN))); try go_wp2_with (first | (go_at_call 41; (with_reducible refine (tabardref12_texts.calls k _ _ l0_0 _ _ l1_0 true _ ?s1 ?s2 ?s3 ?s4 A6.out).mono ?_); (case s1 => exact cB HR0_0 HB); (case s2 => exact HC0_0.out); (case s3 => exact cB HR1_0 HB); (case s4 => exact HC1_0.out); rintro e w' ⟨rfl, ⟨nd, rfl⟩⟩; (try exact dN)) | (go_at_call 42; (with_reducible refine (tabardref12_flags.calls k _ _ l0_1 _ _ l1_1 true _ ?s1 ?s2 ?s3 ?s4 A8.out).mono ?_); (case s1 => repeat (first | exact (Kd.C_below HR0_1.out (bS2 HB.out GE252.out GE253.out)) | (with_reducible refine Kd.C_alloc ?_ _) | (with_reducible refine Kd.C_drewN ?_ _) | (with_reducible refine Kd.C_drew ?_))); (case s2 => exact HC0_1.out); (case s3 => repeat (first | exact (Kd.C_below HR1_1.out (bS2 HB.out GE252.out GE253.out)) | (with_reducible refine Kd.C_alloc ?_ _) | (with_reducible refine Kd.C_drewN ?_ _) | (with_reducible refine Kd.C_drew ?_))); (case s4 => exact HC1_1.out); rintro e w' ⟨rfl, ⟨nd, rfl⟩⟩; (try exact dN)) | (go_at_call 43; (with_reducible refine (tabardref12_ints.calls k _ _ l0_2 _ _ l1_2 true _ ?s1 ?s2 ?s3 ?s4 A10.out).mono ?_); (case s1 => repeat (first | exact (Kd.C_below HR0_2.out (bS2 HB.out GE252.out GE253.out)) | (with_reducible refine Kd.C_alloc ?_ _) | (with_reducible refine Kd.C_drewN ?_ _) | (with_reducible refine Kd.C_drew ?_))); (case s2 => exact HC0_2.out); (case s3 => repeat (first | exact (Kd.C_below HR1_2.out (bS2 HB.out GE252.out GE253.out)) | (with_reducible refine Kd.C_alloc ?_ _) | (with_reducible refine Kd.C_drewN ?_ _) | (with_reducible refine Kd.C_drew ?_))); (case s4 => exact HC1_2.out); rintro e w' ⟨rfl, ⟨nd, rfl⟩⟩; (try exact dN))))
     go_meet
     case rel => exact ⟨_, (((l0_3.length : Int) != (l1_3.length : Int))), sI, H', ⟨by first | omega | exact Nat.le_refl _⟩, ⟨kO BK252.out⟩, ⟨kO BK253.out⟩, ⟨bS2 HB.out GE252.out GE253.out⟩⟩
    ·replace c11 := Bool.eq_false_iff.mpr c11; subst c11
     have H1 : (tabardref12_Same.j0 k true l0_0 l0_1 l0_2 l0_3 l1_0 l1_1 l1_2 l1_3) = some r := by rw [if_neg (show ¬ (false = true) by decide)] at H; exact H
     clear H; have H := H1; clear H1; have H' := Aside0.mk H; clear H; have hnb15 := NB252_253.out; have hnc15 := NB253_252.out; obtain ⟨hcz16_0, hcz16_1, hcz16_2, hcz16_3, hfz16_0, hfz16_1, hfz16_2, hfz16_3⟩ := bF4 BK252.out; obtain ⟨hcz17_0, hcz17_1, hcz17_2, hcz17_3, hfz17_0, hfz17_1, hfz17_2, hfz17_3⟩ := bF4 BK253.out
     go_wp2_with (first | (go_at_call 41; (with_reducible refine (tabardref12_texts.calls k _ _ l0_0 _ _ l1_0 true _ ?s1 ?s2 ?s3 ?s4 A6.out).mono ?_); (case s1 => exact cB HR0_0 HB); (case s2 => exact HC0_0.out); (case s3 => exact cB HR1_0 HB); (case s4 => exact HC1_0.out); rintro e w' ⟨rfl, ⟨nd, rfl⟩⟩; (try exact dN)) | (go_at_call 42; (with_reducible refine (tabardref12_flags.calls k _ _ l0_1 _ _ l1_1 true _ ?s1 ?s2 ?s3 ?s4 A8.out).mono ?_); (case s1 => repeat (first | exact (Kd.C_below HR0_1.out (bS2 HB.out GE252.out GE253.out)) | (with_reducible refine Kd.C_alloc ?_ _) | (with_reducible refine Kd.C_drewN ?_ _) | (with_reducible refine Kd.C_drew ?_))); (case s2 => exact HC0_1.out); (case s3 => repeat (first | exact (Kd.C_below HR1_1.out (bS2 HB.out GE252.out GE253.out)) | (with_reducible refine Kd.C_alloc ?_ _) | (with_reducible refine Kd.C_drewN ?_ _) | (with_reducible refine Kd.C_drew ?_))); (case s4 => exact HC1_1.out); rintro e w' ⟨rfl, ⟨nd, rfl⟩⟩; (try exact dN)) | (go_at_call 43; (with_reducible refine (tabardref12_ints.calls k _ _ l0_2 _ _ l1_2 false _ ?s1 ?s2 ?s3 ?s4 A10.out).mono ?_); (case s1 => repeat (first | exact (Kd.C_below HR0_2.out (bS2 HB.out GE252.out GE253.out)) | (with_reducible refine Kd.C_alloc ?_ _) | (with_reducible refine Kd.C_drewN ?_ _) | (with_reducible refine Kd.C_drew ?_))); (case s2 => exact HC0_2.out); (case s3 => repeat (first | exact (Kd.C_below HR1_2.out (bS2 HB.out GE252.out GE253.out)) | (with_reducible refine Kd.C_alloc ?_ _) | (with_reducible refine Kd.C_drewN ?_ _) | (with_reducible refine Kd.C_drew ?_))); (case s4 => exact HC1_2.out); rintro e w' ⟨rfl, ⟨nd, rfl⟩⟩; (try exact dN)))
     repeat (go_quiet (first | (go_at_call 41; (with_reducible refine (tabardref12_texts.calls k _ _ l0_0 _ _ l1_0 true _ ?s1 ?s2 ?s3 ?s4 A6.out).mono ?_); (case s1 => exact cB HR0_0 HB); (case s2 => exact HC0_0.out); (case s3 => exact cB HR1_0 HB); (case s4 => exact HC1_0.out); rintro e w' ⟨rfl, ⟨nd, rfl⟩⟩; (try exact dN)) | (go_at_call 42; (with_reducible refine (tabardref12_flags.calls k _ _ l0_1 _ _ l1_1 true _ ?s1 ?s2 ?s3 ?s4 A8.out).mono ?_); (case s1 => repeat (first | exact (Kd.C_below HR0_1.out (bS2 HB.out GE252.out GE253.out)) | (with_reducible refine Kd.C_alloc ?_ _) | (with_reducible refine Kd.C_drewN ?_ _) | (with_reducible refine Kd.C_drew ?_))); (case s2 => exact HC0_1.out); (case s3 => repeat (first | exact (Kd.C_below HR1_1.out (bS2 HB.out GE252.out GE253.out)) | (with_reducible refine Kd.C_alloc ?_ _) | (with_reducible refine Kd.C_drewN ?_ _) | (with_reducible refine Kd.C_drew ?_))); (case s4 => exact HC1_1.out); rintro e w' ⟨rfl, ⟨nd, rfl⟩⟩; (try exact dN)) | (go_at_call 43; (with_reducible refine (tabardref12_ints.calls k _ _ l0_2 _ _ l1_2 false _ ?s1 ?s2 ?s3 ?s4 A10.out).mono ?_); (case s1 => repeat (first | exact (Kd.C_below HR0_2.out (bS2 HB.out GE252.out GE253.out)) | (with_reducible refine Kd.C_alloc ?_ _) | (with_reducible refine Kd.C_drewN ?_ _) | (with_reducible refine Kd.C_drew ?_))); (case s2 => exact HC0_2.out); (case s3 => repeat (first | exact (Kd.C_below HR1_2.out (bS2 HB.out GE252.out GE253.out)) | (with_reducible refine Kd.C_alloc ?_ _) | (with_reducible refine Kd.C_drewN ?_ _) | (with_reducible refine Kd.C_drew ?_))); (case s4 => exact HC1_2.out); rintro e w' ⟨rfl, ⟨nd, rfl⟩⟩; (try exact dN))); try go_wp2_with (first | (go_at_call 41; (with_reducible refine (tabardref12_texts.calls k _ _ l0_0 _ _ l1_0 true _ ?s1 ?s2 ?s3 ?s4 A6.out).mono ?_); (case s1 => exact cB HR0_0 HB); (case s2 => exact HC0_0.out); (case s3 => exact cB HR1_0 HB); (case s4 => exact HC1_0.out); rintro e w' ⟨rfl, ⟨nd, rfl⟩⟩; (try exact dN)) | (go_at_call 42; (with_reducible refine (tabardref12_flags.calls k _ _ l0_1 _ _ l1_1 true _ ?s1 ?s2 ?s3 ?s4 A8.out).mono ?_); (case s1 => repeat (first | exact (Kd.C_below HR0_1.out (bS2 HB.out GE252.out GE253.out)) | (with_reducible refine Kd.C_alloc ?_ _) | (with_reducible refine Kd.C_drewN ?_ _) | (with_reducible refine Kd.C_drew ?_))); (case s2 => exact HC0_1.out); (case s3 => repeat (first | exact (Kd.C_below HR1_1.out (bS2 HB.out GE252.out GE253.out)) | (with_reducible refine Kd.C_alloc ?_ _) | (with_reducible refine Kd.C_drewN ?_ _) | (with_reducible refine Kd.C_drew ?_))); (case s4 => exact HC1_1.out); rintro e w' ⟨rfl, ⟨nd, rfl⟩⟩; (try exact dN)) | (go_at_call 43; (with_reducible refine (tabardref12_ints.calls k _ _ l0_2 _ _ l1_2 false _ ?s1 ?s2 ?s3 ?s4 A10.out).mono ?_); (case s1 => repeat (first | exact (Kd.C_below HR0_2.out (bS2 HB.out GE252.out GE253.out)) | (with_reducible refine Kd.C_alloc ?_ _) | (with_reducible refine Kd.C_drewN ?_ _) | (with_reducible refine Kd.C_drew ?_))); (case s2 => exact HC0_2.out); (case s3 => repeat (first | exact (Kd.C_below HR1_2.out (bS2 HB.out GE252.out GE253.out)) | (with_reducible refine Kd.C_alloc ?_ _) | (with_reducible refine Kd.C_drewN ?_ _) | (with_reducible refine Kd.C_drew ?_))); (case s4 => exact HC1_2.out); rintro e w' ⟨rfl, ⟨nd, rfl⟩⟩; (try exact dN))))
     go_meet
     case rel => exact ⟨_, (true), sI, H', ⟨by first | omega | exact Nat.le_refl _⟩, ⟨kO BK252.out⟩, ⟨kO BK253.out⟩, ⟨bS2 HB.out GE252.out GE253.out⟩⟩
   ·replace c9 := Bool.eq_false_iff.mpr c9; subst c9
    have H1 : (tabardref12_Same.j0 k true l0_0 l0_1 l0_2 l0_3 l1_0 l1_1 l1_2 l1_3) = some r := by rw [if_neg (show ¬ (false = true) by decide)] at H; exact H
    clear H; have H := H1; clear H1; have H' := Aside0.mk H; clear H; have hnb18 := NB252_253.out; have hnc18 := NB253_252.out; obtain ⟨hcz19_0, hcz19_1, hcz19_2, hcz19_3, hfz19_0, hfz19_1, hfz19_2, hfz19_3⟩ := bF4 BK252.out; obtain ⟨hcz20_0, hcz20_1, hcz20_2, hcz20_3, hfz20_0, hfz20_1, hfz20_2, hfz20_3⟩ := bF4 BK253.out
    go_wp2_with (first | (go_at_call 41; (with_reducible refine (tabardref12_texts.calls k _ _ l0_0 _ _ l1_0 true _ ?s1 ?s2 ?s3 ?s4 A6.out).mono ?_); (case s1 => exact cB HR0_0 HB); (case s2 => exact HC0_0.out); (case s3 => exact cB HR1_0 HB); (case s4 => exact HC1_0.out); rintro e w' ⟨rfl, ⟨nd, rfl⟩⟩; (try exact dN)) | (go_at_call 42; (with_reducible refine (tabardref12_flags.calls k _ _ l0_1 _ _ l1_1 false _ ?s1 ?s2 ?s3 ?s4 A8.out).mono ?_); (case s1 => repeat (first | exact (Kd.C_below HR0_1.out (bS2 HB.out GE252.out GE253.out)) | (with_reducible refine Kd.C_alloc ?_ _) | (with_reducible refine Kd.C_drewN ?_ _) | (with_reducible refine Kd.C_drew ?_))); (case s2 => exact HC0_1.out); (case s3 => repeat (first | exact (Kd.C_below HR1_1.out (bS2 HB.out GE252.out GE253.out)) | (with_reducible refine Kd.C_alloc ?_ _) | (with_reducible refine Kd.C_drewN ?_ _) | (with_reducible refine Kd.C_drew ?_))); (case s4 => exact HC1_1.out); rintro e w' ⟨rfl, ⟨nd, rfl⟩⟩; (try exact dN)))
    repeat (go_quiet (first | (go_at_call 41; (with_reducible refine (tabardref12_texts.calls k _ _ l0_0 _ _ l1_0 true _ ?s1 ?s2 ?s3 ?s4 A6.out).mono ?_); (case s1 => exact cB HR0_0 HB); (case s2 => exact HC0_0.out); (case s3 => exact cB HR1_0 HB); (case s4 => exact HC1_0.out); rintro e w' ⟨rfl, ⟨nd, rfl⟩⟩; (try exact dN)) | (go_at_call 42; (with_reducible refine (tabardref12_flags.calls k _ _ l0_1 _ _ l1_1 false _ ?s1 ?s2 ?s3 ?s4 A8.out).mono ?_); (case s1 => repeat (first | exact (Kd.C_below HR0_1.out (bS2 HB.out GE252.out GE253.out)) | (with_reducible refine Kd.C_alloc ?_ _) | (with_reducible refine Kd.C_drewN ?_ _) | (with_reducible refine Kd.C_drew ?_))); (case s2 => exact HC0_1.out); (case s3 => repeat (first | exact (Kd.C_below HR1_1.out (bS2 HB.out GE252.out GE253.out)) | (with_reducible refine Kd.C_alloc ?_ _) | (with_reducible refine Kd.C_drewN ?_ _) | (with_reducible refine Kd.C_drew ?_))); (case s4 => exact HC1_1.out); rintro e w' ⟨rfl, ⟨nd, rfl⟩⟩; (try exact dN))); try go_wp2_with (first | (go_at_call 41; (with_reducible refine (tabardref12_texts.calls k _ _ l0_0 _ _ l1_0 true _ ?s1 ?s2 ?s3 ?s4 A6.out).mono ?_); (case s1 => exact cB HR0_0 HB); (case s2 => exact HC0_0.out); (case s3 => exact cB HR1_0 HB); (case s4 => exact HC1_0.out); rintro e w' ⟨rfl, ⟨nd, rfl⟩⟩; (try exact dN)) | (go_at_call 42; (with_reducible refine (tabardref12_flags.calls k _ _ l0_1 _ _ l1_1 false _ ?s1 ?s2 ?s3 ?s4 A8.out).mono ?_); (case s1 => repeat (first | exact (Kd.C_below HR0_1.out (bS2 HB.out GE252.out GE253.out)) | (with_reducible refine Kd.C_alloc ?_ _) | (with_reducible refine Kd.C_drewN ?_ _) | (with_reducible refine Kd.C_drew ?_))); (case s2 => exact HC0_1.out); (case s3 => repeat (first | exact (Kd.C_below HR1_1.out (bS2 HB.out GE252.out GE253.out)) | (with_reducible refine Kd.C_alloc ?_ _) | (with_reducible refine Kd.C_drewN ?_ _) | (with_reducible refine Kd.C_drew ?_))); (case s4 => exact HC1_1.out); rintro e w' ⟨rfl, ⟨nd, rfl⟩⟩; (try exact dN))))
    go_meet
    case rel => exact ⟨_, (true), sI, H', ⟨by first | omega | exact Nat.le_refl _⟩, ⟨kO BK252.out⟩, ⟨kO BK253.out⟩, ⟨bS2 HB.out GE252.out GE253.out⟩⟩
  ·replace c7 := Bool.eq_false_iff.mpr c7; subst c7
   have H1 : (tabardref12_Same.j0 k true l0_0 l0_1 l0_2 l0_3 l1_0 l1_1 l1_2 l1_3) = some r := by rw [if_neg (show ¬ (false = true) by decide)] at H; exact H
   clear H; have H := H1; clear H1; have H' := Aside0.mk H; clear H; have hnb21 := NB252_253.out; have hnc21 := NB253_252.out; obtain ⟨hcz22_0, hcz22_1, hcz22_2, hcz22_3, hfz22_0, hfz22_1, hfz22_2, hfz22_3⟩ := bF4 BK252.out; obtain ⟨hcz23_0, hcz23_1, hcz23_2, hcz23_3, hfz23_0, hfz23_1, hfz23_2, hfz23_3⟩ := bF4 BK253.out
   go_wp2_with (first | (go_at_call 41; (with_reducible refine (tabardref12_texts.calls k _ _ l0_0 _ _ l1_0 false _ ?s1 ?s2 ?s3 ?s4 A6.out).mono ?_); (case s1 => exact cB HR0_0 HB); (case s2 => exact HC0_0.out); (case s3 => exact cB HR1_0 HB); (case s4 => exact HC1_0.out); rintro e w' ⟨rfl, ⟨nd, rfl⟩⟩; (try exact dN)))
   repeat (go_quiet (first | (go_at_call 41; (with_reducible refine (tabardref12_texts.calls k _ _ l0_0 _ _ l1_0 false _ ?s1 ?s2 ?s3 ?s4 A6.out).mono ?_); (case s1 => exact cB HR0_0 HB); (case s2 => exact HC0_0.out); (case s3 => exact cB HR1_0 HB); (case s4 => exact HC1_0.out); rintro e w' ⟨rfl, ⟨nd, rfl⟩⟩; (try exact dN))); try go_wp2_with (first | (go_at_call 41; (with_reducible refine (tabardref12_texts.calls k _ _ l0_0 _ _ l1_0 false _ ?s1 ?s2 ?s3 ?s4 A6.out).mono ?_); (case s1 => exact cB HR0_0 HB); (case s2 => exact HC0_0.out); (case s3 => exact cB HR1_0 HB); (case s4 => exact HC1_0.out); rintro e w' ⟨rfl, ⟨nd, rfl⟩⟩; (try exact dN))))
   go_meet
   case rel => exact ⟨_, (true), sI, H', ⟨by first | omega | exact Nat.le_refl _⟩, ⟨kO BK252.out⟩, ⟨kO BK253.out⟩, ⟨bS2 HB.out GE252.out GE253.out⟩⟩
 case rest =>
  clear HC3
  try clear c1
  try clear c2
  try clear p2
  try clear c7
  try clear c9
  try clear c11
  try clear c12
  try clear c15
  try clear c18
  try clear c19
  try clear c21
  try clear hcz13_0
  try clear hcz13_1
  try clear hcz13_2
  try clear hcz13_3
  try clear hcz14_0
  try clear hcz14_1
  try clear hcz14_2
  try clear hcz14_3
  try clear hcz16_0
  try clear hcz16_1
  try clear hcz16_2
  try clear hcz16_3
  try clear hcz17_0
  try clear hcz17_1
  try clear hcz17_2
  try clear hcz17_3
  try clear hcz19_0
  try clear hcz19_1
  try clear hcz19_2
  try clear hcz19_3
  try clear hcz20_0
  try clear hcz20_1
  try clear hcz20_2
  try clear hcz20_3
  try clear hcz22_0
  try clear hcz22_1
  try clear hcz22_2
  try clear hcz22_3
  try clear hcz23_0
  try clear hcz23_1
  try clear hcz23_2
  try clear hcz23_3
  try clear hfz13_0
  try clear hfz13_1
  try clear hfz13_2
  try clear hfz13_3
  try clear hfz14_0
  try clear hfz14_1
  try clear hfz14_2
  try clear hfz14_3
  try clear hfz16_0
  try clear hfz16_1
  try clear hfz16_2
  try clear hfz16_3
  try clear hfz17_0
  try clear hfz17_1
  try clear hfz17_2
  try clear hfz17_3
  try clear hfz19_0
  try clear hfz19_1
  try clear hfz19_2
  try clear hfz19_3
  try clear hfz20_0
  try clear hfz20_1
  try clear hfz20_2
  try clear hfz20_3
  try clear hfz22_0
  try clear hfz22_1
  try clear hfz22_2
  try clear hfz22_3
  try clear hfz23_0
  try clear hfz23_1
  try clear hfz23_2
  try clear hfz23_3
  obtain ⟨kq, x36_2, rfl, HA, HJ2, BK252, BK253, HB⟩ := hcut; cases kq with
  | zero => exact absurd HA.out (by simp [tabardref12_Same.j0])
  | succ kj2 =>
   have H := HA.out; clear HA; simp only [tabardref12_Same.j0] at H
   by_cases c24 : x36_2 = true
   ·subst c24
    have H1 : (some false) = some r := by rw [if_pos rfl] at H; exact H
    clear H; have H := H1; clear H1; obtain rfl := Option.some.inj H
    go_wp2
    repeat (go_quiet (fail); try go_wp2)
    go_ret
    exact ⟨eW, bS2 HB.out GE252.out GE253.out⟩
   ·replace c24 := Bool.eq_false_iff.mpr c24; subst c24
    have H1 : (tabardref12_Same.l0 kj2 0 l0_0 l0_1 l0_2 l0_3 l1_0 l1_1 l1_2 l1_3) = some r := by rw [if_neg (show ¬ (false = true) by decide)] at H; exact H
    clear H; have H := H1; clear H1; have H' := Aside0.mk H; clear H
    go_wp2
    repeat (go_quiet (fail); try go_wp2)
    go_loopg [5] kj2 (fun kq v5 w' => ∃ (x5_2 : Int), v5 = .int .i64 x5_2 ∧ Aside0 (tabardref12_Same.l0 kq x5_2 l0_0 l0_1 l0_2 l0_3 l1_0 l1_1 l1_2 l1_3 = some r) ∧ Aside0 (kq ≤ kj2) ∧ Aside0 (w'.heap[gb252]? = some (.cells #[(.slice A0_0 l0_0.length c0_0), (.slice A0_1 l0_1.length c0_1), (.slice A0_2 l0_2.length c0_2), (.slice A0_3 l0_3.length c0_3)] 32 (0, 0))) ∧ Aside0 (w'.heap[gb253]? = some (.cells #[(.slice A1_0 l1_0.length c1_0), (.slice A1_1 l1_1.length c1_1), (.slice A1_2 l1_2.length c1_2), (.slice A1_3 l1_3.length c1_3)] 32 (0, 0))) ∧ Aside0 (Below w.heap.size w w'))
    case atStart => exact ⟨(0), sI, H', ⟨Nat.le_refl _⟩, ⟨kO BK252.out⟩, ⟨kO BK253.out⟩, ⟨bS2 HB.out GE252.out GE253.out⟩⟩
    case round =>
     clear H'
     try clear c1
     try clear c2
     try clear p2
     try clear c7
     try clear c9
     try clear c11
     try clear c12
     try clear c15
     try clear c18
     try clear c19
     try clear c21
     try clear c24
     try clear hcz13_0
     try clear hcz13_1
     try clear hcz13_2
     try clear hcz13_3
     try clear hcz14_0
     try clear hcz14_1
     try clear hcz14_2
     try clear hcz14_3
     try clear hcz16_0
     try clear hcz16_1
     try clear hcz16_2
     try clear hcz16_3
     try clear hcz17_0
     try clear hcz17_1
     try clear hcz17_2
     try clear hcz17_3
     try clear hcz19_0
     try clear hcz19_1
     try clear hcz19_2
     try clear hcz19_3
     try clear hcz20_0
     try clear hcz20_1
     try clear hcz20_2
     try clear hcz20_3
     try clear hcz22_0
     try clear hcz22_1
     try clear hcz22_2
     try clear hcz22_3
     try clear hcz23_0
     try clear hcz23_1
     try clear hcz23_2
     try clear hcz23_3
     try clear hfz13_0
     try clear hfz13_1
     try clear hfz13_2
     try clear hfz13_3
     try clear hfz14_0
     try clear hfz14_1
     try clear hfz14_2
     try clear hfz14_3
     try clear hfz16_0
     try clear hfz16_1
     try clear hfz16_2
     try clear hfz16_3
     try clear hfz17_0
     try clear hfz17_1
     try clear hfz17_2
     try clear hfz17_3
     try clear hfz19_0
     try clear hfz19_1
     try clear hfz19_2
     try clear hfz19_3
     try clear hfz20_0
     try clear hfz20_1
     try clear hfz20_2
     try clear hfz20_3
     try clear hfz22_0
     try clear hfz22_1
     try clear hfz22_2
     try clear hfz22_3
     try clear hfz23_0
     try clear hfz23_1
     try clear hfz23_2
     try clear hfz23_3
     try clear p2
     obtain ⟨x5_2, rfl, HA, HK2, BK252, BK253, HB⟩ := hrel; cases gk with
     | zero => exact absurd HA.out (by simp [tabardref12_Same.l0])
     | succ k2 =>
      have H := HA.out; clear HA; simp only [tabardref12_Same.l0] at H
      by_cases c25 : x5_2 < (l0_3.length : Int)
      ·rw [if_pos c25] at H; have c25b0 := decide_eq_true c25; clear c25
       by_cases c26 : 0 ≤ x5_2
       ·rw [if_pos c26] at H; have c26b0 := decide_eq_true c26; clear c26
        by_cases c27 : x5_2 < (l1_3.length : Int)
        ·rw [if_pos c27] at H; have c27b0 := decide_eq_true c27; clear c27
         by_cases c28 : (!(((rd_T58 l0_3 x5_2).f0) == ((rd_T58 l1_3 x5_2).f0)) || (!(((rd_T58 l0_3 x5_2).f1) == ((rd_T58 l1_3 x5_2).f1)) || (!(((rd_T58 l0_3 x5_2).f2) == ((rd_T58 l1_3 x5_2).f2))))) = true
         ·rw [if_pos c28] at H; have c28b0 : (!(((rd_T58 l0_3 x5_2).f0) == ((rd_T58 l1_3 x5_2).f0)) || (!(((rd_T58 l0_3 x5_2).f1) == ((rd_T58 l1_3 x5_2).f1)) || (!(((rd_T58 l0_3 x5_2).f2) == ((rd_T58 l1_3 x5_2).f2))))) = true := c28; clear c28; obtain rfl := Option.some.inj H; have hnb29 := NB252_253.out; have hnc29 := NB253_252.out; obtain ⟨hcz30_0, hcz30_1, hcz30_2, hcz30_3, hfz30_0, hfz30_1, hfz30_2, hfz30_3⟩ := bF4 BK252.out; have p257 : 0 ≤ (x5_2 : Int) := of_decide_eq_true aO; have q257 : x5_2 < (l0_3.length : Int) := of_decide_eq_true aO; obtain ⟨ad257, e257, hx257_0, hx257_1, hx257_2⟩ := at_T58 HR0_3.out x5_2 p257 q257; cases e257; replace hx257_0 := cX HB hx257_0; replace hx257_1 := cX HB hx257_1; replace hx257_2 := cX HB hx257_2; replace p257 := eq_true p257; replace q257 := eq_true q257; obtain ⟨hcz31_0, hcz31_1, hcz31_2, hcz31_3, hfz31_0, hfz31_1, hfz31_2, hfz31_3⟩ := bF4 BK253.out; have p258 : 0 ≤ (x5_2 : Int) := of_decide_eq_true aO; have q258 : x5_2 < (l1_3.length : Int) := of_decide_eq_true aO; obtain ⟨ad258, e258, hx258_0, hx258_1, hx258_2⟩ := at_T58 HR1_3.out x5_2 p258 q258; cases e258; replace hx258_0 := cX HB hx258_0; replace hx258_1 := cX HB hx258_1; replace hx258_2 := cX HB hx258_2; replace p258 := eq_true p258; replace q258 := eq_true q258
          go_wp2
          repeat (go_quiet (fail); try go_wp2)
          go_ret
          exact ⟨eW, bS2 HB.out GE252.out GE253.out⟩
         ·rw [if_neg c28] at H
          have c28b0 : (!(((rd_T58 l0_3 x5_2).f0) == ((rd_T58 l1_3 x5_2).f0)) || (!(((rd_T58 l0_3 x5_2).f1) == ((rd_T58 l1_3 x5_2).f1)) || (!(((rd_T58 l0_3 x5_2).f2) == ((rd_T58 l1_3 x5_2).f2))))) = false := by simpa using c28
          clear c28; have H' := Aside0.mk H; clear H; have hnb32 := NB252_253.out; have hnc32 := NB253_252.out; obtain ⟨hcz33_0, hcz33_1, hcz33_2, hcz33_3, hfz33_0, hfz33_1, hfz33_2, hfz33_3⟩ := bF4 BK252.out; have p257 : 0 ≤ (x5_2 : Int) := of_decide_eq_true aO; have q257 : x5_2 < (l0_3.length : Int) := of_decide_eq_true aO; obtain ⟨ad257, e257, hx257_0, hx257_1, hx257_2⟩ := at_T58 HR0_3.out x5_2 p257 q257; cases e257; replace hx257_0 := cX HB hx257_0; replace hx257_1 := cX HB hx257_1; replace hx257_2 := cX HB hx257_2; replace p257 := eq_true p257; replace q257 := eq_true q257; obtain ⟨hcz34_0, hcz34_1, hcz34_2, hcz34_3, hfz34_0, hfz34_1, hfz34_2, hfz34_3⟩ := bF4 BK253.out; have p258 : 0 ≤ (x5_2 : Int) := of_decide_eq_true aO; have q258 : x5_2 < (l1_3.length : Int) := of_decide_eq_true aO; obtain ⟨ad258, e258, hx258_0, hx258_1, hx258_2⟩ := at_T58 HR1_3.out x5_2 p258 q258; cases e258; replace hx258_0 := cX HB hx258_0; replace hx258_1 := cX HB hx258_1; replace hx258_2 := cX HB hx258_2; replace p258 := eq_true p258; replace q258 := eq_true q258
          go_wp2
          repeat (go_quiet (fail); try go_wp2)
          go_roundg k2
          case measure => have := HJ2.out; have := HK2.out; omega
          case rel => exact ⟨(wrap64 (x5_2 + 1)), sI, H', ⟨by have := HJ2.out; have := HK2.out; omega⟩, ⟨kO BK252.out⟩, ⟨kO BK253.out⟩, ⟨bS2 HB.out GE252.out GE253.out⟩⟩
        ·rw [if_neg c27] at H; exact absurd H (by simp)
       ·rw [if_neg c26] at H; exact absurd H (by simp)
      ·rw [if_neg c25] at H; have c25b0 := decide_eq_false c25; clear c25; obtain rfl := Option.some.inj H; have hnb35 := NB252_253.out; have hnc35 := NB253_252.out; obtain ⟨hcz36_0, hcz36_1, hcz36_2, hcz36_3, hfz36_0, hfz36_1, hfz36_2, hfz36_3⟩ := bF4 BK252.out
       go_wp2
       repeat (go_quiet (fail); try go_wp2)
       go_ret
       exact ⟨eW, bS2 HB.out GE252.out GE253.out⟩

end Go.Proofs.Ytghfclgcgecgdaa.X

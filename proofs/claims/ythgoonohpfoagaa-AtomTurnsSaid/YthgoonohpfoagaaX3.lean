/- What the functions of this seat compute, and that the program's calls come to just that: written by this session's own program out of the translation; no condition. -/
import Derived.Test.YthgoonohpfoagaaX0
namespace Go.Proofs.Ythgoonohpfoagaa.X
open Go.RowKit Go.Proofs.YthgoonohpfoagaaW.PrintWords Go.Proofs.YthgoonohpfoagaaW.PrintLast Go.Proofs.YthgoonohpfoagaaW.PrintMore
attribute [local go_sem] max2_int min2_int max_two min_two max_three min_three max_four min_four
set_option linter.unusedVariables false
set_option linter.unusedSimpArgs false

/-! ### glyph_Start: function 91 -/
mutual
def glyph_Start.j0 : Nat → Int → Bool → Option (Bool)
 | 0, _, _ => none
 | k + 1, x0, x3 => if x3 = true then (glyph_Start.j1 k x0 x3) else (if x0 ≥ 97 then (if x0 ≤ 122 then (glyph_Start.j1 k x0 (decide (x0 ≤ 122))) else (glyph_Start.j1 k x0 (x0 == 95))) else (glyph_Start.j1 k x0 (x0 == 95)))
def glyph_Start.j1 : Nat → Int → Bool → Option (Bool)
 | 0, _, _ => none
 | k + 1, x0, x3 => if x3 = true then (some true) else (if x0 ≥ 913 then (glyph_Start.j2 k x0 (decide (x0 ≤ 929))) else (glyph_Start.j2 k x0 false))
def glyph_Start.j2 : Nat → Int → Bool → Option (Bool)
 | 0, _, _ => none
 | k + 1, x0, x18 => if x18 = true then (some true) else (if x0 ≥ 931 then (glyph_Start.j3 k x0 (decide (x0 ≤ 937))) else (glyph_Start.j3 k x0 false))
def glyph_Start.j3 : Nat → Int → Bool → Option (Bool)
 | 0, _, _ => none
 | k + 1, x0, x18 => if x18 = true then (some true) else (if x0 ≥ 945 then (if x0 ≤ 969 then (some true) else (some false)) else (some false))
end
def glyph_Start.f (k : Nat) (a0 : Int) : Option (Bool) := if a0 ≥ 65 then (glyph_Start.j0 k a0 (decide (a0 ≤ 90))) else (glyph_Start.j0 k a0 false)
theorem glyph_Start.mono_l : ∀ k, (∀ y0 y1, LeO (glyph_Start.j0 k y0 y1) (glyph_Start.j0 (k + 1) y0 y1)) ∧ (∀ y0 y1, LeO (glyph_Start.j1 k y0 y1) (glyph_Start.j1 (k + 1) y0 y1)) ∧ (∀ y0 y1, LeO (glyph_Start.j2 k y0 y1) (glyph_Start.j2 (k + 1) y0 y1)) ∧ (∀ y0 y1, LeO (glyph_Start.j3 k y0 y1) (glyph_Start.j3 (k + 1) y0 y1))
 | 0 => ⟨fun _ _ r h => by simp [glyph_Start.j0] at h, fun _ _ r h => by simp [glyph_Start.j1] at h, fun _ _ r h => by simp [glyph_Start.j2] at h, fun _ _ r h => by simp [glyph_Start.j3] at h⟩
 | k + 1 => by
  obtain ⟨ih0, ih1, ih2, ih3⟩ := glyph_Start.mono_l k; refine ⟨?_, ?_, ?_, ?_⟩
  ·intro y0 y1
   unfold glyph_Start.j0
   repeat' first | (with_reducible first | exact ih0 _ _ | exact ih1 _ _ | exact ih2 _ _ | exact ih3 _ _ | exact lA | apply lI | refine lB ?_ fun _ => ?_) | exact lN _ | apply lI | refine lB ?_ fun _ => ?_
  ·intro y0 y1
   unfold glyph_Start.j1
   repeat' first | (with_reducible first | exact ih0 _ _ | exact ih1 _ _ | exact ih2 _ _ | exact ih3 _ _ | exact lA | apply lI | refine lB ?_ fun _ => ?_) | exact lN _ | apply lI | refine lB ?_ fun _ => ?_
  ·intro y0 y1
   unfold glyph_Start.j2
   repeat' first | (with_reducible first | exact ih0 _ _ | exact ih1 _ _ | exact ih2 _ _ | exact ih3 _ _ | exact lA | apply lI | refine lB ?_ fun _ => ?_) | exact lN _ | apply lI | refine lB ?_ fun _ => ?_
  ·intro y0 y1
   unfold glyph_Start.j3
   repeat' first | (with_reducible first | exact ih0 _ _ | exact ih1 _ _ | exact ih2 _ _ | exact ih3 _ _ | exact lA | apply lI | refine lB ?_ fun _ => ?_) | exact lN _ | apply lI | refine lB ?_ fun _ => ?_
theorem glyph_Start.mono : ∀ a0 k, LeO (glyph_Start.f k a0) (glyph_Start.f (k + 1) a0) := by
 intro a0 k; obtain ⟨ih0, ih1, ih2, ih3⟩ := glyph_Start.mono_l k
 unfold glyph_Start.f
 repeat' first | (with_reducible first | exact ih0 _ _ | exact ih1 _ _ | exact ih2 _ _ | exact ih3 _ _ | exact lA | apply lI | refine lB ?_ fun _ => ?_) | exact lN _ | apply lI | refine lB ?_ fun _ => ?_
set_option maxHeartbeats 8000000 in
set_option maxRecDepth 100000 in
theorem glyph_Start.calls (k : Nat) (a0 : Int) (r : Bool) (w : World) (h : glyph_Start.f k a0 = some r) :
  Calls Try.prog 91 #[.int .i32 a0] w fun e w' => e = .returned (.bool r) ∧ Drawn0 w w' := by
 have H : (if a0 ≥ 65 then (glyph_Start.j0 k a0 (decide (a0 ≤ 90))) else (glyph_Start.j0 k a0 false)) = some r := h; clear h; have HC2 := Aside0.mk H; clear H
 go_enter Try.func91, Try.ntmps91
 go_upto_region 1 with (fail)
 go_cut [3] (fun v3 wc => ∃ (kq : Nat) (x3_1 : Bool), v3 = .bool x3_1 ∧ Aside0 (glyph_Start.j0 kq a0 x3_1 = some r) ∧ Aside0 (kq ≤ k) ∧ Drawn0 w wc)
 case first =>
  have H := HC2.out; clear HC2
  by_cases c3 : a0 ≥ 65
  ·rw [if_pos c3] at H; have c3b0 := decide_eq_true c3; clear c3
   (first | rw [c3b0] | (simp only [i64_w, i32_w]; rw [c3b0]) | skip)
   have H' := Aside0.mk H; clear H
   go_wp2
   go_meet
   case rel => exact ⟨_, (decide (a0 ≤ 90)), sI, H', ⟨by first | omega | exact Nat.le_refl _⟩, by repeat (first | exact Drawn0.refl _ | apply Drawn0.step)⟩
  ·rw [if_neg c3] at H; have c3b0 := decide_eq_false c3; clear c3
   (first | rw [c3b0] | (simp only [i64_w, i32_w]; rw [c3b0]) | skip)
   have H' := Aside0.mk H; clear H
   go_wp2
   go_meet
   case rel => exact ⟨_, (false), sI, H', ⟨by first | omega | exact Nat.le_refl _⟩, by repeat (first | exact Drawn0.refl _ | apply Drawn0.step)⟩
 case rest =>
  clear HC2
  try clear p2
  try clear c3
  try clear c3b0
  obtain ⟨kq, x3_1, rfl, HA, HJ1, ⟨mc1, rfl⟩⟩ := hcut; cases kq with
  | zero => exact absurd HA.out (by simp [glyph_Start.j0])
  | succ kj1 =>
   have H := HA.out; clear HA; simp only [glyph_Start.j0] at H; have HC4 := Aside0.mk H; clear H
   go_upto_if 3 with (fail)
   go_cut [3] (fun v3 wc => ∃ (kq : Nat) (x3_3 : Bool), v3 = .bool x3_3 ∧ Aside0 (glyph_Start.j1 kq a0 x3_3 = some r) ∧ Aside0 (kq ≤ kj1) ∧ Drawn0 w wc)
   case first =>
    have H := HC4.out; clear HC4
    by_cases c5 : x3_1 = true
    ·subst c5
     have H1 : (glyph_Start.j1 kj1 a0 true) = some r := by rw [if_pos rfl] at H; exact H
     clear H; have H := H1; clear H1; have H' := Aside0.mk H; clear H
     go_wp2
     go_meet
     case rel => exact ⟨_, (true), sI, H', ⟨by have := HJ1.out; first | omega | exact Nat.le_refl _⟩, by repeat (first | exact Drawn0.refl _ | apply Drawn0.step)⟩
    ·replace c5 := Bool.eq_false_iff.mpr c5; subst c5
     have H1 : (if a0 ≥ 97 then (if a0 ≤ 122 then (glyph_Start.j1 kj1 a0 (decide (a0 ≤ 122))) else (glyph_Start.j1 kj1 a0 (a0 == 95))) else (glyph_Start.j1 kj1 a0 (a0 == 95))) = some r := by rw [if_neg (show ¬ (false = true) by decide)] at H; exact H
     clear H; have H := H1; clear H1
     by_cases c6 : a0 ≥ 97
     ·rw [if_pos c6] at H; have c6b0 := decide_eq_true c6; clear c6
      (first | rw [c6b0] | (simp only [i64_w, i32_w]; rw [c6b0]) | skip)
      by_cases c7 : a0 ≤ 122
      ·rw [if_pos c7] at H; have c7b0 := decide_eq_true c7; clear c7; have H' := Aside0.mk H; clear H
       go_wp2
       go_meet
       case rel => exact ⟨_, (decide (a0 ≤ 122)), sI, H', ⟨by have := HJ1.out; first | omega | exact Nat.le_refl _⟩, by repeat (first | exact Drawn0.refl _ | apply Drawn0.step)⟩
      ·rw [if_neg c7] at H; have c7b0 := decide_eq_false c7; clear c7; have H' := Aside0.mk H; clear H
       go_wp2
       go_meet
       case rel => exact ⟨_, ((a0 == 95)), sI, H', ⟨by have := HJ1.out; first | omega | exact Nat.le_refl _⟩, by repeat (first | exact Drawn0.refl _ | apply Drawn0.step)⟩
     ·rw [if_neg c6] at H; have c6b0 := decide_eq_false c6; clear c6
      (first | rw [c6b0] | (simp only [i64_w, i32_w]; rw [c6b0]) | skip)
      have H' := Aside0.mk H; clear H
      go_wp2
      go_meet
      case rel => exact ⟨_, ((a0 == 95)), sI, H', ⟨by have := HJ1.out; first | omega | exact Nat.le_refl _⟩, by repeat (first | exact Drawn0.refl _ | apply Drawn0.step)⟩
   case rest =>
    clear HC4
    try clear c1
    try clear p2
    try clear c3
    try clear c3b0
    try clear c5
    try clear c6
    try clear c6b0
    try clear c7
    try clear c7b0
    try clear p2
    obtain ⟨kq, x3_3, rfl, HA, HJ3, ⟨mc3, rfl⟩⟩ := hcut; cases kq with
    | zero => exact absurd HA.out (by simp [glyph_Start.j1])
    | succ kj3 =>
     have H := HA.out; clear HA; simp only [glyph_Start.j1] at H
     by_cases c8 : x3_3 = true
     ·subst c8
      have H1 : (some true) = some r := by rw [if_pos rfl] at H; exact H
      clear H; have H := H1; clear H1; obtain rfl := Option.some.inj H
      go_wp2
      go_ret
      exact ⟨by first | rfl | (simp; done) | (simp [*]; done), by repeat (first | exact Drawn0.refl _ | apply Drawn0.step)⟩
     ·replace c8 := Bool.eq_false_iff.mpr c8; subst c8
      have H1 : (if a0 ≥ 913 then (glyph_Start.j2 kj3 a0 (decide (a0 ≤ 929))) else (glyph_Start.j2 kj3 a0 false)) = some r := by rw [if_neg (show ¬ (false = true) by decide)] at H; exact H
      clear H; have H := H1; clear H1; have HC9 := Aside0.mk H; clear H
      go_upto_region 5 with (fail)
      go_cut [18] (fun v18 wc => ∃ (kq : Nat) (x18_8 : Bool), v18 = .bool x18_8 ∧ Aside0 (glyph_Start.j2 kq a0 x18_8 = some r) ∧ Aside0 (kq ≤ kj3) ∧ Drawn0 w wc)
      case first =>
       have H := HC9.out; clear HC9
       by_cases c10 : a0 ≥ 913
       ·rw [if_pos c10] at H; have c10b0 := decide_eq_true c10; clear c10
        (first | rw [c10b0] | (simp only [i64_w, i32_w]; rw [c10b0]) | skip)
        have H' := Aside0.mk H; clear H
        go_wp2
        go_meet
        case rel => exact ⟨_, (decide (a0 ≤ 929)), sI, H', ⟨by have := HJ1.out; have := HJ3.out; first | omega | exact Nat.le_refl _⟩, by repeat (first | exact Drawn0.refl _ | apply Drawn0.step)⟩
       ·rw [if_neg c10] at H; have c10b0 := decide_eq_false c10; clear c10
        (first | rw [c10b0] | (simp only [i64_w, i32_w]; rw [c10b0]) | skip)
        have H' := Aside0.mk H; clear H
        go_wp2
        go_meet
        case rel => exact ⟨_, (false), sI, H', ⟨by have := HJ1.out; have := HJ3.out; first | omega | exact Nat.le_refl _⟩, by repeat (first | exact Drawn0.refl _ | apply Drawn0.step)⟩
      case rest =>
       clear HC9
       try clear c1
       try clear p2
       try clear c3
       try clear c3b0
       try clear c5
       try clear c6
       try clear c6b0
       try clear c7
       try clear c7b0
       try clear c8
       try clear c9
       try clear c10
       try clear c10b0
       try clear p2
       obtain ⟨kq, x18_8, rfl, HA, HJ8, ⟨mc8, rfl⟩⟩ := hcut; cases kq with
       | zero => exact absurd HA.out (by simp [glyph_Start.j2])
       | succ kj8 =>
        have H := HA.out; clear HA; simp only [glyph_Start.j2] at H
        by_cases c11 : x18_8 = true
        ·subst c11
         have H1 : (some true) = some r := by rw [if_pos rfl] at H; exact H
         clear H; have H := H1; clear H1; obtain rfl := Option.some.inj H
         go_wp2
         go_ret
         exact ⟨by first | rfl | (simp; done) | (simp [*]; done), by repeat (first | exact Drawn0.refl _ | apply Drawn0.step)⟩
        ·replace c11 := Bool.eq_false_iff.mpr c11; subst c11
         have H1 : (if a0 ≥ 931 then (glyph_Start.j3 kj8 a0 (decide (a0 ≤ 937))) else (glyph_Start.j3 kj8 a0 false)) = some r := by rw [if_neg (show ¬ (false = true) by decide)] at H; exact H
         clear H; have H := H1; clear H1; have HC12 := Aside0.mk H; clear H
         go_upto_region 6 with (fail)
         go_cut [18] (fun v18 wc => ∃ (kq : Nat) (x18_11 : Bool), v18 = .bool x18_11 ∧ Aside0 (glyph_Start.j3 kq a0 x18_11 = some r) ∧ Aside0 (kq ≤ kj8) ∧ Drawn0 w wc)
         case first =>
          have H := HC12.out; clear HC12
          by_cases c13 : a0 ≥ 931
          ·rw [if_pos c13] at H; have c13b0 := decide_eq_true c13; clear c13
           (first | rw [c13b0] | (simp only [i64_w, i32_w]; rw [c13b0]) | skip)
           have H' := Aside0.mk H; clear H
           go_wp2
           go_meet
           case rel => exact ⟨_, (decide (a0 ≤ 937)), sI, H', ⟨by have := HJ1.out; have := HJ3.out; have := HJ8.out; first | omega | exact Nat.le_refl _⟩, by repeat (first | exact Drawn0.refl _ | apply Drawn0.step)⟩
          ·rw [if_neg c13] at H; have c13b0 := decide_eq_false c13; clear c13
           (first | rw [c13b0] | (simp only [i64_w, i32_w]; rw [c13b0]) | skip)
           have H' := Aside0.mk H; clear H
           go_wp2
           go_meet
           case rel => exact ⟨_, (false), sI, H', ⟨by have := HJ1.out; have := HJ3.out; have := HJ8.out; first | omega | exact Nat.le_refl _⟩, by repeat (first | exact Drawn0.refl _ | apply Drawn0.step)⟩
         case rest =>
          clear HC12
          try clear c1
          try clear p2
          try clear c3
          try clear c3b0
          try clear c5
          try clear c6
          try clear c6b0
          try clear c7
          try clear c7b0
          try clear c8
          try clear c9
          try clear c10
          try clear c10b0
          try clear c11
          try clear c13
          try clear c13b0
          try clear p2
          obtain ⟨kq, x18_11, rfl, HA, HJ11, ⟨mc11, rfl⟩⟩ := hcut; cases kq with
          | zero => exact absurd HA.out (by simp [glyph_Start.j3])
          | succ kj11 =>
           have H := HA.out; clear HA; simp only [glyph_Start.j3] at H
           by_cases c14 : x18_11 = true
           ·subst c14
            have H1 : (some true) = some r := by rw [if_pos rfl] at H; exact H
            clear H; have H := H1; clear H1; obtain rfl := Option.some.inj H
            go_wp2
            go_ret
            exact ⟨by first | rfl | (simp; done) | (simp [*]; done), by repeat (first | exact Drawn0.refl _ | apply Drawn0.step)⟩
           ·replace c14 := Bool.eq_false_iff.mpr c14; subst c14
            have H1 : (if a0 ≥ 945 then (if a0 ≤ 969 then (some true) else (some false)) else (some false)) = some r := by rw [if_neg (show ¬ (false = true) by decide)] at H; exact H
            clear H; have H := H1; clear H1
            by_cases c15 : a0 ≥ 945
            ·rw [if_pos c15] at H; have c15b0 := decide_eq_true c15; clear c15
             by_cases c16 : a0 ≤ 969
             ·rw [if_pos c16] at H; have c16b0 := decide_eq_true c16; clear c16; obtain rfl := Option.some.inj H
              go_wp2
              go_ret
              exact ⟨by first | rfl | (simp; done) | (simp [*]; done), by repeat (first | exact Drawn0.refl _ | apply Drawn0.step)⟩
             ·rw [if_neg c16] at H; have c16b0 := decide_eq_false c16; clear c16; obtain rfl := Option.some.inj H
              go_wp2
              go_ret
              exact ⟨by first | rfl | (simp; done) | (simp [*]; done), by repeat (first | exact Drawn0.refl _ | apply Drawn0.step)⟩
            ·rw [if_neg c15] at H; have c15b0 := decide_eq_false c15; clear c15; obtain rfl := Option.some.inj H
             go_wp2
             go_ret
             exact ⟨by first | rfl | (simp; done) | (simp [*]; done), by repeat (first | exact Drawn0.refl _ | apply Drawn0.step)⟩

end Go.Proofs.Ythgoonohpfoagaa.X

/- What the functions of this seat compute, and that the program's calls come to just that: written by this session's own program out of the translation; no condition. -/
import Derived.Test.YtghfclgcgecgdaaX0
namespace Go.Proofs.Ytghfclgcgecgdaa.X
open Go.RowKit Go.Proofs.YtghfclgcgecgdaaW.PrintWords Go.Proofs.YtghfclgcgecgdaaW.PrintLast Go.Proofs.YtghfclgcgecgdaaW.PrintMore
attribute [local go_sem] max2_int min2_int max_two min_two max_three min_three max_four min_four
set_option linter.unusedVariables false
set_option linter.unusedSimpArgs false

theorem eqA58 (d : Nat) (w : World) (x0 y0 : Int) (x1 y1 : Int) (x2 y2 : Int) :
  (Op.equalIn (d + 2) 58 (.agg #[.int .i64 x0, .int .i64 x1, .int .i64 x2]) (.agg #[.int .i64 y0, .int .i64 y1, .int .i64 y2])).run Try.prog w = .ok (x0 == y0 && (x1 == y1 && (x2 == y2))) w := by
 refine eqA_of Try.underlying58 (by kernel_rfl) ?_; refine eqf_cons (by rfl) (by go_simp; rfl) (by go_simp; rfl) (by go_simp) ?_; refine eqf_cons (by rfl) (by go_simp; rfl) (by go_simp; rfl) (by go_simp) ?_; exact eqf_last (by rfl) (by go_simp; rfl) (by go_simp; rfl) (by go_simp)
end Go.Proofs.Ytghfclgcgecgdaa.X
namespace Go.Proofs.Ytghfclgcgecgdaa.X
open Go.RowKit Go.Proofs.YtghfclgcgecgdaaW.PrintWords Go.Proofs.YtghfclgcgecgdaaW.PrintLast Go.Proofs.YtghfclgcgecgdaaW.PrintMore
attribute [local go_sem] max2_int min2_int max_two min_two max_three min_three max_four min_four
set_option linter.unusedVariables false
set_option linter.unusedSimpArgs false

/-! ### glyph_Start: function 76 -/
mutual
def glyph_Start.j0 : Nat → Int → Bool → Option (Bool)
 | 0, _, _ => none
 | k + 1, x0, x3 => if x3 = true then (glyph_Start.j1 k x0 x3) else (if x0 ≥ 97 then (if x0 ≤ 122 then (glyph_Start.j1 k x0 (decide (x0 ≤ 122))) else (glyph_Start.j1 k x0 (x0 == 95))) else (glyph_Start.j1 k x0 (x0 == 95)))
def glyph_Start.j1 : Nat → Int → Bool → Option (Bool)
 | 0, _, _ => none
 | k + 1, x0, x3 => if x3 = true then (some true) else (if x0 ≥ 913 then (glyph_Start.j2 k x0 (decide (x0 ≤ 929))) else (glyph_Start.j2 k x0 false))
def glyph_Start.j2 : Nat → Int → Bool → Option (Bool)
 | 0, _, _ => none
 | k + 1, x0, x18 => if x18 = true then (some true) else (if x0 ≥ 931 then (glyph_Start.j3 k x0 (decide (x0 ≤ 937))) else (glyph_Start.j3 k x0 false))
def glyph_Start.j3 : Nat → Int → Bool → Option (Bool)
 | 0, _, _ => none
 | k + 1, x0, x18 => if x18 = true then (some true) else (if x0 ≥ 945 then (if x0 ≤ 969 then (some true) else (some false)) else (some false))
end
def glyph_Start.f (k : Nat) (a0 : Int) : Option (Bool) := if a0 ≥ 65 then (glyph_Start.j0 k a0 (decide (a0 ≤ 90))) else (glyph_Start.j0 k a0 false)
theorem glyph_Start.mono_l : ∀ k, (∀ y0 y1, LeO (glyph_Start.j0 k y0 y1) (glyph_Start.j0 (k + 1) y0 y1)) ∧ (∀ y0 y1, LeO (glyph_Start.j1 k y0 y1) (glyph_Start.j1 (k + 1) y0 y1)) ∧ (∀ y0 y1, LeO (glyph_Start.j2 k y0 y1) (glyph_Start.j2 (k + 1) y0 y1)) ∧ (∀ y0 y1, LeO (glyph_Start.j3 k y0 y1) (glyph_Start.j3 (k + 1) y0 y1))
 | 0 => ⟨fun _ _ r h => by simp [glyph_Start.j0] at h, fun _ _ r h => by simp [glyph_Start.j1] at h, fun _ _ r h => by simp [glyph_Start.j2] at h, fun _ _ r h => by simp [glyph_Start.j3] at h⟩
 | k + 1 => by
  obtain ⟨ih0, ih1, ih2, ih3⟩ := glyph_Start.mono_l k; refine ⟨?_, ?_, ?_, ?_⟩
  ·intro y0 y1
   unfold glyph_Start.j0
   repeat' first | (with_reducible first | exact ih0 _ _ | exact ih1 _ _ | exact ih2 _ _ | exact ih3 _ _ | exact lA | apply lI | refine lB ?_ fun _ => ?_) | exact lN _ | apply lI | refine lB ?_ fun _ => ?_
  ·intro y0 y1
   unfold glyph_Start.j1
   repeat' first | (with_reducible first | exact ih0 _ _ | exact ih1 _ _ | exact ih2 _ _ | exact ih3 _ _ | exact lA | apply lI | refine lB ?_ fun _ => ?_) | exact lN _ | apply lI | refine lB ?_ fun _ => ?_
  ·intro y0 y1
   unfold glyph_Start.j2
   repeat' first | (with_reducible first | exact ih0 _ _ | exact ih1 _ _ | exact ih2 _ _ | exact ih3 _ _ | exact lA | apply lI | refine lB ?_ fun _ => ?_) | exact lN _ | apply lI | refine lB ?_ fun _ => ?_
  ·intro y0 y1
   unfold glyph_Start.j3
   repeat' first | (with_reducible first | exact ih0 _ _ | exact ih1 _ _ | exact ih2 _ _ | exact ih3 _ _ | exact lA | apply lI | refine lB ?_ fun _ => ?_) | exact lN _ | apply lI | refine lB ?_ fun _ => ?_
theorem glyph_Start.mono : ∀ a0 k, LeO (glyph_Start.f k a0) (glyph_Start.f (k + 1) a0) := by
 intro a0 k; obtain ⟨ih0, ih1, ih2, ih3⟩ := glyph_Start.mono_l k
 unfold glyph_Start.f
 repeat' first | (with_reducible first | exact ih0 _ _ | exact ih1 _ _ | exact ih2 _ _ | exact ih3 _ _ | exact lA | apply lI | refine lB ?_ fun _ => ?_) | exact lN _ | apply lI | refine lB ?_ fun _ => ?_
set_option maxHeartbeats 8000000 in
set_option maxRecDepth 100000 in
theorem glyph_Start.calls (k : Nat) (a0 : Int) (r : Bool) (w : World) (h : glyph_Start.f k a0 = some r) :
  Calls Try.prog 76 #[.int .i32 a0] w fun e w' => e = .returned (.bool r) ∧ Drawn0 w w' := by
 have H : (if a0 ≥ 65 then (glyph_Start.j0 k a0 (decide (a0 ≤ 90))) else (glyph_Start.j0 k a0 false)) = some r := h; clear h; have HC2 := Aside0.mk H; clear H
 go_enter Try.func76, Try.ntmps76
 go_upto_region 1 with (fail)
 go_cut [3] (fun v3 wc => ∃ (kq : Nat) (x3_1 : Bool), v3 = .bool x3_1 ∧ Aside0 (glyph_Start.j0 kq a0 x3_1 = some r) ∧ Aside0 (kq ≤ k) ∧ Drawn0 w wc)
 case first =>
  have H := HC2.out; clear HC2
  by_cases c3 : a0 ≥ 65
  ·rw [if_pos c3] at H; have c3b0 := decide_eq_true c3; clear c3
   (first | rw [c3b0] | (simp only [i64_w, i32_w]; rw [c3b0]) | skip)
   have H' := Aside0.mk H; clear H
   go_wp2
   go_meet
   case rel => exact ⟨_, (decide (a0 ≤ 90)), sI, H', ⟨by first | omega | exact Nat.le_refl _⟩, by repeat (first | exact Drawn0.refl _ | apply Drawn0.step)⟩
  ·rw [if_neg c3] at H; have c3b0 := decide_eq_false c3; clear c3
   (first | rw [c3b0] | (simp only [i64_w, i32_w]; rw [c3b0]) | skip)
   have H' := Aside0.mk H; clear H
   go_wp2
   go_meet
   case rel => exact ⟨_, (false), sI, H', ⟨by first | omega | exact Nat.le_refl _⟩, by repeat (first | exact Drawn0.refl _ | apply Drawn0.step)⟩
 case rest =>
  clear HC2
  try clear p2
  try clear c3
  try clear c3b0
  obtain ⟨kq, x3_1, rfl, HA, HJ1, ⟨mc1, rfl⟩⟩ := hcut; cases kq with
  | zero => exact absurd HA.out (by simp [glyph_Start.j0])
  | succ kj1 =>
   have H := HA.out; clear HA; simp only [glyph_Start.j0] at H; have HC4 := Aside0.mk H; clear H
   go_upto_if 3 with (fail)
   go_cut [3] (fun v3 wc => ∃ (kq : Nat) (x3_3 : Bool), v3 = .bool x3_3 ∧ Aside0 (glyph_Start.j1 kq a0 x3_3 = some r) ∧ Aside0 (kq ≤ kj1) ∧ Drawn0 w wc)
   case first =>
    have H := HC4.out; clear HC4
    by_cases c5 : x3_1 = true
    ·subst c5
     have H1 : (glyph_Start.j1 kj1 a0 true) = some r := by rw [if_pos rfl] at H; exact H
     clear H; have H := H1; clear H1; have H' := Aside0.mk H; clear H
     go_wp2
     go_meet
     case rel => exact ⟨_, (true), sI, H', ⟨by have := HJ1.out; first | omega | exact Nat.le_refl _⟩, by repeat (first | exact Drawn0.refl _ | apply Drawn0.step)⟩
    ·replace c5 := Bool.eq_false_iff.mpr c5; subst c5
     have H1 : (if a0 ≥ 97 then (if a0 ≤ 122 then (glyph_Start.j1 kj1 a0 (decide (a0 ≤ 122))) else (glyph_Start.j1 kj1 a0 (a0 == 95))) else (glyph_Start.j1 kj1 a0 (a0 == 95))) = some r := by rw [if_neg (show ¬ (false = true) by decide)] at H; exact H
     clear H; have H := H1; clear H1
     by_cases c6 : a0 ≥ 97
     ·rw [if_pos c6] at H; have c6b0 := decide_eq_true c6; clear c6
      (first | rw [c6b0] | (simp only [i64_w, i32_w]; rw [c6b0]) | skip)
      by_cases c7 : a0 ≤ 122
      ·rw [if_pos c7] at H; have c7b0 := decide_eq_true c7; clear c7; have H' := Aside0.mk H; clear H
       go_wp2
       go_meet
       case rel => exact ⟨_, (decide (a0 ≤ 122)), sI, H', ⟨by have := HJ1.out; first | omega | exact Nat.le_refl _⟩, by repeat (first | exact Drawn0.refl _ | apply Drawn0.step)⟩
      ·rw [if_neg c7] at H; have c7b0 := decide_eq_false c7; clear c7; have H' := Aside0.mk H; clear H
       go_wp2
       go_meet
       case rel => exact ⟨_, ((a0 == 95)), sI, H', ⟨by have := HJ1.out; first | omega | exact Nat.le_refl _⟩, by repeat (first | exact Drawn0.refl _ | apply Drawn0.step)⟩
     ·rw [if_neg c6] at H; have c6b0 := decide_eq_false c6; clear c6
      (first | rw [c6b0] | (simp only [i64_w, i32_w]; rw [c6b0]) | skip)
      have H' := Aside0.mk H; clear H
      go_wp2
      go_meet
      case rel => exact ⟨_, ((a0 == 95)), sI, H', ⟨by have := HJ1.out; first | omega | exact Nat.le_refl _⟩, by repeat (first | exact Drawn0.refl _ | apply Drawn0.step)⟩
   case rest =>
    clear HC4
    try clear c1
    try clear p2
    try clear c3
    try clear c3b0
    try clear c5
    try clear c6
    try clear c6b0
    try clear c7
    try clear c7b0
    try clear p2
    obtain ⟨kq, x3_3, rfl, HA, HJ3, ⟨mc3, rfl⟩⟩ := hcut; cases kq with
    | zero => exact absurd HA.out (by simp [glyph_Start.j1])
    | succ kj3 =>
     have H := HA.out; clear HA; simp only [glyph_Start.j1] at H
     by_cases c8 : x3_3 = true
     ·subst c8
      have H1 : (some true) = some r := by rw [if_pos rfl] at H; exact H
      clear H; have H := H1; clear H1; obtain rfl := Option.some.inj H
      go_wp2
      go_ret
      exact ⟨by first | rfl | (simp; done) | (simp [*]; done), by repeat (first | exact Drawn0.refl _ | apply Drawn0.step)⟩
     ·replace c8 := Bool.eq_false_iff.mpr c8; subst c8
      have H1 : (if a0 ≥ 913 then (glyph_Start.j2 kj3 a0 (decide (a0 ≤ 929))) else (glyph_Start.j2 kj3 a0 false)) = some r := by rw [if_neg (show ¬ (false = true) by decide)] at H; exact H
      clear H; have H := H1; clear H1; have HC9 := Aside0.mk H; clear H
      go_upto_region 5 with (fail)
      go_cut [18] (fun v18 wc => ∃ (kq : Nat) (x18_8 : Bool), v18 = .bool x18_8 ∧ Aside0 (glyph_Start.j2 kq a0 x18_8 = some r) ∧ Aside0 (kq ≤ kj3) ∧ Drawn0 w wc)
      case first =>
       have H := HC9.out; clear HC9
       by_cases c10 : a0 ≥ 913
       ·rw [if_pos c10] at H; have c10b0 := decide_eq_true c10; clear c10
        (first | rw [c10b0] | (simp only [i64_w, i32_w]; rw [c10b0]) | skip)
        have H' := Aside0.mk H; clear H
        go_wp2
        go_meet
        case rel => exact ⟨_, (decide (a0 ≤ 929)), sI, H', ⟨by have := HJ1.out; have := HJ3.out; first | omega | exact Nat.le_refl _⟩, by repeat (first | exact Drawn0.refl _ | apply Drawn0.step)⟩
       ·rw [if_neg c10] at H; have c10b0 := decide_eq_false c10; clear c10
        (first | rw [c10b0] | (simp only [i64_w, i32_w]; rw [c10b0]) | skip)
        have H' := Aside0.mk H; clear H
        go_wp2
        go_meet
        case rel => exact ⟨_, (false), sI, H', ⟨by have := HJ1.out; have := HJ3.out; first | omega | exact Nat.le_refl _⟩, by repeat (first | exact Drawn0.refl _ | apply Drawn0.step)⟩
      case rest =>
       clear HC9
       try clear c1
       try clear p2
       try clear c3
       try clear c3b0
       try clear c5
       try clear c6
       try clear c6b0
       try clear c7
       try clear c7b0
       try clear c8
       try clear c10
       try clear c10b0
       try clear p2
       obtain ⟨kq, x18_8, rfl, HA, HJ8, ⟨mc8, rfl⟩⟩ := hcut; cases kq with
       | zero => exact absurd HA.out (by simp [glyph_Start.j2])
       | succ kj8 =>
        have H := HA.out; clear HA; simp only [glyph_Start.j2] at H
        by_cases c11 : x18_8 = true
        ·subst c11
         have H1 : (some true) = some r := by rw [if_pos rfl] at H; exact H
         clear H; have H := H1; clear H1; obtain rfl := Option.some.inj H
         go_wp2
         go_ret
         exact ⟨by first | rfl | (simp; done) | (simp [*]; done), by repeat (first | exact Drawn0.refl _ | apply Drawn0.step)⟩
        ·replace c11 := Bool.eq_false_iff.mpr c11; subst c11
         have H1 : (if a0 ≥ 931 then (glyph_Start.j3 kj8 a0 (decide (a0 ≤ 937))) else (glyph_Start.j3 kj8 a0 false)) = some r := by rw [if_neg (show ¬ (false = true) by decide)] at H; exact H
         clear H; have H := H1; clear H1; have HC12 := Aside0.mk H; clear H
         go_upto_region 6 with (fail)
         go_cut [18] (fun v18 wc => ∃ (kq : Nat) (x18_11 : Bool), v18 = .bool x18_11 ∧ Aside0 (glyph_Start.j3 kq a0 x18_11 = some r) ∧ Aside0 (kq ≤ kj8) ∧ Drawn0 w wc)
         case first =>
          have H := HC12.out; clear HC12
          by_cases c13 : a0 ≥ 931
          ·rw [if_pos c13] at H; have c13b0 := decide_eq_true c13; clear c13
           (first | rw [c13b0] | (simp only [i64_w, i32_w]; rw [c13b0]) | skip)
           have H' := Aside0.mk H; clear H
           go_wp2
           go_meet
           case rel => exact ⟨_, (decide (a0 ≤ 937)), sI, H', ⟨by have := HJ1.out; have := HJ3.out; have := HJ8.out; first | omega | exact Nat.le_refl _⟩, by repeat (first | exact Drawn0.refl _ | apply Drawn0.step)⟩
          ·rw [if_neg c13] at H; have c13b0 := decide_eq_false c13; clear c13
           (first | rw [c13b0] | (simp only [i64_w, i32_w]; rw [c13b0]) | skip)
           have H' := Aside0.mk H; clear H
           go_wp2
           go_meet
           case rel => exact ⟨_, (false), sI, H', ⟨by have := HJ1.out; have := HJ3.out; have := HJ8.out; first | omega | exact Nat.le_refl _⟩, by repeat (first | exact Drawn0.refl _ | apply Drawn0.step)⟩
         case rest =>
          clear HC12
          try clear c1
          try clear p2
          try clear c3
          try clear c3b0
          try clear c5
          try clear c6
          try clear c6b0
          try clear c7
          try clear c7b0
          try clear c8
          try clear c10
          try clear c10b0
          try clear c11
          try clear c13
          try clear c13b0
          try clear p2
          obtain ⟨kq, x18_11, rfl, HA, HJ11, ⟨mc11, rfl⟩⟩ := hcut; cases kq with
          | zero => exact absurd HA.out (by simp [glyph_Start.j3])
          | succ kj11 =>
           have H := HA.out; clear HA; simp only [glyph_Start.j3] at H
           by_cases c14 : x18_11 = true
           ·subst c14
            have H1 : (some true) = some r := by rw [if_pos rfl] at H; exact H
            clear H; have H := H1; clear H1; obtain rfl := Option.some.inj H
            go_wp2
            go_ret
            exact ⟨by first | rfl | (simp; done) | (simp [*]; done), by repeat (first | exact Drawn0.refl _ | apply Drawn0.step)⟩
           ·replace c14 := Bool.eq_false_iff.mpr c14; subst c14
            have H1 : (if a0 ≥ 945 then (if a0 ≤ 969 then (some true) else (some false)) else (some false)) = some r := by rw [if_neg (show ¬ (false = true) by decide)] at H; exact H
            clear H; have H := H1; clear H1
            by_cases c15 : a0 ≥ 945
            ·rw [if_pos c15] at H; have c15b0 := decide_eq_true c15; clear c15
             by_cases c16 : a0 ≤ 969
             ·rw [if_pos c16] at H; have c16b0 := decide_eq_true c16; clear c16; obtain rfl := Option.some.inj H
              go_wp2
              go_ret
              exact ⟨by first | rfl | (simp; done) | (simp [*]; done), by repeat (first | exact Drawn0.refl _ | apply Drawn0.step)⟩
             ·rw [if_neg c16] at H; have c16b0 := decide_eq_false c16; clear c16; obtain rfl := Option.some.inj H
              go_wp2
              go_ret
              exact ⟨by first | rfl | (simp; done) | (simp [*]; done), by repeat (first | exact Drawn0.refl _ | apply Drawn0.step)⟩
            ·rw [if_neg c15] at H; have c15b0 := decide_eq_false c15; clear c15; obtain rfl := Option.some.inj H
             go_wp2
             go_ret
             exact ⟨by first | rfl | (simp; done) | (simp [*]; done), by repeat (first | exact Drawn0.refl _ | apply Drawn0.step)⟩

end Go.Proofs.Ytghfclgcgecgdaa.X
namespace Go.Proofs.Ytghfclgcgecgdaa.X
open Go.RowKit Go.Proofs.YtghfclgcgecgdaaW.PrintWords Go.Proofs.YtghfclgcgecgdaaW.PrintLast Go.Proofs.YtghfclgcgecgdaaW.PrintMore
attribute [local go_sem] max2_int min2_int max_two min_two max_three min_three max_four min_four
set_option linter.unusedVariables false
set_option linter.unusedSimpArgs false

/-! ### glyph_Rest: function 77 -/
def glyph_Rest.f (k : Nat) (a0 : Int) : Option (Bool) := (glyph_Start.f k a0).bind fun t101 => (if t101 = true then (some true) else (if a0 ≥ 48 then (if a0 ≤ 57 then (some true) else (if a0 = 8242 then (some true) else (if a0 ≥ 8320 then (some (decide (a0 ≤ 8329))) else (some false)))) else (if a0 = 8242 then (some true) else (if a0 ≥ 8320 then (some (decide (a0 ≤ 8329))) else (some false)))))
theorem glyph_Rest.mono : ∀ a0 k, LeO (glyph_Rest.f k a0) (glyph_Rest.f (k + 1) a0) := by
 intro a0 k
 unfold glyph_Rest.f
 repeat' first | (with_reducible first | exact glyph_Start.mono _ _ | exact lA | apply lI | refine lB ?_ fun _ => ?_) | exact lN _ | apply lI | refine lB ?_ fun _ => ?_
set_option maxHeartbeats 8000000 in
set_option maxRecDepth 100000 in
theorem glyph_Rest.calls (k : Nat) (a0 : Int) (r : Bool) (w : World) (h : glyph_Rest.f k a0 = some r) :
  Calls Try.prog 77 #[.int .i32 a0] w fun e w' => e = .returned (.bool r) ∧ Drawn0 w w' := by
 have H : ((glyph_Start.f k a0).bind fun t101 => (if t101 = true then (some true) else (if a0 ≥ 48 then (if a0 ≤ 57 then (some true) else (if a0 = 8242 then (some true) else (if a0 ≥ 8320 then (some (decide (a0 ≤ 8329))) else (some false)))) else (if a0 = 8242 then (some true) else (if a0 ≥ 8320 then (some (decide (a0 ≤ 8329))) else (some false)))))) = some r := h; clear h; replace H := Option.bind_eq_some_iff.mp H; obtain ⟨t101, A20, H⟩ := H; replace H : (if t101 = true then (some true) else (if a0 ≥ 48 then (if a0 ≤ 57 then (some true) else (if a0 = 8242 then (some true) else (if a0 ≥ 8320 then (some (decide (a0 ≤ 8329))) else (some false)))) else (if a0 = 8242 then (some true) else (if a0 ≥ 8320 then (some (decide (a0 ≤ 8329))) else (some false))))) = some r := H; have A2 := Aside0.mk A20; clear A20
 by_cases c3 : t101 = true
 ·subst c3
  have H1 : (some true) = some r := by rw [if_pos rfl] at H; exact H
  clear H; have H := H1; clear H1; obtain rfl := Option.some.inj H
  go_enter Try.func77, Try.ntmps77
  go_wp2_with (first | ((with_reducible refine gate_callee (f := 76) rfl ?_); refine gL_ (some 4) Try.func76 #[.int .i32 a0] ?_; (with_reducible refine (glyph_Start.calls k a0 true _ A2.out).mono ?_); rintro e w' ⟨rfl, ⟨nd, rfl⟩⟩; refine ⟨_, rfl, ?_⟩))
  go_ret
  exact ⟨by first | rfl | (simp; done) | (simp [*]; done), by repeat (first | exact Drawn0.refl _ | apply Drawn0.step)⟩
 ·replace c3 := Bool.eq_false_iff.mpr c3; subst c3
  have H1 : (if a0 ≥ 48 then (if a0 ≤ 57 then (some true) else (if a0 = 8242 then (some true) else (if a0 ≥ 8320 then (some (decide (a0 ≤ 8329))) else (some false)))) else (if a0 = 8242 then (some true) else (if a0 ≥ 8320 then (some (decide (a0 ≤ 8329))) else (some false)))) = some r := by rw [if_neg (show ¬ (false = true) by decide)] at H; exact H
  clear H; have H := H1; clear H1
  by_cases c4 : a0 ≥ 48
  ·rw [if_pos c4] at H; have c4b0 := decide_eq_true c4; clear c4
   by_cases c5 : a0 ≤ 57
   ·rw [if_pos c5] at H; have c5b0 := decide_eq_true c5; clear c5; obtain rfl := Option.some.inj H
    go_enter Try.func77, Try.ntmps77
    go_wp2_with (first | ((with_reducible refine gate_callee (f := 76) rfl ?_); refine gL_ (some 4) Try.func76 #[.int .i32 a0] ?_; (with_reducible refine (glyph_Start.calls k a0 false _ A2.out).mono ?_); rintro e w' ⟨rfl, ⟨nd, rfl⟩⟩; refine ⟨_, rfl, ?_⟩))
    go_ret
    exact ⟨by first | rfl | (simp; done) | (simp [*]; done), by repeat (first | exact Drawn0.refl _ | apply Drawn0.step)⟩
   ·rw [if_neg c5] at H; have c5b0 := decide_eq_false c5; clear c5
    by_cases c6 : a0 = 8242
    ·rw [if_pos c6] at H; obtain ⟨c6b0, c6b1⟩ := bq c6; clear c6; obtain rfl := Option.some.inj H
     go_enter Try.func77, Try.ntmps77
     go_wp2_with (first | ((with_reducible refine gate_callee (f := 76) rfl ?_); refine gL_ (some 4) Try.func76 #[.int .i32 a0] ?_; (with_reducible refine (glyph_Start.calls k a0 false _ A2.out).mono ?_); rintro e w' ⟨rfl, ⟨nd, rfl⟩⟩; refine ⟨_, rfl, ?_⟩))
     go_ret
     exact ⟨by first | rfl | (simp; done) | (simp [*]; done), by repeat (first | exact Drawn0.refl _ | apply Drawn0.step)⟩
    ·rw [if_neg c6] at H; obtain ⟨c6b0, c6b1⟩ := bn c6
     by_cases c7 : a0 ≥ 8320
     ·rw [if_pos c7] at H; have c7b0 := decide_eq_true c7; clear c7; obtain rfl := Option.some.inj H
      go_enter Try.func77, Try.ntmps77
      go_wp2_with (first | ((with_reducible refine gate_callee (f := 76) rfl ?_); refine gL_ (some 4) Try.func76 #[.int .i32 a0] ?_; (with_reducible refine (glyph_Start.calls k a0 false _ A2.out).mono ?_); rintro e w' ⟨rfl, ⟨nd, rfl⟩⟩; refine ⟨_, rfl, ?_⟩))
      go_ret
      exact ⟨by first | rfl | (simp; done) | (simp [*]; done), by repeat (first | exact Drawn0.refl _ | apply Drawn0.step)⟩
     ·rw [if_neg c7] at H; have c7b0 := decide_eq_false c7; clear c7; obtain rfl := Option.some.inj H
      go_enter Try.func77, Try.ntmps77
      go_wp2_with (first | ((with_reducible refine gate_callee (f := 76) rfl ?_); refine gL_ (some 4) Try.func76 #[.int .i32 a0] ?_; (with_reducible refine (glyph_Start.calls k a0 false _ A2.out).mono ?_); rintro e w' ⟨rfl, ⟨nd, rfl⟩⟩; refine ⟨_, rfl, ?_⟩))
      go_ret
      exact ⟨by first | rfl | (simp; done) | (simp [*]; done), by repeat (first | exact Drawn0.refl _ | apply Drawn0.step)⟩
  ·rw [if_neg c4] at H; have c4b0 := decide_eq_false c4; clear c4
   by_cases c8 : a0 = 8242
   ·rw [if_pos c8] at H; obtain ⟨c8b0, c8b1⟩ := bq c8; clear c8; obtain rfl := Option.some.inj H
    go_enter Try.func77, Try.ntmps77
    go_wp2_with (first | ((with_reducible refine gate_callee (f := 76) rfl ?_); refine gL_ (some 4) Try.func76 #[.int .i32 a0] ?_; (with_reducible refine (glyph_Start.calls k a0 false _ A2.out).mono ?_); rintro e w' ⟨rfl, ⟨nd, rfl⟩⟩; refine ⟨_, rfl, ?_⟩))
    go_ret
    exact ⟨by first | rfl | (simp; done) | (simp [*]; done), by repeat (first | exact Drawn0.refl _ | apply Drawn0.step)⟩
   ·rw [if_neg c8] at H; obtain ⟨c8b0, c8b1⟩ := bn c8
    by_cases c9 : a0 ≥ 8320
    ·rw [if_pos c9] at H; have c9b0 := decide_eq_true c9; clear c9; obtain rfl := Option.some.inj H
     go_enter Try.func77, Try.ntmps77
     go_wp2_with (first | ((with_reducible refine gate_callee (f := 76) rfl ?_); refine gL_ (some 4) Try.func76 #[.int .i32 a0] ?_; (with_reducible refine (glyph_Start.calls k a0 false _ A2.out).mono ?_); rintro e w' ⟨rfl, ⟨nd, rfl⟩⟩; refine ⟨_, rfl, ?_⟩))
     go_ret
     exact ⟨by first | rfl | (simp; done) | (simp [*]; done), by repeat (first | exact Drawn0.refl _ | apply Drawn0.step)⟩
    ·rw [if_neg c9] at H; have c9b0 := decide_eq_false c9; clear c9; obtain rfl := Option.some.inj H
     go_enter Try.func77, Try.ntmps77
     go_wp2_with (first | ((with_reducible refine gate_callee (f := 76) rfl ?_); refine gL_ (some 4) Try.func76 #[.int .i32 a0] ?_; (with_reducible refine (glyph_Start.calls k a0 false _ A2.out).mono ?_); rintro e w' ⟨rfl, ⟨nd, rfl⟩⟩; refine ⟨_, rfl, ?_⟩))
     go_ret
     exact ⟨by first | rfl | (simp; done) | (simp [*]; done), by repeat (first | exact Drawn0.refl _ | apply Drawn0.step)⟩

/-! ### glyph_Reserved: function 78 -/
def glyph_Reserved.f (a0 : ByteArray) : Option (Bool) := if a0.toList = ([97, 110, 100] : List UInt8) then (some true) else (if a0.toList = ([111, 114] : List UInt8) then (some true) else (if a0.toList = ([110, 111, 116] : List UInt8) then (some true) else (if a0.toList = ([101, 120] : List UInt8) then (some true) else (if a0.toList = ([97, 108, 108] : List UInt8) then (some true) else (if a0.toList = ([109, 111, 100] : List UInt8) then (some true) else (if a0.toList = ([116, 114, 117, 101] : List UInt8) then (some true) else (if a0.toList = ([102, 97, 108, 115, 101] : List UInt8) then (some true) else (some false))))))))
set_option maxHeartbeats 8000000 in
set_option maxRecDepth 100000 in
theorem glyph_Reserved.calls (a0 : ByteArray) (r : Bool) (w : World) (h : glyph_Reserved.f a0 = some r) :
  Calls Try.prog 78 #[.string a0] w fun e w' => e = .returned (.bool r) ∧ Drawn0 w w' := by
 have H : (if a0.toList = ([97, 110, 100] : List UInt8) then (some true) else (if a0.toList = ([111, 114] : List UInt8) then (some true) else (if a0.toList = ([110, 111, 116] : List UInt8) then (some true) else (if a0.toList = ([101, 120] : List UInt8) then (some true) else (if a0.toList = ([97, 108, 108] : List UInt8) then (some true) else (if a0.toList = ([109, 111, 100] : List UInt8) then (some true) else (if a0.toList = ([116, 114, 117, 101] : List UInt8) then (some true) else (if a0.toList = ([102, 97, 108, 115, 101] : List UInt8) then (some true) else (some false))))))))) = some r := h; clear h
 by_cases c2 : a0.toList = ([97, 110, 100] : List UInt8)
 ·rw [if_pos c2] at H; obtain ⟨c2b0, c2b1⟩ := bq c2; clear c2; obtain rfl := Option.some.inj H
  go_enter Try.func78, Try.ntmps78
  go_wp2
  go_ret
  exact ⟨by first | rfl | (simp; done) | (simp [*]; done), by repeat (first | exact Drawn0.refl _ | apply Drawn0.step)⟩
 ·rw [if_neg c2] at H; obtain ⟨c2b0, c2b1⟩ := bn c2
  by_cases c3 : a0.toList = ([111, 114] : List UInt8)
  ·rw [if_pos c3] at H; obtain ⟨c3b0, c3b1⟩ := bq c3; clear c3; obtain rfl := Option.some.inj H
   go_enter Try.func78, Try.ntmps78
   go_wp2
   go_ret
   exact ⟨by first | rfl | (simp; done) | (simp [*]; done), by repeat (first | exact Drawn0.refl _ | apply Drawn0.step)⟩
  ·rw [if_neg c3] at H; obtain ⟨c3b0, c3b1⟩ := bn c3
   by_cases c4 : a0.toList = ([110, 111, 116] : List UInt8)
   ·rw [if_pos c4] at H; obtain ⟨c4b0, c4b1⟩ := bq c4; clear c4; obtain rfl := Option.some.inj H
    go_enter Try.func78, Try.ntmps78
    go_wp2
    go_ret
    exact ⟨by first | rfl | (simp; done) | (simp [*]; done), by repeat (first | exact Drawn0.refl _ | apply Drawn0.step)⟩
   ·rw [if_neg c4] at H; obtain ⟨c4b0, c4b1⟩ := bn c4
    by_cases c5 : a0.toList = ([101, 120] : List UInt8)
    ·rw [if_pos c5] at H; obtain ⟨c5b0, c5b1⟩ := bq c5; clear c5; obtain rfl := Option.some.inj H
     go_enter Try.func78, Try.ntmps78
     go_wp2
     go_ret
     exact ⟨by first | rfl | (simp; done) | (simp [*]; done), by repeat (first | exact Drawn0.refl _ | apply Drawn0.step)⟩
    ·rw [if_neg c5] at H; obtain ⟨c5b0, c5b1⟩ := bn c5
     by_cases c6 : a0.toList = ([97, 108, 108] : List UInt8)
     ·rw [if_pos c6] at H; obtain ⟨c6b0, c6b1⟩ := bq c6; clear c6; obtain rfl := Option.some.inj H
      go_enter Try.func78, Try.ntmps78
      go_wp2
      go_ret
      exact ⟨by first | rfl | (simp; done) | (simp [*]; done), by repeat (first | exact Drawn0.refl _ | apply Drawn0.step)⟩
     ·rw [if_neg c6] at H; obtain ⟨c6b0, c6b1⟩ := bn c6
      by_cases c7 : a0.toList = ([109, 111, 100] : List UInt8)
      ·rw [if_pos c7] at H; obtain ⟨c7b0, c7b1⟩ := bq c7; clear c7; obtain rfl := Option.some.inj H
       go_enter Try.func78, Try.ntmps78
       go_wp2
       go_ret
       exact ⟨by first | rfl | (simp; done) | (simp [*]; done), by repeat (first | exact Drawn0.refl _ | apply Drawn0.step)⟩
      ·rw [if_neg c7] at H; obtain ⟨c7b0, c7b1⟩ := bn c7
       by_cases c8 : a0.toList = ([116, 114, 117, 101] : List UInt8)
       ·rw [if_pos c8] at H; obtain ⟨c8b0, c8b1⟩ := bq c8; clear c8; obtain rfl := Option.some.inj H
        go_enter Try.func78, Try.ntmps78
        go_wp2
        go_ret
        exact ⟨by first | rfl | (simp; done) | (simp [*]; done), by repeat (first | exact Drawn0.refl _ | apply Drawn0.step)⟩
       ·rw [if_neg c8] at H; obtain ⟨c8b0, c8b1⟩ := bn c8
        by_cases c9 : a0.toList = ([102, 97, 108, 115, 101] : List UInt8)
        ·rw [if_pos c9] at H; obtain ⟨c9b0, c9b1⟩ := bq c9; clear c9; obtain rfl := Option.some.inj H
         go_enter Try.func78, Try.ntmps78
         go_wp2
         go_ret
         exact ⟨by first | rfl | (simp; done) | (simp [*]; done), by repeat (first | exact Drawn0.refl _ | apply Drawn0.step)⟩
        ·rw [if_neg c9] at H; obtain ⟨c9b0, c9b1⟩ := bn c9; obtain rfl := Option.some.inj H
         go_enter Try.func78, Try.ntmps78
         go_wp2
         go_ret
         exact ⟨by first | rfl | (simp; done) | (simp [*]; done), by repeat (first | exact Drawn0.refl _ | apply Drawn0.step)⟩

end Go.Proofs.Ytghfclgcgecgdaa.X
namespace Go.Proofs.Ytghfclgcgecgdaa.X
open Go.RowKit Go.Proofs.YtghfclgcgecgdaaW.PrintWords Go.Proofs.YtghfclgcgecgdaaW.PrintLast Go.Proofs.YtghfclgcgecgdaaW.PrintMore
attribute [local go_sem] max2_int min2_int max_two min_two max_three min_three max_four min_four
set_option linter.unusedVariables false
set_option linter.unusedSimpArgs false

/-! ### glyph_Name: function 67 -/
/-- Is it a name, from a byte on, behind so many characters? -/
def glyph_Name.l0 : Nat → ByteArray → Nat → Int → Option Bool
 | 0, _, _, _ => none
 | k + 1, s, p, n =>
  if p < s.size then
   (if p = 0 then glyph_Start.f k ((Utf8.decode s p).1 : Int) else some true).bind fun t =>
    if t = true then (glyph_Rest.f k ((Utf8.decode s p).1 : Int)).bind fun u => if u = true then glyph_Name.l0 k s (p + (Utf8.decode s p).2) (wrap64 (n + 1)) else some false
    else some false
  else if n > 0 then (if n ≤ 16 then (glyph_Reserved.f s).bind fun t => some (!t) else some false) else some false
def glyph_Name.f (k : Nat) (a0 : ByteArray) : Option Bool := glyph_Name.l0 k a0 0 0
theorem glyph_Name.mono_l : ∀ k, (∀ y0 y1 y2, LeO (glyph_Name.l0 k y0 y1 y2) (glyph_Name.l0 (k + 1) y0 y1 y2))
 | 0 => fun _ _ _ r h => by simp [glyph_Name.l0] at h
 | k + 1 => by
  have ih0 := glyph_Name.mono_l k; intro y0 y1 y2
  unfold glyph_Name.l0
  repeat' first
   | (with_reducible exact ih0 _ _ _)
   | (with_reducible exact glyph_Start.mono _ _)
   | (with_reducible exact glyph_Rest.mono _ _)
   | (with_reducible exact LeO.refl _)
   | (with_reducible exact LeO.none _)
   | (with_reducible refine LeO.ite ?_ ?_)
   | (with_reducible refine LeO.bind ?_ (fun _ => ?_))
theorem glyph_Name.mono : ∀ a0 k, LeO (glyph_Name.f k a0) (glyph_Name.f (k + 1) a0) := fun a0 k => glyph_Name.mono_l k a0 0 0
/-- The text's iterator: block g, at a byte. -/
structure glyph_Name.Inv (w W : World) (g : Nat) (s : ByteArray) (p : Nat) : Prop where
 ge : w.heap.size ≤ g
 it : W.heap[g]? = some (.stringIter s p)
 below : Below w.heap.size w W
theorem glyph_Name.Inv.on {w W : World} {g : Nat} {s : ByteArray} {p : Nat} (h : glyph_Name.Inv w W g s p) (q : Nat) : glyph_Name.Inv w (W.iterAt g s q) g s q :=
 ⟨h.ge, Go.Lib.iterAt_heap W g s p q h.it, Go.Lib.below_iterAt h.below h.ge s q⟩
theorem glyph_Name.Inv.drewN {w W : World} {g : Nat} {s : ByteArray} {p : Nat} (h : glyph_Name.Inv w W g s p) (n : Nat) : glyph_Name.Inv w (W.drewN n) g s p := ⟨h.ge, h.it, pw_below_drewN h.below n⟩
theorem glyph_Name.width (s : ByteArray) (pos : Nat) (h : pos < s.size) : 1 ≤ (Utf8.decode s pos).2 := by
 by_cases ha : (s[pos]'h).toNat < 128
 ·rw [decode_ascii s pos h ha]; exact Nat.le_refl _
 ·exact (decode_high s pos h (by omega)).2
set_option maxRecDepth 1000000 in
theorem glyph_Name.calls (k : Nat) (a0 : ByteArray) (r : Bool) (w : World) (h : glyph_Name.f k a0 = some r) : Calls Try.prog 67 #[.string a0] w fun e w' => e = .returned (.bool r) ∧ Below w.heap.size w w' := by
 have HF := Aside0.mk (show glyph_Name.l0 k a0 0 0 = some r from h); clear h
 go_enter Try.func67, Try.ntmps67
 go_wp2
 go_loopw [3] (fun v w' => ∃ (p k : Nat) (n : Int), v = .int .i64 n ∧ glyph_Name.Inv w w' w.heap.size a0 p ∧ glyph_Name.l0 k a0 p n = some r) (fun _ w' => a0.size - w'.iterPos w.heap.size)
 case atStart => exact ⟨0, k, 0, rfl, ⟨Nat.le_refl _, World.iter_heap _ _ _, below_alloc (Below.refl _ _) _⟩, HF.out⟩
 case round =>
  obtain ⟨p, k, n, rfl, hI, hl⟩ := hrel; cases k with
  | zero => cases hl
  | succ k =>
   rw [glyph_Name.l0] at hl; have hit := hI.it; have HI := Aside0.mk hI; clear hI
   by_cases hp : p < a0.size
   ·rw [if_pos hp] at hl
    have hnx : ∀ ty, (Instr.next (.pointer (some ⟨w.heap.size, 0, none⟩)) true ty).run Try.prog wr = _ := fun ty => Go.Lib.run_next_any_at wr w.heap.size a0 p ty hit hp
    have hwd := glyph_Name.width a0 p hp; have HW := Aside0.mk hwd; have HP := Aside0.mk hp; clear hit hwd; replace hl := Option.bind_eq_some_iff.mp hl; obtain ⟨t, hS, hl⟩ := hl; have HL := Aside0.mk hl; clear hl
    by_cases hz : p = 0
    ·rw [if_pos hz] at hS; have hz1 : ((p : Int) == 0) = true := beq_iff_eq.mpr (by omega); have HS := Aside0.mk hS; clear hS hz hp; cases t with
     | false =>
      have hr := HL.out; rw [if_neg (by decide)] at hr; obtain rfl := Option.some.inj hr; clear hr
      go_wp2_with (go_at_call 76; (with_reducible refine (glyph_Start.calls k _ false _ HS.out).mono ?_); rintro e w1 ⟨rfl, ⟨nd, rfl⟩⟩)
      go_ret
      exact ⟨rfl, ((HI.out.on _).drewN nd).below⟩
     | true =>
      have hl := HL.out; rw [if_pos rfl] at hl; replace hl := Option.bind_eq_some_iff.mp hl; obtain ⟨u, hR, hl⟩ := hl; have HR := Aside0.mk hR; have HM := Aside0.mk hl; clear hl hR; cases u with
      | false =>
       have hr := HM.out; rw [if_neg (by decide)] at hr; obtain rfl := Option.some.inj hr; clear hr
       go_wp2_with (first | (go_at_call 76; (with_reducible refine (glyph_Start.calls k _ true _ HS.out).mono ?_); rintro e w1 ⟨rfl, ⟨nd, rfl⟩⟩) | (go_at_call 77; (with_reducible refine (glyph_Rest.calls k _ false _ HR.out).mono ?_); rintro e w2 ⟨rfl, ⟨ne, rfl⟩⟩))
       go_ret
       exact ⟨rfl, ((HI.out.on _).drewN (nd + ne)).below⟩
      | true =>
       go_wp2_with (first | (go_at_call 76; (with_reducible refine (glyph_Start.calls k _ true _ HS.out).mono ?_); rintro e w1 ⟨rfl, ⟨nd, rfl⟩⟩) | (go_at_call 77; (with_reducible refine (glyph_Rest.calls k _ true _ HR.out).mono ?_); rintro e w2 ⟨rfl, ⟨ne, rfl⟩⟩))
       go_roundw
       case rel => exact ⟨p + (Utf8.decode a0 p).2, k, _, rfl, (HI.out.on _).drewN (nd + ne), by simpa using HM.out⟩
       case measure =>
        have e1 := ((HI.out.on (p + (Utf8.decode a0 p).2)).drewN (nd + ne)).it; have e2 := HI.out.it; have := HW.out; have := HP.out; simp only [World.iterPos, e1, e2]
        omega
    ·rw [if_neg hz] at hS; have hz1 : ((p : Int) == 0) = false := beq_eq_false_iff_ne.mpr (by omega); obtain rfl := Option.some.inj hS; clear hS hz hp; have hl := HL.out; rw [if_pos rfl] at hl; replace hl := Option.bind_eq_some_iff.mp hl; obtain ⟨u, hR, hl⟩ := hl; have HR := Aside0.mk hR; have HM := Aside0.mk hl; clear hl hR; cases u with
     | false =>
      have hr := HM.out; rw [if_neg (by decide)] at hr; obtain rfl := Option.some.inj hr; clear hr
      go_wp2_with (go_at_call 77; (with_reducible refine (glyph_Rest.calls k _ false _ HR.out).mono ?_); rintro e w2 ⟨rfl, ⟨ne, rfl⟩⟩)
      go_ret
      exact ⟨rfl, ((HI.out.on _).drewN ne).below⟩
     | true =>
      go_wp2_with (go_at_call 77; (with_reducible refine (glyph_Rest.calls k _ true _ HR.out).mono ?_); rintro e w2 ⟨rfl, ⟨ne, rfl⟩⟩)
      go_roundw
      case rel => exact ⟨p + (Utf8.decode a0 p).2, k, _, rfl, (HI.out.on _).drewN ne, by simpa using HM.out⟩
      case measure =>
       have e1 := ((HI.out.on (p + (Utf8.decode a0 p).2)).drewN ne).it; have e2 := HI.out.it; have := HW.out; have := HP.out; simp only [World.iterPos, e1, e2]
       omega
   ·rw [if_neg hp] at hl
    have hnx : ∀ ty, (Instr.next (.pointer (some ⟨w.heap.size, 0, none⟩)) true ty).run Try.prog wr = _ := fun ty => Go.Lib.run_next_end_at wr w.heap.size a0 p ty hit hp
    clear hit hp
    by_cases c1 : n > 0
    ·rw [if_pos c1] at hl; have d1 : decide (n > 0) = true := decide_eq_true c1; clear c1
     by_cases c2 : n ≤ 16
     ·rw [if_pos c2] at hl; have d2 : decide (n ≤ 16) = true := decide_eq_true c2; clear c2; replace hl := Option.bind_eq_some_iff.mp hl; obtain ⟨t, hV, hl⟩ := hl; obtain rfl := Option.some.inj hl; have HV := Aside0.mk hV; clear hl hV
      go_wp2_with (go_at_call 78; (with_reducible refine (glyph_Reserved.calls _ t _ HV.out).mono ?_); rintro e w2 ⟨rfl, ⟨ne, rfl⟩⟩)
      go_ret
      exact ⟨rfl, (HI.out.drewN ne).below⟩
     ·rw [if_neg c2] at hl; have d2 : decide (n ≤ 16) = false := decide_eq_false c2; clear c2; obtain rfl := Option.some.inj hl; clear hl
      go_wp2
      go_ret
      exact ⟨rfl, HI.out.below⟩
    ·rw [if_neg c1] at hl; have d1 : decide (n > 0) = false := decide_eq_false c1; clear c1; obtain rfl := Option.some.inj hl; clear hl
     go_wp2
     go_ret
     exact ⟨rfl, HI.out.below⟩

end Go.Proofs.Ytghfclgcgecgdaa.X
namespace Go.Proofs.Ytghfclgcgecgdaa.X
open Go.RowKit Go.Proofs.YtghfclgcgecgdaaW.PrintWords Go.Proofs.YtghfclgcgecgdaaW.PrintLast Go.Proofs.YtghfclgcgecgdaaW.PrintMore
attribute [local go_sem] max2_int min2_int max_two min_two max_three min_three max_four min_four
set_option linter.unusedVariables false
set_option linter.unusedSimpArgs false

/-! ### glyph_Rises: function 61 -/
def glyph_Rises.l0 : Nat → List ByteArray → List ByteArray → Int → Int → Option (Bool)
 | 0, _, _, _, _ => none
 | k + 1, x0, x5, x6, x7 => if x7 < x6 then (if 0 ≤ x7 then (if x7 < (x5.length : Int) then ((glyph_Name.f k (rdOf ByteArray.empty x5 x7)).bind fun t103 => (if t103 = true then (if x7 > 0 then (if 0 ≤ (wrap64 (x7 - 1)) then (if (wrap64 (x7 - 1)) < (x0.length : Int) then (if ((Op.bytesLess ((rdOf ByteArray.empty x0 (wrap64 (x7 - 1))).toList) ((rdOf ByteArray.empty x5 x7).toList)) = true) then (glyph_Rises.l0 k x0 x5 x6 (wrap64 (x7 + 1))) else (some false)) else (none)) else (none)) else (glyph_Rises.l0 k x0 x5 x6 (wrap64 (x7 + 1)))) else (some false))) else (none)) else (none)) else (some true)
def glyph_Rises.f (k : Nat) (l0 : List ByteArray) : Option (Bool) := glyph_Rises.l0 k l0 l0 (l0.length : Int) 0
theorem glyph_Rises.mono_l : ∀ k, (∀ y0 y1 y2 y3, LeO (glyph_Rises.l0 k y0 y1 y2 y3) (glyph_Rises.l0 (k + 1) y0 y1 y2 y3))
 | 0 => fun _ _ _ _ r h => by simp [glyph_Rises.l0] at h
 | k + 1 => by
  have ih0 := glyph_Rises.mono_l k
  ·intro y0 y1 y2 y3
   unfold glyph_Rises.l0
   repeat' first | (with_reducible first | exact ih0 _ _ _ _ | exact glyph_Name.mono _ _ | exact lA | apply lI | refine lB ?_ fun _ => ?_) | exact lN _ | apply lI | refine lB ?_ fun _ => ?_
theorem glyph_Rises.mono : ∀ a0 k, LeO (glyph_Rises.f k a0) (glyph_Rises.f (k + 1) a0) := by
 intro a0 k; have ih0 := glyph_Rises.mono_l k
 unfold glyph_Rises.f
 repeat' first | (with_reducible first | exact ih0 _ _ _ _ | exact glyph_Name.mono _ _ | exact lA | apply lI | refine lB ?_ fun _ => ?_) | exact lN _ | apply lI | refine lB ?_ fun _ => ?_
set_option maxHeartbeats 8000000 in
set_option maxRecDepth 100000 in
theorem glyph_Rises.calls (k : Nat) (A0 : Option Addr) (c0 : Nat) (l0 : List ByteArray) (r : Bool) (w : World) (hr0 : Kd.C Kd.string w A0 l0.length l0) (hc0 : l0.length ≤ c0) (h : glyph_Rises.f k l0 = some r) :
  Calls Try.prog 61 #[.slice A0 l0.length c0] w fun e w' => e = .returned (.bool r) ∧ Below w.heap.size w w' := by
 have HR0 := Aside0.mk hr0; have HC0 := Aside0.mk hc0; clear hr0 hc0; have HB := Aside0.mk (Below.refl w.heap.size w); have H : (glyph_Rises.l0 k l0 l0 (l0.length : Int) 0) = some r := h; clear h; have H' := Aside0.mk H; clear H
 go_enter Try.func61, Try.ntmps61
 go_wp2
 go_loopg [7] k (fun kq v7 w' => ∃ (x7_1 : Int), v7 = .int .i64 x7_1 ∧ Aside0 (glyph_Rises.l0 kq l0 l0 (l0.length : Int) x7_1 = some r) ∧ Aside0 (kq ≤ k) ∧ Aside0 (Below w.heap.size w w'))
 case atStart => exact ⟨(0), sI, H', ⟨Nat.le_refl _⟩, ⟨bO HB.out⟩⟩
 case round =>
  clear H'; obtain ⟨x7_1, rfl, HA, HK1, HB⟩ := hrel; cases gk with
  | zero => exact absurd HA.out (by simp [glyph_Rises.l0])
  | succ k1 =>
   have H := HA.out; clear HA; simp only [glyph_Rises.l0] at H
   by_cases c2 : x7_1 < (l0.length : Int)
   ·rw [if_pos c2] at H; have c2b0 := decide_eq_true c2; clear c2
    by_cases c3 : 0 ≤ x7_1
    ·rw [if_pos c3] at H; have c3b0 := decide_eq_true c3; clear c3
     by_cases c4 : x7_1 < (l0.length : Int)
     ·rw [if_pos c4] at H; have c4b0 := decide_eq_true c4; clear c4; replace H := Option.bind_eq_some_iff.mp H; obtain ⟨t103, A50, H⟩ := H; replace H : (if t103 = true then (if x7_1 > 0 then (if 0 ≤ (wrap64 (x7_1 - 1)) then (if (wrap64 (x7_1 - 1)) < (l0.length : Int) then (if ((Op.bytesLess ((rdOf ByteArray.empty l0 (wrap64 (x7_1 - 1))).toList) ((rdOf ByteArray.empty l0 x7_1).toList)) = true) then (glyph_Rises.l0 k1 l0 l0 (l0.length : Int) (wrap64 (x7_1 + 1))) else (some false)) else (none)) else (none)) else (glyph_Rises.l0 k1 l0 l0 (l0.length : Int) (wrap64 (x7_1 + 1)))) else (some false)) = some r := H; have A5 := Aside0.mk A50; clear A50
      by_cases c6 : t103 = true
      ·subst c6
       have H1 : (if x7_1 > 0 then (if 0 ≤ (wrap64 (x7_1 - 1)) then (if (wrap64 (x7_1 - 1)) < (l0.length : Int) then (if ((Op.bytesLess ((rdOf ByteArray.empty l0 (wrap64 (x7_1 - 1))).toList) ((rdOf ByteArray.empty l0 x7_1).toList)) = true) then (glyph_Rises.l0 k1 l0 l0 (l0.length : Int) (wrap64 (x7_1 + 1))) else (some false)) else (none)) else (none)) else (glyph_Rises.l0 k1 l0 l0 (l0.length : Int) (wrap64 (x7_1 + 1)))) = some r := by rw [if_pos rfl] at H; exact H
       clear H; have H := H1; clear H1
       by_cases c7 : x7_1 > 0
       ·rw [if_pos c7] at H; have c7b0 := decide_eq_true c7; clear c7; obtain ⟨ji8, hji8⟩ : ∃ j_ : Int, (wrap64 (x7_1 - 1)) = j_ := ⟨_, rfl⟩
        replace H : (if 0 ≤ (ji8) then (if (ji8) < (l0.length : Int) then (if ((Op.bytesLess ((rdOf ByteArray.empty l0 (ji8)).toList) ((rdOf ByteArray.empty l0 x7_1).toList)) = true) then (glyph_Rises.l0 k1 l0 l0 (l0.length : Int) (wrap64 (x7_1 + 1))) else (some false)) else (none)) else (none)) = some r := by first | (rw [hji8] at H; exact H) | (simp only [hji8] at H ⊢; exact H)
        (try rw [hji8] at A5)
        have hji8w : (IntKind.i64.wrap (x7_1 - 1)) = ji8 := (i64_w _).trans hji8
        by_cases c9 : 0 ≤ (ji8)
        ·rw [if_pos c9] at H; have c9b0 := decide_eq_true c9; clear c9
         by_cases c10 : (ji8) < (l0.length : Int)
         ·rw [if_pos c10] at H; have c10b0 := decide_eq_true c10; clear c10
          by_cases c11 : ((Op.bytesLess ((rdOf ByteArray.empty l0 (ji8)).toList) ((rdOf ByteArray.empty l0 x7_1).toList)) = true)
          ·rw [if_pos c11] at H; have c11b0 : (Op.bytesLess ((rdOf ByteArray.empty l0 (ji8)).toList) ((rdOf ByteArray.empty l0 x7_1).toList)) = true := c11; clear c11; have H' := Aside0.mk H; clear H; have p102 : 0 ≤ (x7_1 : Int) := of_decide_eq_true aO; have q102 : x7_1 < (l0.length : Int) := of_decide_eq_true aO; obtain ⟨ad102, e102, hx102_0⟩ := Kd.at_string HR0.out x7_1 p102 q102; cases e102; replace hx102_0 := cX HB hx102_0; replace p102 := eq_true p102; replace q102 := eq_true q102
           go_wp2_with (first | ((with_reducible refine gate_callee (f := 67) rfl ?_); refine gL_ (some 13) Try.func67 #[.string (rdOf ByteArray.empty l0 x7_1)] ?_; (with_reducible refine (glyph_Name.calls k1 (rdOf ByteArray.empty l0 x7_1) true _ A5.out).mono ?_); rintro e w12 ⟨rfl, hb⟩; refine ⟨_, rfl, ?_⟩; replace HB := hS0 HB hb; (try clear hb); (try clear hb2); (try clear hk); (try clear hi); have p104 : 0 ≤ ((ji8) : Int) := of_decide_eq_true aO; have q104 : (ji8) < (l0.length : Int) := of_decide_eq_true aO; obtain ⟨ad104, e104, hx104_0⟩ := Kd.at_string HR0.out (ji8) p104 q104; have he_ : ad102 = ad104 := (by injection e104); subst he_; replace hx104_0 := cX HB hx104_0; replace p104 := eq_true p104; replace q104 := eq_true q104))
           go_roundg k1
           case measure => have := HK1.out; omega
           case rel => exact ⟨(wrap64 (x7_1 + 1)), sI, H', ⟨by have := HK1.out; omega⟩, ⟨bO HB.out⟩⟩
          ·rw [if_neg c11] at H
           have c11b0 : (Op.bytesLess ((rdOf ByteArray.empty l0 (ji8)).toList) ((rdOf ByteArray.empty l0 x7_1).toList)) = false := by simpa using c11
           clear c11; obtain rfl := Option.some.inj H; have p102 : 0 ≤ (x7_1 : Int) := of_decide_eq_true aO; have q102 : x7_1 < (l0.length : Int) := of_decide_eq_true aO; obtain ⟨ad102, e102, hx102_0⟩ := Kd.at_string HR0.out x7_1 p102 q102; cases e102; replace hx102_0 := cX HB hx102_0; replace p102 := eq_true p102; replace q102 := eq_true q102
           go_wp2_with (first | ((with_reducible refine gate_callee (f := 67) rfl ?_); refine gL_ (some 13) Try.func67 #[.string (rdOf ByteArray.empty l0 x7_1)] ?_; (with_reducible refine (glyph_Name.calls k1 (rdOf ByteArray.empty l0 x7_1) true _ A5.out).mono ?_); rintro e w13 ⟨rfl, hb⟩; refine ⟨_, rfl, ?_⟩; replace HB := hS0 HB hb; (try clear hb); (try clear hb2); (try clear hk); (try clear hi); have p104 : 0 ≤ ((ji8) : Int) := of_decide_eq_true aO; have q104 : (ji8) < (l0.length : Int) := of_decide_eq_true aO; obtain ⟨ad104, e104, hx104_0⟩ := Kd.at_string HR0.out (ji8) p104 q104; have he_ : ad102 = ad104 := (by injection e104); subst he_; replace hx104_0 := cX HB hx104_0; replace p104 := eq_true p104; replace q104 := eq_true q104))
           go_ret
           exact ⟨by first | rfl | (simp [errW_none, errW_some] <;> rfl) | (simp only [← hji8]; first | rfl | (simp [errW_none, errW_some] <;> rfl)) | (simp [*, errW_none, errW_some] <;> rfl), bO HB.out⟩
         ·rw [if_neg c10] at H; exact absurd H (by simp)
        ·rw [if_neg c9] at H; exact absurd H (by simp)
       ·rw [if_neg c7] at H; have c7b0 := decide_eq_false c7; clear c7; have H' := Aside0.mk H; clear H; have p102 : 0 ≤ (x7_1 : Int) := of_decide_eq_true aO; have q102 : x7_1 < (l0.length : Int) := of_decide_eq_true aO; obtain ⟨ad102, e102, hx102_0⟩ := Kd.at_string HR0.out x7_1 p102 q102; cases e102; replace hx102_0 := cX HB hx102_0; replace p102 := eq_true p102; replace q102 := eq_true q102
        go_wp2_with (first | ((with_reducible refine gate_callee (f := 67) rfl ?_); refine gL_ (some 13) Try.func67 #[.string (rdOf ByteArray.empty l0 x7_1)] ?_; (with_reducible refine (glyph_Name.calls k1 (rdOf ByteArray.empty l0 x7_1) true _ A5.out).mono ?_); rintro e w14 ⟨rfl, hb⟩; refine ⟨_, rfl, ?_⟩; replace HB := hS0 HB hb; (try clear hb); (try clear hb2); (try clear hk); (try clear hi)))
        go_roundg k1
        case measure => have := HK1.out; omega
        case rel => exact ⟨(wrap64 (x7_1 + 1)), sI, H', ⟨by have := HK1.out; omega⟩, ⟨bO HB.out⟩⟩
      ·replace c6 := Bool.eq_false_iff.mpr c6; subst c6
       have H1 : (some false) = some r := by rw [if_neg (show ¬ (false = true) by decide)] at H; exact H
       clear H; have H := H1; clear H1; obtain rfl := Option.some.inj H; have p102 : 0 ≤ (x7_1 : Int) := of_decide_eq_true aO; have q102 : x7_1 < (l0.length : Int) := of_decide_eq_true aO; obtain ⟨ad102, e102, hx102_0⟩ := Kd.at_string HR0.out x7_1 p102 q102; cases e102; replace hx102_0 := cX HB hx102_0; replace p102 := eq_true p102; replace q102 := eq_true q102
       go_wp2_with (first | ((with_reducible refine gate_callee (f := 67) rfl ?_); refine gL_ (some 13) Try.func67 #[.string (rdOf ByteArray.empty l0 x7_1)] ?_; (with_reducible refine (glyph_Name.calls k1 (rdOf ByteArray.empty l0 x7_1) false _ A5.out).mono ?_); rintro e w15 ⟨rfl, hb⟩; refine ⟨_, rfl, ?_⟩; replace HB := hS0 HB hb; (try clear hb); (try clear hb2); (try clear hk); (try clear hi)))
       go_ret
       exact ⟨eW, bO HB.out⟩
     ·rw [if_neg c4] at H; exact absurd H (by simp)
    ·rw [if_neg c3] at H; exact absurd H (by simp)
   ·rw [if_neg c2] at H; have c2b0 := decide_eq_false c2; clear c2; obtain rfl := Option.some.inj H
    go_wp2
    go_ret
    exact ⟨eW, bO HB.out⟩

/-! ### table_tracks: function 38 -/
def table_tracks.f (k : Nat) (l0 : List ByteArray) (a1 : Int) : Option (Bool) := if (l0.length : Int) ≤ 6 then (if a1 ≥ 1 then (if a1 ≤ 256 then ((glyph_Rises.f k l0).bind fun t105 => (some t105)) else (some false)) else (some false)) else (some false)
theorem table_tracks.mono : ∀ a0 a1 k, LeO (table_tracks.f k a0 a1) (table_tracks.f (k + 1) a0 a1) := by
 intro a0 a1 k
 unfold table_tracks.f
 repeat' first | (with_reducible first | exact glyph_Rises.mono _ _ | exact lA | apply lI | refine lB ?_ fun _ => ?_) | exact lN _ | apply lI | refine lB ?_ fun _ => ?_
set_option maxHeartbeats 8000000 in
set_option maxRecDepth 100000 in
theorem table_tracks.calls (k : Nat) (A0 : Option Addr) (c0 : Nat) (l0 : List ByteArray) (a1 : Int) (r : Bool) (w : World) (hr0 : Kd.C Kd.string w A0 l0.length l0) (hc0 : l0.length ≤ c0) (h : table_tracks.f k l0 a1 = some r) :
  Calls Try.prog 38 #[.slice A0 l0.length c0, .int .i64 a1] w fun e w' => e = .returned (.bool r) ∧ Below w.heap.size w w' := by
 have HR0 := Aside0.mk hr0; have HC0 := Aside0.mk hc0; clear hr0 hc0; have HB := Aside0.mk (Below.refl w.heap.size w); have H : (if (l0.length : Int) ≤ 6 then (if a1 ≥ 1 then (if a1 ≤ 256 then ((glyph_Rises.f k l0).bind fun t105 => (some t105)) else (some false)) else (some false)) else (some false)) = some r := h; clear h
 by_cases c3 : (l0.length : Int) ≤ 6
 ·rw [if_pos c3] at H; have c3b0 := decide_eq_true c3; have c3b1 : decide (l0.length ≤ 6) = true := decide_eq_true (by omega); clear c3
  by_cases c4 : a1 ≥ 1
  ·rw [if_pos c4] at H; have c4b0 := decide_eq_true c4; clear c4
   by_cases c5 : a1 ≤ 256
   ·rw [if_pos c5] at H; have c5b0 := decide_eq_true c5; clear c5; replace H := Option.bind_eq_some_iff.mp H; obtain ⟨t105, A60, H⟩ := H; replace H : (some t105) = some r := H; have A6 := Aside0.mk A60; clear A60; obtain rfl := Option.some.inj H
    go_enter Try.func38, Try.ntmps38
    go_wp2_with (first | (go_at_call 61; (with_reducible refine (glyph_Rises.calls k _ _ l0 t105 _ ?s1 ?s2 A6.out).mono ?_); (case s1 => exact cO HR0.out); (case s2 => exact HC0.out); rintro e w7 ⟨rfl, hb⟩; replace HB := hS0 HB hb; (try clear hb); (try clear hb2); (try clear hk); (try clear hi)))
    go_ret
    exact ⟨eW, bO HB.out⟩
   ·rw [if_neg c5] at H; have c5b0 := decide_eq_false c5; clear c5; obtain rfl := Option.some.inj H
    go_enter Try.func38, Try.ntmps38
    go_wp2
    go_ret
    exact ⟨eW, bO HB.out⟩
  ·rw [if_neg c4] at H; have c4b0 := decide_eq_false c4; clear c4; obtain rfl := Option.some.inj H
   go_enter Try.func38, Try.ntmps38
   go_wp2
   go_ret
   exact ⟨eW, bO HB.out⟩
 ·rw [if_neg c3] at H; have c3b0 := decide_eq_false c3; have c3b1 : decide (l0.length ≤ 6) = false := decide_eq_false (by omega); clear c3; obtain rfl := Option.some.inj H
  go_enter Try.func38, Try.ntmps38
  go_wp2
  go_ret
  exact ⟨eW, bO HB.out⟩

end Go.Proofs.Ytghfclgcgecgdaa.X
namespace Go.Proofs.Ytghfclgcgecgdaa.X
open Go.RowKit Go.Proofs.YtghfclgcgecgdaaW.PrintWords Go.Proofs.YtghfclgcgecgdaaW.PrintLast Go.Proofs.YtghfclgcgecgdaaW.PrintMore
attribute [local go_sem] max2_int min2_int max_two min_two max_three min_three max_four min_four
set_option linter.unusedVariables false
set_option linter.unusedSimpArgs false

/-! ### slices_Min_int_int: function 39 -/
def slices_Min_int_int.l0 : Nat → List Int → Int → Int → Option (Int)
 | 0, _, _, _ => none
 | k + 1, x0, x3, x4 => if x4 < (x0.length : Int) then (if 0 ≤ x4 then (slices_Min_int_int.l0 k x0 (mn x3 (rd x0 x4)) (wrap64 (x4 + 1))) else (none)) else (some x3)
def slices_Min_int_int.f (k : Nat) (l0 : List Int) : Option (Int) := if (l0.length : Int) < 1 then (none) else (if 0 < (l0.length : Int) then (slices_Min_int_int.l0 k l0 (rd l0 0) 1) else (none))
theorem slices_Min_int_int.mono_l : ∀ k, (∀ y0 y1 y2, LeO (slices_Min_int_int.l0 k y0 y1 y2) (slices_Min_int_int.l0 (k + 1) y0 y1 y2))
 | 0 => fun _ _ _ r h => by simp [slices_Min_int_int.l0] at h
 | k + 1 => by
  have ih0 := slices_Min_int_int.mono_l k
  ·intro y0 y1 y2
   unfold slices_Min_int_int.l0
   repeat' first | (with_reducible first | exact ih0 _ _ _ | exact lA | apply lI | refine lB ?_ fun _ => ?_) | exact lN _ | apply lI | refine lB ?_ fun _ => ?_
theorem slices_Min_int_int.mono : ∀ a0 k, LeO (slices_Min_int_int.f k a0) (slices_Min_int_int.f (k + 1) a0) := by
 intro a0 k; have ih0 := slices_Min_int_int.mono_l k
 unfold slices_Min_int_int.f
 repeat' first | (with_reducible first | exact ih0 _ _ _ | exact lA | apply lI | refine lB ?_ fun _ => ?_) | exact lN _ | apply lI | refine lB ?_ fun _ => ?_
set_option maxHeartbeats 8000000 in
set_option maxRecDepth 100000 in
theorem slices_Min_int_int.calls (k : Nat) (A0 : Option Addr) (c0 : Nat) (l0 : List Int) (r : Int) (w : World) (hr0 : Kd.C (Kd.int .i64) w A0 l0.length l0) (hc0 : l0.length ≤ c0) (h : slices_Min_int_int.f k l0 = some r) :
  Calls Try.prog 39 #[.slice A0 l0.length c0] w fun e w' => e = .returned (.int .i64 r) ∧ Below w.heap.size w w' := by
 have HR0 := Aside0.mk hr0; have HC0 := Aside0.mk hc0; clear hr0 hc0; have HB := Aside0.mk (Below.refl w.heap.size w); have H : (if (l0.length : Int) < 1 then (none) else (if 0 < (l0.length : Int) then (slices_Min_int_int.l0 k l0 (rd l0 0) 1) else (none))) = some r := h; clear h
 by_cases c2 : (l0.length : Int) < 1
 ·rw [if_pos c2] at H; exact absurd H (by simp)
 ·rw [if_neg c2] at H; have c2b0 := decide_eq_false c2; have c2b1 : decide (l0.length < 1) = false := decide_eq_false (by omega); clear c2
  by_cases c3 : 0 < (l0.length : Int)
  ·rw [if_pos c3] at H; have c3b0 := decide_eq_true c3; have c3b1 : decide (0 < l0.length) = true := decide_eq_true (by omega); clear c3; have H' := Aside0.mk H; clear H; have p106 : 0 ≤ (0 : Int) := (by omega); have q106 : 0 < (l0.length : Int) := of_decide_eq_true aO; obtain ⟨ad106, e106, hx106_0⟩ := Kd.at_int HR0.out 0 p106 q106; cases e106; have qi106 : (0 < l0.length) = True := eq_true (by omega)
   (try rw [show ((0 : Int)).toNat = 0 from rfl] at hx106_0)
   (try rw [Addr.add_zero'] at hx106_0)
   replace p106 := eq_true p106; replace q106 := eq_true q106
   go_enter Try.func39, Try.ntmps39
   go_wp2
   go_loopg [3, 4] k (fun kq v3 v4 w' => ∃ (x3_1 : Int) (x4_1 : Int), v3 = .int .i64 x3_1 ∧ v4 = .int .i64 x4_1 ∧ Aside0 (slices_Min_int_int.l0 kq l0 x3_1 x4_1 = some r) ∧ Aside0 (kq ≤ k) ∧ Aside0 (Below w.heap.size w w'))
   case atStart => exact ⟨(rd l0 0), (1), sI, sI, H', ⟨Nat.le_refl _⟩, ⟨bO HB.out⟩⟩
   case round =>
    clear H'
    try clear p1
    try clear q1
    try clear hx1
    try clear qi1
    try clear c2
    try clear c2b0
    try clear c2b1
    try clear p2
    try clear c3
    try clear c3b0
    try clear c3b1
    try clear hx106_0
    try clear p106
    try clear q106
    obtain ⟨x3_1, x4_1, rfl, rfl, HA, HK1, HB⟩ := hrel; cases gk with
    | zero => exact absurd HA.out (by simp [slices_Min_int_int.l0])
    | succ k1 =>
     have H := HA.out; clear HA; simp only [slices_Min_int_int.l0] at H
     by_cases c4 : x4_1 < (l0.length : Int)
     ·rw [if_pos c4] at H; have c4b0 := decide_eq_true c4; clear c4
      by_cases c5 : 0 ≤ x4_1
      ·rw [if_pos c5] at H; have c5b0 := decide_eq_true c5; clear c5; obtain ⟨ji6, hji6⟩ : ∃ j_ : Int, (mn x3_1 (rd l0 x4_1)) = j_ := ⟨_, rfl⟩
       replace H : (slices_Min_int_int.l0 k1 l0 ji6 (wrap64 (x4_1 + 1))) = some r := by first | (rw [hji6] at H; exact H) | (simp only [hji6] at H ⊢; exact H)
       have hji6_ : (if (rd l0 x4_1) < x3_1 then (rd l0 x4_1) else x3_1) = ji6 := hji6; have H' := Aside0.mk H; clear H; have p107 : 0 ≤ (x4_1 : Int) := of_decide_eq_true aO; have q107 : x4_1 < (l0.length : Int) := of_decide_eq_true aO; obtain ⟨ad107, e107, hx107_0⟩ := Kd.at_int HR0.out x4_1 p107 q107; have he_ : ad106 = ad107 := (by injection e107); subst he_; replace hx107_0 := cX HB hx107_0; replace p107 := eq_true p107; replace q107 := eq_true q107
       go_wp2
       go_roundg k1
       case measure => have := HK1.out; omega
       case rel => exact ⟨(ji6), (wrap64 (x4_1 + 1)), (by first | rfl | (simp; done) | (simp only [← hji6] <;> (first | rfl | simp)) | (simp [*]; done)), sI, H', ⟨by have := HK1.out; omega⟩, ⟨bO HB.out⟩⟩
      ·rw [if_neg c5] at H; exact absurd H (by simp)
     ·rw [if_neg c4] at H; have c4b0 := decide_eq_false c4; clear c4; obtain rfl := Option.some.inj H
      go_wp2
      go_ret
      exact ⟨eW, bO HB.out⟩
  ·rw [if_neg c3] at H; exact absurd H (by simp)

/-! ### slices_Max_int_int: function 40 -/
def slices_Max_int_int.l0 : Nat → List Int → Int → Int → Option (Int)
 | 0, _, _, _ => none
 | k + 1, x0, x3, x4 => if x4 < (x0.length : Int) then (if 0 ≤ x4 then (slices_Max_int_int.l0 k x0 (mx x3 (rd x0 x4)) (wrap64 (x4 + 1))) else (none)) else (some x3)
def slices_Max_int_int.f (k : Nat) (l0 : List Int) : Option (Int) := if (l0.length : Int) < 1 then (none) else (if 0 < (l0.length : Int) then (slices_Max_int_int.l0 k l0 (rd l0 0) 1) else (none))
theorem slices_Max_int_int.mono_l : ∀ k, (∀ y0 y1 y2, LeO (slices_Max_int_int.l0 k y0 y1 y2) (slices_Max_int_int.l0 (k + 1) y0 y1 y2))
 | 0 => fun _ _ _ r h => by simp [slices_Max_int_int.l0] at h
 | k + 1 => by
  have ih0 := slices_Max_int_int.mono_l k
  ·intro y0 y1 y2
   unfold slices_Max_int_int.l0
   repeat' first | (with_reducible first | exact ih0 _ _ _ | exact lA | apply lI | refine lB ?_ fun _ => ?_) | exact lN _ | apply lI | refine lB ?_ fun _ => ?_
theorem slices_Max_int_int.mono : ∀ a0 k, LeO (slices_Max_int_int.f k a0) (slices_Max_int_int.f (k + 1) a0) := by
 intro a0 k; have ih0 := slices_Max_int_int.mono_l k
 unfold slices_Max_int_int.f
 repeat' first | (with_reducible first | exact ih0 _ _ _ | exact lA | apply lI | refine lB ?_ fun _ => ?_) | exact lN _ | apply lI | refine lB ?_ fun _ => ?_
set_option maxHeartbeats 8000000 in
set_option maxRecDepth 100000 in
theorem slices_Max_int_int.calls (k : Nat) (A0 : Option Addr) (c0 : Nat) (l0 : List Int) (r : Int) (w : World) (hr0 : Kd.C (Kd.int .i64) w A0 l0.length l0) (hc0 : l0.length ≤ c0) (h : slices_Max_int_int.f k l0 = some r) :
  Calls Try.prog 40 #[.slice A0 l0.length c0] w fun e w' => e = .returned (.int .i64 r) ∧ Below w.heap.size w w' := by
 have HR0 := Aside0.mk hr0; have HC0 := Aside0.mk hc0; clear hr0 hc0; have HB := Aside0.mk (Below.refl w.heap.size w); have H : (if (l0.length : Int) < 1 then (none) else (if 0 < (l0.length : Int) then (slices_Max_int_int.l0 k l0 (rd l0 0) 1) else (none))) = some r := h; clear h
 by_cases c2 : (l0.length : Int) < 1
 ·rw [if_pos c2] at H; exact absurd H (by simp)
 ·rw [if_neg c2] at H; have c2b0 := decide_eq_false c2; have c2b1 : decide (l0.length < 1) = false := decide_eq_false (by omega); clear c2
  by_cases c3 : 0 < (l0.length : Int)
  ·rw [if_pos c3] at H; have c3b0 := decide_eq_true c3; have c3b1 : decide (0 < l0.length) = true := decide_eq_true (by omega); clear c3; have H' := Aside0.mk H; clear H; have p108 : 0 ≤ (0 : Int) := (by omega); have q108 : 0 < (l0.length : Int) := of_decide_eq_true aO; obtain ⟨ad108, e108, hx108_0⟩ := Kd.at_int HR0.out 0 p108 q108; cases e108; have qi108 : (0 < l0.length) = True := eq_true (by omega)
   (try rw [show ((0 : Int)).toNat = 0 from rfl] at hx108_0)
   (try rw [Addr.add_zero'] at hx108_0)
   replace p108 := eq_true p108; replace q108 := eq_true q108
   go_enter Try.func40, Try.ntmps40
   go_wp2
   go_loopg [3, 4] k (fun kq v3 v4 w' => ∃ (x3_1 : Int) (x4_1 : Int), v3 = .int .i64 x3_1 ∧ v4 = .int .i64 x4_1 ∧ Aside0 (slices_Max_int_int.l0 kq l0 x3_1 x4_1 = some r) ∧ Aside0 (kq ≤ k) ∧ Aside0 (Below w.heap.size w w'))
   case atStart => exact ⟨(rd l0 0), (1), sI, sI, H', ⟨Nat.le_refl _⟩, ⟨bO HB.out⟩⟩
   case round =>
    clear H'
    try clear p1
    try clear q1
    try clear hx1
    try clear qi1
    try clear c2
    try clear c2b0
    try clear c2b1
    try clear p2
    try clear c3
    try clear c3b0
    try clear c3b1
    try clear hx108_0
    try clear p108
    try clear q108
    obtain ⟨x3_1, x4_1, rfl, rfl, HA, HK1, HB⟩ := hrel; cases gk with
    | zero => exact absurd HA.out (by simp [slices_Max_int_int.l0])
    | succ k1 =>
     have H := HA.out; clear HA; simp only [slices_Max_int_int.l0] at H
     by_cases c4 : x4_1 < (l0.length : Int)
     ·rw [if_pos c4] at H; have c4b0 := decide_eq_true c4; clear c4
      by_cases c5 : 0 ≤ x4_1
      ·rw [if_pos c5] at H; have c5b0 := decide_eq_true c5; clear c5; obtain ⟨ji6, hji6⟩ : ∃ j_ : Int, (mx x3_1 (rd l0 x4_1)) = j_ := ⟨_, rfl⟩
       replace H : (slices_Max_int_int.l0 k1 l0 ji6 (wrap64 (x4_1 + 1))) = some r := by first | (rw [hji6] at H; exact H) | (simp only [hji6] at H ⊢; exact H)
       have hji6_ : (if x3_1 < (rd l0 x4_1) then (rd l0 x4_1) else x3_1) = ji6 := hji6; have H' := Aside0.mk H; clear H; have p109 : 0 ≤ (x4_1 : Int) := of_decide_eq_true aO; have q109 : x4_1 < (l0.length : Int) := of_decide_eq_true aO; obtain ⟨ad109, e109, hx109_0⟩ := Kd.at_int HR0.out x4_1 p109 q109; have he_ : ad108 = ad109 := (by injection e109); subst he_; replace hx109_0 := cX HB hx109_0; replace p109 := eq_true p109; replace q109 := eq_true q109
       go_wp2
       go_roundg k1
       case measure => have := HK1.out; omega
       case rel => exact ⟨(ji6), (wrap64 (x4_1 + 1)), (by first | rfl | (simp; done) | (simp only [← hji6] <;> (first | rfl | simp)) | (simp [*]; done)), sI, H', ⟨by have := HK1.out; omega⟩, ⟨bO HB.out⟩⟩
      ·rw [if_neg c5] at H; exact absurd H (by simp)
     ·rw [if_neg c4] at H; have c4b0 := decide_eq_false c4; clear c4; obtain rfl := Option.some.inj H
      go_wp2
      go_ret
      exact ⟨eW, bO HB.out⟩
  ·rw [if_neg c3] at H; exact absurd H (by simp)

end Go.Proofs.Ytghfclgcgecgdaa.X
namespace Go.Proofs.Ytghfclgcgecgdaa.X
open Go.RowKit Go.Proofs.YtghfclgcgecgdaaW.PrintWords Go.Proofs.YtghfclgcgecgdaaW.PrintLast Go.Proofs.YtghfclgcgecgdaaW.PrintMore
attribute [local go_sem] max2_int min2_int max_two min_two max_three min_three max_four min_four
set_option linter.unusedVariables false
set_option linter.unusedSimpArgs false

/-! ### table_Right: function 15 -/
mutual
def table_Right.j0 : Nat → Int → Bool → List ByteArray → List Bool → List (List Int) → Option (Int)
 | 0, _, _, _, _, _ => none
 | k + 1, x3, x20, x111000, x111001, x111002 => if x20 = true then (some 3) else (table_Right.l0 k x3 x111002 (x111002.length : Int) 0 x111000 x111001 x111002)
def table_Right.l0 : Nat → Int → List (List Int) → Int → Int → List ByteArray → List Bool → List (List Int) → Option (Int)
 | 0, _, _, _, _, _, _, _ => none
 | k + 1, x3, x22, x23, x24, x111000, x111001, x111002 => if x24 < x23 then (if 0 ≤ x24 then (if x24 < (x22.length : Int) then (if ((rd_L2 x22 x24).length : Int) = (shl .i64 1 (x111000.length : Int)) then ((slices_Min_int_int.f k (rd_L2 x22 x24)).bind fun t113 => (if t113 < 0 then (some 3) else ((slices_Max_int_int.f k (rd_L2 x22 x24)).bind fun t114 => (if t114 ≥ x3 then (some 3) else (table_Right.l0 k x3 x22 x23 (wrap64 (x24 + 1)) x111000 x111001 x111002))))) else (some 3)) else (none)) else (none)) else (some 0)
end
def table_Right.f (k : Nat) (l0_0 : List ByteArray) (l0_1 : List Bool) (l0_2 : List (List Int)) : Option (Int) := (table_tracks.f k l0_0 (l0_1.length : Int)).bind fun t111 => (if t111 = true then (table_Right.j0 k (l0_1.length : Int) ((l0_2.length : Int) != (l0_1.length : Int)) l0_0 l0_1 l0_2) else (table_Right.j0 k (l0_1.length : Int) true l0_0 l0_1 l0_2))
theorem table_Right.mono_l : ∀ k, (∀ y0 y1 y2 y3 y4, LeO (table_Right.j0 k y0 y1 y2 y3 y4) (table_Right.j0 (k + 1) y0 y1 y2 y3 y4)) ∧ (∀ y0 y1 y2 y3 y4 y5 y6, LeO (table_Right.l0 k y0 y1 y2 y3 y4 y5 y6) (table_Right.l0 (k + 1) y0 y1 y2 y3 y4 y5 y6))
 | 0 => ⟨fun _ _ _ _ _ r h => by simp [table_Right.j0] at h, fun _ _ _ _ _ _ _ r h => by simp [table_Right.l0] at h⟩
 | k + 1 => by
  obtain ⟨ih0, ih1⟩ := table_Right.mono_l k; refine ⟨?_, ?_⟩
  ·intro y0 y1 y2 y3 y4
   unfold table_Right.j0
   repeat' first | (with_reducible first | exact ih0 _ _ _ _ _ | exact ih1 _ _ _ _ _ _ _ | exact slices_Max_int_int.mono _ _ | exact slices_Min_int_int.mono _ _ | exact table_tracks.mono _ _ _ | exact lA | apply lI | refine lB ?_ fun _ => ?_) | exact lN _ | apply lI | refine lB ?_ fun _ => ?_
  ·intro y0 y1 y2 y3 y4 y5 y6
   unfold table_Right.l0
   repeat' first | (with_reducible first | exact ih0 _ _ _ _ _ | exact ih1 _ _ _ _ _ _ _ | exact slices_Max_int_int.mono _ _ | exact slices_Min_int_int.mono _ _ | exact table_tracks.mono _ _ _ | exact lA | apply lI | refine lB ?_ fun _ => ?_) | exact lN _ | apply lI | refine lB ?_ fun _ => ?_
theorem table_Right.mono : ∀ a0 a1 a2 k, LeO (table_Right.f k a0 a1 a2) (table_Right.f (k + 1) a0 a1 a2) := by
 intro a0 a1 a2 k; obtain ⟨ih0, ih1⟩ := table_Right.mono_l k
 unfold table_Right.f
 repeat' first | (with_reducible first | exact ih0 _ _ _ _ _ | exact ih1 _ _ _ _ _ _ _ | exact slices_Max_int_int.mono _ _ | exact slices_Min_int_int.mono _ _ | exact table_tracks.mono _ _ _ | exact lA | apply lI | refine lB ?_ fun _ => ?_) | exact lN _ | apply lI | refine lB ?_ fun _ => ?_
set_option maxHeartbeats 8000000 in
set_option maxRecDepth 100000 in
theorem table_Right.calls (k : Nat) (A0_0 : Option Addr) (c0_0 : Nat) (l0_0 : List ByteArray) (A0_1 : Option Addr) (c0_1 : Nat) (l0_1 : List Bool) (A0_2 : Option Addr) (c0_2 : Nat) (l0_2 : List (List Int)) (r : Int) (w : World) (hr0_0 : Kd.C Kd.string w A0_0 l0_0.length l0_0) (hc0_0 : l0_0.length ≤ c0_0) (hr0_1 : Kd.C Kd.bool w A0_1 l0_1.length l0_1) (hc0_1 : l0_1.length ≤ c0_1) (hr0_2 : Kd.C (Kd.slice 3 (Kd.int .i64)) w A0_2 l0_2.length l0_2) (hc0_2 : l0_2.length ≤ c0_2) (h : table_Right.f k l0_0 l0_1 l0_2 = some r) :
  Calls Try.prog 15 #[.agg #[.slice A0_0 l0_0.length c0_0, .slice A0_1 l0_1.length c0_1, .slice A0_2 l0_2.length c0_2]] w fun e w' => e = .returned (.int .i64 r) ∧ Below w.heap.size w w' := by
 have hu26 := Try.underlying26; have HR0_0 := Aside0.mk hr0_0; have HC0_0 := Aside0.mk hc0_0; clear hr0_0 hc0_0; have HR0_1 := Aside0.mk hr0_1; have HC0_1 := Aside0.mk hc0_1; clear hr0_1 hc0_1; have HR0_2 := Aside0.mk hr0_2; have HC0_2 := Aside0.mk hc0_2; clear hr0_2 hc0_2; have HB := Aside0.mk (Below.refl w.heap.size w); have H : ((table_tracks.f k l0_0 (l0_1.length : Int)).bind fun t111 => (if t111 = true then (table_Right.j0 k (l0_1.length : Int) ((l0_2.length : Int) != (l0_1.length : Int)) l0_0 l0_1 l0_2) else (table_Right.j0 k (l0_1.length : Int) true l0_0 l0_1 l0_2))) = some r := h; clear h; have HC2 := Aside0.mk H; clear H
 go_enter Try.func15, Try.ntmps15
 go_upto_region 2 with (first | ((with_reducible refine gate_dst (N := 1) rfl ?_); (try (refine gate_guard (by rfl) ?_; dsimp only)); refine be_ (cs := #[.slice A0_0 l0_0.length c0_0, .slice A0_1 l0_1.length c0_1, .slice A0_2 l0_2.length c0_2]) (t := 26) ?_; intro gb110 hg w3 hbox hb; have BK110 := Aside0.mk (hbox); have GW110 := gE hg (bO HB.out); have GE110 := gE hg (bO HB.out); replace HB := hS0 HB hb; clear hb hbox hg; obtain ⟨hcz4_0, hcz4_1, hcz4_2, hfz4_0, hfz4_1, hfz4_2⟩ := bF3 BK110.out))
 (try simp only [Act.put, sA, sB, sC])
 go_cut [20] (fun v20 wc => ∃ (kq : Nat) (x20_1 : Bool), v20 = .bool x20_1 ∧ Aside0 (table_Right.j0 kq (l0_1.length : Int) x20_1 l0_0 l0_1 l0_2 = some r) ∧ Aside0 (kq ≤ k) ∧ Aside0 (wc.heap[gb110]? = some (.cells #[(.slice A0_0 l0_0.length c0_0), (.slice A0_1 l0_1.length c0_1), (.slice A0_2 l0_2.length c0_2)] 26 (0, 0))) ∧ Aside0 (Below w.heap.size w wc))
 case first =>
  have H := HC2.out; clear HC2; replace H := Option.bind_eq_some_iff.mp H; obtain ⟨t111, A50, H⟩ := H; replace H : (if t111 = true then (table_Right.j0 k (l0_1.length : Int) ((l0_2.length : Int) != (l0_1.length : Int)) l0_0 l0_1 l0_2) else (table_Right.j0 k (l0_1.length : Int) true l0_0 l0_1 l0_2)) = some r := H; have A5 := Aside0.mk A50; clear A50
  by_cases c6 : t111 = true
  ·subst c6
   have H1 : (table_Right.j0 k (l0_1.length : Int) ((l0_2.length : Int) != (l0_1.length : Int)) l0_0 l0_1 l0_2) = some r := by rw [if_pos rfl] at H; exact H
   clear H; have H := H1; clear H1; have H' := Aside0.mk H; clear H; obtain ⟨hcz7_0, hcz7_1, hcz7_2, hfz7_0, hfz7_1, hfz7_2⟩ := bF3 BK110.out
   go_wp2_with (first | ((with_reducible refine gate_callee (f := 38) rfl ?_); refine gL_ (some 12) Try.func38 #[.slice A0_0 l0_0.length c0_0, .int .i64 (l0_1.length : Int)] ?_; (with_reducible refine (table_tracks.calls k _ _ l0_0 (l0_1.length : Int) true _ ?s1 ?s2 A5.out).mono ?_); (case s1 => exact cB HR0_0 HB); (case s2 => exact HC0_0.out); rintro e w8 ⟨rfl, hb⟩; refine ⟨_, rfl, ?_⟩; replace BK110 := kB BK110 hb; replace HB := hS1 HB GE110 hb; (try clear hb); (try clear hb2); (try clear hk); (try clear hi); obtain ⟨hcz9_0, hcz9_1, hcz9_2, hfz9_0, hfz9_1, hfz9_2⟩ := bF3 BK110.out))
   go_meet
   case rel => exact ⟨_, (((l0_2.length : Int) != (l0_1.length : Int))), sI, H', ⟨by first | omega | exact Nat.le_refl _⟩, ⟨kO BK110.out⟩, ⟨bS1 HB.out GE110.out⟩⟩
  ·replace c6 := Bool.eq_false_iff.mpr c6; subst c6
   have H1 : (table_Right.j0 k (l0_1.length : Int) true l0_0 l0_1 l0_2) = some r := by rw [if_neg (show ¬ (false = true) by decide)] at H; exact H
   clear H; have H := H1; clear H1; have H' := Aside0.mk H; clear H; obtain ⟨hcz10_0, hcz10_1, hcz10_2, hfz10_0, hfz10_1, hfz10_2⟩ := bF3 BK110.out
   go_wp2_with (first | ((with_reducible refine gate_callee (f := 38) rfl ?_); refine gL_ (some 12) Try.func38 #[.slice A0_0 l0_0.length c0_0, .int .i64 (l0_1.length : Int)] ?_; (with_reducible refine (table_tracks.calls k _ _ l0_0 (l0_1.length : Int) false _ ?s1 ?s2 A5.out).mono ?_); (case s1 => exact cB HR0_0 HB); (case s2 => exact HC0_0.out); rintro e w11 ⟨rfl, hb⟩; refine ⟨_, rfl, ?_⟩; replace BK110 := kB BK110 hb; replace HB := hS1 HB GE110 hb; (try clear hb); (try clear hb2); (try clear hk); (try clear hi)))
   go_meet
   case rel => exact ⟨_, (true), sI, H', ⟨by first | omega | exact Nat.le_refl _⟩, ⟨kO BK110.out⟩, ⟨bS1 HB.out GE110.out⟩⟩
 case rest =>
  clear HC2
  try clear c1
  try clear p2
  try clear c3
  try clear c6
  try clear hcz10_0
  try clear hcz10_1
  try clear hcz10_2
  try clear hcz4_0
  try clear hcz4_1
  try clear hcz4_2
  try clear hcz7_0
  try clear hcz7_1
  try clear hcz7_2
  try clear hcz9_0
  try clear hcz9_1
  try clear hcz9_2
  try clear hfz10_0
  try clear hfz10_1
  try clear hfz10_2
  try clear hfz4_0
  try clear hfz4_1
  try clear hfz4_2
  try clear hfz7_0
  try clear hfz7_1
  try clear hfz7_2
  try clear hfz9_0
  try clear hfz9_1
  try clear hfz9_2
  obtain ⟨kq, x20_1, rfl, HA, HJ1, BK110, HB⟩ := hcut; cases kq with
  | zero => exact absurd HA.out (by simp [table_Right.j0])
  | succ kj1 =>
   have H := HA.out; clear HA; simp only [table_Right.j0] at H
   by_cases c12 : x20_1 = true
   ·subst c12
    have H1 : (some 3) = some r := by rw [if_pos rfl] at H; exact H
    clear H; have H := H1; clear H1; obtain rfl := Option.some.inj H
    go_wp2
    go_ret
    exact ⟨eW, bS1 HB.out GE110.out⟩
   ·replace c12 := Bool.eq_false_iff.mpr c12; subst c12
    have H1 : (table_Right.l0 kj1 (l0_1.length : Int) l0_2 (l0_2.length : Int) 0 l0_0 l0_1 l0_2) = some r := by rw [if_neg (show ¬ (false = true) by decide)] at H; exact H
    clear H; have H := H1; clear H1; have H' := Aside0.mk H; clear H; obtain ⟨hcz13_0, hcz13_1, hcz13_2, hfz13_0, hfz13_1, hfz13_2⟩ := bF3 BK110.out
    go_wp2
    go_loopg [24] kj1 (fun kq v24 w' => ∃ (x24_2 : Int), v24 = .int .i64 x24_2 ∧ Aside0 (table_Right.l0 kq (l0_1.length : Int) l0_2 (l0_2.length : Int) x24_2 l0_0 l0_1 l0_2 = some r) ∧ Aside0 (kq ≤ kj1) ∧ Aside0 (w'.heap[gb110]? = some (.cells #[(.slice A0_0 l0_0.length c0_0), (.slice A0_1 l0_1.length c0_1), (.slice A0_2 l0_2.length c0_2)] 26 (0, 0))) ∧ Aside0 (Below w.heap.size w w'))
    case atStart => exact ⟨(0), sI, H', ⟨Nat.le_refl _⟩, ⟨kO BK110.out⟩, ⟨bS1 HB.out GE110.out⟩⟩
    case round =>
     clear H'
     try clear c1
     try clear p2
     try clear c3
     try clear c6
     try clear c12
     try clear hcz10_0
     try clear hcz10_1
     try clear hcz10_2
     try clear hcz13_0
     try clear hcz13_1
     try clear hcz13_2
     try clear hcz4_0
     try clear hcz4_1
     try clear hcz4_2
     try clear hcz7_0
     try clear hcz7_1
     try clear hcz7_2
     try clear hcz9_0
     try clear hcz9_1
     try clear hcz9_2
     try clear hfz10_0
     try clear hfz10_1
     try clear hfz10_2
     try clear hfz13_0
     try clear hfz13_1
     try clear hfz13_2
     try clear hfz4_0
     try clear hfz4_1
     try clear hfz4_2
     try clear hfz7_0
     try clear hfz7_1
     try clear hfz7_2
     try clear hfz9_0
     try clear hfz9_1
     try clear hfz9_2
     try clear p2
     obtain ⟨x24_2, rfl, HA, HK2, BK110, HB⟩ := hrel; cases gk with
     | zero => exact absurd HA.out (by simp [table_Right.l0])
     | succ k2 =>
      have H := HA.out; clear HA; simp only [table_Right.l0] at H
      by_cases c14 : x24_2 < (l0_2.length : Int)
      ·rw [if_pos c14] at H; have c14b0 := decide_eq_true c14; clear c14
       by_cases c15 : 0 ≤ x24_2
       ·rw [if_pos c15] at H; have c15b0 := decide_eq_true c15; clear c15
        by_cases c16 : x24_2 < (l0_2.length : Int)
        ·rw [if_pos c16] at H; have c16b0 := decide_eq_true c16; clear c16; obtain ⟨ji17, hji17⟩ : ∃ j_ : Int, (shl .i64 1 (l0_0.length : Int)) = j_ := ⟨_, rfl⟩
         replace H : (if ((rd_L2 l0_2 x24_2).length : Int) = (ji17) then ((slices_Min_int_int.f k2 (rd_L2 l0_2 x24_2)).bind fun t113 => (if t113 < 0 then (some 3) else ((slices_Max_int_int.f k2 (rd_L2 l0_2 x24_2)).bind fun t114 => (if t114 ≥ (l0_1.length : Int) then (some 3) else (table_Right.l0 k2 (l0_1.length : Int) l0_2 (l0_2.length : Int) (wrap64 (x24_2 + 1)) l0_0 l0_1 l0_2))))) else (some 3)) = some r := by first | (rw [hji17] at H; exact H) | (simp only [hji17] at H ⊢; exact H)
         have hji17_ : (IntKind.i64.wrap (1 * 2 ^ min (l0_0.length : Int).toNat 64)) = ji17 := hji17; have hji17z : (l0_0.length : Int) ≤ 64 → (IntKind.i64.wrap (1 * 2 ^ (l0_0.length : Int).toNat)) = ji17 := shl_small hji17; have hji17p : (IntKind.i64.wrap (1 * 2 ^ min l0_0.length 64)) = ji17 := hji17_; have hji17q : (l0_0.length : Int) ≤ 64 → (IntKind.i64.wrap (1 * 2 ^ l0_0.length)) = ji17 := hji17z
         have hji17r : (IntKind.i64.wrap (2 ^ min l0_0.length 64)) = ji17 := by have h_ := hji17p; rw [Int.one_mul] at h_; exact h_
         have hji17s : (l0_0.length : Int) ≤ 64 → (IntKind.i64.wrap (2 ^ l0_0.length)) = ji17 := fun hle_ => by have h_ := hji17q hle_; rw [Int.one_mul] at h_; exact h_
         have hji17u : (IntKind.i64.wrap (2 ^ min (l0_0.length : Int).toNat 64)) = ji17 := by have h_ := hji17_; rw [Int.one_mul] at h_; exact h_
         have hji17v : (l0_0.length : Int) ≤ 64 → (IntKind.i64.wrap (2 ^ (l0_0.length : Int).toNat)) = ji17 := fun hle_ => by have h_ := hji17z hle_; rw [Int.one_mul] at h_; exact h_
         have hji17y : (wrap64 (1 * 2 ^ min (l0_0.length : Int).toNat 64)) = ji17 := (i64_w _).symm.trans hji17_
         have hji17x : (l0_0.length : Int) ≤ 64 → (wrap64 (1 * 2 ^ (l0_0.length : Int).toNat)) = ji17 := fun h_ => (i64_w _).symm.trans (hji17z h_)
         by_cases c18 : ((rd_L2 l0_2 x24_2).length : Int) = (ji17)
         ·rw [if_pos c18] at H; obtain ⟨c18b0, c18b1⟩ := bq c18; clear c18; replace H := Option.bind_eq_some_iff.mp H; obtain ⟨t113, A190, H⟩ := H; replace H : (if t113 < 0 then (some 3) else ((slices_Max_int_int.f k2 (rd_L2 l0_2 x24_2)).bind fun t114 => (if t114 ≥ (l0_1.length : Int) then (some 3) else (table_Right.l0 k2 (l0_1.length : Int) l0_2 (l0_2.length : Int) (wrap64 (x24_2 + 1)) l0_0 l0_1 l0_2)))) = some r := H; have A19 := Aside0.mk A190; clear A190
          by_cases c20 : t113 < 0
          ·rw [if_pos c20] at H; have c20b0 := decide_eq_true c20; clear c20; obtain rfl := Option.some.inj H; have p112 : 0 ≤ (x24_2 : Int) := of_decide_eq_true aO; have q112 : x24_2 < (l0_2.length : Int) := of_decide_eq_true aO; obtain ⟨ad112, A112_0, c112_0, e112, hx112_0, hl112_0, hi112_0⟩ := at_L2 HR0_2.out x24_2 p112 q112; cases e112; replace hx112_0 := cX HB hx112_0; have HR112_0 := Aside0.mk hi112_0; have HC112_0 := Aside0.mk hl112_0; clear hi112_0 hl112_0; replace p112 := eq_true p112; replace q112 := eq_true q112; obtain ⟨hcz21_0, hcz21_1, hcz21_2, hfz21_0, hfz21_1, hfz21_2⟩ := bF3 BK110.out
           go_wp2_with (first | (go_at_call 39; (with_reducible refine (slices_Min_int_int.calls k2 _ _ (rd_L2 l0_2 x24_2) t113 _ ?s1 ?s2 A19.out).mono ?_); (case s1 => exact cB HR112_0 HB); (case s2 => exact HC112_0.out); rintro e w22 ⟨rfl, hb⟩; replace BK110 := kB BK110 hb; replace HB := hS1 HB GE110 hb; (try clear hb); (try clear hb2); (try clear hk); (try clear hi)))
           go_ret
           exact ⟨by first | rfl | (simp [errW_none, errW_some] <;> rfl) | (simp only [← hji17]; first | rfl | (simp [errW_none, errW_some] <;> rfl)) | (simp [*, errW_none, errW_some] <;> rfl), bS1 HB.out GE110.out⟩
          ·rw [if_neg c20] at H; have c20b0 := decide_eq_false c20; clear c20; replace H := Option.bind_eq_some_iff.mp H; obtain ⟨t114, A230, H⟩ := H; replace H : (if t114 ≥ (l0_1.length : Int) then (some 3) else (table_Right.l0 k2 (l0_1.length : Int) l0_2 (l0_2.length : Int) (wrap64 (x24_2 + 1)) l0_0 l0_1 l0_2)) = some r := H; have A23 := Aside0.mk A230; clear A230
           by_cases c24 : t114 ≥ (l0_1.length : Int)
           ·rw [if_pos c24] at H; have c24b0 := decide_eq_true c24; clear c24; obtain rfl := Option.some.inj H; have p112 : 0 ≤ (x24_2 : Int) := of_decide_eq_true aO; have q112 : x24_2 < (l0_2.length : Int) := of_decide_eq_true aO; obtain ⟨ad112, A112_0, c112_0, e112, hx112_0, hl112_0, hi112_0⟩ := at_L2 HR0_2.out x24_2 p112 q112; cases e112; replace hx112_0 := cX HB hx112_0; have HR112_0 := Aside0.mk hi112_0; have HC112_0 := Aside0.mk hl112_0; clear hi112_0 hl112_0; replace p112 := eq_true p112; replace q112 := eq_true q112; obtain ⟨hcz25_0, hcz25_1, hcz25_2, hfz25_0, hfz25_1, hfz25_2⟩ := bF3 BK110.out
            go_wp2_with (first | (go_at_call 39; (with_reducible refine (slices_Min_int_int.calls k2 _ _ (rd_L2 l0_2 x24_2) t113 _ ?s1 ?s2 A19.out).mono ?_); (case s1 => exact cB HR112_0 HB); (case s2 => exact HC112_0.out); rintro e w26 ⟨rfl, hb⟩; replace BK110 := kB BK110 hb; replace HB := hS1 HB GE110 hb; (try clear hb); (try clear hb2); (try clear hk); (try clear hi)) | (go_at_call 40; (with_reducible refine (slices_Max_int_int.calls k2 _ _ (rd_L2 l0_2 x24_2) t114 _ ?s1 ?s2 A23.out).mono ?_); (case s1 => exact cB HR112_0 HB); (case s2 => exact HC112_0.out); rintro e w27 ⟨rfl, hb⟩; replace BK110 := kB BK110 hb; replace HB := hS1 HB GE110 hb; (try clear hb); (try clear hb2); (try clear hk); (try clear hi)))
            go_ret
            exact ⟨by first | rfl | (simp [errW_none, errW_some] <;> rfl) | (simp only [← hji17]; first | rfl | (simp [errW_none, errW_some] <;> rfl)) | (simp [*, errW_none, errW_some] <;> rfl), bS1 HB.out GE110.out⟩
           ·rw [if_neg c24] at H; have c24b0 := decide_eq_false c24; clear c24; have H' := Aside0.mk H; clear H; have p112 : 0 ≤ (x24_2 : Int) := of_decide_eq_true aO; have q112 : x24_2 < (l0_2.length : Int) := of_decide_eq_true aO; obtain ⟨ad112, A112_0, c112_0, e112, hx112_0, hl112_0, hi112_0⟩ := at_L2 HR0_2.out x24_2 p112 q112; cases e112; replace hx112_0 := cX HB hx112_0; have HR112_0 := Aside0.mk hi112_0; have HC112_0 := Aside0.mk hl112_0; clear hi112_0 hl112_0; replace p112 := eq_true p112; replace q112 := eq_true q112; obtain ⟨hcz28_0, hcz28_1, hcz28_2, hfz28_0, hfz28_1, hfz28_2⟩ := bF3 BK110.out
            go_wp2_with (first | (go_at_call 39; (with_reducible refine (slices_Min_int_int.calls k2 _ _ (rd_L2 l0_2 x24_2) t113 _ ?s1 ?s2 A19.out).mono ?_); (case s1 => exact cB HR112_0 HB); (case s2 => exact HC112_0.out); rintro e w29 ⟨rfl, hb⟩; replace BK110 := kB BK110 hb; replace HB := hS1 HB GE110 hb; (try clear hb); (try clear hb2); (try clear hk); (try clear hi)) | (go_at_call 40; (with_reducible refine (slices_Max_int_int.calls k2 _ _ (rd_L2 l0_2 x24_2) t114 _ ?s1 ?s2 A23.out).mono ?_); (case s1 => exact cB HR112_0 HB); (case s2 => exact HC112_0.out); rintro e w30 ⟨rfl, hb⟩; replace BK110 := kB BK110 hb; replace HB := hS1 HB GE110 hb; (try clear hb); (try clear hb2); (try clear hk); (try clear hi)))
            go_roundg k2
            case measure => have := HJ1.out; have := HK2.out; omega
            case rel => exact ⟨(wrap64 (x24_2 + 1)), sI, H', ⟨by have := HJ1.out; have := HK2.out; omega⟩, ⟨kO BK110.out⟩, ⟨bS1 HB.out GE110.out⟩⟩
         ·rw [if_neg c18] at H; obtain ⟨c18b0, c18b1⟩ := bn c18; obtain rfl := Option.some.inj H; have p112 : 0 ≤ (x24_2 : Int) := of_decide_eq_true aO; have q112 : x24_2 < (l0_2.length : Int) := of_decide_eq_true aO; obtain ⟨ad112, A112_0, c112_0, e112, hx112_0, hl112_0, hi112_0⟩ := at_L2 HR0_2.out x24_2 p112 q112; cases e112; replace hx112_0 := cX HB hx112_0; have HR112_0 := Aside0.mk hi112_0; have HC112_0 := Aside0.mk hl112_0; clear hi112_0 hl112_0; replace p112 := eq_true p112; replace q112 := eq_true q112; obtain ⟨hcz31_0, hcz31_1, hcz31_2, hfz31_0, hfz31_1, hfz31_2⟩ := bF3 BK110.out
          go_wp2
          go_ret
          exact ⟨by first | rfl | (simp [errW_none, errW_some] <;> rfl) | (simp only [← hji17]; first | rfl | (simp [errW_none, errW_some] <;> rfl)) | (simp [*, errW_none, errW_some] <;> rfl), bS1 HB.out GE110.out⟩
        ·rw [if_neg c16] at H; exact absurd H (by simp)
       ·rw [if_neg c15] at H; exact absurd H (by simp)
      ·rw [if_neg c14] at H; have c14b0 := decide_eq_false c14; clear c14; obtain rfl := Option.some.inj H
       go_wp2
       go_ret
       exact ⟨eW, bS1 HB.out GE110.out⟩

end Go.Proofs.Ytghfclgcgecgdaa.X

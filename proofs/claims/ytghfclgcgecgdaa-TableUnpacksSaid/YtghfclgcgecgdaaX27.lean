/- What the functions of this seat compute, and that the program's calls come to just that: written by this session's own program out of the translation; no condition. -/
import Derived.Test.YtghfclgcgecgdaaX0
namespace Go.Proofs.Ytghfclgcgecgdaa.X
open Go.RowKit Go.Proofs.YtghfclgcgecgdaaW.PrintWords Go.Proofs.YtghfclgcgecgdaaW.PrintLast Go.Proofs.YtghfclgcgecgdaaW.PrintMore
attribute [local go_sem] max2_int min2_int max_two min_two max_three min_three max_four min_four
set_option linter.unusedVariables false
set_option linter.unusedSimpArgs false

/-! ### tabardref04_Read: function 72 -/
mutual
def tabardref04_Read.j2 : Nat → ByteArray → Int → Int → Int → Int → Option (Int × Int × Bool)
 | 0, _, _, _, _, _ => none
 | k + 1, x0, x1, x7, x8, x9 => if (wrap64 ((x0.size : Int) - x1)) < x8 then (some (65533, 1, false)) else (tabardref04_Read.l0 k x0 x1 x7 x8 x9 1)
def tabardref04_Read.l0 : Nat → ByteArray → Int → Int → Int → Int → Int → Option (Int × Int × Bool)
 | 0, _, _, _, _, _, _ => none
 | k + 1, x0, x1, x7, x8, x9, x10 => if x10 < x8 then (if 0 ≤ (wrap64 (x1 + x10)) then (if (wrap64 (x1 + x10)) < (x0.size : Int) then (if (wrap64 (bt x0 (wrap64 (x1 + x10)))) < 128 then (some (65533, 1, false)) else (if (wrap64 (bt x0 (wrap64 (x1 + x10)))) > 191 then (some (65533, 1, false)) else (tabardref04_Read.l0 k x0 x1 (wrap64 ((wrap64 ((wrap64 (x7 * 64)) + (wrap64 (bt x0 (wrap64 (x1 + x10)))))) - 128)) x8 x9 (wrap64 (x10 + 1))))) else (none)) else (none)) else (if x7 < x9 then (some (65533, 1, false)) else (if x7 > 1114111 then (some (65533, 1, false)) else (if x7 ≥ 55296 then (if x7 ≤ 57343 then (some (65533, 1, false)) else (some (x7, x8, true))) else (some (x7, x8, true)))))
def tabardref04_Read.j0 : Nat → ByteArray → Int → Int → Bool → Option (Int × Int × Bool)
 | 0, _, _, _, _ => none
 | k + 1, x0, x1, x7, x20 => if x20 = true then (tabardref04_Read.j2 k x0 x1 (wrap64 (x7 - 192)) 2 128) else (if x7 ≥ 224 then (tabardref04_Read.j1 k x0 x1 x7 (decide (x7 < 240))) else (tabardref04_Read.j1 k x0 x1 x7 false))
def tabardref04_Read.j1 : Nat → ByteArray → Int → Int → Bool → Option (Int × Int × Bool)
 | 0, _, _, _, _ => none
 | k + 1, x0, x1, x7, x29 => if x29 = true then (tabardref04_Read.j2 k x0 x1 (wrap64 (x7 - 224)) 3 2048) else (if x7 ≥ 240 then (if x7 < 245 then (tabardref04_Read.j2 k x0 x1 (wrap64 (x7 - 240)) 4 65536) else (some (65533, 1, false))) else (some (65533, 1, false)))
end
def tabardref04_Read.f (k : Nat) (a0 : ByteArray) (a1 : Int) : Option (Int × Int × Bool) := if 0 ≤ a1 then (if a1 < (a0.size : Int) then (if (wrap64 (bt a0 a1)) < 128 then (some (wrap64 (bt a0 a1), 1, true)) else (if (wrap64 (bt a0 a1)) ≥ 194 then (tabardref04_Read.j0 k a0 a1 (wrap64 (bt a0 a1)) (decide ((wrap64 (bt a0 a1)) < 224))) else (tabardref04_Read.j0 k a0 a1 (wrap64 (bt a0 a1)) false))) else (none)) else (none)
theorem tabardref04_Read.mono_l : ∀ k, (∀ y0 y1 y2 y3 y4, LeO (tabardref04_Read.j2 k y0 y1 y2 y3 y4) (tabardref04_Read.j2 (k + 1) y0 y1 y2 y3 y4)) ∧ (∀ y0 y1 y2 y3 y4 y5, LeO (tabardref04_Read.l0 k y0 y1 y2 y3 y4 y5) (tabardref04_Read.l0 (k + 1) y0 y1 y2 y3 y4 y5)) ∧ (∀ y0 y1 y2 y3, LeO (tabardref04_Read.j0 k y0 y1 y2 y3) (tabardref04_Read.j0 (k + 1) y0 y1 y2 y3)) ∧ (∀ y0 y1 y2 y3, LeO (tabardref04_Read.j1 k y0 y1 y2 y3) (tabardref04_Read.j1 (k + 1) y0 y1 y2 y3))
 | 0 => ⟨fun _ _ _ _ _ r h => by simp [tabardref04_Read.j2] at h, fun _ _ _ _ _ _ r h => by simp [tabardref04_Read.l0] at h, fun _ _ _ _ r h => by simp [tabardref04_Read.j0] at h, fun _ _ _ _ r h => by simp [tabardref04_Read.j1] at h⟩
 | k + 1 => by
  obtain ⟨ih0, ih1, ih2, ih3⟩ := tabardref04_Read.mono_l k; refine ⟨?_, ?_, ?_, ?_⟩
  ·intro y0 y1 y2 y3 y4
   unfold tabardref04_Read.j2
   repeat' first | (with_reducible first | exact ih0 _ _ _ _ _ | exact ih1 _ _ _ _ _ _ | exact ih2 _ _ _ _ | exact ih3 _ _ _ _ | exact lA | apply lI | refine lB ?_ fun _ => ?_) | exact lN _ | apply lI | refine lB ?_ fun _ => ?_
  ·intro y0 y1 y2 y3 y4 y5
   unfold tabardref04_Read.l0
   repeat' first | (with_reducible first | exact ih0 _ _ _ _ _ | exact ih1 _ _ _ _ _ _ | exact ih2 _ _ _ _ | exact ih3 _ _ _ _ | exact lA | apply lI | refine lB ?_ fun _ => ?_) | exact lN _ | apply lI | refine lB ?_ fun _ => ?_
  ·intro y0 y1 y2 y3
   unfold tabardref04_Read.j0
   repeat' first | (with_reducible first | exact ih0 _ _ _ _ _ | exact ih1 _ _ _ _ _ _ | exact ih2 _ _ _ _ | exact ih3 _ _ _ _ | exact lA | apply lI | refine lB ?_ fun _ => ?_) | exact lN _ | apply lI | refine lB ?_ fun _ => ?_
  ·intro y0 y1 y2 y3
   unfold tabardref04_Read.j1
   repeat' first | (with_reducible first | exact ih0 _ _ _ _ _ | exact ih1 _ _ _ _ _ _ | exact ih2 _ _ _ _ | exact ih3 _ _ _ _ | exact lA | apply lI | refine lB ?_ fun _ => ?_) | exact lN _ | apply lI | refine lB ?_ fun _ => ?_
theorem tabardref04_Read.mono : ∀ a0 a1 k, LeO (tabardref04_Read.f k a0 a1) (tabardref04_Read.f (k + 1) a0 a1) := by
 intro a0 a1 k; obtain ⟨ih0, ih1, ih2, ih3⟩ := tabardref04_Read.mono_l k
 unfold tabardref04_Read.f
 repeat' first | (with_reducible first | exact ih0 _ _ _ _ _ | exact ih1 _ _ _ _ _ _ | exact ih2 _ _ _ _ | exact ih3 _ _ _ _ | exact lA | apply lI | refine lB ?_ fun _ => ?_) | exact lN _ | apply lI | refine lB ?_ fun _ => ?_
set_option maxHeartbeats 8000000 in
set_option maxRecDepth 100000 in
theorem tabardref04_Read.calls (k : Nat) (a0 : ByteArray) (a1 : Int) (r1 : Int) (r2 : Int) (r3 : Bool) (w : World) (h : tabardref04_Read.f k a0 a1 = some (r1, r2, r3)) :
  Calls Try.prog 72 #[.string a0, .int .i64 a1] w fun e w' => e = .returned (.tuple #[.int .i64 r1, .int .i64 r2, .bool r3]) ∧ Drawn0 w w' := by
 have H : (if 0 ≤ a1 then (if a1 < (a0.size : Int) then (if (wrap64 (bt a0 a1)) < 128 then (some (wrap64 (bt a0 a1), 1, true)) else (if (wrap64 (bt a0 a1)) ≥ 194 then (tabardref04_Read.j0 k a0 a1 (wrap64 (bt a0 a1)) (decide ((wrap64 (bt a0 a1)) < 224))) else (tabardref04_Read.j0 k a0 a1 (wrap64 (bt a0 a1)) false))) else (none)) else (none)) = some (r1, r2, r3) := h; clear h
 by_cases c3 : 0 ≤ a1
 ·rw [if_pos c3] at H; have c3b0 := decide_eq_true c3; clear c3
  by_cases c4 : a1 < (a0.size : Int)
  ·rw [if_pos c4] at H; have c4b0 := decide_eq_true c4; clear c4; have HC6 := Aside0.mk H; clear H; have p5 : 0 ≤ (a1 : Int) := of_decide_eq_true aO; have q5 : a1 < (a0.size : Int) := of_decide_eq_true aO; have hx5 := bt_at a0 a1; replace p5 := eq_true p5; replace q5 := eq_true q5
   go_enter Try.func72, Try.ntmps72
   go_upto_block 0 with (fail)
   go_cut [7, 8, 9] (fun v7 v8 v9 wc => ∃ (kq : Nat) (x7_5 : Int) (x8_5 : Int) (x9_5 : Int), v7 = .int .i64 x7_5 ∧ v8 = .int .i64 x8_5 ∧ v9 = .int .i64 x9_5 ∧ Aside0 (tabardref04_Read.j2 kq a0 a1 x7_5 x8_5 x9_5 = some (r1, r2, r3)) ∧ Aside0 (kq ≤ k) ∧ Drawn0 w wc)
   case first =>
    have H := HC6.out; clear HC6
    by_cases c7 : (wrap64 (bt a0 a1)) < 128
    ·rw [if_pos c7] at H; have c7b0 := decide_eq_true c7; clear c7
     (first | rw [c7b0] | (simp only [i64_w, i32_w]; rw [c7b0]) | skip)
     simp only [Option.some.injEq, Prod.mk.injEq] at H; obtain ⟨rfl, rfl, rfl⟩ := H
     go_wp2
     go_ret3
     exact ⟨by first | rfl | (simp; done) | (simp [*]; done), by repeat (first | exact Drawn0.refl _ | apply Drawn0.step)⟩
    ·rw [if_neg c7] at H; have c7b0 := decide_eq_false c7; clear c7
     (first | rw [c7b0] | (simp only [i64_w, i32_w]; rw [c7b0]) | skip)
     have HC8 := Aside0.mk H; clear H
     go_upto_region 6 with (fail)
     go_cut [20] (fun v20 wc => ∃ (kq : Nat) (x20_7 : Bool), v20 = .bool x20_7 ∧ Aside0 (tabardref04_Read.j0 kq a0 a1 (wrap64 (bt a0 a1)) x20_7 = some (r1, r2, r3)) ∧ Aside0 (kq ≤ k) ∧ Drawn0 w wc)
     case first =>
      have H := HC8.out; clear HC8
      by_cases c9 : (wrap64 (bt a0 a1)) ≥ 194
      ·rw [if_pos c9] at H; have c9b0 := decide_eq_true c9; clear c9
       (first | rw [c9b0] | (simp only [i64_w, i32_w]; rw [c9b0]) | skip)
       have H' := Aside0.mk H; clear H
       go_wp2
       go_meet
       case rel => exact ⟨_, (decide ((wrap64 (bt a0 a1)) < 224)), sI, H', ⟨by first | omega | exact Nat.le_refl _⟩, by repeat (first | exact Drawn0.refl _ | apply Drawn0.step)⟩
      ·rw [if_neg c9] at H; have c9b0 := decide_eq_false c9; clear c9
       (first | rw [c9b0] | (simp only [i64_w, i32_w]; rw [c9b0]) | skip)
       have H' := Aside0.mk H; clear H
       go_wp2
       go_meet
       case rel => exact ⟨_, (false), sI, H', ⟨by first | omega | exact Nat.le_refl _⟩, by repeat (first | exact Drawn0.refl _ | apply Drawn0.step)⟩
     case rest =>
      clear HC8
      try clear p2
      try clear c3
      try clear c3b0
      try clear c4
      try clear c4b0
      try clear p5
      try clear q5
      try clear hx5
      try clear p6
      try clear c7
      try clear c7b0
      try clear c9
      try clear c9b0
      try clear p5
      try clear q5
      obtain ⟨kq, x20_7, rfl, HA, HJ7, ⟨mc7, rfl⟩⟩ := hcut; cases kq with
      | zero => exact absurd HA.out (by simp [tabardref04_Read.j0])
      | succ kj7 =>
       have H := HA.out; clear HA; simp only [tabardref04_Read.j0] at H
       by_cases c10 : x20_7 = true
       ·subst c10
        have H1 : (tabardref04_Read.j2 kj7 a0 a1 (wrap64 ((wrap64 (bt a0 a1)) - 192)) 2 128) = some (r1, r2, r3) := by rw [if_pos rfl] at H; exact H
        clear H; have H := H1; clear H1; have H' := Aside0.mk H; clear H
        go_wp2
        go_meet
        case rel => exact ⟨_, (wrap64 ((wrap64 (bt a0 a1)) - 192)), (2), (128), sI, sI, sI, H', ⟨by have := HJ7.out; first | omega | exact Nat.le_refl _⟩, by repeat (first | exact Drawn0.refl _ | apply Drawn0.step)⟩
       ·replace c10 := Bool.eq_false_iff.mpr c10; subst c10
        have H1 : (if (wrap64 (bt a0 a1)) ≥ 224 then (tabardref04_Read.j1 kj7 a0 a1 (wrap64 (bt a0 a1)) (decide ((wrap64 (bt a0 a1)) < 240))) else (tabardref04_Read.j1 kj7 a0 a1 (wrap64 (bt a0 a1)) false)) = some (r1, r2, r3) := by rw [if_neg (show ¬ (false = true) by decide)] at H; exact H
        clear H; have H := H1; clear H1; have HC11 := Aside0.mk H; clear H
        go_upto_region 8 with (fail)
        go_cut [29] (fun v29 wc => ∃ (kq : Nat) (x29_10 : Bool), v29 = .bool x29_10 ∧ Aside0 (tabardref04_Read.j1 kq a0 a1 (wrap64 (bt a0 a1)) x29_10 = some (r1, r2, r3)) ∧ Aside0 (kq ≤ kj7) ∧ Drawn0 w wc)
        case first =>
         have H := HC11.out; clear HC11
         by_cases c12 : (wrap64 (bt a0 a1)) ≥ 224
         ·rw [if_pos c12] at H; have c12b0 := decide_eq_true c12; clear c12
          (first | rw [c12b0] | (simp only [i64_w, i32_w]; rw [c12b0]) | skip)
          have H' := Aside0.mk H; clear H
          go_wp2
          go_meet
          case rel => exact ⟨_, (decide ((wrap64 (bt a0 a1)) < 240)), sI, H', ⟨by have := HJ7.out; first | omega | exact Nat.le_refl _⟩, by repeat (first | exact Drawn0.refl _ | apply Drawn0.step)⟩
         ·rw [if_neg c12] at H; have c12b0 := decide_eq_false c12; clear c12
          (first | rw [c12b0] | (simp only [i64_w, i32_w]; rw [c12b0]) | skip)
          have H' := Aside0.mk H; clear H
          go_wp2
          go_meet
          case rel => exact ⟨_, (false), sI, H', ⟨by have := HJ7.out; first | omega | exact Nat.le_refl _⟩, by repeat (first | exact Drawn0.refl _ | apply Drawn0.step)⟩
        case rest =>
         clear HC11
         try clear c1
         try clear p2
         try clear c3
         try clear c3b0
         try clear c4
         try clear c4b0
         try clear p5
         try clear q5
         try clear hx5
         try clear p6
         try clear c7
         try clear c7b0
         try clear c9
         try clear c9b0
         try clear c10
         try clear c12
         try clear c12b0
         try clear p2
         try clear p5
         try clear p6
         try clear q5
         obtain ⟨kq, x29_10, rfl, HA, HJ10, ⟨mc10, rfl⟩⟩ := hcut; cases kq with
         | zero => exact absurd HA.out (by simp [tabardref04_Read.j1])
         | succ kj10 =>
          have H := HA.out; clear HA; simp only [tabardref04_Read.j1] at H
          by_cases c13 : x29_10 = true
          ·subst c13
           have H1 : (tabardref04_Read.j2 kj10 a0 a1 (wrap64 ((wrap64 (bt a0 a1)) - 224)) 3 2048) = some (r1, r2, r3) := by rw [if_pos rfl] at H; exact H
           clear H; have H := H1; clear H1; have H' := Aside0.mk H; clear H
           go_wp2
           go_meet
           case rel => exact ⟨_, (wrap64 ((wrap64 (bt a0 a1)) - 224)), (3), (2048), sI, sI, sI, H', ⟨by have := HJ7.out; have := HJ10.out; first | omega | exact Nat.le_refl _⟩, by repeat (first | exact Drawn0.refl _ | apply Drawn0.step)⟩
          ·replace c13 := Bool.eq_false_iff.mpr c13; subst c13
           have H1 : (if (wrap64 (bt a0 a1)) ≥ 240 then (if (wrap64 (bt a0 a1)) < 245 then (tabardref04_Read.j2 kj10 a0 a1 (wrap64 ((wrap64 (bt a0 a1)) - 240)) 4 65536) else (some (65533, 1, false))) else (some (65533, 1, false))) = some (r1, r2, r3) := by rw [if_neg (show ¬ (false = true) by decide)] at H; exact H
           clear H; have H := H1; clear H1
           by_cases c14 : (wrap64 (bt a0 a1)) ≥ 240
           ·rw [if_pos c14] at H; have c14b0 := decide_eq_true c14; clear c14
            by_cases c15 : (wrap64 (bt a0 a1)) < 245
            ·rw [if_pos c15] at H; have c15b0 := decide_eq_true c15; clear c15; have H' := Aside0.mk H; clear H
             go_wp2
             go_meet
             case rel => exact ⟨_, (wrap64 ((wrap64 (bt a0 a1)) - 240)), (4), (65536), sI, sI, sI, H', ⟨by have := HJ7.out; have := HJ10.out; first | omega | exact Nat.le_refl _⟩, by repeat (first | exact Drawn0.refl _ | apply Drawn0.step)⟩
            ·rw [if_neg c15] at H; have c15b0 := decide_eq_false c15; clear c15; simp only [Option.some.injEq, Prod.mk.injEq] at H; obtain ⟨rfl, rfl, rfl⟩ := H
             go_wp2
             go_ret3
             exact ⟨by first | rfl | (simp; done) | (simp [*]; done), by repeat (first | exact Drawn0.refl _ | apply Drawn0.step)⟩
           ·rw [if_neg c14] at H; have c14b0 := decide_eq_false c14; clear c14; simp only [Option.some.injEq, Prod.mk.injEq] at H; obtain ⟨rfl, rfl, rfl⟩ := H
            go_wp2
            go_ret3
            exact ⟨by first | rfl | (simp; done) | (simp [*]; done), by repeat (first | exact Drawn0.refl _ | apply Drawn0.step)⟩
   case rest =>
    clear HC6
    try clear c1
    try clear p2
    try clear c3
    try clear c3b0
    try clear c4
    try clear c4b0
    try clear p5
    try clear q5
    try clear hx5
    try clear p6
    try clear c7
    try clear c7b0
    try clear c9
    try clear c9b0
    try clear c10
    try clear c12
    try clear c12b0
    try clear c13
    try clear c14
    try clear c14b0
    try clear c15
    try clear c15b0
    try clear p2
    try clear p5
    try clear p6
    try clear q5
    obtain ⟨kq, x7_5, x8_5, x9_5, rfl, rfl, rfl, HA, HJ5, ⟨mc5, rfl⟩⟩ := hcut; cases kq with
    | zero => exact absurd HA.out (by simp [tabardref04_Read.j2])
    | succ kj5 =>
     have H := HA.out; clear HA; simp only [tabardref04_Read.j2] at H
     by_cases c16 : (wrap64 ((a0.size : Int) - a1)) < x8_5
     ·rw [if_pos c16] at H; have c16b0 := decide_eq_true c16; clear c16; simp only [Option.some.injEq, Prod.mk.injEq] at H; obtain ⟨rfl, rfl, rfl⟩ := H
      go_wp2
      go_ret3
      exact ⟨by first | rfl | (simp; done) | (simp [*]; done), by repeat (first | exact Drawn0.refl _ | apply Drawn0.step)⟩
     ·rw [if_neg c16] at H; have c16b0 := decide_eq_false c16; clear c16; have H' := Aside0.mk H; clear H
      go_wp2
      go_loopg [7, 10] kj5 (fun kq v7 v10 w' => ∃ (x7_2 : Int) (x10_2 : Int), v7 = .int .i64 x7_2 ∧ v10 = .int .i64 x10_2 ∧ Aside0 (tabardref04_Read.l0 kq a0 a1 x7_2 x8_5 x9_5 x10_2 = some (r1, r2, r3)) ∧ Aside0 (kq ≤ kj5) ∧ Drawn0 w w')
      case atStart => exact ⟨(x7_5), (1), sI, sI, H', ⟨Nat.le_refl _⟩, by repeat (first | exact Drawn0.refl _ | apply Drawn0.step)⟩
      case round =>
       clear H'
       try clear c1
       try clear p2
       try clear c3
       try clear c3b0
       try clear c4
       try clear c4b0
       try clear c5
       try clear p5
       try clear q5
       try clear hx5
       try clear p6
       try clear c7
       try clear c7b0
       try clear c9
       try clear c9b0
       try clear c10
       try clear c12
       try clear c12b0
       try clear c13
       try clear c14
       try clear c14b0
       try clear c15
       try clear c15b0
       try clear c16
       try clear c16b0
       try clear p2
       try clear p5
       try clear p6
       try clear q5
       obtain ⟨x7_2, x10_2, rfl, rfl, HA, HK2, ⟨m2, rfl⟩⟩ := hrel; cases gk with
       | zero => exact absurd HA.out (by simp [tabardref04_Read.l0])
       | succ k2 =>
        have H := HA.out; clear HA; simp only [tabardref04_Read.l0] at H
        by_cases c17 : x10_2 < x8_5
        ·rw [if_pos c17] at H; have c17b0 := decide_eq_true c17; clear c17; obtain ⟨ji18, hji18⟩ : ∃ j_ : Int, (wrap64 (a1 + x10_2)) = j_ := ⟨_, rfl⟩
         replace H : (if 0 ≤ (ji18) then (if (ji18) < (a0.size : Int) then (if (wrap64 (bt a0 (ji18))) < 128 then (some (65533, 1, false)) else (if (wrap64 (bt a0 (ji18))) > 191 then (some (65533, 1, false)) else (tabardref04_Read.l0 k2 a0 a1 (wrap64 ((wrap64 ((wrap64 (x7_2 * 64)) + (wrap64 (bt a0 (ji18))))) - 128)) x8_5 x9_5 (wrap64 (x10_2 + 1))))) else (none)) else (none)) = some (r1, r2, r3) := by first | (rw [hji18] at H; exact H) | (simp only [hji18] at H ⊢; exact H)
         have hji18w : (IntKind.i64.wrap (a1 + x10_2)) = ji18 := (i64_w _).trans hji18
         by_cases c19 : 0 ≤ (ji18)
         ·rw [if_pos c19] at H; have c19b0 := decide_eq_true c19; clear c19
          by_cases c20 : (ji18) < (a0.size : Int)
          ·rw [if_pos c20] at H; have c20b0 := decide_eq_true c20; clear c20
           by_cases c22 : (wrap64 (bt a0 (ji18))) < 128
           ·rw [if_pos c22] at H; have c22b0 := decide_eq_true c22; clear c22; simp only [Option.some.injEq, Prod.mk.injEq] at H; obtain ⟨rfl, rfl, rfl⟩ := H; have p21 : 0 ≤ ((ji18) : Int) := of_decide_eq_true aO; have q21 : (ji18) < (a0.size : Int) := of_decide_eq_true aO; have hx21 := bt_at a0 (ji18); replace p21 := eq_true p21; replace q21 := eq_true q21
            go_wp2
            go_ret3
            exact ⟨by first | rfl | (simp; done) | (simp only [← hji18] <;> (first | rfl | simp)) | (simp [*]; done), by repeat (first | exact Drawn0.refl _ | apply Drawn0.step)⟩
           ·rw [if_neg c22] at H; have c22b0 := decide_eq_false c22; clear c22
            by_cases c23 : (wrap64 (bt a0 (ji18))) > 191
            ·rw [if_pos c23] at H; have c23b0 := decide_eq_true c23; clear c23; simp only [Option.some.injEq, Prod.mk.injEq] at H; obtain ⟨rfl, rfl, rfl⟩ := H; have p21 : 0 ≤ ((ji18) : Int) := of_decide_eq_true aO; have q21 : (ji18) < (a0.size : Int) := of_decide_eq_true aO; have hx21 := bt_at a0 (ji18); replace p21 := eq_true p21; replace q21 := eq_true q21
             go_wp2
             go_ret3
             exact ⟨by first | rfl | (simp; done) | (simp only [← hji18] <;> (first | rfl | simp)) | (simp [*]; done), by repeat (first | exact Drawn0.refl _ | apply Drawn0.step)⟩
            ·rw [if_neg c23] at H; have c23b0 := decide_eq_false c23; clear c23; have H' := Aside0.mk H; clear H; have p21 : 0 ≤ ((ji18) : Int) := of_decide_eq_true aO; have q21 : (ji18) < (a0.size : Int) := of_decide_eq_true aO; have hx21 := bt_at a0 (ji18); replace p21 := eq_true p21; replace q21 := eq_true q21
             go_wp2
             go_roundg k2
             case measure => have := HJ5.out; have := HK2.out; omega
             case rel => exact ⟨(wrap64 ((wrap64 ((wrap64 (x7_2 * 64)) + (wrap64 (bt a0 (ji18))))) - 128)), (wrap64 (x10_2 + 1)), (by first | rfl | (simp; done) | (simp only [← hji18] <;> (first | rfl | simp)) | (simp [*]; done)), sI, H', ⟨by have := HJ5.out; have := HK2.out; omega⟩, by repeat (first | exact Drawn0.refl _ | apply Drawn0.step)⟩
          ·rw [if_neg c20] at H; exact absurd H (by simp)
         ·rw [if_neg c19] at H; exact absurd H (by simp)
        ·rw [if_neg c17] at H; have c17b0 := decide_eq_false c17; clear c17
         by_cases c24 : x7_2 < x9_5
         ·rw [if_pos c24] at H; have c24b0 := decide_eq_true c24; clear c24; simp only [Option.some.injEq, Prod.mk.injEq] at H; obtain ⟨rfl, rfl, rfl⟩ := H
          go_wp2
          go_ret3
          exact ⟨by first | rfl | (simp; done) | (simp [*]; done), by repeat (first | exact Drawn0.refl _ | apply Drawn0.step)⟩
         ·rw [if_neg c24] at H; have c24b0 := decide_eq_false c24; clear c24
          by_cases c25 : x7_2 > 1114111
          ·rw [if_pos c25] at H; have c25b0 := decide_eq_true c25; clear c25; simp only [Option.some.injEq, Prod.mk.injEq] at H; obtain ⟨rfl, rfl, rfl⟩ := H
           go_wp2
           go_ret3
           exact ⟨by first | rfl | (simp; done) | (simp [*]; done), by repeat (first | exact Drawn0.refl _ | apply Drawn0.step)⟩
          ·rw [if_neg c25] at H; have c25b0 := decide_eq_false c25; clear c25
           by_cases c26 : x7_2 ≥ 55296
           ·rw [if_pos c26] at H; have c26b0 := decide_eq_true c26; clear c26
            by_cases c27 : x7_2 ≤ 57343
            ·rw [if_pos c27] at H; have c27b0 := decide_eq_true c27; clear c27; simp only [Option.some.injEq, Prod.mk.injEq] at H; obtain ⟨rfl, rfl, rfl⟩ := H
             go_wp2
             go_ret3
             exact ⟨by first | rfl | (simp; done) | (simp [*]; done), by repeat (first | exact Drawn0.refl _ | apply Drawn0.step)⟩
            ·rw [if_neg c27] at H; have c27b0 := decide_eq_false c27; clear c27; simp only [Option.some.injEq, Prod.mk.injEq] at H; obtain ⟨rfl, rfl, rfl⟩ := H
             go_wp2
             go_ret3
             exact ⟨by first | rfl | (simp; done) | (simp [*]; done), by repeat (first | exact Drawn0.refl _ | apply Drawn0.step)⟩
           ·rw [if_neg c26] at H; have c26b0 := decide_eq_false c26; clear c26; simp only [Option.some.injEq, Prod.mk.injEq] at H; obtain ⟨rfl, rfl, rfl⟩ := H
            go_wp2
            go_ret3
            exact ⟨by first | rfl | (simp; done) | (simp [*]; done), by repeat (first | exact Drawn0.refl _ | apply Drawn0.step)⟩
  ·rw [if_neg c4] at H; exact absurd H (by simp)
 ·rw [if_neg c3] at H; exact absurd H (by simp)

end Go.Proofs.Ytghfclgcgecgdaa.X
namespace Go.Proofs.Ytghfclgcgecgdaa.X
open Go.RowKit Go.Proofs.YtghfclgcgecgdaaW.PrintWords Go.Proofs.YtghfclgcgecgdaaW.PrintLast Go.Proofs.YtghfclgcgecgdaaW.PrintMore
attribute [local go_sem] max2_int min2_int max_two min_two max_three min_three max_four min_four
set_option linter.unusedVariables false
set_option linter.unusedSimpArgs false

/-! ### tabardref04_within: function 79 -/
def tabardref04_within.l0 : Nat → Int → List Int → Int → Option (Bool)
 | 0, _, _, _ => none
 | k + 1, x0, x1, x5 => if (wrap64 (x5 + 1)) < (x1.length : Int) then (if 0 ≤ x5 then (if x5 < (x1.length : Int) then (if x0 ≥ (rd x1 x5) then (if 0 ≤ (wrap64 (x5 + 1)) then (if x0 ≤ (rd x1 (wrap64 (x5 + 1))) then (some true) else (tabardref04_within.l0 k x0 x1 (wrap64 (x5 + 2)))) else (none)) else (tabardref04_within.l0 k x0 x1 (wrap64 (x5 + 2)))) else (none)) else (none)) else (some false)
def tabardref04_within.f (k : Nat) (a0 : Int) (l1 : List Int) : Option (Bool) := tabardref04_within.l0 k a0 l1 0
theorem tabardref04_within.mono_l : ∀ k, (∀ y0 y1 y2, LeO (tabardref04_within.l0 k y0 y1 y2) (tabardref04_within.l0 (k + 1) y0 y1 y2))
 | 0 => fun _ _ _ r h => by simp [tabardref04_within.l0] at h
 | k + 1 => by
  have ih0 := tabardref04_within.mono_l k
  ·intro y0 y1 y2
   unfold tabardref04_within.l0
   repeat' first | (with_reducible first | exact ih0 _ _ _ | exact lA | apply lI | refine lB ?_ fun _ => ?_) | exact lN _ | apply lI | refine lB ?_ fun _ => ?_
theorem tabardref04_within.mono : ∀ a0 a1 k, LeO (tabardref04_within.f k a0 a1) (tabardref04_within.f (k + 1) a0 a1) := by
 intro a0 a1 k; have ih0 := tabardref04_within.mono_l k
 unfold tabardref04_within.f
 repeat' first | (with_reducible first | exact ih0 _ _ _ | exact lA | apply lI | refine lB ?_ fun _ => ?_) | exact lN _ | apply lI | refine lB ?_ fun _ => ?_
set_option maxHeartbeats 8000000 in
set_option maxRecDepth 100000 in
theorem tabardref04_within.calls (k : Nat) (a0 : Int) (A1 : Option Addr) (c1 : Nat) (l1 : List Int) (r : Bool) (w : World) (hr1 : Kd.C (Kd.int .i64) w A1 l1.length l1) (hc1 : l1.length ≤ c1) (h : tabardref04_within.f k a0 l1 = some r) :
  Calls Try.prog 79 #[.int .i64 a0, .slice A1 l1.length c1] w fun e w' => e = .returned (.bool r) ∧ Drawn0 w w' := by
 have HR1 := Aside0.mk hr1; have HC1 := Aside0.mk hc1; clear hr1 hc1; have H : (tabardref04_within.l0 k a0 l1 0) = some r := h; clear h; have H' := Aside0.mk H; clear H
 go_enter Try.func79, Try.ntmps79
 go_wp2
 go_loopg [5] k (fun kq v5 w' => ∃ (x5_1 : Int), v5 = .int .i64 x5_1 ∧ Aside0 (tabardref04_within.l0 kq a0 l1 x5_1 = some r) ∧ Aside0 (kq ≤ k) ∧ Drawn0 w w')
 case atStart => exact ⟨(0), sI, H', ⟨Nat.le_refl _⟩, by repeat (first | exact Drawn0.refl _ | apply Drawn0.step)⟩
 case round =>
  clear H'
  try clear c1
  try clear p2
  obtain ⟨x5_1, rfl, HA, HK1, ⟨m1, rfl⟩⟩ := hrel; cases gk with
  | zero => exact absurd HA.out (by simp [tabardref04_within.l0])
  | succ k1 =>
   have H := HA.out; clear HA; simp only [tabardref04_within.l0] at H
   by_cases c3 : (wrap64 (x5_1 + 1)) < (l1.length : Int)
   ·rw [if_pos c3] at H; have c3b0 := decide_eq_true c3; clear c3
    by_cases c4 : 0 ≤ x5_1
    ·rw [if_pos c4] at H; have c4b0 := decide_eq_true c4; clear c4
     by_cases c5 : x5_1 < (l1.length : Int)
     ·rw [if_pos c5] at H; have c5b0 := decide_eq_true c5; clear c5
      by_cases c6 : a0 ≥ (rd l1 x5_1)
      ·rw [if_pos c6] at H; have c6b0 := decide_eq_true c6; clear c6; obtain ⟨ji7, hji7⟩ : ∃ j_ : Int, (wrap64 (x5_1 + 1)) = j_ := ⟨_, rfl⟩
       replace H : (if 0 ≤ (ji7) then (if a0 ≤ (rd l1 (ji7)) then (some true) else (tabardref04_within.l0 k1 a0 l1 (wrap64 (x5_1 + 2)))) else (none)) = some r := by first | (rw [hji7] at H; exact H) | (simp only [hji7] at H ⊢; exact H)
       (try rw [hji7] at c3b0)
       have hji7w : (IntKind.i64.wrap (x5_1 + 1)) = ji7 := (i64_w _).trans hji7
       by_cases c8 : 0 ≤ (ji7)
       ·rw [if_pos c8] at H; have c8b0 := decide_eq_true c8; clear c8
        by_cases c9 : a0 ≤ (rd l1 (ji7))
        ·rw [if_pos c9] at H; have c9b0 := decide_eq_true c9; clear c9; obtain rfl := Option.some.inj H; have p393 : 0 ≤ (x5_1 : Int) := of_decide_eq_true aO; have q393 : x5_1 < (l1.length : Int) := of_decide_eq_true aO; obtain ⟨ad393, e393, hx393_0⟩ := Kd.at_int HR1.out x5_1 p393 q393; cases e393; replace p393 := eq_true p393; replace q393 := eq_true q393; have p394 : 0 ≤ ((ji7) : Int) := of_decide_eq_true aO; have q394 : (ji7) < (l1.length : Int) := of_decide_eq_true aO; obtain ⟨ad394, e394, hx394_0⟩ := Kd.at_int HR1.out (ji7) p394 q394; have he_ : ad393 = ad394 := (by injection e394); subst he_; replace p394 := eq_true p394; replace q394 := eq_true q394
         go_wp2
         go_ret
         exact ⟨by first | rfl | (simp; done) | (simp only [← hji7] <;> (first | rfl | simp)) | (simp [*]; done), by repeat (first | exact Drawn0.refl _ | apply Drawn0.step)⟩
        ·rw [if_neg c9] at H; have c9b0 := decide_eq_false c9; clear c9; have H' := Aside0.mk H; clear H; have p393 : 0 ≤ (x5_1 : Int) := of_decide_eq_true aO; have q393 : x5_1 < (l1.length : Int) := of_decide_eq_true aO; obtain ⟨ad393, e393, hx393_0⟩ := Kd.at_int HR1.out x5_1 p393 q393; cases e393; replace p393 := eq_true p393; replace q393 := eq_true q393; have p394 : 0 ≤ ((ji7) : Int) := of_decide_eq_true aO; have q394 : (ji7) < (l1.length : Int) := of_decide_eq_true aO; obtain ⟨ad394, e394, hx394_0⟩ := Kd.at_int HR1.out (ji7) p394 q394; have he_ : ad393 = ad394 := (by injection e394); subst he_; replace p394 := eq_true p394; replace q394 := eq_true q394
         go_wp2
         go_roundg k1
         case measure => have := HK1.out; omega
         case rel => exact ⟨(wrap64 (x5_1 + 2)), sI, H', ⟨by have := HK1.out; omega⟩, by repeat (first | exact Drawn0.refl _ | apply Drawn0.step)⟩
       ·rw [if_neg c8] at H; exact absurd H (by simp)
      ·rw [if_neg c6] at H; have c6b0 := decide_eq_false c6; clear c6; have H' := Aside0.mk H; clear H; have p393 : 0 ≤ (x5_1 : Int) := of_decide_eq_true aO; have q393 : x5_1 < (l1.length : Int) := of_decide_eq_true aO; obtain ⟨ad393, e393, hx393_0⟩ := Kd.at_int HR1.out x5_1 p393 q393; cases e393; replace p393 := eq_true p393; replace q393 := eq_true q393
       go_wp2
       go_roundg k1
       case measure => have := HK1.out; omega
       case rel => exact ⟨(wrap64 (x5_1 + 2)), sI, H', ⟨by have := HK1.out; omega⟩, by repeat (first | exact Drawn0.refl _ | apply Drawn0.step)⟩
     ·rw [if_neg c5] at H; exact absurd H (by simp)
    ·rw [if_neg c4] at H; exact absurd H (by simp)
   ·rw [if_neg c3] at H; have c3b0 := decide_eq_false c3; clear c3; obtain rfl := Option.some.inj H
    go_wp2
    go_ret
    exact ⟨by first | rfl | (simp; done) | (simp [*]; done), by repeat (first | exact Drawn0.refl _ | apply Drawn0.step)⟩

/-! ### tabardref04_Start: function 73 -/
def tabardref04_Start.f (k : Nat) (a0 : Int) : Option (Bool) := (tabardref04_within.f k a0 (([65, 90, 97, 122, 95, 95, 913, 929, 931, 937, 945, 969] : List Int))).bind fun t398 => (some t398)
theorem tabardref04_Start.mono : ∀ a0 k, LeO (tabardref04_Start.f k a0) (tabardref04_Start.f (k + 1) a0) := by
 intro a0 k
 unfold tabardref04_Start.f
 repeat' first | (with_reducible first | exact tabardref04_within.mono _ _ _ | exact lA | apply lI | refine lB ?_ fun _ => ?_) | exact lN _ | apply lI | refine lB ?_ fun _ => ?_
set_option maxHeartbeats 8000000 in
set_option maxRecDepth 100000 in
theorem tabardref04_Start.calls (k : Nat) (a0 : Int) (r : Bool) (w : World) (h : tabardref04_Start.f k a0 = some r) :
  Calls Try.prog 73 #[.int .i64 a0] w fun e w' => e = .returned (.bool r) ∧ Below w.heap.size w w' := by
 have HB := Aside0.mk (Below.refl w.heap.size w); have H : ((tabardref04_within.f k a0 (([65, 90, 97, 122, 95, 95, 913, 929, 931, 937, 945, 969] : List Int))).bind fun t398 => (some t398)) = some r := h; clear h; obtain ⟨y395, hy395⟩ : ∃ y_ : List Int, y_ = (([65, 90, 97, 122, 95, 95, 913, 929, 931, 937, 945, 969] : List Int)) := ⟨_, rfl⟩
 replace H : ((tabardref04_within.f k a0 y395).bind fun t398 => (some t398)) = some r := rH hy395 H
 have Ny395 := Aside0.mk hy395; clear hy395; replace H := Option.bind_eq_some_iff.mp H; obtain ⟨t398, A20, H⟩ := H; replace H : (some t398) = some r := H; have A2 := Aside0.mk A20; clear A20; obtain rfl := Option.some.inj H
 go_enter Try.func73, Try.ntmps73
 go_wp2_with (first | ((with_reducible refine gate_dst (N := 4) rfl ?_); refine Kd.R_lit (Kd.int .i64) _ 3 ?hg (N := 4) ?hd (xs := ([65, 90, 97, 122, 95, 95, 913, 929, 931, 937, 945, 969] : List Int)) (inner := [.int .i64 65, .int .i64 90, .int .i64 97, .int .i64 122, .int .i64 95, .int .i64 95, .int .i64 913, .int .i64 929, .int .i64 931, .int .i64 937, .int .i64 945, .int .i64 969]) (ok := fun _ => True) (okp := fun _ => True) ?hr ?hp (fun _ hk => hk) trivial (Below.refl _ _) (Nat.le_refl _) (by simp) ?_; (case hd => rfl); (case hg => rfl); (case hr => first | (go_simp; done) | (go_simp; rfl)); (case hp => exact (Reps.one (show Kd.M (Kd.int .i64) _ _ _ 65 [.int .i64 65] from rfl) (Reps.one (show Kd.M (Kd.int .i64) _ _ _ 90 [.int .i64 90] from rfl) (Reps.one (show Kd.M (Kd.int .i64) _ _ _ 97 [.int .i64 97] from rfl) (Reps.one (show Kd.M (Kd.int .i64) _ _ _ 122 [.int .i64 122] from rfl) (Reps.one (show Kd.M (Kd.int .i64) _ _ _ 95 [.int .i64 95] from rfl) (Reps.one (show Kd.M (Kd.int .i64) _ _ _ 95 [.int .i64 95] from rfl) (Reps.one (show Kd.M (Kd.int .i64) _ _ _ 913 [.int .i64 913] from rfl) (Reps.one (show Kd.M (Kd.int .i64) _ _ _ 929 [.int .i64 929] from rfl) (Reps.one (show Kd.M (Kd.int .i64) _ _ _ 931 [.int .i64 931] from rfl) (Reps.one (show Kd.M (Kd.int .i64) _ _ _ 937 [.int .i64 937] from rfl) (Reps.one (show Kd.M (Kd.int .i64) _ _ _ 945 [.int .i64 945] from rfl) (Reps.one (show Kd.M (Kd.int .i64) _ _ _ 969 [.int .i64 969] from rfl) (Reps.none _ _)))))))))))))); intro v396 w3 ho4 hb hg_ hnew_; clear hg_ hnew_; (first | rw [← Ny395.out] at ho4 | (simp only [Int.reduceToNat] at ho4; rw [← Ny395.out] at ho4)); have HO397 := rW ho4 (bO HB.out); replace HB := hS0 HB hb; clear hb ho4; obtain ⟨Ao5, co5, eo5⟩ := Kd.R_slice HO397.out; subst eo5) | ((with_reducible refine gate_callee (f := 79) rfl ?_); refine gL_ (some 5) Try.func79 #[.int .i64 a0, .slice Ao5 y395.length co5] ?_; (with_reducible refine (tabardref04_within.calls k a0 _ _ y395 t398 _ ?s1 ?s2 A2.out).mono ?_); (case s1 => exact cO (Kd.R_reads' HO397.out).2.2); (case s2 => exact (Kd.R_reads' HO397.out).2.1); rintro e w' ⟨rfl, ⟨nd, rfl⟩⟩; refine ⟨_, rfl, ?_⟩))
 go_ret
 exact ⟨eW, bO HB.out⟩

/-! ### tabardref04_Rest: function 74 -/
def tabardref04_Rest.f (k : Nat) (a0 : Int) : Option (Bool) := (tabardref04_Start.f k a0).bind fun t399 => (if t399 = true then (some true) else ((tabardref04_within.f k a0 (([48, 57, 8242, 8242, 8320, 8329] : List Int))).bind fun t403 => (some t403)))
theorem tabardref04_Rest.mono : ∀ a0 k, LeO (tabardref04_Rest.f k a0) (tabardref04_Rest.f (k + 1) a0) := by
 intro a0 k
 unfold tabardref04_Rest.f
 repeat' first | (with_reducible first | exact tabardref04_Start.mono _ _ | exact tabardref04_within.mono _ _ _ | exact lA | apply lI | refine lB ?_ fun _ => ?_) | exact lN _ | apply lI | refine lB ?_ fun _ => ?_
set_option maxHeartbeats 8000000 in
set_option maxRecDepth 100000 in
theorem tabardref04_Rest.calls (k : Nat) (a0 : Int) (r : Bool) (w : World) (h : tabardref04_Rest.f k a0 = some r) :
  Calls Try.prog 74 #[.int .i64 a0] w fun e w' => e = .returned (.bool r) ∧ Below w.heap.size w w' := by
 have HB := Aside0.mk (Below.refl w.heap.size w); have H : ((tabardref04_Start.f k a0).bind fun t399 => (if t399 = true then (some true) else ((tabardref04_within.f k a0 (([48, 57, 8242, 8242, 8320, 8329] : List Int))).bind fun t403 => (some t403)))) = some r := h; clear h; replace H := Option.bind_eq_some_iff.mp H; obtain ⟨t399, A20, H⟩ := H; replace H : (if t399 = true then (some true) else ((tabardref04_within.f k a0 (([48, 57, 8242, 8242, 8320, 8329] : List Int))).bind fun t403 => (some t403))) = some r := H; have A2 := Aside0.mk A20; clear A20
 by_cases c3 : t399 = true
 ·subst c3
  have H1 : (some true) = some r := by rw [if_pos rfl] at H; exact H
  clear H; have H := H1; clear H1; obtain rfl := Option.some.inj H
  go_enter Try.func74, Try.ntmps74
  go_wp2_with (first | ((with_reducible refine gate_callee (f := 73) rfl ?_); refine gL_ (some 4) Try.func73 #[.int .i64 a0] ?_; (with_reducible refine (tabardref04_Start.calls k a0 true _ A2.out).mono ?_); rintro e w4 ⟨rfl, hb⟩; refine ⟨_, rfl, ?_⟩; replace HB := hS0 HB hb; (try clear hb); (try clear hb2); (try clear hk); (try clear hi)))
  go_ret
  exact ⟨eW, bO HB.out⟩
 ·replace c3 := Bool.eq_false_iff.mpr c3; subst c3
  have H1 : ((tabardref04_within.f k a0 (([48, 57, 8242, 8242, 8320, 8329] : List Int))).bind fun t403 => (some t403)) = some r := by rw [if_neg (show ¬ (false = true) by decide)] at H; exact H
  clear H; have H := H1; clear H1; obtain ⟨y400, hy400⟩ : ∃ y_ : List Int, y_ = (([48, 57, 8242, 8242, 8320, 8329] : List Int)) := ⟨_, rfl⟩
  replace H : ((tabardref04_within.f k a0 y400).bind fun t403 => (some t403)) = some r := rH hy400 H
  have Ny400 := Aside0.mk hy400; clear hy400; replace H := Option.bind_eq_some_iff.mp H; obtain ⟨t403, A50, H⟩ := H; replace H : (some t403) = some r := H; have A5 := Aside0.mk A50; clear A50; obtain rfl := Option.some.inj H
  go_enter Try.func74, Try.ntmps74
  go_wp2_with (first | ((with_reducible refine gate_callee (f := 73) rfl ?_); refine gL_ (some 4) Try.func73 #[.int .i64 a0] ?_; (with_reducible refine (tabardref04_Start.calls k a0 false _ A2.out).mono ?_); rintro e w6 ⟨rfl, hb⟩; refine ⟨_, rfl, ?_⟩; replace HB := hS0 HB hb; (try clear hb); (try clear hb2); (try clear hk); (try clear hi)) | ((with_reducible refine gate_dst (N := 7) rfl ?_); (try (refine gate_guard (by rfl) ?_; dsimp only)); refine Kd.R_lit (Kd.int .i64) _ 3 ?hg (N := 7) ?hd (xs := ([48, 57, 8242, 8242, 8320, 8329] : List Int)) (inner := [.int .i64 48, .int .i64 57, .int .i64 8242, .int .i64 8242, .int .i64 8320, .int .i64 8329]) (ok := fun _ => True) (okp := fun _ => True) ?hr ?hp (fun _ hk => hk) trivial (Below.refl _ _) (Nat.le_refl _) (by simp) ?_; (case hd => rfl); (case hg => rfl); (case hr => first | (go_simp; done) | (go_simp; rfl)); (case hp => exact (Reps.one (show Kd.M (Kd.int .i64) _ _ _ 48 [.int .i64 48] from rfl) (Reps.one (show Kd.M (Kd.int .i64) _ _ _ 57 [.int .i64 57] from rfl) (Reps.one (show Kd.M (Kd.int .i64) _ _ _ 8242 [.int .i64 8242] from rfl) (Reps.one (show Kd.M (Kd.int .i64) _ _ _ 8242 [.int .i64 8242] from rfl) (Reps.one (show Kd.M (Kd.int .i64) _ _ _ 8320 [.int .i64 8320] from rfl) (Reps.one (show Kd.M (Kd.int .i64) _ _ _ 8329 [.int .i64 8329] from rfl) (Reps.none _ _)))))))); intro v401 w7 ho8 hb hg_ hnew_; clear hg_ hnew_; (first | rw [← Ny400.out] at ho8 | (simp only [Int.reduceToNat] at ho8; rw [← Ny400.out] at ho8)); have HO402 := rW ho8 (bO HB.out); replace HB := hS0 HB hb; clear hb ho8; obtain ⟨Ao9, co9, eo9⟩ := Kd.R_slice HO402.out; subst eo9) | (go_at_call 79; (with_reducible refine (tabardref04_within.calls k a0 _ _ y400 t403 _ ?s1 ?s2 A5.out).mono ?_); (case s1 => exact cO (Kd.R_reads' HO402.out).2.2); (case s2 => exact (Kd.R_reads' HO402.out).2.1); rintro e w' ⟨rfl, ⟨nd, rfl⟩⟩))
  go_ret
  exact ⟨eW, bO HB.out⟩

end Go.Proofs.Ytghfclgcgecgdaa.X
namespace Go.Proofs.Ytghfclgcgecgdaa.X
open Go.RowKit Go.Proofs.YtghfclgcgecgdaaW.PrintWords Go.Proofs.YtghfclgcgecgdaaW.PrintLast Go.Proofs.YtghfclgcgecgdaaW.PrintMore
attribute [local go_sem] max2_int min2_int max_two min_two max_three min_three max_four min_four
set_option linter.unusedVariables false
set_option linter.unusedSimpArgs false

/-! ### tabardref04_Reserved: function 75 -/
def tabardref04_Reserved.l0 : Nat → ByteArray → List ByteArray → Int → Option (Bool)
 | 0, _, _, _ => none
 | k + 1, x0, x3, x4 => if x4 < (x3.length : Int) then (if 0 ≤ x4 then (if (rdOf ByteArray.empty x3 x4).toList = x0.toList then (some true) else (tabardref04_Reserved.l0 k x0 x3 (wrap64 (x4 + 1)))) else (none)) else (some false)
def tabardref04_Reserved.f (k : Nat) (a0 : ByteArray) : Option (Bool) := tabardref04_Reserved.l0 k a0 (([(⟨#[97, 110, 100]⟩ : ByteArray), (⟨#[111, 114]⟩ : ByteArray), (⟨#[110, 111, 116]⟩ : ByteArray), (⟨#[101, 120]⟩ : ByteArray), (⟨#[97, 108, 108]⟩ : ByteArray), (⟨#[109, 111, 100]⟩ : ByteArray), (⟨#[116, 114, 117, 101]⟩ : ByteArray), (⟨#[102, 97, 108, 115, 101]⟩ : ByteArray)] : List ByteArray)) 0
theorem tabardref04_Reserved.mono_l : ∀ k, (∀ y0 y1 y2, LeO (tabardref04_Reserved.l0 k y0 y1 y2) (tabardref04_Reserved.l0 (k + 1) y0 y1 y2))
 | 0 => fun _ _ _ r h => by simp [tabardref04_Reserved.l0] at h
 | k + 1 => by
  have ih0 := tabardref04_Reserved.mono_l k
  ·intro y0 y1 y2
   unfold tabardref04_Reserved.l0
   repeat' first | (with_reducible first | exact ih0 _ _ _ | exact lA | apply lI | refine lB ?_ fun _ => ?_) | exact lN _ | apply lI | refine lB ?_ fun _ => ?_
theorem tabardref04_Reserved.mono : ∀ a0 k, LeO (tabardref04_Reserved.f k a0) (tabardref04_Reserved.f (k + 1) a0) := by
 intro a0 k; have ih0 := tabardref04_Reserved.mono_l k
 unfold tabardref04_Reserved.f
 repeat' first | (with_reducible first | exact ih0 _ _ _ | exact lA | apply lI | refine lB ?_ fun _ => ?_) | exact lN _ | apply lI | refine lB ?_ fun _ => ?_
set_option maxHeartbeats 8000000 in
set_option maxRecDepth 100000 in
theorem tabardref04_Reserved.calls (k : Nat) (a0 : ByteArray) (r : Bool) (w : World) (h : tabardref04_Reserved.f k a0 = some r) :
  Calls Try.prog 75 #[.string a0] w fun e w' => e = .returned (.bool r) ∧ Below w.heap.size w w' := by
 have HB := Aside0.mk (Below.refl w.heap.size w); have H : (tabardref04_Reserved.l0 k a0 (([(⟨#[97, 110, 100]⟩ : ByteArray), (⟨#[111, 114]⟩ : ByteArray), (⟨#[110, 111, 116]⟩ : ByteArray), (⟨#[101, 120]⟩ : ByteArray), (⟨#[97, 108, 108]⟩ : ByteArray), (⟨#[109, 111, 100]⟩ : ByteArray), (⟨#[116, 114, 117, 101]⟩ : ByteArray), (⟨#[102, 97, 108, 115, 101]⟩ : ByteArray)] : List ByteArray)) 0) = some r := h; clear h; obtain ⟨y404, hy404⟩ : ∃ y_ : List ByteArray, y_ = (([(⟨#[97, 110, 100]⟩ : ByteArray), (⟨#[111, 114]⟩ : ByteArray), (⟨#[110, 111, 116]⟩ : ByteArray), (⟨#[101, 120]⟩ : ByteArray), (⟨#[97, 108, 108]⟩ : ByteArray), (⟨#[109, 111, 100]⟩ : ByteArray), (⟨#[116, 114, 117, 101]⟩ : ByteArray), (⟨#[102, 97, 108, 115, 101]⟩ : ByteArray)] : List ByteArray)) := ⟨_, rfl⟩
 replace H : (tabardref04_Reserved.l0 k a0 y404 0) = some r := rH hy404 H
 have Ny404 := Aside0.mk hy404; clear hy404; have H' := Aside0.mk H; clear H
 go_enter Try.func75, Try.ntmps75
 go_wp2_with (first | ((with_reducible refine gate_dst (N := 5) rfl ?_); refine Kd.R_lit Kd.string _ 9 ?hg (N := 5) ?hd (xs := ([(⟨#[97, 110, 100]⟩ : ByteArray), (⟨#[111, 114]⟩ : ByteArray), (⟨#[110, 111, 116]⟩ : ByteArray), (⟨#[101, 120]⟩ : ByteArray), (⟨#[97, 108, 108]⟩ : ByteArray), (⟨#[109, 111, 100]⟩ : ByteArray), (⟨#[116, 114, 117, 101]⟩ : ByteArray), (⟨#[102, 97, 108, 115, 101]⟩ : ByteArray)] : List ByteArray)) (inner := [.string (⟨#[97, 110, 100]⟩ : ByteArray), .string (⟨#[111, 114]⟩ : ByteArray), .string (⟨#[110, 111, 116]⟩ : ByteArray), .string (⟨#[101, 120]⟩ : ByteArray), .string (⟨#[97, 108, 108]⟩ : ByteArray), .string (⟨#[109, 111, 100]⟩ : ByteArray), .string (⟨#[116, 114, 117, 101]⟩ : ByteArray), .string (⟨#[102, 97, 108, 115, 101]⟩ : ByteArray)]) (ok := fun _ => True) (okp := fun _ => True) ?hr ?hp (fun _ hk => hk) trivial (Below.refl _ _) (Nat.le_refl _) (by simp) ?_; (case hd => rfl); (case hg => rfl); (case hr => first | (go_simp; done) | (go_simp; rfl)); (case hp => exact (Reps.one (show Kd.M Kd.string _ _ _ (⟨#[97, 110, 100]⟩ : ByteArray) [.string (⟨#[97, 110, 100]⟩ : ByteArray)] from rfl) (Reps.one (show Kd.M Kd.string _ _ _ (⟨#[111, 114]⟩ : ByteArray) [.string (⟨#[111, 114]⟩ : ByteArray)] from rfl) (Reps.one (show Kd.M Kd.string _ _ _ (⟨#[110, 111, 116]⟩ : ByteArray) [.string (⟨#[110, 111, 116]⟩ : ByteArray)] from rfl) (Reps.one (show Kd.M Kd.string _ _ _ (⟨#[101, 120]⟩ : ByteArray) [.string (⟨#[101, 120]⟩ : ByteArray)] from rfl) (Reps.one (show Kd.M Kd.string _ _ _ (⟨#[97, 108, 108]⟩ : ByteArray) [.string (⟨#[97, 108, 108]⟩ : ByteArray)] from rfl) (Reps.one (show Kd.M Kd.string _ _ _ (⟨#[109, 111, 100]⟩ : ByteArray) [.string (⟨#[109, 111, 100]⟩ : ByteArray)] from rfl) (Reps.one (show Kd.M Kd.string _ _ _ (⟨#[116, 114, 117, 101]⟩ : ByteArray) [.string (⟨#[116, 114, 117, 101]⟩ : ByteArray)] from rfl) (Reps.one (show Kd.M Kd.string _ _ _ (⟨#[102, 97, 108, 115, 101]⟩ : ByteArray) [.string (⟨#[102, 97, 108, 115, 101]⟩ : ByteArray)] from rfl) (Reps.none _ _)))))))))); intro v405 w2 ho3 hb hg_ hnew_; clear hg_ hnew_; (first | rw [← Ny404.out] at ho3 | (simp only [Int.reduceToNat] at ho3; rw [← Ny404.out] at ho3)); have HO406 := rW ho3 (bO HB.out); replace HB := hS0 HB hb; clear hb ho3))
 go_loopg [4] k (fun kq v4 w' => ∃ (x4_1 : Int), v4 = .int .i64 x4_1 ∧ Aside0 (tabardref04_Reserved.l0 kq a0 y404 x4_1 = some r) ∧ Aside0 (kq ≤ k) ∧ Aside0 (Kd.R Kd.string 9 w' w.heap.size (fun _ => True) v405 y404) ∧ Aside0 (Below w.heap.size w w'))
 case atStart => exact ⟨(0), sI, H', ⟨Nat.le_refl _⟩, ⟨rO HO406.out⟩, ⟨bO HB.out⟩⟩
 case round =>
  clear H'
  try clear p2
  obtain ⟨x4_1, rfl, HA, HK1, HO_3, HB⟩ := hrel; cases gk with
  | zero => exact absurd HA.out (by simp [tabardref04_Reserved.l0])
  | succ k1 =>
   have H := HA.out; clear HA; simp only [tabardref04_Reserved.l0] at H
   by_cases c4 : x4_1 < (y404.length : Int)
   ·rw [if_pos c4] at H; have c4b0 := decide_eq_true c4; clear c4
    by_cases c5 : 0 ≤ x4_1
    ·rw [if_pos c5] at H; have c5b0 := decide_eq_true c5; clear c5
     by_cases c6 : (rdOf ByteArray.empty y404 x4_1).toList = a0.toList
     ·rw [if_pos c6] at H; obtain ⟨c6b0, c6b1⟩ := bq c6; clear c6; obtain rfl := Option.some.inj H; obtain ⟨Ao7, co7, eo7⟩ := Kd.R_slice HO_3.out; subst eo7; have p407 : 0 ≤ (x4_1 : Int) := of_decide_eq_true aO; have q407 : x4_1 < (y404.length : Int) := of_decide_eq_true aO; obtain ⟨ad407, e407, hx407_0⟩ := Kd.at_string (Kd.R_reads' HO_3.out).2.2 x4_1 p407 q407; cases e407; replace p407 := eq_true p407; replace q407 := eq_true q407
      go_wp2
      go_ret
      exact ⟨eW, bO HB.out⟩
     ·rw [if_neg c6] at H; obtain ⟨c6b0, c6b1⟩ := bn c6; have H' := Aside0.mk H; clear H; obtain ⟨Ao8, co8, eo8⟩ := Kd.R_slice HO_3.out; subst eo8; have p407 : 0 ≤ (x4_1 : Int) := of_decide_eq_true aO; have q407 : x4_1 < (y404.length : Int) := of_decide_eq_true aO; obtain ⟨ad407, e407, hx407_0⟩ := Kd.at_string (Kd.R_reads' HO_3.out).2.2 x4_1 p407 q407; cases e407; replace p407 := eq_true p407; replace q407 := eq_true q407
      go_wp2
      go_roundg k1
      case measure => have := HK1.out; omega
      case rel => exact ⟨(wrap64 (x4_1 + 1)), sI, H', ⟨by have := HK1.out; omega⟩, ⟨rO HO_3.out⟩, ⟨bO HB.out⟩⟩
    ·rw [if_neg c5] at H; exact absurd H (by simp)
   ·rw [if_neg c4] at H; have c4b0 := decide_eq_false c4; clear c4; obtain rfl := Option.some.inj H; obtain ⟨Ao9, co9, eo9⟩ := Kd.R_slice HO_3.out; subst eo9
    go_wp2
    go_ret
    exact ⟨eW, bO HB.out⟩

/-! ### tabardref04_Name: function 66 -/
def tabardref04_Name.l0 : Nat → ByteArray → Int → Int → Option (Bool)
 | 0, _, _, _ => none
 | k + 1, x0, x3, x4 => if x4 < (x0.size : Int) then ((tabardref04_Read.f k x0 x4).bind fun bt409 => (if bt409.2.2 = true then (if x3 = 0 then ((tabardref04_Start.f k bt409.1).bind fun t412 => (if t412 = true then ((tabardref04_Rest.f k bt409.1).bind fun t413 => (if t413 = true then (tabardref04_Name.l0 k x0 (wrap64 (x3 + 1)) (wrap64 (x4 + bt409.2.1))) else (some false))) else (some false))) else ((tabardref04_Rest.f k bt409.1).bind fun t414 => (if t414 = true then (tabardref04_Name.l0 k x0 (wrap64 (x3 + 1)) (wrap64 (x4 + bt409.2.1))) else (some false)))) else (some false))) else (if x3 ≥ 1 then (if x3 ≤ 16 then ((tabardref04_Reserved.f k x0).bind fun t408 => (some (!t408))) else (some false)) else (some false))
def tabardref04_Name.f (k : Nat) (a0 : ByteArray) : Option (Bool) := tabardref04_Name.l0 k a0 0 0
theorem tabardref04_Name.mono_l : ∀ k, (∀ y0 y1 y2, LeO (tabardref04_Name.l0 k y0 y1 y2) (tabardref04_Name.l0 (k + 1) y0 y1 y2))
 | 0 => fun _ _ _ r h => by simp [tabardref04_Name.l0] at h
 | k + 1 => by
  have ih0 := tabardref04_Name.mono_l k
  ·intro y0 y1 y2
   unfold tabardref04_Name.l0
   repeat' first | (with_reducible first | exact ih0 _ _ _ | exact tabardref04_Read.mono _ _ _ | exact tabardref04_Reserved.mono _ _ | exact tabardref04_Rest.mono _ _ | exact tabardref04_Start.mono _ _ | exact lA | apply lI | refine lB ?_ fun _ => ?_) | exact lN _ | apply lI | refine lB ?_ fun _ => ?_
theorem tabardref04_Name.mono : ∀ a0 k, LeO (tabardref04_Name.f k a0) (tabardref04_Name.f (k + 1) a0) := by
 intro a0 k; have ih0 := tabardref04_Name.mono_l k
 unfold tabardref04_Name.f
 repeat' first | (with_reducible first | exact ih0 _ _ _ | exact tabardref04_Read.mono _ _ _ | exact tabardref04_Reserved.mono _ _ | exact tabardref04_Rest.mono _ _ | exact tabardref04_Start.mono _ _ | exact lA | apply lI | refine lB ?_ fun _ => ?_) | exact lN _ | apply lI | refine lB ?_ fun _ => ?_
set_option maxHeartbeats 8000000 in
set_option maxRecDepth 100000 in
theorem tabardref04_Name.calls (k : Nat) (a0 : ByteArray) (r : Bool) (w : World) (h : tabardref04_Name.f k a0 = some r) :
  Calls Try.prog 66 #[.string a0] w fun e w' => e = .returned (.bool r) ∧ Below w.heap.size w w' := by
 have HB := Aside0.mk (Below.refl w.heap.size w); have H : (tabardref04_Name.l0 k a0 0 0) = some r := h; clear h; have H' := Aside0.mk H; clear H
 go_enter Try.func66, Try.ntmps66
 go_wp2
 go_loopg [3, 4] k (fun kq v3 v4 w' => ∃ (x3_1 : Int) (x4_1 : Int), v3 = .int .i64 x3_1 ∧ v4 = .int .i64 x4_1 ∧ Aside0 (tabardref04_Name.l0 kq a0 x3_1 x4_1 = some r) ∧ Aside0 (kq ≤ k) ∧ Aside0 (Below w.heap.size w w'))
 case atStart => exact ⟨(0), (0), sI, sI, H', ⟨Nat.le_refl _⟩, ⟨bO HB.out⟩⟩
 case round =>
  clear H'; obtain ⟨x3_1, x4_1, rfl, rfl, HA, HK1, HB⟩ := hrel; cases gk with
  | zero => exact absurd HA.out (by simp [tabardref04_Name.l0])
  | succ k1 =>
   have H := HA.out; clear HA; simp only [tabardref04_Name.l0] at H
   by_cases c2 : x4_1 < (a0.size : Int)
   ·rw [if_pos c2] at H; have c2b0 := decide_eq_true c2; clear c2; replace H := Option.bind_eq_some_iff.mp H; obtain ⟨⟨t409, t410, t411⟩, A30, H⟩ := H; replace H : (if t411 = true then (if x3_1 = 0 then ((tabardref04_Start.f k1 t409).bind fun t412 => (if t412 = true then ((tabardref04_Rest.f k1 t409).bind fun t413 => (if t413 = true then (tabardref04_Name.l0 k1 a0 (wrap64 (x3_1 + 1)) (wrap64 (x4_1 + t410))) else (some false))) else (some false))) else ((tabardref04_Rest.f k1 t409).bind fun t414 => (if t414 = true then (tabardref04_Name.l0 k1 a0 (wrap64 (x3_1 + 1)) (wrap64 (x4_1 + t410))) else (some false)))) else (some false)) = some r := H; have A3 := Aside0.mk A30; clear A30
    by_cases c4 : t411 = true
    ·subst c4
     have H1 : (if x3_1 = 0 then ((tabardref04_Start.f k1 t409).bind fun t412 => (if t412 = true then ((tabardref04_Rest.f k1 t409).bind fun t413 => (if t413 = true then (tabardref04_Name.l0 k1 a0 (wrap64 (x3_1 + 1)) (wrap64 (x4_1 + t410))) else (some false))) else (some false))) else ((tabardref04_Rest.f k1 t409).bind fun t414 => (if t414 = true then (tabardref04_Name.l0 k1 a0 (wrap64 (x3_1 + 1)) (wrap64 (x4_1 + t410))) else (some false)))) = some r := by rw [if_pos rfl] at H; exact H
     clear H; have H := H1; clear H1
     by_cases c5 : x3_1 = 0
     ·rw [if_pos c5] at H; obtain ⟨c5b0, c5b1⟩ := bq c5; clear c5; replace H := Option.bind_eq_some_iff.mp H; obtain ⟨t412, A60, H⟩ := H; replace H : (if t412 = true then ((tabardref04_Rest.f k1 t409).bind fun t413 => (if t413 = true then (tabardref04_Name.l0 k1 a0 (wrap64 (x3_1 + 1)) (wrap64 (x4_1 + t410))) else (some false))) else (some false)) = some r := H; have A6 := Aside0.mk A60; clear A60
      by_cases c7 : t412 = true
      ·subst c7
       have H1 : ((tabardref04_Rest.f k1 t409).bind fun t413 => (if t413 = true then (tabardref04_Name.l0 k1 a0 (wrap64 (x3_1 + 1)) (wrap64 (x4_1 + t410))) else (some false))) = some r := by rw [if_pos rfl] at H; exact H
       clear H; have H := H1; clear H1; replace H := Option.bind_eq_some_iff.mp H; obtain ⟨t413, A80, H⟩ := H; replace H : (if t413 = true then (tabardref04_Name.l0 k1 a0 (wrap64 (x3_1 + 1)) (wrap64 (x4_1 + t410))) else (some false)) = some r := H; have A8 := Aside0.mk A80; clear A80
       by_cases c9 : t413 = true
       ·subst c9
        have H1 : (tabardref04_Name.l0 k1 a0 (wrap64 (x3_1 + 1)) (wrap64 (x4_1 + t410))) = some r := by rw [if_pos rfl] at H; exact H
        clear H; have H := H1; clear H1; have H' := Aside0.mk H; clear H
        go_wp2_with (first | ((with_reducible refine gate_callee (f := 72) rfl ?_); refine gL_ (some 15) Try.func72 #[.string a0, .int .i64 x4_1] ?_; (with_reducible refine (tabardref04_Read.calls k1 a0 x4_1 t409 t410 true _ A3.out).mono ?_); rintro e w' ⟨rfl, ⟨nd, rfl⟩⟩; refine ⟨_, rfl, ?_⟩) | (go_at_call 73; (with_reducible refine (tabardref04_Start.calls k1 t409 true _ A6.out).mono ?_); rintro e w10 ⟨rfl, hb⟩; replace HB := hS0 HB hb; (try clear hb); (try clear hb2); (try clear hk); (try clear hi)) | (go_at_call 74; (with_reducible refine (tabardref04_Rest.calls k1 t409 true _ A8.out).mono ?_); rintro e w11 ⟨rfl, hb⟩; replace HB := hS0 HB hb; (try clear hb); (try clear hb2); (try clear hk); (try clear hi)))
        go_roundg k1
        case measure => have := HK1.out; omega
        case rel => exact ⟨(wrap64 (x3_1 + 1)), (wrap64 (x4_1 + t410)), sI, sI, H', ⟨by have := HK1.out; omega⟩, ⟨bO HB.out⟩⟩
       ·replace c9 := Bool.eq_false_iff.mpr c9; subst c9
        have H1 : (some false) = some r := by rw [if_neg (show ¬ (false = true) by decide)] at H; exact H
        clear H; have H := H1; clear H1; obtain rfl := Option.some.inj H
        go_wp2_with (first | ((with_reducible refine gate_callee (f := 72) rfl ?_); refine gL_ (some 15) Try.func72 #[.string a0, .int .i64 x4_1] ?_; (with_reducible refine (tabardref04_Read.calls k1 a0 x4_1 t409 t410 true _ A3.out).mono ?_); rintro e w' ⟨rfl, ⟨nd, rfl⟩⟩; refine ⟨_, rfl, ?_⟩) | (go_at_call 73; (with_reducible refine (tabardref04_Start.calls k1 t409 true _ A6.out).mono ?_); rintro e w12 ⟨rfl, hb⟩; replace HB := hS0 HB hb; (try clear hb); (try clear hb2); (try clear hk); (try clear hi)) | (go_at_call 74; (with_reducible refine (tabardref04_Rest.calls k1 t409 false _ A8.out).mono ?_); rintro e w13 ⟨rfl, hb⟩; replace HB := hS0 HB hb; (try clear hb); (try clear hb2); (try clear hk); (try clear hi)))
        go_ret
        exact ⟨eW, bO HB.out⟩
      ·replace c7 := Bool.eq_false_iff.mpr c7; subst c7
       have H1 : (some false) = some r := by rw [if_neg (show ¬ (false = true) by decide)] at H; exact H
       clear H; have H := H1; clear H1; obtain rfl := Option.some.inj H
       go_wp2_with (first | ((with_reducible refine gate_callee (f := 72) rfl ?_); refine gL_ (some 15) Try.func72 #[.string a0, .int .i64 x4_1] ?_; (with_reducible refine (tabardref04_Read.calls k1 a0 x4_1 t409 t410 true _ A3.out).mono ?_); rintro e w' ⟨rfl, ⟨nd, rfl⟩⟩; refine ⟨_, rfl, ?_⟩) | (go_at_call 73; (with_reducible refine (tabardref04_Start.calls k1 t409 false _ A6.out).mono ?_); rintro e w14 ⟨rfl, hb⟩; replace HB := hS0 HB hb; (try clear hb); (try clear hb2); (try clear hk); (try clear hi)))
       go_ret
       exact ⟨eW, bO HB.out⟩
     ·rw [if_neg c5] at H; obtain ⟨c5b0, c5b1⟩ := bn c5; replace H := Option.bind_eq_some_iff.mp H; obtain ⟨t414, A150, H⟩ := H; replace H : (if t414 = true then (tabardref04_Name.l0 k1 a0 (wrap64 (x3_1 + 1)) (wrap64 (x4_1 + t410))) else (some false)) = some r := H; have A15 := Aside0.mk A150; clear A150
      by_cases c16 : t414 = true
      ·subst c16
       have H1 : (tabardref04_Name.l0 k1 a0 (wrap64 (x3_1 + 1)) (wrap64 (x4_1 + t410))) = some r := by rw [if_pos rfl] at H; exact H
       clear H; have H := H1; clear H1; have H' := Aside0.mk H; clear H
       go_wp2_with (first | ((with_reducible refine gate_callee (f := 72) rfl ?_); refine gL_ (some 15) Try.func72 #[.string a0, .int .i64 x4_1] ?_; (with_reducible refine (tabardref04_Read.calls k1 a0 x4_1 t409 t410 true _ A3.out).mono ?_); rintro e w' ⟨rfl, ⟨nd, rfl⟩⟩; refine ⟨_, rfl, ?_⟩) | (go_at_call 74; (with_reducible refine (tabardref04_Rest.calls k1 t409 true _ A15.out).mono ?_); rintro e w17 ⟨rfl, hb⟩; replace HB := hS0 HB hb; (try clear hb); (try clear hb2); (try clear hk); (try clear hi)))
       go_roundg k1
       case measure => have := HK1.out; omega
       case rel => exact ⟨(wrap64 (x3_1 + 1)), (wrap64 (x4_1 + t410)), sI, sI, H', ⟨by have := HK1.out; omega⟩, ⟨bO HB.out⟩⟩
      ·replace c16 := Bool.eq_false_iff.mpr c16; subst c16
       have H1 : (some false) = some r := by rw [if_neg (show ¬ (false = true) by decide)] at H; exact H
       clear H; have H := H1; clear H1; obtain rfl := Option.some.inj H
       go_wp2_with (first | ((with_reducible refine gate_callee (f := 72) rfl ?_); refine gL_ (some 15) Try.func72 #[.string a0, .int .i64 x4_1] ?_; (with_reducible refine (tabardref04_Read.calls k1 a0 x4_1 t409 t410 true _ A3.out).mono ?_); rintro e w' ⟨rfl, ⟨nd, rfl⟩⟩; refine ⟨_, rfl, ?_⟩) | (go_at_call 74; (with_reducible refine (tabardref04_Rest.calls k1 t409 false _ A15.out).mono ?_); rintro e w18 ⟨rfl, hb⟩; replace HB := hS0 HB hb; (try clear hb); (try clear hb2); (try clear hk); (try clear hi)))
       go_ret
       exact ⟨eW, bO HB.out⟩
    ·replace c4 := Bool.eq_false_iff.mpr c4; subst c4
     have H1 : (some false) = some r := by rw [if_neg (show ¬ (false = true) by decide)] at H; exact H
     clear H; have H := H1; clear H1; obtain rfl := Option.some.inj H
     go_wp2_with (first | ((with_reducible refine gate_callee (f := 72) rfl ?_); refine gL_ (some 15) Try.func72 #[.string a0, .int .i64 x4_1] ?_; (with_reducible refine (tabardref04_Read.calls k1 a0 x4_1 t409 t410 false _ A3.out).mono ?_); rintro e w' ⟨rfl, ⟨nd, rfl⟩⟩; refine ⟨_, rfl, ?_⟩))
     go_ret
     exact ⟨eW, bO HB.out⟩
   ·rw [if_neg c2] at H; have c2b0 := decide_eq_false c2; clear c2
    by_cases c19 : x3_1 ≥ 1
    ·rw [if_pos c19] at H; have c19b0 := decide_eq_true c19; clear c19
     by_cases c20 : x3_1 ≤ 16
     ·rw [if_pos c20] at H; have c20b0 := decide_eq_true c20; clear c20; replace H := Option.bind_eq_some_iff.mp H; obtain ⟨t408, A210, H⟩ := H; replace H : (some (!t408)) = some r := H; have A21 := Aside0.mk A210; clear A210; obtain rfl := Option.some.inj H
      go_wp2_with (first | (go_at_call 75; (with_reducible refine (tabardref04_Reserved.calls k1 a0 t408 _ A21.out).mono ?_); rintro e w22 ⟨rfl, hb⟩; replace HB := hS0 HB hb; (try clear hb); (try clear hb2); (try clear hk); (try clear hi)))
      go_ret
      exact ⟨eW, bO HB.out⟩
     ·rw [if_neg c20] at H; have c20b0 := decide_eq_false c20; clear c20; obtain rfl := Option.some.inj H
      go_wp2
      go_ret
      exact ⟨eW, bO HB.out⟩
    ·rw [if_neg c19] at H; have c19b0 := decide_eq_false c19; clear c19; obtain rfl := Option.some.inj H
     go_wp2
     go_ret
     exact ⟨eW, bO HB.out⟩

end Go.Proofs.Ytghfclgcgecgdaa.X
namespace Go.Proofs.Ytghfclgcgecgdaa.X
open Go.RowKit Go.Proofs.YtghfclgcgecgdaaW.PrintWords Go.Proofs.YtghfclgcgecgdaaW.PrintLast Go.Proofs.YtghfclgcgecgdaaW.PrintMore
attribute [local go_sem] max2_int min2_int max_two min_two max_three min_three max_four min_four
set_option linter.unusedVariables false
set_option linter.unusedSimpArgs false

/-! ### tabardref04_Rises: function 59 -/
def tabardref04_Rises.l0 : Nat → List ByteArray → Int → Option (Bool)
 | 0, _, _ => none
 | k + 1, x0, x3 => if x3 < (x0.length : Int) then (if 0 ≤ x3 then ((tabardref04_Name.f k (rdOf ByteArray.empty x0 x3)).bind fun t416 => (if t416 = true then (if x3 > 0 then (if 0 ≤ (wrap64 (x3 - 1)) then (if (wrap64 (x3 - 1)) < (x0.length : Int) then (if ((Op.bytesLess ((rdOf ByteArray.empty x0 (wrap64 (x3 - 1))).toList) ((rdOf ByteArray.empty x0 x3).toList)) = true) then (tabardref04_Rises.l0 k x0 (wrap64 (x3 + 1))) else (some false)) else (none)) else (none)) else (tabardref04_Rises.l0 k x0 (wrap64 (x3 + 1)))) else (some false))) else (none)) else (some true)
def tabardref04_Rises.f (k : Nat) (l0 : List ByteArray) : Option (Bool) := tabardref04_Rises.l0 k l0 0
theorem tabardref04_Rises.mono_l : ∀ k, (∀ y0 y1, LeO (tabardref04_Rises.l0 k y0 y1) (tabardref04_Rises.l0 (k + 1) y0 y1))
 | 0 => fun _ _ r h => by simp [tabardref04_Rises.l0] at h
 | k + 1 => by
  have ih0 := tabardref04_Rises.mono_l k
  ·intro y0 y1
   unfold tabardref04_Rises.l0
   repeat' first | (with_reducible first | exact ih0 _ _ | exact tabardref04_Name.mono _ _ | exact lA | apply lI | refine lB ?_ fun _ => ?_) | exact lN _ | apply lI | refine lB ?_ fun _ => ?_
theorem tabardref04_Rises.mono : ∀ a0 k, LeO (tabardref04_Rises.f k a0) (tabardref04_Rises.f (k + 1) a0) := by
 intro a0 k; have ih0 := tabardref04_Rises.mono_l k
 unfold tabardref04_Rises.f
 repeat' first | (with_reducible first | exact ih0 _ _ | exact tabardref04_Name.mono _ _ | exact lA | apply lI | refine lB ?_ fun _ => ?_) | exact lN _ | apply lI | refine lB ?_ fun _ => ?_
def tabardref04_Rises.T4 : Bool × List (List Nat × List Nat) := (true, [([], []), ([], []), ([0, 1], [0, 1]), ([2], [2]), ([3], [3]), ([4], [4]), ([5, 4], [5]), ([6], [6]), ([7, 6], [6, 7]), ([8, 6, 6], [6, 8]), ([9], [9]), ([9], [9]), ([11, 9], [9, 11]), ([10, 12, 9], [9, 10, 12]), ([13, 9], [9, 13]), ([9], [9]), ([9], [9]), ([15, 16, 9], [9, 15, 16]), ([17, 9], [9, 17]), ([14, 18, 9], [9, 14, 18]), ([9, 19, 6], [6, 9, 19]), ([6, 20], [6, 20])])
def tabardref04_Rises.B4 : List Nat := [0, 0, 3, 7, 15, 31, 63, 127, 255, 511, 1023, 1023, 3071, 8191, 16383, 1023, 1023, 99327, 230399, 524287, 1048575, 2097151]
theorem tabardref04_Rises.tab4 : rtab .any (opsOf Try.f59 4) = tabardref04_Rises.T4 := by kernel_rfl
theorem tabardref04_Rises.bits4 : waitsOk tabardref04_Rises.T4.2 tabardref04_Rises.B4 = true := by kernel_rfl
set_option maxHeartbeats 8000000 in
set_option maxRecDepth 100000 in
theorem tabardref04_Rises.calls (k : Nat) (A0 : Option Addr) (c0 : Nat) (l0 : List ByteArray) (r : Bool) (w : World) (hr0 : Kd.C Kd.string w A0 l0.length l0) (hc0 : l0.length ≤ c0) (h : tabardref04_Rises.f k l0 = some r) :
  Calls Try.prog 59 #[.slice A0 l0.length c0] w fun e w' => e = .returned (.bool r) ∧ Below w.heap.size w w' := by
 have HR0 := Aside0.mk hr0; have HC0 := Aside0.mk hc0; clear hr0 hc0; have HB := Aside0.mk (Below.refl w.heap.size w); have H : (tabardref04_Rises.l0 k l0 0) = some r := h; clear h; have H' := Aside0.mk H; clear H
 go_enter Try.func59, Try.ntmps59
 go_wp2
 go_loopg [3] k (fun kq v3 w' => ∃ (x3_1 : Int), v3 = .int .i64 x3_1 ∧ Aside0 (tabardref04_Rises.l0 kq l0 x3_1 = some r) ∧ Aside0 (kq ≤ k) ∧ Aside0 (Below w.heap.size w w'))
 case atStart => exact ⟨(0), sI, H', ⟨Nat.le_refl _⟩, ⟨bO HB.out⟩⟩
 case round =>
  clear H'; obtain ⟨x3_1, rfl, HA, HK1, HB⟩ := hrel; cases gk with
  | zero => exact absurd HA.out (by simp [tabardref04_Rises.l0])
  | succ k1 =>
   have H := HA.out; clear HA; simp only [tabardref04_Rises.l0] at H
   by_cases c2 : x3_1 < (l0.length : Int)
   ·rw [if_pos c2] at H; have c2b0 := decide_eq_true c2; clear c2
    by_cases c3 : 0 ≤ x3_1
    ·rw [if_pos c3] at H; have c3b0 := decide_eq_true c3; clear c3; replace H := Option.bind_eq_some_iff.mp H; obtain ⟨t416, A40, H⟩ := H; replace H : (if t416 = true then (if x3_1 > 0 then (if 0 ≤ (wrap64 (x3_1 - 1)) then (if (wrap64 (x3_1 - 1)) < (l0.length : Int) then (if ((Op.bytesLess ((rdOf ByteArray.empty l0 (wrap64 (x3_1 - 1))).toList) ((rdOf ByteArray.empty l0 x3_1).toList)) = true) then (tabardref04_Rises.l0 k1 l0 (wrap64 (x3_1 + 1))) else (some false)) else (none)) else (none)) else (tabardref04_Rises.l0 k1 l0 (wrap64 (x3_1 + 1)))) else (some false)) = some r := H; have A4 := Aside0.mk A40; clear A40
     by_cases c5 : t416 = true
     ·subst c5
      have H1 : (if x3_1 > 0 then (if 0 ≤ (wrap64 (x3_1 - 1)) then (if (wrap64 (x3_1 - 1)) < (l0.length : Int) then (if ((Op.bytesLess ((rdOf ByteArray.empty l0 (wrap64 (x3_1 - 1))).toList) ((rdOf ByteArray.empty l0 x3_1).toList)) = true) then (tabardref04_Rises.l0 k1 l0 (wrap64 (x3_1 + 1))) else (some false)) else (none)) else (none)) else (tabardref04_Rises.l0 k1 l0 (wrap64 (x3_1 + 1)))) = some r := by rw [if_pos rfl] at H; exact H
      clear H; have H := H1; clear H1
      by_cases c6 : x3_1 > 0
      ·rw [if_pos c6] at H; have c6b0 := decide_eq_true c6; clear c6; obtain ⟨ji7, hji7⟩ : ∃ j_ : Int, (wrap64 (x3_1 - 1)) = j_ := ⟨_, rfl⟩
       replace H : (if 0 ≤ (ji7) then (if (ji7) < (l0.length : Int) then (if ((Op.bytesLess ((rdOf ByteArray.empty l0 (ji7)).toList) ((rdOf ByteArray.empty l0 x3_1).toList)) = true) then (tabardref04_Rises.l0 k1 l0 (wrap64 (x3_1 + 1))) else (some false)) else (none)) else (none)) = some r := by first | (rw [hji7] at H; exact H) | (simp only [hji7] at H ⊢; exact H)
       (try rw [hji7] at A4)
       have hji7w : (IntKind.i64.wrap (x3_1 - 1)) = ji7 := (i64_w _).trans hji7
       by_cases c8 : 0 ≤ (ji7)
       ·rw [if_pos c8] at H; have c8b0 := decide_eq_true c8; clear c8
        by_cases c9 : (ji7) < (l0.length : Int)
        ·rw [if_pos c9] at H; have c9b0 := decide_eq_true c9; clear c9
         by_cases c10 : ((Op.bytesLess ((rdOf ByteArray.empty l0 (ji7)).toList) ((rdOf ByteArray.empty l0 x3_1).toList)) = true)
         ·rw [if_pos c10] at H; have c10b0 : (Op.bytesLess ((rdOf ByteArray.empty l0 (ji7)).toList) ((rdOf ByteArray.empty l0 x3_1).toList)) = true := c10; clear c10; have H' := Aside0.mk H; clear H
          try go_wp2
          replace HB := Aside0.mk (below_drew1 HB.out); have p415 : 0 ≤ (x3_1 : Int) := of_decide_eq_true aO; have q415 : x3_1 < (l0.length : Int) := of_decide_eq_true aO; obtain ⟨ad415, e415, hx415_0⟩ := Kd.at_string HR0.out x3_1 p415 q415; have hw415_0 := hx415_0; cases e415; replace hx415_0 := cX HB hx415_0; replace p415 := eq_true p415; replace q415 := eq_true q415; have p417 : 0 ≤ ((ji7) : Int) := of_decide_eq_true aO; have q417 : (ji7) < (l0.length : Int) := of_decide_eq_true aO; obtain ⟨ad417, e417, hx417_0⟩ := Kd.at_string HR0.out (ji7) p417 q417; have hw417_0 := hx417_0; have he_ : ad415 = ad417 := (by injection e417); subst he_; replace hx417_0 := cX HB hx417_0; replace p417 := eq_true p417; replace q417 := eq_true q417; have p418 : 0 ≤ (x3_1 : Int) := of_decide_eq_true aO; have q418 : x3_1 < (l0.length : Int) := of_decide_eq_true aO; obtain ⟨ad418, e418, hx418_0⟩ := Kd.at_string HR0.out x3_1 p418 q418; have hw418_0 := hx418_0; have he_ : ad415 = ad418 := (by injection e418); subst he_; replace hx418_0 := cX HB hx418_0; replace p418 := eq_true p418; replace q418 := eq_true q418; refine start_ (n := 22) (S := fun w' => w'.cell? (ad415.add (x3_1).toNat) = some (.string (rdOf ByteArray.empty l0 x3_1)) ∧ w'.cell? (ad415.add ((ji7)).toNat) = some (.string (rdOf ByteArray.empty l0 (ji7))) ∧ w'.cell? (ad415.add (x3_1).toNat) = some (.string (rdOf ByteArray.empty l0 x3_1))) (ds := []) (bl 22 0) (by kernel_rfl) rfl rfl ⟨((HB.out.cell (World.block_lt_of_cell? w _ hw415_0)).trans hw415_0), ((HB.out.cell (World.block_lt_of_cell? w _ hw417_0)).trans hw417_0), ((HB.out.cell (World.block_lt_of_cell? w _ hw418_0)).trans hw418_0)⟩ (fun hHeld => ?_); refine with_tabW tabardref04_Rises.tab4 tabardref04_Rises.bits4 (fun HT_ HW_ => ?_); generalize wr.drew = w11 at HB hx415_0 hx417_0 hx418_0 hHeld ⊢; refine pu_ 0 10 (bl 22 1) HT_ ?_; refine pu_ 1 11 (bl 22 3) HT_ ?_; refine pu_ 2 12 (bl 22 7) HT_ ?_; refine tk3_ 3 13 (bl 22 15) HT_ HW_ hHeld ?_; refine one_ (i := 4) (N := some 14) (bl 22 31) rfl rfl (one_of HT_.out (by kernel_rfl)) (by decide) (fun K hK => ?_); refine gS_ Try.func66 #[.string (rdOf ByteArray.empty l0 x3_1)] ?_
          with_reducible refine (tabardref04_Name.calls k1 (rdOf ByteArray.empty l0 x3_1) true _ A4.out).mono ?_
          rintro e w12 ⟨rfl, hb⟩; refine ⟨_, rfl, ?_⟩; replace HB := hS0 HB hb
          (try clear hb)
          (try clear hb2)
          (try clear hk)
          (try clear hi)
          refine hK.out _ _ ⟨((HB.out.cell (World.block_lt_of_cell? w _ hw415_0)).trans hw415_0), ((HB.out.cell (World.block_lt_of_cell? w _ hw417_0)).trans hw417_0), ((HB.out.cell (World.block_lt_of_cell? w _ hw418_0)).trans hw418_0)⟩ (fun hHeld => ?_); clear hK K; refine nm_ 14 ?_; refine pu_ 5 15 (bl 22 63) HT_ ?_; refine pu_ 6 16 (bl 22 127) HT_ ?_; refine pu_ 7 17 (bl 22 255) HT_ ?_; refine pu_ 8 18 (bl 22 511) HT_ ?_; refine pu_ 9 19 (bl 22 1023) HT_ ?_; refine pu_ 10 20 (bl 22 2047) HT_ ?_; refine pu_ 11 21 (bl 22 4095) HT_ ?_; refine pu_ 12 22 (bl 22 8191) HT_ ?_; refine pu_ 13 23 (bl 22 16383) HT_ ?_; refine pu_ 15 25 (bl 22 49151) HT_ ?_; refine pu_ 16 26 (bl 22 114687) HT_ ?_; refine pu_ 17 27 (bl 22 245759) HT_ ?_; refine tk3_ 14 24 (bl 22 262143) HT_ HW_ hHeld ?_; refine tk3_ 18 28 (bl 22 524287) HT_ HW_ hHeld ?_; refine pu_ 19 29 (bl 22 1048575) HT_ ?_; refine pu_ 20 30 (bl 22 2097151) HT_ ?_; refine pu_ 21 31 (bl 22 4194303) HT_ ?_; refine done_ (done_of HT_.out (by kernel_rfl)) ?_
          try go_wp2
          go_roundg k1
          case measure => have := HK1.out; omega
          case rel => exact ⟨(wrap64 (x3_1 + 1)), sI, H', ⟨by have := HK1.out; omega⟩, ⟨bO HB.out⟩⟩
         ·rw [if_neg c10] at H
          have c10b0 : (Op.bytesLess ((rdOf ByteArray.empty l0 (ji7)).toList) ((rdOf ByteArray.empty l0 x3_1).toList)) = false := by simpa using c10
          clear c10; obtain rfl := Option.some.inj H
          try go_wp2
          replace HB := Aside0.mk (below_drew1 HB.out); have p415 : 0 ≤ (x3_1 : Int) := of_decide_eq_true aO; have q415 : x3_1 < (l0.length : Int) := of_decide_eq_true aO; obtain ⟨ad415, e415, hx415_0⟩ := Kd.at_string HR0.out x3_1 p415 q415; have hw415_0 := hx415_0; cases e415; replace hx415_0 := cX HB hx415_0; replace p415 := eq_true p415; replace q415 := eq_true q415; have p417 : 0 ≤ ((ji7) : Int) := of_decide_eq_true aO; have q417 : (ji7) < (l0.length : Int) := of_decide_eq_true aO; obtain ⟨ad417, e417, hx417_0⟩ := Kd.at_string HR0.out (ji7) p417 q417; have hw417_0 := hx417_0; have he_ : ad415 = ad417 := (by injection e417); subst he_; replace hx417_0 := cX HB hx417_0; replace p417 := eq_true p417; replace q417 := eq_true q417; have p418 : 0 ≤ (x3_1 : Int) := of_decide_eq_true aO; have q418 : x3_1 < (l0.length : Int) := of_decide_eq_true aO; obtain ⟨ad418, e418, hx418_0⟩ := Kd.at_string HR0.out x3_1 p418 q418; have hw418_0 := hx418_0; have he_ : ad415 = ad418 := (by injection e418); subst he_; replace hx418_0 := cX HB hx418_0; replace p418 := eq_true p418; replace q418 := eq_true q418; refine start_ (n := 22) (S := fun w' => w'.cell? (ad415.add (x3_1).toNat) = some (.string (rdOf ByteArray.empty l0 x3_1)) ∧ w'.cell? (ad415.add ((ji7)).toNat) = some (.string (rdOf ByteArray.empty l0 (ji7))) ∧ w'.cell? (ad415.add (x3_1).toNat) = some (.string (rdOf ByteArray.empty l0 x3_1))) (ds := []) (bl 22 0) (by kernel_rfl) rfl rfl ⟨((HB.out.cell (World.block_lt_of_cell? w _ hw415_0)).trans hw415_0), ((HB.out.cell (World.block_lt_of_cell? w _ hw417_0)).trans hw417_0), ((HB.out.cell (World.block_lt_of_cell? w _ hw418_0)).trans hw418_0)⟩ (fun hHeld => ?_); refine with_tabW tabardref04_Rises.tab4 tabardref04_Rises.bits4 (fun HT_ HW_ => ?_); generalize wr.drew = w13 at HB hx415_0 hx417_0 hx418_0 hHeld ⊢; refine pu_ 0 10 (bl 22 1) HT_ ?_; refine pu_ 1 11 (bl 22 3) HT_ ?_; refine pu_ 2 12 (bl 22 7) HT_ ?_; refine tk3_ 3 13 (bl 22 15) HT_ HW_ hHeld ?_; refine one_ (i := 4) (N := some 14) (bl 22 31) rfl rfl (one_of HT_.out (by kernel_rfl)) (by decide) (fun K hK => ?_); refine gS_ Try.func66 #[.string (rdOf ByteArray.empty l0 x3_1)] ?_
          with_reducible refine (tabardref04_Name.calls k1 (rdOf ByteArray.empty l0 x3_1) true _ A4.out).mono ?_
          rintro e w14 ⟨rfl, hb⟩; refine ⟨_, rfl, ?_⟩; replace HB := hS0 HB hb
          (try clear hb)
          (try clear hb2)
          (try clear hk)
          (try clear hi)
          refine hK.out _ _ ⟨((HB.out.cell (World.block_lt_of_cell? w _ hw415_0)).trans hw415_0), ((HB.out.cell (World.block_lt_of_cell? w _ hw417_0)).trans hw417_0), ((HB.out.cell (World.block_lt_of_cell? w _ hw418_0)).trans hw418_0)⟩ (fun hHeld => ?_); clear hK K; refine nm_ 14 ?_; refine pu_ 5 15 (bl 22 63) HT_ ?_; refine pu_ 6 16 (bl 22 127) HT_ ?_; refine pu_ 7 17 (bl 22 255) HT_ ?_; refine pu_ 8 18 (bl 22 511) HT_ ?_; refine pu_ 9 19 (bl 22 1023) HT_ ?_; refine pu_ 10 20 (bl 22 2047) HT_ ?_; refine pu_ 11 21 (bl 22 4095) HT_ ?_; refine pu_ 12 22 (bl 22 8191) HT_ ?_; refine pu_ 13 23 (bl 22 16383) HT_ ?_; refine pu_ 15 25 (bl 22 49151) HT_ ?_; refine pu_ 16 26 (bl 22 114687) HT_ ?_; refine pu_ 17 27 (bl 22 245759) HT_ ?_; refine tk3_ 14 24 (bl 22 262143) HT_ HW_ hHeld ?_; refine tk3_ 18 28 (bl 22 524287) HT_ HW_ hHeld ?_; refine pu_ 19 29 (bl 22 1048575) HT_ ?_; refine pu_ 20 30 (bl 22 2097151) HT_ ?_; refine pu_ 21 31 (bl 22 4194303) HT_ ?_; refine done_ (done_of HT_.out (by kernel_rfl)) ?_
          try go_wp2
          go_ret
          exact ⟨by first | rfl | (simp [errW_none, errW_some] <;> rfl) | (simp only [← hji7]; first | rfl | (simp [errW_none, errW_some] <;> rfl)) | (simp [*, errW_none, errW_some] <;> rfl), bO HB.out⟩
        ·rw [if_neg c9] at H; exact absurd H (by simp)
       ·rw [if_neg c8] at H; exact absurd H (by simp)
      ·rw [if_neg c6] at H; have c6b0 := decide_eq_false c6; clear c6; have H' := Aside0.mk H; clear H
       try go_wp2
       replace HB := Aside0.mk (below_drew1 HB.out); have p415 : 0 ≤ (x3_1 : Int) := of_decide_eq_true aO; have q415 : x3_1 < (l0.length : Int) := of_decide_eq_true aO; obtain ⟨ad415, e415, hx415_0⟩ := Kd.at_string HR0.out x3_1 p415 q415; have hw415_0 := hx415_0; cases e415; replace hx415_0 := cX HB hx415_0; replace p415 := eq_true p415; replace q415 := eq_true q415; refine start_ (n := 22) (S := fun w' => w'.cell? (ad415.add (x3_1).toNat) = some (.string (rdOf ByteArray.empty l0 x3_1))) (ds := []) (bl 22 0) (by kernel_rfl) rfl rfl (((HB.out.cell (World.block_lt_of_cell? w _ hw415_0)).trans hw415_0)) (fun hHeld => ?_); refine with_tabW tabardref04_Rises.tab4 tabardref04_Rises.bits4 (fun HT_ HW_ => ?_); generalize wr.drew = w15 at HB hx415_0 hHeld ⊢; refine pu_ 0 10 (bl 22 1) HT_ ?_; refine pu_ 1 11 (bl 22 3) HT_ ?_; refine pu_ 2 12 (bl 22 7) HT_ ?_; refine take_ (i := 3) (N := some 13) (v := ?_) (a' := ?_) (bl 22 15) rfl rfl (take_ofW HT_.out HW_.out (by kernel_rfl)) (fun _ _ _ h => h) (Or.inl ⟨by rfl, ?_⟩) hHeld ?_ ?_; rotate_left
       ·intro w' s0
        go_simp
        with_reducible rfl
       rotate_left
       ·simp only [Act.put, sA, sB, sC, i64_w, i32_w]
        rfl
       refine one_ (i := 4) (N := some 14) (bl 22 31) rfl rfl (one_of HT_.out (by kernel_rfl)) (by decide) (fun K hK => ?_); refine gS_ Try.func66 #[.string (rdOf ByteArray.empty l0 x3_1)] ?_
       with_reducible refine (tabardref04_Name.calls k1 (rdOf ByteArray.empty l0 x3_1) true _ A4.out).mono ?_
       rintro e w16 ⟨rfl, hb⟩; refine ⟨_, rfl, ?_⟩; replace HB := hS0 HB hb
       (try clear hb)
       (try clear hb2)
       (try clear hk)
       (try clear hi)
       refine hK.out _ _ (((HB.out.cell (World.block_lt_of_cell? w _ hw415_0)).trans hw415_0)) (fun hHeld => ?_); clear hK K; refine nm_ 14 ?_; refine pu_ 5 15 (bl 22 63) HT_ ?_; refine pu_ 6 16 (bl 22 127) HT_ ?_; refine pu_ 7 17 (bl 22 255) HT_ ?_; refine pu_ 8 18 (bl 22 511) HT_ ?_; refine pu_ 9 19 (bl 22 1023) HT_ ?_; refine pn_ 10 20 (bl 22 2047) HT_ ?_; refine pn_ 11 21 (bl 22 4095) HT_ ?_; refine pn_ 12 22 (bl 22 8191) HT_ ?_; refine pn_ 13 23 (bl 22 16383) HT_ ?_; refine pn_ 14 24 (bl 22 32767) HT_ ?_; refine pn_ 15 25 (bl 22 65535) HT_ ?_; refine pn_ 16 26 (bl 22 131071) HT_ ?_; refine pn_ 17 27 (bl 22 262143) HT_ ?_; refine pn_ 18 28 (bl 22 524287) HT_ ?_; refine pn_ 19 29 (bl 22 1048575) HT_ ?_; refine pu_ 20 30 (bl 22 2097151) HT_ ?_; refine pu_ 21 31 (bl 22 4194303) HT_ ?_; refine done_ (done_of HT_.out (by kernel_rfl)) ?_
       try go_wp2
       go_roundg k1
       case measure => have := HK1.out; omega
       case rel => exact ⟨(wrap64 (x3_1 + 1)), sI, H', ⟨by have := HK1.out; omega⟩, ⟨bO HB.out⟩⟩
     ·replace c5 := Bool.eq_false_iff.mpr c5; subst c5
      have H1 : (some false) = some r := by rw [if_neg (show ¬ (false = true) by decide)] at H; exact H
      clear H; have H := H1; clear H1; obtain rfl := Option.some.inj H
      try go_wp2
      replace HB := Aside0.mk (below_drew1 HB.out); have p415 : 0 ≤ (x3_1 : Int) := of_decide_eq_true aO; have q415 : x3_1 < (l0.length : Int) := of_decide_eq_true aO; obtain ⟨ad415, e415, hx415_0⟩ := Kd.at_string HR0.out x3_1 p415 q415; have hw415_0 := hx415_0; cases e415; replace hx415_0 := cX HB hx415_0; replace p415 := eq_true p415; replace q415 := eq_true q415; refine start_ (n := 22) (S := fun w' => w'.cell? (ad415.add (x3_1).toNat) = some (.string (rdOf ByteArray.empty l0 x3_1))) (ds := []) (bl 22 0) (by kernel_rfl) rfl rfl (((HB.out.cell (World.block_lt_of_cell? w _ hw415_0)).trans hw415_0)) (fun hHeld => ?_); refine with_tabW tabardref04_Rises.tab4 tabardref04_Rises.bits4 (fun HT_ HW_ => ?_); generalize wr.drew = w17 at HB hx415_0 hHeld ⊢; refine pu_ 0 10 (bl 22 1) HT_ ?_; refine pu_ 1 11 (bl 22 3) HT_ ?_; refine pu_ 2 12 (bl 22 7) HT_ ?_; refine take_ (i := 3) (N := some 13) (v := ?_) (a' := ?_) (bl 22 15) rfl rfl (take_ofW HT_.out HW_.out (by kernel_rfl)) (fun _ _ _ h => h) (Or.inl ⟨by rfl, ?_⟩) hHeld ?_ ?_; rotate_left
      ·intro w' s0
       go_simp
       with_reducible rfl
      rotate_left
      ·simp only [Act.put, sA, sB, sC, i64_w, i32_w]
       rfl
      refine one_ (i := 4) (N := some 14) (bl 22 31) rfl rfl (one_of HT_.out (by kernel_rfl)) (by decide) (fun K hK => ?_); refine gS_ Try.func66 #[.string (rdOf ByteArray.empty l0 x3_1)] ?_
      with_reducible refine (tabardref04_Name.calls k1 (rdOf ByteArray.empty l0 x3_1) false _ A4.out).mono ?_
      rintro e w18 ⟨rfl, hb⟩; refine ⟨_, rfl, ?_⟩; replace HB := hS0 HB hb
      (try clear hb)
      (try clear hb2)
      (try clear hk)
      (try clear hi)
      refine hK.out _ _ (((HB.out.cell (World.block_lt_of_cell? w _ hw415_0)).trans hw415_0)) (fun hHeld => ?_); clear hK K; refine nm_ 14 ?_; refine pu_ 5 15 (bl 22 63) HT_ ?_; refine pu_ 6 16 (bl 22 127) HT_ ?_; refine pn_ 7 17 (bl 22 255) HT_ ?_; refine pn_ 8 18 (bl 22 511) HT_ ?_; refine pn_ 9 19 (bl 22 1023) HT_ ?_; refine pn_ 10 20 (bl 22 2047) HT_ ?_; refine pn_ 11 21 (bl 22 4095) HT_ ?_; refine pn_ 12 22 (bl 22 8191) HT_ ?_; refine pn_ 13 23 (bl 22 16383) HT_ ?_; refine pn_ 14 24 (bl 22 32767) HT_ ?_; refine pn_ 15 25 (bl 22 65535) HT_ ?_; refine pn_ 16 26 (bl 22 131071) HT_ ?_; refine pn_ 17 27 (bl 22 262143) HT_ ?_; refine pn_ 18 28 (bl 22 524287) HT_ ?_; refine pn_ 19 29 (bl 22 1048575) HT_ ?_; refine pn_ 20 30 (bl 22 2097151) HT_ ?_; refine pu_ 21 31 (bl 22 4194303) HT_ ?_; refine done_ (done_of HT_.out (by kernel_rfl)) ?_
      try go_wp2
      go_ret
      exact ⟨eW, bO HB.out⟩
    ·rw [if_neg c3] at H; exact absurd H (by simp)
   ·rw [if_neg c2] at H; have c2b0 := decide_eq_false c2; clear c2; obtain rfl := Option.some.inj H
    go_wp2
    go_ret
    exact ⟨eW, bO HB.out⟩

end Go.Proofs.Ytghfclgcgecgdaa.X
namespace Go.Proofs.Ytghfclgcgecgdaa.X
open Go.RowKit Go.Proofs.YtghfclgcgecgdaaW.PrintWords Go.Proofs.YtghfclgcgecgdaaW.PrintLast Go.Proofs.YtghfclgcgecgdaaW.PrintMore
attribute [local go_sem] max2_int min2_int max_two min_two max_three min_three max_four min_four
set_option linter.unusedVariables false
set_option linter.unusedSimpArgs false

/-! ### tabardref12_Frame: function 32 -/
def tabardref12_Frame.f (k : Nat) (l0 : List ByteArray) (a1 : Int) : Option (Bool) := if (l0.length : Int) ≤ 6 then ((tabardref04_Rises.f k l0).bind fun t419 => (if t419 = true then (if a1 ≥ 1 then (some (decide (a1 ≤ 256))) else (some false)) else (some false))) else (some false)
theorem tabardref12_Frame.mono : ∀ a0 a1 k, LeO (tabardref12_Frame.f k a0 a1) (tabardref12_Frame.f (k + 1) a0 a1) := by
 intro a0 a1 k
 unfold tabardref12_Frame.f
 repeat' first | (with_reducible first | exact tabardref04_Rises.mono _ _ | exact lA | apply lI | refine lB ?_ fun _ => ?_) | exact lN _ | apply lI | refine lB ?_ fun _ => ?_
set_option maxHeartbeats 8000000 in
set_option maxRecDepth 100000 in
theorem tabardref12_Frame.calls (k : Nat) (A0 : Option Addr) (c0 : Nat) (l0 : List ByteArray) (a1 : Int) (r : Bool) (w : World) (hr0 : Kd.C Kd.string w A0 l0.length l0) (hc0 : l0.length ≤ c0) (h : tabardref12_Frame.f k l0 a1 = some r) :
  Calls Try.prog 32 #[.slice A0 l0.length c0, .int .i64 a1] w fun e w' => e = .returned (.bool r) ∧ Below w.heap.size w w' := by
 have HR0 := Aside0.mk hr0; have HC0 := Aside0.mk hc0; clear hr0 hc0; have HB := Aside0.mk (Below.refl w.heap.size w); have H : (if (l0.length : Int) ≤ 6 then ((tabardref04_Rises.f k l0).bind fun t419 => (if t419 = true then (if a1 ≥ 1 then (some (decide (a1 ≤ 256))) else (some false)) else (some false))) else (some false)) = some r := h; clear h
 by_cases c3 : (l0.length : Int) ≤ 6
 ·rw [if_pos c3] at H; have c3b0 := decide_eq_true c3; have c3b1 : decide (l0.length ≤ 6) = true := decide_eq_true (by omega); clear c3; replace H := Option.bind_eq_some_iff.mp H; obtain ⟨t419, A40, H⟩ := H; replace H : (if t419 = true then (if a1 ≥ 1 then (some (decide (a1 ≤ 256))) else (some false)) else (some false)) = some r := H; have A4 := Aside0.mk A40; clear A40
  by_cases c5 : t419 = true
  ·subst c5
   have H1 : (if a1 ≥ 1 then (some (decide (a1 ≤ 256))) else (some false)) = some r := by rw [if_pos rfl] at H; exact H
   clear H; have H := H1; clear H1
   by_cases c6 : a1 ≥ 1
   ·rw [if_pos c6] at H; have c6b0 := decide_eq_true c6; clear c6; obtain rfl := Option.some.inj H
    go_enter Try.func32, Try.ntmps32
    go_wp2_with (first | (go_at_call 59; (with_reducible refine (tabardref04_Rises.calls k _ _ l0 true _ ?s1 ?s2 A4.out).mono ?_); (case s1 => exact cO HR0.out); (case s2 => exact HC0.out); rintro e w7 ⟨rfl, hb⟩; replace HB := hS0 HB hb; (try clear hb); (try clear hb2); (try clear hk); (try clear hi)))
    go_ret
    exact ⟨eW, bO HB.out⟩
   ·rw [if_neg c6] at H; have c6b0 := decide_eq_false c6; clear c6; obtain rfl := Option.some.inj H
    go_enter Try.func32, Try.ntmps32
    go_wp2_with (first | (go_at_call 59; (with_reducible refine (tabardref04_Rises.calls k _ _ l0 true _ ?s1 ?s2 A4.out).mono ?_); (case s1 => exact cO HR0.out); (case s2 => exact HC0.out); rintro e w8 ⟨rfl, hb⟩; replace HB := hS0 HB hb; (try clear hb); (try clear hb2); (try clear hk); (try clear hi)))
    go_ret
    exact ⟨eW, bO HB.out⟩
  ·replace c5 := Bool.eq_false_iff.mpr c5; subst c5
   have H1 : (some false) = some r := by rw [if_neg (show ¬ (false = true) by decide)] at H; exact H
   clear H; have H := H1; clear H1; obtain rfl := Option.some.inj H
   go_enter Try.func32, Try.ntmps32
   go_wp2_with (first | (go_at_call 59; (with_reducible refine (tabardref04_Rises.calls k _ _ l0 false _ ?s1 ?s2 A4.out).mono ?_); (case s1 => exact cO HR0.out); (case s2 => exact HC0.out); rintro e w9 ⟨rfl, hb⟩; replace HB := hS0 HB hb; (try clear hb); (try clear hb2); (try clear hk); (try clear hi)))
   go_ret
   exact ⟨eW, bO HB.out⟩
 ·rw [if_neg c3] at H; have c3b0 := decide_eq_false c3; have c3b1 : decide (l0.length ≤ 6) = false := decide_eq_false (by omega); clear c3; obtain rfl := Option.some.inj H
  go_enter Try.func32, Try.ntmps32
  go_wp2
  go_ret
  exact ⟨eW, bO HB.out⟩

/-! ### tabardref12_Letters: function 33 -/
def tabardref12_Letters.l0 : Nat → Int → Int → Int → Option (Int)
 | 0, _, _, _ => none
 | k + 1, x0, x3, x4 => if x4 < x0 then (tabardref12_Letters.l0 k x0 (wrap64 (x3 * 2)) (wrap64 (x4 + 1))) else (some x3)
def tabardref12_Letters.f (k : Nat) (a0 : Int) : Option (Int) := tabardref12_Letters.l0 k a0 1 0
theorem tabardref12_Letters.mono_l : ∀ k, (∀ y0 y1 y2, LeO (tabardref12_Letters.l0 k y0 y1 y2) (tabardref12_Letters.l0 (k + 1) y0 y1 y2))
 | 0 => fun _ _ _ r h => by simp [tabardref12_Letters.l0] at h
 | k + 1 => by
  have ih0 := tabardref12_Letters.mono_l k
  ·intro y0 y1 y2
   unfold tabardref12_Letters.l0
   repeat' first | (with_reducible first | exact ih0 _ _ _ | exact lA | apply lI | refine lB ?_ fun _ => ?_) | exact lN _ | apply lI | refine lB ?_ fun _ => ?_
theorem tabardref12_Letters.mono : ∀ a0 k, LeO (tabardref12_Letters.f k a0) (tabardref12_Letters.f (k + 1) a0) := by
 intro a0 k; have ih0 := tabardref12_Letters.mono_l k
 unfold tabardref12_Letters.f
 repeat' first | (with_reducible first | exact ih0 _ _ _ | exact lA | apply lI | refine lB ?_ fun _ => ?_) | exact lN _ | apply lI | refine lB ?_ fun _ => ?_
set_option maxHeartbeats 8000000 in
set_option maxRecDepth 100000 in
theorem tabardref12_Letters.calls (k : Nat) (a0 : Int) (r : Int) (w : World) (h : tabardref12_Letters.f k a0 = some r) :
  Calls Try.prog 33 #[.int .i64 a0] w fun e w' => e = .returned (.int .i64 r) ∧ Drawn0 w w' := by
 have H : (tabardref12_Letters.l0 k a0 1 0) = some r := h; clear h; have H' := Aside0.mk H; clear H
 go_enter Try.func33, Try.ntmps33
 go_wp2
 go_loopg [3, 4] k (fun kq v3 v4 w' => ∃ (x3_1 : Int) (x4_1 : Int), v3 = .int .i64 x3_1 ∧ v4 = .int .i64 x4_1 ∧ Aside0 (tabardref12_Letters.l0 kq a0 x3_1 x4_1 = some r) ∧ Aside0 (kq ≤ k) ∧ Drawn0 w w')
 case atStart => exact ⟨(1), (0), sI, sI, H', ⟨Nat.le_refl _⟩, by repeat (first | exact Drawn0.refl _ | apply Drawn0.step)⟩
 case round =>
  clear H'; obtain ⟨x3_1, x4_1, rfl, rfl, HA, HK1, ⟨m1, rfl⟩⟩ := hrel; cases gk with
  | zero => exact absurd HA.out (by simp [tabardref12_Letters.l0])
  | succ k1 =>
   have H := HA.out; clear HA; simp only [tabardref12_Letters.l0] at H
   by_cases c2 : x4_1 < a0
   ·rw [if_pos c2] at H; have c2b0 := decide_eq_true c2; clear c2; have H' := Aside0.mk H; clear H
    go_wp2
    go_roundg k1
    case measure => have := HK1.out; omega
    case rel => exact ⟨(wrap64 (x3_1 * 2)), (wrap64 (x4_1 + 1)), sI, sI, H', ⟨by have := HK1.out; omega⟩, by repeat (first | exact Drawn0.refl _ | apply Drawn0.step)⟩
   ·rw [if_neg c2] at H; have c2b0 := decide_eq_false c2; clear c2; obtain rfl := Option.some.inj H
    go_wp2
    go_ret
    exact ⟨by first | rfl | (simp; done) | (simp [*]; done), by repeat (first | exact Drawn0.refl _ | apply Drawn0.step)⟩

end Go.Proofs.Ytghfclgcgecgdaa.X

/- What the functions of this seat compute, and that the program's calls come to just that: written by this session's own program out of the translation; no condition. -/
import Derived.Test.YthgoonohpfoagaaX0
namespace Go.Proofs.Ythgoonohpfoagaa.X
open Go.RowKit Go.Proofs.YthgoonohpfoagaaW.PrintWords Go.Proofs.YthgoonohpfoagaaW.PrintLast Go.Proofs.YthgoonohpfoagaaW.PrintMore
attribute [local go_sem] max2_int min2_int max_two min_two max_three min_three max_four min_four
set_option linter.unusedVariables false
set_option linter.unusedSimpArgs false
set_option maxHeartbeats 8000000
set_option maxRecDepth 100000

/-! ### glyph_Start: function 91 -/
mutual
def glyph_Start.j0 : Nat → Int → Bool → Option (Bool)
 | 0, _, _ => none
 | k + 1, x0, x3 => if x3 = true then (glyph_Start.j1 k x0 x3) else (if x0 ≥ 97 then (if x0 ≤ 122 then (glyph_Start.j1 k x0 (decide (x0 ≤ 122))) else (glyph_Start.j1 k x0 (x0 == 95))) else (glyph_Start.j1 k x0 (x0 == 95)))
def glyph_Start.j1 : Nat → Int → Bool → Option (Bool)
 | 0, _, _ => none
 | k + 1, x0, x3 => if x3 = true then (some true) else (if x0 ≥ 913 then (glyph_Start.j2 k x0 (decide (x0 ≤ 929))) else (glyph_Start.j2 k x0 false))
def glyph_Start.j2 : Nat → Int → Bool → Option (Bool)
 | 0, _, _ => none
 | k + 1, x0, x18 => if x18 = true then (some true) else (if x0 ≥ 931 then (glyph_Start.j3 k x0 (decide (x0 ≤ 937))) else (glyph_Start.j3 k x0 false))
def glyph_Start.j3 : Nat → Int → Bool → Option (Bool)
 | 0, _, _ => none
 | k + 1, x0, x18 => if x18 = true then (some true) else (if x0 ≥ 945 then (if x0 ≤ 969 then (some true) else (some false)) else (some false))
end
def glyph_Start.f (k : Nat) (a0 : Int) : Option (Bool) := if a0 ≥ 65 then (glyph_Start.j0 k a0 (decide (a0 ≤ 90))) else (glyph_Start.j0 k a0 false)
theorem glyph_Start.mono_l : ∀ k, (∀ y0 y1, LeO (glyph_Start.j0 k y0 y1) (glyph_Start.j0 (k + 1) y0 y1)) ∧ (∀ y0 y1, LeO (glyph_Start.j1 k y0 y1) (glyph_Start.j1 (k + 1) y0 y1)) ∧ (∀ y0 y1, LeO (glyph_Start.j2 k y0 y1) (glyph_Start.j2 (k + 1) y0 y1)) ∧ (∀ y0 y1, LeO (glyph_Start.j3 k y0 y1) (glyph_Start.j3 (k + 1) y0 y1))
 | 0 => ⟨fun _ _ r h => by simp [glyph_Start.j0] at h, fun _ _ r h => by simp [glyph_Start.j1] at h, fun _ _ r h => by simp [glyph_Start.j2] at h, fun _ _ r h => by simp [glyph_Start.j3] at h⟩
 | k + 1 => by
  obtain ⟨ih0, ih1, ih2, ih3⟩ := glyph_Start.mono_l k; refine ⟨?_, ?_, ?_, ?_⟩
  ·intro y0 y1
   unfold glyph_Start.j0
   repeat' first | (with_reducible first | exact ih0 _ _ | exact ih1 _ _ | exact ih2 _ _ | exact ih3 _ _ | exact lA | apply lI | refine lB ?_ fun _ => ?_) | exact lN _ | apply lI | refine lB ?_ fun _ => ?_
  ·intro y0 y1
   unfold glyph_Start.j1
   repeat' first | (with_reducible first | exact ih0 _ _ | exact ih1 _ _ | exact ih2 _ _ | exact ih3 _ _ | exact lA | apply lI | refine lB ?_ fun _ => ?_) | exact lN _ | apply lI | refine lB ?_ fun _ => ?_
  ·intro y0 y1
   unfold glyph_Start.j2
   repeat' first | (with_reducible first | exact ih0 _ _ | exact ih1 _ _ | exact ih2 _ _ | exact ih3 _ _ | exact lA | apply lI | refine lB ?_ fun _ => ?_) | exact lN _ | apply lI | refine lB ?_ fun _ => ?_
  ·intro y0 y1
   unfold glyph_Start.j3
   repeat' first | (with_reducible first | exact ih0 _ _ | exact ih1 _ _ | exact ih2 _ _ | exact ih3 _ _ | exact lA | apply lI | refine lB ?_ fun _ => ?_) | exact lN _ | apply lI | refine lB ?_ fun _ => ?_
theorem glyph_Start.mono : ∀ a0 k, LeO (glyph_Start.f k a0) (glyph_Start.f (k + 1) a0) := by
 intro a0 k; obtain ⟨ih0, ih1, ih2, ih3⟩ := glyph_Start.mono_l k
 unfold glyph_Start.f
 repeat' first | (with_reducible first | exact ih0 _ _ | exact ih1 _ _ | exact ih2 _ _ | exact ih3 _ _ | exact lA | apply lI | refine lB ?_ fun _ => ?_) | exact lN _ | apply lI | refine lB ?_ fun _ => ?_
theorem glyph_Start.calls (k : Nat) (z : Int) (r : Bool) (w : World) (h : glyph_Start.f k z = some r) :
  Calls Try.prog 91 #[.int .i32 z] w fun e w' => e = .returned (.bool r) ∧ Drawn0 w w' := by
 rw [glyph_Start.f] at h; have H := h; clear h; have W := aM H; clear H
 go_enter Try.func91, Try.ntmps91
 go_upto_region 1 with (fail)
 go_cut [3] (fun v3 wc => ∃ (kq : Nat) (M : Bool), v3 = .bool M ∧ Aside0 (glyph_Start.j0 kq z M = some r) ∧ Aside0 (kq ≤ k) ∧ Drawn0 w wc)
 case first =>
  have H := W.out; clear W
  by_cases R : z ≥ 65
  ·rw [if_pos R] at H; have E := dT R; clear R
   (first | rw [E] | (simp only [i64_w, i32_w]; rw [E]) | skip)
   have H' := aM H; clear H
   go_wp2
   go_meet
   case rel => exact ⟨_, (decide (z ≤ 90)), sI, H', ⟨by first | omega | exact Nat.le_refl _⟩, by repeat (first | exact Drawn0.refl _ | apply Drawn0.step)⟩
  ·rw [if_neg R] at H; have E := decide_eq_false R; clear R
   (first | rw [E] | (simp only [i64_w, i32_w]; rw [E]) | skip)
   have H' := aM H; clear H
   go_wp2
   go_meet
   case rel => exact ⟨_, (false), sI, H', ⟨by first | omega | exact Nat.le_refl _⟩, by repeat (first | exact Drawn0.refl _ | apply Drawn0.step)⟩
 case rest =>
  clear W
  obtain ⟨kq, M, rfl, HA, HJ1, ⟨mc1, rfl⟩⟩ := hcut; cases kq with
  | zero => exact absurd HA.out (by simp [glyph_Start.j0])
  | succ ah =>
   have H := HA.out; clear HA; simp only [glyph_Start.j0] at H; have Y := aM H; clear H
   go_upto_if 3 with (fail)
   go_cut [3] (fun v3 wc => ∃ (kq : Nat) (N : Bool), v3 = .bool N ∧ Aside0 (glyph_Start.j1 kq z N = some r) ∧ Aside0 (kq ≤ ah) ∧ Drawn0 w wc)
   case first =>
    have H := Y.out; clear Y
    by_cases c5 : M = true
    ·subst c5
     rw [if_pos rfl] at H; have H' := aM H; clear H
     go_wp2
     go_meet
     case rel => exact ⟨_, (true), sI, H', ⟨by have := HJ1.out; first | omega | exact Nat.le_refl _⟩, by repeat (first | exact Drawn0.refl _ | apply Drawn0.step)⟩
    ·replace c5 := Bool.eq_false_iff.mpr c5; subst c5
     rw [if_neg nF] at H
     by_cases U : z ≥ 97
     ·rw [if_pos U] at H; have F := dT U; clear U
      (first | rw [F] | (simp only [i64_w, i32_w]; rw [F]) | skip)
      by_cases V : z ≤ 122
      ·rw [if_pos V] at H; have ag := dT V; clear V; have H' := aM H; clear H
       go_wp2
       go_meet
       case rel => exact ⟨_, (decide (z ≤ 122)), sI, H', ⟨by have := HJ1.out; first | omega | exact Nat.le_refl _⟩, by repeat (first | exact Drawn0.refl _ | apply Drawn0.step)⟩
      ·rw [if_neg V] at H; have ag := decide_eq_false V; clear V; have H' := aM H; clear H
       go_wp2
       go_meet
       case rel => exact ⟨_, ((z == 95)), sI, H', ⟨by have := HJ1.out; first | omega | exact Nat.le_refl _⟩, by repeat (first | exact Drawn0.refl _ | apply Drawn0.step)⟩
     ·rw [if_neg U] at H; have F := decide_eq_false U; clear U
      (first | rw [F] | (simp only [i64_w, i32_w]; rw [F]) | skip)
      have H' := aM H; clear H
      go_wp2
      go_meet
      case rel => exact ⟨_, ((z == 95)), sI, H', ⟨by have := HJ1.out; first | omega | exact Nat.le_refl _⟩, by repeat (first | exact Drawn0.refl _ | apply Drawn0.step)⟩
   case rest =>
    clear Y
    obtain ⟨kq, N, rfl, HA, HJ3, ⟨mc3, rfl⟩⟩ := hcut; cases kq with
    | zero => exact absurd HA.out (by simp [glyph_Start.j1])
    | succ ai =>
     have H := HA.out; clear HA; simp only [glyph_Start.j1] at H
     by_cases c8 : N = true
     ·subst c8
      rw [if_pos rfl] at H; obtain rfl := Option.some.inj H
      go_wp2
      go_ret
      exact ⟨by first | rfl | (simp; done) | (simp [*]; done), by repeat (first | exact Drawn0.refl _ | apply Drawn0.step)⟩
     ·replace c8 := Bool.eq_false_iff.mpr c8; subst c8
      rw [if_neg nF] at H; have Z := aM H; clear H
      go_upto_region 5 with (fail)
      go_cut [18] (fun aa wc => ∃ (kq : Nat) (D : Bool), aa = .bool D ∧ Aside0 (glyph_Start.j2 kq z D = some r) ∧ Aside0 (kq ≤ ai) ∧ Drawn0 w wc)
      case first =>
       have H := Z.out; clear Z
       by_cases G : z ≥ 913
       ·rw [if_pos G] at H; have A := dT G; clear G
        (first | rw [A] | (simp only [i64_w, i32_w]; rw [A]) | skip)
        have H' := aM H; clear H
        go_wp2
        go_meet
        case rel => exact ⟨_, (decide (z ≤ 929)), sI, H', ⟨by have := HJ1.out; have := HJ3.out; first | omega | exact Nat.le_refl _⟩, by repeat (first | exact Drawn0.refl _ | apply Drawn0.step)⟩
       ·rw [if_neg G] at H; have A := decide_eq_false G; clear G
        (first | rw [A] | (simp only [i64_w, i32_w]; rw [A]) | skip)
        have H' := aM H; clear H
        go_wp2
        go_meet
        case rel => exact ⟨_, (false), sI, H', ⟨by have := HJ1.out; have := HJ3.out; first | omega | exact Nat.le_refl _⟩, by repeat (first | exact Drawn0.refl _ | apply Drawn0.step)⟩
      case rest =>
       clear Z
       obtain ⟨kq, D, rfl, HA, HJ8, ⟨mc8, rfl⟩⟩ := hcut; cases kq with
       | zero => exact absurd HA.out (by simp [glyph_Start.j2])
       | succ aj =>
        have H := HA.out; clear HA; simp only [glyph_Start.j2] at H
        by_cases P : D = true
        ·subst P
         rw [if_pos rfl] at H; obtain rfl := Option.some.inj H
         go_wp2
         go_ret
         exact ⟨by first | rfl | (simp; done) | (simp [*]; done), by repeat (first | exact Drawn0.refl _ | apply Drawn0.step)⟩
        ·replace P := Bool.eq_false_iff.mpr P; subst P
         rw [if_neg nF] at H; have O := aM H; clear H
         go_upto_region 6 with (fail)
         go_cut [18] (fun aa wc => ∃ (kq : Nat) (B : Bool), aa = .bool B ∧ Aside0 (glyph_Start.j3 kq z B = some r) ∧ Aside0 (kq ≤ aj) ∧ Drawn0 w wc)
         case first =>
          have H := O.out; clear O
          by_cases I : z ≥ 931
          ·rw [if_pos I] at H; have C := dT I; clear I
           (first | rw [C] | (simp only [i64_w, i32_w]; rw [C]) | skip)
           have H' := aM H; clear H
           go_wp2
           go_meet
           case rel => exact ⟨_, (decide (z ≤ 937)), sI, H', ⟨by have := HJ1.out; have := HJ3.out; have := HJ8.out; first | omega | exact Nat.le_refl _⟩, by repeat (first | exact Drawn0.refl _ | apply Drawn0.step)⟩
          ·rw [if_neg I] at H; have C := decide_eq_false I; clear I
           (first | rw [C] | (simp only [i64_w, i32_w]; rw [C]) | skip)
           have H' := aM H; clear H
           go_wp2
           go_meet
           case rel => exact ⟨_, (false), sI, H', ⟨by have := HJ1.out; have := HJ3.out; have := HJ8.out; first | omega | exact Nat.le_refl _⟩, by repeat (first | exact Drawn0.refl _ | apply Drawn0.step)⟩
         case rest =>
          clear O
          obtain ⟨kq, B, rfl, HA, HJ11, ⟨mc11, rfl⟩⟩ := hcut; cases kq with
          | zero => exact absurd HA.out (by simp [glyph_Start.j3])
          | succ ak =>
           have H := HA.out; clear HA; simp only [glyph_Start.j3] at H
           by_cases Q : B = true
           ·subst Q
            rw [if_pos rfl] at H; obtain rfl := Option.some.inj H
            go_wp2
            go_ret
            exact ⟨by first | rfl | (simp; done) | (simp [*]; done), by repeat (first | exact Drawn0.refl _ | apply Drawn0.step)⟩
           ·replace Q := Bool.eq_false_iff.mpr Q; subst Q
            rw [if_neg nF] at H
            by_cases J : z ≥ 945
            ·rw [if_pos J] at H; have ad := dT J; clear J
             by_cases L : z ≤ 969
             ·rw [if_pos L] at H; have ae := dT L; clear L; obtain rfl := Option.some.inj H
              go_wp2
              go_ret
              exact ⟨by first | rfl | (simp; done) | (simp [*]; done), by repeat (first | exact Drawn0.refl _ | apply Drawn0.step)⟩
             ·rw [if_neg L] at H; have ae := decide_eq_false L; clear L; obtain rfl := Option.some.inj H
              go_wp2
              go_ret
              exact ⟨by first | rfl | (simp; done) | (simp [*]; done), by repeat (first | exact Drawn0.refl _ | apply Drawn0.step)⟩
            ·rw [if_neg J] at H; have ad := decide_eq_false J; clear J; obtain rfl := Option.some.inj H
             go_wp2
             go_ret
             exact ⟨by first | rfl | (simp; done) | (simp [*]; done), by repeat (first | exact Drawn0.refl _ | apply Drawn0.step)⟩

end Go.Proofs.Ythgoonohpfoagaa.X

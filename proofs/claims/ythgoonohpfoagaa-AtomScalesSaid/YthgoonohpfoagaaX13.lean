/- What the functions of this seat compute, and that the program's calls come to just that: written by this session's own program out of the translation; no condition. -/
import Derived.Test.YthgoonohpfoagaaX0
namespace Go.Proofs.Ythgoonohpfoagaa.X
open Go.RowKit Go.Proofs.YthgoonohpfoagaaW.PrintWords Go.Proofs.YthgoonohpfoagaaW.PrintLast Go.Proofs.YthgoonohpfoagaaW.PrintMore
attribute [local go_sem] max2_int min2_int max_two min_two max_three min_three max_four min_four
set_option linter.unusedVariables false
set_option linter.unusedSimpArgs false
set_option maxHeartbeats 8000000
set_option maxRecDepth 100000

/-! ### tabardref12_ints: function 34 -/
def tabardref12_ints.l0 : Nat → List Int → List Int → Int → Option (Bool)
 | 0, _, _, _ => none
 | k + 1, x0, x1, x5 => if x5 < (x0.length : Int) then (if 0 ≤ x5 then (if x5 < (x1.length : Int) then (if (rd x0 x5) = (rd x1 x5) then (tabardref12_ints.l0 k x0 x1 (wrap64 (x5 + 1))) else (none)) else (none)) else (none)) else (some true)
def tabardref12_ints.f (k : Nat) (l0 : List Int) (l1 : List Int) : Option (Bool) := if (l0.length : Int) = (l1.length : Int) then (tabardref12_ints.l0 k l0 l1 0) else (none)
theorem tabardref12_ints.mono_l : ∀ k, (∀ y0 y1 y2, LeO (tabardref12_ints.l0 k y0 y1 y2) (tabardref12_ints.l0 (k + 1) y0 y1 y2))
 | 0 => fun _ _ _ r h => by simp [tabardref12_ints.l0] at h
 | k + 1 => by
  have ih0 := tabardref12_ints.mono_l k
  ·intro y0 y1 y2
   unfold tabardref12_ints.l0
   repeat' first | (with_reducible first | exact ih0 _ _ _ | exact lA | apply lI | refine lB ?_ fun _ => ?_) | exact lN _ | apply lI | refine lB ?_ fun _ => ?_
theorem tabardref12_ints.mono : ∀ a0 a1 k, LeO (tabardref12_ints.f k a0 a1) (tabardref12_ints.f (k + 1) a0 a1) := by
 intro a0 a1 k; have ih0 := tabardref12_ints.mono_l k
 unfold tabardref12_ints.f
 repeat' first | (with_reducible first | exact ih0 _ _ _ | exact lA | apply lI | refine lB ?_ fun _ => ?_) | exact lN _ | apply lI | refine lB ?_ fun _ => ?_
theorem tabardref12_ints.calls (k : Nat) (A0 : Option Addr) (c0 : Nat) (A : List Int) (A1 : Option Addr) (c1 : Nat) (B : List Int) (r : Bool) (w : World) (O : Kd.C (Kd.int .i64) w A0 A.length A) (P : A.length ≤ c0) (Q : Kd.C (Kd.int .i64) w A1 B.length B) (R : B.length ≤ c1) (h : tabardref12_ints.f k A B = some r) :
  Calls Try.prog 34 #[.slice A0 A.length c0, .slice A1 B.length c1] w fun e w' => e = .returned (.bool r) ∧ Drawn0 w w' := by
 have ae := aM O; have aq := aM P; clear O P; have af := aM Q; have ar := aM R; clear Q R; rw [tabardref12_ints.f] at h; have H := h; clear h
 by_cases I : (A.length : Int) = (B.length : Int)
 ·rw [if_pos I] at H; obtain ⟨ai, aj⟩ := bq I
  have ak : (A.length == B.length) = true := by first | simpa using I | (simp at I ⊢; omega)
  clear I; have H' := aM H; clear H
  go_enter Try.func34, Try.ntmps34
  go_wp2
  repeat (go_quiet (fail); try go_wp2)
  go_loopg [5] k (fun kq v5 w' => ∃ (z : Int), v5 = .int .i64 z ∧ Aside0 (tabardref12_ints.l0 kq A B z = some r) ∧ Aside0 (kq ≤ k) ∧ Drawn0 w w')
  case atStart => exact ⟨(0), sI, H', ⟨Nat.le_refl _⟩, by repeat (first | exact Drawn0.refl _ | apply Drawn0.step)⟩
  case round =>
   clear H'
   obtain ⟨z, rfl, HA, HK1, ⟨m1, rfl⟩⟩ := hrel; cases gk with
   | zero => exact absurd HA.out (by simp [tabardref12_ints.l0])
   | succ k1 =>
    have H := HA.out; clear HA; simp only [tabardref12_ints.l0] at H
    by_cases J : z < (A.length : Int)
    ·rw [if_pos J] at H; have U := dT J; clear J
     by_cases L : 0 ≤ z
     ·rw [if_pos L] at H; have am := dT L; clear L
      by_cases M : z < (B.length : Int)
      ·rw [if_pos M] at H; have an := dT M; clear M
       by_cases N : (rd A z) = (rd B z)
       ·rw [if_pos N] at H; obtain ⟨ao, ap⟩ := bq N; clear N; have H' := aM H; clear H; have D : 0 ≤ (z : Int) := oT aO; have E : z < (A.length : Int) := oT aO; obtain ⟨ag, V, Y⟩ := Kd.at_int ae.out z D E; cases V; replace D := eq_true D; replace E := eq_true E; have F : 0 ≤ (z : Int) := oT aO; have G : z < (B.length : Int) := oT aO; obtain ⟨ah, W, Z⟩ := Kd.at_int af.out z F G; cases W; replace F := eq_true F; replace G := eq_true G
        go_wp2
        repeat (go_quiet (fail); try go_wp2)
        go_roundg k1
        case measure => have := HK1.out; omega
        case rel => exact ⟨(wrap64 (z + 1)), sI, H', ⟨by have := HK1.out; omega⟩, by repeat (first | exact Drawn0.refl _ | apply Drawn0.step)⟩
       ·exact nX N H
      ·exact nX M H
     ·exact nX L H
    ·rw [if_neg J] at H; have U := decide_eq_false J; clear J; obtain rfl := Option.some.inj H
     go_wp2
     repeat (go_quiet (fail); try go_wp2)
     go_ret
     exact ⟨by first | rfl | (simp; done) | (simp [*]; done), by repeat (first | exact Drawn0.refl _ | apply Drawn0.step)⟩
 ·exact nX I H

end Go.Proofs.Ythgoonohpfoagaa.X

/- What the functions of this seat compute, and that the program's calls come to just that: written by this session's own program out of the translation; no condition. -/
import Derived.Test.YtninoenmhcbonaaX0
import Derived.Test.YtninoenmhcbonaaX60
namespace Go.Proofs.Ytninoenmhcbonaa.X
open Go.RowKit Go.Proofs.YtninoenmhcbonaaW.PrintWords Go.Proofs.YtninoenmhcbonaaW.PrintLast Go.Proofs.YtninoenmhcbonaaW.PrintMore
attribute [local go_sem] max2_int min2_int max_two min_two max_three min_three max_four min_four
set_option linter.unusedVariables false
set_option linter.unusedSimpArgs false
set_option maxHeartbeats 8000000
set_option maxRecDepth 100000

/-! ### word_Longest: function 50 -/
def word_Longest.l0 : Nat → Int → List Int → Int → Int → Option (Int)
 | 0, _, _, _, _ => none
 | k + 1, x3, x6, x7, x8 => if x8 < x7 then (if 0 ≤ x8 then (if x8 < (x6.length : Int) then ((word_Length.f (rd x6 x8)).bind fun t837 => (word_Longest.l0 k (mx x3 t837) x6 x7 (wrap64 (x8 + 1)))) else (none)) else (none)) else (some x3)
def word_Longest.f (k : Nat) (l0 : List Int) : Option (Int) := word_Longest.l0 k 1 l0 (l0.length : Int) 0
theorem word_Longest.mono_l : ∀ k, (∀ y0 y1 y2 y3, LeO (word_Longest.l0 k y0 y1 y2 y3) (word_Longest.l0 (k + 1) y0 y1 y2 y3))
 | 0 => fun _ _ _ _ r h => by simp [word_Longest.l0] at h
 | k + 1 => by
  have ih0 := word_Longest.mono_l k
  ·intro y0 y1 y2 y3
   unfold word_Longest.l0
   repeat' first | (with_reducible first | exact ih0 _ _ _ _ | exact lA | apply lI | refine lB ?_ fun _ => ?_) | exact lN _ | apply lI | refine lB ?_ fun _ => ?_
theorem word_Longest.mono : ∀ a0 k, LeO (word_Longest.f k a0) (word_Longest.f (k + 1) a0) := by
 intro a0 k; have ih0 := word_Longest.mono_l k
 unfold word_Longest.f
 repeat' first | (with_reducible first | exact ih0 _ _ _ _ | exact lA | apply lI | refine lB ?_ fun _ => ?_) | exact lN _ | apply lI | refine lB ?_ fun _ => ?_
theorem word_Longest.calls (k : Nat) (V : Option Addr) (W : Nat) (B : List Int) (r : Int) (w : World) (N : Kd.C (Kd.int .i64) w V B.length B) (O : B.length ≤ W) (h : word_Longest.f k B = some r) :
  Calls Try.prog 50 #[.slice V B.length W] w fun e w' => e = .returned (.int .i64 r) ∧ Below w.heap.size w w' := by
 have Y := aM N; have ag := aM O; clear N O; have HB := aM (Below.refl w.heap.size w); rw [word_Longest.f] at h; have H := h; clear h; have H' := aM H; clear H
 go_enter Try.func50, Try.ntmps50
 go_wp2
 go_loopg [3, 8] k (fun kq v3 v8 w' => ∃ (A : Int) (z : Int), v3 = .int .i64 A ∧ v8 = .int .i64 z ∧ Aside0 (word_Longest.l0 kq A B (B.length : Int) z = some r) ∧ Aside0 (kq ≤ k) ∧ BA w w')
 case atStart => exact ⟨(1), (0), sI, sI, H', ⟨Nat.le_refl _⟩, bT0 HB⟩
 case round =>
  clear H'; obtain ⟨A, z, rfl, rfl, HA, HK1, HB⟩ := hrel; cases gk with
  | zero => exact absurd HA.out (by simp [word_Longest.l0])
  | succ k1 =>
   have H := HA.out; clear HA; simp only [word_Longest.l0] at H
   by_cases J : z < (B.length : Int)
   ·rw [if_pos J] at H; have R := dT J; clear J
    by_cases L : 0 ≤ z
    ·rw [if_pos L] at H; have ae := dT L; clear L
     by_cases M : z < (B.length : Int)
     ·rw [if_pos M] at H; have af := dT M; clear M; replace H := Option.bind_eq_some_iff.mp H; obtain ⟨F, P, H⟩ := H; have Z := aM P; clear P; obtain ⟨Q, D⟩ : ∃ j_ : Int, (mx A F) = j_ := ⟨_, rfl⟩
      first | rw [D] at H | simp only [D] at H
      (try rw [D] at Z)
      have aa : (if A < F then F else A) = Q := D; have H' := aM H; clear H; have G : 0 ≤ (z : Int) := oT aO; have I : z < (B.length : Int) := oT aO; obtain ⟨ab, U, E⟩ := Kd.at_int Y.out z G I; cases U; replace E := cX HB E; replace G := eq_true G; replace I := eq_true I
      go_wp2_with (first | ((with_reducible refine gate_callee (f := 73) rfl ?_); refine gL_ (some 14) Try.func73 #[.int .i64 (rd B z)] ?_; (with_reducible refine (word_Length.calls (rd B z) F _ Z.out).mono ?_); rintro e w' ⟨rfl, ⟨nd, rfl⟩⟩; refine ⟨_, rfl, ?_⟩))
      go_roundg k1
      case measure => have := HK1.out; omega
      case rel => exact ⟨(Q), (wrap64 (z + 1)), (by first | rfl | (simp; done) | (simp only [← D] <;> (first | rfl | simp)) | (simp [*]; done)), sI, H', ⟨by have := HK1.out; omega⟩, bT0 HB⟩
     ·exact nX M H
    ·exact nX L H
   ·rw [if_neg J] at H; have R := decide_eq_false J; clear J; obtain rfl := Option.some.inj H
    go_wp2
    go_ret
    exact ⟨eW, bO HB.out⟩

end Go.Proofs.Ytninoenmhcbonaa.X

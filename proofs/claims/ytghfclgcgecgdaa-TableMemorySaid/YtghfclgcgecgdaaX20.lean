/- What the functions of this seat compute, and that the program's calls come to just that: written by this session's own program out of the translation; no condition. -/
import Derived.Test.YtghfclgcgecgdaaX0
namespace Go.Proofs.Ytghfclgcgecgdaa.X
open Go.RowKit Go.Proofs.YtghfclgcgecgdaaW.PrintWords Go.Proofs.YtghfclgcgecgdaaW.PrintLast Go.Proofs.YtghfclgcgecgdaaW.PrintMore
attribute [local go_sem] max2_int min2_int max_two min_two max_three min_three max_four min_four
set_option linter.unusedVariables false
set_option linter.unusedSimpArgs false
set_option maxHeartbeats 8000000
set_option maxRecDepth 100000

/-! ### tabardref12_ints: function 43 -/
def tabardref12_ints.l0 : Nat → List Int → List Int → Int → Option (Bool)
 | 0, _, _, _ => none
 | k + 1, x0, x1, x5 => if x5 < (x0.length : Int) then (if 0 ≤ x5 then (if x5 < (x1.length : Int) then (if (rd x0 x5) = (rd x1 x5) then (tabardref12_ints.l0 k x0 x1 (wrap64 (x5 + 1))) else (some false)) else (none)) else (none)) else (some true)
def tabardref12_ints.f (k : Nat) (l0 : List Int) (l1 : List Int) : Option (Bool) := if (l0.length : Int) = (l1.length : Int) then (tabardref12_ints.l0 k l0 l1 0) else (some false)
theorem tabardref12_ints.mono_l : ∀ k, (∀ y0 y1 y2, LeO (tabardref12_ints.l0 k y0 y1 y2) (tabardref12_ints.l0 (k + 1) y0 y1 y2))
 | 0 => fun _ _ _ r h => by simp [tabardref12_ints.l0] at h
 | k + 1 => by
  have ih0 := tabardref12_ints.mono_l k
  ·intro y0 y1 y2
   unfold tabardref12_ints.l0
   repeat' first | (with_reducible first | exact ih0 _ _ _ | exact lA | apply lI | refine lB ?_ fun _ => ?_) | exact lN _ | apply lI | refine lB ?_ fun _ => ?_
theorem tabardref12_ints.mono : ∀ a0 a1 k, LeO (tabardref12_ints.f k a0 a1) (tabardref12_ints.f (k + 1) a0 a1) := by
 intro a0 a1 k; have ih0 := tabardref12_ints.mono_l k
 unfold tabardref12_ints.f
 repeat' first | (with_reducible first | exact ih0 _ _ _ | exact lA | apply lI | refine lB ?_ fun _ => ?_) | exact lN _ | apply lI | refine lB ?_ fun _ => ?_
theorem tabardref12_ints.calls (k : Nat) (A0 : Option Addr) (c0 : Nat) (F : List Int) (A1 : Option Addr) (c1 : Nat) (G : List Int) (r : Bool) (w : World) (W : Kd.C (Kd.int .i64) w A0 F.length F) (Y : F.length ≤ c0) (Z : Kd.C (Kd.int .i64) w A1 G.length G) (aa : G.length ≤ c1) (h : tabardref12_ints.f k F G = some r) :
  Calls Try.prog 43 #[.slice A0 F.length c0, .slice A1 G.length c1] w fun e w' => e = .returned (.bool r) ∧ Drawn0 w w' := by
 have ab := aM W; have aq := aM Y; clear W Y; have ac := aM Z; have ar := aM aa; clear Z aa; rw [tabardref12_ints.f] at h; have H := h; clear h
 apply iB H <;> clear H <;> intro I H
 ·obtain ⟨ad, ae⟩ := bq I
  have af : (F.length == G.length) = true := by first | simpa using I | (simp at I ⊢; omega)
  clear I; have H' := aM H; clear H
  go_enter Try.func43, Try.ntmps43
  go_wp2
  repeat (go_quiet (fail); try go_wp2)
  go_loopg [5] k (fun kq v5 w' => ∃ (z : Int), v5 = .int .i64 z ∧ Aside0 (tabardref12_ints.l0 kq F G z = some r) ∧ Aside0 (kq ≤ k) ∧ Drawn0 w w')
  case atStart => exact ⟨(0), sI, H', ⟨Nat.le_refl _⟩, dRw⟩
  case round =>
   clear H'
   obtain ⟨z, rfl, HA, ak, ⟨m1, rfl⟩⟩ := hrel; cases gk with
   | zero => exact absurd HA.out (by simp [tabardref12_ints.l0])
   | succ k1 =>
    have H := HA.out; clear HA; simp only [tabardref12_ints.l0] at H
    apply iB H <;> clear H <;> intro M H
    ·have ag := dT M; clear M
     apply iN H; clear H; intro Q H; have ao := dT Q; clear Q
     apply iN H; clear H; intro R H; have ap := dT R; clear R
     apply iB H <;> clear H <;> intro P H
     ·obtain ⟨ah, ai⟩ := bq P; clear P; have H' := aM H; clear H; obtain ⟨⟨U, J, N⟩, A, B⟩ := xAt (Kd.at_int ab.out) z; cases J; obtain ⟨⟨V, L, O⟩, D, E⟩ := xAt (Kd.at_int ac.out) z; cases L
      go_wp2
      repeat (go_quiet (fail); try go_wp2)
      go_roundg k1
      case measure => have := ak.out; omega
      case rel => exact ⟨(wrap64 (z + 1)), sI, H', ⟨by have := ak.out; omega⟩, dRw⟩
     ·obtain ⟨ah, ai⟩ := bn P; obtain rfl := Option.some.inj H; obtain ⟨⟨U, J, N⟩, A, B⟩ := xAt (Kd.at_int ab.out) z; cases J; obtain ⟨⟨V, L, O⟩, D, E⟩ := xAt (Kd.at_int ac.out) z; cases L
      go_wp2
      repeat (go_quiet (fail); try go_wp2)
      go_ret
      exact ⟨eVl, dRw⟩
    ·have ag := decide_eq_false M; clear M; obtain rfl := Option.some.inj H
     go_wp2
     repeat (go_quiet (fail); try go_wp2)
     go_ret
     exact ⟨eVl, dRw⟩
 ·obtain ⟨ad, ae⟩ := bn I
  have af : (F.length == G.length) = false := by first | simpa using I | (simp at I ⊢; omega)
  obtain rfl := Option.some.inj H
  go_enter Try.func43, Try.ntmps43
  go_wp2
  repeat (go_quiet (fail); try go_wp2)
  go_ret
  exact ⟨eVl, dRw⟩

end Go.Proofs.Ytghfclgcgecgdaa.X

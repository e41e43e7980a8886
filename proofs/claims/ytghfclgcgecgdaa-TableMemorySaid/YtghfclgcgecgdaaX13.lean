/- What the functions of this seat compute, and that the program's calls come to just that: written by this session's own program out of the translation; no condition. -/
import Derived.Test.YtghfclgcgecgdaaX0
import Derived.Test.YtghfclgcgecgdaaX1
namespace Go.Proofs.Ytghfclgcgecgdaa.X
open Go.RowKit Go.Proofs.YtghfclgcgecgdaaW.PrintWords Go.Proofs.YtghfclgcgecgdaaW.PrintLast Go.Proofs.YtghfclgcgecgdaaW.PrintMore
attribute [local go_sem] max2_int min2_int max_two min_two max_three min_three max_four min_four
set_option linter.unusedVariables false
set_option linter.unusedSimpArgs false
set_option maxHeartbeats 8000000
set_option maxRecDepth 100000

attribute [local go_sem high] eqA58
/-! ### row_At: function 47 -/
def row_At.l0 : Nat → Int → List (S58) → Int → Int → Option (Int × Bool)
 | 0, _, _, _, _ => none
 | k + 1, x1, x8, x9, x10 => if x10 < x9 then (if 0 ≤ x10 then (if x10 < (x8.length : Int) then (if (Go.bits .and .i64 x1 ((rd_T58 x8 x10).f0)) = ((rd_T58 x8 x10).f1) then (some ((rd_T58 x8 x10).f2, true)) else (row_At.l0 k x1 x8 x9 (wrap64 (x10 + 1)))) else (none)) else (none)) else (some (0, false))
def row_At.f (k : Nat) (l0 : List (S58)) (a1 : Int) : Option (Int × Bool) := row_At.l0 k a1 l0 (l0.length : Int) 0
theorem row_At.mono_l : ∀ k, (∀ y0 y1 y2 y3, LeO (row_At.l0 k y0 y1 y2 y3) (row_At.l0 (k + 1) y0 y1 y2 y3))
 | 0 => fun _ _ _ _ r h => by simp [row_At.l0] at h
 | k + 1 => by
  have ih0 := row_At.mono_l k
  ·intro y0 y1 y2 y3
   unfold row_At.l0
   repeat' first | (with_reducible first | exact ih0 _ _ _ _ | exact lA | apply lI | refine lB ?_ fun _ => ?_) | exact lN _ | apply lI | refine lB ?_ fun _ => ?_
theorem row_At.mono : ∀ a0 a1 k, LeO (row_At.f k a0 a1) (row_At.f (k + 1) a0 a1) := by
 intro a0 a1 k; have ih0 := row_At.mono_l k
 unfold row_At.f
 repeat' first | (with_reducible first | exact ih0 _ _ _ _ | exact lA | apply lI | refine lB ?_ fun _ => ?_) | exact lN _ | apply lI | refine lB ?_ fun _ => ?_
theorem row_At.calls (k : Nat) (A0 : Option Addr) (c0 : Nat) (G : List (S58)) (P : Int) (r1 : Int) (r2 : Bool) (w : World) (Y : Kd.C k58 w A0 G.length G) (Z : G.length ≤ c0) (h : row_At.f k G P = some (r1, r2)) :
  Calls Try.prog 47 #[.slice A0 G.length c0, .int .i64 P] w fun e w' => e = .returned (.tuple #[.int .i64 r1, .bool r2]) ∧ Below w.heap.size w w' := by
 have hu58 := Try.underlying58; have aa := aM Y; have az := aM Z; clear Y Z; have HB := aM (Below.refl w.heap.size w); rw [row_At.f] at h; have H := h; clear h; have H' := aM H; clear H
 go_enter Try.func47, Try.ntmps47
 go_wp2
 go_loopg [10] k (fun kq ao w' => ∃ (z : Int), ao = .int .i64 z ∧ Aside0 (row_At.l0 kq P G (G.length : Int) z = some (r1, r2)) ∧ Aside0 (kq ≤ k) ∧ BA w w')
 case atStart => exact ⟨(0), sI, H', ⟨Nat.le_refl _⟩, bT0 HB⟩
 case round =>
  clear H'
  obtain ⟨z, rfl, HA, aC, HB⟩ := hrel; cases gk with
  | zero => exact absurd HA.out (by simp [row_At.l0])
  | succ k1 =>
   have H := HA.out; clear HA; simp only [row_At.l0] at H
   apply iB H <;> clear H <;> intro M H
   ·have ad := dT M; clear M
    apply iN H; clear H; intro Q H; have ax := dT Q; clear Q
    apply iN H; clear H; intro R H; have ay := dT R; clear R
    apply iB H <;> clear H <;> intro O H
    ·obtain ⟨ae, af⟩ := bq O; clear O; obtain ⟨rfl, rfl⟩ := pE2 H; obtain ⟨⟨U, L, A, B, D⟩, E, F⟩ := xAt (at_T58 aa.out) z; cases L; replace A := cX HB A; replace B := cX HB B; replace D := cX HB D
     go_wp2_with (first | ((with_reducible refine gate_dst (N := 7) rfl ?_); refine be_ (cs := #[.int .i64 0, .int .i64 0, .int .i64 0]) (t := 58) ?_; intro V hg w7 aA hb; have I := aM (aA); have W := gE hg (bP0 HB); have J := gE hg (bP0 HB); replace HB := hS0 HB hb; clear hb aA hg; obtain ⟨ap, aq, ar, au, av, aw⟩ := bG3 I))
     go_ret2
     exact ⟨eW, bS1 HB.out J.out⟩
    ·obtain ⟨ae, af⟩ := bn O; have H' := aM H; clear H; obtain ⟨⟨U, L, A, B, D⟩, E, F⟩ := xAt (at_T58 aa.out) z; cases L; replace A := cX HB A; replace B := cX HB B; replace D := cX HB D
     go_wp2_with (first | ((with_reducible refine gate_dst (N := 7) rfl ?_); refine be_ (cs := #[.int .i64 0, .int .i64 0, .int .i64 0]) (t := 58) ?_; intro V hg w9 aA hb; have I := aM (aA); have W := gE hg (bP0 HB); have J := gE hg (bP0 HB); replace HB := hS0 HB hb; clear hb aA hg; obtain ⟨ag, ah, ai, aj, ak, al⟩ := bG3 I))
     go_roundg k1
     case measure => have := aC.out; omega
     case rel => exact ⟨(wrap64 (z + 1)), sI, H', ⟨by have := aC.out; omega⟩, bT1 HB J⟩
   ·have ad := decide_eq_false M; clear M; obtain ⟨rfl, rfl⟩ := pE2 H
    go_wp2
    go_ret2
    exact ⟨eW, bO HB.out⟩

/-! ### api_Cube: function 52 -/
def api_Cube.l0 : Nat → List (S58) → List (S58) → Int → Int → Option (Bool)
 | 0, _, _, _, _ => none
 | k + 1, x0, x1, x12, x13 => if x13 < x12 then (if 0 ≤ x13 then (if x13 < (x0.length : Int) then (if x13 < (x1.length : Int) then (if (!(((rd_T58 x0 x13).f0) == ((rd_T58 x1 x13).f0)) || (!(((rd_T58 x0 x13).f1) == ((rd_T58 x1 x13).f1)) || (!(((rd_T58 x0 x13).f2) == ((rd_T58 x1 x13).f2))))) = true then (some false) else (api_Cube.l0 k x0 x1 x12 (wrap64 (x13 + 1)))) else (none)) else (none)) else (none)) else (some true)
def api_Cube.f (k : Nat) (l0 : List (S58)) (l1 : List (S58)) : Option (Bool) := if (l0.length : Int) = (l1.length : Int) then (api_Cube.l0 k l0 l1 (l0.length : Int) 0) else (some false)
theorem api_Cube.mono_l : ∀ k, (∀ y0 y1 y2 y3, LeO (api_Cube.l0 k y0 y1 y2 y3) (api_Cube.l0 (k + 1) y0 y1 y2 y3))
 | 0 => fun _ _ _ _ r h => by simp [api_Cube.l0] at h
 | k + 1 => by
  have ih0 := api_Cube.mono_l k
  ·intro y0 y1 y2 y3
   unfold api_Cube.l0
   repeat' first | (with_reducible first | exact ih0 _ _ _ _ | exact lA | apply lI | refine lB ?_ fun _ => ?_) | exact lN _ | apply lI | refine lB ?_ fun _ => ?_
theorem api_Cube.mono : ∀ a0 a1 k, LeO (api_Cube.f k a0 a1) (api_Cube.f (k + 1) a0 a1) := by
 intro a0 a1 k; have ih0 := api_Cube.mono_l k
 unfold api_Cube.f
 repeat' first | (with_reducible first | exact ih0 _ _ _ _ | exact lA | apply lI | refine lB ?_ fun _ => ?_) | exact lN _ | apply lI | refine lB ?_ fun _ => ?_
theorem api_Cube.calls (k : Nat) (A0 : Option Addr) (c0 : Nat) (A : List (S58)) (A1 : Option Addr) (c1 : Nat) (B : List (S58)) (r : Bool) (w : World) (ad : Kd.C k58 w A0 A.length A) (ae : A.length ≤ c0) (af : Kd.C k58 w A1 B.length B) (ag : B.length ≤ c1) (h : api_Cube.f k A B = some r) :
  Calls Try.prog 52 #[.slice A0 A.length c0, .slice A1 B.length c1] w fun e w' => e = .returned (.bool r) ∧ Drawn0 w w' := by
 have hu58 := Try.underlying58; have ah := aM ad; have ay := aM ae; clear ad ae; have ai := aM af; have az := aM ag; clear af ag; rw [api_Cube.f] at h; have H := h; clear h
 apply iB H <;> clear H <;> intro I H
 ·obtain ⟨aj, ak⟩ := bq I
  have al : (A.length == B.length) = true := by first | simpa using I | (simp at I ⊢; omega)
  clear I; have H' := aM H; clear H
  go_enter Try.func52, Try.ntmps52
  go_wp2
  repeat (go_quiet (fail); try go_wp2)
  go_loopg [13] k (fun kq au w' => ∃ (z : Int), au = .int .i64 z ∧ Aside0 (api_Cube.l0 kq A B (A.length : Int) z = some r) ∧ Aside0 (kq ≤ k) ∧ Drawn0 w w')
  case atStart => exact ⟨(0), sI, H', ⟨Nat.le_refl _⟩, dRw⟩
  case round =>
   clear H'
   obtain ⟨z, rfl, HA, aB, ⟨m1, rfl⟩⟩ := hrel; cases gk with
   | zero => exact absurd HA.out (by simp [api_Cube.l0])
   | succ k1 =>
    have H := HA.out; clear HA; simp only [api_Cube.l0] at H
    apply iB H <;> clear H <;> intro M H
    ·have am := dT M; clear M
     apply iN H; clear H; intro Y H; have av := dT Y; clear Y
     apply iN H; clear H; intro Z H; have aw := dT Z; clear Z
     apply iN H; clear H; intro c7 H; have ax := dT c7; clear c7
     apply iB H <;> clear H <;> intro O H
     ·have an : (!(((rd_T58 A z).f0) == ((rd_T58 B z).f0)) || (!(((rd_T58 A z).f1) == ((rd_T58 B z).f1)) || (!(((rd_T58 A z).f2) == ((rd_T58 B z).f2))))) = true := O; clear O; obtain rfl := Option.some.inj H; obtain ⟨⟨ab, J, P, Q, R⟩, D, E⟩ := xAt (at_T58 ah.out) z; cases J; obtain ⟨⟨ac, L, U, V, W⟩, F, G⟩ := xAt (at_T58 ai.out) z; cases L
      go_wp2
      repeat (go_quiet (fail); try go_wp2)
      go_ret
      exact ⟨eVl, dRw⟩
     ·have an : (!(((rd_T58 A z).f0) == ((rd_T58 B z).f0)) || (!(((rd_T58 A z).f1) == ((rd_T58 B z).f1)) || (!(((rd_T58 A z).f2) == ((rd_T58 B z).f2))))) = false := by simpa using O
      clear O; have H' := aM H; clear H; obtain ⟨⟨ab, J, P, Q, R⟩, D, E⟩ := xAt (at_T58 ah.out) z; cases J; obtain ⟨⟨ac, L, U, V, W⟩, F, G⟩ := xAt (at_T58 ai.out) z; cases L
      go_wp2
      repeat (go_quiet (fail); try go_wp2)
      go_roundg k1
      case measure => have := aB.out; omega
      case rel => exact ⟨(wrap64 (z + 1)), sI, H', ⟨by have := aB.out; omega⟩, dRw⟩
    ·have am := decide_eq_false M; clear M; obtain rfl := Option.some.inj H
     go_wp2
     repeat (go_quiet (fail); try go_wp2)
     go_ret
     exact ⟨eVl, dRw⟩
 ·obtain ⟨aj, ak⟩ := bn I
  have al : (A.length == B.length) = false := by first | simpa using I | (simp at I ⊢; omega)
  obtain rfl := Option.some.inj H
  go_enter Try.func52, Try.ntmps52
  go_wp2
  repeat (go_quiet (fail); try go_wp2)
  go_ret
  exact ⟨eVl, dRw⟩

end Go.Proofs.Ytghfclgcgecgdaa.X

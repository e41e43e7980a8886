/- What the functions of this seat compute, and that the program's calls come to just that: written by this session's own program out of the translation; no condition. -/
import Derived.Test.YtbpeloobnjbgkaaX0
namespace Go.Proofs.Ytbpeloobnjbgkaa.X
open Go.RowKit Go.Proofs.YtbpeloobnjbgkaaW.PrintWords Go.Proofs.YtbpeloobnjbgkaaW.PrintLast Go.Proofs.YtbpeloobnjbgkaaW.PrintMore
attribute [local go_sem] max2_int min2_int max_two min_two max_three min_three max_four min_four
set_option linter.unusedVariables false
set_option linter.unusedSimpArgs false
set_option maxHeartbeats 8000000
set_option maxRecDepth 100000

/-! ### slices_Equal_bool_bool: function 37 -/
def slices_Equal_bool_bool.l0 : Nat → List Bool → List Bool → Int → Int → Option (Bool)
 | 0, _, _, _, _ => none
 | k + 1, x0, x1, x12, x13 => if x13 < x12 then (if 0 ≤ x13 then (if x13 < (x0.length : Int) then (if x13 < (x1.length : Int) then (if ((rdOf false x0 x13) != (rdOf false x1 x13)) = true then (some false) else (slices_Equal_bool_bool.l0 k x0 x1 x12 (wrap64 (x13 + 1)))) else (none)) else (none)) else (none)) else (some true)
def slices_Equal_bool_bool.f (k : Nat) (l0 : List Bool) (l1 : List Bool) : Option (Bool) := if (l0.length : Int) = (l1.length : Int) then (slices_Equal_bool_bool.l0 k l0 l1 (l0.length : Int) 0) else (some false)
theorem slices_Equal_bool_bool.mono_l : ∀ k, (∀ y0 y1 y2 y3, LeO (slices_Equal_bool_bool.l0 k y0 y1 y2 y3) (slices_Equal_bool_bool.l0 (k + 1) y0 y1 y2 y3))
 | 0 => fun _ _ _ _ r h => by simp [slices_Equal_bool_bool.l0] at h
 | k + 1 => by
  have ih0 := slices_Equal_bool_bool.mono_l k
  ·intro y0 y1 y2 y3
   unfold slices_Equal_bool_bool.l0
   repeat' first | (with_reducible first | exact ih0 _ _ _ _ | exact lA | apply lI | refine lB ?_ fun _ => ?_) | exact lN _ | apply lI | refine lB ?_ fun _ => ?_
theorem slices_Equal_bool_bool.mono : ∀ a0 a1 k, LeO (slices_Equal_bool_bool.f k a0 a1) (slices_Equal_bool_bool.f (k + 1) a0 a1) := by
 intro a0 a1 k; have ih0 := slices_Equal_bool_bool.mono_l k
 unfold slices_Equal_bool_bool.f
 repeat' first | (with_reducible first | exact ih0 _ _ _ _ | exact lA | apply lI | refine lB ?_ fun _ => ?_) | exact lN _ | apply lI | refine lB ?_ fun _ => ?_
theorem slices_Equal_bool_bool.calls (k : Nat) (A0 : Option Addr) (c0 : Nat) (A : List Bool) (A1 : Option Addr) (c1 : Nat) (B : List Bool) (r : Bool) (w : World) (Y : Kd.C Kd.bool w A0 A.length A) (Z : A.length ≤ c0) (aa : Kd.C Kd.bool w A1 B.length B) (ab : B.length ≤ c1) (h : slices_Equal_bool_bool.f k A B = some r) :
  Calls Try.prog 37 #[.slice A0 A.length c0, .slice A1 B.length c1] w fun e w' => e = .returned (.bool r) ∧ Drawn0 w w' := by
 have ac := aM Y; have aw := aM Z; clear Y Z; have ad := aM aa; have ax := aM ab; clear aa ab; rw [slices_Equal_bool_bool.f] at h; have H := h; clear h
 apply iB H <;> clear H <;> intro J H
 ·obtain ⟨ae, af⟩ := bq J
  have ag : (A.length == B.length) = true := by first | simpa using J | (simp at J ⊢; omega)
  clear J; have H' := aM H; clear H
  go_enter Try.func37, Try.ntmps37
  go_wp2
  repeat (go_quiet (fail); try go_wp2)
  go_loopg [13] k (fun kq ap w' => ∃ (z : Int), ap = .int .i64 z ∧ Aside0 (slices_Equal_bool_bool.l0 kq A B (A.length : Int) z = some r) ∧ Aside0 (kq ≤ k) ∧ Drawn0 w w')
  case atStart => exact ⟨(0), sI, H', ⟨Nat.le_refl _⟩, dRw⟩
  case round =>
   clear H'
   obtain ⟨z, rfl, HA, am, ⟨m1, rfl⟩⟩ := hrel; cases gk with
   | zero => exact absurd HA.out (by simp [slices_Equal_bool_bool.l0])
   | succ k1 =>
    have H := HA.out; clear HA; simp only [slices_Equal_bool_bool.l0] at H
    apply iB H <;> clear H <;> intro N H
    ·have ah := dT N; clear N
     apply iN H; clear H; intro Q H; have aq := dT Q; clear Q
     apply iN H; clear H; intro R H; have ar := dT R; clear R
     apply iN H; clear H; intro U H; have au := dT U; clear U
     apply iB H <;> clear H <;> intro I H
     ·have ai : ((rdOf false A z) != (rdOf false B z)) = true := I
      (try (have aj : decide ((rdOf false A z) = (rdOf false B z)) = false := by simpa using I))
      (try (have ak : ((rdOf false A z) == (rdOf false B z)) = false := by simpa using I))
      (try (have av : ¬ ((rdOf false A z) = (rdOf false B z)) := by simpa using I))
      clear I; obtain rfl := Option.some.inj H; obtain ⟨⟨V, L, O⟩, D, E⟩ := xAt (Kd.at_bool ac.out) z; cases L; obtain ⟨⟨W, M, P⟩, F, G⟩ := xAt (Kd.at_bool ad.out) z; cases M
      go_wp2
      repeat (go_quiet (fail); try go_wp2)
      go_ret
      exact ⟨eVl, dRw⟩
     ·have ai : ((rdOf false A z) != (rdOf false B z)) = false := by simpa using I
      (try (have aj : decide ((rdOf false A z) = (rdOf false B z)) = true := by simpa using I))
      (try (have ak : ((rdOf false A z) == (rdOf false B z)) = true := by simpa using I))
      clear I; have H' := aM H; clear H; obtain ⟨⟨V, L, O⟩, D, E⟩ := xAt (Kd.at_bool ac.out) z; cases L; obtain ⟨⟨W, M, P⟩, F, G⟩ := xAt (Kd.at_bool ad.out) z; cases M
      go_wp2
      repeat (go_quiet (fail); try go_wp2)
      go_roundg k1
      case measure => have := am.out; omega
      case rel => exact ⟨(wrap64 (z + 1)), sI, H', ⟨by have := am.out; omega⟩, dRw⟩
    ·have ah := decide_eq_false N; clear N; obtain rfl := Option.some.inj H
     go_wp2
     repeat (go_quiet (fail); try go_wp2)
     go_ret
     exact ⟨eVl, dRw⟩
 ·obtain ⟨ae, af⟩ := bn J
  have ag : (A.length == B.length) = false := by first | simpa using J | (simp at J ⊢; omega)
  obtain rfl := Option.some.inj H
  go_enter Try.func37, Try.ntmps37
  go_wp2
  repeat (go_quiet (fail); try go_wp2)
  go_ret
  exact ⟨eVl, dRw⟩

/-! ### slices_Equal_int_int: function 40 -/
def slices_Equal_int_int.l0 : Nat → List Int → List Int → Int → Int → Option (Bool)
 | 0, _, _, _, _ => none
 | k + 1, x0, x1, x12, x13 => if x13 < x12 then (if 0 ≤ x13 then (if x13 < (x0.length : Int) then (if x13 < (x1.length : Int) then (if (rd x0 x13) = (rd x1 x13) then (slices_Equal_int_int.l0 k x0 x1 x12 (wrap64 (x13 + 1))) else (some false)) else (none)) else (none)) else (none)) else (some true)
def slices_Equal_int_int.f (k : Nat) (l0 : List Int) (l1 : List Int) : Option (Bool) := if (l0.length : Int) = (l1.length : Int) then (slices_Equal_int_int.l0 k l0 l1 (l0.length : Int) 0) else (some false)
theorem slices_Equal_int_int.mono_l : ∀ k, (∀ y0 y1 y2 y3, LeO (slices_Equal_int_int.l0 k y0 y1 y2 y3) (slices_Equal_int_int.l0 (k + 1) y0 y1 y2 y3))
 | 0 => fun _ _ _ _ r h => by simp [slices_Equal_int_int.l0] at h
 | k + 1 => by
  have ih0 := slices_Equal_int_int.mono_l k
  ·intro y0 y1 y2 y3
   unfold slices_Equal_int_int.l0
   repeat' first | (with_reducible first | exact ih0 _ _ _ _ | exact lA | apply lI | refine lB ?_ fun _ => ?_) | exact lN _ | apply lI | refine lB ?_ fun _ => ?_
theorem slices_Equal_int_int.mono : ∀ a0 a1 k, LeO (slices_Equal_int_int.f k a0 a1) (slices_Equal_int_int.f (k + 1) a0 a1) := by
 intro a0 a1 k; have ih0 := slices_Equal_int_int.mono_l k
 unfold slices_Equal_int_int.f
 repeat' first | (with_reducible first | exact ih0 _ _ _ _ | exact lA | apply lI | refine lB ?_ fun _ => ?_) | exact lN _ | apply lI | refine lB ?_ fun _ => ?_
theorem slices_Equal_int_int.calls (k : Nat) (A0 : Option Addr) (c0 : Nat) (A : List Int) (A1 : Option Addr) (c1 : Nat) (G : List Int) (r : Bool) (w : World) (Y : Kd.C (Kd.int .i64) w A0 A.length A) (Z : A.length ≤ c0) (aa : Kd.C (Kd.int .i64) w A1 G.length G) (ab : G.length ≤ c1) (h : slices_Equal_int_int.f k A G = some r) :
  Calls Try.prog 40 #[.slice A0 A.length c0, .slice A1 G.length c1] w fun e w' => e = .returned (.bool r) ∧ Drawn0 w w' := by
 have ac := aM Y; have au := aM Z; clear Y Z; have ad := aM aa; have av := aM ab; clear aa ab; rw [slices_Equal_int_int.f] at h; have H := h; clear h
 apply iB H <;> clear H <;> intro I H
 ·obtain ⟨ae, af⟩ := bq I
  have ag : (A.length == G.length) = true := by first | simpa using I | (simp at I ⊢; omega)
  clear I; have H' := aM H; clear H
  go_enter Try.func40, Try.ntmps40
  go_wp2
  repeat (go_quiet (fail); try go_wp2)
  go_loopg [13] k (fun kq ao w' => ∃ (z : Int), ao = .int .i64 z ∧ Aside0 (slices_Equal_int_int.l0 kq A G (A.length : Int) z = some r) ∧ Aside0 (kq ≤ k) ∧ Drawn0 w w')
  case atStart => exact ⟨(0), sI, H', ⟨Nat.le_refl _⟩, dRw⟩
  case round =>
   clear H'
   obtain ⟨z, rfl, HA, am, ⟨m1, rfl⟩⟩ := hrel; cases gk with
   | zero => exact absurd HA.out (by simp [slices_Equal_int_int.l0])
   | succ k1 =>
    have H := HA.out; clear HA; simp only [slices_Equal_int_int.l0] at H
    apply iB H <;> clear H <;> intro M H
    ·have ah := dT M; clear M
     apply iN H; clear H; intro Q H; have ap := dT Q; clear Q
     apply iN H; clear H; intro R H; have aq := dT R; clear R
     apply iN H; clear H; intro U H; have ar := dT U; clear U
     apply iB H <;> clear H <;> intro P H
     ·obtain ⟨ai, aj⟩ := bq P; clear P; have H' := aM H; clear H; obtain ⟨⟨V, J, N⟩, B, D⟩ := xAt (Kd.at_int ac.out) z; cases J; obtain ⟨⟨W, L, O⟩, E, F⟩ := xAt (Kd.at_int ad.out) z; cases L
      go_wp2
      repeat (go_quiet (fail); try go_wp2)
      go_roundg k1
      case measure => have := am.out; omega
      case rel => exact ⟨(wrap64 (z + 1)), sI, H', ⟨by have := am.out; omega⟩, dRw⟩
     ·obtain ⟨ai, aj⟩ := bn P; obtain rfl := Option.some.inj H; obtain ⟨⟨V, J, N⟩, B, D⟩ := xAt (Kd.at_int ac.out) z; cases J; obtain ⟨⟨W, L, O⟩, E, F⟩ := xAt (Kd.at_int ad.out) z; cases L
      go_wp2
      repeat (go_quiet (fail); try go_wp2)
      go_ret
      exact ⟨eVl, dRw⟩
    ·have ah := decide_eq_false M; clear M; obtain rfl := Option.some.inj H
     go_wp2
     repeat (go_quiet (fail); try go_wp2)
     go_ret
     exact ⟨eVl, dRw⟩
 ·obtain ⟨ae, af⟩ := bn I
  have ag : (A.length == G.length) = false := by first | simpa using I | (simp at I ⊢; omega)
  obtain rfl := Option.some.inj H
  go_enter Try.func40, Try.ntmps40
  go_wp2
  repeat (go_quiet (fail); try go_wp2)
  go_ret
  exact ⟨eVl, dRw⟩

end Go.Proofs.Ytbpeloobnjbgkaa.X

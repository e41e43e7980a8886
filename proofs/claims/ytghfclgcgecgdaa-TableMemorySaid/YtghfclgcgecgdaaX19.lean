/- What the functions of this seat compute, and that the program's calls come to just that: written by this session's own program out of the translation; no condition. -/
import Derived.Test.YtghfclgcgecgdaaX0
namespace Go.Proofs.Ytghfclgcgecgdaa.X
open Go.RowKit Go.Proofs.YtghfclgcgecgdaaW.PrintWords Go.Proofs.YtghfclgcgecgdaaW.PrintLast Go.Proofs.YtghfclgcgecgdaaW.PrintMore
attribute [local go_sem] max2_int min2_int max_two min_two max_three min_three max_four min_four
set_option linter.unusedVariables false
set_option linter.unusedSimpArgs false
set_option maxHeartbeats 8000000
set_option maxRecDepth 100000

/-! ### tabardref12_texts: function 41 -/
def tabardref12_texts.l0 : Nat → List ByteArray → List ByteArray → Int → Option (Bool)
 | 0, _, _, _ => none
 | k + 1, x0, x1, x5 => if x5 < (x0.length : Int) then (if 0 ≤ x5 then (if x5 < (x1.length : Int) then (if (rdOf ByteArray.empty x0 x5).toList = (rdOf ByteArray.empty x1 x5).toList then (tabardref12_texts.l0 k x0 x1 (wrap64 (x5 + 1))) else (some false)) else (none)) else (none)) else (some true)
def tabardref12_texts.f (k : Nat) (l0 : List ByteArray) (l1 : List ByteArray) : Option (Bool) := if (l0.length : Int) = (l1.length : Int) then (tabardref12_texts.l0 k l0 l1 0) else (some false)
theorem tabardref12_texts.mono_l : ∀ k, (∀ y0 y1 y2, LeO (tabardref12_texts.l0 k y0 y1 y2) (tabardref12_texts.l0 (k + 1) y0 y1 y2))
 | 0 => fun _ _ _ r h => by simp [tabardref12_texts.l0] at h
 | k + 1 => by
  have ih0 := tabardref12_texts.mono_l k
  ·intro y0 y1 y2
   unfold tabardref12_texts.l0
   repeat' first | (with_reducible first | exact ih0 _ _ _ | exact lA | apply lI | refine lB ?_ fun _ => ?_) | exact lN _ | apply lI | refine lB ?_ fun _ => ?_
theorem tabardref12_texts.mono : ∀ a0 a1 k, LeO (tabardref12_texts.f k a0 a1) (tabardref12_texts.f (k + 1) a0 a1) := by
 intro a0 a1 k; have ih0 := tabardref12_texts.mono_l k
 unfold tabardref12_texts.f
 repeat' first | (with_reducible first | exact ih0 _ _ _ | exact lA | apply lI | refine lB ?_ fun _ => ?_) | exact lN _ | apply lI | refine lB ?_ fun _ => ?_
theorem tabardref12_texts.calls (k : Nat) (A0 : Option Addr) (c0 : Nat) (F : List ByteArray) (A1 : Option Addr) (c1 : Nat) (G : List ByteArray) (r : Bool) (w : World) (W : Kd.C Kd.string w A0 F.length F) (Y : F.length ≤ c0) (Z : Kd.C Kd.string w A1 G.length G) (aa : G.length ≤ c1) (h : tabardref12_texts.f k F G = some r) :
  Calls Try.prog 41 #[.slice A0 F.length c0, .slice A1 G.length c1] w fun e w' => e = .returned (.bool r) ∧ Drawn0 w w' := by
 have ab := aM W; have aq := aM Y; clear W Y; have ac := aM Z; have ar := aM aa; clear Z aa; rw [tabardref12_texts.f] at h; have H := h; clear h
 apply iB H <;> clear H <;> intro I H
 ·obtain ⟨ad, ae⟩ := bq I
  have af : (F.length == G.length) = true := by first | simpa using I | (simp at I ⊢; omega)
  clear I; have H' := aM H; clear H
  go_enter Try.func41, Try.ntmps41
  go_wp2
  repeat (go_quiet (fail); try go_wp2)
  go_loopg [5] k (fun kq v5 w' => ∃ (z : Int), v5 = .int .i64 z ∧ Aside0 (tabardref12_texts.l0 kq F G z = some r) ∧ Aside0 (kq ≤ k) ∧ Drawn0 w w')
  case atStart => exact ⟨(0), sI, H', ⟨Nat.le_refl _⟩, dRw⟩
  case round =>
   clear H'
   obtain ⟨z, rfl, HA, al, ⟨m1, rfl⟩⟩ := hrel; cases gk with
   | zero => exact absurd HA.out (by simp [tabardref12_texts.l0])
   | succ k1 =>
    have H := HA.out; clear HA; simp only [tabardref12_texts.l0] at H
    apply iB H <;> clear H <;> intro M H
    ·have ag := dT M; clear M
     apply iN H; clear H; intro Q H; have ao := dT Q; clear Q
     apply iN H; clear H; intro R H; have ap := dT R; clear R
     apply iB H <;> clear H <;> intro P H
     ·obtain ⟨ah, ai⟩ := bq P; clear P; have H' := aM H; clear H; obtain ⟨⟨U, J, N⟩, A, B⟩ := xAt (Kd.at_string ab.out) z; cases J; obtain ⟨⟨V, L, O⟩, D, E⟩ := xAt (Kd.at_string ac.out) z; cases L
      go_wp2
      repeat (go_quiet (fail); try go_wp2)
      go_roundg k1
      case measure => have := al.out; omega
      case rel => exact ⟨(wrap64 (z + 1)), sI, H', ⟨by have := al.out; omega⟩, dRw⟩
     ·obtain ⟨ah, ai⟩ := bn P; obtain rfl := Option.some.inj H; obtain ⟨⟨U, J, N⟩, A, B⟩ := xAt (Kd.at_string ab.out) z; cases J; obtain ⟨⟨V, L, O⟩, D, E⟩ := xAt (Kd.at_string ac.out) z; cases L
      go_wp2
      repeat (go_quiet (fail); try go_wp2)
      go_ret
      exact ⟨eVl, dRw⟩
    ·have ag := decide_eq_false M; clear M; obtain rfl := Option.some.inj H
     go_wp2
     repeat (go_quiet (fail); try go_wp2)
     go_ret
     exact ⟨eVl, dRw⟩
 ·obtain ⟨ad, ae⟩ := bn I
  have af : (F.length == G.length) = false := by first | simpa using I | (simp at I ⊢; omega)
  obtain rfl := Option.some.inj H
  go_enter Try.func41, Try.ntmps41
  go_wp2
  repeat (go_quiet (fail); try go_wp2)
  go_ret
  exact ⟨eVl, dRw⟩

/-! ### tabardref12_flags: function 42 -/
def tabardref12_flags.l0 : Nat → List Bool → List Bool → Int → Option (Bool)
 | 0, _, _, _ => none
 | k + 1, x0, x1, x5 => if x5 < (x0.length : Int) then (if 0 ≤ x5 then (if x5 < (x1.length : Int) then (if ((rdOf false x0 x5) != (rdOf false x1 x5)) = true then (some false) else (tabardref12_flags.l0 k x0 x1 (wrap64 (x5 + 1)))) else (none)) else (none)) else (some true)
def tabardref12_flags.f (k : Nat) (l0 : List Bool) (l1 : List Bool) : Option (Bool) := if (l0.length : Int) = (l1.length : Int) then (tabardref12_flags.l0 k l0 l1 0) else (some false)
theorem tabardref12_flags.mono_l : ∀ k, (∀ y0 y1 y2, LeO (tabardref12_flags.l0 k y0 y1 y2) (tabardref12_flags.l0 (k + 1) y0 y1 y2))
 | 0 => fun _ _ _ r h => by simp [tabardref12_flags.l0] at h
 | k + 1 => by
  have ih0 := tabardref12_flags.mono_l k
  ·intro y0 y1 y2
   unfold tabardref12_flags.l0
   repeat' first | (with_reducible first | exact ih0 _ _ _ | exact lA | apply lI | refine lB ?_ fun _ => ?_) | exact lN _ | apply lI | refine lB ?_ fun _ => ?_
theorem tabardref12_flags.mono : ∀ a0 a1 k, LeO (tabardref12_flags.f k a0 a1) (tabardref12_flags.f (k + 1) a0 a1) := by
 intro a0 a1 k; have ih0 := tabardref12_flags.mono_l k
 unfold tabardref12_flags.f
 repeat' first | (with_reducible first | exact ih0 _ _ _ | exact lA | apply lI | refine lB ?_ fun _ => ?_) | exact lN _ | apply lI | refine lB ?_ fun _ => ?_
theorem tabardref12_flags.calls (k : Nat) (A0 : Option Addr) (c0 : Nat) (A : List Bool) (A1 : Option Addr) (c1 : Nat) (B : List Bool) (r : Bool) (w : World) (W : Kd.C Kd.bool w A0 A.length A) (Y : A.length ≤ c0) (Z : Kd.C Kd.bool w A1 B.length B) (aa : B.length ≤ c1) (h : tabardref12_flags.f k A B = some r) :
  Calls Try.prog 42 #[.slice A0 A.length c0, .slice A1 B.length c1] w fun e w' => e = .returned (.bool r) ∧ Drawn0 w w' := by
 have ab := aM W; have au := aM Y; clear W Y; have ac := aM Z; have av := aM aa; clear Z aa; rw [tabardref12_flags.f] at h; have H := h; clear h
 apply iB H <;> clear H <;> intro J H
 ·obtain ⟨ad, ae⟩ := bq J
  have af : (A.length == B.length) = true := by first | simpa using J | (simp at J ⊢; omega)
  clear J; have H' := aM H; clear H
  go_enter Try.func42, Try.ntmps42
  go_wp2
  repeat (go_quiet (fail); try go_wp2)
  go_loopg [5] k (fun kq v5 w' => ∃ (z : Int), v5 = .int .i64 z ∧ Aside0 (tabardref12_flags.l0 kq A B z = some r) ∧ Aside0 (kq ≤ k) ∧ Drawn0 w w')
  case atStart => exact ⟨(0), sI, H', ⟨Nat.le_refl _⟩, dRw⟩
  case round =>
   clear H'
   obtain ⟨z, rfl, HA, al, ⟨m1, rfl⟩⟩ := hrel; cases gk with
   | zero => exact absurd HA.out (by simp [tabardref12_flags.l0])
   | succ k1 =>
    have H := HA.out; clear HA; simp only [tabardref12_flags.l0] at H
    apply iB H <;> clear H <;> intro N H
    ·have ag := dT N; clear N
     apply iN H; clear H; intro Q H; have ap := dT Q; clear Q
     apply iN H; clear H; intro R H; have aq := dT R; clear R
     apply iB H <;> clear H <;> intro I H
     ·have ah : ((rdOf false A z) != (rdOf false B z)) = true := I
      (try (have ai : decide ((rdOf false A z) = (rdOf false B z)) = false := by simpa using I))
      (try (have aj : ((rdOf false A z) == (rdOf false B z)) = false := by simpa using I))
      (try (have ar : ¬ ((rdOf false A z) = (rdOf false B z)) := by simpa using I))
      clear I; obtain rfl := Option.some.inj H; obtain ⟨⟨U, L, O⟩, D, E⟩ := xAt (Kd.at_bool ab.out) z; cases L; obtain ⟨⟨V, M, P⟩, F, G⟩ := xAt (Kd.at_bool ac.out) z; cases M
      go_wp2
      repeat (go_quiet (fail); try go_wp2)
      go_ret
      exact ⟨eVl, dRw⟩
     ·have ah : ((rdOf false A z) != (rdOf false B z)) = false := by simpa using I
      (try (have ai : decide ((rdOf false A z) = (rdOf false B z)) = true := by simpa using I))
      (try (have aj : ((rdOf false A z) == (rdOf false B z)) = true := by simpa using I))
      clear I; have H' := aM H; clear H; obtain ⟨⟨U, L, O⟩, D, E⟩ := xAt (Kd.at_bool ab.out) z; cases L; obtain ⟨⟨V, M, P⟩, F, G⟩ := xAt (Kd.at_bool ac.out) z; cases M
      go_wp2
      repeat (go_quiet (fail); try go_wp2)
      go_roundg k1
      case measure => have := al.out; omega
      case rel => exact ⟨(wrap64 (z + 1)), sI, H', ⟨by have := al.out; omega⟩, dRw⟩
    ·have ag := decide_eq_false N; clear N; obtain rfl := Option.some.inj H
     go_wp2
     repeat (go_quiet (fail); try go_wp2)
     go_ret
     exact ⟨eVl, dRw⟩
 ·obtain ⟨ad, ae⟩ := bn J
  have af : (A.length == B.length) = false := by first | simpa using J | (simp at J ⊢; omega)
  obtain rfl := Option.some.inj H
  go_enter Try.func42, Try.ntmps42
  go_wp2
  repeat (go_quiet (fail); try go_wp2)
  go_ret
  exact ⟨eVl, dRw⟩

end Go.Proofs.Ytghfclgcgecgdaa.X

/- What the functions of this seat compute, and that the program's calls come to just that: written by this session's own program out of the translation; no condition. -/
import Derived.Test.YthgoonohpfoagaaX0
namespace Go.Proofs.Ythgoonohpfoagaa.X
open Go.RowKit Go.Proofs.YthgoonohpfoagaaW.PrintWords Go.Proofs.YthgoonohpfoagaaW.PrintLast Go.Proofs.YthgoonohpfoagaaW.PrintMore
attribute [local go_sem] max2_int min2_int max_two min_two max_three min_three max_four min_four
set_option linter.unusedVariables false
set_option linter.unusedSimpArgs false
set_option maxHeartbeats 8000000
set_option maxRecDepth 100000

/-! ### tabardref12_texts: function 32 -/
def tabardref12_texts.l0 : Nat → List ByteArray → List ByteArray → Int → Option (Bool)
 | 0, _, _, _ => none
 | k + 1, x0, x1, x5 => if x5 < (x0.length : Int) then (if 0 ≤ x5 then (if x5 < (x1.length : Int) then (if (rdOf ByteArray.empty x0 x5).toList = (rdOf ByteArray.empty x1 x5).toList then (tabardref12_texts.l0 k x0 x1 (wrap64 (x5 + 1))) else (none)) else (none)) else (none)) else (some true)
def tabardref12_texts.f (k : Nat) (l0 : List ByteArray) (l1 : List ByteArray) : Option (Bool) := if (l0.length : Int) = (l1.length : Int) then (tabardref12_texts.l0 k l0 l1 0) else (none)
theorem tabardref12_texts.mono_l : ∀ k, (∀ y0 y1 y2, LeO (tabardref12_texts.l0 k y0 y1 y2) (tabardref12_texts.l0 (k + 1) y0 y1 y2))
 | 0 => fun _ _ _ r h => by simp [tabardref12_texts.l0] at h
 | k + 1 => by
  have ih0 := tabardref12_texts.mono_l k
  ·intro y0 y1 y2
   unfold tabardref12_texts.l0
   repeat' first | (with_reducible first | exact ih0 _ _ _ | exact lA | apply lI | refine lB ?_ fun _ => ?_) | exact lN _ | apply lI | refine lB ?_ fun _ => ?_
theorem tabardref12_texts.mono : ∀ a0 a1 k, LeO (tabardref12_texts.f k a0 a1) (tabardref12_texts.f (k + 1) a0 a1) := by
 intro a0 a1 k; have ih0 := tabardref12_texts.mono_l k
 unfold tabardref12_texts.f
 repeat' first | (with_reducible first | exact ih0 _ _ _ | exact lA | apply lI | refine lB ?_ fun _ => ?_) | exact lN _ | apply lI | refine lB ?_ fun _ => ?_
theorem tabardref12_texts.calls (k : Nat) (A0 : Option Addr) (c0 : Nat) (A : List ByteArray) (A1 : Option Addr) (c1 : Nat) (B : List ByteArray) (r : Bool) (w : World) (O : Kd.C Kd.string w A0 A.length A) (P : A.length ≤ c0) (Q : Kd.C Kd.string w A1 B.length B) (R : B.length ≤ c1) (h : tabardref12_texts.f k A B = some r) :
  Calls Try.prog 32 #[.slice A0 A.length c0, .slice A1 B.length c1] w fun e w' => e = .returned (.bool r) ∧ Drawn0 w w' := by
 have ae := aM O; have aq := aM P; clear O P; have af := aM Q; have ar := aM R; clear Q R; rw [tabardref12_texts.f] at h; have H := h; clear h
 by_cases I : (A.length : Int) = (B.length : Int)
 ·rw [if_pos I] at H; obtain ⟨ai, aj⟩ := bq I
  have ak : (A.length == B.length) = true := by first | simpa using I | (simp at I ⊢; omega)
  clear I; have H' := aM H; clear H
  go_enter Try.func32, Try.ntmps32
  go_wp2
  repeat (go_quiet (fail); try go_wp2)
  go_loopg [5] k (fun kq v5 w' => ∃ (z : Int), v5 = .int .i64 z ∧ Aside0 (tabardref12_texts.l0 kq A B z = some r) ∧ Aside0 (kq ≤ k) ∧ Drawn0 w w')
  case atStart => exact ⟨(0), sI, H', ⟨Nat.le_refl _⟩, by repeat (first | exact Drawn0.refl _ | apply Drawn0.step)⟩
  case round =>
   clear H'
   obtain ⟨z, rfl, HA, HK1, ⟨m1, rfl⟩⟩ := hrel; cases gk with
   | zero => exact absurd HA.out (by simp [tabardref12_texts.l0])
   | succ k1 =>
    have H := HA.out; clear HA; simp only [tabardref12_texts.l0] at H
    by_cases J : z < (A.length : Int)
    ·rw [if_pos J] at H; have U := dT J; clear J
     by_cases L : 0 ≤ z
     ·rw [if_pos L] at H; have am := dT L; clear L
      by_cases M : z < (B.length : Int)
      ·rw [if_pos M] at H; have an := dT M; clear M
       by_cases N : (rdOf ByteArray.empty A z).toList = (rdOf ByteArray.empty B z).toList
       ·rw [if_pos N] at H; obtain ⟨ao, ap⟩ := bq N; clear N; have H' := aM H; clear H; have D : 0 ≤ (z : Int) := oT aO; have E : z < (A.length : Int) := oT aO; obtain ⟨ag, V, Y⟩ := Kd.at_string ae.out z D E; cases V; replace D := eq_true D; replace E := eq_true E; have F : 0 ≤ (z : Int) := oT aO; have G : z < (B.length : Int) := oT aO; obtain ⟨ah, W, Z⟩ := Kd.at_string af.out z F G; cases W; replace F := eq_true F; replace G := eq_true G
        go_wp2
        repeat (go_quiet (fail); try go_wp2)
        go_roundg k1
        case measure => have := HK1.out; omega
        case rel => exact ⟨(wrap64 (z + 1)), sI, H', ⟨by have := HK1.out; omega⟩, by repeat (first | exact Drawn0.refl _ | apply Drawn0.step)⟩
       ·exact nX N H
      ·exact nX M H
     ·exact nX L H
    ·rw [if_neg J] at H; have U := decide_eq_false J; clear J; obtain rfl := Option.some.inj H
     go_wp2
     repeat (go_quiet (fail); try go_wp2)
     go_ret
     exact ⟨by first | rfl | (simp; done) | (simp [*]; done), by repeat (first | exact Drawn0.refl _ | apply Drawn0.step)⟩
 ·exact nX I H

/-! ### tabardref12_flags: function 33 -/
def tabardref12_flags.l0 : Nat → List Bool → List Bool → Int → Option (Bool)
 | 0, _, _, _ => none
 | k + 1, x0, x1, x5 => if x5 < (x0.length : Int) then (if 0 ≤ x5 then (if x5 < (x1.length : Int) then (if ((rdOf false x0 x5) != (rdOf false x1 x5)) = true then (none) else (tabardref12_flags.l0 k x0 x1 (wrap64 (x5 + 1)))) else (none)) else (none)) else (some true)
def tabardref12_flags.f (k : Nat) (l0 : List Bool) (l1 : List Bool) : Option (Bool) := if (l0.length : Int) = (l1.length : Int) then (tabardref12_flags.l0 k l0 l1 0) else (none)
theorem tabardref12_flags.mono_l : ∀ k, (∀ y0 y1 y2, LeO (tabardref12_flags.l0 k y0 y1 y2) (tabardref12_flags.l0 (k + 1) y0 y1 y2))
 | 0 => fun _ _ _ r h => by simp [tabardref12_flags.l0] at h
 | k + 1 => by
  have ih0 := tabardref12_flags.mono_l k
  ·intro y0 y1 y2
   unfold tabardref12_flags.l0
   repeat' first | (with_reducible first | exact ih0 _ _ _ | exact lA | apply lI | refine lB ?_ fun _ => ?_) | exact lN _ | apply lI | refine lB ?_ fun _ => ?_
theorem tabardref12_flags.mono : ∀ a0 a1 k, LeO (tabardref12_flags.f k a0 a1) (tabardref12_flags.f (k + 1) a0 a1) := by
 intro a0 a1 k; have ih0 := tabardref12_flags.mono_l k
 unfold tabardref12_flags.f
 repeat' first | (with_reducible first | exact ih0 _ _ _ | exact lA | apply lI | refine lB ?_ fun _ => ?_) | exact lN _ | apply lI | refine lB ?_ fun _ => ?_
theorem tabardref12_flags.calls (k : Nat) (A0 : Option Addr) (c0 : Nat) (A : List Bool) (A1 : Option Addr) (c1 : Nat) (B : List Bool) (r : Bool) (w : World) (O : Kd.C Kd.bool w A0 A.length A) (P : A.length ≤ c0) (Q : Kd.C Kd.bool w A1 B.length B) (R : B.length ≤ c1) (h : tabardref12_flags.f k A B = some r) :
  Calls Try.prog 33 #[.slice A0 A.length c0, .slice A1 B.length c1] w fun e w' => e = .returned (.bool r) ∧ Drawn0 w w' := by
 have ae := aM O; have ar := aM P; clear O P; have af := aM Q; have au := aM R; clear Q R; rw [tabardref12_flags.f] at h; have H := h; clear h
 by_cases I : (A.length : Int) = (B.length : Int)
 ·rw [if_pos I] at H; obtain ⟨ai, aj⟩ := bq I
  have ak : (A.length == B.length) = true := by first | simpa using I | (simp at I ⊢; omega)
  clear I; have H' := aM H; clear H
  go_enter Try.func33, Try.ntmps33
  go_wp2
  repeat (go_quiet (fail); try go_wp2)
  go_loopg [5] k (fun kq v5 w' => ∃ (z : Int), v5 = .int .i64 z ∧ Aside0 (tabardref12_flags.l0 kq A B z = some r) ∧ Aside0 (kq ≤ k) ∧ Drawn0 w w')
  case atStart => exact ⟨(0), sI, H', ⟨Nat.le_refl _⟩, by repeat (first | exact Drawn0.refl _ | apply Drawn0.step)⟩
  case round =>
   clear H'
   obtain ⟨z, rfl, HA, HK1, ⟨m1, rfl⟩⟩ := hrel; cases gk with
   | zero => exact absurd HA.out (by simp [tabardref12_flags.l0])
   | succ k1 =>
    have H := HA.out; clear HA; simp only [tabardref12_flags.l0] at H
    by_cases J : z < (A.length : Int)
    ·rw [if_pos J] at H; have U := dT J; clear J
     by_cases M : 0 ≤ z
     ·rw [if_pos M] at H; have am := dT M; clear M
      by_cases N : z < (B.length : Int)
      ·rw [if_pos N] at H; have an := dT N; clear N
       by_cases L : ((rdOf false A z) != (rdOf false B z)) = true
       ·rw [if_pos L] at H; exact absurd H (by simp)
       ·rw [if_neg L] at H
        have ao : ((rdOf false A z) != (rdOf false B z)) = false := by simpa using L
        (try (have ap : decide ((rdOf false A z) = (rdOf false B z)) = true := by simpa using L))
        (try (have aq : ((rdOf false A z) == (rdOf false B z)) = true := by simpa using L))
        clear L; have H' := aM H; clear H; have D : 0 ≤ (z : Int) := oT aO; have E : z < (A.length : Int) := oT aO; obtain ⟨ag, V, Y⟩ := Kd.at_bool ae.out z D E; cases V; replace D := eq_true D; replace E := eq_true E; have F : 0 ≤ (z : Int) := oT aO; have G : z < (B.length : Int) := oT aO; obtain ⟨ah, W, Z⟩ := Kd.at_bool af.out z F G; cases W; replace F := eq_true F; replace G := eq_true G
        go_wp2
        repeat (go_quiet (fail); try go_wp2)
        go_roundg k1
        case measure => have := HK1.out; omega
        case rel => exact ⟨(wrap64 (z + 1)), sI, H', ⟨by have := HK1.out; omega⟩, by repeat (first | exact Drawn0.refl _ | apply Drawn0.step)⟩
      ·exact nX N H
     ·exact nX M H
    ·rw [if_neg J] at H; have U := decide_eq_false J; clear J; obtain rfl := Option.some.inj H
     go_wp2
     repeat (go_quiet (fail); try go_wp2)
     go_ret
     exact ⟨by first | rfl | (simp; done) | (simp [*]; done), by repeat (first | exact Drawn0.refl _ | apply Drawn0.step)⟩
 ·exact nX I H

end Go.Proofs.Ythgoonohpfoagaa.X

/- What the functions of this seat compute, and that the program's calls come to just that: written by this session's own program out of the translation; no condition. -/
import Derived.Test.YthgoonohpfoagaaX0
import Derived.Test.YthgoonohpfoagaaX3
namespace Go.Proofs.Ythgoonohpfoagaa.X
open Go.RowKit Go.Proofs.YthgoonohpfoagaaW.PrintWords Go.Proofs.YthgoonohpfoagaaW.PrintLast Go.Proofs.YthgoonohpfoagaaW.PrintMore
attribute [local go_sem] max2_int min2_int max_two min_two max_three min_three max_four min_four
set_option linter.unusedVariables false
set_option linter.unusedSimpArgs false
set_option maxHeartbeats 8000000
set_option maxRecDepth 100000

/-! ### glyph_Rest: function 92 -/
def glyph_Rest.f (k : Nat) (a0 : Int) : Option (Bool) := (glyph_Start.f k a0).bind fun t124 => (if t124 = true then (some true) else (if a0 ≥ 48 then (if a0 ≤ 57 then (some true) else (if a0 = 8242 then (some true) else (if a0 ≥ 8320 then (some (decide (a0 ≤ 8329))) else (some false)))) else (if a0 = 8242 then (some true) else (if a0 ≥ 8320 then (some (decide (a0 ≤ 8329))) else (some false)))))
theorem glyph_Rest.mono : ∀ a0 k, LeO (glyph_Rest.f k a0) (glyph_Rest.f (k + 1) a0) := by
 intro a0 k
 unfold glyph_Rest.f
 repeat' first | (with_reducible first | exact glyph_Start.mono _ _ | exact lA | apply lI | refine lB ?_ fun _ => ?_) | exact lN _ | apply lI | refine lB ?_ fun _ => ?_
theorem glyph_Rest.calls (k : Nat) (z : Int) (r : Bool) (w : World) (h : glyph_Rest.f k z = some r) :
  Calls Try.prog 92 #[.int .i32 z] w fun e w' => e = .returned (.bool r) ∧ Drawn0 w w' := by
 rw [glyph_Rest.f] at h; have H := h; clear h; replace H := Option.bind_eq_some_iff.mp H; obtain ⟨L, J, H⟩ := H; have A := aM J; clear J
 by_cases I : L = true
 ·subst I
  rw [if_pos rfl] at H; obtain rfl := Option.some.inj H
  go_enter Try.func92, Try.ntmps92
  go_wp2_with (first | ((with_reducible refine gate_callee (f := 91) rfl ?_); refine gL_ (some 4) Try.func91 #[.int .i32 z] ?_; (with_reducible refine (glyph_Start.calls k z true _ A.out).mono ?_); rintro e w' ⟨rfl, ⟨nd, rfl⟩⟩; refine ⟨_, rfl, ?_⟩))
  go_ret
  exact ⟨by first | rfl | (simp; done) | (simp [*]; done), by repeat (first | exact Drawn0.refl _ | apply Drawn0.step)⟩
 ·replace I := Bool.eq_false_iff.mpr I; subst I
  rw [if_neg nF] at H
  by_cases B : z ≥ 48
  ·rw [if_pos B] at H; have M := dT B; clear B
   by_cases C : z ≤ 57
   ·rw [if_pos C] at H; have N := dT C; clear C; obtain rfl := Option.some.inj H
    go_enter Try.func92, Try.ntmps92
    go_wp2_with (first | ((with_reducible refine gate_callee (f := 91) rfl ?_); refine gL_ (some 4) Try.func91 #[.int .i32 z] ?_; (with_reducible refine (glyph_Start.calls k z false _ A.out).mono ?_); rintro e w' ⟨rfl, ⟨nd, rfl⟩⟩; refine ⟨_, rfl, ?_⟩))
    go_ret
    exact ⟨by first | rfl | (simp; done) | (simp [*]; done), by repeat (first | exact Drawn0.refl _ | apply Drawn0.step)⟩
   ·rw [if_neg C] at H; have N := decide_eq_false C; clear C
    by_cases F : z = 8242
    ·rw [if_pos F] at H; obtain ⟨O, P⟩ := bq F; clear F; obtain rfl := Option.some.inj H
     go_enter Try.func92, Try.ntmps92
     go_wp2_with (first | ((with_reducible refine gate_callee (f := 91) rfl ?_); refine gL_ (some 4) Try.func91 #[.int .i32 z] ?_; (with_reducible refine (glyph_Start.calls k z false _ A.out).mono ?_); rintro e w' ⟨rfl, ⟨nd, rfl⟩⟩; refine ⟨_, rfl, ?_⟩))
     go_ret
     exact ⟨by first | rfl | (simp; done) | (simp [*]; done), by repeat (first | exact Drawn0.refl _ | apply Drawn0.step)⟩
    ·rw [if_neg F] at H; obtain ⟨O, P⟩ := bn F
     by_cases D : z ≥ 8320
     ·rw [if_pos D] at H; have Q := dT D; clear D; obtain rfl := Option.some.inj H
      go_enter Try.func92, Try.ntmps92
      go_wp2_with (first | ((with_reducible refine gate_callee (f := 91) rfl ?_); refine gL_ (some 4) Try.func91 #[.int .i32 z] ?_; (with_reducible refine (glyph_Start.calls k z false _ A.out).mono ?_); rintro e w' ⟨rfl, ⟨nd, rfl⟩⟩; refine ⟨_, rfl, ?_⟩))
      go_ret
      exact ⟨by first | rfl | (simp; done) | (simp [*]; done), by repeat (first | exact Drawn0.refl _ | apply Drawn0.step)⟩
     ·rw [if_neg D] at H; have Q := decide_eq_false D; clear D; obtain rfl := Option.some.inj H
      go_enter Try.func92, Try.ntmps92
      go_wp2_with (first | ((with_reducible refine gate_callee (f := 91) rfl ?_); refine gL_ (some 4) Try.func91 #[.int .i32 z] ?_; (with_reducible refine (glyph_Start.calls k z false _ A.out).mono ?_); rintro e w' ⟨rfl, ⟨nd, rfl⟩⟩; refine ⟨_, rfl, ?_⟩))
      go_ret
      exact ⟨by first | rfl | (simp; done) | (simp [*]; done), by repeat (first | exact Drawn0.refl _ | apply Drawn0.step)⟩
  ·rw [if_neg B] at H; have M := decide_eq_false B; clear B
   by_cases G : z = 8242
   ·rw [if_pos G] at H; obtain ⟨R, U⟩ := bq G; clear G; obtain rfl := Option.some.inj H
    go_enter Try.func92, Try.ntmps92
    go_wp2_with (first | ((with_reducible refine gate_callee (f := 91) rfl ?_); refine gL_ (some 4) Try.func91 #[.int .i32 z] ?_; (with_reducible refine (glyph_Start.calls k z false _ A.out).mono ?_); rintro e w' ⟨rfl, ⟨nd, rfl⟩⟩; refine ⟨_, rfl, ?_⟩))
    go_ret
    exact ⟨by first | rfl | (simp; done) | (simp [*]; done), by repeat (first | exact Drawn0.refl _ | apply Drawn0.step)⟩
   ·rw [if_neg G] at H; obtain ⟨R, U⟩ := bn G
    by_cases E : z ≥ 8320
    ·rw [if_pos E] at H; have V := dT E; clear E; obtain rfl := Option.some.inj H
     go_enter Try.func92, Try.ntmps92
     go_wp2_with (first | ((with_reducible refine gate_callee (f := 91) rfl ?_); refine gL_ (some 4) Try.func91 #[.int .i32 z] ?_; (with_reducible refine (glyph_Start.calls k z false _ A.out).mono ?_); rintro e w' ⟨rfl, ⟨nd, rfl⟩⟩; refine ⟨_, rfl, ?_⟩))
     go_ret
     exact ⟨by first | rfl | (simp; done) | (simp [*]; done), by repeat (first | exact Drawn0.refl _ | apply Drawn0.step)⟩
    ·rw [if_neg E] at H; have V := decide_eq_false E; clear E; obtain rfl := Option.some.inj H
     go_enter Try.func92, Try.ntmps92
     go_wp2_with (first | ((with_reducible refine gate_callee (f := 91) rfl ?_); refine gL_ (some 4) Try.func91 #[.int .i32 z] ?_; (with_reducible refine (glyph_Start.calls k z false _ A.out).mono ?_); rintro e w' ⟨rfl, ⟨nd, rfl⟩⟩; refine ⟨_, rfl, ?_⟩))
     go_ret
     exact ⟨by first | rfl | (simp; done) | (simp [*]; done), by repeat (first | exact Drawn0.refl _ | apply Drawn0.step)⟩

/-! ### glyph_Reserved: function 93 -/
def glyph_Reserved.f (a0 : ByteArray) : Option (Bool) := if a0.toList = ([97, 110, 100] : List UInt8) then (some true) else (if a0.toList = ([111, 114] : List UInt8) then (some true) else (if a0.toList = ([110, 111, 116] : List UInt8) then (some true) else (if a0.toList = ([101, 120] : List UInt8) then (some true) else (if a0.toList = ([97, 108, 108] : List UInt8) then (some true) else (if a0.toList = ([109, 111, 100] : List UInt8) then (some true) else (if a0.toList = ([116, 114, 117, 101] : List UInt8) then (some true) else (if a0.toList = ([102, 97, 108, 115, 101] : List UInt8) then (some true) else (some false))))))))
theorem glyph_Reserved.calls (z : ByteArray) (r : Bool) (w : World) (h : glyph_Reserved.f z = some r) :
  Calls Try.prog 93 #[.string z] w fun e w' => e = .returned (.bool r) ∧ Drawn0 w w' := by
 rw [glyph_Reserved.f] at h; have H := h; clear h
 by_cases A : z.toList = ([97, 110, 100] : List UInt8)
 ·rw [if_pos A] at H; obtain ⟨J, L⟩ := bq A; clear A; obtain rfl := Option.some.inj H
  go_enter Try.func93, Try.ntmps93
  go_wp2
  go_ret
  exact ⟨by first | rfl | (simp; done) | (simp [*]; done), by repeat (first | exact Drawn0.refl _ | apply Drawn0.step)⟩
 ·rw [if_neg A] at H; obtain ⟨J, L⟩ := bn A
  by_cases B : z.toList = ([111, 114] : List UInt8)
  ·rw [if_pos B] at H; obtain ⟨M, N⟩ := bq B; clear B; obtain rfl := Option.some.inj H
   go_enter Try.func93, Try.ntmps93
   go_wp2
   go_ret
   exact ⟨by first | rfl | (simp; done) | (simp [*]; done), by repeat (first | exact Drawn0.refl _ | apply Drawn0.step)⟩
  ·rw [if_neg B] at H; obtain ⟨M, N⟩ := bn B
   by_cases C : z.toList = ([110, 111, 116] : List UInt8)
   ·rw [if_pos C] at H; obtain ⟨O, P⟩ := bq C; clear C; obtain rfl := Option.some.inj H
    go_enter Try.func93, Try.ntmps93
    go_wp2
    go_ret
    exact ⟨by first | rfl | (simp; done) | (simp [*]; done), by repeat (first | exact Drawn0.refl _ | apply Drawn0.step)⟩
   ·rw [if_neg C] at H; obtain ⟨O, P⟩ := bn C
    by_cases D : z.toList = ([101, 120] : List UInt8)
    ·rw [if_pos D] at H; obtain ⟨Q, R⟩ := bq D; clear D; obtain rfl := Option.some.inj H
     go_enter Try.func93, Try.ntmps93
     go_wp2
     go_ret
     exact ⟨by first | rfl | (simp; done) | (simp [*]; done), by repeat (first | exact Drawn0.refl _ | apply Drawn0.step)⟩
    ·rw [if_neg D] at H; obtain ⟨Q, R⟩ := bn D
     by_cases E : z.toList = ([97, 108, 108] : List UInt8)
     ·rw [if_pos E] at H; obtain ⟨U, V⟩ := bq E; clear E; obtain rfl := Option.some.inj H
      go_enter Try.func93, Try.ntmps93
      go_wp2
      go_ret
      exact ⟨by first | rfl | (simp; done) | (simp [*]; done), by repeat (first | exact Drawn0.refl _ | apply Drawn0.step)⟩
     ·rw [if_neg E] at H; obtain ⟨U, V⟩ := bn E
      by_cases F : z.toList = ([109, 111, 100] : List UInt8)
      ·rw [if_pos F] at H; obtain ⟨W, Y⟩ := bq F; clear F; obtain rfl := Option.some.inj H
       go_enter Try.func93, Try.ntmps93
       go_wp2
       go_ret
       exact ⟨by first | rfl | (simp; done) | (simp [*]; done), by repeat (first | exact Drawn0.refl _ | apply Drawn0.step)⟩
      ·rw [if_neg F] at H; obtain ⟨W, Y⟩ := bn F
       by_cases G : z.toList = ([116, 114, 117, 101] : List UInt8)
       ·rw [if_pos G] at H; obtain ⟨Z, aa⟩ := bq G; clear G; obtain rfl := Option.some.inj H
        go_enter Try.func93, Try.ntmps93
        go_wp2
        go_ret
        exact ⟨by first | rfl | (simp; done) | (simp [*]; done), by repeat (first | exact Drawn0.refl _ | apply Drawn0.step)⟩
       ·rw [if_neg G] at H; obtain ⟨Z, aa⟩ := bn G
        by_cases I : z.toList = ([102, 97, 108, 115, 101] : List UInt8)
        ·rw [if_pos I] at H; obtain ⟨ab, ac⟩ := bq I; clear I; obtain rfl := Option.some.inj H
         go_enter Try.func93, Try.ntmps93
         go_wp2
         go_ret
         exact ⟨by first | rfl | (simp; done) | (simp [*]; done), by repeat (first | exact Drawn0.refl _ | apply Drawn0.step)⟩
        ·rw [if_neg I] at H; obtain ⟨ab, ac⟩ := bn I; obtain rfl := Option.some.inj H
         go_enter Try.func93, Try.ntmps93
         go_wp2
         go_ret
         exact ⟨by first | rfl | (simp; done) | (simp [*]; done), by repeat (first | exact Drawn0.refl _ | apply Drawn0.step)⟩

end Go.Proofs.Ythgoonohpfoagaa.X

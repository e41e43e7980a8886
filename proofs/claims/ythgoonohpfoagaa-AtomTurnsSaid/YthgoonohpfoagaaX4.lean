/- What the functions of this seat compute, and that the program's calls come to just that: written by this session's own program out of the translation; no condition. -/
import Derived.Test.YthgoonohpfoagaaX0
import Derived.Test.YthgoonohpfoagaaX3
namespace Go.Proofs.Ythgoonohpfoagaa.X
open Go.RowKit Go.Proofs.YthgoonohpfoagaaW.PrintWords Go.Proofs.YthgoonohpfoagaaW.PrintLast Go.Proofs.YthgoonohpfoagaaW.PrintMore
attribute [local go_sem] max2_int min2_int max_two min_two max_three min_three max_four min_four
set_option linter.unusedVariables false
set_option linter.unusedSimpArgs false

/-! ### glyph_Rest: function 92 -/
def glyph_Rest.f (k : Nat) (a0 : Int) : Option (Bool) := (glyph_Start.f k a0).bind fun t124 => (if t124 = true then (some true) else (if a0 ≥ 48 then (if a0 ≤ 57 then (some true) else (if a0 = 8242 then (some true) else (if a0 ≥ 8320 then (some (decide (a0 ≤ 8329))) else (some false)))) else (if a0 = 8242 then (some true) else (if a0 ≥ 8320 then (some (decide (a0 ≤ 8329))) else (some false)))))
theorem glyph_Rest.mono : ∀ a0 k, LeO (glyph_Rest.f k a0) (glyph_Rest.f (k + 1) a0) := by
 intro a0 k
 unfold glyph_Rest.f
 repeat' first | (with_reducible first | exact glyph_Start.mono _ _ | exact lA | apply lI | refine lB ?_ fun _ => ?_) | exact lN _ | apply lI | refine lB ?_ fun _ => ?_
set_option maxHeartbeats 8000000 in
set_option maxRecDepth 100000 in
theorem glyph_Rest.calls (k : Nat) (a0 : Int) (r : Bool) (w : World) (h : glyph_Rest.f k a0 = some r) :
  Calls Try.prog 92 #[.int .i32 a0] w fun e w' => e = .returned (.bool r) ∧ Drawn0 w w' := by
 have H : ((glyph_Start.f k a0).bind fun t124 => (if t124 = true then (some true) else (if a0 ≥ 48 then (if a0 ≤ 57 then (some true) else (if a0 = 8242 then (some true) else (if a0 ≥ 8320 then (some (decide (a0 ≤ 8329))) else (some false)))) else (if a0 = 8242 then (some true) else (if a0 ≥ 8320 then (some (decide (a0 ≤ 8329))) else (some false)))))) = some r := h; clear h; replace H := Option.bind_eq_some_iff.mp H; obtain ⟨t124, A20, H⟩ := H; replace H : (if t124 = true then (some true) else (if a0 ≥ 48 then (if a0 ≤ 57 then (some true) else (if a0 = 8242 then (some true) else (if a0 ≥ 8320 then (some (decide (a0 ≤ 8329))) else (some false)))) else (if a0 = 8242 then (some true) else (if a0 ≥ 8320 then (some (decide (a0 ≤ 8329))) else (some false))))) = some r := H; have A2 := Aside0.mk A20; clear A20
 by_cases c3 : t124 = true
 ·subst c3
  have H1 : (some true) = some r := by rw [if_pos rfl] at H; exact H
  clear H; have H := H1; clear H1; obtain rfl := Option.some.inj H
  go_enter Try.func92, Try.ntmps92
  go_wp2_with (first | ((with_reducible refine gate_callee (f := 91) rfl ?_); refine gL_ (some 4) Try.func91 #[.int .i32 a0] ?_; (with_reducible refine (glyph_Start.calls k a0 true _ A2.out).mono ?_); rintro e w' ⟨rfl, ⟨nd, rfl⟩⟩; refine ⟨_, rfl, ?_⟩))
  go_ret
  exact ⟨by first | rfl | (simp; done) | (simp [*]; done), by repeat (first | exact Drawn0.refl _ | apply Drawn0.step)⟩
 ·replace c3 := Bool.eq_false_iff.mpr c3; subst c3
  have H1 : (if a0 ≥ 48 then (if a0 ≤ 57 then (some true) else (if a0 = 8242 then (some true) else (if a0 ≥ 8320 then (some (decide (a0 ≤ 8329))) else (some false)))) else (if a0 = 8242 then (some true) else (if a0 ≥ 8320 then (some (decide (a0 ≤ 8329))) else (some false)))) = some r := by rw [if_neg (show ¬ (false = true) by decide)] at H; exact H
  clear H; have H := H1; clear H1
  by_cases c4 : a0 ≥ 48
  ·rw [if_pos c4] at H; have c4b0 := decide_eq_true c4; clear c4
   by_cases c5 : a0 ≤ 57
   ·rw [if_pos c5] at H; have c5b0 := decide_eq_true c5; clear c5; obtain rfl := Option.some.inj H
    go_enter Try.func92, Try.ntmps92
    go_wp2_with (first | ((with_reducible refine gate_callee (f := 91) rfl ?_); refine gL_ (some 4) Try.func91 #[.int .i32 a0] ?_; (with_reducible refine (glyph_Start.calls k a0 false _ A2.out).mono ?_); rintro e w' ⟨rfl, ⟨nd, rfl⟩⟩; refine ⟨_, rfl, ?_⟩))
    go_ret
    exact ⟨by first | rfl | (simp; done) | (simp [*]; done), by repeat (first | exact Drawn0.refl _ | apply Drawn0.step)⟩
   ·rw [if_neg c5] at H; have c5b0 := decide_eq_false c5; clear c5
    by_cases c6 : a0 = 8242
    ·rw [if_pos c6] at H; obtain ⟨c6b0, c6b1⟩ := bq c6; clear c6; obtain rfl := Option.some.inj H
     go_enter Try.func92, Try.ntmps92
     go_wp2_with (first | ((with_reducible refine gate_callee (f := 91) rfl ?_); refine gL_ (some 4) Try.func91 #[.int .i32 a0] ?_; (with_reducible refine (glyph_Start.calls k a0 false _ A2.out).mono ?_); rintro e w' ⟨rfl, ⟨nd, rfl⟩⟩; refine ⟨_, rfl, ?_⟩))
     go_ret
     exact ⟨by first | rfl | (simp; done) | (simp [*]; done), by repeat (first | exact Drawn0.refl _ | apply Drawn0.step)⟩
    ·rw [if_neg c6] at H; obtain ⟨c6b0, c6b1⟩ := bn c6
     by_cases c7 : a0 ≥ 8320
     ·rw [if_pos c7] at H; have c7b0 := decide_eq_true c7; clear c7; obtain rfl := Option.some.inj H
      go_enter Try.func92, Try.ntmps92
      go_wp2_with (first | ((with_reducible refine gate_callee (f := 91) rfl ?_); refine gL_ (some 4) Try.func91 #[.int .i32 a0] ?_; (with_reducible refine (glyph_Start.calls k a0 false _ A2.out).mono ?_); rintro e w' ⟨rfl, ⟨nd, rfl⟩⟩; refine ⟨_, rfl, ?_⟩))
      go_ret
      exact ⟨by first | rfl | (simp; done) | (simp [*]; done), by repeat (first | exact Drawn0.refl _ | apply Drawn0.step)⟩
     ·rw [if_neg c7] at H; have c7b0 := decide_eq_false c7; clear c7; obtain rfl := Option.some.inj H
      go_enter Try.func92, Try.ntmps92
      go_wp2_with (first | ((with_reducible refine gate_callee (f := 91) rfl ?_); refine gL_ (some 4) Try.func91 #[.int .i32 a0] ?_; (with_reducible refine (glyph_Start.calls k a0 false _ A2.out).mono ?_); rintro e w' ⟨rfl, ⟨nd, rfl⟩⟩; refine ⟨_, rfl, ?_⟩))
      go_ret
      exact ⟨by first | rfl | (simp; done) | (simp [*]; done), by repeat (first | exact Drawn0.refl _ | apply Drawn0.step)⟩
  ·rw [if_neg c4] at H; have c4b0 := decide_eq_false c4; clear c4
   by_cases c8 : a0 = 8242
   ·rw [if_pos c8] at H; obtain ⟨c8b0, c8b1⟩ := bq c8; clear c8; obtain rfl := Option.some.inj H
    go_enter Try.func92, Try.ntmps92
    go_wp2_with (first | ((with_reducible refine gate_callee (f := 91) rfl ?_); refine gL_ (some 4) Try.func91 #[.int .i32 a0] ?_; (with_reducible refine (glyph_Start.calls k a0 false _ A2.out).mono ?_); rintro e w' ⟨rfl, ⟨nd, rfl⟩⟩; refine ⟨_, rfl, ?_⟩))
    go_ret
    exact ⟨by first | rfl | (simp; done) | (simp [*]; done), by repeat (first | exact Drawn0.refl _ | apply Drawn0.step)⟩
   ·rw [if_neg c8] at H; obtain ⟨c8b0, c8b1⟩ := bn c8
    by_cases c9 : a0 ≥ 8320
    ·rw [if_pos c9] at H; have c9b0 := decide_eq_true c9; clear c9; obtain rfl := Option.some.inj H
     go_enter Try.func92, Try.ntmps92
     go_wp2_with (first | ((with_reducible refine gate_callee (f := 91) rfl ?_); refine gL_ (some 4) Try.func91 #[.int .i32 a0] ?_; (with_reducible refine (glyph_Start.calls k a0 false _ A2.out).mono ?_); rintro e w' ⟨rfl, ⟨nd, rfl⟩⟩; refine ⟨_, rfl, ?_⟩))
     go_ret
     exact ⟨by first | rfl | (simp; done) | (simp [*]; done), by repeat (first | exact Drawn0.refl _ | apply Drawn0.step)⟩
    ·rw [if_neg c9] at H; have c9b0 := decide_eq_false c9; clear c9; obtain rfl := Option.some.inj H
     go_enter Try.func92, Try.ntmps92
     go_wp2_with (first | ((with_reducible refine gate_callee (f := 91) rfl ?_); refine gL_ (some 4) Try.func91 #[.int .i32 a0] ?_; (with_reducible refine (glyph_Start.calls k a0 false _ A2.out).mono ?_); rintro e w' ⟨rfl, ⟨nd, rfl⟩⟩; refine ⟨_, rfl, ?_⟩))
     go_ret
     exact ⟨by first | rfl | (simp; done) | (simp [*]; done), by repeat (first | exact Drawn0.refl _ | apply Drawn0.step)⟩

/-! ### glyph_Reserved: function 93 -/
def glyph_Reserved.f (a0 : ByteArray) : Option (Bool) := if a0.toList = ([97, 110, 100] : List UInt8) then (some true) else (if a0.toList = ([111, 114] : List UInt8) then (some true) else (if a0.toList = ([110, 111, 116] : List UInt8) then (some true) else (if a0.toList = ([101, 120] : List UInt8) then (some true) else (if a0.toList = ([97, 108, 108] : List UInt8) then (some true) else (if a0.toList = ([109, 111, 100] : List UInt8) then (some true) else (if a0.toList = ([116, 114, 117, 101] : List UInt8) then (some true) else (if a0.toList = ([102, 97, 108, 115, 101] : List UInt8) then (some true) else (some false))))))))
set_option maxHeartbeats 8000000 in
set_option maxRecDepth 100000 in
theorem glyph_Reserved.calls (a0 : ByteArray) (r : Bool) (w : World) (h : glyph_Reserved.f a0 = some r) :
  Calls Try.prog 93 #[.string a0] w fun e w' => e = .returned (.bool r) ∧ Drawn0 w w' := by
 have H : (if a0.toList = ([97, 110, 100] : List UInt8) then (some true) else (if a0.toList = ([111, 114] : List UInt8) then (some true) else (if a0.toList = ([110, 111, 116] : List UInt8) then (some true) else (if a0.toList = ([101, 120] : List UInt8) then (some true) else (if a0.toList = ([97, 108, 108] : List UInt8) then (some true) else (if a0.toList = ([109, 111, 100] : List UInt8) then (some true) else (if a0.toList = ([116, 114, 117, 101] : List UInt8) then (some true) else (if a0.toList = ([102, 97, 108, 115, 101] : List UInt8) then (some true) else (some false))))))))) = some r := h; clear h
 by_cases c2 : a0.toList = ([97, 110, 100] : List UInt8)
 ·rw [if_pos c2] at H; obtain ⟨c2b0, c2b1⟩ := bq c2; clear c2; obtain rfl := Option.some.inj H
  go_enter Try.func93, Try.ntmps93
  go_wp2
  go_ret
  exact ⟨by first | rfl | (simp; done) | (simp [*]; done), by repeat (first | exact Drawn0.refl _ | apply Drawn0.step)⟩
 ·rw [if_neg c2] at H; obtain ⟨c2b0, c2b1⟩ := bn c2
  by_cases c3 : a0.toList = ([111, 114] : List UInt8)
  ·rw [if_pos c3] at H; obtain ⟨c3b0, c3b1⟩ := bq c3; clear c3; obtain rfl := Option.some.inj H
   go_enter Try.func93, Try.ntmps93
   go_wp2
   go_ret
   exact ⟨by first | rfl | (simp; done) | (simp [*]; done), by repeat (first | exact Drawn0.refl _ | apply Drawn0.step)⟩
  ·rw [if_neg c3] at H; obtain ⟨c3b0, c3b1⟩ := bn c3
   by_cases c4 : a0.toList = ([110, 111, 116] : List UInt8)
   ·rw [if_pos c4] at H; obtain ⟨c4b0, c4b1⟩ := bq c4; clear c4; obtain rfl := Option.some.inj H
    go_enter Try.func93, Try.ntmps93
    go_wp2
    go_ret
    exact ⟨by first | rfl | (simp; done) | (simp [*]; done), by repeat (first | exact Drawn0.refl _ | apply Drawn0.step)⟩
   ·rw [if_neg c4] at H; obtain ⟨c4b0, c4b1⟩ := bn c4
    by_cases c5 : a0.toList = ([101, 120] : List UInt8)
    ·rw [if_pos c5] at H; obtain ⟨c5b0, c5b1⟩ := bq c5; clear c5; obtain rfl := Option.some.inj H
     go_enter Try.func93, Try.ntmps93
     go_wp2
     go_ret
     exact ⟨by first | rfl | (simp; done) | (simp [*]; done), by repeat (first | exact Drawn0.refl _ | apply Drawn0.step)⟩
    ·rw [if_neg c5] at H; obtain ⟨c5b0, c5b1⟩ := bn c5
     by_cases c6 : a0.toList = ([97, 108, 108] : List UInt8)
     ·rw [if_pos c6] at H; obtain ⟨c6b0, c6b1⟩ := bq c6; clear c6; obtain rfl := Option.some.inj H
      go_enter Try.func93, Try.ntmps93
      go_wp2
      go_ret
      exact ⟨by first | rfl | (simp; done) | (simp [*]; done), by repeat (first | exact Drawn0.refl _ | apply Drawn0.step)⟩
     ·rw [if_neg c6] at H; obtain ⟨c6b0, c6b1⟩ := bn c6
      by_cases c7 : a0.toList = ([109, 111, 100] : List UInt8)
      ·rw [if_pos c7] at H; obtain ⟨c7b0, c7b1⟩ := bq c7; clear c7; obtain rfl := Option.some.inj H
       go_enter Try.func93, Try.ntmps93
       go_wp2
       go_ret
       exact ⟨by first | rfl | (simp; done) | (simp [*]; done), by repeat (first | exact Drawn0.refl _ | apply Drawn0.step)⟩
      ·rw [if_neg c7] at H; obtain ⟨c7b0, c7b1⟩ := bn c7
       by_cases c8 : a0.toList = ([116, 114, 117, 101] : List UInt8)
       ·rw [if_pos c8] at H; obtain ⟨c8b0, c8b1⟩ := bq c8; clear c8; obtain rfl := Option.some.inj H
        go_enter Try.func93, Try.ntmps93
        go_wp2
        go_ret
        exact ⟨by first | rfl | (simp; done) | (simp [*]; done), by repeat (first | exact Drawn0.refl _ | apply Drawn0.step)⟩
       ·rw [if_neg c8] at H; obtain ⟨c8b0, c8b1⟩ := bn c8
        by_cases c9 : a0.toList = ([102, 97, 108, 115, 101] : List UInt8)
        ·rw [if_pos c9] at H; obtain ⟨c9b0, c9b1⟩ := bq c9; clear c9; obtain rfl := Option.some.inj H
         go_enter Try.func93, Try.ntmps93
         go_wp2
         go_ret
         exact ⟨by first | rfl | (simp; done) | (simp [*]; done), by repeat (first | exact Drawn0.refl _ | apply Drawn0.step)⟩
        ·rw [if_neg c9] at H; obtain ⟨c9b0, c9b1⟩ := bn c9; obtain rfl := Option.some.inj H
         go_enter Try.func93, Try.ntmps93
         go_wp2
         go_ret
         exact ⟨by first | rfl | (simp; done) | (simp [*]; done), by repeat (first | exact Drawn0.refl _ | apply Drawn0.step)⟩

end Go.Proofs.Ythgoonohpfoagaa.X

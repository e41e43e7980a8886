/- What the functions of this seat compute, and that the program's calls come to just that: written by this session's own program out of the translation; no condition. -/
import Derived.Test.YtghfclgcgecgdaaX0
import Derived.Test.YtghfclgcgecgdaaX3
namespace Go.Proofs.Ytghfclgcgecgdaa.X
open Go.RowKit Go.Proofs.YtghfclgcgecgdaaW.PrintWords Go.Proofs.YtghfclgcgecgdaaW.PrintLast Go.Proofs.YtghfclgcgecgdaaW.PrintMore
attribute [local go_sem] max2_int min2_int max_two min_two max_three min_three max_four min_four
set_option linter.unusedVariables false
set_option linter.unusedSimpArgs false
set_option maxHeartbeats 8000000
set_option maxRecDepth 100000

/-! ### glyph_Rest: function 77 -/
def glyph_Rest.f (k : Nat) (a0 : Int) : Option (Bool) := (glyph_Start.f k a0).bind fun t126 => (if t126 = true then (some true) else (if a0 ≥ 48 then (if a0 ≤ 57 then (some true) else (if a0 = 8242 then (some true) else (if a0 ≥ 8320 then (some (decide (a0 ≤ 8329))) else (some false)))) else (if a0 = 8242 then (some true) else (if a0 ≥ 8320 then (some (decide (a0 ≤ 8329))) else (some false)))))
theorem glyph_Rest.mono : ∀ a0 k, LeO (glyph_Rest.f k a0) (glyph_Rest.f (k + 1) a0) := by
 intro a0 k
 unfold glyph_Rest.f
 repeat' first | (with_reducible first | exact glyph_Start.mono _ _ | exact lA | apply lI | refine lB ?_ fun _ => ?_) | exact lN _ | apply lI | refine lB ?_ fun _ => ?_
theorem glyph_Rest.calls (k : Nat) (z : Int) (r : Bool) (w : World) (h : glyph_Rest.f k z = some r) :
  Calls Try.prog 77 #[.int .i32 z] w fun e w' => e = .returned (.bool r) ∧ Drawn0 w w' := by
 rw [glyph_Rest.f] at h; have H := h; clear h; apply bSx H; clear H; intro L A H
 by_cases I : L = true
 ·subst I
  rw [if_pos rfl] at H; obtain rfl := Option.some.inj H
  go_enter Try.func77, Try.ntmps77
  go_wp2_with (first | ((with_reducible refine gate_callee (f := 76) rfl ?_); refine gL_ (some 4) Try.func76 #[.int .i32 z] ?_; (with_reducible refine (glyph_Start.calls k z true _ A.out).mono ?_); rintro e w' ⟨rfl, ⟨nd, rfl⟩⟩; refine ⟨_, rfl, ?_⟩))
  go_ret
  exact ⟨eVl, dRw⟩
 ·replace I := Bool.eq_false_iff.mpr I; subst I
  rw [if_neg nF] at H
  apply iB H <;> clear H <;> intro B H
  ·have M := dT B; clear B
   apply iB H <;> clear H <;> intro C H
   ·have N := dT C; clear C; obtain rfl := Option.some.inj H
    go_enter Try.func77, Try.ntmps77
    go_wp2_with (first | ((with_reducible refine gate_callee (f := 76) rfl ?_); refine gL_ (some 4) Try.func76 #[.int .i32 z] ?_; (with_reducible refine (glyph_Start.calls k z false _ A.out).mono ?_); rintro e w' ⟨rfl, ⟨nd, rfl⟩⟩; refine ⟨_, rfl, ?_⟩))
    go_ret
    exact ⟨eVl, dRw⟩
   ·have N := decide_eq_false C; clear C
    apply iB H <;> clear H <;> intro F H
    ·obtain ⟨O, P⟩ := bq F; clear F; obtain rfl := Option.some.inj H
     go_enter Try.func77, Try.ntmps77
     go_wp2_with (first | ((with_reducible refine gate_callee (f := 76) rfl ?_); refine gL_ (some 4) Try.func76 #[.int .i32 z] ?_; (with_reducible refine (glyph_Start.calls k z false _ A.out).mono ?_); rintro e w' ⟨rfl, ⟨nd, rfl⟩⟩; refine ⟨_, rfl, ?_⟩))
     go_ret
     exact ⟨eVl, dRw⟩
    ·obtain ⟨O, P⟩ := bn F
     apply iB H <;> clear H <;> intro D H
     ·have Q := dT D; clear D; obtain rfl := Option.some.inj H
      go_enter Try.func77, Try.ntmps77
      go_wp2_with (first | ((with_reducible refine gate_callee (f := 76) rfl ?_); refine gL_ (some 4) Try.func76 #[.int .i32 z] ?_; (with_reducible refine (glyph_Start.calls k z false _ A.out).mono ?_); rintro e w' ⟨rfl, ⟨nd, rfl⟩⟩; refine ⟨_, rfl, ?_⟩))
      go_ret
      exact ⟨eVl, dRw⟩
     ·have Q := decide_eq_false D; clear D; obtain rfl := Option.some.inj H
      go_enter Try.func77, Try.ntmps77
      go_wp2_with (first | ((with_reducible refine gate_callee (f := 76) rfl ?_); refine gL_ (some 4) Try.func76 #[.int .i32 z] ?_; (with_reducible refine (glyph_Start.calls k z false _ A.out).mono ?_); rintro e w' ⟨rfl, ⟨nd, rfl⟩⟩; refine ⟨_, rfl, ?_⟩))
      go_ret
      exact ⟨eVl, dRw⟩
  ·have M := decide_eq_false B; clear B
   apply iB H <;> clear H <;> intro G H
   ·obtain ⟨R, U⟩ := bq G; clear G; obtain rfl := Option.some.inj H
    go_enter Try.func77, Try.ntmps77
    go_wp2_with (first | ((with_reducible refine gate_callee (f := 76) rfl ?_); refine gL_ (some 4) Try.func76 #[.int .i32 z] ?_; (with_reducible refine (glyph_Start.calls k z false _ A.out).mono ?_); rintro e w' ⟨rfl, ⟨nd, rfl⟩⟩; refine ⟨_, rfl, ?_⟩))
    go_ret
    exact ⟨eVl, dRw⟩
   ·obtain ⟨R, U⟩ := bn G
    apply iB H <;> clear H <;> intro E H
    ·have V := dT E; clear E; obtain rfl := Option.some.inj H
     go_enter Try.func77, Try.ntmps77
     go_wp2_with (first | ((with_reducible refine gate_callee (f := 76) rfl ?_); refine gL_ (some 4) Try.func76 #[.int .i32 z] ?_; (with_reducible refine (glyph_Start.calls k z false _ A.out).mono ?_); rintro e w' ⟨rfl, ⟨nd, rfl⟩⟩; refine ⟨_, rfl, ?_⟩))
     go_ret
     exact ⟨eVl, dRw⟩
    ·have V := decide_eq_false E; clear E; obtain rfl := Option.some.inj H
     go_enter Try.func77, Try.ntmps77
     go_wp2_with (first | ((with_reducible refine gate_callee (f := 76) rfl ?_); refine gL_ (some 4) Try.func76 #[.int .i32 z] ?_; (with_reducible refine (glyph_Start.calls k z false _ A.out).mono ?_); rintro e w' ⟨rfl, ⟨nd, rfl⟩⟩; refine ⟨_, rfl, ?_⟩))
     go_ret
     exact ⟨eVl, dRw⟩

/-! ### glyph_Reserved: function 78 -/
def glyph_Reserved.f (a0 : ByteArray) : Option (Bool) := if a0.toList = ([97, 110, 100] : List UInt8) then (some true) else (if a0.toList = ([111, 114] : List UInt8) then (some true) else (if a0.toList = ([110, 111, 116] : List UInt8) then (some true) else (if a0.toList = ([101, 120] : List UInt8) then (some true) else (if a0.toList = ([97, 108, 108] : List UInt8) then (some true) else (if a0.toList = ([109, 111, 100] : List UInt8) then (some true) else (if a0.toList = ([116, 114, 117, 101] : List UInt8) then (some true) else (if a0.toList = ([102, 97, 108, 115, 101] : List UInt8) then (some true) else (some false))))))))
theorem glyph_Reserved.calls (z : ByteArray) (r : Bool) (w : World) (h : glyph_Reserved.f z = some r) :
  Calls Try.prog 78 #[.string z] w fun e w' => e = .returned (.bool r) ∧ Drawn0 w w' := by
 rw [glyph_Reserved.f] at h; have H := h; clear h
 apply iB H <;> clear H <;> intro A H
 ·obtain ⟨J, L⟩ := bq A; clear A; obtain rfl := Option.some.inj H
  go_enter Try.func78, Try.ntmps78
  go_wp2
  go_ret
  exact ⟨eVl, dRw⟩
 ·obtain ⟨J, L⟩ := bn A
  apply iB H <;> clear H <;> intro B H
  ·obtain ⟨M, N⟩ := bq B; clear B; obtain rfl := Option.some.inj H
   go_enter Try.func78, Try.ntmps78
   go_wp2
   go_ret
   exact ⟨eVl, dRw⟩
  ·obtain ⟨M, N⟩ := bn B
   apply iB H <;> clear H <;> intro C H
   ·obtain ⟨O, P⟩ := bq C; clear C; obtain rfl := Option.some.inj H
    go_enter Try.func78, Try.ntmps78
    go_wp2
    go_ret
    exact ⟨eVl, dRw⟩
   ·obtain ⟨O, P⟩ := bn C
    apply iB H <;> clear H <;> intro D H
    ·obtain ⟨Q, R⟩ := bq D; clear D; obtain rfl := Option.some.inj H
     go_enter Try.func78, Try.ntmps78
     go_wp2
     go_ret
     exact ⟨eVl, dRw⟩
    ·obtain ⟨Q, R⟩ := bn D
     apply iB H <;> clear H <;> intro E H
     ·obtain ⟨U, V⟩ := bq E; clear E; obtain rfl := Option.some.inj H
      go_enter Try.func78, Try.ntmps78
      go_wp2
      go_ret
      exact ⟨eVl, dRw⟩
     ·obtain ⟨U, V⟩ := bn E
      apply iB H <;> clear H <;> intro F H
      ·obtain ⟨W, Y⟩ := bq F; clear F; obtain rfl := Option.some.inj H
       go_enter Try.func78, Try.ntmps78
       go_wp2
       go_ret
       exact ⟨eVl, dRw⟩
      ·obtain ⟨W, Y⟩ := bn F
       apply iB H <;> clear H <;> intro G H
       ·obtain ⟨Z, aa⟩ := bq G; clear G; obtain rfl := Option.some.inj H
        go_enter Try.func78, Try.ntmps78
        go_wp2
        go_ret
        exact ⟨eVl, dRw⟩
       ·obtain ⟨Z, aa⟩ := bn G
        apply iB H <;> clear H <;> intro I H
        ·obtain ⟨ab, ac⟩ := bq I; clear I; obtain rfl := Option.some.inj H
         go_enter Try.func78, Try.ntmps78
         go_wp2
         go_ret
         exact ⟨eVl, dRw⟩
        ·obtain ⟨ab, ac⟩ := bn I; obtain rfl := Option.some.inj H
         go_enter Try.func78, Try.ntmps78
         go_wp2
         go_ret
         exact ⟨eVl, dRw⟩

end Go.Proofs.Ytghfclgcgecgdaa.X

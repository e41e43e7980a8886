/- What the functions of this seat compute, and that the program's calls come to just that: written by this session's own program out of the translation; no condition. -/
import Derived.Test.YtghfclgcgecgdaaX0
import Derived.Test.YtghfclgcgecgdaaX7
import Derived.Test.YtghfclgcgecgdaaX14
namespace Go.Proofs.Ytghfclgcgecgdaa.X
open Go.RowKit Go.Proofs.YtghfclgcgecgdaaW.PrintWords Go.Proofs.YtghfclgcgecgdaaW.PrintLast Go.Proofs.YtghfclgcgecgdaaW.PrintMore
attribute [local go_sem] max2_int min2_int max_two min_two max_three min_three max_four min_four
set_option linter.unusedVariables false
set_option linter.unusedSimpArgs false
set_option maxHeartbeats 8000000
set_option maxRecDepth 100000

/-! ### row_Right: function 55 -/
def row_Right.f (k : Nat) (l0 : List (S58)) (a1 : Int) (a2 : Int) : Option (Bool) := (row_Unpack.f k l0 a1).bind fun bt195 => (if bt195.2 = 0 then ((slices_Max_int_int.f k bt195.1).bind fun t199 => (some (decide (t199 < a2)))) else (some false))
theorem row_Right.mono : ∀ a0 a1 a2 k, LeO (row_Right.f k a0 a1 a2) (row_Right.f (k + 1) a0 a1 a2) := by
 intro a0 a1 a2 k
 unfold row_Right.f
 repeat' first | (with_reducible first | exact row_Unpack.mono _ _ _ | exact slices_Max_int_int.mono _ _ | exact lA | apply lI | refine lB ?_ fun _ => ?_) | exact lN _ | apply lI | refine lB ?_ fun _ => ?_
theorem row_Right.calls (k : Nat) (J : Option Addr) (L : Nat) (A : List (S58)) (G : Int) (U : Int) (r : Bool) (w : World) (M : Kd.C k58 w J A.length A) (N : A.length ≤ L) (h : row_Right.f k A G U = some r) :
  Calls Try.prog 55 #[.slice J A.length L, .int .i64 G, .int .i64 U] w fun e w' => e = .returned (.bool r) ∧ Below w.heap.size w w' := by
 have O := aM M; have P := aM N; clear M N; have HB := aM (Below.refl w.heap.size w); rw [row_Right.f] at h; have H := h; clear h; replace H := Option.bind_eq_some_iff.mp H; obtain ⟨⟨B, D⟩, Q, H⟩ := H; replace H : (if D = 0 then ((slices_Max_int_int.f k B).bind fun F => (some (decide (F < U)))) else (some false)) = some r := H; have Z := aM Q; clear Q
 apply iB H <;> clear H <;> intro I H
 ·obtain ⟨V, W⟩ := bq I; clear I; apply bSx H; clear H; intro F A6 H; obtain rfl := Option.some.inj H
  go_enter Try.func55, Try.ntmps55
  go_wp2_with (first | ((with_reducible refine gate_callee (f := 53) rfl ?_); refine gL_ (some 12) Try.func53 #[.slice J A.length L, .int .i64 G] ?_; (with_reducible refine (row_Unpack.calls k _ _ A G B D _ ?s1 P.out Z.out).mono ?_); (case s1 => exact cO O.out); rintro e w7 ⟨Y, rfl, E, hb⟩; refine ⟨_, rfl, ?_⟩; have z := rW E (bP0 HB); replace HB := hS0 HB hb; (try clear hb); (try clear E); obtain ⟨ac, ad, rfl⟩ := sL z) | (go_at_call 40; (with_reducible refine (slices_Max_int_int.calls k _ _ B F _ ?s1 (rR z).2.1 A6.out).mono ?_); (case s1 => exact cO (rR z).2.2); rintro e w9 ⟨rfl, hb⟩; replace z := rB z hb; replace HB := hS0 HB hb; (try clear hb)))
  go_ret
  exact ⟨eW, bO HB.out⟩
 ·obtain ⟨V, W⟩ := bn I; obtain rfl := Option.some.inj H
  go_enter Try.func55, Try.ntmps55
  go_wp2_with (first | ((with_reducible refine gate_callee (f := 53) rfl ?_); refine gL_ (some 12) Try.func53 #[.slice J A.length L, .int .i64 G] ?_; (with_reducible refine (row_Unpack.calls k _ _ A G B D _ ?s1 P.out Z.out).mono ?_); (case s1 => exact cO O.out); rintro e ae ⟨Y, rfl, E, hb⟩; refine ⟨_, rfl, ?_⟩; have z := rW E (bP0 HB); replace HB := hS0 HB hb; (try clear hb); (try clear E)))
  go_ret
  exact ⟨eW, bO HB.out⟩

end Go.Proofs.Ytghfclgcgecgdaa.X

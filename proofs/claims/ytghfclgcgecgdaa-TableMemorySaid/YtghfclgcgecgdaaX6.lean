/- What the functions of this seat compute, and that the program's calls come to just that: written by this session's own program out of the translation; no condition. -/
import Derived.Test.YtghfclgcgecgdaaX0
import Derived.Test.YtghfclgcgecgdaaX5
namespace Go.Proofs.Ytghfclgcgecgdaa.X
open Go.RowKit Go.Proofs.YtghfclgcgecgdaaW.PrintWords Go.Proofs.YtghfclgcgecgdaaW.PrintLast Go.Proofs.YtghfclgcgecgdaaW.PrintMore
attribute [local go_sem] max2_int min2_int max_two min_two max_three min_three max_four min_four
set_option linter.unusedVariables false
set_option linter.unusedSimpArgs false
set_option maxHeartbeats 8000000
set_option maxRecDepth 100000

/-! ### glyph_Rises: function 61 -/
def glyph_Rises.l0 : Nat → List ByteArray → List ByteArray → Int → Int → Option (Bool)
 | 0, _, _, _, _ => none
 | k + 1, x0, x5, x6, x7 => if x7 < x6 then (if 0 ≤ x7 then (if x7 < (x5.length : Int) then ((glyph_Name.f k (rdOf ByteArray.empty x5 x7)).bind fun t128 => (if t128 = true then (if x7 > 0 then (if 0 ≤ (wrap64 (x7 - 1)) then (if (wrap64 (x7 - 1)) < (x0.length : Int) then (if ((Op.bytesLess ((rdOf ByteArray.empty x0 (wrap64 (x7 - 1))).toList) ((rdOf ByteArray.empty x5 x7).toList)) = true) then (glyph_Rises.l0 k x0 x5 x6 (wrap64 (x7 + 1))) else (some false)) else (none)) else (none)) else (glyph_Rises.l0 k x0 x5 x6 (wrap64 (x7 + 1)))) else (some false))) else (none)) else (none)) else (some true)
def glyph_Rises.f (k : Nat) (l0 : List ByteArray) : Option (Bool) := glyph_Rises.l0 k l0 l0 (l0.length : Int) 0
theorem glyph_Rises.mono_l : ∀ k, (∀ y0 y1 y2 y3, LeO (glyph_Rises.l0 k y0 y1 y2 y3) (glyph_Rises.l0 (k + 1) y0 y1 y2 y3))
 | 0 => fun _ _ _ _ r h => by simp [glyph_Rises.l0] at h
 | k + 1 => by
  have ih0 := glyph_Rises.mono_l k
  ·intro y0 y1 y2 y3
   unfold glyph_Rises.l0
   repeat' first | (with_reducible first | exact ih0 _ _ _ _ | exact glyph_Name.mono _ _ | exact lA | apply lI | refine lB ?_ fun _ => ?_) | exact lN _ | apply lI | refine lB ?_ fun _ => ?_
theorem glyph_Rises.mono : ∀ a0 k, LeO (glyph_Rises.f k a0) (glyph_Rises.f (k + 1) a0) := by
 intro a0 k; have ih0 := glyph_Rises.mono_l k
 unfold glyph_Rises.f
 repeat' first | (with_reducible first | exact ih0 _ _ _ _ | exact glyph_Name.mono _ _ | exact lA | apply lI | refine lB ?_ fun _ => ?_) | exact lN _ | apply lI | refine lB ?_ fun _ => ?_
theorem glyph_Rises.calls (k : Nat) (A0 : Option Addr) (c0 : Nat) (B : List ByteArray) (r : Bool) (w : World) (ae : Kd.C Kd.string w A0 B.length B) (af : B.length ≤ c0) (h : glyph_Rises.f k B = some r) :
  Calls Try.prog 61 #[.slice A0 B.length c0] w fun e w' => e = .returned (.bool r) ∧ Below w.heap.size w w' := by
 have O := aM ae; have ar := aM af; clear ae af; have HB := aM (Below.refl w.heap.size w); rw [glyph_Rises.f] at h; have H := h; clear h; have H' := aM H; clear H
 go_enter Try.func61, Try.ntmps61
 go_wp2
 go_loopg [7] k (fun kq v7 w' => ∃ (z : Int), v7 = .int .i64 z ∧ Aside0 (glyph_Rises.l0 kq B B (B.length : Int) z = some r) ∧ Aside0 (kq ≤ k) ∧ BA w w')
 case atStart => exact ⟨(0), sI, H', ⟨Nat.le_refl _⟩, bT0 HB⟩
 case round =>
  clear H'; obtain ⟨z, rfl, HA, aa, HB⟩ := hrel; cases gk with
  | zero => exact absurd HA.out (by simp [glyph_Rises.l0])
  | succ k1 =>
   have H := HA.out; clear HA; simp only [glyph_Rises.l0] at H
   apply iB H <;> clear H <;> intro V H
   ·have ah := dT V; clear V
    apply iN H; clear H; intro Z H; have ao := dT Z; clear Z
    apply iN H; clear H; intro c4 H; have ap := dT c4; clear c4; apply bSx H; clear H; intro ai Y H
    by_cases c6 : ai = true
    ·subst c6
     rw [if_pos rfl] at H
     apply iB H <;> clear H <;> intro W H
     ·have aj := dT W; clear W; obtain ⟨G, N⟩ : ∃ j_ : Int, (wrap64 (z - 1)) = j_ := ⟨_, rfl⟩
      first | rw [N] at H | simp only [N] at H
      (try rw [N] at Y)
      have hji8w : (IntKind.i64.wrap (z - 1)) = G := (i64_w _).trans N
      apply iN H; clear H; intro c9 H; have aq := dT c9; clear c9
      apply iN H; clear H; intro U H; have am := dT U; clear U
      apply iB H <;> clear H <;> intro P H
      ·have ad : (Op.bytesLess ((rdOf ByteArray.empty B (G)).toList) ((rdOf ByteArray.empty B z).toList)) = true := P; clear P; have H' := aM H; clear H; obtain ⟨⟨M, I, A⟩, D, E⟩ := xAt (Kd.at_string O.out) z; cases I; replace A := cX HB A
       go_wp2_with (first | ((with_reducible refine gate_callee (f := 67) rfl ?_); refine gL_ (some 13) Try.func67 #[.string (rdOf ByteArray.empty B z)] ?_; (with_reducible refine (glyph_Name.calls k1 (rdOf ByteArray.empty B z) true _ Y.out).mono ?_); rintro e au ⟨rfl, hb⟩; refine ⟨_, rfl, ?_⟩; replace HB := hS0 HB hb; (try clear hb); obtain ⟨⟨Q, R, F⟩, J, L⟩ := xAt (Kd.at_string O.out) (G); obtain rfl := sJJ R; replace F := cX HB F; ))
       go_roundg k1
       case measure => have := aa.out; omega
       case rel => exact ⟨(wrap64 (z + 1)), sI, H', ⟨by have := aa.out; omega⟩, bT0 HB⟩
      ·have ad : (Op.bytesLess ((rdOf ByteArray.empty B (G)).toList) ((rdOf ByteArray.empty B z).toList)) = false := by simpa using P
       clear P; obtain rfl := Option.some.inj H; obtain ⟨⟨M, I, A⟩, D, E⟩ := xAt (Kd.at_string O.out) z; cases I; replace A := cX HB A
       go_wp2_with (first | ((with_reducible refine gate_callee (f := 67) rfl ?_); refine gL_ (some 13) Try.func67 #[.string (rdOf ByteArray.empty B z)] ?_; (with_reducible refine (glyph_Name.calls k1 (rdOf ByteArray.empty B z) true _ Y.out).mono ?_); rintro e av ⟨rfl, hb⟩; refine ⟨_, rfl, ?_⟩; replace HB := hS0 HB hb; (try clear hb); obtain ⟨⟨Q, R, F⟩, J, L⟩ := xAt (Kd.at_string O.out) (G); obtain rfl := sJJ R; replace F := cX HB F; ))
       go_ret
       exact ⟨by first | rfl | (simp [errW_none, errW_some] <;> rfl) | (simp only [← N]; first | rfl | (simp [errW_none, errW_some] <;> rfl)) | (simp [*, errW_none, errW_some] <;> rfl), bO HB.out⟩
     ·have aj := decide_eq_false W; clear W; have H' := aM H; clear H; obtain ⟨⟨M, I, A⟩, D, E⟩ := xAt (Kd.at_string O.out) z; cases I; replace A := cX HB A
      go_wp2_with (first | ((with_reducible refine gate_callee (f := 67) rfl ?_); refine gL_ (some 13) Try.func67 #[.string (rdOf ByteArray.empty B z)] ?_; (with_reducible refine (glyph_Name.calls k1 (rdOf ByteArray.empty B z) true _ Y.out).mono ?_); rintro e aw ⟨rfl, hb⟩; refine ⟨_, rfl, ?_⟩; replace HB := hS0 HB hb; (try clear hb)))
      go_roundg k1
      case measure => have := aa.out; omega
      case rel => exact ⟨(wrap64 (z + 1)), sI, H', ⟨by have := aa.out; omega⟩, bT0 HB⟩
    ·replace c6 := Bool.eq_false_iff.mpr c6; subst c6
     rw [if_neg nF] at H; obtain rfl := Option.some.inj H; obtain ⟨⟨M, I, A⟩, D, E⟩ := xAt (Kd.at_string O.out) z; cases I; replace A := cX HB A
     go_wp2_with (first | ((with_reducible refine gate_callee (f := 67) rfl ?_); refine gL_ (some 13) Try.func67 #[.string (rdOf ByteArray.empty B z)] ?_; (with_reducible refine (glyph_Name.calls k1 (rdOf ByteArray.empty B z) false _ Y.out).mono ?_); rintro e ax ⟨rfl, hb⟩; refine ⟨_, rfl, ?_⟩; replace HB := hS0 HB hb; (try clear hb)))
     go_ret
     exact ⟨eW, bO HB.out⟩
   ·have ah := decide_eq_false V; clear V; obtain rfl := Option.some.inj H
    go_wp2
    go_ret
    exact ⟨eW, bO HB.out⟩

/-! ### table_tracks: function 38 -/
def table_tracks.f (k : Nat) (l0 : List ByteArray) (a1 : Int) : Option (Bool) := if (l0.length : Int) ≤ 6 then (if a1 ≥ 1 then (if a1 ≤ 256 then ((glyph_Rises.f k l0).bind fun t130 => (some t130)) else (some false)) else (some false)) else (some false)
theorem table_tracks.mono : ∀ a0 a1 k, LeO (table_tracks.f k a0 a1) (table_tracks.f (k + 1) a0 a1) := by
 intro a0 a1 k
 unfold table_tracks.f
 repeat' first | (with_reducible first | exact glyph_Rises.mono _ _ | exact lA | apply lI | refine lB ?_ fun _ => ?_) | exact lN _ | apply lI | refine lB ?_ fun _ => ?_
theorem table_tracks.calls (k : Nat) (P : Option Addr) (Q : Nat) (z : List ByteArray) (E : Int) (r : Bool) (w : World) (F : Kd.C Kd.string w P z.length z) (G : z.length ≤ Q) (h : table_tracks.f k z E = some r) :
  Calls Try.prog 38 #[.slice P z.length Q, .int .i64 E] w fun e w' => e = .returned (.bool r) ∧ Below w.heap.size w w' := by
 have R := aM F; have U := aM G; clear F G; have HB := aM (Below.refl w.heap.size w); rw [table_tracks.f] at h; have H := h; clear h
 apply iB H <;> clear H <;> intro A H
 ·have J := dT A; have L : decide (z.length ≤ 6) = true := dT (by omega); clear A
  apply iB H <;> clear H <;> intro B H
  ·have M := dT B; clear B
   apply iB H <;> clear H <;> intro D H
   ·have N := dT D; clear D; apply bSx H; clear H; intro O V H; obtain rfl := Option.some.inj H
    go_enter Try.func38, Try.ntmps38
    go_wp2_with (first | (go_at_call 61; (with_reducible refine (glyph_Rises.calls k _ _ z O _ ?s1 U.out V.out).mono ?_); (case s1 => exact cO R.out); rintro e W ⟨rfl, hb⟩; replace HB := hS0 HB hb; (try clear hb)))
    go_ret
    exact ⟨eW, bO HB.out⟩
   ·have N := decide_eq_false D; clear D; obtain rfl := Option.some.inj H
    go_enter Try.func38, Try.ntmps38
    go_wp2
    go_ret
    exact ⟨eW, bO HB.out⟩
  ·have M := decide_eq_false B; clear B; obtain rfl := Option.some.inj H
   go_enter Try.func38, Try.ntmps38
   go_wp2
   go_ret
   exact ⟨eW, bO HB.out⟩
 ·have J := decide_eq_false A; have L : decide (z.length ≤ 6) = false := decide_eq_false (by omega); clear A; obtain rfl := Option.some.inj H
  go_enter Try.func38, Try.ntmps38
  go_wp2
  go_ret
  exact ⟨eW, bO HB.out⟩

end Go.Proofs.Ytghfclgcgecgdaa.X

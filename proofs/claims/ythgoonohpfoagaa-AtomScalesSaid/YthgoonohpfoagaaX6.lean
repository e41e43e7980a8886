/- What the functions of this seat compute, and that the program's calls come to just that: written by this session's own program out of the translation; no condition. -/
import Derived.Test.YthgoonohpfoagaaX0
import Derived.Test.YthgoonohpfoagaaX5
namespace Go.Proofs.Ythgoonohpfoagaa.X
open Go.RowKit Go.Proofs.YthgoonohpfoagaaW.PrintWords Go.Proofs.YthgoonohpfoagaaW.PrintLast Go.Proofs.YthgoonohpfoagaaW.PrintMore
attribute [local go_sem] max2_int min2_int max_two min_two max_three min_three max_four min_four
set_option linter.unusedVariables false
set_option linter.unusedSimpArgs false
set_option maxHeartbeats 8000000
set_option maxRecDepth 100000

/-! ### glyph_Rises: function 47 -/
def glyph_Rises.l0 : Nat → List ByteArray → List ByteArray → Int → Int → Option (Bool)
 | 0, _, _, _, _ => none
 | k + 1, x0, x5, x6, x7 => if x7 < x6 then (if 0 ≤ x7 then (if x7 < (x5.length : Int) then ((glyph_Name.f k (rdOf ByteArray.empty x5 x7)).bind fun t126 => (if t126 = true then (if x7 > 0 then (if 0 ≤ (wrap64 (x7 - 1)) then (if (wrap64 (x7 - 1)) < (x0.length : Int) then (if ((Op.bytesLess ((rdOf ByteArray.empty x0 (wrap64 (x7 - 1))).toList) ((rdOf ByteArray.empty x5 x7).toList)) = true) then (glyph_Rises.l0 k x0 x5 x6 (wrap64 (x7 + 1))) else (some false)) else (none)) else (none)) else (glyph_Rises.l0 k x0 x5 x6 (wrap64 (x7 + 1)))) else (some false))) else (none)) else (none)) else (some true)
def glyph_Rises.f (k : Nat) (l0 : List ByteArray) : Option (Bool) := glyph_Rises.l0 k l0 l0 (l0.length : Int) 0
theorem glyph_Rises.mono_l : ∀ k, (∀ y0 y1 y2 y3, LeO (glyph_Rises.l0 k y0 y1 y2 y3) (glyph_Rises.l0 (k + 1) y0 y1 y2 y3))
 | 0 => fun _ _ _ _ r h => by simp [glyph_Rises.l0] at h
 | k + 1 => by
  have ih0 := glyph_Rises.mono_l k
  ·intro y0 y1 y2 y3
   unfold glyph_Rises.l0
   repeat' first | (with_reducible first | exact ih0 _ _ _ _ | exact glyph_Name.mono _ _ | exact lA | apply lI | refine lB ?_ fun _ => ?_) | exact lN _ | apply lI | refine lB ?_ fun _ => ?_
theorem glyph_Rises.mono : ∀ a0 k, LeO (glyph_Rises.f k a0) (glyph_Rises.f (k + 1) a0) := by
 intro a0 k; have ih0 := glyph_Rises.mono_l k
 unfold glyph_Rises.f
 repeat' first | (with_reducible first | exact ih0 _ _ _ _ | exact glyph_Name.mono _ _ | exact lA | apply lI | refine lB ?_ fun _ => ?_) | exact lN _ | apply lI | refine lB ?_ fun _ => ?_
theorem glyph_Rises.calls (k : Nat) (A0 : Option Addr) (c0 : Nat) (B : List ByteArray) (r : Bool) (w : World) (ae : Kd.C Kd.string w A0 B.length B) (af : B.length ≤ c0) (h : glyph_Rises.f k B = some r) :
  Calls Try.prog 47 #[.slice A0 B.length c0] w fun e w' => e = .returned (.bool r) ∧ Below w.heap.size w w' := by
 have O := aM ae; have ar := aM af; clear ae af; have HB := aM (Below.refl w.heap.size w); rw [glyph_Rises.f] at h; have H := h; clear h; have H' := aM H; clear H
 go_enter Try.func47, Try.ntmps47
 go_wp2
 go_loopg [7] k (fun kq v7 w' => ∃ (z : Int), v7 = .int .i64 z ∧ Aside0 (glyph_Rises.l0 kq B B (B.length : Int) z = some r) ∧ Aside0 (kq ≤ k) ∧ BA w w')
 case atStart => exact ⟨(0), sI, H', ⟨Nat.le_refl _⟩, bT0 HB⟩
 case round =>
  clear H'; obtain ⟨z, rfl, HA, HK1, HB⟩ := hrel; cases gk with
  | zero => exact absurd HA.out (by simp [glyph_Rises.l0])
  | succ k1 =>
   have H := HA.out; clear HA; simp only [glyph_Rises.l0] at H
   by_cases V : z < (B.length : Int)
   ·rw [if_pos V] at H; have ah := dT V; clear V
    by_cases Z : 0 ≤ z
    ·rw [if_pos Z] at H; have ao := dT Z; clear Z
     by_cases c4 : z < (B.length : Int)
     ·rw [if_pos c4] at H; have ap := dT c4; clear c4; replace H := Option.bind_eq_some_iff.mp H; obtain ⟨ai, ag, H⟩ := H; have Y := aM ag; clear ag
      by_cases c6 : ai = true
      ·subst c6
       rw [if_pos rfl] at H
       by_cases W : z > 0
       ·rw [if_pos W] at H; have aj := dT W; clear W; obtain ⟨G, N⟩ : ∃ j_ : Int, (wrap64 (z - 1)) = j_ := ⟨_, rfl⟩
        first | rw [N] at H | simp only [N] at H
        (try rw [N] at Y)
        have hji8w : (IntKind.i64.wrap (z - 1)) = G := (i64_w _).trans N
        by_cases c9 : 0 ≤ (G)
        ·rw [if_pos c9] at H; have aq := dT c9; clear c9
         by_cases U : (G) < (B.length : Int)
         ·rw [if_pos U] at H; have am := dT U; clear U
          by_cases P : ((Op.bytesLess ((rdOf ByteArray.empty B (G)).toList) ((rdOf ByteArray.empty B z).toList)) = true)
          ·rw [if_pos P] at H; have ad : (Op.bytesLess ((rdOf ByteArray.empty B (G)).toList) ((rdOf ByteArray.empty B z).toList)) = true := P; clear P; have H' := aM H; clear H; have D : 0 ≤ (z : Int) := oT aO; have E : z < (B.length : Int) := oT aO; obtain ⟨M, I, A⟩ := Kd.at_string O.out z D E; cases I; replace A := cX HB A; replace D := eq_true D; replace E := eq_true E
           go_wp2_with (first | ((with_reducible refine gate_callee (f := 72) rfl ?_); refine gL_ (some 13) Try.func72 #[.string (rdOf ByteArray.empty B z)] ?_; (with_reducible refine (glyph_Name.calls k1 (rdOf ByteArray.empty B z) true _ Y.out).mono ?_); rintro e au ⟨rfl, hb⟩; refine ⟨_, rfl, ?_⟩; replace HB := hS0 HB hb; (try clear hb); have J : 0 ≤ ((G) : Int) := oT aO; have L : (G) < (B.length : Int) := oT aO; obtain ⟨Q, R, F⟩ := Kd.at_string O.out (G) J L; have he_ : M = Q := (by injection R); subst he_; replace F := cX HB F; replace J := eq_true J; replace L := eq_true L))
           go_roundg k1
           case measure => have := HK1.out; omega
           case rel => exact ⟨(wrap64 (z + 1)), sI, H', ⟨by have := HK1.out; omega⟩, bT0 HB⟩
          ·rw [if_neg P] at H
           have ad : (Op.bytesLess ((rdOf ByteArray.empty B (G)).toList) ((rdOf ByteArray.empty B z).toList)) = false := by simpa using P
           clear P; obtain rfl := Option.some.inj H; have D : 0 ≤ (z : Int) := oT aO; have E : z < (B.length : Int) := oT aO; obtain ⟨M, I, A⟩ := Kd.at_string O.out z D E; cases I; replace A := cX HB A; replace D := eq_true D; replace E := eq_true E
           go_wp2_with (first | ((with_reducible refine gate_callee (f := 72) rfl ?_); refine gL_ (some 13) Try.func72 #[.string (rdOf ByteArray.empty B z)] ?_; (with_reducible refine (glyph_Name.calls k1 (rdOf ByteArray.empty B z) true _ Y.out).mono ?_); rintro e av ⟨rfl, hb⟩; refine ⟨_, rfl, ?_⟩; replace HB := hS0 HB hb; (try clear hb); have J : 0 ≤ ((G) : Int) := oT aO; have L : (G) < (B.length : Int) := oT aO; obtain ⟨Q, R, F⟩ := Kd.at_string O.out (G) J L; have he_ : M = Q := (by injection R); subst he_; replace F := cX HB F; replace J := eq_true J; replace L := eq_true L))
           go_ret
           exact ⟨by first | rfl | (simp [errW_none, errW_some] <;> rfl) | (simp only [← N]; first | rfl | (simp [errW_none, errW_some] <;> rfl)) | (simp [*, errW_none, errW_some] <;> rfl), bO HB.out⟩
         ·exact nX U H
        ·exact nX c9 H
       ·rw [if_neg W] at H; have aj := decide_eq_false W; clear W; have H' := aM H; clear H; have D : 0 ≤ (z : Int) := oT aO; have E : z < (B.length : Int) := oT aO; obtain ⟨M, I, A⟩ := Kd.at_string O.out z D E; cases I; replace A := cX HB A; replace D := eq_true D; replace E := eq_true E
        go_wp2_with (first | ((with_reducible refine gate_callee (f := 72) rfl ?_); refine gL_ (some 13) Try.func72 #[.string (rdOf ByteArray.empty B z)] ?_; (with_reducible refine (glyph_Name.calls k1 (rdOf ByteArray.empty B z) true _ Y.out).mono ?_); rintro e aw ⟨rfl, hb⟩; refine ⟨_, rfl, ?_⟩; replace HB := hS0 HB hb; (try clear hb)))
        go_roundg k1
        case measure => have := HK1.out; omega
        case rel => exact ⟨(wrap64 (z + 1)), sI, H', ⟨by have := HK1.out; omega⟩, bT0 HB⟩
      ·replace c6 := Bool.eq_false_iff.mpr c6; subst c6
       rw [if_neg nF] at H; obtain rfl := Option.some.inj H; have D : 0 ≤ (z : Int) := oT aO; have E : z < (B.length : Int) := oT aO; obtain ⟨M, I, A⟩ := Kd.at_string O.out z D E; cases I; replace A := cX HB A; replace D := eq_true D; replace E := eq_true E
       go_wp2_with (first | ((with_reducible refine gate_callee (f := 72) rfl ?_); refine gL_ (some 13) Try.func72 #[.string (rdOf ByteArray.empty B z)] ?_; (with_reducible refine (glyph_Name.calls k1 (rdOf ByteArray.empty B z) false _ Y.out).mono ?_); rintro e ax ⟨rfl, hb⟩; refine ⟨_, rfl, ?_⟩; replace HB := hS0 HB hb; (try clear hb)))
       go_ret
       exact ⟨eW, bO HB.out⟩
     ·exact nX c4 H
    ·exact nX Z H
   ·rw [if_neg V] at H; have ah := decide_eq_false V; clear V; obtain rfl := Option.some.inj H
    go_wp2
    go_ret
    exact ⟨eW, bO HB.out⟩

end Go.Proofs.Ythgoonohpfoagaa.X

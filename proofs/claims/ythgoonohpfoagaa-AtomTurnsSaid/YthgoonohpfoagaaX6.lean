/- What the functions of this seat compute, and that the program's calls come to just that: written by this session's own program out of the translation; no condition. -/
import Derived.Test.YthgoonohpfoagaaX0
import Derived.Test.YthgoonohpfoagaaX5
namespace Go.Proofs.Ythgoonohpfoagaa.X
open Go.RowKit Go.Proofs.YthgoonohpfoagaaW.PrintWords Go.Proofs.YthgoonohpfoagaaW.PrintLast Go.Proofs.YthgoonohpfoagaaW.PrintMore
attribute [local go_sem] max2_int min2_int max_two min_two max_three min_three max_four min_four
set_option linter.unusedVariables false
set_option linter.unusedSimpArgs false

/-! ### glyph_Rises: function 47 -/
def glyph_Rises.l0 : Nat → List ByteArray → List ByteArray → Int → Int → Option (Bool)
 | 0, _, _, _, _ => none
 | k + 1, x0, x5, x6, x7 => if x7 < x6 then (if 0 ≤ x7 then (if x7 < (x5.length : Int) then ((glyph_Name.f k (rdOf ByteArray.empty x5 x7)).bind fun t126 => (if t126 = true then (if x7 > 0 then (if 0 ≤ (wrap64 (x7 - 1)) then (if (wrap64 (x7 - 1)) < (x0.length : Int) then (if ((Op.bytesLess ((rdOf ByteArray.empty x0 (wrap64 (x7 - 1))).toList) ((rdOf ByteArray.empty x5 x7).toList)) = true) then (glyph_Rises.l0 k x0 x5 x6 (wrap64 (x7 + 1))) else (some false)) else (none)) else (none)) else (glyph_Rises.l0 k x0 x5 x6 (wrap64 (x7 + 1)))) else (some false))) else (none)) else (none)) else (some true)
def glyph_Rises.f (k : Nat) (l0 : List ByteArray) : Option (Bool) := glyph_Rises.l0 k l0 l0 (l0.length : Int) 0
theorem glyph_Rises.mono_l : ∀ k, (∀ y0 y1 y2 y3, LeO (glyph_Rises.l0 k y0 y1 y2 y3) (glyph_Rises.l0 (k + 1) y0 y1 y2 y3))
 | 0 => fun _ _ _ _ r h => by simp [glyph_Rises.l0] at h
 | k + 1 => by
  have ih0 := glyph_Rises.mono_l k
  ·intro y0 y1 y2 y3
   unfold glyph_Rises.l0
   repeat' first | (with_reducible first | exact ih0 _ _ _ _ | exact glyph_Name.mono _ _ | exact lA | apply lI | refine lB ?_ fun _ => ?_) | exact lN _ | apply lI | refine lB ?_ fun _ => ?_
theorem glyph_Rises.mono : ∀ a0 k, LeO (glyph_Rises.f k a0) (glyph_Rises.f (k + 1) a0) := by
 intro a0 k; have ih0 := glyph_Rises.mono_l k
 unfold glyph_Rises.f
 repeat' first | (with_reducible first | exact ih0 _ _ _ _ | exact glyph_Name.mono _ _ | exact lA | apply lI | refine lB ?_ fun _ => ?_) | exact lN _ | apply lI | refine lB ?_ fun _ => ?_
set_option maxHeartbeats 8000000 in
set_option maxRecDepth 100000 in
theorem glyph_Rises.calls (k : Nat) (A0 : Option Addr) (c0 : Nat) (l0 : List ByteArray) (r : Bool) (w : World) (hr0 : Kd.C Kd.string w A0 l0.length l0) (hc0 : l0.length ≤ c0) (h : glyph_Rises.f k l0 = some r) :
  Calls Try.prog 47 #[.slice A0 l0.length c0] w fun e w' => e = .returned (.bool r) ∧ Below w.heap.size w w' := by
 have HR0 := Aside0.mk hr0; have HC0 := Aside0.mk hc0; clear hr0 hc0; have HB := Aside0.mk (Below.refl w.heap.size w); have H : (glyph_Rises.l0 k l0 l0 (l0.length : Int) 0) = some r := h; clear h; have H' := Aside0.mk H; clear H
 go_enter Try.func47, Try.ntmps47
 go_wp2
 go_loopg [7] k (fun kq v7 w' => ∃ (x7_1 : Int), v7 = .int .i64 x7_1 ∧ Aside0 (glyph_Rises.l0 kq l0 l0 (l0.length : Int) x7_1 = some r) ∧ Aside0 (kq ≤ k) ∧ Aside0 (Below w.heap.size w w'))
 case atStart => exact ⟨(0), sI, H', ⟨Nat.le_refl _⟩, ⟨bO HB.out⟩⟩
 case round =>
  clear H'; obtain ⟨x7_1, rfl, HA, HK1, HB⟩ := hrel; cases gk with
  | zero => exact absurd HA.out (by simp [glyph_Rises.l0])
  | succ k1 =>
   have H := HA.out; clear HA; simp only [glyph_Rises.l0] at H
   by_cases c2 : x7_1 < (l0.length : Int)
   ·rw [if_pos c2] at H; have c2b0 := decide_eq_true c2; clear c2
    by_cases c3 : 0 ≤ x7_1
    ·rw [if_pos c3] at H; have c3b0 := decide_eq_true c3; clear c3
     by_cases c4 : x7_1 < (l0.length : Int)
     ·rw [if_pos c4] at H; have c4b0 := decide_eq_true c4; clear c4; replace H := Option.bind_eq_some_iff.mp H; obtain ⟨t126, A50, H⟩ := H; replace H : (if t126 = true then (if x7_1 > 0 then (if 0 ≤ (wrap64 (x7_1 - 1)) then (if (wrap64 (x7_1 - 1)) < (l0.length : Int) then (if ((Op.bytesLess ((rdOf ByteArray.empty l0 (wrap64 (x7_1 - 1))).toList) ((rdOf ByteArray.empty l0 x7_1).toList)) = true) then (glyph_Rises.l0 k1 l0 l0 (l0.length : Int) (wrap64 (x7_1 + 1))) else (some false)) else (none)) else (none)) else (glyph_Rises.l0 k1 l0 l0 (l0.length : Int) (wrap64 (x7_1 + 1)))) else (some false)) = some r := H; have A5 := Aside0.mk A50; clear A50
      by_cases c6 : t126 = true
      ·subst c6
       have H1 : (if x7_1 > 0 then (if 0 ≤ (wrap64 (x7_1 - 1)) then (if (wrap64 (x7_1 - 1)) < (l0.length : Int) then (if ((Op.bytesLess ((rdOf ByteArray.empty l0 (wrap64 (x7_1 - 1))).toList) ((rdOf ByteArray.empty l0 x7_1).toList)) = true) then (glyph_Rises.l0 k1 l0 l0 (l0.length : Int) (wrap64 (x7_1 + 1))) else (some false)) else (none)) else (none)) else (glyph_Rises.l0 k1 l0 l0 (l0.length : Int) (wrap64 (x7_1 + 1)))) = some r := by rw [if_pos rfl] at H; exact H
       clear H; have H := H1; clear H1
       by_cases c7 : x7_1 > 0
       ·rw [if_pos c7] at H; have c7b0 := decide_eq_true c7; clear c7; obtain ⟨ji8, hji8⟩ : ∃ j_ : Int, (wrap64 (x7_1 - 1)) = j_ := ⟨_, rfl⟩
        replace H : (if 0 ≤ (ji8) then (if (ji8) < (l0.length : Int) then (if ((Op.bytesLess ((rdOf ByteArray.empty l0 (ji8)).toList) ((rdOf ByteArray.empty l0 x7_1).toList)) = true) then (glyph_Rises.l0 k1 l0 l0 (l0.length : Int) (wrap64 (x7_1 + 1))) else (some false)) else (none)) else (none)) = some r := by first | (rw [hji8] at H; exact H) | (simp only [hji8] at H ⊢; exact H)
        (try rw [hji8] at A5)
        have hji8w : (IntKind.i64.wrap (x7_1 - 1)) = ji8 := (i64_w _).trans hji8
        by_cases c9 : 0 ≤ (ji8)
        ·rw [if_pos c9] at H; have c9b0 := decide_eq_true c9; clear c9
         by_cases c10 : (ji8) < (l0.length : Int)
         ·rw [if_pos c10] at H; have c10b0 := decide_eq_true c10; clear c10
          by_cases c11 : ((Op.bytesLess ((rdOf ByteArray.empty l0 (ji8)).toList) ((rdOf ByteArray.empty l0 x7_1).toList)) = true)
          ·rw [if_pos c11] at H; have c11b0 : (Op.bytesLess ((rdOf ByteArray.empty l0 (ji8)).toList) ((rdOf ByteArray.empty l0 x7_1).toList)) = true := c11; clear c11; have H' := Aside0.mk H; clear H; have p125 : 0 ≤ (x7_1 : Int) := of_decide_eq_true aO; have q125 : x7_1 < (l0.length : Int) := of_decide_eq_true aO; obtain ⟨ad125, e125, hx125_0⟩ := Kd.at_string HR0.out x7_1 p125 q125; cases e125; replace hx125_0 := cX HB hx125_0; replace p125 := eq_true p125; replace q125 := eq_true q125
           go_wp2_with (first | ((with_reducible refine gate_callee (f := 72) rfl ?_); refine gL_ (some 13) Try.func72 #[.string (rdOf ByteArray.empty l0 x7_1)] ?_; (with_reducible refine (glyph_Name.calls k1 (rdOf ByteArray.empty l0 x7_1) true _ A5.out).mono ?_); rintro e w12 ⟨rfl, hb⟩; refine ⟨_, rfl, ?_⟩; replace HB := hS0 HB hb; (try clear hb); (try clear hb2); (try clear hk); (try clear hi); have p127 : 0 ≤ ((ji8) : Int) := of_decide_eq_true aO; have q127 : (ji8) < (l0.length : Int) := of_decide_eq_true aO; obtain ⟨ad127, e127, hx127_0⟩ := Kd.at_string HR0.out (ji8) p127 q127; have he_ : ad125 = ad127 := (by injection e127); subst he_; replace hx127_0 := cX HB hx127_0; replace p127 := eq_true p127; replace q127 := eq_true q127))
           go_roundg k1
           case measure => have := HK1.out; omega
           case rel => exact ⟨(wrap64 (x7_1 + 1)), sI, H', ⟨by have := HK1.out; omega⟩, ⟨bO HB.out⟩⟩
          ·rw [if_neg c11] at H
           have c11b0 : (Op.bytesLess ((rdOf ByteArray.empty l0 (ji8)).toList) ((rdOf ByteArray.empty l0 x7_1).toList)) = false := by simpa using c11
           clear c11; obtain rfl := Option.some.inj H; have p125 : 0 ≤ (x7_1 : Int) := of_decide_eq_true aO; have q125 : x7_1 < (l0.length : Int) := of_decide_eq_true aO; obtain ⟨ad125, e125, hx125_0⟩ := Kd.at_string HR0.out x7_1 p125 q125; cases e125; replace hx125_0 := cX HB hx125_0; replace p125 := eq_true p125; replace q125 := eq_true q125
           go_wp2_with (first | ((with_reducible refine gate_callee (f := 72) rfl ?_); refine gL_ (some 13) Try.func72 #[.string (rdOf ByteArray.empty l0 x7_1)] ?_; (with_reducible refine (glyph_Name.calls k1 (rdOf ByteArray.empty l0 x7_1) true _ A5.out).mono ?_); rintro e w13 ⟨rfl, hb⟩; refine ⟨_, rfl, ?_⟩; replace HB := hS0 HB hb; (try clear hb); (try clear hb2); (try clear hk); (try clear hi); have p127 : 0 ≤ ((ji8) : Int) := of_decide_eq_true aO; have q127 : (ji8) < (l0.length : Int) := of_decide_eq_true aO; obtain ⟨ad127, e127, hx127_0⟩ := Kd.at_string HR0.out (ji8) p127 q127; have he_ : ad125 = ad127 := (by injection e127); subst he_; replace hx127_0 := cX HB hx127_0; replace p127 := eq_true p127; replace q127 := eq_true q127))
           go_ret
           exact ⟨by first | rfl | (simp [errW_none, errW_some] <;> rfl) | (simp only [← hji8]; first | rfl | (simp [errW_none, errW_some] <;> rfl)) | (simp [*, errW_none, errW_some] <;> rfl), bO HB.out⟩
         ·rw [if_neg c10] at H; exact absurd H (by simp)
        ·rw [if_neg c9] at H; exact absurd H (by simp)
       ·rw [if_neg c7] at H; have c7b0 := decide_eq_false c7; clear c7; have H' := Aside0.mk H; clear H; have p125 : 0 ≤ (x7_1 : Int) := of_decide_eq_true aO; have q125 : x7_1 < (l0.length : Int) := of_decide_eq_true aO; obtain ⟨ad125, e125, hx125_0⟩ := Kd.at_string HR0.out x7_1 p125 q125; cases e125; replace hx125_0 := cX HB hx125_0; replace p125 := eq_true p125; replace q125 := eq_true q125
        go_wp2_with (first | ((with_reducible refine gate_callee (f := 72) rfl ?_); refine gL_ (some 13) Try.func72 #[.string (rdOf ByteArray.empty l0 x7_1)] ?_; (with_reducible refine (glyph_Name.calls k1 (rdOf ByteArray.empty l0 x7_1) true _ A5.out).mono ?_); rintro e w14 ⟨rfl, hb⟩; refine ⟨_, rfl, ?_⟩; replace HB := hS0 HB hb; (try clear hb); (try clear hb2); (try clear hk); (try clear hi)))
        go_roundg k1
        case measure => have := HK1.out; omega
        case rel => exact ⟨(wrap64 (x7_1 + 1)), sI, H', ⟨by have := HK1.out; omega⟩, ⟨bO HB.out⟩⟩
      ·replace c6 := Bool.eq_false_iff.mpr c6; subst c6
       have H1 : (some false) = some r := by rw [if_neg (show ¬ (false = true) by decide)] at H; exact H
       clear H; have H := H1; clear H1; obtain rfl := Option.some.inj H; have p125 : 0 ≤ (x7_1 : Int) := of_decide_eq_true aO; have q125 : x7_1 < (l0.length : Int) := of_decide_eq_true aO; obtain ⟨ad125, e125, hx125_0⟩ := Kd.at_string HR0.out x7_1 p125 q125; cases e125; replace hx125_0 := cX HB hx125_0; replace p125 := eq_true p125; replace q125 := eq_true q125
       go_wp2_with (first | ((with_reducible refine gate_callee (f := 72) rfl ?_); refine gL_ (some 13) Try.func72 #[.string (rdOf ByteArray.empty l0 x7_1)] ?_; (with_reducible refine (glyph_Name.calls k1 (rdOf ByteArray.empty l0 x7_1) false _ A5.out).mono ?_); rintro e w15 ⟨rfl, hb⟩; refine ⟨_, rfl, ?_⟩; replace HB := hS0 HB hb; (try clear hb); (try clear hb2); (try clear hk); (try clear hi)))
       go_ret
       exact ⟨eW, bO HB.out⟩
     ·rw [if_neg c4] at H; exact absurd H (by simp)
    ·rw [if_neg c3] at H; exact absurd H (by simp)
   ·rw [if_neg c2] at H; have c2b0 := decide_eq_false c2; clear c2; obtain rfl := Option.some.inj H
    go_wp2
    go_ret
    exact ⟨eW, bO HB.out⟩

end Go.Proofs.Ythgoonohpfoagaa.X

/- What the functions of this seat compute, and that the program's calls come to just that: written by this session's own program out of the translation; no condition. -/
import Derived.Test.YtolacbnkebbjiaaX0
import Derived.Test.YtolacbnkebbjiaaX1
import Derived.Test.YtolacbnkebbjiaaX2
import Derived.Test.YtolacbnkebbjiaaX15
import Derived.Test.YtolacbnkebbjiaaX16
import Derived.Test.YtolacbnkebbjiaaX27
import Derived.Test.YtolacbnkebbjiaaX32
namespace Go.Proofs.Ytolacbnkebbjiaa.X
open Go.RowKit Go.Proofs.YtolacbnkebbjiaaW.PrintWords Go.Proofs.YtolacbnkebbjiaaW.PrintLast Go.Proofs.YtolacbnkebbjiaaW.PrintMore
attribute [local go_sem] max2_int min2_int max_two min_two max_three min_three max_four min_four   -- for this text's walks alone
set_option linter.unusedVariables false
set_option linter.unusedSimpArgs false

/-! ### tabardlaw03_WordBack: function 9 -/
mutual
def tabardlaw03_WordBack.j0 : Nat → List Int → Int → List Int → Int → Bool → Option (Bool)
 | 0, _, _, _, _, _ => none
 | k + 1, x0, x1, x5, x7, x49 => if x49 = true then (some false) else ((some (([] : List Int) : List Int)).bind fun y703 => (if y703.length + x0.length < 17592186044416 then ((word_Encode.f k (y703 ++ x0) (wrap64 (x7 - 1))).bind fun bt709 => (if bt709.2 = 2 then ((some (([] : List Int) : List Int)).bind fun y713 => (if y713.length + x0.length < 17592186044416 then ((word_Encode.f k (y713 ++ x0) (mn 64 (wrap64 (x7 + (wrap64 (Int.tmod (IntKind.u64.wrap (x1)) 8)))))).bind fun bt719 => (if bt719.2 = 0 then (if (bt719.1.length : Int) = (mn 64 (wrap64 (x7 + (wrap64 (Int.tmod (IntKind.u64.wrap (x1)) 8))))) then ((some (([] : List Int) : List Int)).bind fun y723 => (if y723.length + bt719.1.length < 17592186044416 then ((word_Trim.f k (y723 ++ bt719.1)).bind fun t729 => ((tabardlaw03_same.f k t729 x5).bind fun t732 => (tabardlaw03_WordBack.j1 k x0 (mn 64 (wrap64 (x7 + (wrap64 (Int.tmod (IntKind.u64.wrap (x1)) 8))))) bt719.1 (!t732)))) else (none))) else (tabardlaw03_WordBack.j1 k x0 (mn 64 (wrap64 (x7 + (wrap64 (Int.tmod (IntKind.u64.wrap (x1)) 8))))) bt719.1 true)) else (tabardlaw03_WordBack.j1 k x0 (mn 64 (wrap64 (x7 + (wrap64 (Int.tmod (IntKind.u64.wrap (x1)) 8))))) bt719.1 true))) else (none))) else (some false))) else (none)))
def tabardlaw03_WordBack.j1 : Nat → List Int → Int → List Int → Bool → Option (Bool)
 | 0, _, _, _, _ => none
 | k + 1, x0, x8, x9, x92 => if x92 = true then (some false) else ((some (([] : List Int) : List Int)).bind fun y733 => (if y733.length + x9.length < 17592186044416 then ((word_Decode.f k (y733 ++ x9) (x0.length : Int)).bind fun bt739 => (if bt739.2 = 0 then ((tabardlaw03_tuples.f k bt739.1 x0).bind fun t743 => (tabardlaw03_WordBack.j2 k x0 x8 x9 (!t743))) else (tabardlaw03_WordBack.j2 k x0 x8 x9 true))) else (none)))
def tabardlaw03_WordBack.j2 : Nat → List Int → Int → List Int → Bool → Option (Bool)
 | 0, _, _, _, _ => none
 | k + 1, x0, x8, x9, x109 => if x109 = true then (some false) else (if x8 = 64 then (some true) else ((some (([] : List Int) : List Int)).bind fun y744 => (if y744.length + x9.length < 17592186044416 then ((some (y744 ++ x9 : List Int)).bind fun y747 => (if 0 ≤ (wrap64 (x8 - 1)) then (if (wrap64 (x8 - 1)) < (x9.length : Int) then ((some (([rd x9 (wrap64 (x8 - 1))] : List Int) : List Int)).bind fun y751 => (if y747.length + y751.length < 17592186044416 then ((word_Decode.f k (y747 ++ y751) (x0.length : Int)).bind fun bt757 => (if bt757.2 = 0 then ((tabardlaw03_tuples.f k bt757.1 x0).bind fun t761 => (some t761)) else (some false))) else (none))) else (none)) else (none))) else (none))))
end
def tabardlaw03_WordBack.f (k : Nat) (l0 : List Int) (a1 : Int) : Option (Bool) := (tabardlaw03_fixed.f k).bind fun t685 => (if t685 = true then ((some (([] : List Int) : List Int)).bind fun y686 => (if y686.length + l0.length < 17592186044416 then ((word_Shortest.f k (y686 ++ l0)).bind fun bt692 => (if (l0.length : Int) > 6 then (if bt692.2 = 150 then (some ((bt692.1.length : Int) == 0)) else (some false)) else ((some (([] : List Int) : List Int)).bind fun y696 => (if y696.length + l0.length < 17592186044416 then ((word_Longest.f k (y696 ++ l0)).bind fun t702 => (if bt692.2 = 0 then (if (bt692.1.length : Int) = t702 then (if t702 < 1 then (tabardlaw03_WordBack.j0 k l0 a1 bt692.1 t702 true) else (tabardlaw03_WordBack.j0 k l0 a1 bt692.1 t702 (decide (t702 > 64)))) else (tabardlaw03_WordBack.j0 k l0 a1 bt692.1 t702 true)) else (tabardlaw03_WordBack.j0 k l0 a1 bt692.1 t702 true))) else (none))))) else (none))) else (some false))
theorem tabardlaw03_WordBack.mono_l : ∀ k, (∀ y0 y1 y2 y3 y4, LeO (tabardlaw03_WordBack.j0 k y0 y1 y2 y3 y4) (tabardlaw03_WordBack.j0 (k + 1) y0 y1 y2 y3 y4)) ∧ (∀ y0 y1 y2 y3, LeO (tabardlaw03_WordBack.j1 k y0 y1 y2 y3) (tabardlaw03_WordBack.j1 (k + 1) y0 y1 y2 y3)) ∧ (∀ y0 y1 y2 y3, LeO (tabardlaw03_WordBack.j2 k y0 y1 y2 y3) (tabardlaw03_WordBack.j2 (k + 1) y0 y1 y2 y3))
 | 0 => ⟨fun _ _ _ _ _ r h => by simp [tabardlaw03_WordBack.j0] at h, fun _ _ _ _ r h => by simp [tabardlaw03_WordBack.j1] at h, fun _ _ _ _ r h => by simp [tabardlaw03_WordBack.j2] at h⟩
 | k + 1 => by
  obtain ⟨ih0, ih1, ih2⟩ := tabardlaw03_WordBack.mono_l k
  refine ⟨?_, ?_, ?_⟩
  ·intro y0 y1 y2 y3 y4
   unfold tabardlaw03_WordBack.j0
   repeat' first
   | (with_reducible exact ih0 _ _ _ _ _)
   | (with_reducible exact ih1 _ _ _ _)
   | (with_reducible exact ih2 _ _ _ _)
   | (with_reducible exact tabardlaw03_fixed.mono _)
   | (with_reducible exact tabardlaw03_same.mono _ _ _)
   | (with_reducible exact tabardlaw03_tuples.mono _ _ _)
   | (with_reducible exact word_Decode.mono _ _ _)
   | (with_reducible exact word_Encode.mono _ _ _)
   | (with_reducible exact word_Longest.mono _ _)
   | (with_reducible exact word_Shortest.mono _ _)
   | (with_reducible exact word_Trim.mono _ _)
   | (with_reducible exact LeO.refl _)
   | (with_reducible exact LeO.none _)
   | (with_reducible refine LeO.ite ?_ ?_)
   | (with_reducible refine LeO.bind ?_ (fun _ => ?_))
   | exact ih0 _ _ _ _ _
   | exact ih1 _ _ _ _
   | exact ih2 _ _ _ _
   | exact tabardlaw03_fixed.mono _
   | exact tabardlaw03_same.mono _ _ _
   | exact tabardlaw03_tuples.mono _ _ _
   | exact word_Decode.mono _ _ _
   | exact word_Encode.mono _ _ _
   | exact word_Longest.mono _ _
   | exact word_Shortest.mono _ _
   | exact word_Trim.mono _ _
   | exact LeO.none _
   | refine LeO.ite ?_ ?_
   | refine LeO.bind ?_ (fun _ => ?_)
  ·intro y0 y1 y2 y3
   unfold tabardlaw03_WordBack.j1
   repeat' first
   | (with_reducible exact ih0 _ _ _ _ _)
   | (with_reducible exact ih1 _ _ _ _)
   | (with_reducible exact ih2 _ _ _ _)
   | (with_reducible exact tabardlaw03_fixed.mono _)
   | (with_reducible exact tabardlaw03_same.mono _ _ _)
   | (with_reducible exact tabardlaw03_tuples.mono _ _ _)
   | (with_reducible exact word_Decode.mono _ _ _)
   | (with_reducible exact word_Encode.mono _ _ _)
   | (with_reducible exact word_Longest.mono _ _)
   | (with_reducible exact word_Shortest.mono _ _)
   | (with_reducible exact word_Trim.mono _ _)
   | (with_reducible exact LeO.refl _)
   | (with_reducible exact LeO.none _)
   | (with_reducible refine LeO.ite ?_ ?_)
   | (with_reducible refine LeO.bind ?_ (fun _ => ?_))
   | exact ih0 _ _ _ _ _
   | exact ih1 _ _ _ _
   | exact ih2 _ _ _ _
   | exact tabardlaw03_fixed.mono _
   | exact tabardlaw03_same.mono _ _ _
   | exact tabardlaw03_tuples.mono _ _ _
   | exact word_Decode.mono _ _ _
   | exact word_Encode.mono _ _ _
   | exact word_Longest.mono _ _
   | exact word_Shortest.mono _ _
   | exact word_Trim.mono _ _
   | exact LeO.none _
   | refine LeO.ite ?_ ?_
   | refine LeO.bind ?_ (fun _ => ?_)
  ·intro y0 y1 y2 y3
   unfold tabardlaw03_WordBack.j2
   repeat' first
   | (with_reducible exact ih0 _ _ _ _ _)
   | (with_reducible exact ih1 _ _ _ _)
   | (with_reducible exact ih2 _ _ _ _)
   | (with_reducible exact tabardlaw03_fixed.mono _)
   | (with_reducible exact tabardlaw03_same.mono _ _ _)
   | (with_reducible exact tabardlaw03_tuples.mono _ _ _)
   | (with_reducible exact word_Decode.mono _ _ _)
   | (with_reducible exact word_Encode.mono _ _ _)
   | (with_reducible exact word_Longest.mono _ _)
   | (with_reducible exact word_Shortest.mono _ _)
   | (with_reducible exact word_Trim.mono _ _)
   | (with_reducible exact LeO.refl _)
   | (with_reducible exact LeO.none _)
   | (with_reducible refine LeO.ite ?_ ?_)
   | (with_reducible refine LeO.bind ?_ (fun _ => ?_))
   | exact ih0 _ _ _ _ _
   | exact ih1 _ _ _ _
   | exact ih2 _ _ _ _
   | exact tabardlaw03_fixed.mono _
   | exact tabardlaw03_same.mono _ _ _
   | exact tabardlaw03_tuples.mono _ _ _
   | exact word_Decode.mono _ _ _
   | exact word_Encode.mono _ _ _
   | exact word_Longest.mono _ _
   | exact word_Shortest.mono _ _
   | exact word_Trim.mono _ _
   | exact LeO.none _
   | refine LeO.ite ?_ ?_
   | refine LeO.bind ?_ (fun _ => ?_)
theorem tabardlaw03_WordBack.mono : ∀ a0 a1 k, LeO (tabardlaw03_WordBack.f k a0 a1) (tabardlaw03_WordBack.f (k + 1) a0 a1) := by
 intro a0 a1 k
 obtain ⟨ih0, ih1, ih2⟩ := tabardlaw03_WordBack.mono_l k
 unfold tabardlaw03_WordBack.f
 repeat' first
   | (with_reducible exact ih0 _ _ _ _ _)
   | (with_reducible exact ih1 _ _ _ _)
   | (with_reducible exact ih2 _ _ _ _)
   | (with_reducible exact tabardlaw03_fixed.mono _)
   | (with_reducible exact tabardlaw03_same.mono _ _ _)
   | (with_reducible exact tabardlaw03_tuples.mono _ _ _)
   | (with_reducible exact word_Decode.mono _ _ _)
   | (with_reducible exact word_Encode.mono _ _ _)
   | (with_reducible exact word_Longest.mono _ _)
   | (with_reducible exact word_Shortest.mono _ _)
   | (with_reducible exact word_Trim.mono _ _)
   | (with_reducible exact LeO.refl _)
   | (with_reducible exact LeO.none _)
   | (with_reducible refine LeO.ite ?_ ?_)
   | (with_reducible refine LeO.bind ?_ (fun _ => ?_))
   | exact ih0 _ _ _ _ _
   | exact ih1 _ _ _ _
   | exact ih2 _ _ _ _
   | exact tabardlaw03_fixed.mono _
   | exact tabardlaw03_same.mono _ _ _
   | exact tabardlaw03_tuples.mono _ _ _
   | exact word_Decode.mono _ _ _
   | exact word_Encode.mono _ _ _
   | exact word_Longest.mono _ _
   | exact word_Shortest.mono _ _
   | exact word_Trim.mono _ _
   | exact LeO.none _
   | refine LeO.ite ?_ ?_
   | refine LeO.bind ?_ (fun _ => ?_)
def tabardlaw03_WordBack.T21 : Bool × List (List Nat × List Nat) := (true, [([], []), ([], []), ([0, 1], [0, 1]), ([], []), ([], []), ([4], [4]), ([3, 5], [3, 5]), ([6], [6]), ([7], [7]), ([2, 8, 2], [2, 8]), ([], []), ([10], [10]), ([9, 11, 9], [9, 11]), ([12], [12]), ([13], [13]), ([13], [13]), ([14, 12, 0, 1, 2, 3, 4, 5, 6, 7, 8, 9, 10, 11, 12, 13, 14], [14]), ([15, 16, 0, 1, 2, 3, 4, 5, 6, 7, 8, 9, 10, 11, 12, 13, 14, 15, 16], [15])])
def tabardlaw03_WordBack.B21 : List Nat := [0, 0, 3, 0, 0, 16, 56, 120, 248, 511, 0, 1024, 4095, 8191, 16383, 16383, 32767, 131071]
theorem tabardlaw03_WordBack.tab21 : rtab .any (opsOf Try.f9 21) = tabardlaw03_WordBack.T21 := by kernel_rfl
theorem tabardlaw03_WordBack.bits21 : waitsOk tabardlaw03_WordBack.T21.2 tabardlaw03_WordBack.B21 = true := by kernel_rfl
set_option maxHeartbeats 8000000 in
set_option maxRecDepth 100000 in
theorem tabardlaw03_WordBack.calls (k : Nat) (A0 : Option Addr) (c0 : Nat) (l0 : List Int) (a1 : Int) (r : Bool) (w : World) (hr0 : Kd.C (Kd.int .i64) w A0 l0.length l0) (hc0 : l0.length ≤ c0) (h : tabardlaw03_WordBack.f k l0 a1 = some r) :
  Calls Try.prog 9 #[.slice A0 l0.length c0, .int .i64 a1] w fun e w' => e = .returned (.bool r) ∧ Below w.heap.size w w' := by
 have HR0 := Aside0.mk hr0
 have HC0 := Aside0.mk hc0
 clear hr0 hc0
 have HB := Aside0.mk (Below.refl w.heap.size w)
 have H : ((tabardlaw03_fixed.f k).bind fun t685 => (if t685 = true then ((some (([] : List Int) : List Int)).bind fun y686 => (if y686.length + l0.length < 17592186044416 then ((word_Shortest.f k (y686 ++ l0)).bind fun bt692 => (if (l0.length : Int) > 6 then (if bt692.2 = 150 then (some ((bt692.1.length : Int) == 0)) else (some false)) else ((some (([] : List Int) : List Int)).bind fun y696 => (if y696.length + l0.length < 17592186044416 then ((word_Longest.f k (y696 ++ l0)).bind fun t702 => (if bt692.2 = 0 then (if (bt692.1.length : Int) = t702 then (if t702 < 1 then (tabardlaw03_WordBack.j0 k l0 a1 bt692.1 t702 true) else (tabardlaw03_WordBack.j0 k l0 a1 bt692.1 t702 (decide (t702 > 64)))) else (tabardlaw03_WordBack.j0 k l0 a1 bt692.1 t702 true)) else (tabardlaw03_WordBack.j0 k l0 a1 bt692.1 t702 true))) else (none))))) else (none))) else (some false))) = some r := h
 clear h
 replace H := Option.bind_eq_some_iff.mp H
 obtain ⟨t685, A30, H⟩ := H
 replace H : (if t685 = true then ((some (([] : List Int) : List Int)).bind fun y686 => (if y686.length + l0.length < 17592186044416 then ((word_Shortest.f k (y686 ++ l0)).bind fun bt692 => (if (l0.length : Int) > 6 then (if bt692.2 = 150 then (some ((bt692.1.length : Int) == 0)) else (some false)) else ((some (([] : List Int) : List Int)).bind fun y696 => (if y696.length + l0.length < 17592186044416 then ((word_Longest.f k (y696 ++ l0)).bind fun t702 => (if bt692.2 = 0 then (if (bt692.1.length : Int) = t702 then (if t702 < 1 then (tabardlaw03_WordBack.j0 k l0 a1 bt692.1 t702 true) else (tabardlaw03_WordBack.j0 k l0 a1 bt692.1 t702 (decide (t702 > 64)))) else (tabardlaw03_WordBack.j0 k l0 a1 bt692.1 t702 true)) else (tabardlaw03_WordBack.j0 k l0 a1 bt692.1 t702 true))) else (none))))) else (none))) else (some false)) = some r := H
 have A3 := Aside0.mk A30
 clear A30
 by_cases c4 : t685 = true
 ·subst c4
  have H1 : ((some (([] : List Int) : List Int)).bind fun y686 => (if y686.length + l0.length < 17592186044416 then ((word_Shortest.f k (y686 ++ l0)).bind fun bt692 => (if (l0.length : Int) > 6 then (if bt692.2 = 150 then (some ((bt692.1.length : Int) == 0)) else (some false)) else ((some (([] : List Int) : List Int)).bind fun y696 => (if y696.length + l0.length < 17592186044416 then ((word_Longest.f k (y696 ++ l0)).bind fun t702 => (if bt692.2 = 0 then (if (bt692.1.length : Int) = t702 then (if t702 < 1 then (tabardlaw03_WordBack.j0 k l0 a1 bt692.1 t702 true) else (tabardlaw03_WordBack.j0 k l0 a1 bt692.1 t702 (decide (t702 > 64)))) else (tabardlaw03_WordBack.j0 k l0 a1 bt692.1 t702 true)) else (tabardlaw03_WordBack.j0 k l0 a1 bt692.1 t702 true))) else (none))))) else (none))) = some r := by rw [if_pos rfl] at H; exact H
  clear H
  have H := H1
  clear H1
  obtain ⟨y686, hy686⟩ : ∃ y_ : List Int, y_ = (([] : List Int)) := ⟨_, rfl⟩
  replace H : (if y686.length + l0.length < 17592186044416 then ((word_Shortest.f k (y686 ++ l0)).bind fun bt692 => (if (l0.length : Int) > 6 then (if bt692.2 = 150 then (some ((bt692.1.length : Int) == 0)) else (some false)) else ((some (([] : List Int) : List Int)).bind fun y696 => (if y696.length + l0.length < 17592186044416 then ((word_Longest.f k (y696 ++ l0)).bind fun t702 => (if bt692.2 = 0 then (if (bt692.1.length : Int) = t702 then (if t702 < 1 then (tabardlaw03_WordBack.j0 k l0 a1 bt692.1 t702 true) else (tabardlaw03_WordBack.j0 k l0 a1 bt692.1 t702 (decide (t702 > 64)))) else (tabardlaw03_WordBack.j0 k l0 a1 bt692.1 t702 true)) else (tabardlaw03_WordBack.j0 k l0 a1 bt692.1 t702 true))) else (none))))) else (none)) = some r := by first | (rw [hy686]; with_reducible exact H) | (have H2_ := (Option.bind_some _ _).symm.trans H; rw [hy686]; with_reducible exact H2_) | (have H2_ := (Option.bind_some _ _).symm.trans H; with_reducible exact H2_) | with_reducible exact H | (rw [hy686]; exact H) | exact H
  have Ny686 := Aside0.mk hy686
  clear hy686
  by_cases c5 : y686.length + l0.length < 17592186044416
  ·rw [if_pos c5] at H
   have LMc5 := Aside0.mk c5
   clear c5
   obtain ⟨y689, hy689⟩ : ∃ y_ : List Int, y_ = (y686 ++ l0) := ⟨_, rfl⟩
   replace H : ((word_Shortest.f k y689).bind fun bt692 => (if (l0.length : Int) > 6 then (if bt692.2 = 150 then (some ((bt692.1.length : Int) == 0)) else (some false)) else ((some (([] : List Int) : List Int)).bind fun y696 => (if y696.length + l0.length < 17592186044416 then ((word_Longest.f k (y696 ++ l0)).bind fun t702 => (if bt692.2 = 0 then (if (bt692.1.length : Int) = t702 then (if t702 < 1 then (tabardlaw03_WordBack.j0 k l0 a1 bt692.1 t702 true) else (tabardlaw03_WordBack.j0 k l0 a1 bt692.1 t702 (decide (t702 > 64)))) else (tabardlaw03_WordBack.j0 k l0 a1 bt692.1 t702 true)) else (tabardlaw03_WordBack.j0 k l0 a1 bt692.1 t702 true))) else (none))))) = some r := by first | (rw [hy689]; with_reducible exact H) | (have H2_ := (Option.bind_some _ _).symm.trans H; rw [hy689]; with_reducible exact H2_) | (have H2_ := (Option.bind_some _ _).symm.trans H; with_reducible exact H2_) | with_reducible exact H | (rw [hy689]; exact H) | exact H
   have Ny689 := Aside0.mk hy689
   clear hy689
   replace H := Option.bind_eq_some_iff.mp H
   obtain ⟨⟨t692, t693⟩, A60, H⟩ := H
   replace H : (if (l0.length : Int) > 6 then (if t693 = 150 then (some ((t692.length : Int) == 0)) else (some false)) else ((some (([] : List Int) : List Int)).bind fun y696 => (if y696.length + l0.length < 17592186044416 then ((word_Longest.f k (y696 ++ l0)).bind fun t702 => (if t693 = 0 then (if (t692.length : Int) = t702 then (if t702 < 1 then (tabardlaw03_WordBack.j0 k l0 a1 t692 t702 true) else (tabardlaw03_WordBack.j0 k l0 a1 t692 t702 (decide (t702 > 64)))) else (tabardlaw03_WordBack.j0 k l0 a1 t692 t702 true)) else (tabardlaw03_WordBack.j0 k l0 a1 t692 t702 true))) else (none)))) = some r := H
   have A6 := Aside0.mk A60
   clear A60
   by_cases c7 : (l0.length : Int) > 6
   ·rw [if_pos c7] at H
    have c7b0 : decide (6 < (l0.length : Int)) = true := decide_eq_true c7
    have c7b1 : decide (6 < l0.length) = true := decide_eq_true (by omega)
    clear c7
    by_cases c8 : t693 = 150
    ·rw [if_pos c8] at H
     have c8b0 : (t693 == 150) = true := beq_iff_eq.mpr c8
     have c8b1 : (t693 != 150) = false := bne_eq_false_iff_eq.mpr c8
     clear c8
     obtain rfl := Option.some.inj H
     go_enter Try.func9, Try.ntmps9
     go_wp2_with (first | ((with_reducible refine gate_callee (f := 15) rfl ?_); refine goesL_ (some 11) rfl rfl Try.func15 (by kernel_rfl) rfl #[] rfl mO ?_; (with_reducible refine (tabardlaw03_fixed.calls k  true _ A3.out).mono ?_); rintro e w9 ⟨rfl, hb⟩; refine ⟨_, rfl, ?_⟩; have n0_ := Aside0.mk (below_step (bO HB.out) hb); clear HB; have HB := n0_; clear n0_; (try clear hb); (try clear hb2); (try clear hk); (try clear hi)) | ((with_reducible refine gate_dst (N := 14) rfl ?_); (try (refine gate_guard (by rfl) ?_; dsimp only)); refine Kd.R_lit (Kd.int .i64) _ 2 ?hg (N := 14) ?hd (xs := ([] : List Int)) (inner := []) (ok := fun _ => True) (okp := fun _ => True) ?hr ?hp (fun _ hk => hk) trivial (Below.refl _ _) (Nat.le_refl _) (by simp) ?_; (case hd => rfl); (case hg => rfl); (case hr => first | (go_simp; done) | (go_simp; rfl)); (case hp => exact (Reps.none _ _)); intro v687 w10 ho11 hb hg_ hnew_; clear hg_ hnew_; (first | rw [← Ny686.out] at ho11 | (simp only [Int.reduceToNat] at ho11; rw [← Ny686.out] at ho11)); have n0_ := Aside0.mk (Kd.R_lower ho11 (below_size (bO HB.out))); have n1_ := Aside0.mk (below_step (bO HB.out) hb); clear HB; have HO688 := n0_; have HB := n1_; clear n0_ n1_; clear hb ho11) | ((with_reducible refine gate_builtin (b := .append) (xs := #[.tmp 14, .tmp 15]) rfl ?_); (try (refine gate_guard (by rfl) ?_; dsimp only)); at_builtin; refine Kd.R_append_rows (Kd.int .i64) (w0 := w) w.heap.size rfl (.tmp 14) (.tmp 15) 22 2 (.int .i64 0) 8 rfl Try.underlying22 info2 rfl (by decide) (by omega) v687 y686 l0 _ _ _ (fun _ => True) (fun _ => False) rfl rfl ?aO ?aR (fun _ _ h => h) (fun _ h => h.elim) ?aF ?aB ?aS ?aL ?_; (case aR => exact cO (Kd.C_below HR0.out HB.out)); (case aB => exact (bO HB.out)); (case aF => exact (fun _ _ => trivial)); (case aO => exact (rO HO688.out)); (case aS => exact (below_size (bO HB.out))); (case aL => have := LMc5.out; omega); intro v690 w12 ho hb hg hat; rw [← Ny689.out] at ho; have n0_ := Aside0.mk (hb); have n1_ := Aside0.mk (ho); clear HB; clear HO688; have HB := n0_; have HO691 := n1_; clear n0_ n1_; clear ho hb hg hat; obtain ⟨Ao13, co13, eo13⟩ := Kd.R_slice HO691.out; subst eo13) | ((with_reducible refine gate_callee (f := 13) rfl ?_); refine goesL_ (some 17) rfl rfl Try.func13 (by kernel_rfl) rfl #[.slice Ao13 y689.length co13] rfl mO ?_; (with_reducible refine (word_Shortest.calls k _ _ y689 t692 t693 _ ?side1 ?side2 A6.out).mono ?_); (case side1 => exact cO (Kd.R_reads' HO691.out).2.2); (case side2 => exact (Kd.R_reads' HO691.out).2.1); rintro e w14 ⟨v694, rfl, ho0, hb⟩; refine ⟨_, rfl, ?_⟩; have n0_ := Aside0.mk (Kd.R_below (rO HO691.out) hb); have n1_ := Aside0.mk (Kd.R_lower ho0 (below_size (bO HB.out))); have n2_ := Aside0.mk (below_step (bO HB.out) hb); clear HO691; clear HB; have HO691 := n0_; have HO695 := n1_; have HB := n2_; clear n0_ n1_ n2_; (try clear hb); (try clear hb2); (try clear hk); (try clear hi); (try clear ho0); obtain ⟨Ao15, co15, eo15⟩ := Kd.R_slice HO695.out; subst eo15))
     go_ret
     exact ⟨by first | rfl | (simp [errW_none, errW_some] <;> rfl) | (simp [*, errW_none, errW_some] <;> rfl), bO HB.out⟩
    ·rw [if_neg c8] at H
     have c8b0 : (t693 == 150) = false := beq_eq_false_iff_ne.mpr c8
     have c8b1 : (t693 != 150) = true := bne_iff_ne.mpr c8
     obtain rfl := Option.some.inj H
     go_enter Try.func9, Try.ntmps9
     go_wp2_with (first | ((with_reducible refine gate_callee (f := 15) rfl ?_); refine goesL_ (some 11) rfl rfl Try.func15 (by kernel_rfl) rfl #[] rfl mO ?_; (with_reducible refine (tabardlaw03_fixed.calls k  true _ A3.out).mono ?_); rintro e w16 ⟨rfl, hb⟩; refine ⟨_, rfl, ?_⟩; have n0_ := Aside0.mk (below_step (bO HB.out) hb); clear HB; have HB := n0_; clear n0_; (try clear hb); (try clear hb2); (try clear hk); (try clear hi)) | ((with_reducible refine gate_dst (N := 14) rfl ?_); (try (refine gate_guard (by rfl) ?_; dsimp only)); refine Kd.R_lit (Kd.int .i64) _ 2 ?hg (N := 14) ?hd (xs := ([] : List Int)) (inner := []) (ok := fun _ => True) (okp := fun _ => True) ?hr ?hp (fun _ hk => hk) trivial (Below.refl _ _) (Nat.le_refl _) (by simp) ?_; (case hd => rfl); (case hg => rfl); (case hr => first | (go_simp; done) | (go_simp; rfl)); (case hp => exact (Reps.none _ _)); intro v687 w17 ho18 hb hg_ hnew_; clear hg_ hnew_; (first | rw [← Ny686.out] at ho18 | (simp only [Int.reduceToNat] at ho18; rw [← Ny686.out] at ho18)); have n0_ := Aside0.mk (Kd.R_lower ho18 (below_size (bO HB.out))); have n1_ := Aside0.mk (below_step (bO HB.out) hb); clear HB; have HO688 := n0_; have HB := n1_; clear n0_ n1_; clear hb ho18) | ((with_reducible refine gate_builtin (b := .append) (xs := #[.tmp 14, .tmp 15]) rfl ?_); (try (refine gate_guard (by rfl) ?_; dsimp only)); at_builtin; refine Kd.R_append_rows (Kd.int .i64) (w0 := w) w.heap.size rfl (.tmp 14) (.tmp 15) 22 2 (.int .i64 0) 8 rfl Try.underlying22 info2 rfl (by decide) (by omega) v687 y686 l0 _ _ _ (fun _ => True) (fun _ => False) rfl rfl ?aO ?aR (fun _ _ h => h) (fun _ h => h.elim) ?aF ?aB ?aS ?aL ?_; (case aR => exact cO (Kd.C_below HR0.out HB.out)); (case aB => exact (bO HB.out)); (case aF => exact (fun _ _ => trivial)); (case aO => exact (rO HO688.out)); (case aS => exact (below_size (bO HB.out))); (case aL => have := LMc5.out; omega); intro v690 w19 ho hb hg hat; rw [← Ny689.out] at ho; have n0_ := Aside0.mk (hb); have n1_ := Aside0.mk (ho); clear HB; clear HO688; have HB := n0_; have HO691 := n1_; clear n0_ n1_; clear ho hb hg hat; obtain ⟨Ao20, co20, eo20⟩ := Kd.R_slice HO691.out; subst eo20) | ((with_reducible refine gate_callee (f := 13) rfl ?_); refine goesL_ (some 17) rfl rfl Try.func13 (by kernel_rfl) rfl #[.slice Ao20 y689.length co20] rfl mO ?_; (with_reducible refine (word_Shortest.calls k _ _ y689 t692 t693 _ ?side1 ?side2 A6.out).mono ?_); (case side1 => exact cO (Kd.R_reads' HO691.out).2.2); (case side2 => exact (Kd.R_reads' HO691.out).2.1); rintro e w21 ⟨v694, rfl, ho0, hb⟩; refine ⟨_, rfl, ?_⟩; have n0_ := Aside0.mk (Kd.R_below (rO HO691.out) hb); have n1_ := Aside0.mk (Kd.R_lower ho0 (below_size (bO HB.out))); have n2_ := Aside0.mk (below_step (bO HB.out) hb); clear HO691; clear HB; have HO691 := n0_; have HO695 := n1_; have HB := n2_; clear n0_ n1_ n2_; (try clear hb); (try clear hb2); (try clear hk); (try clear hi); (try clear ho0)))
     go_ret
     exact ⟨by first | rfl | (simp [errW_none, errW_some] <;> rfl) | (simp [*, errW_none, errW_some] <;> rfl), bO HB.out⟩
   ·rw [if_neg c7] at H
    have c7b0 : decide (6 < (l0.length : Int)) = false := decide_eq_false c7
    have c7b1 : decide (6 < l0.length) = false := decide_eq_false (by omega)
    clear c7
    obtain ⟨y696, hy696⟩ : ∃ y_ : List Int, y_ = (([] : List Int)) := ⟨_, rfl⟩
    replace H : (if y696.length + l0.length < 17592186044416 then ((word_Longest.f k (y696 ++ l0)).bind fun t702 => (if t693 = 0 then (if (t692.length : Int) = t702 then (if t702 < 1 then (tabardlaw03_WordBack.j0 k l0 a1 t692 t702 true) else (tabardlaw03_WordBack.j0 k l0 a1 t692 t702 (decide (t702 > 64)))) else (tabardlaw03_WordBack.j0 k l0 a1 t692 t702 true)) else (tabardlaw03_WordBack.j0 k l0 a1 t692 t702 true))) else (none)) = some r := by first | (rw [hy696]; with_reducible exact H) | (have H2_ := (Option.bind_some _ _).symm.trans H; rw [hy696]; with_reducible exact H2_) | (have H2_ := (Option.bind_some _ _).symm.trans H; with_reducible exact H2_) | with_reducible exact H | (rw [hy696]; exact H) | exact H
    have Ny696 := Aside0.mk hy696
    clear hy696
    by_cases c22 : y696.length + l0.length < 17592186044416
    ·rw [if_pos c22] at H
     have LMc22 := Aside0.mk c22
     clear c22
     obtain ⟨y699, hy699⟩ : ∃ y_ : List Int, y_ = (y696 ++ l0) := ⟨_, rfl⟩
     replace H : ((word_Longest.f k y699).bind fun t702 => (if t693 = 0 then (if (t692.length : Int) = t702 then (if t702 < 1 then (tabardlaw03_WordBack.j0 k l0 a1 t692 t702 true) else (tabardlaw03_WordBack.j0 k l0 a1 t692 t702 (decide (t702 > 64)))) else (tabardlaw03_WordBack.j0 k l0 a1 t692 t702 true)) else (tabardlaw03_WordBack.j0 k l0 a1 t692 t702 true))) = some r := by first | (rw [hy699]; with_reducible exact H) | (have H2_ := (Option.bind_some _ _).symm.trans H; rw [hy699]; with_reducible exact H2_) | (have H2_ := (Option.bind_some _ _).symm.trans H; with_reducible exact H2_) | with_reducible exact H | (rw [hy699]; exact H) | exact H
     have Ny699 := Aside0.mk hy699
     clear hy699
     replace H := Option.bind_eq_some_iff.mp H
     obtain ⟨t702, A230, H⟩ := H
     replace H : (if t693 = 0 then (if (t692.length : Int) = t702 then (if t702 < 1 then (tabardlaw03_WordBack.j0 k l0 a1 t692 t702 true) else (tabardlaw03_WordBack.j0 k l0 a1 t692 t702 (decide (t702 > 64)))) else (tabardlaw03_WordBack.j0 k l0 a1 t692 t702 true)) else (tabardlaw03_WordBack.j0 k l0 a1 t692 t702 true)) = some r := H
     have A23 := Aside0.mk A230
     clear A230
     have HC24 := Aside0.mk H
     clear H
     go_enter Try.func9, Try.ntmps9
     go_upto_region 7 with (first | ((with_reducible refine gate_callee (f := 15) rfl ?_); refine goesL_ (some 11) rfl rfl Try.func15 (by kernel_rfl) rfl #[] rfl mO ?_; (with_reducible refine (tabardlaw03_fixed.calls k  true _ A3.out).mono ?_); rintro e w25 ⟨rfl, hb⟩; refine ⟨_, rfl, ?_⟩; have n0_ := Aside0.mk (below_step (bO HB.out) hb); clear HB; have HB := n0_; clear n0_; (try clear hb); (try clear hb2); (try clear hk); (try clear hi)) | ((with_reducible refine gate_dst (N := 14) rfl ?_); (try (refine gate_guard (by rfl) ?_; dsimp only)); refine Kd.R_lit (Kd.int .i64) _ 2 ?hg (N := 14) ?hd (xs := ([] : List Int)) (inner := []) (ok := fun _ => True) (okp := fun _ => True) ?hr ?hp (fun _ hk => hk) trivial (Below.refl _ _) (Nat.le_refl _) (by simp) ?_; (case hd => rfl); (case hg => rfl); (case hr => first | (go_simp; done) | (go_simp; rfl)); (case hp => exact (Reps.none _ _)); intro v687 w26 ho27 hb hg_ hnew_; clear hg_ hnew_; (first | rw [← Ny686.out] at ho27 | (simp only [Int.reduceToNat] at ho27; rw [← Ny686.out] at ho27)); have n0_ := Aside0.mk (Kd.R_lower ho27 (below_size (bO HB.out))); have n1_ := Aside0.mk (below_step (bO HB.out) hb); clear HB; have HO688 := n0_; have HB := n1_; clear n0_ n1_; clear hb ho27) | ((with_reducible refine gate_builtin (b := .append) (xs := #[.tmp 14, .tmp 15]) rfl ?_); (try (refine gate_guard (by rfl) ?_; dsimp only)); at_builtin; refine Kd.R_append_rows (Kd.int .i64) (w0 := w) w.heap.size rfl (.tmp 14) (.tmp 15) 22 2 (.int .i64 0) 8 rfl Try.underlying22 info2 rfl (by decide) (by omega) v687 y686 l0 _ _ _ (fun _ => True) (fun _ => False) rfl rfl ?aO ?aR (fun _ _ h => h) (fun _ h => h.elim) ?aF ?aB ?aS ?aL ?_; (case aR => exact cO (Kd.C_below HR0.out HB.out)); (case aB => exact (bO HB.out)); (case aF => exact (fun _ _ => trivial)); (case aO => exact (rO HO688.out)); (case aS => exact (below_size (bO HB.out))); (case aL => have := LMc5.out; omega); intro v690 w28 ho hb hg hat; rw [← Ny689.out] at ho; have n0_ := Aside0.mk (hb); have n1_ := Aside0.mk (ho); clear HB; clear HO688; have HB := n0_; have HO691 := n1_; clear n0_ n1_; clear ho hb hg hat; obtain ⟨Ao29, co29, eo29⟩ := Kd.R_slice HO691.out; subst eo29) | ((with_reducible refine gate_callee (f := 13) rfl ?_); refine goesL_ (some 17) rfl rfl Try.func13 (by kernel_rfl) rfl #[.slice Ao29 y689.length co29] rfl mO ?_; (with_reducible refine (word_Shortest.calls k _ _ y689 t692 t693 _ ?side1 ?side2 A6.out).mono ?_); (case side1 => exact cO (Kd.R_reads' HO691.out).2.2); (case side2 => exact (Kd.R_reads' HO691.out).2.1); rintro e w30 ⟨v694, rfl, ho0, hb⟩; refine ⟨_, rfl, ?_⟩; have n0_ := Aside0.mk (Kd.R_below (rO HO691.out) hb); have n1_ := Aside0.mk (Kd.R_lower ho0 (below_size (bO HB.out))); have n2_ := Aside0.mk (below_step (bO HB.out) hb); clear HO691; clear HB; have HO691 := n0_; have HO695 := n1_; have HB := n2_; clear n0_ n1_ n2_; (try clear hb); (try clear hb2); (try clear hk); (try clear hi); (try clear ho0)) | ((with_reducible refine gate_dst (N := 30) rfl ?_); (try (refine gate_guard (by rfl) ?_; dsimp only)); refine Kd.R_lit (Kd.int .i64) _ 2 ?hg (N := 30) ?hd (xs := ([] : List Int)) (inner := []) (ok := fun _ => True) (okp := fun _ => True) ?hr ?hp (fun _ hk => hk) trivial (Below.refl _ _) (Nat.le_refl _) (by simp) ?_; (case hd => rfl); (case hg => rfl); (case hr => first | (go_simp; done) | (go_simp; rfl)); (case hp => exact (Reps.none _ _)); intro v697 w31 ho32 hb hg_ hnew_; clear hg_ hnew_; (first | rw [← Ny696.out] at ho32 | (simp only [Int.reduceToNat] at ho32; rw [← Ny696.out] at ho32)); have n0_ := Aside0.mk (Kd.R_elder' (rO HO691.out) (Kd.R_base ho32) hb); have n1_ := Aside0.mk (Kd.R_below (rO HO695.out) hb); have n2_ := Aside0.mk (Kd.R_lower (Kd.R_new' ho32 (Kd.R_lt (rO HO691.out))) (below_size (bO HB.out))); have n3_ := Aside0.mk (below_step (bO HB.out) hb); clear HO691; clear HO695; clear HB; have HO691 := n0_; have HO695 := n1_; have HO698 := n2_; have HB := n3_; clear n0_ n1_ n2_ n3_; clear hb ho32) | ((with_reducible refine gate_builtin (b := .append) (xs := #[.tmp 30, .tmp 31]) rfl ?_); (try (refine gate_guard (by rfl) ?_; dsimp only)); at_builtin; refine Kd.R_append_rows (Kd.int .i64) (w0 := w) w.heap.size rfl (.tmp 30) (.tmp 31) 22 2 (.int .i64 0) 8 rfl Try.underlying22 info2 rfl (by decide) (by omega) v697 y696 l0 _ _ _ (fun k_ => some k_ ≠ (.slice Ao29 y689.length co29 : Value).ownBlock) (fun _ => False) rfl rfl ?aO ?aR (fun _ _ h => h) (fun _ h => h.elim) ?aF ?aB ?aS ?aL ?_; (case aR => exact cO (Kd.C_below HR0.out HB.out)); (case aB => exact (bO HB.out)); (case aF => exact (fun k_ hk => Kd.fresh' (Kd.R_lt (rO HO691.out)) k_ hk)); (case aO => exact (by (with_reducible repeat (first | apply Kd.R_alloc | apply Kd.R_drewN | apply Kd.R_drew)); exact Kd.R_mono HO698.out (fun _ hk => hk.2))); (case aS => exact (below_size (bO HB.out))); (case aL => have := LMc22.out; omega); intro v700 w33 ho hb hg hat; rw [← Ny699.out] at ho; have n0_ := Aside0.mk (Kd.R_after (ok := (fun _ => True)) (rO HO691.out) hg hat); have n1_ := Aside0.mk (Kd.R_over' (rO HO695.out) (Kd.R_typed (rO HO698.out)) (by decide) hg); have n2_ := Aside0.mk (hb); have n3_ := Aside0.mk (ho); clear HO691; clear HO695; clear HB; clear HO698; have HO691 := n0_; have HO695 := n1_; have HB := n2_; have HO701 := n3_; clear n0_ n1_ n2_ n3_; clear ho hb hg hat; obtain ⟨Ao34, co34, eo34⟩ := Kd.R_slice HO701.out; subst eo34) | ((with_reducible refine gate_callee (f := 12) rfl ?_); refine goesL_ (some 33) rfl rfl Try.func12 (by kernel_rfl) rfl #[.slice Ao34 y699.length co34] rfl mO ?_; (with_reducible refine (word_Longest.calls k _ _ y699 t702 _ ?side1 ?side2 A23.out).mono ?_); (case side1 => exact cO (Kd.R_reads' HO701.out).2.2); (case side2 => exact (Kd.R_reads' HO701.out).2.1); rintro e w35 ⟨rfl, hb⟩; refine ⟨_, rfl, ?_⟩; have n0_ := Aside0.mk (Kd.R_below (rO HO691.out) hb); have n1_ := Aside0.mk (Kd.R_below (rO HO695.out) hb); have n2_ := Aside0.mk (Kd.R_below (rO HO701.out) hb); have n3_ := Aside0.mk (below_step (bO HB.out) hb); clear HO691; clear HO695; clear HO701; clear HB; have HO691 := n0_; have HO695 := n1_; have HO701 := n2_; have HB := n3_; clear n0_ n1_ n2_ n3_; (try clear hb); (try clear hb2); (try clear hk); (try clear hi)))
     (try simp only [Act.put, List.setIfInBounds_toArray, List.set_cons_zero, List.set_cons_succ])
     go_cut [49] (fun v49 wc => ∃ (kq : Nat) (x49_23 : Bool), v49 = .bool x49_23 ∧ Aside0 (tabardlaw03_WordBack.j0 kq l0 a1 t692 t702 x49_23 = some r) ∧ Aside0 (kq ≤ k) ∧ Aside0 (Kd.R (Kd.int .i64) 3 wc w.heap.size (fun _ => True) v694 t692) ∧ Aside0 (Below w.heap.size w wc))
     case first =>
      have H := HC24.out
      clear HC24
      by_cases c36 : t693 = 0
      ·rw [if_pos c36] at H
       have c36b0 : (t693 == 0) = true := beq_iff_eq.mpr c36
       have c36b1 : (t693 != 0) = false := bne_eq_false_iff_eq.mpr c36
       clear c36
       (first | rw [c36b0] | (simp only [i64_w, i32_w]; rw [c36b0]) | skip)
       by_cases c37 : (t692.length : Int) = t702
       ·rw [if_pos c37] at H
        have c37b0 : ((t692.length : Int) == t702) = true := beq_iff_eq.mpr c37
        have c37b1 : ((t692.length : Int) != t702) = false := bne_eq_false_iff_eq.mpr c37
        clear c37
        by_cases c38 : t702 < 1
        ·rw [if_pos c38] at H
         have c38b0 : decide (t702 < 1) = true := decide_eq_true c38
         clear c38
         have H' := Aside0.mk H
         clear H
         obtain ⟨Ao39, co39, eo39⟩ := Kd.R_slice HO695.out
         subst eo39
         go_wp2
         go_meet
         case rel => exact ⟨_, (true), (by first | rfl | (simp; done) | (simp [*]; done)), H', ⟨by first | omega | exact Nat.le_refl _⟩, ⟨rO HO695.out⟩, ⟨bO HB.out⟩⟩
        ·rw [if_neg c38] at H
         have c38b0 : decide (t702 < 1) = false := decide_eq_false c38
         clear c38
         have H' := Aside0.mk H
         clear H
         obtain ⟨Ao40, co40, eo40⟩ := Kd.R_slice HO695.out
         subst eo40
         go_wp2
         go_meet
         case rel => exact ⟨_, (decide (t702 > 64)), (by first | rfl | (simp; done) | (simp [*]; done)), H', ⟨by first | omega | exact Nat.le_refl _⟩, ⟨rO HO695.out⟩, ⟨bO HB.out⟩⟩
       ·rw [if_neg c37] at H
        have c37b0 : ((t692.length : Int) == t702) = false := beq_eq_false_iff_ne.mpr c37
        have c37b1 : ((t692.length : Int) != t702) = true := bne_iff_ne.mpr c37
        have H' := Aside0.mk H
        clear H
        obtain ⟨Ao41, co41, eo41⟩ := Kd.R_slice HO695.out
        subst eo41
        go_wp2
        go_meet
        case rel => exact ⟨_, (true), (by first | rfl | (simp; done) | (simp [*]; done)), H', ⟨by first | omega | exact Nat.le_refl _⟩, ⟨rO HO695.out⟩, ⟨bO HB.out⟩⟩
      ·rw [if_neg c36] at H
       have c36b0 : (t693 == 0) = false := beq_eq_false_iff_ne.mpr c36
       have c36b1 : (t693 != 0) = true := bne_iff_ne.mpr c36
       (first | rw [c36b0] | (simp only [i64_w, i32_w]; rw [c36b0]) | skip)
       have H' := Aside0.mk H
       clear H
       go_wp2
       go_meet
       case rel => exact ⟨_, (true), (by first | rfl | (simp; done) | (simp [*]; done)), H', ⟨by first | omega | exact Nat.le_refl _⟩, ⟨rO HO695.out⟩, ⟨bO HB.out⟩⟩
     case rest =>
      clear HC24
      try clear c1
      try clear c2
      try clear p2
      try clear c3
      try clear c4
      try clear c5
      try clear c7
      try clear c7b0
      try clear c7b1
      try clear c8
      try clear c8b0
      try clear c8b1
      try clear c9
      try clear c12
      try clear c13
      try clear c15
      try clear c22
      try clear c36
      try clear c36b0
      try clear c36b1
      try clear c37
      try clear c37b0
      try clear c37b1
      try clear c38
      try clear c38b0
      obtain ⟨kq, x49_23, rfl, HA, HJ23, HO_5, HB⟩ := hcut
      cases kq with
      | zero => exact absurd HA.out (by simp [tabardlaw03_WordBack.j0])
      | succ kj23 =>
       have H := HA.out
       clear HA
       simp only [tabardlaw03_WordBack.j0] at H
       by_cases c42 : x49_23 = true
       ·subst c42
        have H1 : (some false) = some r := by rw [if_pos rfl] at H; exact H
        clear H
        have H := H1
        clear H1
        obtain rfl := Option.some.inj H
        go_wp2
        go_ret
        exact ⟨by first | rfl | (simp [errW_none, errW_some] <;> rfl) | (simp [*, errW_none, errW_some] <;> rfl), bO HB.out⟩
       ·replace c42 := Bool.eq_false_iff.mpr c42
        subst c42
        have H1 : ((some (([] : List Int) : List Int)).bind fun y703 => (if y703.length + l0.length < 17592186044416 then ((word_Encode.f kj23 (y703 ++ l0) (wrap64 (t702 - 1))).bind fun bt709 => (if bt709.2 = 2 then ((some (([] : List Int) : List Int)).bind fun y713 => (if y713.length + l0.length < 17592186044416 then ((word_Encode.f kj23 (y713 ++ l0) (mn 64 (wrap64 (t702 + (wrap64 (Int.tmod (IntKind.u64.wrap (a1)) 8)))))).bind fun bt719 => (if bt719.2 = 0 then (if (bt719.1.length : Int) = (mn 64 (wrap64 (t702 + (wrap64 (Int.tmod (IntKind.u64.wrap (a1)) 8))))) then ((some (([] : List Int) : List Int)).bind fun y723 => (if y723.length + bt719.1.length < 17592186044416 then ((word_Trim.f kj23 (y723 ++ bt719.1)).bind fun t729 => ((tabardlaw03_same.f kj23 t729 t692).bind fun t732 => (tabardlaw03_WordBack.j1 kj23 l0 (mn 64 (wrap64 (t702 + (wrap64 (Int.tmod (IntKind.u64.wrap (a1)) 8))))) bt719.1 (!t732)))) else (none))) else (tabardlaw03_WordBack.j1 kj23 l0 (mn 64 (wrap64 (t702 + (wrap64 (Int.tmod (IntKind.u64.wrap (a1)) 8))))) bt719.1 true)) else (tabardlaw03_WordBack.j1 kj23 l0 (mn 64 (wrap64 (t702 + (wrap64 (Int.tmod (IntKind.u64.wrap (a1)) 8))))) bt719.1 true))) else (none))) else (some false))) else (none))) = some r := by rw [if_neg (show ¬ (false = true) by decide)] at H; exact H
        clear H
        have H := H1
        clear H1
        obtain ⟨y703, hy703⟩ : ∃ y_ : List Int, y_ = (([] : List Int)) := ⟨_, rfl⟩
        replace H : (if y703.length + l0.length < 17592186044416 then ((word_Encode.f kj23 (y703 ++ l0) (wrap64 (t702 - 1))).bind fun bt709 => (if bt709.2 = 2 then ((some (([] : List Int) : List Int)).bind fun y713 => (if y713.length + l0.length < 17592186044416 then ((word_Encode.f kj23 (y713 ++ l0) (mn 64 (wrap64 (t702 + (wrap64 (Int.tmod (IntKind.u64.wrap (a1)) 8)))))).bind fun bt719 => (if bt719.2 = 0 then (if (bt719.1.length : Int) = (mn 64 (wrap64 (t702 + (wrap64 (Int.tmod (IntKind.u64.wrap (a1)) 8))))) then ((some (([] : List Int) : List Int)).bind fun y723 => (if y723.length + bt719.1.length < 17592186044416 then ((word_Trim.f kj23 (y723 ++ bt719.1)).bind fun t729 => ((tabardlaw03_same.f kj23 t729 t692).bind fun t732 => (tabardlaw03_WordBack.j1 kj23 l0 (mn 64 (wrap64 (t702 + (wrap64 (Int.tmod (IntKind.u64.wrap (a1)) 8))))) bt719.1 (!t732)))) else (none))) else (tabardlaw03_WordBack.j1 kj23 l0 (mn 64 (wrap64 (t702 + (wrap64 (Int.tmod (IntKind.u64.wrap (a1)) 8))))) bt719.1 true)) else (tabardlaw03_WordBack.j1 kj23 l0 (mn 64 (wrap64 (t702 + (wrap64 (Int.tmod (IntKind.u64.wrap (a1)) 8))))) bt719.1 true))) else (none))) else (some false))) else (none)) = some r := by first | (rw [hy703]; with_reducible exact H) | (have H2_ := (Option.bind_some _ _).symm.trans H; rw [hy703]; with_reducible exact H2_) | (have H2_ := (Option.bind_some _ _).symm.trans H; with_reducible exact H2_) | with_reducible exact H | (rw [hy703]; exact H) | exact H
        have Ny703 := Aside0.mk hy703
        clear hy703
        by_cases c43 : y703.length + l0.length < 17592186044416
        ·rw [if_pos c43] at H
         have LMc43 := Aside0.mk c43
         clear c43
         obtain ⟨y706, hy706⟩ : ∃ y_ : List Int, y_ = (y703 ++ l0) := ⟨_, rfl⟩
         replace H : ((word_Encode.f kj23 y706 (wrap64 (t702 - 1))).bind fun bt709 => (if bt709.2 = 2 then ((some (([] : List Int) : List Int)).bind fun y713 => (if y713.length + l0.length < 17592186044416 then ((word_Encode.f kj23 (y713 ++ l0) (mn 64 (wrap64 (t702 + (wrap64 (Int.tmod (IntKind.u64.wrap (a1)) 8)))))).bind fun bt719 => (if bt719.2 = 0 then (if (bt719.1.length : Int) = (mn 64 (wrap64 (t702 + (wrap64 (Int.tmod (IntKind.u64.wrap (a1)) 8))))) then ((some (([] : List Int) : List Int)).bind fun y723 => (if y723.length + bt719.1.length < 17592186044416 then ((word_Trim.f kj23 (y723 ++ bt719.1)).bind fun t729 => ((tabardlaw03_same.f kj23 t729 t692).bind fun t732 => (tabardlaw03_WordBack.j1 kj23 l0 (mn 64 (wrap64 (t702 + (wrap64 (Int.tmod (IntKind.u64.wrap (a1)) 8))))) bt719.1 (!t732)))) else (none))) else (tabardlaw03_WordBack.j1 kj23 l0 (mn 64 (wrap64 (t702 + (wrap64 (Int.tmod (IntKind.u64.wrap (a1)) 8))))) bt719.1 true)) else (tabardlaw03_WordBack.j1 kj23 l0 (mn 64 (wrap64 (t702 + (wrap64 (Int.tmod (IntKind.u64.wrap (a1)) 8))))) bt719.1 true))) else (none))) else (some false))) = some r := by first | (rw [hy706]; with_reducible exact H) | (have H2_ := (Option.bind_some _ _).symm.trans H; rw [hy706]; with_reducible exact H2_) | (have H2_ := (Option.bind_some _ _).symm.trans H; with_reducible exact H2_) | with_reducible exact H | (rw [hy706]; exact H) | exact H
         have Ny706 := Aside0.mk hy706
         clear hy706
         replace H := Option.bind_eq_some_iff.mp H
         obtain ⟨⟨t709, t710⟩, A440, H⟩ := H
         replace H : (if t710 = 2 then ((some (([] : List Int) : List Int)).bind fun y713 => (if y713.length + l0.length < 17592186044416 then ((word_Encode.f kj23 (y713 ++ l0) (mn 64 (wrap64 (t702 + (wrap64 (Int.tmod (IntKind.u64.wrap (a1)) 8)))))).bind fun bt719 => (if bt719.2 = 0 then (if (bt719.1.length : Int) = (mn 64 (wrap64 (t702 + (wrap64 (Int.tmod (IntKind.u64.wrap (a1)) 8))))) then ((some (([] : List Int) : List Int)).bind fun y723 => (if y723.length + bt719.1.length < 17592186044416 then ((word_Trim.f kj23 (y723 ++ bt719.1)).bind fun t729 => ((tabardlaw03_same.f kj23 t729 t692).bind fun t732 => (tabardlaw03_WordBack.j1 kj23 l0 (mn 64 (wrap64 (t702 + (wrap64 (Int.tmod (IntKind.u64.wrap (a1)) 8))))) bt719.1 (!t732)))) else (none))) else (tabardlaw03_WordBack.j1 kj23 l0 (mn 64 (wrap64 (t702 + (wrap64 (Int.tmod (IntKind.u64.wrap (a1)) 8))))) bt719.1 true)) else (tabardlaw03_WordBack.j1 kj23 l0 (mn 64 (wrap64 (t702 + (wrap64 (Int.tmod (IntKind.u64.wrap (a1)) 8))))) bt719.1 true))) else (none))) else (some false)) = some r := H
         have A44 := Aside0.mk A440
         clear A440
         by_cases c45 : t710 = 2
         ·rw [if_pos c45] at H
          have c45b0 : (t710 == 2) = true := beq_iff_eq.mpr c45
          have c45b1 : (t710 != 2) = false := bne_eq_false_iff_eq.mpr c45
          clear c45
          obtain ⟨ji46, hji46⟩ : ∃ j_ : Int, (mn 64 (wrap64 (t702 + (wrap64 (Int.tmod (IntKind.u64.wrap (a1)) 8))))) = j_ := ⟨_, rfl⟩
          replace H : ((some (([] : List Int) : List Int)).bind fun y713 => (if y713.length + l0.length < 17592186044416 then ((word_Encode.f kj23 (y713 ++ l0) (ji46)).bind fun bt719 => (if bt719.2 = 0 then (if (bt719.1.length : Int) = (ji46) then ((some (([] : List Int) : List Int)).bind fun y723 => (if y723.length + bt719.1.length < 17592186044416 then ((word_Trim.f kj23 (y723 ++ bt719.1)).bind fun t729 => ((tabardlaw03_same.f kj23 t729 t692).bind fun t732 => (tabardlaw03_WordBack.j1 kj23 l0 ji46 bt719.1 (!t732)))) else (none))) else (tabardlaw03_WordBack.j1 kj23 l0 ji46 bt719.1 true)) else (tabardlaw03_WordBack.j1 kj23 l0 ji46 bt719.1 true))) else (none))) = some r := by first | (rw [hji46] at H; exact H) | (simp only [hji46] at H ⊢; exact H)
          (try rw [hji46] at A44)
          have hji46_ : (if (wrap64 (t702 + (wrap64 (Int.tmod (IntKind.u64.wrap (a1)) 8)))) < 64 then (wrap64 (t702 + (wrap64 (Int.tmod (IntKind.u64.wrap (a1)) 8)))) else 64) = ji46 := hji46
          obtain ⟨y713, hy713⟩ : ∃ y_ : List Int, y_ = (([] : List Int)) := ⟨_, rfl⟩
          replace H : (if y713.length + l0.length < 17592186044416 then ((word_Encode.f kj23 (y713 ++ l0) (ji46)).bind fun bt719 => (if bt719.2 = 0 then (if (bt719.1.length : Int) = (ji46) then ((some (([] : List Int) : List Int)).bind fun y723 => (if y723.length + bt719.1.length < 17592186044416 then ((word_Trim.f kj23 (y723 ++ bt719.1)).bind fun t729 => ((tabardlaw03_same.f kj23 t729 t692).bind fun t732 => (tabardlaw03_WordBack.j1 kj23 l0 ji46 bt719.1 (!t732)))) else (none))) else (tabardlaw03_WordBack.j1 kj23 l0 ji46 bt719.1 true)) else (tabardlaw03_WordBack.j1 kj23 l0 ji46 bt719.1 true))) else (none)) = some r := by first | (rw [hy713]; with_reducible exact H) | (have H2_ := (Option.bind_some _ _).symm.trans H; rw [hy713]; with_reducible exact H2_) | (have H2_ := (Option.bind_some _ _).symm.trans H; with_reducible exact H2_) | with_reducible exact H | (rw [hy713]; exact H) | exact H
          have Ny713 := Aside0.mk hy713
          clear hy713
          by_cases c47 : y713.length + l0.length < 17592186044416
          ·rw [if_pos c47] at H
           have LMc47 := Aside0.mk c47
           clear c47
           obtain ⟨y716, hy716⟩ : ∃ y_ : List Int, y_ = (y713 ++ l0) := ⟨_, rfl⟩
           replace H : ((word_Encode.f kj23 y716 (ji46)).bind fun bt719 => (if bt719.2 = 0 then (if (bt719.1.length : Int) = (ji46) then ((some (([] : List Int) : List Int)).bind fun y723 => (if y723.length + bt719.1.length < 17592186044416 then ((word_Trim.f kj23 (y723 ++ bt719.1)).bind fun t729 => ((tabardlaw03_same.f kj23 t729 t692).bind fun t732 => (tabardlaw03_WordBack.j1 kj23 l0 ji46 bt719.1 (!t732)))) else (none))) else (tabardlaw03_WordBack.j1 kj23 l0 ji46 bt719.1 true)) else (tabardlaw03_WordBack.j1 kj23 l0 ji46 bt719.1 true))) = some r := by first | (rw [hy716]; with_reducible exact H) | (have H2_ := (Option.bind_some _ _).symm.trans H; rw [hy716]; with_reducible exact H2_) | (have H2_ := (Option.bind_some _ _).symm.trans H; with_reducible exact H2_) | with_reducible exact H | (rw [hy716]; exact H) | exact H
           have Ny716 := Aside0.mk hy716
           clear hy716
           replace H := Option.bind_eq_some_iff.mp H
           obtain ⟨⟨t719, t720⟩, A480, H⟩ := H
           replace H : (if t720 = 0 then (if (t719.length : Int) = (ji46) then ((some (([] : List Int) : List Int)).bind fun y723 => (if y723.length + t719.length < 17592186044416 then ((word_Trim.f kj23 (y723 ++ t719)).bind fun t729 => ((tabardlaw03_same.f kj23 t729 t692).bind fun t732 => (tabardlaw03_WordBack.j1 kj23 l0 ji46 t719 (!t732)))) else (none))) else (tabardlaw03_WordBack.j1 kj23 l0 ji46 t719 true)) else (tabardlaw03_WordBack.j1 kj23 l0 ji46 t719 true)) = some r := H
           have A48 := Aside0.mk A480
           clear A480
           have HC49 := Aside0.mk H
           clear H
           go_upto_region 14 with (first | ((with_reducible refine gate_dst (N := 51) rfl ?_); (try (refine gate_guard (by rfl) ?_; dsimp only)); refine Kd.R_lit (Kd.int .i64) _ 2 ?hg (N := 51) ?hd (xs := ([] : List Int)) (inner := []) (ok := fun _ => True) (okp := fun _ => True) ?hr ?hp (fun _ hk => hk) trivial (Below.refl _ _) (Nat.le_refl _) (by simp) ?_; (case hd => rfl); (case hg => rfl); (case hr => first | (go_simp; done) | (go_simp; rfl)); (case hp => exact (Reps.none _ _)); intro v704 w50 ho51 hb hg_ hnew_; clear hg_ hnew_; (first | rw [← Ny703.out] at ho51 | (simp only [Int.reduceToNat] at ho51; rw [← Ny703.out] at ho51)); have n0_ := Aside0.mk (Kd.R_below (rO HO_5.out) hb); have n1_ := Aside0.mk (Kd.R_lower ho51 (below_size (bO HB.out))); have n2_ := Aside0.mk (below_step (bO HB.out) hb); clear HO_5; clear HB; have HO_5 := n0_; have HO705 := n1_; have HB := n2_; clear n0_ n1_ n2_; clear hb ho51) | ((with_reducible refine gate_builtin (b := .append) (xs := #[.tmp 51, .tmp 52]) rfl ?_); (try (refine gate_guard (by rfl) ?_; dsimp only)); at_builtin; refine Kd.R_append_rows (Kd.int .i64) (w0 := w) w.heap.size rfl (.tmp 51) (.tmp 52) 22 2 (.int .i64 0) 8 rfl Try.underlying22 info2 rfl (by decide) (by omega) v704 y703 l0 _ _ _ (fun _ => True) (fun _ => False) rfl rfl ?aO ?aR (fun _ _ h => h) (fun _ h => h.elim) ?aF ?aB ?aS ?aL ?_; (case aR => exact cO (Kd.C_below HR0.out HB.out)); (case aB => exact (bO HB.out)); (case aF => exact (fun _ _ => trivial)); (case aO => exact (rO HO705.out)); (case aS => exact (below_size (bO HB.out))); (case aL => have := LMc43.out; omega); intro v707 w52 ho hb hg hat; rw [← Ny706.out] at ho; have n0_ := Aside0.mk (Kd.R_over' (rO HO_5.out) (Kd.R_typed (rO HO705.out)) (by decide) hg); have n1_ := Aside0.mk (hb); have n2_ := Aside0.mk (ho); clear HO_5; clear HB; clear HO705; have HO_5 := n0_; have HB := n1_; have HO708 := n2_; clear n0_ n1_ n2_; clear ho hb hg hat; obtain ⟨Ao53, co53, eo53⟩ := Kd.R_slice HO708.out; subst eo53) | ((with_reducible refine gate_callee (f := 10) rfl ?_); refine goesL_ (some 56) rfl rfl Try.func10 (by kernel_rfl) rfl #[.slice Ao53 y706.length co53, .int .i64 (wrap64 (t702 - 1))] rfl mO ?_; (with_reducible refine (word_Encode.calls kj23 _ _ y706 (wrap64 (t702 - 1)) t709 t710 _ ?side1 ?side2 A44.out).mono ?_); (case side1 => exact cO (Kd.R_reads' HO708.out).2.2); (case side2 => exact (Kd.R_reads' HO708.out).2.1); rintro e w54 ⟨v711, rfl, ho0, hb⟩; refine ⟨_, rfl, ?_⟩; have n0_ := Aside0.mk (Kd.R_elder' (rO HO_5.out) (Kd.R_base ho0) hb); have n1_ := Aside0.mk (Kd.R_below (rO HO708.out) hb); have n2_ := Aside0.mk (Kd.R_lower (Kd.R_new' ho0 (Kd.R_lt (rO HO_5.out))) (below_size (bO HB.out))); have n3_ := Aside0.mk (below_step (bO HB.out) hb); clear HO_5; clear HO708; clear HB; have HO_5 := n0_; have HO708 := n1_; have HO712 := n2_; have HB := n3_; clear n0_ n1_ n2_ n3_; (try clear hb); (try clear hb2); (try clear hk); (try clear hi); (try clear ho0)) | ((with_reducible refine gate_dst (N := 69) rfl ?_); (try (refine gate_guard (by rfl) ?_; dsimp only)); refine Kd.R_lit (Kd.int .i64) _ 2 ?hg (N := 69) ?hd (xs := ([] : List Int)) (inner := []) (ok := fun _ => True) (okp := fun _ => True) ?hr ?hp (fun _ hk => hk) trivial (Below.refl _ _) (Nat.le_refl _) (by simp) ?_; (case hd => rfl); (case hg => rfl); (case hr => first | (go_simp; done) | (go_simp; rfl)); (case hp => exact (Reps.none _ _)); intro v714 w55 ho56 hb hg_ hnew_; clear hg_ hnew_; (first | rw [← Ny713.out] at ho56 | (simp only [Int.reduceToNat] at ho56; rw [← Ny713.out] at ho56)); have n0_ := Aside0.mk (Kd.R_below (rO HO_5.out) hb); have n1_ := Aside0.mk (Kd.R_elder' (rO HO708.out) (Kd.R_base ho56) hb); have n2_ := Aside0.mk (Kd.R_below (rO HO712.out) hb); have n3_ := Aside0.mk (Kd.R_lower (Kd.R_new' ho56 (Kd.R_lt (rO HO708.out))) (below_size (bO HB.out))); have n4_ := Aside0.mk (below_step (bO HB.out) hb); clear HO_5; clear HO708; clear HO712; clear HB; have HO_5 := n0_; have HO708 := n1_; have HO712 := n2_; have HO715 := n3_; have HB := n4_; clear n0_ n1_ n2_ n3_ n4_; clear hb ho56) | ((with_reducible refine gate_builtin (b := .append) (xs := #[.tmp 69, .tmp 70]) rfl ?_); (try (refine gate_guard (by rfl) ?_; dsimp only)); at_builtin; refine Kd.R_append_rows (Kd.int .i64) (w0 := w) w.heap.size rfl (.tmp 69) (.tmp 70) 22 2 (.int .i64 0) 8 rfl Try.underlying22 info2 rfl (by decide) (by omega) v714 y713 l0 _ _ _ (fun k_ => some k_ ≠ (.slice Ao53 y706.length co53 : Value).ownBlock) (fun _ => False) rfl rfl ?aO ?aR (fun _ _ h => h) (fun _ h => h.elim) ?aF ?aB ?aS ?aL ?_; (case aR => exact cO (Kd.C_below HR0.out HB.out)); (case aB => exact (bO HB.out)); (case aF => exact (fun k_ hk => Kd.fresh' (Kd.R_lt (rO HO708.out)) k_ hk)); (case aO => exact (by (with_reducible repeat (first | apply Kd.R_alloc | apply Kd.R_drewN | apply Kd.R_drew)); exact Kd.R_mono HO715.out (fun _ hk => hk.2))); (case aS => exact (below_size (bO HB.out))); (case aL => have := LMc47.out; omega); intro v717 w57 ho hb hg hat; rw [← Ny716.out] at ho; have n0_ := Aside0.mk (Kd.R_over' (rO HO_5.out) (Kd.R_typed (rO HO715.out)) (by decide) hg); have n1_ := Aside0.mk (Kd.R_after (ok := (fun _ => True)) (rO HO708.out) hg hat); have n2_ := Aside0.mk (Kd.R_over' (rO HO712.out) (Kd.R_typed (rO HO715.out)) (by decide) hg); have n3_ := Aside0.mk (hb); have n4_ := Aside0.mk (ho); clear HO_5; clear HO708; clear HO712; clear HB; clear HO715; have HO_5 := n0_; have HO708 := n1_; have HO712 := n2_; have HB := n3_; have HO718 := n4_; clear n0_ n1_ n2_ n3_ n4_; clear ho hb hg hat; obtain ⟨Ao58, co58, eo58⟩ := Kd.R_slice HO718.out; subst eo58) | ((with_reducible refine gate_callee (f := 10) rfl ?_); refine goesL_ (some 73) rfl rfl Try.func10 (by kernel_rfl) rfl #[.slice Ao58 y716.length co58, .int .i64 ji46] rfl (by (try simp only [List.map_toArray, List.map_cons, List.map_nil]); first | done | (simp only [hji46]; rfl) | rfl | (simp only [List.length_drop, List.length_take]; rfl)) ?_; (with_reducible refine (word_Encode.calls kj23 _ _ y716 ji46 t719 t720 _ ?side1 ?side2 A48.out).mono ?_); (case side1 => exact cO (Kd.R_reads' HO718.out).2.2); (case side2 => exact (Kd.R_reads' HO718.out).2.1); rintro e w59 ⟨v721, rfl, ho0, hb⟩; refine ⟨_, rfl, ?_⟩; have n0_ := Aside0.mk (Kd.R_elder' (rO HO_5.out) (Kd.R_base ho0) hb); have n1_ := Aside0.mk (Kd.R_below (rO HO708.out) hb); have n2_ := Aside0.mk (Kd.R_elder' (rO HO712.out) (Kd.R_base ho0) hb); have n3_ := Aside0.mk (Kd.R_below (rO HO718.out) hb); have n4_ := Aside0.mk (Kd.R_lower (Kd.R_new' (Kd.R_new' ho0 (Kd.R_lt (rO HO_5.out))) (Kd.R_lt (rO HO712.out))) (below_size (bO HB.out))); have n5_ := Aside0.mk (below_step (bO HB.out) hb); clear HO_5; clear HO708; clear HO712; clear HO718; clear HB; have HO_5 := n0_; have HO708 := n1_; have HO712 := n2_; have HO718 := n3_; have HO722 := n4_; have HB := n5_; clear n0_ n1_ n2_ n3_ n4_ n5_; (try clear hb); (try clear hb2); (try clear hk); (try clear hi); (try clear ho0)))
           (try simp only [Act.put, List.setIfInBounds_toArray, List.set_cons_zero, List.set_cons_succ])
           go_cut [92] (fun v92 wc => ∃ (kq : Nat) (x92_48 : Bool), v92 = .bool x92_48 ∧ Aside0 (tabardlaw03_WordBack.j1 kq l0 ji46 t719 x92_48 = some r) ∧ Aside0 (kq ≤ kj23) ∧ Aside0 (Kd.R (Kd.int .i64) 3 wc w.heap.size (fun _ => True) v721 t719) ∧ Aside0 (Below w.heap.size w wc))
           case first =>
            have H := HC49.out
            clear HC49
            by_cases c60 : t720 = 0
            ·rw [if_pos c60] at H
             have c60b0 : (t720 == 0) = true := beq_iff_eq.mpr c60
             have c60b1 : (t720 != 0) = false := bne_eq_false_iff_eq.mpr c60
             clear c60
             (first | rw [c60b0] | (simp only [i64_w, i32_w]; rw [c60b0]) | skip)
             by_cases c61 : (t719.length : Int) = (ji46)
             ·rw [if_pos c61] at H
              have c61b0 : ((t719.length : Int) == (ji46)) = true := beq_iff_eq.mpr c61
              have c61b1 : ((t719.length : Int) != (ji46)) = false := bne_eq_false_iff_eq.mpr c61
              clear c61
              obtain ⟨y723, hy723⟩ : ∃ y_ : List Int, y_ = (([] : List Int)) := ⟨_, rfl⟩
              replace H : (if y723.length + t719.length < 17592186044416 then ((word_Trim.f kj23 (y723 ++ t719)).bind fun t729 => ((tabardlaw03_same.f kj23 t729 t692).bind fun t732 => (tabardlaw03_WordBack.j1 kj23 l0 ji46 t719 (!t732)))) else (none)) = some r := by first | (rw [hy723]; with_reducible exact H) | (have H2_ := (Option.bind_some _ _).symm.trans H; rw [hy723]; with_reducible exact H2_) | (have H2_ := (Option.bind_some _ _).symm.trans H; with_reducible exact H2_) | with_reducible exact H | (rw [hy723]; exact H) | exact H
              have Ny723 := Aside0.mk hy723
              clear hy723
              by_cases c62 : y723.length + t719.length < 17592186044416
              ·rw [if_pos c62] at H
               have LMc62 := Aside0.mk c62
               clear c62
               obtain ⟨y726, hy726⟩ : ∃ y_ : List Int, y_ = (y723 ++ t719) := ⟨_, rfl⟩
               replace H : ((word_Trim.f kj23 y726).bind fun t729 => ((tabardlaw03_same.f kj23 t729 t692).bind fun t732 => (tabardlaw03_WordBack.j1 kj23 l0 ji46 t719 (!t732)))) = some r := by first | (rw [hy726]; with_reducible exact H) | (have H2_ := (Option.bind_some _ _).symm.trans H; rw [hy726]; with_reducible exact H2_) | (have H2_ := (Option.bind_some _ _).symm.trans H; with_reducible exact H2_) | with_reducible exact H | (rw [hy726]; exact H) | exact H
               have Ny726 := Aside0.mk hy726
               clear hy726
               replace H := Option.bind_eq_some_iff.mp H
               obtain ⟨t729, A630, H⟩ := H
               replace H : ((tabardlaw03_same.f kj23 t729 t692).bind fun t732 => (tabardlaw03_WordBack.j1 kj23 l0 ji46 t719 (!t732))) = some r := H
               have A63 := Aside0.mk A630
               clear A630
               replace H := Option.bind_eq_some_iff.mp H
               obtain ⟨t732, A640, H⟩ := H
               replace H : (tabardlaw03_WordBack.j1 kj23 l0 ji46 t719 (!t732)) = some r := H
               have A64 := Aside0.mk A640
               clear A640
               have H' := Aside0.mk H
               clear H
               obtain ⟨Ao65, co65, eo65⟩ := Kd.R_slice HO722.out
               subst eo65
               go_wp2_with (first | ((with_reducible refine gate_dst (N := 85) rfl ?_); (try (refine gate_guard (by rfl) ?_; dsimp only)); refine Kd.R_lit (Kd.int .i64) _ 3 ?hg (N := 85) ?hd (xs := ([] : List Int)) (inner := []) (ok := fun _ => True) (okp := fun _ => True) ?hr ?hp (fun _ hk => hk) trivial (Below.refl _ _) (Nat.le_refl _) (by simp) ?_; (case hd => rfl); (case hg => rfl); (case hr => first | (go_simp; done) | (go_simp; rfl)); (case hp => exact (Reps.none _ _)); intro v724 w66 ho67 hb hg_ hnew_; clear hg_ hnew_; (first | rw [← Ny723.out] at ho67 | (simp only [Int.reduceToNat] at ho67; rw [← Ny723.out] at ho67)); have n0_ := Aside0.mk (Kd.R_elder' (rO HO_5.out) (Kd.R_base ho67) hb); have n1_ := Aside0.mk (Kd.R_below (rO HO708.out) hb); have n2_ := Aside0.mk (Kd.R_elder' (rO HO712.out) (Kd.R_base ho67) hb); have n3_ := Aside0.mk (Kd.R_below (rO HO718.out) hb); have n4_ := Aside0.mk (Kd.R_elder' (rO HO722.out) (Kd.R_base ho67) hb); have n5_ := Aside0.mk (Kd.R_lower (Kd.R_new' (Kd.R_new' (Kd.R_new' ho67 (Kd.R_lt (rO HO_5.out))) (Kd.R_lt (rO HO712.out))) (Kd.R_lt (rO HO722.out))) (below_size (bO HB.out))); have n6_ := Aside0.mk (below_step (bO HB.out) hb); clear HO_5; clear HO708; clear HO712; clear HO718; clear HO722; clear HB; have HO_5 := n0_; have HO708 := n1_; have HO712 := n2_; have HO718 := n3_; have HO722 := n4_; have HO725 := n5_; have HB := n6_; clear n0_ n1_ n2_ n3_ n4_ n5_ n6_; clear hb ho67) | ((with_reducible refine gate_builtin (b := .append) (xs := #[.tmp 85, .tmp 86]) rfl ?_); (try (refine gate_guard (by rfl) ?_; dsimp only)); at_builtin; refine Kd.R_append_rows (Kd.int .i64) (w0 := w) w.heap.size rfl (.tmp 85) (.tmp 86) 23 3 (.int .i64 0) 8 rfl Try.underlying23 info3 rfl (by decide) (by omega) v724 y723 t719 _ _ _ (fun k_ => some k_ ≠ (v694 : Value).ownBlock ∧ some k_ ≠ (v711 : Value).ownBlock ∧ some k_ ≠ (.slice Ao65 t719.length co65 : Value).ownBlock) (fun _ => False) rfl rfl ?aO ?aR (fun _ _ h => h) (fun _ h => h.elim) ?aF ?aB ?aS ?aL ?_; (case aR => exact cO (Kd.R_reads' HO722.out).2.2); (case aB => exact (bO HB.out)); (case aF => exact (fun k_ hk => ⟨Kd.fresh' (Kd.R_lt (rO HO_5.out)) k_ hk, Kd.fresh' (Kd.R_lt (rO HO712.out)) k_ hk, Kd.fresh' (Kd.R_lt (rO HO722.out)) k_ hk⟩)); (case aO => exact (by (with_reducible repeat (first | apply Kd.R_alloc | apply Kd.R_drewN | apply Kd.R_drew)); exact Kd.R_mono HO725.out (fun _ hk => ⟨hk.1.1.2, ⟨hk.1.2, hk.2⟩⟩))); (case aS => exact (below_size (bO HB.out))); (case aL => have := LMc62.out; omega); intro v727 w68 ho hb hg hat; rw [← Ny726.out] at ho; have n0_ := Aside0.mk (Kd.R_after (ok := (fun k_ => some k_ ≠ (v711 : Value).ownBlock ∧ some k_ ≠ (.slice Ao65 t719.length co65 : Value).ownBlock)) (by (with_reducible repeat (first | apply Kd.R_alloc | apply Kd.R_drewN | apply Kd.R_drew)); exact Kd.R_mono HO_5.out (fun _ hk => ⟨⟨hk.1.1.2, hk.1.2⟩, hk.2⟩)) hg hat); have n1_ := Aside0.mk (Kd.R_over' (rO HO708.out) (Kd.R_typed (rO HO725.out)) (by decide) hg); have n2_ := Aside0.mk (Kd.R_after (ok := (fun k_ => some k_ ≠ (v694 : Value).ownBlock ∧ some k_ ≠ (.slice Ao65 t719.length co65 : Value).ownBlock)) (by (with_reducible repeat (first | apply Kd.R_alloc | apply Kd.R_drewN | apply Kd.R_drew)); exact Kd.R_mono HO712.out (fun _ hk => ⟨⟨hk.1.1.2, hk.1.2⟩, hk.2⟩)) hg hat); have n3_ := Aside0.mk (Kd.R_over' (rO HO718.out) (Kd.R_typed (rO HO725.out)) (by decide) hg); have n4_ := Aside0.mk (Kd.R_after (ok := (fun k_ => some k_ ≠ (v694 : Value).ownBlock ∧ some k_ ≠ (v711 : Value).ownBlock)) (by (with_reducible repeat (first | apply Kd.R_alloc | apply Kd.R_drewN | apply Kd.R_drew)); exact Kd.R_mono HO722.out (fun _ hk => ⟨⟨hk.1.1.2, hk.1.2⟩, hk.2⟩)) hg hat); have n5_ := Aside0.mk (hb); have n6_ := Aside0.mk (ho); clear HO_5; clear HO708; clear HO712; clear HO718; clear HO722; clear HB; clear HO725; have HO_5 := n0_; have HO708 := n1_; have HO712 := n2_; have HO718 := n3_; have HO722 := n4_; have HB := n5_; have HO728 := n6_; clear n0_ n1_ n2_ n3_ n4_ n5_ n6_; clear ho hb hg hat; obtain ⟨Ao69, co69, eo69⟩ := Kd.R_slice HO728.out; subst eo69) | (go_at_call 28; (with_reducible refine (word_Trim.calls kj23 _ _ y726 t729 _ ?side1 ?side2 A63.out).mono ?_); (case side1 => exact cO (Kd.R_reads' HO728.out).2.2); (case side2 => exact (Kd.R_reads' HO728.out).2.1); rintro e w70 ⟨v730, rfl, ho0, hb⟩; have n0_ := Aside0.mk (Kd.R_elder' (rO HO_5.out) (Kd.R_base ho0) hb); have n1_ := Aside0.mk (Kd.R_below (rO HO708.out) hb); have n2_ := Aside0.mk (Kd.R_elder' (rO HO712.out) (Kd.R_base ho0) hb); have n3_ := Aside0.mk (Kd.R_below (rO HO718.out) hb); have n4_ := Aside0.mk (Kd.R_elder' (rO HO722.out) (Kd.R_base ho0) hb); have n5_ := Aside0.mk (Kd.R_elder' (rO HO728.out) (Kd.R_base ho0) hb); have n6_ := Aside0.mk (Kd.R_lower (Kd.R_new' (Kd.R_new' (Kd.R_new' (Kd.R_new' ho0 (Kd.R_lt (rO HO_5.out))) (Kd.R_lt (rO HO712.out))) (Kd.R_lt (rO HO722.out))) (Kd.R_lt (rO HO728.out))) (below_size (bO HB.out))); have n7_ := Aside0.mk (below_step (bO HB.out) hb); clear HO_5; clear HO708; clear HO712; clear HO718; clear HO722; clear HO728; clear HB; have HO_5 := n0_; have HO708 := n1_; have HO712 := n2_; have HO718 := n3_; have HO722 := n4_; have HO728 := n5_; have HO731 := n6_; have HB := n7_; clear n0_ n1_ n2_ n3_ n4_ n5_ n6_ n7_; (try clear hb); (try clear hb2); (try clear hk); (try clear hi); (try clear ho0); obtain ⟨Ao71, co71, eo71⟩ := Kd.R_slice HO731.out; subst eo71; obtain ⟨Ao72, co72, eo72⟩ := Kd.R_slice HO_5.out; subst eo72) | (go_at_call 16; (with_reducible refine (tabardlaw03_same.calls kj23 _ _ t729 _ _ t692 t732 _ ?side1 ?side2 ?side3 ?side4 A64.out).mono ?_); (case side1 => exact cO (Kd.R_reads' HO731.out).2.2); (case side2 => exact (Kd.R_reads' HO731.out).2.1); (case side3 => exact cO (Kd.R_reads' HO_5.out).2.2); (case side4 => exact (Kd.R_reads' HO_5.out).2.1); rintro e w' ⟨rfl, ⟨nd, rfl⟩⟩))
               go_meet
               case rel => exact ⟨_, (!t732), (by first | rfl | (simp; done) | (simp [*]; done)), H', ⟨by have := HJ23.out; first | omega | exact Nat.le_refl _⟩, ⟨by (with_reducible repeat (first | apply Kd.R_alloc | apply Kd.R_drewN | apply Kd.R_drew)); exact Kd.R_mono HO722.out (fun _ hk => trivial)⟩, ⟨bO HB.out⟩⟩
              ·rw [if_neg c62] at H
               exact absurd H (by simp)
             ·rw [if_neg c61] at H
              have c61b0 : ((t719.length : Int) == (ji46)) = false := beq_eq_false_iff_ne.mpr c61
              have c61b1 : ((t719.length : Int) != (ji46)) = true := bne_iff_ne.mpr c61
              have H' := Aside0.mk H
              clear H
              obtain ⟨Ao73, co73, eo73⟩ := Kd.R_slice HO722.out
              subst eo73
              go_wp2
              go_meet
              case rel => exact ⟨_, (true), (by first | rfl | (simp; done) | (simp [*]; done)), H', ⟨by have := HJ23.out; first | omega | exact Nat.le_refl _⟩, ⟨by (with_reducible repeat (first | apply Kd.R_alloc | apply Kd.R_drewN | apply Kd.R_drew)); exact Kd.R_mono HO722.out (fun _ hk => trivial)⟩, ⟨bO HB.out⟩⟩
            ·rw [if_neg c60] at H
             have c60b0 : (t720 == 0) = false := beq_eq_false_iff_ne.mpr c60
             have c60b1 : (t720 != 0) = true := bne_iff_ne.mpr c60
             (first | rw [c60b0] | (simp only [i64_w, i32_w]; rw [c60b0]) | skip)
             have H' := Aside0.mk H
             clear H
             go_wp2
             go_meet
             case rel => exact ⟨_, (true), (by first | rfl | (simp; done) | (simp [*]; done)), H', ⟨by have := HJ23.out; first | omega | exact Nat.le_refl _⟩, ⟨by (with_reducible repeat (first | apply Kd.R_alloc | apply Kd.R_drewN | apply Kd.R_drew)); exact Kd.R_mono HO722.out (fun _ hk => trivial)⟩, ⟨bO HB.out⟩⟩
           case rest =>
            clear HC49
            try clear c1
            try clear c2
            try clear p2
            try clear c3
            try clear c4
            try clear c5
            try clear c6
            try clear p6
            try clear c7
            try clear c7b0
            try clear c7b1
            try clear c8
            try clear c8b0
            try clear c8b1
            try clear c9
            try clear c10
            try clear c12
            try clear c13
            try clear c15
            try clear c22
            try clear c36
            try clear c36b0
            try clear c36b1
            try clear c37
            try clear c37b0
            try clear c37b1
            try clear c38
            try clear c38b0
            try clear c42
            try clear c43
            try clear c45
            try clear c45b0
            try clear c45b1
            try clear c47
            try clear c60
            try clear c60b0
            try clear c60b1
            try clear c61
            try clear c61b0
            try clear c61b1
            try clear c62
            try clear p64
            try clear p2
            obtain ⟨kq, x92_48, rfl, HA, HJ48, HO_9, HB⟩ := hcut
            cases kq with
            | zero => exact absurd HA.out (by simp [tabardlaw03_WordBack.j1])
            | succ kj48 =>
             have H := HA.out
             clear HA
             simp only [tabardlaw03_WordBack.j1] at H
             by_cases c74 : x92_48 = true
             ·subst c74
              have H1 : (some false) = some r := by rw [if_pos rfl] at H; exact H
              clear H
              have H := H1
              clear H1
              obtain rfl := Option.some.inj H
              go_wp2
              go_ret
              exact ⟨by first | rfl | (simp [errW_none, errW_some] <;> rfl) | (simp only [← hji46]; first | rfl | (simp [errW_none, errW_some] <;> rfl)) | (simp [*, errW_none, errW_some] <;> rfl), bO HB.out⟩
             ·replace c74 := Bool.eq_false_iff.mpr c74
              subst c74
              have H1 : ((some (([] : List Int) : List Int)).bind fun y733 => (if y733.length + t719.length < 17592186044416 then ((word_Decode.f kj48 (y733 ++ t719) (l0.length : Int)).bind fun bt739 => (if bt739.2 = 0 then ((tabardlaw03_tuples.f kj48 bt739.1 l0).bind fun t743 => (tabardlaw03_WordBack.j2 kj48 l0 ji46 t719 (!t743))) else (tabardlaw03_WordBack.j2 kj48 l0 ji46 t719 true))) else (none))) = some r := by rw [if_neg (show ¬ (false = true) by decide)] at H; exact H
              clear H
              have H := H1
              clear H1
              obtain ⟨y733, hy733⟩ : ∃ y_ : List Int, y_ = (([] : List Int)) := ⟨_, rfl⟩
              replace H : (if y733.length + t719.length < 17592186044416 then ((word_Decode.f kj48 (y733 ++ t719) (l0.length : Int)).bind fun bt739 => (if bt739.2 = 0 then ((tabardlaw03_tuples.f kj48 bt739.1 l0).bind fun t743 => (tabardlaw03_WordBack.j2 kj48 l0 ji46 t719 (!t743))) else (tabardlaw03_WordBack.j2 kj48 l0 ji46 t719 true))) else (none)) = some r := by first | (rw [hy733]; with_reducible exact H) | (have H2_ := (Option.bind_some _ _).symm.trans H; rw [hy733]; with_reducible exact H2_) | (have H2_ := (Option.bind_some _ _).symm.trans H; with_reducible exact H2_) | with_reducible exact H | (rw [hy733]; exact H) | exact H
              have Ny733 := Aside0.mk hy733
              clear hy733
              by_cases c75 : y733.length + t719.length < 17592186044416
              ·rw [if_pos c75] at H
               have LMc75 := Aside0.mk c75
               clear c75
               obtain ⟨y736, hy736⟩ : ∃ y_ : List Int, y_ = (y733 ++ t719) := ⟨_, rfl⟩
               replace H : ((word_Decode.f kj48 y736 (l0.length : Int)).bind fun bt739 => (if bt739.2 = 0 then ((tabardlaw03_tuples.f kj48 bt739.1 l0).bind fun t743 => (tabardlaw03_WordBack.j2 kj48 l0 ji46 t719 (!t743))) else (tabardlaw03_WordBack.j2 kj48 l0 ji46 t719 true))) = some r := by first | (rw [hy736]; with_reducible exact H) | (have H2_ := (Option.bind_some _ _).symm.trans H; rw [hy736]; with_reducible exact H2_) | (have H2_ := (Option.bind_some _ _).symm.trans H; with_reducible exact H2_) | with_reducible exact H | (rw [hy736]; exact H) | exact H
               have Ny736 := Aside0.mk hy736
               clear hy736
               replace H := Option.bind_eq_some_iff.mp H
               obtain ⟨⟨t739, t740⟩, A760, H⟩ := H
               replace H : (if t740 = 0 then ((tabardlaw03_tuples.f kj48 t739 l0).bind fun t743 => (tabardlaw03_WordBack.j2 kj48 l0 ji46 t719 (!t743))) else (tabardlaw03_WordBack.j2 kj48 l0 ji46 t719 true)) = some r := H
               have A76 := Aside0.mk A760
               clear A760
               have HC77 := Aside0.mk H
               clear H
               go_upto_region 17 with (first | ((with_reducible refine gate_dst (N := 94) rfl ?_); (try (refine gate_guard (by rfl) ?_; dsimp only)); refine Kd.R_lit (Kd.int .i64) _ 3 ?hg (N := 94) ?hd (xs := ([] : List Int)) (inner := []) (ok := fun _ => True) (okp := fun _ => True) ?hr ?hp (fun _ hk => hk) trivial (Below.refl _ _) (Nat.le_refl _) (by simp) ?_; (case hd => rfl); (case hg => rfl); (case hr => first | (go_simp; done) | (go_simp; rfl)); (case hp => exact (Reps.none _ _)); intro v734 w78 ho79 hb hg_ hnew_; clear hg_ hnew_; (first | rw [← Ny733.out] at ho79 | (simp only [Int.reduceToNat] at ho79; rw [← Ny733.out] at ho79)); have n0_ := Aside0.mk (Kd.R_elder' (rO HO_9.out) (Kd.R_base ho79) hb); have n1_ := Aside0.mk (Kd.R_lower (Kd.R_new' ho79 (Kd.R_lt (rO HO_9.out))) (below_size (bO HB.out))); have n2_ := Aside0.mk (below_step (bO HB.out) hb); clear HO_9; clear HB; have HO_9 := n0_; have HO735 := n1_; have HB := n2_; clear n0_ n1_ n2_; clear hb ho79; obtain ⟨Ao81, co81, eo81⟩ := Kd.R_slice HO_9.out; subst eo81) | ((with_reducible refine gate_builtin (b := .append) (xs := #[.tmp 94, .tmp 95]) rfl ?_); (try (refine gate_guard (by rfl) ?_; dsimp only)); at_builtin; refine Kd.R_append_rows (Kd.int .i64) (w0 := w) w.heap.size rfl (.tmp 94) (.tmp 95) 23 3 (.int .i64 0) 8 rfl Try.underlying23 info3 rfl (by decide) (by omega) v734 y733 t719 _ _ _ (fun k_ => some k_ ≠ (.slice Ao81 t719.length co81 : Value).ownBlock) (fun _ => False) rfl rfl ?aO ?aR (fun _ _ h => h) (fun _ h => h.elim) ?aF ?aB ?aS ?aL ?_; (case aR => exact cO (Kd.R_reads' HO_9.out).2.2); (case aB => exact (bO HB.out)); (case aF => exact (fun k_ hk => Kd.fresh' (Kd.R_lt (rO HO_9.out)) k_ hk)); (case aO => exact (by (with_reducible repeat (first | apply Kd.R_alloc | apply Kd.R_drewN | apply Kd.R_drew)); exact Kd.R_mono HO735.out (fun _ hk => hk.2))); (case aS => exact (below_size (bO HB.out))); (case aL => have := LMc75.out; omega); intro v737 w80 ho hb hg hat; rw [← Ny736.out] at ho; have n0_ := Aside0.mk (Kd.R_after (ok := (fun _ => True)) (rO HO_9.out) hg hat); have n1_ := Aside0.mk (hb); have n2_ := Aside0.mk (ho); clear HO_9; clear HB; clear HO735; have HO_9 := n0_; have HB := n1_; have HO738 := n2_; clear n0_ n1_ n2_; clear ho hb hg hat; obtain ⟨Ao82, co82, eo82⟩ := Kd.R_slice HO738.out; subst eo82) | ((with_reducible refine gate_callee (f := 25) rfl ?_); refine goesL_ (some 99) rfl rfl Try.func25 (by kernel_rfl) rfl #[.slice Ao82 y736.length co82, .int .i64 (l0.length : Int)] rfl mO ?_; (with_reducible refine (word_Decode.calls kj48 _ _ y736 (l0.length : Int) t739 t740 _ ?side1 ?side2 A76.out).mono ?_); (case side1 => exact cO (Kd.R_reads' HO738.out).2.2); (case side2 => exact (Kd.R_reads' HO738.out).2.1); rintro e w83 ⟨v741, rfl, ho0, hb⟩; refine ⟨_, rfl, ?_⟩; have n0_ := Aside0.mk (Kd.R_below (rO HO_9.out) hb); have n1_ := Aside0.mk (Kd.R_below (rO HO738.out) hb); have n2_ := Aside0.mk (Kd.R_lower ho0 (below_size (bO HB.out))); have n3_ := Aside0.mk (below_step (bO HB.out) hb); clear HO_9; clear HO738; clear HB; have HO_9 := n0_; have HO738 := n1_; have HO742 := n2_; have HB := n3_; clear n0_ n1_ n2_ n3_; (try clear hb); (try clear hb2); (try clear hk); (try clear hi); (try clear ho0)))
               (try simp only [Act.put, List.setIfInBounds_toArray, List.set_cons_zero, List.set_cons_succ])
               go_cut [109] (fun v109 wc => ∃ (kq : Nat) (x109_76 : Bool), v109 = .bool x109_76 ∧ Aside0 (tabardlaw03_WordBack.j2 kq l0 ji46 t719 x109_76 = some r) ∧ Aside0 (kq ≤ kj48) ∧ Aside0 (Kd.R (Kd.int .i64) 3 wc w.heap.size (fun _ => True) (.slice Ao81 t719.length co81) t719) ∧ Aside0 (Below w.heap.size w wc))
               case first =>
                have H := HC77.out
                clear HC77
                by_cases c84 : t740 = 0
                ·rw [if_pos c84] at H
                 have c84b0 : (t740 == 0) = true := beq_iff_eq.mpr c84
                 have c84b1 : (t740 != 0) = false := bne_eq_false_iff_eq.mpr c84
                 clear c84
                 (first | rw [c84b0] | (simp only [i64_w, i32_w]; rw [c84b0]) | skip)
                 replace H := Option.bind_eq_some_iff.mp H
                 obtain ⟨t743, A850, H⟩ := H
                 replace H : (tabardlaw03_WordBack.j2 kj48 l0 ji46 t719 (!t743)) = some r := H
                 have A85 := Aside0.mk A850
                 clear A850
                 have H' := Aside0.mk H
                 clear H
                 obtain ⟨Ao86, co86, eo86⟩ := Kd.R_slice HO742.out
                 subst eo86
                 go_wp2_with (first | (go_at_call 17; (with_reducible refine (tabardlaw03_tuples.calls kj48 _ _ t739 _ _ l0 t743 _ ?side1 ?side2 ?side3 ?side4 A85.out).mono ?_); (case side1 => exact cO (Kd.R_reads' HO742.out).2.2); (case side2 => exact (Kd.R_reads' HO742.out).2.1); (case side3 => exact cO (Kd.C_below HR0.out HB.out)); (case side4 => exact HC0.out); rintro e w' ⟨rfl, ⟨nd, rfl⟩⟩))
                 go_meet
                 case rel => exact ⟨_, (!t743), (by first | rfl | (simp; done) | (simp [*]; done)), H', ⟨by have := HJ23.out; have := HJ48.out; first | omega | exact Nat.le_refl _⟩, ⟨by (with_reducible repeat (first | apply Kd.R_alloc | apply Kd.R_drewN | apply Kd.R_drew)); exact Kd.R_mono HO_9.out (fun _ hk => trivial)⟩, ⟨bO HB.out⟩⟩
                ·rw [if_neg c84] at H
                 have c84b0 : (t740 == 0) = false := beq_eq_false_iff_ne.mpr c84
                 have c84b1 : (t740 != 0) = true := bne_iff_ne.mpr c84
                 (first | rw [c84b0] | (simp only [i64_w, i32_w]; rw [c84b0]) | skip)
                 have H' := Aside0.mk H
                 clear H
                 go_wp2
                 go_meet
                 case rel => exact ⟨_, (true), (by first | rfl | (simp; done) | (simp [*]; done)), H', ⟨by have := HJ23.out; have := HJ48.out; first | omega | exact Nat.le_refl _⟩, ⟨by (with_reducible repeat (first | apply Kd.R_alloc | apply Kd.R_drewN | apply Kd.R_drew)); exact Kd.R_mono HO_9.out (fun _ hk => trivial)⟩, ⟨bO HB.out⟩⟩
               case rest =>
                clear HC77
                try clear c1
                try clear c2
                try clear p2
                try clear c3
                try clear c4
                try clear c5
                try clear c6
                try clear p6
                try clear c7
                try clear c7b0
                try clear c7b1
                try clear c8
                try clear c8b0
                try clear c8b1
                try clear c9
                try clear c10
                try clear c12
                try clear c13
                try clear c15
                try clear c22
                try clear c25
                try clear c36
                try clear c36b0
                try clear c36b1
                try clear c37
                try clear c37b0
                try clear c37b1
                try clear c38
                try clear c38b0
                try clear c42
                try clear c43
                try clear c45
                try clear c45b0
                try clear c45b1
                try clear c47
                try clear c60
                try clear c60b0
                try clear c60b1
                try clear c61
                try clear c61b0
                try clear c61b1
                try clear c62
                try clear p64
                try clear c74
                try clear c75
                try clear c84
                try clear c84b0
                try clear c84b1
                try clear p2
                try clear p6
                try clear p64
                obtain ⟨kq, x109_76, rfl, HA, HJ76, HO_9, HB⟩ := hcut
                cases kq with
                | zero => exact absurd HA.out (by simp [tabardlaw03_WordBack.j2])
                | succ kj76 =>
                 have H := HA.out
                 clear HA
                 simp only [tabardlaw03_WordBack.j2] at H
                 by_cases c87 : x109_76 = true
                 ·subst c87
                  have H1 : (some false) = some r := by rw [if_pos rfl] at H; exact H
                  clear H
                  have H := H1
                  clear H1
                  obtain rfl := Option.some.inj H
                  go_wp2
                  go_ret
                  exact ⟨by first | rfl | (simp [errW_none, errW_some] <;> rfl) | (simp only [← hji46]; first | rfl | (simp [errW_none, errW_some] <;> rfl)) | (simp [*, errW_none, errW_some] <;> rfl), bO HB.out⟩
                 ·replace c87 := Bool.eq_false_iff.mpr c87
                  subst c87
                  have H1 : (if ji46 = 64 then (some true) else ((some (([] : List Int) : List Int)).bind fun y744 => (if y744.length + t719.length < 17592186044416 then ((some (y744 ++ t719 : List Int)).bind fun y747 => (if 0 ≤ (wrap64 (ji46 - 1)) then (if (wrap64 (ji46 - 1)) < (t719.length : Int) then ((some (([rd t719 (wrap64 (ji46 - 1))] : List Int) : List Int)).bind fun y751 => (if y747.length + y751.length < 17592186044416 then ((word_Decode.f kj76 (y747 ++ y751) (l0.length : Int)).bind fun bt757 => (if bt757.2 = 0 then ((tabardlaw03_tuples.f kj76 bt757.1 l0).bind fun t761 => (some t761)) else (some false))) else (none))) else (none)) else (none))) else (none)))) = some r := by rw [if_neg (show ¬ (false = true) by decide)] at H; exact H
                  clear H
                  have H := H1
                  clear H1
                  by_cases c88 : ji46 = 64
                  ·rw [if_pos c88] at H
                   have c88b0 : (ji46 == 64) = true := beq_iff_eq.mpr c88
                   have c88b1 : (ji46 != 64) = false := bne_eq_false_iff_eq.mpr c88
                   clear c88
                   obtain rfl := Option.some.inj H
                   go_wp2
                   go_ret
                   exact ⟨by first | rfl | (simp [errW_none, errW_some] <;> rfl) | (simp only [← hji46]; first | rfl | (simp [errW_none, errW_some] <;> rfl)) | (simp [*, errW_none, errW_some] <;> rfl), bO HB.out⟩
                  ·rw [if_neg c88] at H
                   have c88b0 : (ji46 == 64) = false := beq_eq_false_iff_ne.mpr c88
                   have c88b1 : (ji46 != 64) = true := bne_iff_ne.mpr c88
                   obtain ⟨y744, hy744⟩ : ∃ y_ : List Int, y_ = (([] : List Int)) := ⟨_, rfl⟩
                   replace H : (if y744.length + t719.length < 17592186044416 then ((some (y744 ++ t719 : List Int)).bind fun y747 => (if 0 ≤ (wrap64 (ji46 - 1)) then (if (wrap64 (ji46 - 1)) < (t719.length : Int) then ((some (([rd t719 (wrap64 (ji46 - 1))] : List Int) : List Int)).bind fun y751 => (if y747.length + y751.length < 17592186044416 then ((word_Decode.f kj76 (y747 ++ y751) (l0.length : Int)).bind fun bt757 => (if bt757.2 = 0 then ((tabardlaw03_tuples.f kj76 bt757.1 l0).bind fun t761 => (some t761)) else (some false))) else (none))) else (none)) else (none))) else (none)) = some r := by first | (rw [hy744]; with_reducible exact H) | (have H2_ := (Option.bind_some _ _).symm.trans H; rw [hy744]; with_reducible exact H2_) | (have H2_ := (Option.bind_some _ _).symm.trans H; with_reducible exact H2_) | with_reducible exact H | (rw [hy744]; exact H) | exact H
                   have Ny744 := Aside0.mk hy744
                   clear hy744
                   by_cases c89 : y744.length + t719.length < 17592186044416
                   ·rw [if_pos c89] at H
                    have LMc89 := Aside0.mk c89
                    clear c89
                    obtain ⟨y747, hy747⟩ : ∃ y_ : List Int, y_ = (y744 ++ t719) := ⟨_, rfl⟩
                    replace H : (if 0 ≤ (wrap64 (ji46 - 1)) then (if (wrap64 (ji46 - 1)) < (t719.length : Int) then ((some (([rd t719 (wrap64 (ji46 - 1))] : List Int) : List Int)).bind fun y751 => (if y747.length + y751.length < 17592186044416 then ((word_Decode.f kj76 (y747 ++ y751) (l0.length : Int)).bind fun bt757 => (if bt757.2 = 0 then ((tabardlaw03_tuples.f kj76 bt757.1 l0).bind fun t761 => (some t761)) else (some false))) else (none))) else (none)) else (none)) = some r := by first | (rw [hy747]; with_reducible exact H) | (have H2_ := (Option.bind_some _ _).symm.trans H; rw [hy747]; with_reducible exact H2_) | (have H2_ := (Option.bind_some _ _).symm.trans H; with_reducible exact H2_) | with_reducible exact H | (rw [hy747]; exact H) | exact H
                    have Ny747 := Aside0.mk hy747
                    clear hy747
                    obtain ⟨ji90, hji90⟩ : ∃ j_ : Int, (wrap64 (ji46 - 1)) = j_ := ⟨_, rfl⟩
                    replace H : (if 0 ≤ (ji90) then (if (ji90) < (t719.length : Int) then ((some (([rd t719 (ji90)] : List Int) : List Int)).bind fun y751 => (if y747.length + y751.length < 17592186044416 then ((word_Decode.f kj76 (y747 ++ y751) (l0.length : Int)).bind fun bt757 => (if bt757.2 = 0 then ((tabardlaw03_tuples.f kj76 bt757.1 l0).bind fun t761 => (some t761)) else (some false))) else (none))) else (none)) else (none)) = some r := by first | (rw [hji90] at H; exact H) | (simp only [hji90] at H ⊢; exact H)
                    have hji90w : (IntKind.i64.wrap (ji46 - 1)) = ji90 := (i64_w _).trans hji90
                    by_cases c91 : 0 ≤ (ji90)
                    ·rw [if_pos c91] at H
                     have c91b0 : decide (0 ≤ (ji90)) = true := decide_eq_true c91
                     clear c91
                     by_cases c92 : (ji90) < (t719.length : Int)
                     ·rw [if_pos c92] at H
                      have c92b0 : decide ((ji90) < (t719.length : Int)) = true := decide_eq_true c92
                      clear c92
                      obtain ⟨y751, hy751⟩ : ∃ y_ : List Int, y_ = (([rd t719 (ji90)] : List Int)) := ⟨_, rfl⟩
                      replace H : (if y747.length + y751.length < 17592186044416 then ((word_Decode.f kj76 (y747 ++ y751) (l0.length : Int)).bind fun bt757 => (if bt757.2 = 0 then ((tabardlaw03_tuples.f kj76 bt757.1 l0).bind fun t761 => (some t761)) else (some false))) else (none)) = some r := by first | (rw [hy751]; with_reducible exact H) | (have H2_ := (Option.bind_some _ _).symm.trans H; rw [hy751]; with_reducible exact H2_) | (have H2_ := (Option.bind_some _ _).symm.trans H; with_reducible exact H2_) | with_reducible exact H | (rw [hy751]; exact H) | exact H
                      have Ny751 := Aside0.mk hy751
                      clear hy751
                      by_cases c93 : y747.length + y751.length < 17592186044416
                      ·rw [if_pos c93] at H
                       have LMc93 := Aside0.mk c93
                       clear c93
                       obtain ⟨y754, hy754⟩ : ∃ y_ : List Int, y_ = (y747 ++ y751) := ⟨_, rfl⟩
                       replace H : ((word_Decode.f kj76 y754 (l0.length : Int)).bind fun bt757 => (if bt757.2 = 0 then ((tabardlaw03_tuples.f kj76 bt757.1 l0).bind fun t761 => (some t761)) else (some false))) = some r := by first | (rw [hy754]; with_reducible exact H) | (have H2_ := (Option.bind_some _ _).symm.trans H; rw [hy754]; with_reducible exact H2_) | (have H2_ := (Option.bind_some _ _).symm.trans H; with_reducible exact H2_) | with_reducible exact H | (rw [hy754]; exact H) | exact H
                       have Ny754 := Aside0.mk hy754
                       clear hy754
                       replace H := Option.bind_eq_some_iff.mp H
                       obtain ⟨⟨t757, t758⟩, A940, H⟩ := H
                       replace H : (if t758 = 0 then ((tabardlaw03_tuples.f kj76 t757 l0).bind fun t761 => (some t761)) else (some false)) = some r := H
                       have A94 := Aside0.mk A940
                       clear A940
                       by_cases c95 : t758 = 0
                       ·rw [if_pos c95] at H
                        have c95b0 : (t758 == 0) = true := beq_iff_eq.mpr c95
                        have c95b1 : (t758 != 0) = false := bne_eq_false_iff_eq.mpr c95
                        clear c95
                        replace H := Option.bind_eq_some_iff.mp H
                        obtain ⟨t761, A960, H⟩ := H
                        replace H : (some t761) = some r := H
                        have A96 := Aside0.mk A960
                        clear A960
                        obtain rfl := Option.some.inj H
                        try go_wp2
                        have n0_ := Aside0.mk (Kd.R_drew HO_9.out)
                        have n1_ := Aside0.mk (below_drew1 HB.out)
                        clear HO_9
                        clear HB
                        have HO_9 := n0_
                        have HB := n1_
                        clear n0_ n1_
                        have p750 : 0 ≤ ((ji90) : Int) := of_decide_eq_true aO
                        have q750 : (ji90) < (t719.length : Int) := of_decide_eq_true aO
                        obtain ⟨ad750, e750, hx750_0⟩ := Kd.at_int (Kd.R_reads' HO_9.out).2.2 (ji90) p750 q750
                        cases e750
                        replace p750 := eq_true p750
                        replace q750 := eq_true q750
                        refine start_ (n := 18) (S := fun w' => w'.cell? (ad750.add ((ji90)).toNat) = some (.int .i64 (rd t719 (ji90)))) (ds := []) #[false, false, false, false, false, false, false, false, false, false, false, false, false, false, false, false, false, false] (by kernel_rfl) rfl rfl (hx750_0) (fun hHeld => ?_); refine with_tabW tabardlaw03_WordBack.tab21 tabardlaw03_WordBack.bits21 (fun HT_ HW_ => ?_)
                        generalize wc.drew = w97 at HO_9 HB hx750_0 hHeld ⊢
                        refine pure_ (i := 1) (N := some 114) (v := ?_) (a' := ?_) #[false, true, false, false, false, false, false, false, false, false, false, false, false, false, false, false, false, false] rfl rfl (any_of HT_.out (by kernel_rfl)) (fun _ _ _ h => h) (Or.inl ⟨by rfl, ?_⟩) ?_ ?_
                        rotate_left
                        ·intro w'
                         go_simp
                         with_reducible rfl
                        rotate_left
                        ·simp only [Act.put, List.setIfInBounds_toArray, List.set_cons_zero, List.set_cons_succ, i64_w, i32_w]
                         rfl
                        refine pure_ (i := 3) (N := some 116) (v := ?_) (a' := ?_) #[false, true, false, true, false, false, false, false, false, false, false, false, false, false, false, false, false, false] rfl rfl (any_of HT_.out (by kernel_rfl)) (fun _ _ _ h => h) (Or.inl ⟨by rfl, ?_⟩) ?_ ?_
                        rotate_left
                        ·intro w'
                         go_simp
                         with_reducible rfl
                        rotate_left
                        ·simp only [Act.put, List.setIfInBounds_toArray, List.set_cons_zero, List.set_cons_succ, i64_w, i32_w]
                         rfl
                        refine pure_ (i := 4) (N := some 117) (v := ?_) (a' := ?_) #[false, true, false, true, true, false, false, false, false, false, false, false, false, false, false, false, false, false] rfl rfl (any_of HT_.out (by kernel_rfl)) (fun _ _ _ h => h) (Or.inl ⟨by rfl, ?_⟩) ?_ ?_
                        rotate_left
                        ·intro w'
                         go_simp
                         with_reducible rfl
                        rotate_left
                        ·simp only [Act.put, List.setIfInBounds_toArray, List.set_cons_zero, List.set_cons_succ, i64_w, i32_w]
                         rfl
                        refine pure_ (i := 5) (N := some 118) (v := ?_) (a' := ?_) #[false, true, false, true, true, true, false, false, false, false, false, false, false, false, false, false, false, false] rfl rfl (any_of HT_.out (by kernel_rfl)) (fun _ _ _ h => h) (Or.inl ⟨by rfl, ?_⟩) ?_ ?_
                        rotate_left
                        ·intro w'
                         go_simp
                         with_reducible rfl
                        rotate_left
                        ·simp only [Act.put, List.setIfInBounds_toArray, List.set_cons_zero, List.set_cons_succ, i64_w, i32_w]
                         rfl
                        refine pure_ (i := 6) (N := some 119) (v := ?_) (a' := ?_) #[false, true, false, true, true, true, true, false, false, false, false, false, false, false, false, false, false, false] rfl rfl (any_of HT_.out (by kernel_rfl)) (fun _ _ _ h => h) (Or.inl ⟨by rfl, ?_⟩) ?_ ?_
                        rotate_left
                        ·intro w'
                         go_simp
                         with_reducible rfl
                        rotate_left
                        ·simp only [Act.put, List.setIfInBounds_toArray, List.set_cons_zero, List.set_cons_succ, i64_w, i32_w]
                         rfl
                        refine pure_ (i := 10) (N := some 123) (v := ?_) (a' := ?_) #[false, true, false, true, true, true, true, false, false, false, true, false, false, false, false, false, false, false] rfl rfl (any_of HT_.out (by kernel_rfl)) (fun _ _ _ h => h) (Or.inl ⟨by rfl, ?_⟩) ?_ ?_
                        rotate_left
                        ·intro w'
                         go_simp
                         with_reducible rfl
                        rotate_left
                        ·simp only [Act.put, List.setIfInBounds_toArray, List.set_cons_zero, List.set_cons_succ, i64_w, i32_w]
                         rfl
                        refine pure_ (i := 11) (N := some 124) (v := ?_) (a' := ?_) #[false, true, false, true, true, true, true, false, false, false, true, true, false, false, false, false, false, false] rfl rfl (any_of HT_.out (by kernel_rfl)) (fun _ _ _ h => h) (Or.inl ⟨by rfl, ?_⟩) ?_ ?_
                        rotate_left
                        ·intro w'
                         go_simp
                         with_reducible rfl
                        rotate_left
                        ·simp only [Act.put, List.setIfInBounds_toArray, List.set_cons_zero, List.set_cons_succ, i64_w, i32_w]
                         rfl
                        refine take_ (i := 7) (N := some 120) (v := ?_) (a' := ?_) #[false, true, false, true, true, true, true, true, false, false, true, true, false, false, false, false, false, false] rfl rfl (take_ofW HT_.out HW_.out (by kernel_rfl)) (fun _ _ _ h => h) (Or.inl ⟨by rfl, ?_⟩) hHeld ?_ ?_
                        rotate_left
                        ·intro w' s0
                         go_simp
                         with_reducible rfl
                        rotate_left
                        ·simp only [Act.put, List.setIfInBounds_toArray, List.set_cons_zero, List.set_cons_succ, i64_w, i32_w]
                         rfl
                        refine join_ (σ := Value × Value × Value) 7 #[true, true, true, true, true, true, true, true, true, false, true, true, false, false, false, false, false, false] (fun s_ => [(113, s_.1), (115, s_.2.1), (121, s_.2.2)]) (fun s_ w' => (w'.cell? (ad750.add ((ji90)).toNat) = some (.int .i64 (rd t719 (ji90)))) ∧ (Kd.R (Kd.int .i64) 3 w' w.heap.size (fun k_ => some k_ ≠ (s_.2.2 : Value).ownBlock ∧ some k_ ≠ (.slice (some ad750) t719.length co81 : Value).ownBlock) s_.2.1 y747) ∧ (Kd.R (Kd.int .i64) 3 w' w.heap.size (fun k_ => some k_ ≠ (s_.2.1 : Value).ownBlock ∧ some k_ ≠ (.slice (some ad750) t719.length co81 : Value).ownBlock) s_.2.2 y751) ∧ (Kd.R (Kd.int .i64) 3 w' w.heap.size (fun k_ => some k_ ≠ (s_.2.1 : Value).ownBlock ∧ some k_ ≠ (s_.2.2 : Value).ownBlock) (.slice (some ad750) t719.length co81) t719) ∧ (Below w.heap.size w w')) ?_ ?_
                        rotate_left
                        ·intro hCont
                         refine two_ (i := 0) (j := 8) (Ni := some 113) (Nj := some 121) #[true, true, false, true, true, true, true, true, false, false, true, true, false, false, false, false, false, false] #[false, true, false, true, true, true, true, true, true, false, true, true, false, false, false, false, false, false] rfl rfl rfl rfl (two_of HT_.out (by kernel_rfl)) (by decide) (by decide) (fun K hK => ?_) (fun K hK => ?_)
                         ·skip
                          refine Kd.R_lit_step (Kd.int .i64) _ 3 ?hg (N := 113) ?hd (xs := ([] : List Int)) (inner := []) (ok := fun _ => True) (okp := fun _ => True) ?hr ?hp (fun _ hk => hk) trivial (Below.refl _ _) (Nat.le_refl _) (by simp) ?_; (case hd => rfl); (case hg => rfl); (case hr => first | (go_simp; done) | (go_simp; rfl)); (case hp => exact (Reps.none _ _))
                          intro v745 w98 ho99 hb hg_ hnew_
                          have HS0_ := (hb.cell (World.block_lt_of_cell? _ _ (hHeld))).trans (hHeld)
                          clear hg_ hnew_
                          (first | rw [← Ny744.out] at ho99 | (simp only [Int.reduceToNat] at ho99; rw [← Ny744.out] at ho99))
                          have n0_ := Aside0.mk (Kd.R_elder' (rO HO_9.out) (Kd.R_base ho99) hb)
                          have n1_ := Aside0.mk (Kd.R_lower (Kd.R_new' ho99 (Kd.R_lt (rO HO_9.out))) (below_size (bO HB.out)))
                          have n2_ := Aside0.mk (below_step (bO HB.out) hb)
                          clear HO_9
                          clear HB
                          have HO_9 := n0_
                          have HO746 := n1_
                          have HB := n2_
                          clear n0_ n1_ n2_
                          clear hb ho99
                          refine hK.out _ _ (HS0_) (fun hHeld => ?_)
                          clear hK K
                          refine norm_ (a' := ?_) ?_ ?_
                          rotate_left
                          ·show Act.put _ (some 113) _ = _
                           simp only [Act.put, List.setIfInBounds_toArray, List.set_cons_zero, List.set_cons_succ, i64_w, i32_w]
                           rfl
                          refine two_ (i := 2) (j := 8) (Ni := some 115) (Nj := some 121) #[true, true, true, true, true, true, true, true, false, false, true, true, false, false, false, false, false, false] #[true, true, false, true, true, true, true, true, true, false, true, true, false, false, false, false, false, false] rfl rfl rfl rfl (two_of HT_.out (by kernel_rfl)) (by decide) (by decide) (fun K hK => ?_) (fun K hK => ?_)
                          ·skip
                           refine Kd.R_append_rows_step (Kd.int .i64) (w0 := w) w.heap.size (by rfl) (.tmp 113) (.tmp 114) 23 3 (.int .i64 0) 8 rfl Try.underlying23 info3 rfl (by decide) (by omega) v745 y744 t719 _ _ _ (fun k_ => some k_ ≠ (.slice (some ad750) t719.length co81 : Value).ownBlock) (fun _ => False) rfl rfl ?aO ?aR (fun _ _ h => h) (fun _ h => h.elim) ?aF ?aB ?aS ?aL ?_
                           (case aR => exact cO (Kd.R_reads' HO_9.out).2.2)
                           (case aB => exact (bO HB.out))
                           (case aF => exact (fun k_ hk => Kd.fresh' (Kd.R_lt (rO HO_9.out)) k_ hk))
                           (case aO => exact (by (with_reducible repeat (first | apply Kd.R_alloc | apply Kd.R_drewN | apply Kd.R_drew)); exact Kd.R_mono HO746.out (fun _ hk => hk.2)))
                           (case aS => exact (below_size (bO HB.out)))
                           (case aL => have := LMc89.out; omega)
                           intro v748 w100 ho hb hg hat
                           have HS0_ := cell_grown hg (hHeld) (fun e_ => by have hk_ := HO746.out.1 _ e_.symm; have hz_ := hk_; (try dsimp only at hz_); (try rw [add_block] at hz_); first | exact hz_ rfl | exact hz_.1 rfl | exact hz_.2 rfl | exact hz_.1.1 rfl | exact hz_.1.2 rfl | exact hz_.2.1 rfl | exact hz_.2.2 rfl)
                           rw [← Ny747.out] at ho
                           have n0_ := Aside0.mk (Kd.R_after (ok := (fun _ => True)) (rO HO_9.out) hg hat)
                           have n1_ := Aside0.mk (hb)
                           have n2_ := Aside0.mk (ho)
                           clear HO_9
                           clear HB
                           clear HO746
                           have HO_9 := n0_
                           have HB := n1_
                           have HO749 := n2_
                           clear n0_ n1_ n2_
                           clear ho hb hg hat
                           refine hK.out _ _ (HS0_) (fun hHeld => ?_)
                           clear hK K
                           refine norm_ (a' := ?_) ?_ ?_
                           rotate_left
                           ·show Act.put _ (some 115) _ = _
                            simp only [Act.put, List.setIfInBounds_toArray, List.set_cons_zero, List.set_cons_succ, i64_w, i32_w]
                            rfl
                           refine one_ (i := 8) (N := some 121) #[true, true, true, true, true, true, true, true, true, false, true, true, false, false, false, false, false, false] rfl rfl (one_of HT_.out (by kernel_rfl)) (by decide) (fun K hK => ?_)
                           refine Kd.R_lit_step (Kd.int .i64) _ 3 ?hg (N := 121) ?hd (xs := ([rd t719 (ji90)] : List Int)) (inner := [.int .i64 (rd t719 (ji90))]) (ok := fun _ => True) (okp := fun _ => True) ?hr ?hp (fun _ hk => hk) trivial (Below.refl _ _) (Nat.le_refl _) (by simp) ?_; (case hd => rfl); (case hg => rfl); (case hr => first | (go_simp; done) | (go_simp; rfl)); (case hp => exact (Reps.one (show Kd.M (Kd.int .i64) _ _ _ (rd t719 (ji90)) [.int .i64 (rd t719 (ji90))] from rfl) (Reps.none _ _)))
                           intro v752 w101 ho102 hb hg_ hnew_
                           have HS0_ := (hb.cell (World.block_lt_of_cell? _ _ (hHeld))).trans (hHeld)
                           clear hg_ hnew_
                           (first | rw [← Ny751.out] at ho102 | (simp only [Int.reduceToNat] at ho102; rw [← Ny751.out] at ho102))
                           have n0_ := Aside0.mk (Kd.R_elder' (rO HO_9.out) (Kd.R_base ho102) hb)
                           have n1_ := Aside0.mk (Kd.R_elder' (rO HO749.out) (Kd.R_base ho102) hb)
                           have n2_ := Aside0.mk (Kd.R_lower (Kd.R_new' (Kd.R_new' ho102 (Kd.R_lt (rO HO_9.out))) (Kd.R_lt (rO HO749.out))) (below_size (bO HB.out)))
                           have n3_ := Aside0.mk (below_step (bO HB.out) hb)
                           clear HO_9
                           clear HO749
                           clear HB
                           have HO_9 := n0_
                           have HO749 := n1_
                           have HO753 := n2_
                           have HB := n3_
                           clear n0_ n1_ n2_ n3_
                           clear hb ho102
                           refine hK.out _ _ (HS0_) (fun hHeld => ?_)
                           clear hK K
                           refine norm_ (a' := ?_) ?_ ?_
                           rotate_left
                           ·show Act.put _ (some 121) _ = _
                            simp only [Act.put, List.setIfInBounds_toArray, List.set_cons_zero, List.set_cons_succ, i64_w, i32_w]
                            rfl
                           exact norm_ (by simp only [putAll, Act.put, List.setIfInBounds_toArray, List.set_cons_zero, List.set_cons_succ]) (hCont (v745, v748, v752) _ ⟨hHeld, (by (with_reducible repeat (first | apply Kd.R_alloc | apply Kd.R_drewN | apply Kd.R_drew)); exact Kd.R_mono HO749.out (fun _ hk => ⟨hk.2, hk.1⟩)), (by (with_reducible repeat (first | apply Kd.R_alloc | apply Kd.R_drewN | apply Kd.R_drew)); exact Kd.R_mono HO753.out (fun _ hk => ⟨hk.2, hk.1.2⟩)), (by (with_reducible repeat (first | apply Kd.R_alloc | apply Kd.R_drewN | apply Kd.R_drew)); exact Kd.R_mono HO_9.out (fun _ hk => ⟨hk.1.2, hk.2⟩)), (bO HB.out)⟩)
                          ·skip
                           refine Kd.R_lit_step (Kd.int .i64) _ 3 ?hg (N := 121) ?hd (xs := ([rd t719 (ji90)] : List Int)) (inner := [.int .i64 (rd t719 (ji90))]) (ok := fun _ => True) (okp := fun _ => True) ?hr ?hp (fun _ hk => hk) trivial (Below.refl _ _) (Nat.le_refl _) (by simp) ?_; (case hd => rfl); (case hg => rfl); (case hr => first | (go_simp; done) | (go_simp; rfl)); (case hp => exact (Reps.one (show Kd.M (Kd.int .i64) _ _ _ (rd t719 (ji90)) [.int .i64 (rd t719 (ji90))] from rfl) (Reps.none _ _)))
                           intro v752 w100 ho101 hb hg_ hnew_
                           have HS0_ := (hb.cell (World.block_lt_of_cell? _ _ (hHeld))).trans (hHeld)
                           clear hg_ hnew_
                           (first | rw [← Ny751.out] at ho101 | (simp only [Int.reduceToNat] at ho101; rw [← Ny751.out] at ho101))
                           have n0_ := Aside0.mk (Kd.R_elder' (rO HO_9.out) (Kd.R_base ho101) hb)
                           have n1_ := Aside0.mk (Kd.R_elder' (rO HO746.out) (Kd.R_base ho101) hb)
                           have n2_ := Aside0.mk (Kd.R_lower (Kd.R_new' (Kd.R_new' ho101 (Kd.R_lt (rO HO_9.out))) (Kd.R_lt (rO HO746.out))) (below_size (bO HB.out)))
                           have n3_ := Aside0.mk (below_step (bO HB.out) hb)
                           clear HO_9
                           clear HO746
                           clear HB
                           have HO_9 := n0_
                           have HO746 := n1_
                           have HO753 := n2_
                           have HB := n3_
                           clear n0_ n1_ n2_ n3_
                           clear hb ho101
                           refine hK.out _ _ (HS0_) (fun hHeld => ?_)
                           clear hK K
                           refine norm_ (a' := ?_) ?_ ?_
                           rotate_left
                           ·show Act.put _ (some 121) _ = _
                            simp only [Act.put, List.setIfInBounds_toArray, List.set_cons_zero, List.set_cons_succ, i64_w, i32_w]
                            rfl
                           refine one_ (i := 2) (N := some 115) #[true, true, true, true, true, true, true, true, true, false, true, true, false, false, false, false, false, false] rfl rfl (one_of HT_.out (by kernel_rfl)) (by decide) (fun K hK => ?_)
                           refine Kd.R_append_rows_step (Kd.int .i64) (w0 := w) w.heap.size (by rfl) (.tmp 113) (.tmp 114) 23 3 (.int .i64 0) 8 rfl Try.underlying23 info3 rfl (by decide) (by omega) v745 y744 t719 _ _ _ (fun k_ => some k_ ≠ (.slice (some ad750) t719.length co81 : Value).ownBlock ∧ some k_ ≠ (v752 : Value).ownBlock) (fun _ => False) rfl rfl ?aO ?aR (fun _ _ h => h) (fun _ h => h.elim) ?aF ?aB ?aS ?aL ?_
                           (case aR => exact cO (Kd.R_reads' HO_9.out).2.2)
                           (case aB => exact (bO HB.out))
                           (case aF => exact (fun k_ hk => ⟨Kd.fresh' (Kd.R_lt (rO HO_9.out)) k_ hk, Kd.fresh' (Kd.R_lt (rO HO753.out)) k_ hk⟩))
                           (case aO => exact (by (with_reducible repeat (first | apply Kd.R_alloc | apply Kd.R_drewN | apply Kd.R_drew)); exact Kd.R_mono HO746.out (fun _ hk => ⟨hk.1.2, hk.2⟩)))
                           (case aS => exact (below_size (bO HB.out)))
                           (case aL => have := LMc89.out; omega)
                           intro v748 w102 ho hb hg hat
                           have HS0_ := cell_grown hg (hHeld) (fun e_ => by have hk_ := HO746.out.1 _ e_.symm; have hz_ := hk_; (try dsimp only at hz_); (try rw [add_block] at hz_); first | exact hz_ rfl | exact hz_.1 rfl | exact hz_.2 rfl | exact hz_.1.1 rfl | exact hz_.1.2 rfl | exact hz_.2.1 rfl | exact hz_.2.2 rfl)
                           rw [← Ny747.out] at ho
                           have n0_ := Aside0.mk (Kd.R_after (ok := (fun k_ => some k_ ≠ (v752 : Value).ownBlock)) (by (with_reducible repeat (first | apply Kd.R_alloc | apply Kd.R_drewN | apply Kd.R_drew)); exact Kd.R_mono HO_9.out (fun _ hk => ⟨hk.2, hk.1.2⟩)) hg hat)
                           have n1_ := Aside0.mk (Kd.R_after (ok := (fun k_ => some k_ ≠ (.slice (some ad750) t719.length co81 : Value).ownBlock)) (by (with_reducible repeat (first | apply Kd.R_alloc | apply Kd.R_drewN | apply Kd.R_drew)); exact Kd.R_mono HO753.out (fun _ hk => ⟨hk.1.2, hk.2⟩)) hg hat)
                           have n2_ := Aside0.mk (hb)
                           have n3_ := Aside0.mk (ho)
                           clear HO_9
                           clear HO753
                           clear HB
                           clear HO746
                           have HO_9 := n0_
                           have HO753 := n1_
                           have HB := n2_
                           have HO749 := n3_
                           clear n0_ n1_ n2_ n3_
                           clear ho hb hg hat
                           refine hK.out _ _ (HS0_) (fun hHeld => ?_)
                           clear hK K
                           refine norm_ (a' := ?_) ?_ ?_
                           rotate_left
                           ·show Act.put _ (some 115) _ = _
                            simp only [Act.put, List.setIfInBounds_toArray, List.set_cons_zero, List.set_cons_succ, i64_w, i32_w]
                            rfl
                           exact norm_ (by simp only [putAll, Act.put, List.setIfInBounds_toArray, List.set_cons_zero, List.set_cons_succ]) (hCont (v745, v748, v752) _ ⟨hHeld, (by (with_reducible repeat (first | apply Kd.R_alloc | apply Kd.R_drewN | apply Kd.R_drew)); exact Kd.R_mono HO749.out (fun _ hk => ⟨hk.2, hk.1⟩)), (by (with_reducible repeat (first | apply Kd.R_alloc | apply Kd.R_drewN | apply Kd.R_drew)); exact Kd.R_mono HO753.out (fun _ hk => ⟨hk.2, hk.1⟩)), (by (with_reducible repeat (first | apply Kd.R_alloc | apply Kd.R_drewN | apply Kd.R_drew)); exact Kd.R_mono HO_9.out (fun _ hk => ⟨hk.2, hk.1⟩)), (bO HB.out)⟩)
                         ·skip
                          refine Kd.R_lit_step (Kd.int .i64) _ 3 ?hg (N := 121) ?hd (xs := ([rd t719 (ji90)] : List Int)) (inner := [.int .i64 (rd t719 (ji90))]) (ok := fun _ => True) (okp := fun _ => True) ?hr ?hp (fun _ hk => hk) trivial (Below.refl _ _) (Nat.le_refl _) (by simp) ?_; (case hd => rfl); (case hg => rfl); (case hr => first | (go_simp; done) | (go_simp; rfl)); (case hp => exact (Reps.one (show Kd.M (Kd.int .i64) _ _ _ (rd t719 (ji90)) [.int .i64 (rd t719 (ji90))] from rfl) (Reps.none _ _)))
                          intro v752 w98 ho99 hb hg_ hnew_
                          have HS0_ := (hb.cell (World.block_lt_of_cell? _ _ (hHeld))).trans (hHeld)
                          clear hg_ hnew_
                          (first | rw [← Ny751.out] at ho99 | (simp only [Int.reduceToNat] at ho99; rw [← Ny751.out] at ho99))
                          have n0_ := Aside0.mk (Kd.R_elder' (rO HO_9.out) (Kd.R_base ho99) hb)
                          have n1_ := Aside0.mk (Kd.R_lower (Kd.R_new' ho99 (Kd.R_lt (rO HO_9.out))) (below_size (bO HB.out)))
                          have n2_ := Aside0.mk (below_step (bO HB.out) hb)
                          clear HO_9
                          clear HB
                          have HO_9 := n0_
                          have HO753 := n1_
                          have HB := n2_
                          clear n0_ n1_ n2_
                          clear hb ho99
                          refine hK.out _ _ (HS0_) (fun hHeld => ?_)
                          clear hK K
                          refine norm_ (a' := ?_) ?_ ?_
                          rotate_left
                          ·show Act.put _ (some 121) _ = _
                           simp only [Act.put, List.setIfInBounds_toArray, List.set_cons_zero, List.set_cons_succ, i64_w, i32_w]
                           rfl
                          refine one_ (i := 0) (N := some 113) #[true, true, false, true, true, true, true, true, true, false, true, true, false, false, false, false, false, false] rfl rfl (one_of HT_.out (by kernel_rfl)) (by decide) (fun K hK => ?_)
                          refine Kd.R_lit_step (Kd.int .i64) _ 3 ?hg (N := 113) ?hd (xs := ([] : List Int)) (inner := []) (ok := fun _ => True) (okp := fun _ => True) ?hr ?hp (fun _ hk => hk) trivial (Below.refl _ _) (Nat.le_refl _) (by simp) ?_; (case hd => rfl); (case hg => rfl); (case hr => first | (go_simp; done) | (go_simp; rfl)); (case hp => exact (Reps.none _ _))
                          intro v745 w100 ho101 hb hg_ hnew_
                          have HS0_ := (hb.cell (World.block_lt_of_cell? _ _ (hHeld))).trans (hHeld)
                          clear hg_ hnew_
                          (first | rw [← Ny744.out] at ho101 | (simp only [Int.reduceToNat] at ho101; rw [← Ny744.out] at ho101))
                          have n0_ := Aside0.mk (Kd.R_elder' (rO HO_9.out) (Kd.R_base ho101) hb)
                          have n1_ := Aside0.mk (Kd.R_elder' (rO HO753.out) (Kd.R_base ho101) hb)
                          have n2_ := Aside0.mk (Kd.R_lower (Kd.R_new' (Kd.R_new' ho101 (Kd.R_lt (rO HO_9.out))) (Kd.R_lt (rO HO753.out))) (below_size (bO HB.out)))
                          have n3_ := Aside0.mk (below_step (bO HB.out) hb)
                          clear HO_9
                          clear HO753
                          clear HB
                          have HO_9 := n0_
                          have HO753 := n1_
                          have HO746 := n2_
                          have HB := n3_
                          clear n0_ n1_ n2_ n3_
                          clear hb ho101
                          refine hK.out _ _ (HS0_) (fun hHeld => ?_)
                          clear hK K
                          refine norm_ (a' := ?_) ?_ ?_
                          rotate_left
                          ·show Act.put _ (some 113) _ = _
                           simp only [Act.put, List.setIfInBounds_toArray, List.set_cons_zero, List.set_cons_succ, i64_w, i32_w]
                           rfl
                          refine one_ (i := 2) (N := some 115) #[true, true, true, true, true, true, true, true, true, false, true, true, false, false, false, false, false, false] rfl rfl (one_of HT_.out (by kernel_rfl)) (by decide) (fun K hK => ?_)
                          refine Kd.R_append_rows_step (Kd.int .i64) (w0 := w) w.heap.size (by rfl) (.tmp 113) (.tmp 114) 23 3 (.int .i64 0) 8 rfl Try.underlying23 info3 rfl (by decide) (by omega) v745 y744 t719 _ _ _ (fun k_ => some k_ ≠ (.slice (some ad750) t719.length co81 : Value).ownBlock ∧ some k_ ≠ (v752 : Value).ownBlock) (fun _ => False) rfl rfl ?aO ?aR (fun _ _ h => h) (fun _ h => h.elim) ?aF ?aB ?aS ?aL ?_
                          (case aR => exact cO (Kd.R_reads' HO_9.out).2.2)
                          (case aB => exact (bO HB.out))
                          (case aF => exact (fun k_ hk => ⟨Kd.fresh' (Kd.R_lt (rO HO_9.out)) k_ hk, Kd.fresh' (Kd.R_lt (rO HO753.out)) k_ hk⟩))
                          (case aO => exact (by (with_reducible repeat (first | apply Kd.R_alloc | apply Kd.R_drewN | apply Kd.R_drew)); exact Kd.R_mono HO746.out (fun _ hk => ⟨hk.1.2, hk.2⟩)))
                          (case aS => exact (below_size (bO HB.out)))
                          (case aL => have := LMc89.out; omega)
                          intro v748 w102 ho hb hg hat
                          have HS0_ := cell_grown hg (hHeld) (fun e_ => by have hk_ := HO746.out.1 _ e_.symm; have hz_ := hk_; (try dsimp only at hz_); (try rw [add_block] at hz_); first | exact hz_ rfl | exact hz_.1 rfl | exact hz_.2 rfl | exact hz_.1.1 rfl | exact hz_.1.2 rfl | exact hz_.2.1 rfl | exact hz_.2.2 rfl)
                          rw [← Ny747.out] at ho
                          have n0_ := Aside0.mk (Kd.R_after (ok := (fun k_ => some k_ ≠ (v752 : Value).ownBlock)) (by (with_reducible repeat (first | apply Kd.R_alloc | apply Kd.R_drewN | apply Kd.R_drew)); exact Kd.R_mono HO_9.out (fun _ hk => ⟨hk.1.2, hk.2⟩)) hg hat)
                          have n1_ := Aside0.mk (Kd.R_after (ok := (fun k_ => some k_ ≠ (.slice (some ad750) t719.length co81 : Value).ownBlock)) (by (with_reducible repeat (first | apply Kd.R_alloc | apply Kd.R_drewN | apply Kd.R_drew)); exact Kd.R_mono HO753.out (fun _ hk => ⟨hk.1.2, hk.2⟩)) hg hat)
                          have n2_ := Aside0.mk (hb)
                          have n3_ := Aside0.mk (ho)
                          clear HO_9
                          clear HO753
                          clear HB
                          clear HO746
                          have HO_9 := n0_
                          have HO753 := n1_
                          have HB := n2_
                          have HO749 := n3_
                          clear n0_ n1_ n2_ n3_
                          clear ho hb hg hat
                          refine hK.out _ _ (HS0_) (fun hHeld => ?_)
                          clear hK K
                          refine norm_ (a' := ?_) ?_ ?_
                          rotate_left
                          ·show Act.put _ (some 115) _ = _
                           simp only [Act.put, List.setIfInBounds_toArray, List.set_cons_zero, List.set_cons_succ, i64_w, i32_w]
                           rfl
                          exact norm_ (by simp only [putAll, Act.put, List.setIfInBounds_toArray, List.set_cons_zero, List.set_cons_succ]) (hCont (v745, v748, v752) _ ⟨hHeld, (by (with_reducible repeat (first | apply Kd.R_alloc | apply Kd.R_drewN | apply Kd.R_drew)); exact Kd.R_mono HO749.out (fun _ hk => ⟨hk.2, hk.1⟩)), (by (with_reducible repeat (first | apply Kd.R_alloc | apply Kd.R_drewN | apply Kd.R_drew)); exact Kd.R_mono HO753.out (fun _ hk => ⟨hk.2, hk.1⟩)), (by (with_reducible repeat (first | apply Kd.R_alloc | apply Kd.R_drewN | apply Kd.R_drew)); exact Kd.R_mono HO_9.out (fun _ hk => ⟨hk.2, hk.1⟩)), (bO HB.out)⟩)
                        rintro ⟨v745, v748, v752⟩ w103 ⟨hS_, h0_, h1_, h2_, h3_⟩
                        have n0_ : Aside0 (Kd.R (Kd.int .i64) 3 w103 w.heap.size (fun k_ => some k_ ≠ (v752 : Value).ownBlock ∧ some k_ ≠ (.slice (some ad750) t719.length co81 : Value).ownBlock) v748 y747) := ⟨h0_⟩
                        have n1_ : Aside0 (Kd.R (Kd.int .i64) 3 w103 w.heap.size (fun k_ => some k_ ≠ (v748 : Value).ownBlock ∧ some k_ ≠ (.slice (some ad750) t719.length co81 : Value).ownBlock) v752 y751) := ⟨h1_⟩
                        have n2_ : Aside0 (Kd.R (Kd.int .i64) 3 w103 w.heap.size (fun k_ => some k_ ≠ (v748 : Value).ownBlock ∧ some k_ ≠ (v752 : Value).ownBlock) (.slice (some ad750) t719.length co81) t719) := ⟨h2_⟩
                        have n3_ : Aside0 (Below w.heap.size w w103) := ⟨h3_⟩
                        clear HO_9
                        clear HB
                        clear h0_ h1_ h2_ h3_
                        have HO749 := n0_
                        have HO753 := n1_
                        have HO_9 := n2_
                        have HB := n3_
                        clear n0_ n1_ n2_ n3_
                        have hHeld : w103.cell? (ad750.add ((ji90)).toNat) = some (.int .i64 (rd t719 (ji90))) := hS_
                        obtain ⟨Ao105, co105, eo105⟩ := Kd.R_slice HO753.out
                        (first | subst eo105 | (injection eo105 with f1_ f2_ f3_; have f4_ := f1_.symm; have f5_ := f3_.symm; clear f1_ f2_ f3_; subst f4_; subst f5_))
                        refine norm_ (a' := ?_) ?_ ?_
                        rotate_left
                        ·simp only [putAll, Act.put, List.setIfInBounds_toArray, List.set_cons_zero, List.set_cons_succ]
                         rfl
                        refine one_ (i := 9) (N := some 122) #[true, true, true, true, true, true, true, true, true, true, true, true, false, false, false, false, false, false] rfl rfl (one_of HT_.out (by kernel_rfl)) (by decide) (fun K hK => ?_)
                        refine Kd.R_append_rows_step (Kd.int .i64) (w0 := w) w.heap.size (by rfl) (.tmp 115) (.tmp 121) 23 3 (.int .i64 0) 8 rfl Try.underlying23 info3 rfl (by decide) (by omega) v748 y747 y751 _ _ _ (fun k_ => some k_ ≠ (.slice (some ad750) t719.length co81 : Value).ownBlock ∧ some k_ ≠ (.slice Ao105 y751.length co105 : Value).ownBlock) (fun _ => False) rfl rfl ?aO ?aR (fun _ _ h => h) (fun _ h => h.elim) ?aF ?aB ?aS ?aL ?_
                        (case aR => exact cO (Kd.R_reads' HO753.out).2.2)
                        (case aB => exact (bO HB.out))
                        (case aF => exact (fun k_ hk => ⟨Kd.fresh' (Kd.R_lt (rO HO_9.out)) k_ hk, Kd.fresh' (Kd.R_lt (rO HO753.out)) k_ hk⟩))
                        (case aO => exact (by (with_reducible repeat (first | apply Kd.R_alloc | apply Kd.R_drewN | apply Kd.R_drew)); exact Kd.R_mono HO749.out (fun _ hk => ⟨hk.2, hk.1⟩)))
                        (case aS => exact (below_size (bO HB.out)))
                        (case aL => have := LMc93.out; omega)
                        intro v755 w104 ho hb hg hat
                        have HS0_ := cell_grown hg (hHeld) (fun e_ => by have hk_ := HO749.out.1 _ e_.symm; have hz_ := hk_; (try dsimp only at hz_); (try rw [add_block] at hz_); first | exact hz_ rfl | exact hz_.1 rfl | exact hz_.2 rfl | exact hz_.1.1 rfl | exact hz_.1.2 rfl | exact hz_.2.1 rfl | exact hz_.2.2 rfl)
                        rw [← Ny754.out] at ho
                        have n0_ := Aside0.mk (Kd.R_after (ok := (fun k_ => some k_ ≠ (.slice Ao105 y751.length co105 : Value).ownBlock)) (by (with_reducible repeat (first | apply Kd.R_alloc | apply Kd.R_drewN | apply Kd.R_drew)); exact Kd.R_mono HO_9.out (fun _ hk => ⟨hk.2, hk.1⟩)) hg hat)
                        have n1_ := Aside0.mk (Kd.R_after (ok := (fun k_ => some k_ ≠ (.slice (some ad750) t719.length co81 : Value).ownBlock)) (by (with_reducible repeat (first | apply Kd.R_alloc | apply Kd.R_drewN | apply Kd.R_drew)); exact Kd.R_mono HO753.out (fun _ hk => ⟨hk.2, hk.1⟩)) hg hat)
                        have n2_ := Aside0.mk (hb)
                        have n3_ := Aside0.mk (ho)
                        clear HO_9
                        clear HO753
                        clear HB
                        clear HO749
                        have HO_9 := n0_
                        have HO753 := n1_
                        have HB := n2_
                        have HO756 := n3_
                        clear n0_ n1_ n2_ n3_
                        clear ho hb hg hat
                        obtain ⟨Ao106, co106, eo106⟩ := Kd.R_slice HO756.out
                        (first | subst eo106 | (injection eo106 with f1_ f2_ f3_; have f4_ := f1_.symm; have f5_ := f3_.symm; clear f1_ f2_ f3_; subst f4_; subst f5_))
                        refine hK.out _ _ (HS0_) (fun hHeld => ?_)
                        clear hK K
                        refine norm_ (a' := ?_) ?_ ?_
                        rotate_left
                        ·show Act.put _ (some 122) _ = _
                         simp only [Act.put, List.setIfInBounds_toArray, List.set_cons_zero, List.set_cons_succ, i64_w, i32_w]
                         rfl
                        refine one_ (i := 12) (N := some 125) #[true, true, true, true, true, true, true, true, true, true, true, true, true, false, false, false, false, false] rfl rfl (one_of HT_.out (by kernel_rfl)) (by decide) (fun K hK => ?_)
                        refine goes_ Try.func25 (by kernel_rfl) rfl #[.slice Ao106 y754.length co106, .int .i64 (l0.length : Int)] (by rfl) rfl rfl mO ?_
                        with_reducible refine (word_Decode.calls kj76 _ _ y754 (l0.length : Int) t757 t758 _ ?side1 ?side2 A94.out).mono ?_
                        (case side1 => exact cO (Kd.R_reads' HO756.out).2.2)
                        (case side2 => exact (Kd.R_reads' HO756.out).2.1)
                        rintro e w107 ⟨v759, rfl, ho0, hb⟩
                        have HS0_ := (hb.cell (World.block_lt_of_cell? _ _ (hHeld))).trans (hHeld)
                        refine ⟨_, rfl, ?_⟩
                        have n0_ := Aside0.mk (Kd.R_below (rO HO_9.out) hb)
                        have n1_ := Aside0.mk (Kd.R_below (rO HO753.out) hb)
                        have n2_ := Aside0.mk (Kd.R_below (rO HO756.out) hb)
                        have n3_ := Aside0.mk (Kd.R_lower ho0 (below_size (bO HB.out)))
                        have n4_ := Aside0.mk (below_step (bO HB.out) hb)
                        clear HO_9
                        clear HO753
                        clear HO756
                        clear HB
                        have HO_9 := n0_
                        have HO753 := n1_
                        have HO756 := n2_
                        have HO760 := n3_
                        have HB := n4_
                        clear n0_ n1_ n2_ n3_ n4_
                        (try clear hb)
                        (try clear hb2)
                        (try clear hk)
                        (try clear hi)
                        (try clear ho0)
                        refine hK.out _ _ (HS0_) (fun hHeld => ?_)
                        clear hK K
                        refine norm_ (a' := ?_) ?_ ?_
                        rotate_left
                        ·show Act.put _ (some 125) _ = _
                         simp only [Act.put, List.setIfInBounds_toArray, List.set_cons_zero, List.set_cons_succ, i64_w, i32_w]
                         rfl
                        refine pure_ (i := 13) (N := some 112) (v := ?_) (a' := ?_) #[true, true, true, true, true, true, true, true, true, true, true, true, true, true, false, false, false, false] rfl rfl (any_of HT_.out (by kernel_rfl)) (fun _ _ _ h => h) (Or.inl ⟨by rfl, ?_⟩) ?_ ?_
                        rotate_left
                        ·intro w'
                         go_simp
                         with_reducible rfl
                        rotate_left
                        ·simp only [Act.put, List.setIfInBounds_toArray, List.set_cons_zero, List.set_cons_succ, i64_w, i32_w]
                         rfl
                        refine pure_ (i := 14) (N := some 126) (v := ?_) (a' := ?_) #[true, true, true, true, true, true, true, true, true, true, true, true, true, true, true, false, false, false] rfl rfl (any_of HT_.out (by kernel_rfl)) (fun _ _ _ h => h) (Or.inl ⟨by rfl, ?_⟩) ?_ ?_
                        rotate_left
                        ·intro w'
                         go_simp
                         with_reducible rfl
                        rotate_left
                        ·simp only [Act.put, List.setIfInBounds_toArray, List.set_cons_zero, List.set_cons_succ, i64_w, i32_w]
                         rfl
                        refine pure_ (i := 15) (N := some 127) (v := ?_) (a' := ?_) #[true, true, true, true, true, true, true, true, true, true, true, true, true, true, true, true, false, false] rfl rfl (any_of HT_.out (by kernel_rfl)) (fun _ _ _ h => h) (Or.inl ⟨by rfl, ?_⟩) ?_ ?_
                        rotate_left
                        ·intro w'
                         go_simp
                         with_reducible rfl
                        rotate_left
                        ·simp only [Act.put, List.setIfInBounds_toArray, List.set_cons_zero, List.set_cons_succ, i64_w, i32_w]
                         rfl
                        refine pure_ (i := 16) (N := some 10) (v := ?_) (a' := ?_) #[true, true, true, true, true, true, true, true, true, true, true, true, true, true, true, true, true, false] rfl rfl (any_of HT_.out (by kernel_rfl)) (fun _ _ _ h => h) (Or.inl ⟨by rfl, ?_⟩) ?_ ?_
                        rotate_left
                        ·intro w'
                         go_simp
                         with_reducible rfl
                        rotate_left
                        ·simp only [Act.put, List.setIfInBounds_toArray, List.set_cons_zero, List.set_cons_succ, i64_w, i32_w]
                         rfl
                        refine pure_ (i := 17) (N := some 6) (v := ?_) (a' := ?_) #[true, true, true, true, true, true, true, true, true, true, true, true, true, true, true, true, true, true] rfl rfl (any_of HT_.out (by kernel_rfl)) (fun _ _ _ h => h) (Or.inl ⟨by rfl, ?_⟩) ?_ ?_
                        rotate_left
                        ·intro w'
                         go_simp
                         with_reducible rfl
                        rotate_left
                        ·simp only [Act.put, List.setIfInBounds_toArray, List.set_cons_zero, List.set_cons_succ, i64_w, i32_w]
                         rfl
                        refine done_ (done_of HT_.out (by kernel_rfl)) ?_
                        obtain ⟨Ao108, co108, eo108⟩ := Kd.R_slice HO760.out
                        subst eo108
                        try go_wp2_with (first | (go_at_call 17; (with_reducible refine (tabardlaw03_tuples.calls kj76 _ _ t757 _ _ l0 t761 _ ?side1 ?side2 ?side3 ?side4 A96.out).mono ?_); (case side1 => exact cO (Kd.R_reads' HO760.out).2.2); (case side2 => exact (Kd.R_reads' HO760.out).2.1); (case side3 => exact cO (Kd.C_below HR0.out HB.out)); (case side4 => exact HC0.out); rintro e w' ⟨rfl, ⟨nd, rfl⟩⟩))
                        go_ret
                        exact ⟨by first | rfl | (simp [errW_none, errW_some] <;> rfl) | (simp only [← hji46, ← hji90]; first | rfl | (simp [errW_none, errW_some] <;> rfl)) | (simp [*, errW_none, errW_some] <;> rfl), bO HB.out⟩
                       ·rw [if_neg c95] at H
                        have c95b0 : (t758 == 0) = false := beq_eq_false_iff_ne.mpr c95
                        have c95b1 : (t758 != 0) = true := bne_iff_ne.mpr c95
                        obtain rfl := Option.some.inj H
                        try go_wp2
                        have n0_ := Aside0.mk (Kd.R_drew HO_9.out)
                        have n1_ := Aside0.mk (below_drew1 HB.out)
                        clear HO_9
                        clear HB
                        have HO_9 := n0_
                        have HB := n1_
                        clear n0_ n1_
                        have p750 : 0 ≤ ((ji90) : Int) := of_decide_eq_true aO
                        have q750 : (ji90) < (t719.length : Int) := of_decide_eq_true aO
                        obtain ⟨ad750, e750, hx750_0⟩ := Kd.at_int (Kd.R_reads' HO_9.out).2.2 (ji90) p750 q750
                        cases e750
                        replace p750 := eq_true p750
                        replace q750 := eq_true q750
                        refine start_ (n := 18) (S := fun w' => w'.cell? (ad750.add ((ji90)).toNat) = some (.int .i64 (rd t719 (ji90)))) (ds := []) #[false, false, false, false, false, false, false, false, false, false, false, false, false, false, false, false, false, false] (by kernel_rfl) rfl rfl (hx750_0) (fun hHeld => ?_); refine with_tabW tabardlaw03_WordBack.tab21 tabardlaw03_WordBack.bits21 (fun HT_ HW_ => ?_)
                        generalize wc.drew = w109 at HO_9 HB hx750_0 hHeld ⊢
                        refine pure_ (i := 1) (N := some 114) (v := ?_) (a' := ?_) #[false, true, false, false, false, false, false, false, false, false, false, false, false, false, false, false, false, false] rfl rfl (any_of HT_.out (by kernel_rfl)) (fun _ _ _ h => h) (Or.inl ⟨by rfl, ?_⟩) ?_ ?_
                        rotate_left
                        ·intro w'
                         go_simp
                         with_reducible rfl
                        rotate_left
                        ·simp only [Act.put, List.setIfInBounds_toArray, List.set_cons_zero, List.set_cons_succ, i64_w, i32_w]
                         rfl
                        refine pure_ (i := 3) (N := some 116) (v := ?_) (a' := ?_) #[false, true, false, true, false, false, false, false, false, false, false, false, false, false, false, false, false, false] rfl rfl (any_of HT_.out (by kernel_rfl)) (fun _ _ _ h => h) (Or.inl ⟨by rfl, ?_⟩) ?_ ?_
                        rotate_left
                        ·intro w'
                         go_simp
                         with_reducible rfl
                        rotate_left
                        ·simp only [Act.put, List.setIfInBounds_toArray, List.set_cons_zero, List.set_cons_succ, i64_w, i32_w]
                         rfl
                        refine pure_ (i := 4) (N := some 117) (v := ?_) (a' := ?_) #[false, true, false, true, true, false, false, false, false, false, false, false, false, false, false, false, false, false] rfl rfl (any_of HT_.out (by kernel_rfl)) (fun _ _ _ h => h) (Or.inl ⟨by rfl, ?_⟩) ?_ ?_
                        rotate_left
                        ·intro w'
                         go_simp
                         with_reducible rfl
                        rotate_left
                        ·simp only [Act.put, List.setIfInBounds_toArray, List.set_cons_zero, List.set_cons_succ, i64_w, i32_w]
                         rfl
                        refine pure_ (i := 5) (N := some 118) (v := ?_) (a' := ?_) #[false, true, false, true, true, true, false, false, false, false, false, false, false, false, false, false, false, false] rfl rfl (any_of HT_.out (by kernel_rfl)) (fun _ _ _ h => h) (Or.inl ⟨by rfl, ?_⟩) ?_ ?_
                        rotate_left
                        ·intro w'
                         go_simp
                         with_reducible rfl
                        rotate_left
                        ·simp only [Act.put, List.setIfInBounds_toArray, List.set_cons_zero, List.set_cons_succ, i64_w, i32_w]
                         rfl
                        refine pure_ (i := 6) (N := some 119) (v := ?_) (a' := ?_) #[false, true, false, true, true, true, true, false, false, false, false, false, false, false, false, false, false, false] rfl rfl (any_of HT_.out (by kernel_rfl)) (fun _ _ _ h => h) (Or.inl ⟨by rfl, ?_⟩) ?_ ?_
                        rotate_left
                        ·intro w'
                         go_simp
                         with_reducible rfl
                        rotate_left
                        ·simp only [Act.put, List.setIfInBounds_toArray, List.set_cons_zero, List.set_cons_succ, i64_w, i32_w]
                         rfl
                        refine pure_ (i := 10) (N := some 123) (v := ?_) (a' := ?_) #[false, true, false, true, true, true, true, false, false, false, true, false, false, false, false, false, false, false] rfl rfl (any_of HT_.out (by kernel_rfl)) (fun _ _ _ h => h) (Or.inl ⟨by rfl, ?_⟩) ?_ ?_
                        rotate_left
                        ·intro w'
                         go_simp
                         with_reducible rfl
                        rotate_left
                        ·simp only [Act.put, List.setIfInBounds_toArray, List.set_cons_zero, List.set_cons_succ, i64_w, i32_w]
                         rfl
                        refine pure_ (i := 11) (N := some 124) (v := ?_) (a' := ?_) #[false, true, false, true, true, true, true, false, false, false, true, true, false, false, false, false, false, false] rfl rfl (any_of HT_.out (by kernel_rfl)) (fun _ _ _ h => h) (Or.inl ⟨by rfl, ?_⟩) ?_ ?_
                        rotate_left
                        ·intro w'
                         go_simp
                         with_reducible rfl
                        rotate_left
                        ·simp only [Act.put, List.setIfInBounds_toArray, List.set_cons_zero, List.set_cons_succ, i64_w, i32_w]
                         rfl
                        refine take_ (i := 7) (N := some 120) (v := ?_) (a' := ?_) #[false, true, false, true, true, true, true, true, false, false, true, true, false, false, false, false, false, false] rfl rfl (take_ofW HT_.out HW_.out (by kernel_rfl)) (fun _ _ _ h => h) (Or.inl ⟨by rfl, ?_⟩) hHeld ?_ ?_
                        rotate_left
                        ·intro w' s0
                         go_simp
                         with_reducible rfl
                        rotate_left
                        ·simp only [Act.put, List.setIfInBounds_toArray, List.set_cons_zero, List.set_cons_succ, i64_w, i32_w]
                         rfl
                        refine join_ (σ := Value × Value × Value) 7 #[true, true, true, true, true, true, true, true, true, false, true, true, false, false, false, false, false, false] (fun s_ => [(113, s_.1), (115, s_.2.1), (121, s_.2.2)]) (fun s_ w' => (w'.cell? (ad750.add ((ji90)).toNat) = some (.int .i64 (rd t719 (ji90)))) ∧ (Kd.R (Kd.int .i64) 3 w' w.heap.size (fun k_ => some k_ ≠ (s_.2.2 : Value).ownBlock ∧ some k_ ≠ (.slice (some ad750) t719.length co81 : Value).ownBlock) s_.2.1 y747) ∧ (Kd.R (Kd.int .i64) 3 w' w.heap.size (fun k_ => some k_ ≠ (s_.2.1 : Value).ownBlock ∧ some k_ ≠ (.slice (some ad750) t719.length co81 : Value).ownBlock) s_.2.2 y751) ∧ (Kd.R (Kd.int .i64) 3 w' w.heap.size (fun k_ => some k_ ≠ (s_.2.1 : Value).ownBlock ∧ some k_ ≠ (s_.2.2 : Value).ownBlock) (.slice (some ad750) t719.length co81) t719) ∧ (Below w.heap.size w w')) ?_ ?_
                        rotate_left
                        ·intro hCont
                         refine two_ (i := 0) (j := 8) (Ni := some 113) (Nj := some 121) #[true, true, false, true, true, true, true, true, false, false, true, true, false, false, false, false, false, false] #[false, true, false, true, true, true, true, true, true, false, true, true, false, false, false, false, false, false] rfl rfl rfl rfl (two_of HT_.out (by kernel_rfl)) (by decide) (by decide) (fun K hK => ?_) (fun K hK => ?_)
                         ·skip
                          refine Kd.R_lit_step (Kd.int .i64) _ 3 ?hg (N := 113) ?hd (xs := ([] : List Int)) (inner := []) (ok := fun _ => True) (okp := fun _ => True) ?hr ?hp (fun _ hk => hk) trivial (Below.refl _ _) (Nat.le_refl _) (by simp) ?_; (case hd => rfl); (case hg => rfl); (case hr => first | (go_simp; done) | (go_simp; rfl)); (case hp => exact (Reps.none _ _))
                          intro v745 w110 ho111 hb hg_ hnew_
                          have HS0_ := (hb.cell (World.block_lt_of_cell? _ _ (hHeld))).trans (hHeld)
                          clear hg_ hnew_
                          (first | rw [← Ny744.out] at ho111 | (simp only [Int.reduceToNat] at ho111; rw [← Ny744.out] at ho111))
                          have n0_ := Aside0.mk (Kd.R_elder' (rO HO_9.out) (Kd.R_base ho111) hb)
                          have n1_ := Aside0.mk (Kd.R_lower (Kd.R_new' ho111 (Kd.R_lt (rO HO_9.out))) (below_size (bO HB.out)))
                          have n2_ := Aside0.mk (below_step (bO HB.out) hb)
                          clear HO_9
                          clear HB
                          have HO_9 := n0_
                          have HO746 := n1_
                          have HB := n2_
                          clear n0_ n1_ n2_
                          clear hb ho111
                          refine hK.out _ _ (HS0_) (fun hHeld => ?_)
                          clear hK K
                          refine norm_ (a' := ?_) ?_ ?_
                          rotate_left
                          ·show Act.put _ (some 113) _ = _
                           simp only [Act.put, List.setIfInBounds_toArray, List.set_cons_zero, List.set_cons_succ, i64_w, i32_w]
                           rfl
                          refine two_ (i := 2) (j := 8) (Ni := some 115) (Nj := some 121) #[true, true, true, true, true, true, true, true, false, false, true, true, false, false, false, false, false, false] #[true, true, false, true, true, true, true, true, true, false, true, true, false, false, false, false, false, false] rfl rfl rfl rfl (two_of HT_.out (by kernel_rfl)) (by decide) (by decide) (fun K hK => ?_) (fun K hK => ?_)
                          ·skip
                           refine Kd.R_append_rows_step (Kd.int .i64) (w0 := w) w.heap.size (by rfl) (.tmp 113) (.tmp 114) 23 3 (.int .i64 0) 8 rfl Try.underlying23 info3 rfl (by decide) (by omega) v745 y744 t719 _ _ _ (fun k_ => some k_ ≠ (.slice (some ad750) t719.length co81 : Value).ownBlock) (fun _ => False) rfl rfl ?aO ?aR (fun _ _ h => h) (fun _ h => h.elim) ?aF ?aB ?aS ?aL ?_
                           (case aR => exact cO (Kd.R_reads' HO_9.out).2.2)
                           (case aB => exact (bO HB.out))
                           (case aF => exact (fun k_ hk => Kd.fresh' (Kd.R_lt (rO HO_9.out)) k_ hk))
                           (case aO => exact (by (with_reducible repeat (first | apply Kd.R_alloc | apply Kd.R_drewN | apply Kd.R_drew)); exact Kd.R_mono HO746.out (fun _ hk => hk.2)))
                           (case aS => exact (below_size (bO HB.out)))
                           (case aL => have := LMc89.out; omega)
                           intro v748 w112 ho hb hg hat
                           have HS0_ := cell_grown hg (hHeld) (fun e_ => by have hk_ := HO746.out.1 _ e_.symm; have hz_ := hk_; (try dsimp only at hz_); (try rw [add_block] at hz_); first | exact hz_ rfl | exact hz_.1 rfl | exact hz_.2 rfl | exact hz_.1.1 rfl | exact hz_.1.2 rfl | exact hz_.2.1 rfl | exact hz_.2.2 rfl)
                           rw [← Ny747.out] at ho
                           have n0_ := Aside0.mk (Kd.R_after (ok := (fun _ => True)) (rO HO_9.out) hg hat)
                           have n1_ := Aside0.mk (hb)
                           have n2_ := Aside0.mk (ho)
                           clear HO_9
                           clear HB
                           clear HO746
                           have HO_9 := n0_
                           have HB := n1_
                           have HO749 := n2_
                           clear n0_ n1_ n2_
                           clear ho hb hg hat
                           refine hK.out _ _ (HS0_) (fun hHeld => ?_)
                           clear hK K
                           refine norm_ (a' := ?_) ?_ ?_
                           rotate_left
                           ·show Act.put _ (some 115) _ = _
                            simp only [Act.put, List.setIfInBounds_toArray, List.set_cons_zero, List.set_cons_succ, i64_w, i32_w]
                            rfl
                           refine one_ (i := 8) (N := some 121) #[true, true, true, true, true, true, true, true, true, false, true, true, false, false, false, false, false, false] rfl rfl (one_of HT_.out (by kernel_rfl)) (by decide) (fun K hK => ?_)
                           refine Kd.R_lit_step (Kd.int .i64) _ 3 ?hg (N := 121) ?hd (xs := ([rd t719 (ji90)] : List Int)) (inner := [.int .i64 (rd t719 (ji90))]) (ok := fun _ => True) (okp := fun _ => True) ?hr ?hp (fun _ hk => hk) trivial (Below.refl _ _) (Nat.le_refl _) (by simp) ?_; (case hd => rfl); (case hg => rfl); (case hr => first | (go_simp; done) | (go_simp; rfl)); (case hp => exact (Reps.one (show Kd.M (Kd.int .i64) _ _ _ (rd t719 (ji90)) [.int .i64 (rd t719 (ji90))] from rfl) (Reps.none _ _)))
                           intro v752 w113 ho114 hb hg_ hnew_
                           have HS0_ := (hb.cell (World.block_lt_of_cell? _ _ (hHeld))).trans (hHeld)
                           clear hg_ hnew_
                           (first | rw [← Ny751.out] at ho114 | (simp only [Int.reduceToNat] at ho114; rw [← Ny751.out] at ho114))
                           have n0_ := Aside0.mk (Kd.R_elder' (rO HO_9.out) (Kd.R_base ho114) hb)
                           have n1_ := Aside0.mk (Kd.R_elder' (rO HO749.out) (Kd.R_base ho114) hb)
                           have n2_ := Aside0.mk (Kd.R_lower (Kd.R_new' (Kd.R_new' ho114 (Kd.R_lt (rO HO_9.out))) (Kd.R_lt (rO HO749.out))) (below_size (bO HB.out)))
                           have n3_ := Aside0.mk (below_step (bO HB.out) hb)
                           clear HO_9
                           clear HO749
                           clear HB
                           have HO_9 := n0_
                           have HO749 := n1_
                           have HO753 := n2_
                           have HB := n3_
                           clear n0_ n1_ n2_ n3_
                           clear hb ho114
                           refine hK.out _ _ (HS0_) (fun hHeld => ?_)
                           clear hK K
                           refine norm_ (a' := ?_) ?_ ?_
                           rotate_left
                           ·show Act.put _ (some 121) _ = _
                            simp only [Act.put, List.setIfInBounds_toArray, List.set_cons_zero, List.set_cons_succ, i64_w, i32_w]
                            rfl
                           exact norm_ (by simp only [putAll, Act.put, List.setIfInBounds_toArray, List.set_cons_zero, List.set_cons_succ]) (hCont (v745, v748, v752) _ ⟨hHeld, (by (with_reducible repeat (first | apply Kd.R_alloc | apply Kd.R_drewN | apply Kd.R_drew)); exact Kd.R_mono HO749.out (fun _ hk => ⟨hk.2, hk.1⟩)), (by (with_reducible repeat (first | apply Kd.R_alloc | apply Kd.R_drewN | apply Kd.R_drew)); exact Kd.R_mono HO753.out (fun _ hk => ⟨hk.2, hk.1.2⟩)), (by (with_reducible repeat (first | apply Kd.R_alloc | apply Kd.R_drewN | apply Kd.R_drew)); exact Kd.R_mono HO_9.out (fun _ hk => ⟨hk.1.2, hk.2⟩)), (bO HB.out)⟩)
                          ·skip
                           refine Kd.R_lit_step (Kd.int .i64) _ 3 ?hg (N := 121) ?hd (xs := ([rd t719 (ji90)] : List Int)) (inner := [.int .i64 (rd t719 (ji90))]) (ok := fun _ => True) (okp := fun _ => True) ?hr ?hp (fun _ hk => hk) trivial (Below.refl _ _) (Nat.le_refl _) (by simp) ?_; (case hd => rfl); (case hg => rfl); (case hr => first | (go_simp; done) | (go_simp; rfl)); (case hp => exact (Reps.one (show Kd.M (Kd.int .i64) _ _ _ (rd t719 (ji90)) [.int .i64 (rd t719 (ji90))] from rfl) (Reps.none _ _)))
                           intro v752 w112 ho113 hb hg_ hnew_
                           have HS0_ := (hb.cell (World.block_lt_of_cell? _ _ (hHeld))).trans (hHeld)
                           clear hg_ hnew_
                           (first | rw [← Ny751.out] at ho113 | (simp only [Int.reduceToNat] at ho113; rw [← Ny751.out] at ho113))
                           have n0_ := Aside0.mk (Kd.R_elder' (rO HO_9.out) (Kd.R_base ho113) hb)
                           have n1_ := Aside0.mk (Kd.R_elder' (rO HO746.out) (Kd.R_base ho113) hb)
                           have n2_ := Aside0.mk (Kd.R_lower (Kd.R_new' (Kd.R_new' ho113 (Kd.R_lt (rO HO_9.out))) (Kd.R_lt (rO HO746.out))) (below_size (bO HB.out)))
                           have n3_ := Aside0.mk (below_step (bO HB.out) hb)
                           clear HO_9
                           clear HO746
                           clear HB
                           have HO_9 := n0_
                           have HO746 := n1_
                           have HO753 := n2_
                           have HB := n3_
                           clear n0_ n1_ n2_ n3_
                           clear hb ho113
                           refine hK.out _ _ (HS0_) (fun hHeld => ?_)
                           clear hK K
                           refine norm_ (a' := ?_) ?_ ?_
                           rotate_left
                           ·show Act.put _ (some 121) _ = _
                            simp only [Act.put, List.setIfInBounds_toArray, List.set_cons_zero, List.set_cons_succ, i64_w, i32_w]
                            rfl
                           refine one_ (i := 2) (N := some 115) #[true, true, true, true, true, true, true, true, true, false, true, true, false, false, false, false, false, false] rfl rfl (one_of HT_.out (by kernel_rfl)) (by decide) (fun K hK => ?_)
                           refine Kd.R_append_rows_step (Kd.int .i64) (w0 := w) w.heap.size (by rfl) (.tmp 113) (.tmp 114) 23 3 (.int .i64 0) 8 rfl Try.underlying23 info3 rfl (by decide) (by omega) v745 y744 t719 _ _ _ (fun k_ => some k_ ≠ (.slice (some ad750) t719.length co81 : Value).ownBlock ∧ some k_ ≠ (v752 : Value).ownBlock) (fun _ => False) rfl rfl ?aO ?aR (fun _ _ h => h) (fun _ h => h.elim) ?aF ?aB ?aS ?aL ?_
                           (case aR => exact cO (Kd.R_reads' HO_9.out).2.2)
                           (case aB => exact (bO HB.out))
                           (case aF => exact (fun k_ hk => ⟨Kd.fresh' (Kd.R_lt (rO HO_9.out)) k_ hk, Kd.fresh' (Kd.R_lt (rO HO753.out)) k_ hk⟩))
                           (case aO => exact (by (with_reducible repeat (first | apply Kd.R_alloc | apply Kd.R_drewN | apply Kd.R_drew)); exact Kd.R_mono HO746.out (fun _ hk => ⟨hk.1.2, hk.2⟩)))
                           (case aS => exact (below_size (bO HB.out)))
                           (case aL => have := LMc89.out; omega)
                           intro v748 w114 ho hb hg hat
                           have HS0_ := cell_grown hg (hHeld) (fun e_ => by have hk_ := HO746.out.1 _ e_.symm; have hz_ := hk_; (try dsimp only at hz_); (try rw [add_block] at hz_); first | exact hz_ rfl | exact hz_.1 rfl | exact hz_.2 rfl | exact hz_.1.1 rfl | exact hz_.1.2 rfl | exact hz_.2.1 rfl | exact hz_.2.2 rfl)
                           rw [← Ny747.out] at ho
                           have n0_ := Aside0.mk (Kd.R_after (ok := (fun k_ => some k_ ≠ (v752 : Value).ownBlock)) (by (with_reducible repeat (first | apply Kd.R_alloc | apply Kd.R_drewN | apply Kd.R_drew)); exact Kd.R_mono HO_9.out (fun _ hk => ⟨hk.2, hk.1.2⟩)) hg hat)
                           have n1_ := Aside0.mk (Kd.R_after (ok := (fun k_ => some k_ ≠ (.slice (some ad750) t719.length co81 : Value).ownBlock)) (by (with_reducible repeat (first | apply Kd.R_alloc | apply Kd.R_drewN | apply Kd.R_drew)); exact Kd.R_mono HO753.out (fun _ hk => ⟨hk.1.2, hk.2⟩)) hg hat)
                           have n2_ := Aside0.mk (hb)
                           have n3_ := Aside0.mk (ho)
                           clear HO_9
                           clear HO753
                           clear HB
                           clear HO746
                           have HO_9 := n0_
                           have HO753 := n1_
                           have HB := n2_
                           have HO749 := n3_
                           clear n0_ n1_ n2_ n3_
                           clear ho hb hg hat
                           refine hK.out _ _ (HS0_) (fun hHeld => ?_)
                           clear hK K
                           refine norm_ (a' := ?_) ?_ ?_
                           rotate_left
                           ·show Act.put _ (some 115) _ = _
                            simp only [Act.put, List.setIfInBounds_toArray, List.set_cons_zero, List.set_cons_succ, i64_w, i32_w]
                            rfl
                           exact norm_ (by simp only [putAll, Act.put, List.setIfInBounds_toArray, List.set_cons_zero, List.set_cons_succ]) (hCont (v745, v748, v752) _ ⟨hHeld, (by (with_reducible repeat (first | apply Kd.R_alloc | apply Kd.R_drewN | apply Kd.R_drew)); exact Kd.R_mono HO749.out (fun _ hk => ⟨hk.2, hk.1⟩)), (by (with_reducible repeat (first | apply Kd.R_alloc | apply Kd.R_drewN | apply Kd.R_drew)); exact Kd.R_mono HO753.out (fun _ hk => ⟨hk.2, hk.1⟩)), (by (with_reducible repeat (first | apply Kd.R_alloc | apply Kd.R_drewN | apply Kd.R_drew)); exact Kd.R_mono HO_9.out (fun _ hk => ⟨hk.2, hk.1⟩)), (bO HB.out)⟩)
                         ·skip
                          refine Kd.R_lit_step (Kd.int .i64) _ 3 ?hg (N := 121) ?hd (xs := ([rd t719 (ji90)] : List Int)) (inner := [.int .i64 (rd t719 (ji90))]) (ok := fun _ => True) (okp := fun _ => True) ?hr ?hp (fun _ hk => hk) trivial (Below.refl _ _) (Nat.le_refl _) (by simp) ?_; (case hd => rfl); (case hg => rfl); (case hr => first | (go_simp; done) | (go_simp; rfl)); (case hp => exact (Reps.one (show Kd.M (Kd.int .i64) _ _ _ (rd t719 (ji90)) [.int .i64 (rd t719 (ji90))] from rfl) (Reps.none _ _)))
                          intro v752 w110 ho111 hb hg_ hnew_
                          have HS0_ := (hb.cell (World.block_lt_of_cell? _ _ (hHeld))).trans (hHeld)
                          clear hg_ hnew_
                          (first | rw [← Ny751.out] at ho111 | (simp only [Int.reduceToNat] at ho111; rw [← Ny751.out] at ho111))
                          have n0_ := Aside0.mk (Kd.R_elder' (rO HO_9.out) (Kd.R_base ho111) hb)
                          have n1_ := Aside0.mk (Kd.R_lower (Kd.R_new' ho111 (Kd.R_lt (rO HO_9.out))) (below_size (bO HB.out)))
                          have n2_ := Aside0.mk (below_step (bO HB.out) hb)
                          clear HO_9
                          clear HB
                          have HO_9 := n0_
                          have HO753 := n1_
                          have HB := n2_
                          clear n0_ n1_ n2_
                          clear hb ho111
                          refine hK.out _ _ (HS0_) (fun hHeld => ?_)
                          clear hK K
                          refine norm_ (a' := ?_) ?_ ?_
                          rotate_left
                          ·show Act.put _ (some 121) _ = _
                           simp only [Act.put, List.setIfInBounds_toArray, List.set_cons_zero, List.set_cons_succ, i64_w, i32_w]
                           rfl
                          refine one_ (i := 0) (N := some 113) #[true, true, false, true, true, true, true, true, true, false, true, true, false, false, false, false, false, false] rfl rfl (one_of HT_.out (by kernel_rfl)) (by decide) (fun K hK => ?_)
                          refine Kd.R_lit_step (Kd.int .i64) _ 3 ?hg (N := 113) ?hd (xs := ([] : List Int)) (inner := []) (ok := fun _ => True) (okp := fun _ => True) ?hr ?hp (fun _ hk => hk) trivial (Below.refl _ _) (Nat.le_refl _) (by simp) ?_; (case hd => rfl); (case hg => rfl); (case hr => first | (go_simp; done) | (go_simp; rfl)); (case hp => exact (Reps.none _ _))
                          intro v745 w112 ho113 hb hg_ hnew_
                          have HS0_ := (hb.cell (World.block_lt_of_cell? _ _ (hHeld))).trans (hHeld)
                          clear hg_ hnew_
                          (first | rw [← Ny744.out] at ho113 | (simp only [Int.reduceToNat] at ho113; rw [← Ny744.out] at ho113))
                          have n0_ := Aside0.mk (Kd.R_elder' (rO HO_9.out) (Kd.R_base ho113) hb)
                          have n1_ := Aside0.mk (Kd.R_elder' (rO HO753.out) (Kd.R_base ho113) hb)
                          have n2_ := Aside0.mk (Kd.R_lower (Kd.R_new' (Kd.R_new' ho113 (Kd.R_lt (rO HO_9.out))) (Kd.R_lt (rO HO753.out))) (below_size (bO HB.out)))
                          have n3_ := Aside0.mk (below_step (bO HB.out) hb)
                          clear HO_9
                          clear HO753
                          clear HB
                          have HO_9 := n0_
                          have HO753 := n1_
                          have HO746 := n2_
                          have HB := n3_
                          clear n0_ n1_ n2_ n3_
                          clear hb ho113
                          refine hK.out _ _ (HS0_) (fun hHeld => ?_)
                          clear hK K
                          refine norm_ (a' := ?_) ?_ ?_
                          rotate_left
                          ·show Act.put _ (some 113) _ = _
                           simp only [Act.put, List.setIfInBounds_toArray, List.set_cons_zero, List.set_cons_succ, i64_w, i32_w]
                           rfl
                          refine one_ (i := 2) (N := some 115) #[true, true, true, true, true, true, true, true, true, false, true, true, false, false, false, false, false, false] rfl rfl (one_of HT_.out (by kernel_rfl)) (by decide) (fun K hK => ?_)
                          refine Kd.R_append_rows_step (Kd.int .i64) (w0 := w) w.heap.size (by rfl) (.tmp 113) (.tmp 114) 23 3 (.int .i64 0) 8 rfl Try.underlying23 info3 rfl (by decide) (by omega) v745 y744 t719 _ _ _ (fun k_ => some k_ ≠ (.slice (some ad750) t719.length co81 : Value).ownBlock ∧ some k_ ≠ (v752 : Value).ownBlock) (fun _ => False) rfl rfl ?aO ?aR (fun _ _ h => h) (fun _ h => h.elim) ?aF ?aB ?aS ?aL ?_
                          (case aR => exact cO (Kd.R_reads' HO_9.out).2.2)
                          (case aB => exact (bO HB.out))
                          (case aF => exact (fun k_ hk => ⟨Kd.fresh' (Kd.R_lt (rO HO_9.out)) k_ hk, Kd.fresh' (Kd.R_lt (rO HO753.out)) k_ hk⟩))
                          (case aO => exact (by (with_reducible repeat (first | apply Kd.R_alloc | apply Kd.R_drewN | apply Kd.R_drew)); exact Kd.R_mono HO746.out (fun _ hk => ⟨hk.1.2, hk.2⟩)))
                          (case aS => exact (below_size (bO HB.out)))
                          (case aL => have := LMc89.out; omega)
                          intro v748 w114 ho hb hg hat
                          have HS0_ := cell_grown hg (hHeld) (fun e_ => by have hk_ := HO746.out.1 _ e_.symm; have hz_ := hk_; (try dsimp only at hz_); (try rw [add_block] at hz_); first | exact hz_ rfl | exact hz_.1 rfl | exact hz_.2 rfl | exact hz_.1.1 rfl | exact hz_.1.2 rfl | exact hz_.2.1 rfl | exact hz_.2.2 rfl)
                          rw [← Ny747.out] at ho
                          have n0_ := Aside0.mk (Kd.R_after (ok := (fun k_ => some k_ ≠ (v752 : Value).ownBlock)) (by (with_reducible repeat (first | apply Kd.R_alloc | apply Kd.R_drewN | apply Kd.R_drew)); exact Kd.R_mono HO_9.out (fun _ hk => ⟨hk.1.2, hk.2⟩)) hg hat)
                          have n1_ := Aside0.mk (Kd.R_after (ok := (fun k_ => some k_ ≠ (.slice (some ad750) t719.length co81 : Value).ownBlock)) (by (with_reducible repeat (first | apply Kd.R_alloc | apply Kd.R_drewN | apply Kd.R_drew)); exact Kd.R_mono HO753.out (fun _ hk => ⟨hk.1.2, hk.2⟩)) hg hat)
                          have n2_ := Aside0.mk (hb)
                          have n3_ := Aside0.mk (ho)
                          clear HO_9
                          clear HO753
                          clear HB
                          clear HO746
                          have HO_9 := n0_
                          have HO753 := n1_
                          have HB := n2_
                          have HO749 := n3_
                          clear n0_ n1_ n2_ n3_
                          clear ho hb hg hat
                          refine hK.out _ _ (HS0_) (fun hHeld => ?_)
                          clear hK K
                          refine norm_ (a' := ?_) ?_ ?_
                          rotate_left
                          ·show Act.put _ (some 115) _ = _
                           simp only [Act.put, List.setIfInBounds_toArray, List.set_cons_zero, List.set_cons_succ, i64_w, i32_w]
                           rfl
                          exact norm_ (by simp only [putAll, Act.put, List.setIfInBounds_toArray, List.set_cons_zero, List.set_cons_succ]) (hCont (v745, v748, v752) _ ⟨hHeld, (by (with_reducible repeat (first | apply Kd.R_alloc | apply Kd.R_drewN | apply Kd.R_drew)); exact Kd.R_mono HO749.out (fun _ hk => ⟨hk.2, hk.1⟩)), (by (with_reducible repeat (first | apply Kd.R_alloc | apply Kd.R_drewN | apply Kd.R_drew)); exact Kd.R_mono HO753.out (fun _ hk => ⟨hk.2, hk.1⟩)), (by (with_reducible repeat (first | apply Kd.R_alloc | apply Kd.R_drewN | apply Kd.R_drew)); exact Kd.R_mono HO_9.out (fun _ hk => ⟨hk.2, hk.1⟩)), (bO HB.out)⟩)
                        rintro ⟨v745, v748, v752⟩ w115 ⟨hS_, h0_, h1_, h2_, h3_⟩
                        have n0_ : Aside0 (Kd.R (Kd.int .i64) 3 w115 w.heap.size (fun k_ => some k_ ≠ (v752 : Value).ownBlock ∧ some k_ ≠ (.slice (some ad750) t719.length co81 : Value).ownBlock) v748 y747) := ⟨h0_⟩
                        have n1_ : Aside0 (Kd.R (Kd.int .i64) 3 w115 w.heap.size (fun k_ => some k_ ≠ (v748 : Value).ownBlock ∧ some k_ ≠ (.slice (some ad750) t719.length co81 : Value).ownBlock) v752 y751) := ⟨h1_⟩
                        have n2_ : Aside0 (Kd.R (Kd.int .i64) 3 w115 w.heap.size (fun k_ => some k_ ≠ (v748 : Value).ownBlock ∧ some k_ ≠ (v752 : Value).ownBlock) (.slice (some ad750) t719.length co81) t719) := ⟨h2_⟩
                        have n3_ : Aside0 (Below w.heap.size w w115) := ⟨h3_⟩
                        clear HO_9
                        clear HB
                        clear h0_ h1_ h2_ h3_
                        have HO749 := n0_
                        have HO753 := n1_
                        have HO_9 := n2_
                        have HB := n3_
                        clear n0_ n1_ n2_ n3_
                        have hHeld : w115.cell? (ad750.add ((ji90)).toNat) = some (.int .i64 (rd t719 (ji90))) := hS_
                        obtain ⟨Ao117, co117, eo117⟩ := Kd.R_slice HO753.out
                        (first | subst eo117 | (injection eo117 with f1_ f2_ f3_; have f4_ := f1_.symm; have f5_ := f3_.symm; clear f1_ f2_ f3_; subst f4_; subst f5_))
                        refine norm_ (a' := ?_) ?_ ?_
                        rotate_left
                        ·simp only [putAll, Act.put, List.setIfInBounds_toArray, List.set_cons_zero, List.set_cons_succ]
                         rfl
                        refine one_ (i := 9) (N := some 122) #[true, true, true, true, true, true, true, true, true, true, true, true, false, false, false, false, false, false] rfl rfl (one_of HT_.out (by kernel_rfl)) (by decide) (fun K hK => ?_)
                        refine Kd.R_append_rows_step (Kd.int .i64) (w0 := w) w.heap.size (by rfl) (.tmp 115) (.tmp 121) 23 3 (.int .i64 0) 8 rfl Try.underlying23 info3 rfl (by decide) (by omega) v748 y747 y751 _ _ _ (fun k_ => some k_ ≠ (.slice (some ad750) t719.length co81 : Value).ownBlock ∧ some k_ ≠ (.slice Ao117 y751.length co117 : Value).ownBlock) (fun _ => False) rfl rfl ?aO ?aR (fun _ _ h => h) (fun _ h => h.elim) ?aF ?aB ?aS ?aL ?_
                        (case aR => exact cO (Kd.R_reads' HO753.out).2.2)
                        (case aB => exact (bO HB.out))
                        (case aF => exact (fun k_ hk => ⟨Kd.fresh' (Kd.R_lt (rO HO_9.out)) k_ hk, Kd.fresh' (Kd.R_lt (rO HO753.out)) k_ hk⟩))
                        (case aO => exact (by (with_reducible repeat (first | apply Kd.R_alloc | apply Kd.R_drewN | apply Kd.R_drew)); exact Kd.R_mono HO749.out (fun _ hk => ⟨hk.2, hk.1⟩)))
                        (case aS => exact (below_size (bO HB.out)))
                        (case aL => have := LMc93.out; omega)
                        intro v755 w116 ho hb hg hat
                        have HS0_ := cell_grown hg (hHeld) (fun e_ => by have hk_ := HO749.out.1 _ e_.symm; have hz_ := hk_; (try dsimp only at hz_); (try rw [add_block] at hz_); first | exact hz_ rfl | exact hz_.1 rfl | exact hz_.2 rfl | exact hz_.1.1 rfl | exact hz_.1.2 rfl | exact hz_.2.1 rfl | exact hz_.2.2 rfl)
                        rw [← Ny754.out] at ho
                        have n0_ := Aside0.mk (Kd.R_after (ok := (fun k_ => some k_ ≠ (.slice Ao117 y751.length co117 : Value).ownBlock)) (by (with_reducible repeat (first | apply Kd.R_alloc | apply Kd.R_drewN | apply Kd.R_drew)); exact Kd.R_mono HO_9.out (fun _ hk => ⟨hk.2, hk.1⟩)) hg hat)
                        have n1_ := Aside0.mk (Kd.R_after (ok := (fun k_ => some k_ ≠ (.slice (some ad750) t719.length co81 : Value).ownBlock)) (by (with_reducible repeat (first | apply Kd.R_alloc | apply Kd.R_drewN | apply Kd.R_drew)); exact Kd.R_mono HO753.out (fun _ hk => ⟨hk.2, hk.1⟩)) hg hat)
                        have n2_ := Aside0.mk (hb)
                        have n3_ := Aside0.mk (ho)
                        clear HO_9
                        clear HO753
                        clear HB
                        clear HO749
                        have HO_9 := n0_
                        have HO753 := n1_
                        have HB := n2_
                        have HO756 := n3_
                        clear n0_ n1_ n2_ n3_
                        clear ho hb hg hat
                        obtain ⟨Ao118, co118, eo118⟩ := Kd.R_slice HO756.out
                        (first | subst eo118 | (injection eo118 with f1_ f2_ f3_; have f4_ := f1_.symm; have f5_ := f3_.symm; clear f1_ f2_ f3_; subst f4_; subst f5_))
                        refine hK.out _ _ (HS0_) (fun hHeld => ?_)
                        clear hK K
                        refine norm_ (a' := ?_) ?_ ?_
                        rotate_left
                        ·show Act.put _ (some 122) _ = _
                         simp only [Act.put, List.setIfInBounds_toArray, List.set_cons_zero, List.set_cons_succ, i64_w, i32_w]
                         rfl
                        refine one_ (i := 12) (N := some 125) #[true, true, true, true, true, true, true, true, true, true, true, true, true, false, false, false, false, false] rfl rfl (one_of HT_.out (by kernel_rfl)) (by decide) (fun K hK => ?_)
                        refine goes_ Try.func25 (by kernel_rfl) rfl #[.slice Ao118 y754.length co118, .int .i64 (l0.length : Int)] (by rfl) rfl rfl mO ?_
                        with_reducible refine (word_Decode.calls kj76 _ _ y754 (l0.length : Int) t757 t758 _ ?side1 ?side2 A94.out).mono ?_
                        (case side1 => exact cO (Kd.R_reads' HO756.out).2.2)
                        (case side2 => exact (Kd.R_reads' HO756.out).2.1)
                        rintro e w119 ⟨v759, rfl, ho0, hb⟩
                        have HS0_ := (hb.cell (World.block_lt_of_cell? _ _ (hHeld))).trans (hHeld)
                        refine ⟨_, rfl, ?_⟩
                        have n0_ := Aside0.mk (Kd.R_below (rO HO_9.out) hb)
                        have n1_ := Aside0.mk (Kd.R_below (rO HO753.out) hb)
                        have n2_ := Aside0.mk (Kd.R_below (rO HO756.out) hb)
                        have n3_ := Aside0.mk (Kd.R_lower ho0 (below_size (bO HB.out)))
                        have n4_ := Aside0.mk (below_step (bO HB.out) hb)
                        clear HO_9
                        clear HO753
                        clear HO756
                        clear HB
                        have HO_9 := n0_
                        have HO753 := n1_
                        have HO756 := n2_
                        have HO760 := n3_
                        have HB := n4_
                        clear n0_ n1_ n2_ n3_ n4_
                        (try clear hb)
                        (try clear hb2)
                        (try clear hk)
                        (try clear hi)
                        (try clear ho0)
                        refine hK.out _ _ (HS0_) (fun hHeld => ?_)
                        clear hK K
                        refine norm_ (a' := ?_) ?_ ?_
                        rotate_left
                        ·show Act.put _ (some 125) _ = _
                         simp only [Act.put, List.setIfInBounds_toArray, List.set_cons_zero, List.set_cons_succ, i64_w, i32_w]
                         rfl
                        refine pure_ (i := 13) (N := some 112) (v := ?_) (a' := ?_) #[true, true, true, true, true, true, true, true, true, true, true, true, true, true, false, false, false, false] rfl rfl (any_of HT_.out (by kernel_rfl)) (fun _ _ _ h => h) (Or.inl ⟨by rfl, ?_⟩) ?_ ?_
                        rotate_left
                        ·intro w'
                         go_simp
                         with_reducible rfl
                        rotate_left
                        ·simp only [Act.put, List.setIfInBounds_toArray, List.set_cons_zero, List.set_cons_succ, i64_w, i32_w]
                         rfl
                        refine pure_ (i := 14) (N := some 126) (v := ?_) (a' := ?_) #[true, true, true, true, true, true, true, true, true, true, true, true, true, true, true, false, false, false] rfl rfl (any_of HT_.out (by kernel_rfl)) (fun _ _ _ h => h) (Or.inl ⟨by rfl, ?_⟩) ?_ ?_
                        rotate_left
                        ·intro w'
                         go_simp
                         with_reducible rfl
                        rotate_left
                        ·simp only [Act.put, List.setIfInBounds_toArray, List.set_cons_zero, List.set_cons_succ, i64_w, i32_w]
                         rfl
                        refine pure_ (i := 15) (N := some 127) (v := ?_) (a' := ?_) #[true, true, true, true, true, true, true, true, true, true, true, true, true, true, true, true, false, false] rfl rfl (any_of HT_.out (by kernel_rfl)) (fun _ _ _ h => h) (Or.inl ⟨by rfl, ?_⟩) ?_ ?_
                        rotate_left
                        ·intro w'
                         go_simp
                         with_reducible rfl
                        rotate_left
                        ·simp only [Act.put, List.setIfInBounds_toArray, List.set_cons_zero, List.set_cons_succ, i64_w, i32_w]
                         rfl
                        refine pure_ (i := 16) (N := some 10) (v := ?_) (a' := ?_) #[true, true, true, true, true, true, true, true, true, true, true, true, true, true, true, true, true, false] rfl rfl (any_of HT_.out (by kernel_rfl)) (fun _ _ _ h => h) (Or.inl ⟨by rfl, ?_⟩) ?_ ?_
                        rotate_left
                        ·intro w'
                         go_simp
                         with_reducible rfl
                        rotate_left
                        ·simp only [Act.put, List.setIfInBounds_toArray, List.set_cons_zero, List.set_cons_succ, i64_w, i32_w]
                         rfl
                        refine pure_ (i := 17) (N := some 6) (v := ?_) (a' := ?_) #[true, true, true, true, true, true, true, true, true, true, true, true, true, true, true, true, true, true] rfl rfl (any_of HT_.out (by kernel_rfl)) (fun _ _ _ h => h) (Or.inl ⟨by rfl, ?_⟩) ?_ ?_
                        rotate_left
                        ·intro w'
                         go_simp
                         with_reducible rfl
                        rotate_left
                        ·simp only [Act.put, List.setIfInBounds_toArray, List.set_cons_zero, List.set_cons_succ, i64_w, i32_w]
                         rfl
                        refine done_ (done_of HT_.out (by kernel_rfl)) ?_
                        try go_wp2
                        go_ret
                        exact ⟨by first | rfl | (simp [errW_none, errW_some] <;> rfl) | (simp only [← hji46, ← hji90]; first | rfl | (simp [errW_none, errW_some] <;> rfl)) | (simp [*, errW_none, errW_some] <;> rfl), bO HB.out⟩
                      ·rw [if_neg c93] at H
                       exact absurd H (by simp)
                     ·rw [if_neg c92] at H
                      exact absurd H (by simp)
                    ·rw [if_neg c91] at H
                     exact absurd H (by simp)
                   ·rw [if_neg c89] at H
                    exact absurd H (by simp)
              ·rw [if_neg c75] at H
               exact absurd H (by simp)
          ·rw [if_neg c47] at H
           exact absurd H (by simp)
         ·rw [if_neg c45] at H
          have c45b0 : (t710 == 2) = false := beq_eq_false_iff_ne.mpr c45
          have c45b1 : (t710 != 2) = true := bne_iff_ne.mpr c45
          obtain rfl := Option.some.inj H
          go_wp2_with (first | ((with_reducible refine gate_dst (N := 51) rfl ?_); (try (refine gate_guard (by rfl) ?_; dsimp only)); refine Kd.R_lit (Kd.int .i64) _ 2 ?hg (N := 51) ?hd (xs := ([] : List Int)) (inner := []) (ok := fun _ => True) (okp := fun _ => True) ?hr ?hp (fun _ hk => hk) trivial (Below.refl _ _) (Nat.le_refl _) (by simp) ?_; (case hd => rfl); (case hg => rfl); (case hr => first | (go_simp; done) | (go_simp; rfl)); (case hp => exact (Reps.none _ _)); intro v704 w120 ho121 hb hg_ hnew_; clear hg_ hnew_; (first | rw [← Ny703.out] at ho121 | (simp only [Int.reduceToNat] at ho121; rw [← Ny703.out] at ho121)); have n0_ := Aside0.mk (Kd.R_below (rO HO_5.out) hb); have n1_ := Aside0.mk (Kd.R_lower ho121 (below_size (bO HB.out))); have n2_ := Aside0.mk (below_step (bO HB.out) hb); clear HO_5; clear HB; have HO_5 := n0_; have HO705 := n1_; have HB := n2_; clear n0_ n1_ n2_; clear hb ho121) | ((with_reducible refine gate_builtin (b := .append) (xs := #[.tmp 51, .tmp 52]) rfl ?_); (try (refine gate_guard (by rfl) ?_; dsimp only)); at_builtin; refine Kd.R_append_rows (Kd.int .i64) (w0 := w) w.heap.size rfl (.tmp 51) (.tmp 52) 22 2 (.int .i64 0) 8 rfl Try.underlying22 info2 rfl (by decide) (by omega) v704 y703 l0 _ _ _ (fun _ => True) (fun _ => False) rfl rfl ?aO ?aR (fun _ _ h => h) (fun _ h => h.elim) ?aF ?aB ?aS ?aL ?_; (case aR => exact cO (Kd.C_below HR0.out HB.out)); (case aB => exact (bO HB.out)); (case aF => exact (fun _ _ => trivial)); (case aO => exact (rO HO705.out)); (case aS => exact (below_size (bO HB.out))); (case aL => have := LMc43.out; omega); intro v707 w122 ho hb hg hat; rw [← Ny706.out] at ho; have n0_ := Aside0.mk (Kd.R_over' (rO HO_5.out) (Kd.R_typed (rO HO705.out)) (by decide) hg); have n1_ := Aside0.mk (hb); have n2_ := Aside0.mk (ho); clear HO_5; clear HB; clear HO705; have HO_5 := n0_; have HB := n1_; have HO708 := n2_; clear n0_ n1_ n2_; clear ho hb hg hat; obtain ⟨Ao123, co123, eo123⟩ := Kd.R_slice HO708.out; subst eo123) | ((with_reducible refine gate_callee (f := 10) rfl ?_); refine goesL_ (some 56) rfl rfl Try.func10 (by kernel_rfl) rfl #[.slice Ao123 y706.length co123, .int .i64 (wrap64 (t702 - 1))] rfl mO ?_; (with_reducible refine (word_Encode.calls kj23 _ _ y706 (wrap64 (t702 - 1)) t709 t710 _ ?side1 ?side2 A44.out).mono ?_); (case side1 => exact cO (Kd.R_reads' HO708.out).2.2); (case side2 => exact (Kd.R_reads' HO708.out).2.1); rintro e w124 ⟨v711, rfl, ho0, hb⟩; refine ⟨_, rfl, ?_⟩; have n0_ := Aside0.mk (Kd.R_elder' (rO HO_5.out) (Kd.R_base ho0) hb); have n1_ := Aside0.mk (Kd.R_below (rO HO708.out) hb); have n2_ := Aside0.mk (Kd.R_lower (Kd.R_new' ho0 (Kd.R_lt (rO HO_5.out))) (below_size (bO HB.out))); have n3_ := Aside0.mk (below_step (bO HB.out) hb); clear HO_5; clear HO708; clear HB; have HO_5 := n0_; have HO708 := n1_; have HO712 := n2_; have HB := n3_; clear n0_ n1_ n2_ n3_; (try clear hb); (try clear hb2); (try clear hk); (try clear hi); (try clear ho0)))
          go_ret
          exact ⟨by first | rfl | (simp [errW_none, errW_some] <;> rfl) | (simp [*, errW_none, errW_some] <;> rfl), bO HB.out⟩
        ·rw [if_neg c43] at H
         exact absurd H (by simp)
    ·rw [if_neg c22] at H
     exact absurd H (by simp)
  ·rw [if_neg c5] at H
   exact absurd H (by simp)
 ·replace c4 := Bool.eq_false_iff.mpr c4
  subst c4
  have H1 : (some false) = some r := by rw [if_neg (show ¬ (false = true) by decide)] at H; exact H
  clear H
  have H := H1
  clear H1
  obtain rfl := Option.some.inj H
  go_enter Try.func9, Try.ntmps9
  go_wp2_with (first | ((with_reducible refine gate_callee (f := 15) rfl ?_); refine goesL_ (some 11) rfl rfl Try.func15 (by kernel_rfl) rfl #[] rfl mO ?_; (with_reducible refine (tabardlaw03_fixed.calls k  false _ A3.out).mono ?_); rintro e w125 ⟨rfl, hb⟩; refine ⟨_, rfl, ?_⟩; have n0_ := Aside0.mk (below_step (bO HB.out) hb); clear HB; have HB := n0_; clear n0_; (try clear hb); (try clear hb2); (try clear hk); (try clear hi)))
  go_ret
  exact ⟨by first | rfl | (simp [errW_none, errW_some] <;> rfl) | (simp [*, errW_none, errW_some] <;> rfl), bO HB.out⟩

/-- THE ONE PURE STATEMENT of tabardlaw03_WordBack: yours. -/
def tabardlaw03_WordBack.Pure : Prop := ∀ (l0 : List Int) (a1 : Int), l0.length ≤ maxLen → l0.length * 8 ≤ 140737488351232 → (∀ x ∈ l0, (Lit.int .i64 x).wf = true) → (Lit.int .i64 a1).wf = true → ∃ k, tabardlaw03_WordBack.f k l0 a1 = some true
theorem tabardlaw03_WordBack.walk (P : tabardlaw03_WordBack.Pure) (a0 : Option Addr) (len0 cap0 : Nat) (z0 : List Int) (a1 : Int) (w : World) (w0 : (a0 = none ∧ len0 = 0 ∧ cap0 = 0 ∧ z0 = []) ∨ ∃ x, a0 = some x ∧ len0 ≤ cap0 ∧ cap0 ≤ maxLen ∧ z0.length = cap0 ∧ (∀ i, i < z0.length → w.cell? (x.add i) = some (.int .i64 (z0.getD i 0))) ∧ ∀ n ∈ z0, (Lit.int .i64 n).wf = true) (y0 : len0 * 8 ≤ 140737488351232) (w1 : (Lit.int .i64 a1).wf = true) :
  Calls Try.prog 9 #[.slice a0 len0 cap0, .int .i64 a1] w fun e w' => e = .returned (.bool true) ∧ Below w.heap.size w w' := by
 obtain ⟨l0, rfl, hr0, hm0, hw0, hc0⟩ := ReadsInt.ofRowC w0
 obtain ⟨k, h⟩ := P l0 a1 hm0 y0 hw0 w1
 refine (tabardlaw03_WordBack.calls k _ _ l0 a1 true w (Kd.C_of_reads (d := (0 : Int)) (h1 := fun _ => rfl) hr0) hc0 h).mono ?_
 rintro e w' ⟨rfl, hd⟩
 exact ⟨rfl, hd⟩

end Go.Proofs.Ytolacbnkebbjiaa.X

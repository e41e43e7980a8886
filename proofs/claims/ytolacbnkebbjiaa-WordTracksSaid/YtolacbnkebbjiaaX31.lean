/- What the functions of this seat compute, and that the program's calls come to just that: written by this session's own program out of the translation; no condition. -/
import Derived.Test.YtolacbnkebbjiaaX0
import Derived.Test.YtolacbnkebbjiaaX2
import Derived.Test.YtolacbnkebbjiaaX15
import Derived.Test.YtolacbnkebbjiaaX18
import Derived.Test.YtolacbnkebbjiaaX19
import Derived.Test.YtolacbnkebbjiaaX26
import Derived.Test.YtolacbnkebbjiaaX27
namespace Go.Proofs.Ytolacbnkebbjiaa.X
open Go.RowKit Go.Proofs.YtolacbnkebbjiaaW.PrintWords Go.Proofs.YtolacbnkebbjiaaW.PrintLast Go.Proofs.YtolacbnkebbjiaaW.PrintMore
attribute [local go_sem] max2_int min2_int max_two min_two max_three min_three max_four min_four   -- for this text's walks alone
set_option linter.unusedVariables false
set_option linter.unusedSimpArgs false

/-! ### tabardlaw03_WordTracks: function 7 -/
mutual
def tabardlaw03_WordTracks.l0 : Nat → List Int → List Int → Int → Int → Option (Bool)
 | 0, _, _, _, _ => none
 | k + 1, x0, x5, x36, x37 => if x37 < x36 then (tabardlaw03_WordTracks.l1 k x0 x5 x37 ([] : List Int) x36 x37 x0 (x0.length : Int) 0) else ((some (([] : List Int) : List Int)).bind fun y596 => (if y596.length + x5.length < 17592186044416 then ((word_Encode.f k (y596 ++ x5) (x0.length : Int)).bind fun bt602 => (if bt602.2 = 0 then ((tabardlaw03_same.f k bt602.1 x0).bind fun t606 => (some t606)) else (some false))) else (none)))
def tabardlaw03_WordTracks.l1 : Nat → List Int → List Int → Int → List Int → Int → Int → List Int → Int → Int → Option (Bool)
 | 0, _, _, _, _, _, _, _, _, _ => none
 | k + 1, x0, x5, x7, x8, x36, x37, x40, x41, x42 => if x42 < x41 then (if 0 ≤ x42 then (if x42 < (x40.length : Int) then ((bits_Digit.f (rd x40 x42) x7).bind fun t608 => (if x8.length < 17592186044416 then (tabardlaw03_WordTracks.l1 k x0 x5 x7 (x8 ++ [t608]) x36 x37 x40 x41 (wrap64 (x42 + 1))) else (none))) else (none)) else (none)) else ((word_Number.f k x8).bind fun bt612 => (if 0 ≤ x7 then (if x7 < (x5.length : Int) then ((word_Digits.f k (rd x5 x7) (x0.length : Int)).bind fun bt615 => (if bt612.2 = 0 then (if bt612.1 = (rd x5 x7) then (if bt615.2 = 0 then ((tabardlaw03_same.f k bt615.1 x8).bind fun t620 => (if t620 = true then (tabardlaw03_WordTracks.l0 k x0 x5 x36 (wrap64 (x37 + 1))) else (some false))) else (some false)) else (some false)) else (some false))) else (none)) else (none)))
end
def tabardlaw03_WordTracks.f (k : Nat) (l0 : List Int) (a1 : Int) : Option (Bool) := (tabardlaw03_fixed.f k).bind fun t585 => (if t585 = true then ((some (([] : List Int) : List Int)).bind fun y586 => (if y586.length + l0.length < 17592186044416 then ((word_Decode.f k (y586 ++ l0) a1).bind fun bt592 => (if bt592.2 = 0 then (if (bt592.1.length : Int) = a1 then (tabardlaw03_WordTracks.l0 k l0 bt592.1 (bt592.1.length : Int) 0) else (some false)) else (some ((bt592.1.length : Int) == 0)))) else (none))) else (some false))
theorem tabardlaw03_WordTracks.mono_l : ∀ k, (∀ y0 y1 y2 y3, LeO (tabardlaw03_WordTracks.l0 k y0 y1 y2 y3) (tabardlaw03_WordTracks.l0 (k + 1) y0 y1 y2 y3)) ∧ (∀ y0 y1 y2 y3 y4 y5 y6 y7 y8, LeO (tabardlaw03_WordTracks.l1 k y0 y1 y2 y3 y4 y5 y6 y7 y8) (tabardlaw03_WordTracks.l1 (k + 1) y0 y1 y2 y3 y4 y5 y6 y7 y8))
 | 0 => ⟨fun _ _ _ _ r h => by simp [tabardlaw03_WordTracks.l0] at h, fun _ _ _ _ _ _ _ _ _ r h => by simp [tabardlaw03_WordTracks.l1] at h⟩
 | k + 1 => by
  obtain ⟨ih0, ih1⟩ := tabardlaw03_WordTracks.mono_l k
  refine ⟨?_, ?_⟩
  ·intro y0 y1 y2 y3
   unfold tabardlaw03_WordTracks.l0
   repeat' first
   | (with_reducible exact ih0 _ _ _ _)
   | (with_reducible exact ih1 _ _ _ _ _ _ _ _ _)
   | (with_reducible exact tabardlaw03_fixed.mono _)
   | (with_reducible exact tabardlaw03_same.mono _ _ _)
   | (with_reducible exact word_Decode.mono _ _ _)
   | (with_reducible exact word_Digits.mono _ _ _)
   | (with_reducible exact word_Encode.mono _ _ _)
   | (with_reducible exact word_Number.mono _ _)
   | (with_reducible exact LeO.refl _)
   | (with_reducible exact LeO.none _)
   | (with_reducible refine LeO.ite ?_ ?_)
   | (with_reducible refine LeO.bind ?_ (fun _ => ?_))
   | exact ih0 _ _ _ _
   | exact ih1 _ _ _ _ _ _ _ _ _
   | exact tabardlaw03_fixed.mono _
   | exact tabardlaw03_same.mono _ _ _
   | exact word_Decode.mono _ _ _
   | exact word_Digits.mono _ _ _
   | exact word_Encode.mono _ _ _
   | exact word_Number.mono _ _
   | exact LeO.none _
   | refine LeO.ite ?_ ?_
   | refine LeO.bind ?_ (fun _ => ?_)
  ·intro y0 y1 y2 y3 y4 y5 y6 y7 y8
   unfold tabardlaw03_WordTracks.l1
   repeat' first
   | (with_reducible exact ih0 _ _ _ _)
   | (with_reducible exact ih1 _ _ _ _ _ _ _ _ _)
   | (with_reducible exact tabardlaw03_fixed.mono _)
   | (with_reducible exact tabardlaw03_same.mono _ _ _)
   | (with_reducible exact word_Decode.mono _ _ _)
   | (with_reducible exact word_Digits.mono _ _ _)
   | (with_reducible exact word_Encode.mono _ _ _)
   | (with_reducible exact word_Number.mono _ _)
   | (with_reducible exact LeO.refl _)
   | (with_reducible exact LeO.none _)
   | (with_reducible refine LeO.ite ?_ ?_)
   | (with_reducible refine LeO.bind ?_ (fun _ => ?_))
   | exact ih0 _ _ _ _
   | exact ih1 _ _ _ _ _ _ _ _ _
   | exact tabardlaw03_fixed.mono _
   | exact tabardlaw03_same.mono _ _ _
   | exact word_Decode.mono _ _ _
   | exact word_Digits.mono _ _ _
   | exact word_Encode.mono _ _ _
   | exact word_Number.mono _ _
   | exact LeO.none _
   | refine LeO.ite ?_ ?_
   | refine LeO.bind ?_ (fun _ => ?_)
theorem tabardlaw03_WordTracks.mono : ∀ a0 a1 k, LeO (tabardlaw03_WordTracks.f k a0 a1) (tabardlaw03_WordTracks.f (k + 1) a0 a1) := by
 intro a0 a1 k
 obtain ⟨ih0, ih1⟩ := tabardlaw03_WordTracks.mono_l k
 unfold tabardlaw03_WordTracks.f
 repeat' first
   | (with_reducible exact ih0 _ _ _ _)
   | (with_reducible exact ih1 _ _ _ _ _ _ _ _ _)
   | (with_reducible exact tabardlaw03_fixed.mono _)
   | (with_reducible exact tabardlaw03_same.mono _ _ _)
   | (with_reducible exact word_Decode.mono _ _ _)
   | (with_reducible exact word_Digits.mono _ _ _)
   | (with_reducible exact word_Encode.mono _ _ _)
   | (with_reducible exact word_Number.mono _ _)
   | (with_reducible exact LeO.refl _)
   | (with_reducible exact LeO.none _)
   | (with_reducible refine LeO.ite ?_ ?_)
   | (with_reducible refine LeO.bind ?_ (fun _ => ?_))
   | exact ih0 _ _ _ _
   | exact ih1 _ _ _ _ _ _ _ _ _
   | exact tabardlaw03_fixed.mono _
   | exact tabardlaw03_same.mono _ _ _
   | exact word_Decode.mono _ _ _
   | exact word_Digits.mono _ _ _
   | exact word_Encode.mono _ _ _
   | exact word_Number.mono _ _
   | exact LeO.none _
   | refine LeO.ite ?_ ?_
   | refine LeO.bind ?_ (fun _ => ?_)
set_option maxHeartbeats 8000000 in
set_option maxRecDepth 100000 in
theorem tabardlaw03_WordTracks.calls (k : Nat) (A0 : Option Addr) (c0 : Nat) (l0 : List Int) (a1 : Int) (r : Bool) (w : World) (hr0 : Kd.C (Kd.int .i64) w A0 l0.length l0) (hc0 : l0.length ≤ c0) (h : tabardlaw03_WordTracks.f k l0 a1 = some r) :
  Calls Try.prog 7 #[.slice A0 l0.length c0, .int .i64 a1] w fun e w' => e = .returned (.bool r) ∧ Below w.heap.size w w' := by
 have HR0 := Aside0.mk hr0
 have HC0 := Aside0.mk hc0
 clear hr0 hc0
 have HB := Aside0.mk (Below.refl w.heap.size w)
 have H : ((tabardlaw03_fixed.f k).bind fun t585 => (if t585 = true then ((some (([] : List Int) : List Int)).bind fun y586 => (if y586.length + l0.length < 17592186044416 then ((word_Decode.f k (y586 ++ l0) a1).bind fun bt592 => (if bt592.2 = 0 then (if (bt592.1.length : Int) = a1 then (tabardlaw03_WordTracks.l0 k l0 bt592.1 (bt592.1.length : Int) 0) else (some false)) else (some ((bt592.1.length : Int) == 0)))) else (none))) else (some false))) = some r := h
 clear h
 replace H := Option.bind_eq_some_iff.mp H
 obtain ⟨t585, A30, H⟩ := H
 replace H : (if t585 = true then ((some (([] : List Int) : List Int)).bind fun y586 => (if y586.length + l0.length < 17592186044416 then ((word_Decode.f k (y586 ++ l0) a1).bind fun bt592 => (if bt592.2 = 0 then (if (bt592.1.length : Int) = a1 then (tabardlaw03_WordTracks.l0 k l0 bt592.1 (bt592.1.length : Int) 0) else (some false)) else (some ((bt592.1.length : Int) == 0)))) else (none))) else (some false)) = some r := H
 have A3 := Aside0.mk A30
 clear A30
 by_cases c4 : t585 = true
 ·subst c4
  have H1 : ((some (([] : List Int) : List Int)).bind fun y586 => (if y586.length + l0.length < 17592186044416 then ((word_Decode.f k (y586 ++ l0) a1).bind fun bt592 => (if bt592.2 = 0 then (if (bt592.1.length : Int) = a1 then (tabardlaw03_WordTracks.l0 k l0 bt592.1 (bt592.1.length : Int) 0) else (some false)) else (some ((bt592.1.length : Int) == 0)))) else (none))) = some r := by rw [if_pos rfl] at H; exact H
  clear H
  have H := H1
  clear H1
  obtain ⟨y586, hy586⟩ : ∃ y_ : List Int, y_ = (([] : List Int)) := ⟨_, rfl⟩
  replace H : (if y586.length + l0.length < 17592186044416 then ((word_Decode.f k (y586 ++ l0) a1).bind fun bt592 => (if bt592.2 = 0 then (if (bt592.1.length : Int) = a1 then (tabardlaw03_WordTracks.l0 k l0 bt592.1 (bt592.1.length : Int) 0) else (some false)) else (some ((bt592.1.length : Int) == 0)))) else (none)) = some r := by first | (rw [hy586]; with_reducible exact H) | (have H2_ := (Option.bind_some _ _).symm.trans H; rw [hy586]; with_reducible exact H2_) | (have H2_ := (Option.bind_some _ _).symm.trans H; with_reducible exact H2_) | with_reducible exact H | (rw [hy586]; exact H) | exact H
  have Ny586 := Aside0.mk hy586
  clear hy586
  by_cases c5 : y586.length + l0.length < 17592186044416
  ·rw [if_pos c5] at H
   have LMc5 := Aside0.mk c5
   clear c5
   obtain ⟨y589, hy589⟩ : ∃ y_ : List Int, y_ = (y586 ++ l0) := ⟨_, rfl⟩
   replace H : ((word_Decode.f k y589 a1).bind fun bt592 => (if bt592.2 = 0 then (if (bt592.1.length : Int) = a1 then (tabardlaw03_WordTracks.l0 k l0 bt592.1 (bt592.1.length : Int) 0) else (some false)) else (some ((bt592.1.length : Int) == 0)))) = some r := by first | (rw [hy589]; with_reducible exact H) | (have H2_ := (Option.bind_some _ _).symm.trans H; rw [hy589]; with_reducible exact H2_) | (have H2_ := (Option.bind_some _ _).symm.trans H; with_reducible exact H2_) | with_reducible exact H | (rw [hy589]; exact H) | exact H
   have Ny589 := Aside0.mk hy589
   clear hy589
   replace H := Option.bind_eq_some_iff.mp H
   obtain ⟨⟨t592, t593⟩, A60, H⟩ := H
   replace H : (if t593 = 0 then (if (t592.length : Int) = a1 then (tabardlaw03_WordTracks.l0 k l0 t592 (t592.length : Int) 0) else (some false)) else (some ((t592.length : Int) == 0))) = some r := H
   have A6 := Aside0.mk A60
   clear A60
   by_cases c7 : t593 = 0
   ·rw [if_pos c7] at H
    have c7b0 : (t593 == 0) = true := beq_iff_eq.mpr c7
    have c7b1 : (t593 != 0) = false := bne_eq_false_iff_eq.mpr c7
    clear c7
    by_cases c8 : (t592.length : Int) = a1
    ·rw [if_pos c8] at H
     have c8b0 : ((t592.length : Int) == a1) = true := beq_iff_eq.mpr c8
     have c8b1 : ((t592.length : Int) != a1) = false := bne_eq_false_iff_eq.mpr c8
     clear c8
     have H' := Aside0.mk H
     clear H
     go_enter Try.func7, Try.ntmps7
     go_wp2_with (first | ((with_reducible refine gate_callee (f := 15) rfl ?_); refine goesL_ (some 16) rfl rfl Try.func15 (by kernel_rfl) rfl #[] rfl mO ?_; (with_reducible refine (tabardlaw03_fixed.calls k  true _ A3.out).mono ?_); rintro e w9 ⟨rfl, hb⟩; refine ⟨_, rfl, ?_⟩; have n0_ := Aside0.mk (below_step (bO HB.out) hb); clear HB; have HB := n0_; clear n0_; (try clear hb); (try clear hb2); (try clear hk); (try clear hi)) | ((with_reducible refine gate_dst (N := 19) rfl ?_); refine Kd.R_lit (Kd.int .i64) _ 3 ?hg (N := 19) ?hd (xs := ([] : List Int)) (inner := []) (ok := fun _ => True) (okp := fun _ => True) ?hr ?hp (fun _ hk => hk) trivial (Below.refl _ _) (Nat.le_refl _) (by simp) ?_; (case hd => rfl); (case hg => rfl); (case hr => first | (go_simp; done) | (go_simp; rfl)); (case hp => exact (Reps.none _ _)); intro v587 w10 ho11 hb hg_ hnew_; clear hg_ hnew_; (first | rw [← Ny586.out] at ho11 | (simp only [Int.reduceToNat] at ho11; rw [← Ny586.out] at ho11)); have n0_ := Aside0.mk (Kd.R_lower ho11 (below_size (bO HB.out))); have n1_ := Aside0.mk (below_step (bO HB.out) hb); clear HB; have HO588 := n0_; have HB := n1_; clear n0_ n1_; clear hb ho11) | ((with_reducible refine gate_builtin (b := .append) (xs := #[.tmp 19, .tmp 20]) rfl ?_); at_builtin; refine Kd.R_append_rows (Kd.int .i64) (w0 := w) w.heap.size rfl (.tmp 19) (.tmp 20) 23 3 (.int .i64 0) 8 rfl Try.underlying23 info3 rfl (by decide) (by omega) v587 y586 l0 _ _ _ (fun _ => True) (fun _ => False) rfl rfl ?aO ?aR (fun _ _ h => h) (fun _ h => h.elim) ?aF ?aB ?aS ?aL ?_; (case aR => exact cO (Kd.C_below HR0.out HB.out)); (case aB => exact (bO HB.out)); (case aF => exact (fun _ _ => trivial)); (case aO => exact (rO HO588.out)); (case aS => exact (below_size (bO HB.out))); (case aL => have := LMc5.out; omega); intro v590 w12 ho hb hg hat; rw [← Ny589.out] at ho; have n0_ := Aside0.mk (hb); have n1_ := Aside0.mk (ho); clear HB; clear HO588; have HB := n0_; have HO591 := n1_; clear n0_ n1_; clear ho hb hg hat; obtain ⟨Ao13, co13, eo13⟩ := Kd.R_slice HO591.out; subst eo13) | ((with_reducible refine gate_callee (f := 25) rfl ?_); refine goesL_ (some 23) rfl rfl Try.func25 (by kernel_rfl) rfl #[.slice Ao13 y589.length co13, .int .i64 a1] rfl mO ?_; (with_reducible refine (word_Decode.calls k _ _ y589 a1 t592 t593 _ ?side1 ?side2 A6.out).mono ?_); (case side1 => exact cO (Kd.R_reads' HO591.out).2.2); (case side2 => exact (Kd.R_reads' HO591.out).2.1); rintro e w14 ⟨v594, rfl, ho0, hb⟩; refine ⟨_, rfl, ?_⟩; have n0_ := Aside0.mk (Kd.R_below (rO HO591.out) hb); have n1_ := Aside0.mk (Kd.R_lower ho0 (below_size (bO HB.out))); have n2_ := Aside0.mk (below_step (bO HB.out) hb); clear HO591; clear HB; have HO591 := n0_; have HO595 := n1_; have HB := n2_; clear n0_ n1_ n2_; (try clear hb); (try clear hb2); (try clear hk); (try clear hi); (try clear ho0); obtain ⟨Ao15, co15, eo15⟩ := Kd.R_slice HO595.out; subst eo15))
     go_loopg [37] k (fun kq v37 w' => ∃ (x37_1 : Int), v37 = .int .i64 x37_1 ∧ Aside0 (tabardlaw03_WordTracks.l0 kq l0 t592 (t592.length : Int) x37_1 = some r) ∧ Aside0 (kq ≤ k) ∧ Aside0 (Kd.R (Kd.int .i64) 2 w' w.heap.size (fun _ => True) (.slice Ao15 t592.length co15) t592) ∧ Aside0 (Below w.heap.size w w'))
     case atStart => exact ⟨(0), (by first | rfl | (simp; done) | (simp [*]; done)), H', ⟨Nat.le_refl _⟩, ⟨rO HO595.out⟩, ⟨bO HB.out⟩⟩
     case round =>
      clear H'
      try clear c1
      try clear c2
      try clear p2
      try clear c4
      try clear c5
      try clear c7
      try clear c7b0
      try clear c7b1
      try clear c8
      try clear c8b0
      try clear c8b1
      try clear c15
      obtain ⟨x37_1, rfl, HA, HK1, HO_5, HB⟩ := hrel
      cases gk with
      | zero => exact absurd HA.out (by simp [tabardlaw03_WordTracks.l0])
      | succ k1 =>
       have H := HA.out
       clear HA
       simp only [tabardlaw03_WordTracks.l0] at H
       by_cases c16 : x37_1 < (t592.length : Int)
       ·rw [if_pos c16] at H
        have c16b0 : decide (x37_1 < (t592.length : Int)) = true := decide_eq_true c16
        clear c16
        have H' := Aside0.mk H
        clear H
        go_wp2
        go_loopg [8, 42] k1 (fun kq v8 v42 w' => ∃ (x8_2 : List Int) (x42_2 : Int), v42 = .int .i64 x42_2 ∧ Aside0 (tabardlaw03_WordTracks.l1 kq l0 t592 x37_1 x8_2 (t592.length : Int) x37_1 l0 (l0.length : Int) x42_2 = some r) ∧ Aside0 (kq ≤ k1) ∧ Aside0 (Kd.R (Kd.int .i64) 2 w' w.heap.size (fun _ => True) (.slice Ao15 t592.length co15) t592) ∧ Aside0 (Kd.R (Kd.int .i64) 3 w' w.heap.size (fun _ => True) v8 x8_2) ∧ Aside0 (Below w.heap.size w w'))
        case atStart => exact ⟨(([] : List Int)), (0), (by first | rfl | (simp; done) | (simp [*]; done)), H', ⟨Nat.le_refl _⟩, ⟨rO HO_5.out⟩, ⟨by first | exact Kd.R_nil _ _ _ _ _ | exact Kd.N_nil _ _ _ _ _ | exact Kd.V_nil _ _ _ _ _ | exact Kd.Q_nil _ _ _ _ _ | exact Kd.S_nil _ _ _ _ _⟩, ⟨bO HB.out⟩⟩
        case round =>
         clear H'
         try clear c1
         try clear c2
         try clear p2
         try clear c4
         try clear c5
         try clear c7
         try clear c7b0
         try clear c7b1
         try clear c8
         try clear c8b0
         try clear c8b1
         try clear c15
         try clear c16
         try clear c16b0
         try clear p2
         obtain ⟨x8_2, x42_2, rfl, HA, HK2, HO_5, HO_8, HB⟩ := hrel
         cases gk with
         | zero => exact absurd HA.out (by simp [tabardlaw03_WordTracks.l1])
         | succ k2 =>
          have H := HA.out
          clear HA
          simp only [tabardlaw03_WordTracks.l1] at H
          by_cases c17 : x42_2 < (l0.length : Int)
          ·rw [if_pos c17] at H
           have c17b0 : decide (x42_2 < (l0.length : Int)) = true := decide_eq_true c17
           clear c17
           by_cases c18 : 0 ≤ x42_2
           ·rw [if_pos c18] at H
            have c18b0 : decide (0 ≤ x42_2) = true := decide_eq_true c18
            clear c18
            by_cases c19 : x42_2 < (l0.length : Int)
            ·rw [if_pos c19] at H
             have c19b0 : decide (x42_2 < (l0.length : Int)) = true := decide_eq_true c19
             clear c19
             replace H := Option.bind_eq_some_iff.mp H
             obtain ⟨t608, A200, H⟩ := H
             replace H : (if x8_2.length < 17592186044416 then (tabardlaw03_WordTracks.l1 k2 l0 t592 x37_1 (x8_2 ++ [t608]) (t592.length : Int) x37_1 l0 (l0.length : Int) (wrap64 (x42_2 + 1))) else (none)) = some r := H
             have A20 := Aside0.mk A200
             clear A200
             by_cases c21 : x8_2.length < 17592186044416
             ·rw [if_pos c21] at H
              have LMc21 := Aside0.mk c21
              clear c21
              obtain ⟨y609, hy609⟩ : ∃ y_ : List Int, y_ = (x8_2 ++ [t608]) := ⟨_, rfl⟩
              replace H : (tabardlaw03_WordTracks.l1 k2 l0 t592 x37_1 y609 (t592.length : Int) x37_1 l0 (l0.length : Int) (wrap64 (x42_2 + 1))) = some r := by first | (rw [hy609]; with_reducible exact H) | (have H2_ := (Option.bind_some _ _).symm.trans H; rw [hy609]; with_reducible exact H2_) | (have H2_ := (Option.bind_some _ _).symm.trans H; with_reducible exact H2_) | with_reducible exact H | (rw [hy609]; exact H) | exact H
              have Ny609 := Aside0.mk hy609
              clear hy609
              have H' := Aside0.mk H
              clear H
              have p607 : 0 ≤ (x42_2 : Int) := of_decide_eq_true aO
              have q607 : x42_2 < (l0.length : Int) := of_decide_eq_true aO
              obtain ⟨ad607, e607, hx607_0⟩ := Kd.at_int HR0.out x42_2 p607 q607
              cases e607
              replace hx607_0 := (HB.out.cell (World.block_lt_of_cell? w _ hx607_0)).trans hx607_0
              replace p607 := eq_true p607
              replace q607 := eq_true q607
              go_wp2_with (first | ((with_reducible refine gate_callee (f := 27) rfl ?_); refine goesL_ (some 49) rfl rfl Try.func27 (by kernel_rfl) rfl #[.int .i64 (rd l0 x42_2), .int .i64 x37_1] rfl mO ?_; (with_reducible refine (bits_Digit.calls (rd l0 x42_2) x37_1 t608 _ A20.out).mono ?_); rintro e w' ⟨rfl, ⟨nd, rfl⟩⟩; refine ⟨_, rfl, ?_⟩) | ((with_reducible refine gate_builtin (b := .append) (xs := #[.tmp 46, .tmp 50]) rfl ?_); at_builtin; refine Kd.R_append (Kd.int .i64) (w0 := w) w.heap.size rfl (.tmp 46) (.tmp 50) 23 3 (.int .i64 0) 8 rfl Try.underlying23 info3 rfl (by decide) (by omega) u8 x8_2 t608 [.int .i64 t608] (fun _ => True) (fun _ => False) rfl rfl ?aP (fun _ hk => hk.elim) ?aF ?aO ?aB ?aS ?aL ?_; (case aP => exact rfl); (case aB => exact (bO HB.out)); (case aF => exact (fun _ _ => trivial)); (case aO => exact (rO HO_8.out)); (case aS => exact (below_size (bO HB.out))); (case aL => have := LMc21.out; omega); intro v610 w22 ho hb hg hat; rw [← Ny609.out] at ho; have n0_ := Aside0.mk (Kd.R_over' (rO HO_5.out) (Kd.R_typed (rO HO_8.out)) (by decide) hg); have n1_ := Aside0.mk (hb); have n2_ := Aside0.mk (ho); clear HO_5; clear HB; clear HO_8; have HO_5 := n0_; have HB := n1_; have HO611 := n2_; clear n0_ n1_ n2_; clear ho hb hg hat))
              go_roundg k2
              case measure => have := HK1.out; have := HK2.out; omega
              case rel => exact ⟨(y609), (wrap64 (x42_2 + 1)), (by first | rfl | (simp; done) | (simp [*]; done)), H', ⟨by have := HK1.out; have := HK2.out; omega⟩, ⟨rO HO_5.out⟩, ⟨rO HO611.out⟩, ⟨bO HB.out⟩⟩
             ·rw [if_neg c21] at H
              exact absurd H (by simp)
            ·rw [if_neg c19] at H
             exact absurd H (by simp)
           ·rw [if_neg c18] at H
            exact absurd H (by simp)
          ·rw [if_neg c17] at H
           have c17b0 : decide (x42_2 < (l0.length : Int)) = false := decide_eq_false c17
           clear c17
           replace H := Option.bind_eq_some_iff.mp H
           obtain ⟨⟨t612, t613⟩, A230, H⟩ := H
           replace H : (if 0 ≤ x37_1 then (if x37_1 < (t592.length : Int) then ((word_Digits.f k2 (rd t592 x37_1) (l0.length : Int)).bind fun bt615 => (if t613 = 0 then (if t612 = (rd t592 x37_1) then (if bt615.2 = 0 then ((tabardlaw03_same.f k2 bt615.1 x8_2).bind fun t620 => (if t620 = true then (tabardlaw03_WordTracks.l0 k2 l0 t592 (t592.length : Int) (wrap64 (x37_1 + 1))) else (some false))) else (some false)) else (some false)) else (some false))) else (none)) else (none)) = some r := H
           have A23 := Aside0.mk A230
           clear A230
           by_cases c24 : 0 ≤ x37_1
           ·rw [if_pos c24] at H
            have c24b0 : decide (0 ≤ x37_1) = true := decide_eq_true c24
            clear c24
            by_cases c25 : x37_1 < (t592.length : Int)
            ·rw [if_pos c25] at H
             have c25b0 : decide (x37_1 < (t592.length : Int)) = true := decide_eq_true c25
             clear c25
             replace H := Option.bind_eq_some_iff.mp H
             obtain ⟨⟨t615, t616⟩, A260, H⟩ := H
             replace H : (if t613 = 0 then (if t612 = (rd t592 x37_1) then (if t616 = 0 then ((tabardlaw03_same.f k2 t615 x8_2).bind fun t620 => (if t620 = true then (tabardlaw03_WordTracks.l0 k2 l0 t592 (t592.length : Int) (wrap64 (x37_1 + 1))) else (some false))) else (some false)) else (some false)) else (some false)) = some r := H
             have A26 := Aside0.mk A260
             clear A260
             by_cases c27 : t613 = 0
             ·rw [if_pos c27] at H
              have c27b0 : (t613 == 0) = true := beq_iff_eq.mpr c27
              have c27b1 : (t613 != 0) = false := bne_eq_false_iff_eq.mpr c27
              clear c27
              by_cases c28 : t612 = (rd t592 x37_1)
              ·rw [if_pos c28] at H
               have c28b0 : (t612 == (rd t592 x37_1)) = true := beq_iff_eq.mpr c28
               have c28b1 : (t612 != (rd t592 x37_1)) = false := bne_eq_false_iff_eq.mpr c28
               clear c28
               by_cases c29 : t616 = 0
               ·rw [if_pos c29] at H
                have c29b0 : (t616 == 0) = true := beq_iff_eq.mpr c29
                have c29b1 : (t616 != 0) = false := bne_eq_false_iff_eq.mpr c29
                clear c29
                replace H := Option.bind_eq_some_iff.mp H
                obtain ⟨t620, A300, H⟩ := H
                replace H : (if t620 = true then (tabardlaw03_WordTracks.l0 k2 l0 t592 (t592.length : Int) (wrap64 (x37_1 + 1))) else (some false)) = some r := H
                have A30 := Aside0.mk A300
                clear A300
                by_cases c31 : t620 = true
                ·subst c31
                 have H1 : (tabardlaw03_WordTracks.l0 k2 l0 t592 (t592.length : Int) (wrap64 (x37_1 + 1))) = some r := by rw [if_pos rfl] at H; exact H
                 clear H
                 have H := H1
                 clear H1
                 have H' := Aside0.mk H
                 clear H
                 obtain ⟨Ao32, co32, eo32⟩ := Kd.R_slice HO_8.out
                 subst eo32
                 go_wp2_with (first | ((with_reducible refine gate_callee (f := 19) rfl ?_); refine goesL_ (some 55) rfl rfl Try.func19 (by kernel_rfl) rfl #[.slice Ao32 x8_2.length co32] rfl mO ?_; (with_reducible refine (word_Number.calls k2 _ _ x8_2 t612 t613 _ ?side1 ?side2 A23.out).mono ?_); (case side1 => exact cO (Kd.R_reads' HO_8.out).2.2); (case side2 => exact (Kd.R_reads' HO_8.out).2.1); rintro e w' ⟨rfl, ⟨nd, rfl⟩⟩; refine ⟨_, rfl, ?_⟩; have p614 : 0 ≤ (x37_1 : Int) := of_decide_eq_true aO; have q614 : x37_1 < (t592.length : Int) := of_decide_eq_true aO; obtain ⟨ad614, e614, hx614_0⟩ := Kd.at_int (Kd.R_reads' HO_5.out).2.2 x37_1 p614 q614; cases e614; replace p614 := eq_true p614; replace q614 := eq_true q614) | ((with_reducible refine gate_callee (f := 18) rfl ?_); refine goesL_ (some 65) rfl rfl Try.func18 (by kernel_rfl) rfl #[.int .i64 (rd t592 x37_1), .int .i64 (l0.length : Int)] rfl mO ?_; (with_reducible refine (word_Digits.calls k2 (rd t592 x37_1) (l0.length : Int) t615 t616 _ A26.out).mono ?_); rintro e w33 ⟨v617, rfl, ho0, hb⟩; refine ⟨_, rfl, ?_⟩; have n0_ := Aside0.mk (Kd.R_below (rO HO_5.out) hb); have n1_ := Aside0.mk (Kd.R_elder' (rO HO_8.out) (Kd.R_base ho0) hb); have n2_ := Aside0.mk (Kd.R_lower (Kd.R_new' ho0 (Kd.R_lt (rO HO_8.out))) (below_size (bO HB.out))); have n3_ := Aside0.mk (below_step (bO HB.out) hb); clear HO_5; clear HO_8; clear HB; have HO_5 := n0_; have HO_8 := n1_; have HO618 := n2_; have HB := n3_; clear n0_ n1_ n2_ n3_; (try clear hb); (try clear hb2); (try clear hk); (try clear hi); (try clear ho0); have p619 : 0 ≤ (x37_1 : Int) := of_decide_eq_true aO; have q619 : x37_1 < (t592.length : Int) := of_decide_eq_true aO; obtain ⟨ad619, e619, hx619_0⟩ := Kd.at_int (Kd.R_reads' HO_5.out).2.2 x37_1 p619 q619; obtain rfl : ad614 = ad619 := (by injection e619); replace p619 := eq_true p619; replace q619 := eq_true q619; obtain ⟨Ao34, co34, eo34⟩ := Kd.R_slice HO618.out; subst eo34) | (go_at_call 16; (with_reducible refine (tabardlaw03_same.calls k2 _ _ t615 _ _ x8_2 true _ ?side1 ?side2 ?side3 ?side4 A30.out).mono ?_); (case side1 => exact cO (Kd.R_reads' HO618.out).2.2); (case side2 => exact (Kd.R_reads' HO618.out).2.1); (case side3 => exact cO (Kd.R_reads' HO_8.out).2.2); (case side4 => exact (Kd.R_reads' HO_8.out).2.1); rintro e w' ⟨rfl, ⟨nd, rfl⟩⟩))
                 go_roundg k2
                 case measure => have := HK1.out; have := HK2.out; omega
                 case rel => exact ⟨(wrap64 (x37_1 + 1)), (by first | rfl | (simp; done) | (simp [*]; done)), H', ⟨by have := HK1.out; have := HK2.out; omega⟩, ⟨rO HO_5.out⟩, ⟨bO HB.out⟩⟩
                ·replace c31 := Bool.eq_false_iff.mpr c31
                 subst c31
                 have H1 : (some false) = some r := by rw [if_neg (show ¬ (false = true) by decide)] at H; exact H
                 clear H
                 have H := H1
                 clear H1
                 obtain rfl := Option.some.inj H
                 obtain ⟨Ao35, co35, eo35⟩ := Kd.R_slice HO_8.out
                 subst eo35
                 go_wp2_with (first | ((with_reducible refine gate_callee (f := 19) rfl ?_); refine goesL_ (some 55) rfl rfl Try.func19 (by kernel_rfl) rfl #[.slice Ao35 x8_2.length co35] rfl mO ?_; (with_reducible refine (word_Number.calls k2 _ _ x8_2 t612 t613 _ ?side1 ?side2 A23.out).mono ?_); (case side1 => exact cO (Kd.R_reads' HO_8.out).2.2); (case side2 => exact (Kd.R_reads' HO_8.out).2.1); rintro e w' ⟨rfl, ⟨nd, rfl⟩⟩; refine ⟨_, rfl, ?_⟩; have p614 : 0 ≤ (x37_1 : Int) := of_decide_eq_true aO; have q614 : x37_1 < (t592.length : Int) := of_decide_eq_true aO; obtain ⟨ad614, e614, hx614_0⟩ := Kd.at_int (Kd.R_reads' HO_5.out).2.2 x37_1 p614 q614; cases e614; replace p614 := eq_true p614; replace q614 := eq_true q614) | ((with_reducible refine gate_callee (f := 18) rfl ?_); refine goesL_ (some 65) rfl rfl Try.func18 (by kernel_rfl) rfl #[.int .i64 (rd t592 x37_1), .int .i64 (l0.length : Int)] rfl mO ?_; (with_reducible refine (word_Digits.calls k2 (rd t592 x37_1) (l0.length : Int) t615 t616 _ A26.out).mono ?_); rintro e w36 ⟨v617, rfl, ho0, hb⟩; refine ⟨_, rfl, ?_⟩; have n0_ := Aside0.mk (Kd.R_below (rO HO_5.out) hb); have n1_ := Aside0.mk (Kd.R_elder' (rO HO_8.out) (Kd.R_base ho0) hb); have n2_ := Aside0.mk (Kd.R_lower (Kd.R_new' ho0 (Kd.R_lt (rO HO_8.out))) (below_size (bO HB.out))); have n3_ := Aside0.mk (below_step (bO HB.out) hb); clear HO_5; clear HO_8; clear HB; have HO_5 := n0_; have HO_8 := n1_; have HO618 := n2_; have HB := n3_; clear n0_ n1_ n2_ n3_; (try clear hb); (try clear hb2); (try clear hk); (try clear hi); (try clear ho0); have p619 : 0 ≤ (x37_1 : Int) := of_decide_eq_true aO; have q619 : x37_1 < (t592.length : Int) := of_decide_eq_true aO; obtain ⟨ad619, e619, hx619_0⟩ := Kd.at_int (Kd.R_reads' HO_5.out).2.2 x37_1 p619 q619; obtain rfl : ad614 = ad619 := (by injection e619); replace p619 := eq_true p619; replace q619 := eq_true q619; obtain ⟨Ao37, co37, eo37⟩ := Kd.R_slice HO618.out; subst eo37) | (go_at_call 16; (with_reducible refine (tabardlaw03_same.calls k2 _ _ t615 _ _ x8_2 false _ ?side1 ?side2 ?side3 ?side4 A30.out).mono ?_); (case side1 => exact cO (Kd.R_reads' HO618.out).2.2); (case side2 => exact (Kd.R_reads' HO618.out).2.1); (case side3 => exact cO (Kd.R_reads' HO_8.out).2.2); (case side4 => exact (Kd.R_reads' HO_8.out).2.1); rintro e w' ⟨rfl, ⟨nd, rfl⟩⟩))
                 go_ret
                 exact ⟨by first | rfl | (simp [errW_none, errW_some] <;> rfl) | (simp [*, errW_none, errW_some] <;> rfl), bO HB.out⟩
               ·rw [if_neg c29] at H
                have c29b0 : (t616 == 0) = false := beq_eq_false_iff_ne.mpr c29
                have c29b1 : (t616 != 0) = true := bne_iff_ne.mpr c29
                obtain rfl := Option.some.inj H
                obtain ⟨Ao38, co38, eo38⟩ := Kd.R_slice HO_8.out
                subst eo38
                go_wp2_with (first | ((with_reducible refine gate_callee (f := 19) rfl ?_); refine goesL_ (some 55) rfl rfl Try.func19 (by kernel_rfl) rfl #[.slice Ao38 x8_2.length co38] rfl mO ?_; (with_reducible refine (word_Number.calls k2 _ _ x8_2 t612 t613 _ ?side1 ?side2 A23.out).mono ?_); (case side1 => exact cO (Kd.R_reads' HO_8.out).2.2); (case side2 => exact (Kd.R_reads' HO_8.out).2.1); rintro e w' ⟨rfl, ⟨nd, rfl⟩⟩; refine ⟨_, rfl, ?_⟩; have p614 : 0 ≤ (x37_1 : Int) := of_decide_eq_true aO; have q614 : x37_1 < (t592.length : Int) := of_decide_eq_true aO; obtain ⟨ad614, e614, hx614_0⟩ := Kd.at_int (Kd.R_reads' HO_5.out).2.2 x37_1 p614 q614; cases e614; replace p614 := eq_true p614; replace q614 := eq_true q614) | ((with_reducible refine gate_callee (f := 18) rfl ?_); refine goesL_ (some 65) rfl rfl Try.func18 (by kernel_rfl) rfl #[.int .i64 (rd t592 x37_1), .int .i64 (l0.length : Int)] rfl mO ?_; (with_reducible refine (word_Digits.calls k2 (rd t592 x37_1) (l0.length : Int) t615 t616 _ A26.out).mono ?_); rintro e w39 ⟨v617, rfl, ho0, hb⟩; refine ⟨_, rfl, ?_⟩; have n0_ := Aside0.mk (Kd.R_below (rO HO_5.out) hb); have n1_ := Aside0.mk (Kd.R_elder' (rO HO_8.out) (Kd.R_base ho0) hb); have n2_ := Aside0.mk (Kd.R_lower (Kd.R_new' ho0 (Kd.R_lt (rO HO_8.out))) (below_size (bO HB.out))); have n3_ := Aside0.mk (below_step (bO HB.out) hb); clear HO_5; clear HO_8; clear HB; have HO_5 := n0_; have HO_8 := n1_; have HO618 := n2_; have HB := n3_; clear n0_ n1_ n2_ n3_; (try clear hb); (try clear hb2); (try clear hk); (try clear hi); (try clear ho0); have p619 : 0 ≤ (x37_1 : Int) := of_decide_eq_true aO; have q619 : x37_1 < (t592.length : Int) := of_decide_eq_true aO; obtain ⟨ad619, e619, hx619_0⟩ := Kd.at_int (Kd.R_reads' HO_5.out).2.2 x37_1 p619 q619; obtain rfl : ad614 = ad619 := (by injection e619); replace p619 := eq_true p619; replace q619 := eq_true q619))
                go_ret
                exact ⟨by first | rfl | (simp [errW_none, errW_some] <;> rfl) | (simp [*, errW_none, errW_some] <;> rfl), bO HB.out⟩
              ·rw [if_neg c28] at H
               have c28b0 : (t612 == (rd t592 x37_1)) = false := beq_eq_false_iff_ne.mpr c28
               have c28b1 : (t612 != (rd t592 x37_1)) = true := bne_iff_ne.mpr c28
               obtain rfl := Option.some.inj H
               obtain ⟨Ao40, co40, eo40⟩ := Kd.R_slice HO_8.out
               subst eo40
               go_wp2_with (first | ((with_reducible refine gate_callee (f := 19) rfl ?_); refine goesL_ (some 55) rfl rfl Try.func19 (by kernel_rfl) rfl #[.slice Ao40 x8_2.length co40] rfl mO ?_; (with_reducible refine (word_Number.calls k2 _ _ x8_2 t612 t613 _ ?side1 ?side2 A23.out).mono ?_); (case side1 => exact cO (Kd.R_reads' HO_8.out).2.2); (case side2 => exact (Kd.R_reads' HO_8.out).2.1); rintro e w' ⟨rfl, ⟨nd, rfl⟩⟩; refine ⟨_, rfl, ?_⟩; have p614 : 0 ≤ (x37_1 : Int) := of_decide_eq_true aO; have q614 : x37_1 < (t592.length : Int) := of_decide_eq_true aO; obtain ⟨ad614, e614, hx614_0⟩ := Kd.at_int (Kd.R_reads' HO_5.out).2.2 x37_1 p614 q614; cases e614; replace p614 := eq_true p614; replace q614 := eq_true q614) | ((with_reducible refine gate_callee (f := 18) rfl ?_); refine goesL_ (some 65) rfl rfl Try.func18 (by kernel_rfl) rfl #[.int .i64 (rd t592 x37_1), .int .i64 (l0.length : Int)] rfl mO ?_; (with_reducible refine (word_Digits.calls k2 (rd t592 x37_1) (l0.length : Int) t615 t616 _ A26.out).mono ?_); rintro e w41 ⟨v617, rfl, ho0, hb⟩; refine ⟨_, rfl, ?_⟩; have n0_ := Aside0.mk (Kd.R_below (rO HO_5.out) hb); have n1_ := Aside0.mk (Kd.R_elder' (rO HO_8.out) (Kd.R_base ho0) hb); have n2_ := Aside0.mk (Kd.R_lower (Kd.R_new' ho0 (Kd.R_lt (rO HO_8.out))) (below_size (bO HB.out))); have n3_ := Aside0.mk (below_step (bO HB.out) hb); clear HO_5; clear HO_8; clear HB; have HO_5 := n0_; have HO_8 := n1_; have HO618 := n2_; have HB := n3_; clear n0_ n1_ n2_ n3_; (try clear hb); (try clear hb2); (try clear hk); (try clear hi); (try clear ho0); have p619 : 0 ≤ (x37_1 : Int) := of_decide_eq_true aO; have q619 : x37_1 < (t592.length : Int) := of_decide_eq_true aO; obtain ⟨ad619, e619, hx619_0⟩ := Kd.at_int (Kd.R_reads' HO_5.out).2.2 x37_1 p619 q619; obtain rfl : ad614 = ad619 := (by injection e619); replace p619 := eq_true p619; replace q619 := eq_true q619))
               go_ret
               exact ⟨by first | rfl | (simp [errW_none, errW_some] <;> rfl) | (simp [*, errW_none, errW_some] <;> rfl), bO HB.out⟩
             ·rw [if_neg c27] at H
              have c27b0 : (t613 == 0) = false := beq_eq_false_iff_ne.mpr c27
              have c27b1 : (t613 != 0) = true := bne_iff_ne.mpr c27
              obtain rfl := Option.some.inj H
              obtain ⟨Ao42, co42, eo42⟩ := Kd.R_slice HO_8.out
              subst eo42
              go_wp2_with (first | ((with_reducible refine gate_callee (f := 19) rfl ?_); refine goesL_ (some 55) rfl rfl Try.func19 (by kernel_rfl) rfl #[.slice Ao42 x8_2.length co42] rfl mO ?_; (with_reducible refine (word_Number.calls k2 _ _ x8_2 t612 t613 _ ?side1 ?side2 A23.out).mono ?_); (case side1 => exact cO (Kd.R_reads' HO_8.out).2.2); (case side2 => exact (Kd.R_reads' HO_8.out).2.1); rintro e w' ⟨rfl, ⟨nd, rfl⟩⟩; refine ⟨_, rfl, ?_⟩; have p614 : 0 ≤ (x37_1 : Int) := of_decide_eq_true aO; have q614 : x37_1 < (t592.length : Int) := of_decide_eq_true aO; obtain ⟨ad614, e614, hx614_0⟩ := Kd.at_int (Kd.R_reads' HO_5.out).2.2 x37_1 p614 q614; cases e614; replace p614 := eq_true p614; replace q614 := eq_true q614) | ((with_reducible refine gate_callee (f := 18) rfl ?_); refine goesL_ (some 65) rfl rfl Try.func18 (by kernel_rfl) rfl #[.int .i64 (rd t592 x37_1), .int .i64 (l0.length : Int)] rfl mO ?_; (with_reducible refine (word_Digits.calls k2 (rd t592 x37_1) (l0.length : Int) t615 t616 _ A26.out).mono ?_); rintro e w43 ⟨v617, rfl, ho0, hb⟩; refine ⟨_, rfl, ?_⟩; have n0_ := Aside0.mk (Kd.R_below (rO HO_5.out) hb); have n1_ := Aside0.mk (Kd.R_elder' (rO HO_8.out) (Kd.R_base ho0) hb); have n2_ := Aside0.mk (Kd.R_lower (Kd.R_new' ho0 (Kd.R_lt (rO HO_8.out))) (below_size (bO HB.out))); have n3_ := Aside0.mk (below_step (bO HB.out) hb); clear HO_5; clear HO_8; clear HB; have HO_5 := n0_; have HO_8 := n1_; have HO618 := n2_; have HB := n3_; clear n0_ n1_ n2_ n3_; (try clear hb); (try clear hb2); (try clear hk); (try clear hi); (try clear ho0)))
              go_ret
              exact ⟨by first | rfl | (simp [errW_none, errW_some] <;> rfl) | (simp [*, errW_none, errW_some] <;> rfl), bO HB.out⟩
            ·rw [if_neg c25] at H
             exact absurd H (by simp)
           ·rw [if_neg c24] at H
            exact absurd H (by simp)
       ·rw [if_neg c16] at H
        have c16b0 : decide (x37_1 < (t592.length : Int)) = false := decide_eq_false c16
        clear c16
        obtain ⟨y596, hy596⟩ : ∃ y_ : List Int, y_ = (([] : List Int)) := ⟨_, rfl⟩
        replace H : (if y596.length + t592.length < 17592186044416 then ((word_Encode.f k1 (y596 ++ t592) (l0.length : Int)).bind fun bt602 => (if bt602.2 = 0 then ((tabardlaw03_same.f k1 bt602.1 l0).bind fun t606 => (some t606)) else (some false))) else (none)) = some r := by first | (rw [hy596]; with_reducible exact H) | (have H2_ := (Option.bind_some _ _).symm.trans H; rw [hy596]; with_reducible exact H2_) | (have H2_ := (Option.bind_some _ _).symm.trans H; with_reducible exact H2_) | with_reducible exact H | (rw [hy596]; exact H) | exact H
        have Ny596 := Aside0.mk hy596
        clear hy596
        by_cases c44 : y596.length + t592.length < 17592186044416
        ·rw [if_pos c44] at H
         have LMc44 := Aside0.mk c44
         clear c44
         obtain ⟨y599, hy599⟩ : ∃ y_ : List Int, y_ = (y596 ++ t592) := ⟨_, rfl⟩
         replace H : ((word_Encode.f k1 y599 (l0.length : Int)).bind fun bt602 => (if bt602.2 = 0 then ((tabardlaw03_same.f k1 bt602.1 l0).bind fun t606 => (some t606)) else (some false))) = some r := by first | (rw [hy599]; with_reducible exact H) | (have H2_ := (Option.bind_some _ _).symm.trans H; rw [hy599]; with_reducible exact H2_) | (have H2_ := (Option.bind_some _ _).symm.trans H; with_reducible exact H2_) | with_reducible exact H | (rw [hy599]; exact H) | exact H
         have Ny599 := Aside0.mk hy599
         clear hy599
         replace H := Option.bind_eq_some_iff.mp H
         obtain ⟨⟨t602, t603⟩, A450, H⟩ := H
         replace H : (if t603 = 0 then ((tabardlaw03_same.f k1 t602 l0).bind fun t606 => (some t606)) else (some false)) = some r := H
         have A45 := Aside0.mk A450
         clear A450
         by_cases c46 : t603 = 0
         ·rw [if_pos c46] at H
          have c46b0 : (t603 == 0) = true := beq_iff_eq.mpr c46
          have c46b1 : (t603 != 0) = false := bne_eq_false_iff_eq.mpr c46
          clear c46
          replace H := Option.bind_eq_some_iff.mp H
          obtain ⟨t606, A470, H⟩ := H
          replace H : (some t606) = some r := H
          have A47 := Aside0.mk A470
          clear A470
          obtain rfl := Option.some.inj H
          go_wp2_with (first | ((with_reducible refine gate_dst (N := 90) rfl ?_); refine Kd.R_lit (Kd.int .i64) _ 2 ?hg (N := 90) ?hd (xs := ([] : List Int)) (inner := []) (ok := fun _ => True) (okp := fun _ => True) ?hr ?hp (fun _ hk => hk) trivial (Below.refl _ _) (Nat.le_refl _) (by simp) ?_; (case hd => rfl); (case hg => rfl); (case hr => first | (go_simp; done) | (go_simp; rfl)); (case hp => exact (Reps.none _ _)); intro v597 w48 ho49 hb hg_ hnew_; clear hg_ hnew_; (first | rw [← Ny596.out] at ho49 | (simp only [Int.reduceToNat] at ho49; rw [← Ny596.out] at ho49)); have n0_ := Aside0.mk (Kd.R_elder' (rO HO_5.out) (Kd.R_base ho49) hb); have n1_ := Aside0.mk (Kd.R_lower (Kd.R_new' ho49 (Kd.R_lt (rO HO_5.out))) (below_size (bO HB.out))); have n2_ := Aside0.mk (below_step (bO HB.out) hb); clear HO_5; clear HB; have HO_5 := n0_; have HO598 := n1_; have HB := n2_; clear n0_ n1_ n2_; clear hb ho49) | ((with_reducible refine gate_builtin (b := .append) (xs := #[.tmp 90, .tmp 91]) rfl ?_); at_builtin; refine Kd.R_append_rows (Kd.int .i64) (w0 := w) w.heap.size rfl (.tmp 90) (.tmp 91) 22 2 (.int .i64 0) 8 rfl Try.underlying22 info2 rfl (by decide) (by omega) v597 y596 t592 _ _ _ (fun k_ => some k_ ≠ (.slice Ao15 t592.length co15 : Value).ownBlock) (fun _ => False) rfl rfl ?aO ?aR (fun _ _ h => h) (fun _ h => h.elim) ?aF ?aB ?aS ?aL ?_; (case aR => exact cO (Kd.R_reads' HO_5.out).2.2); (case aB => exact (bO HB.out)); (case aF => exact (fun k_ hk => Kd.fresh' (Kd.R_lt (rO HO_5.out)) k_ hk)); (case aO => exact (by (with_reducible repeat (first | apply Kd.R_alloc | apply Kd.R_drewN | apply Kd.R_drew)); exact Kd.R_mono HO598.out (fun _ hk => hk.2))); (case aS => exact (below_size (bO HB.out))); (case aL => have := LMc44.out; omega); intro v600 w50 ho hb hg hat; rw [← Ny599.out] at ho; have n0_ := Aside0.mk (Kd.R_after (ok := (fun _ => True)) (rO HO_5.out) hg hat); have n1_ := Aside0.mk (hb); have n2_ := Aside0.mk (ho); clear HO_5; clear HB; clear HO598; have HO_5 := n0_; have HB := n1_; have HO601 := n2_; clear n0_ n1_ n2_; clear ho hb hg hat; obtain ⟨Ao51, co51, eo51⟩ := Kd.R_slice HO601.out; subst eo51) | ((with_reducible refine gate_callee (f := 10) rfl ?_); refine goesL_ (some 95) rfl rfl Try.func10 (by kernel_rfl) rfl #[.slice Ao51 y599.length co51, .int .i64 (l0.length : Int)] rfl mO ?_; (with_reducible refine (word_Encode.calls k1 _ _ y599 (l0.length : Int) t602 t603 _ ?side1 ?side2 A45.out).mono ?_); (case side1 => exact cO (Kd.R_reads' HO601.out).2.2); (case side2 => exact (Kd.R_reads' HO601.out).2.1); rintro e w52 ⟨v604, rfl, ho0, hb⟩; refine ⟨_, rfl, ?_⟩; have n0_ := Aside0.mk (Kd.R_below (rO HO_5.out) hb); have n1_ := Aside0.mk (Kd.R_below (rO HO601.out) hb); have n2_ := Aside0.mk (Kd.R_lower ho0 (below_size (bO HB.out))); have n3_ := Aside0.mk (below_step (bO HB.out) hb); clear HO_5; clear HO601; clear HB; have HO_5 := n0_; have HO601 := n1_; have HO605 := n2_; have HB := n3_; clear n0_ n1_ n2_ n3_; (try clear hb); (try clear hb2); (try clear hk); (try clear hi); (try clear ho0); obtain ⟨Ao53, co53, eo53⟩ := Kd.R_slice HO605.out; subst eo53) | (go_at_call 16; (with_reducible refine (tabardlaw03_same.calls k1 _ _ t602 _ _ l0 t606 _ ?side1 ?side2 ?side3 ?side4 A47.out).mono ?_); (case side1 => exact cO (Kd.R_reads' HO605.out).2.2); (case side2 => exact (Kd.R_reads' HO605.out).2.1); (case side3 => exact cO (Kd.C_below HR0.out HB.out)); (case side4 => exact HC0.out); rintro e w' ⟨rfl, ⟨nd, rfl⟩⟩))
          go_ret
          exact ⟨by first | rfl | (simp [errW_none, errW_some] <;> rfl) | (simp [*, errW_none, errW_some] <;> rfl), bO HB.out⟩
         ·rw [if_neg c46] at H
          have c46b0 : (t603 == 0) = false := beq_eq_false_iff_ne.mpr c46
          have c46b1 : (t603 != 0) = true := bne_iff_ne.mpr c46
          obtain rfl := Option.some.inj H
          go_wp2_with (first | ((with_reducible refine gate_dst (N := 90) rfl ?_); refine Kd.R_lit (Kd.int .i64) _ 2 ?hg (N := 90) ?hd (xs := ([] : List Int)) (inner := []) (ok := fun _ => True) (okp := fun _ => True) ?hr ?hp (fun _ hk => hk) trivial (Below.refl _ _) (Nat.le_refl _) (by simp) ?_; (case hd => rfl); (case hg => rfl); (case hr => first | (go_simp; done) | (go_simp; rfl)); (case hp => exact (Reps.none _ _)); intro v597 w54 ho55 hb hg_ hnew_; clear hg_ hnew_; (first | rw [← Ny596.out] at ho55 | (simp only [Int.reduceToNat] at ho55; rw [← Ny596.out] at ho55)); have n0_ := Aside0.mk (Kd.R_elder' (rO HO_5.out) (Kd.R_base ho55) hb); have n1_ := Aside0.mk (Kd.R_lower (Kd.R_new' ho55 (Kd.R_lt (rO HO_5.out))) (below_size (bO HB.out))); have n2_ := Aside0.mk (below_step (bO HB.out) hb); clear HO_5; clear HB; have HO_5 := n0_; have HO598 := n1_; have HB := n2_; clear n0_ n1_ n2_; clear hb ho55) | ((with_reducible refine gate_builtin (b := .append) (xs := #[.tmp 90, .tmp 91]) rfl ?_); at_builtin; refine Kd.R_append_rows (Kd.int .i64) (w0 := w) w.heap.size rfl (.tmp 90) (.tmp 91) 22 2 (.int .i64 0) 8 rfl Try.underlying22 info2 rfl (by decide) (by omega) v597 y596 t592 _ _ _ (fun k_ => some k_ ≠ (.slice Ao15 t592.length co15 : Value).ownBlock) (fun _ => False) rfl rfl ?aO ?aR (fun _ _ h => h) (fun _ h => h.elim) ?aF ?aB ?aS ?aL ?_; (case aR => exact cO (Kd.R_reads' HO_5.out).2.2); (case aB => exact (bO HB.out)); (case aF => exact (fun k_ hk => Kd.fresh' (Kd.R_lt (rO HO_5.out)) k_ hk)); (case aO => exact (by (with_reducible repeat (first | apply Kd.R_alloc | apply Kd.R_drewN | apply Kd.R_drew)); exact Kd.R_mono HO598.out (fun _ hk => hk.2))); (case aS => exact (below_size (bO HB.out))); (case aL => have := LMc44.out; omega); intro v600 w56 ho hb hg hat; rw [← Ny599.out] at ho; have n0_ := Aside0.mk (Kd.R_after (ok := (fun _ => True)) (rO HO_5.out) hg hat); have n1_ := Aside0.mk (hb); have n2_ := Aside0.mk (ho); clear HO_5; clear HB; clear HO598; have HO_5 := n0_; have HB := n1_; have HO601 := n2_; clear n0_ n1_ n2_; clear ho hb hg hat; obtain ⟨Ao57, co57, eo57⟩ := Kd.R_slice HO601.out; subst eo57) | ((with_reducible refine gate_callee (f := 10) rfl ?_); refine goesL_ (some 95) rfl rfl Try.func10 (by kernel_rfl) rfl #[.slice Ao57 y599.length co57, .int .i64 (l0.length : Int)] rfl mO ?_; (with_reducible refine (word_Encode.calls k1 _ _ y599 (l0.length : Int) t602 t603 _ ?side1 ?side2 A45.out).mono ?_); (case side1 => exact cO (Kd.R_reads' HO601.out).2.2); (case side2 => exact (Kd.R_reads' HO601.out).2.1); rintro e w58 ⟨v604, rfl, ho0, hb⟩; refine ⟨_, rfl, ?_⟩; have n0_ := Aside0.mk (Kd.R_below (rO HO_5.out) hb); have n1_ := Aside0.mk (Kd.R_below (rO HO601.out) hb); have n2_ := Aside0.mk (Kd.R_lower ho0 (below_size (bO HB.out))); have n3_ := Aside0.mk (below_step (bO HB.out) hb); clear HO_5; clear HO601; clear HB; have HO_5 := n0_; have HO601 := n1_; have HO605 := n2_; have HB := n3_; clear n0_ n1_ n2_ n3_; (try clear hb); (try clear hb2); (try clear hk); (try clear hi); (try clear ho0)))
          go_ret
          exact ⟨by first | rfl | (simp [errW_none, errW_some] <;> rfl) | (simp [*, errW_none, errW_some] <;> rfl), bO HB.out⟩
        ·rw [if_neg c44] at H
         exact absurd H (by simp)
    ·rw [if_neg c8] at H
     have c8b0 : ((t592.length : Int) == a1) = false := beq_eq_false_iff_ne.mpr c8
     have c8b1 : ((t592.length : Int) != a1) = true := bne_iff_ne.mpr c8
     obtain rfl := Option.some.inj H
     go_enter Try.func7, Try.ntmps7
     go_wp2_with (first | ((with_reducible refine gate_callee (f := 15) rfl ?_); refine goesL_ (some 16) rfl rfl Try.func15 (by kernel_rfl) rfl #[] rfl mO ?_; (with_reducible refine (tabardlaw03_fixed.calls k  true _ A3.out).mono ?_); rintro e w59 ⟨rfl, hb⟩; refine ⟨_, rfl, ?_⟩; have n0_ := Aside0.mk (below_step (bO HB.out) hb); clear HB; have HB := n0_; clear n0_; (try clear hb); (try clear hb2); (try clear hk); (try clear hi)) | ((with_reducible refine gate_dst (N := 19) rfl ?_); refine Kd.R_lit (Kd.int .i64) _ 3 ?hg (N := 19) ?hd (xs := ([] : List Int)) (inner := []) (ok := fun _ => True) (okp := fun _ => True) ?hr ?hp (fun _ hk => hk) trivial (Below.refl _ _) (Nat.le_refl _) (by simp) ?_; (case hd => rfl); (case hg => rfl); (case hr => first | (go_simp; done) | (go_simp; rfl)); (case hp => exact (Reps.none _ _)); intro v587 w60 ho61 hb hg_ hnew_; clear hg_ hnew_; (first | rw [← Ny586.out] at ho61 | (simp only [Int.reduceToNat] at ho61; rw [← Ny586.out] at ho61)); have n0_ := Aside0.mk (Kd.R_lower ho61 (below_size (bO HB.out))); have n1_ := Aside0.mk (below_step (bO HB.out) hb); clear HB; have HO588 := n0_; have HB := n1_; clear n0_ n1_; clear hb ho61) | ((with_reducible refine gate_builtin (b := .append) (xs := #[.tmp 19, .tmp 20]) rfl ?_); at_builtin; refine Kd.R_append_rows (Kd.int .i64) (w0 := w) w.heap.size rfl (.tmp 19) (.tmp 20) 23 3 (.int .i64 0) 8 rfl Try.underlying23 info3 rfl (by decide) (by omega) v587 y586 l0 _ _ _ (fun _ => True) (fun _ => False) rfl rfl ?aO ?aR (fun _ _ h => h) (fun _ h => h.elim) ?aF ?aB ?aS ?aL ?_; (case aR => exact cO (Kd.C_below HR0.out HB.out)); (case aB => exact (bO HB.out)); (case aF => exact (fun _ _ => trivial)); (case aO => exact (rO HO588.out)); (case aS => exact (below_size (bO HB.out))); (case aL => have := LMc5.out; omega); intro v590 w62 ho hb hg hat; rw [← Ny589.out] at ho; have n0_ := Aside0.mk (hb); have n1_ := Aside0.mk (ho); clear HB; clear HO588; have HB := n0_; have HO591 := n1_; clear n0_ n1_; clear ho hb hg hat; obtain ⟨Ao63, co63, eo63⟩ := Kd.R_slice HO591.out; subst eo63) | ((with_reducible refine gate_callee (f := 25) rfl ?_); refine goesL_ (some 23) rfl rfl Try.func25 (by kernel_rfl) rfl #[.slice Ao63 y589.length co63, .int .i64 a1] rfl mO ?_; (with_reducible refine (word_Decode.calls k _ _ y589 a1 t592 t593 _ ?side1 ?side2 A6.out).mono ?_); (case side1 => exact cO (Kd.R_reads' HO591.out).2.2); (case side2 => exact (Kd.R_reads' HO591.out).2.1); rintro e w64 ⟨v594, rfl, ho0, hb⟩; refine ⟨_, rfl, ?_⟩; have n0_ := Aside0.mk (Kd.R_below (rO HO591.out) hb); have n1_ := Aside0.mk (Kd.R_lower ho0 (below_size (bO HB.out))); have n2_ := Aside0.mk (below_step (bO HB.out) hb); clear HO591; clear HB; have HO591 := n0_; have HO595 := n1_; have HB := n2_; clear n0_ n1_ n2_; (try clear hb); (try clear hb2); (try clear hk); (try clear hi); (try clear ho0); obtain ⟨Ao65, co65, eo65⟩ := Kd.R_slice HO595.out; subst eo65))
     go_ret
     exact ⟨by first | rfl | (simp [errW_none, errW_some] <;> rfl) | (simp [*, errW_none, errW_some] <;> rfl), bO HB.out⟩
   ·rw [if_neg c7] at H
    have c7b0 : (t593 == 0) = false := beq_eq_false_iff_ne.mpr c7
    have c7b1 : (t593 != 0) = true := bne_iff_ne.mpr c7
    obtain rfl := Option.some.inj H
    go_enter Try.func7, Try.ntmps7
    go_wp2_with (first | ((with_reducible refine gate_callee (f := 15) rfl ?_); refine goesL_ (some 16) rfl rfl Try.func15 (by kernel_rfl) rfl #[] rfl mO ?_; (with_reducible refine (tabardlaw03_fixed.calls k  true _ A3.out).mono ?_); rintro e w66 ⟨rfl, hb⟩; refine ⟨_, rfl, ?_⟩; have n0_ := Aside0.mk (below_step (bO HB.out) hb); clear HB; have HB := n0_; clear n0_; (try clear hb); (try clear hb2); (try clear hk); (try clear hi)) | ((with_reducible refine gate_dst (N := 19) rfl ?_); refine Kd.R_lit (Kd.int .i64) _ 3 ?hg (N := 19) ?hd (xs := ([] : List Int)) (inner := []) (ok := fun _ => True) (okp := fun _ => True) ?hr ?hp (fun _ hk => hk) trivial (Below.refl _ _) (Nat.le_refl _) (by simp) ?_; (case hd => rfl); (case hg => rfl); (case hr => first | (go_simp; done) | (go_simp; rfl)); (case hp => exact (Reps.none _ _)); intro v587 w67 ho68 hb hg_ hnew_; clear hg_ hnew_; (first | rw [← Ny586.out] at ho68 | (simp only [Int.reduceToNat] at ho68; rw [← Ny586.out] at ho68)); have n0_ := Aside0.mk (Kd.R_lower ho68 (below_size (bO HB.out))); have n1_ := Aside0.mk (below_step (bO HB.out) hb); clear HB; have HO588 := n0_; have HB := n1_; clear n0_ n1_; clear hb ho68) | ((with_reducible refine gate_builtin (b := .append) (xs := #[.tmp 19, .tmp 20]) rfl ?_); at_builtin; refine Kd.R_append_rows (Kd.int .i64) (w0 := w) w.heap.size rfl (.tmp 19) (.tmp 20) 23 3 (.int .i64 0) 8 rfl Try.underlying23 info3 rfl (by decide) (by omega) v587 y586 l0 _ _ _ (fun _ => True) (fun _ => False) rfl rfl ?aO ?aR (fun _ _ h => h) (fun _ h => h.elim) ?aF ?aB ?aS ?aL ?_; (case aR => exact cO (Kd.C_below HR0.out HB.out)); (case aB => exact (bO HB.out)); (case aF => exact (fun _ _ => trivial)); (case aO => exact (rO HO588.out)); (case aS => exact (below_size (bO HB.out))); (case aL => have := LMc5.out; omega); intro v590 w69 ho hb hg hat; rw [← Ny589.out] at ho; have n0_ := Aside0.mk (hb); have n1_ := Aside0.mk (ho); clear HB; clear HO588; have HB := n0_; have HO591 := n1_; clear n0_ n1_; clear ho hb hg hat; obtain ⟨Ao70, co70, eo70⟩ := Kd.R_slice HO591.out; subst eo70) | ((with_reducible refine gate_callee (f := 25) rfl ?_); refine goesL_ (some 23) rfl rfl Try.func25 (by kernel_rfl) rfl #[.slice Ao70 y589.length co70, .int .i64 a1] rfl mO ?_; (with_reducible refine (word_Decode.calls k _ _ y589 a1 t592 t593 _ ?side1 ?side2 A6.out).mono ?_); (case side1 => exact cO (Kd.R_reads' HO591.out).2.2); (case side2 => exact (Kd.R_reads' HO591.out).2.1); rintro e w71 ⟨v594, rfl, ho0, hb⟩; refine ⟨_, rfl, ?_⟩; have n0_ := Aside0.mk (Kd.R_below (rO HO591.out) hb); have n1_ := Aside0.mk (Kd.R_lower ho0 (below_size (bO HB.out))); have n2_ := Aside0.mk (below_step (bO HB.out) hb); clear HO591; clear HB; have HO591 := n0_; have HO595 := n1_; have HB := n2_; clear n0_ n1_ n2_; (try clear hb); (try clear hb2); (try clear hk); (try clear hi); (try clear ho0); obtain ⟨Ao72, co72, eo72⟩ := Kd.R_slice HO595.out; subst eo72))
    go_ret
    exact ⟨by first | rfl | (simp [errW_none, errW_some] <;> rfl) | (simp [*, errW_none, errW_some] <;> rfl), bO HB.out⟩
  ·rw [if_neg c5] at H
   exact absurd H (by simp)
 ·replace c4 := Bool.eq_false_iff.mpr c4
  subst c4
  have H1 : (some false) = some r := by rw [if_neg (show ¬ (false = true) by decide)] at H; exact H
  clear H
  have H := H1
  clear H1
  obtain rfl := Option.some.inj H
  go_enter Try.func7, Try.ntmps7
  go_wp2_with (first | ((with_reducible refine gate_callee (f := 15) rfl ?_); refine goesL_ (some 16) rfl rfl Try.func15 (by kernel_rfl) rfl #[] rfl mO ?_; (with_reducible refine (tabardlaw03_fixed.calls k  false _ A3.out).mono ?_); rintro e w73 ⟨rfl, hb⟩; refine ⟨_, rfl, ?_⟩; have n0_ := Aside0.mk (below_step (bO HB.out) hb); clear HB; have HB := n0_; clear n0_; (try clear hb); (try clear hb2); (try clear hk); (try clear hi)))
  go_ret
  exact ⟨by first | rfl | (simp [errW_none, errW_some] <;> rfl) | (simp [*, errW_none, errW_some] <;> rfl), bO HB.out⟩

/-- THE ONE PURE STATEMENT of tabardlaw03_WordTracks: yours. -/
def tabardlaw03_WordTracks.Pure : Prop := ∀ (l0 : List Int) (a1 : Int), l0.length ≤ maxLen → l0.length * 8 ≤ 140737488351232 → (∀ x ∈ l0, (Lit.int .i64 x).wf = true) → (Lit.int .i64 a1).wf = true → ∃ k, tabardlaw03_WordTracks.f k l0 a1 = some true
theorem tabardlaw03_WordTracks.walk (P : tabardlaw03_WordTracks.Pure) (a0 : Option Addr) (len0 cap0 : Nat) (z0 : List Int) (a1 : Int) (w : World) (w0 : (a0 = none ∧ len0 = 0 ∧ cap0 = 0 ∧ z0 = []) ∨ ∃ x, a0 = some x ∧ len0 ≤ cap0 ∧ cap0 ≤ maxLen ∧ z0.length = cap0 ∧ (∀ i, i < z0.length → w.cell? (x.add i) = some (.int .i64 (z0.getD i 0))) ∧ ∀ n ∈ z0, (Lit.int .i64 n).wf = true) (y0 : len0 * 8 ≤ 140737488351232) (w1 : (Lit.int .i64 a1).wf = true) :
  Calls Try.prog 7 #[.slice a0 len0 cap0, .int .i64 a1] w fun e w' => e = .returned (.bool true) ∧ Below w.heap.size w w' := by
 obtain ⟨l0, rfl, hr0, hm0, hw0, hc0⟩ := ReadsInt.ofRowC w0
 obtain ⟨k, h⟩ := P l0 a1 hm0 y0 hw0 w1
 refine (tabardlaw03_WordTracks.calls k _ _ l0 a1 true w (Kd.C_of_reads (d := (0 : Int)) (h1 := fun _ => rfl) hr0) hc0 h).mono ?_
 rintro e w' ⟨rfl, hd⟩
 exact ⟨rfl, hd⟩

end Go.Proofs.Ytolacbnkebbjiaa.X

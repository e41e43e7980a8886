/- What the functions of this seat compute, and that the program's calls come to just that: written by this session's own program out of the translation; no condition. -/
import Derived.Test.YtpekanolhgcljaaX0
import Derived.Test.YtpekanolhgcljaaX1
import Derived.Test.YtpekanolhgcljaaX2
import Derived.Test.YtpekanolhgcljaaX9
namespace Go.Proofs.Ytpekanolhgcljaa.X
open Go.RowKit Go.Proofs.YtpekanolhgcljaaW.PrintWords Go.Proofs.YtpekanolhgcljaaW.PrintLast Go.Proofs.YtpekanolhgcljaaW.PrintMore
attribute [local go_sem] max2_int min2_int max_two min_two max_three min_three max_four min_four   -- for this text's walks alone
set_option linter.unusedVariables false
set_option linter.unusedSimpArgs false

/-! ### tabardref02_Spread: function 15 -/
mutual
def tabardref02_Spread.j0 : Nat → Int → List Int → Bool → Option (Int × Int)
 | 0, _, _, _ => none
 | k + 1, x0, x1, x18 => if x18 = true then (some (0, 2)) else (tabardref02_Spread.l0 k x0 x1 1 0)
def tabardref02_Spread.l0 : Nat → Int → List Int → Int → Int → Option (Int × Int)
 | 0, _, _, _, _ => none
 | k + 1, x0, x1, x6, x7 => if x7 < (x1.length : Int) then (tabardref02_Spread.l0 k x0 x1 (wrap64 (x6 * 2)) (wrap64 (x7 + 1))) else (if x0 ≥ x6 then (some (0, 2)) else ((tabardref02_Digits.f k x0 (x1.length : Int)).bind fun t188 => (if 6 ≤ 35184372088832 then (if 6 ≤ 281474976710656 then (tabardref02_Spread.l1 k x1 t188 (List.replicate 6 0) (List.replicate 6 false) 0) else (none)) else (none))))
def tabardref02_Spread.l1 : Nat → List Int → List Int → List Int → List Bool → Int → Option (Int × Int)
 | 0, _, _, _, _, _ => none
 | k + 1, x1, x8, x9, x10, x11 => if x11 < (x1.length : Int) then (if 0 ≤ x11 then (if 0 ≤ (rd x1 x11) then (if (rd x1 x11) < (x10.length : Int) then (if rdOf false x10 (rd x1 x11) = true then (some (0, 5)) else (if x11 < (x8.length : Int) then (if (rd x1 x11) < (x9.length : Int) then (tabardref02_Spread.l1 k x1 x8 (x9.set ((rd x1 x11) : Int).toNat (rd x8 x11)) (x10.set ((rd x1 x11) : Int).toNat true) (wrap64 (x11 + 1))) else (none)) else (none))) else (none)) else (none)) else (none)) else ((tabardref02_Letter.f k x9).bind fun t204 => (some (t204, 0)))
end
def tabardref02_Spread.f (k : Nat) (a0 : Int) (l1 : List Int) : Option (Int × Int) := (tabardref02_places.f k l1).bind fun t187 => (if t187 = true then (tabardref02_Spread.j0 k a0 l1 (decide (a0 < 0))) else (tabardref02_Spread.j0 k a0 l1 true))
theorem tabardref02_Spread.mono_l : ∀ k, (∀ y0 y1 y2, LeO (tabardref02_Spread.j0 k y0 y1 y2) (tabardref02_Spread.j0 (k + 1) y0 y1 y2)) ∧ (∀ y0 y1 y2 y3, LeO (tabardref02_Spread.l0 k y0 y1 y2 y3) (tabardref02_Spread.l0 (k + 1) y0 y1 y2 y3)) ∧ (∀ y0 y1 y2 y3 y4, LeO (tabardref02_Spread.l1 k y0 y1 y2 y3 y4) (tabardref02_Spread.l1 (k + 1) y0 y1 y2 y3 y4))
 | 0 => ⟨fun _ _ _ r h => by simp [tabardref02_Spread.j0] at h, fun _ _ _ _ r h => by simp [tabardref02_Spread.l0] at h, fun _ _ _ _ _ r h => by simp [tabardref02_Spread.l1] at h⟩
 | k + 1 => by
  obtain ⟨ih0, ih1, ih2⟩ := tabardref02_Spread.mono_l k
  refine ⟨?_, ?_, ?_⟩
  ·intro y0 y1 y2
   unfold tabardref02_Spread.j0
   repeat' first
   | (with_reducible exact ih0 _ _ _)
   | (with_reducible exact ih1 _ _ _ _)
   | (with_reducible exact ih2 _ _ _ _ _)
   | (with_reducible exact tabardref02_Digits.mono _ _ _)
   | (with_reducible exact tabardref02_Letter.mono _ _)
   | (with_reducible exact tabardref02_places.mono _ _)
   | (with_reducible exact LeO.refl _)
   | (with_reducible exact LeO.none _)
   | (with_reducible refine LeO.ite ?_ ?_)
   | (with_reducible refine LeO.bind ?_ (fun _ => ?_))
   | exact ih0 _ _ _
   | exact ih1 _ _ _ _
   | exact ih2 _ _ _ _ _
   | exact tabardref02_Digits.mono _ _ _
   | exact tabardref02_Letter.mono _ _
   | exact tabardref02_places.mono _ _
   | exact LeO.none _
   | refine LeO.ite ?_ ?_
   | refine LeO.bind ?_ (fun _ => ?_)
  ·intro y0 y1 y2 y3
   unfold tabardref02_Spread.l0
   repeat' first
   | (with_reducible exact ih0 _ _ _)
   | (with_reducible exact ih1 _ _ _ _)
   | (with_reducible exact ih2 _ _ _ _ _)
   | (with_reducible exact tabardref02_Digits.mono _ _ _)
   | (with_reducible exact tabardref02_Letter.mono _ _)
   | (with_reducible exact tabardref02_places.mono _ _)
   | (with_reducible exact LeO.refl _)
   | (with_reducible exact LeO.none _)
   | (with_reducible refine LeO.ite ?_ ?_)
   | (with_reducible refine LeO.bind ?_ (fun _ => ?_))
   | exact ih0 _ _ _
   | exact ih1 _ _ _ _
   | exact ih2 _ _ _ _ _
   | exact tabardref02_Digits.mono _ _ _
   | exact tabardref02_Letter.mono _ _
   | exact tabardref02_places.mono _ _
   | exact LeO.none _
   | refine LeO.ite ?_ ?_
   | refine LeO.bind ?_ (fun _ => ?_)
  ·intro y0 y1 y2 y3 y4
   unfold tabardref02_Spread.l1
   repeat' first
   | (with_reducible exact ih0 _ _ _)
   | (with_reducible exact ih1 _ _ _ _)
   | (with_reducible exact ih2 _ _ _ _ _)
   | (with_reducible exact tabardref02_Digits.mono _ _ _)
   | (with_reducible exact tabardref02_Letter.mono _ _)
   | (with_reducible exact tabardref02_places.mono _ _)
   | (with_reducible exact LeO.refl _)
   | (with_reducible exact LeO.none _)
   | (with_reducible refine LeO.ite ?_ ?_)
   | (with_reducible refine LeO.bind ?_ (fun _ => ?_))
   | exact ih0 _ _ _
   | exact ih1 _ _ _ _
   | exact ih2 _ _ _ _ _
   | exact tabardref02_Digits.mono _ _ _
   | exact tabardref02_Letter.mono _ _
   | exact tabardref02_places.mono _ _
   | exact LeO.none _
   | refine LeO.ite ?_ ?_
   | refine LeO.bind ?_ (fun _ => ?_)
theorem tabardref02_Spread.mono : ∀ a0 a1 k, LeO (tabardref02_Spread.f k a0 a1) (tabardref02_Spread.f (k + 1) a0 a1) := by
 intro a0 a1 k
 obtain ⟨ih0, ih1, ih2⟩ := tabardref02_Spread.mono_l k
 unfold tabardref02_Spread.f
 repeat' first
   | (with_reducible exact ih0 _ _ _)
   | (with_reducible exact ih1 _ _ _ _)
   | (with_reducible exact ih2 _ _ _ _ _)
   | (with_reducible exact tabardref02_Digits.mono _ _ _)
   | (with_reducible exact tabardref02_Letter.mono _ _)
   | (with_reducible exact tabardref02_places.mono _ _)
   | (with_reducible exact LeO.refl _)
   | (with_reducible exact LeO.none _)
   | (with_reducible refine LeO.ite ?_ ?_)
   | (with_reducible refine LeO.bind ?_ (fun _ => ?_))
   | exact ih0 _ _ _
   | exact ih1 _ _ _ _
   | exact ih2 _ _ _ _ _
   | exact tabardref02_Digits.mono _ _ _
   | exact tabardref02_Letter.mono _ _
   | exact tabardref02_places.mono _ _
   | exact LeO.none _
   | refine LeO.ite ?_ ?_
   | refine LeO.bind ?_ (fun _ => ?_)
def tabardref02_Spread.T19 : Bool × List (List Nat × List Nat) := (true, [([], []), ([], []), ([], []), ([1, 2], [1, 2]), ([3], [3]), ([], []), ([], []), ([5, 6], [5, 6]), ([7], [7]), ([0, 4, 0, 1, 2, 3, 4, 5, 6, 7, 8], [0, 4]), ([9, 8, 0, 1, 2, 3, 4, 5, 6, 7, 8], [8, 9])])
def tabardref02_Spread.B19 : List Nat := [0, 0, 0, 6, 14, 0, 0, 96, 224, 511, 1023]
theorem tabardref02_Spread.tab19 : rtab .any (opsOf Try.f15 19) = tabardref02_Spread.T19 := by kernel_rfl
theorem tabardref02_Spread.bits19 : waitsOk tabardref02_Spread.T19.2 tabardref02_Spread.B19 = true := by kernel_rfl
set_option maxHeartbeats 8000000 in
set_option maxRecDepth 100000 in
theorem tabardref02_Spread.calls (k : Nat) (a0 : Int) (A1 : Option Addr) (c1 : Nat) (l1 : List Int) (r1 : Int) (r2 : Int) (w : World) (hr1 : Kd.C (Kd.int .i64) w A1 l1.length l1) (hc1 : l1.length ≤ c1) (h : tabardref02_Spread.f k a0 l1 = some (r1, r2)) :
  Calls Try.prog 15 #[.int .i64 a0, .slice A1 l1.length c1] w fun e w' => e = .returned (.tuple #[.int .i64 r1, .int .i64 r2]) ∧ Below w.heap.size w w' := by
 have HR1 := Aside0.mk hr1
 have HC1 := Aside0.mk hc1
 clear hr1 hc1
 have HB := Aside0.mk (Below.refl w.heap.size w)
 have H : ((tabardref02_places.f k l1).bind fun t187 => (if t187 = true then (tabardref02_Spread.j0 k a0 l1 (decide (a0 < 0))) else (tabardref02_Spread.j0 k a0 l1 true))) = some (r1, r2) := h
 clear h
 have HC3 := Aside0.mk H
 clear H
 go_enter Try.func15, Try.ntmps15
 go_upto_region 1 with (fail)
 go_cut [18] (fun v18 wc => ∃ (kq : Nat) (x18_2 : Bool), v18 = .bool x18_2 ∧ Aside0 (tabardref02_Spread.j0 kq a0 l1 x18_2 = some (r1, r2)) ∧ Aside0 (kq ≤ k) ∧ Aside0 (Below w.heap.size w wc))
 case first =>
  have H := HC3.out
  clear HC3
  replace H := Option.bind_eq_some_iff.mp H
  obtain ⟨t187, A40, H⟩ := H
  replace H : (if t187 = true then (tabardref02_Spread.j0 k a0 l1 (decide (a0 < 0))) else (tabardref02_Spread.j0 k a0 l1 true)) = some (r1, r2) := H
  have A4 := Aside0.mk A40
  clear A40
  by_cases c5 : t187 = true
  ·subst c5
   have H1 : (tabardref02_Spread.j0 k a0 l1 (decide (a0 < 0))) = some (r1, r2) := by rw [if_pos rfl] at H; exact H
   clear H
   have H := H1
   clear H1
   have H' := Aside0.mk H
   clear H
   go_wp2_with (first | ((with_reducible refine gate_callee (f := 35) rfl ?_); refine goesL_ (some 13) rfl rfl Try.func35 (by kernel_rfl) rfl #[.slice A1 l1.length c1] rfl mO ?_; (with_reducible refine (tabardref02_places.calls k _ _ l1 true _ ?side1 ?side2 A4.out).mono ?_); (case side1 => exact cO (Kd.C_below HR1.out HB.out)); (case side2 => exact HC1.out); rintro e w' ⟨rfl, ⟨nd, rfl⟩⟩; refine ⟨_, rfl, ?_⟩))
   go_meet
   case rel => exact ⟨_, (decide (a0 < 0)), (by first | rfl | (simp; done) | (simp [*]; done)), H', ⟨by first | omega | exact Nat.le_refl _⟩, ⟨bO HB.out⟩⟩
  ·replace c5 := Bool.eq_false_iff.mpr c5
   subst c5
   have H1 : (tabardref02_Spread.j0 k a0 l1 true) = some (r1, r2) := by rw [if_neg (show ¬ (false = true) by decide)] at H; exact H
   clear H
   have H := H1
   clear H1
   have H' := Aside0.mk H
   clear H
   go_wp2_with (first | ((with_reducible refine gate_callee (f := 35) rfl ?_); refine goesL_ (some 13) rfl rfl Try.func35 (by kernel_rfl) rfl #[.slice A1 l1.length c1] rfl mO ?_; (with_reducible refine (tabardref02_places.calls k _ _ l1 false _ ?side1 ?side2 A4.out).mono ?_); (case side1 => exact cO (Kd.C_below HR1.out HB.out)); (case side2 => exact HC1.out); rintro e w' ⟨rfl, ⟨nd, rfl⟩⟩; refine ⟨_, rfl, ?_⟩))
   go_meet
   case rel => exact ⟨_, (true), (by first | rfl | (simp; done) | (simp [*]; done)), H', ⟨by first | omega | exact Nat.le_refl _⟩, ⟨bO HB.out⟩⟩
 case rest =>
  clear HC3
  try clear c1
  try clear p2
  try clear c3
  try clear c5
  obtain ⟨kq, x18_2, rfl, HA, HJ2, HB⟩ := hcut
  cases kq with
  | zero => exact absurd HA.out (by simp [tabardref02_Spread.j0])
  | succ kj2 =>
   have H := HA.out
   clear HA
   simp only [tabardref02_Spread.j0] at H
   by_cases c6 : x18_2 = true
   ·subst c6
    have H1 : (some (0, 2)) = some (r1, r2) := by rw [if_pos rfl] at H; exact H
    clear H
    have H := H1
    clear H1
    simp only [Option.some.injEq, Prod.mk.injEq] at H
    obtain ⟨rfl, rfl⟩ := H
    go_wp2
    go_ret2
    exact ⟨by first | rfl | (simp [errW_none, errW_some] <;> rfl) | (simp [*, errW_none, errW_some] <;> rfl), bO HB.out⟩
   ·replace c6 := Bool.eq_false_iff.mpr c6
    subst c6
    have H1 : (tabardref02_Spread.l0 kj2 a0 l1 1 0) = some (r1, r2) := by rw [if_neg (show ¬ (false = true) by decide)] at H; exact H
    clear H
    have H := H1
    clear H1
    have H' := Aside0.mk H
    clear H
    go_wp2
    go_loopg [6, 7] kj2 (fun kq v6 v7 w' => ∃ (x6_2 : Int) (x7_2 : Int), v6 = .int .i64 x6_2 ∧ v7 = .int .i64 x7_2 ∧ Aside0 (tabardref02_Spread.l0 kq a0 l1 x6_2 x7_2 = some (r1, r2)) ∧ Aside0 (kq ≤ kj2) ∧ Aside0 (Below w.heap.size w w'))
    case atStart => exact ⟨(1), (0), (by first | rfl | (simp; done) | (simp [*]; done)), (by first | rfl | (simp; done) | (simp [*]; done)), H', ⟨Nat.le_refl _⟩, ⟨bO HB.out⟩⟩
    case round =>
     clear H'
     try clear c1
     try clear p2
     try clear c3
     try clear c5
     try clear c6
     try clear p2
     obtain ⟨x6_2, x7_2, rfl, rfl, HA, HK2, HB⟩ := hrel
     cases gk with
     | zero => exact absurd HA.out (by simp [tabardref02_Spread.l0])
     | succ k2 =>
      have H := HA.out
      clear HA
      simp only [tabardref02_Spread.l0] at H
      by_cases c7 : x7_2 < (l1.length : Int)
      ·rw [if_pos c7] at H
       have c7b0 : decide (x7_2 < (l1.length : Int)) = true := decide_eq_true c7
       clear c7
       have H' := Aside0.mk H
       clear H
       go_wp2
       go_roundg k2
       case measure => have := HJ2.out; have := HK2.out; omega
       case rel => exact ⟨(wrap64 (x6_2 * 2)), (wrap64 (x7_2 + 1)), (by first | rfl | (simp; done) | (simp [*]; done)), (by first | rfl | (simp; done) | (simp [*]; done)), H', ⟨by have := HJ2.out; have := HK2.out; omega⟩, ⟨bO HB.out⟩⟩
      ·rw [if_neg c7] at H
       have c7b0 : decide (x7_2 < (l1.length : Int)) = false := decide_eq_false c7
       clear c7
       by_cases c8 : a0 ≥ x6_2
       ·rw [if_pos c8] at H
        have c8b0 : decide (x6_2 ≤ a0) = true := decide_eq_true c8
        clear c8
        simp only [Option.some.injEq, Prod.mk.injEq] at H
        obtain ⟨rfl, rfl⟩ := H
        go_wp2
        go_ret2
        exact ⟨by first | rfl | (simp [errW_none, errW_some] <;> rfl) | (simp [*, errW_none, errW_some] <;> rfl), bO HB.out⟩
       ·rw [if_neg c8] at H
        have c8b0 : decide (x6_2 ≤ a0) = false := decide_eq_false c8
        clear c8
        replace H := Option.bind_eq_some_iff.mp H
        obtain ⟨t188, A90, H⟩ := H
        replace H : (if 6 ≤ 35184372088832 then (if 6 ≤ 281474976710656 then (tabardref02_Spread.l1 k2 l1 t188 (List.replicate 6 0) (List.replicate 6 false) 0) else (none)) else (none)) = some (r1, r2) := H
        have A9 := Aside0.mk A90
        clear A90
        by_cases c10 : 6 ≤ 35184372088832
        ·rw [if_pos c10] at H
         have c10b0 := eq_true c10
         have c10b1 : decide (6 ≤ 35184372088832) = true := decide_eq_true c10
         clear c10
         obtain ⟨y191, hy191⟩ : ∃ y_ : List Int, y_ = (List.replicate 6 0) := ⟨_, rfl⟩
         replace H : (if 6 ≤ 281474976710656 then (tabardref02_Spread.l1 k2 l1 t188 y191 (List.replicate 6 false) 0) else (none)) = some (r1, r2) := by first | (rw [hy191]; with_reducible exact H) | (have H2_ := (Option.bind_some _ _).symm.trans H; rw [hy191]; with_reducible exact H2_) | (have H2_ := (Option.bind_some _ _).symm.trans H; with_reducible exact H2_) | with_reducible exact H | (rw [hy191]; exact H) | exact H
         have Ny191 := Aside0.mk hy191
         clear hy191
         by_cases c11 : 6 ≤ 281474976710656
         ·rw [if_pos c11] at H
          have c11b0 := eq_true c11
          have c11b1 : decide (6 ≤ 281474976710656) = true := decide_eq_true c11
          clear c11
          obtain ⟨y194, hy194⟩ : ∃ y_ : List Bool, y_ = (List.replicate 6 false) := ⟨_, rfl⟩
          replace H : (tabardref02_Spread.l1 k2 l1 t188 y191 y194 0) = some (r1, r2) := by first | (rw [hy194]; with_reducible exact H) | (have H2_ := (Option.bind_some _ _).symm.trans H; rw [hy194]; with_reducible exact H2_) | (have H2_ := (Option.bind_some _ _).symm.trans H; with_reducible exact H2_) | with_reducible exact H | (rw [hy194]; exact H) | exact H
          have Ny194 := Aside0.mk hy194
          clear hy194
          have H' := Aside0.mk H
          clear H
          go_wp2_with (first | ((with_reducible refine gate_callee (f := 29) rfl ?_); refine goesL_ (some 33) rfl rfl Try.func29 (by kernel_rfl) rfl #[.int .i64 a0, .int .i64 (l1.length : Int)] rfl mO ?_; (with_reducible refine (tabardref02_Digits.calls k2 a0 (l1.length : Int) t188 _ A9.out).mono ?_); rintro e w12 ⟨v189, rfl, ho0, hb⟩; refine ⟨_, rfl, ?_⟩; have n0_ := Aside0.mk (Kd.R_lower ho0 (below_size (bO HB.out))); have n1_ := Aside0.mk (below_step (bO HB.out) hb); clear HB; have HO190 := n0_; have HB := n1_; clear n0_ n1_; (try clear hb); (try clear hb2); (try clear hk); (try clear hi); (try clear ho0)) | ((with_reducible refine gate_dst (N := 34) rfl ?_); refine Kd.R_make (Kd.int .i64) _ 3 rfl (N := 34) rfl 32 _ _ rfl 6 rfl rfl Try.underlying32 (.int .i64 0) 8 info3 rfl (by decide) (by omega) 0 (ok := fun _ => True) (okp := fun _ => True) rfl (fun _ hk => hk) trivial (by omega) (by omega) (Below.refl _ _) (Nat.le_refl _) ?_; intro v192 w13 ho14 hb hg_ hnew_; clear hg_ hnew_; (first | rw [← Ny191.out] at ho14 | (simp only [Int.reduceToNat] at ho14; rw [← Ny191.out] at ho14)); have n0_ := Aside0.mk (Kd.R_elder' (rO HO190.out) (Kd.R_base ho14) hb); have n1_ := Aside0.mk (Kd.R_lower (Kd.R_new' ho14 (Kd.R_lt (rO HO190.out))) (below_size (bO HB.out))); have n2_ := Aside0.mk (below_step (bO HB.out) hb); clear HO190; clear HB; have HO190 := n0_; have HO193 := n1_; have HB := n2_; clear n0_ n1_ n2_; clear hb ho14) | ((with_reducible refine gate_dst (N := 35) rfl ?_); refine Kd.R_make Kd.bool _ 4 rfl (N := 35) rfl 56 _ _ rfl 6 rfl rfl Try.underlying56 (.bool false) 1 info4 rfl (by decide) (by omega) false (ok := fun _ => True) (okp := fun _ => True) rfl (fun _ hk => hk) trivial (by omega) (by omega) (Below.refl _ _) (Nat.le_refl _) ?_; intro v195 w15 ho16 hb hg_ hnew_; clear hg_ hnew_; (first | rw [← Ny194.out] at ho16 | (simp only [Int.reduceToNat] at ho16; rw [← Ny194.out] at ho16)); have n0_ := Aside0.mk (Kd.R_below (rO HO190.out) hb); have n1_ := Aside0.mk (Kd.R_below (rO HO193.out) hb); have n2_ := Aside0.mk (Kd.R_lower ho16 (below_size (bO HB.out))); have n3_ := Aside0.mk (below_step (bO HB.out) hb); clear HO190; clear HO193; clear HB; have HO190 := n0_; have HO193 := n1_; have HO196 := n2_; have HB := n3_; clear n0_ n1_ n2_ n3_; clear hb ho16))
          go_loopg [11] k2 (fun kq v11 w' => ∃ (x9_3 : List Int) (x10_3 : List Bool) (x11_3 : Int), v11 = .int .i64 x11_3 ∧ Aside0 (tabardref02_Spread.l1 kq l1 t188 x9_3 x10_3 x11_3 = some (r1, r2)) ∧ Aside0 (kq ≤ k2) ∧ Aside0 (Kd.R (Kd.int .i64) 3 w' w.heap.size (fun k_ => some k_ ≠ (v192 : Value).ownBlock) v189 t188) ∧ Aside0 (Kd.R (Kd.int .i64) 3 w' w.heap.size (fun k_ => some k_ ≠ (v189 : Value).ownBlock) v192 x9_3) ∧ Aside0 (Kd.R Kd.bool 4 w' w.heap.size (fun _ => True) v195 x10_3) ∧ Aside0 (Below w.heap.size w w'))
          case atStart => exact ⟨(y191), (y194), (0), (by first | rfl | (simp; done) | (simp [*]; done)), H', ⟨Nat.le_refl _⟩, ⟨by (with_reducible repeat (first | apply Kd.R_alloc | apply Kd.R_drewN | apply Kd.R_drew)); exact Kd.R_mono HO190.out (fun _ hk => hk.2)⟩, ⟨by (with_reducible repeat (first | apply Kd.R_alloc | apply Kd.R_drewN | apply Kd.R_drew)); exact Kd.R_mono HO193.out (fun _ hk => hk.2)⟩, ⟨rO HO196.out⟩, ⟨bO HB.out⟩⟩
          case round =>
           clear H'
           try clear c1
           try clear c2
           try clear p2
           try clear c3
           try clear c5
           try clear c6
           try clear p6
           try clear c7
           try clear c7b0
           try clear c8
           try clear c8b0
           try clear c10
           try clear c10b0
           try clear c10b1
           try clear c11
           try clear c11b0
           try clear c11b1
           try clear c15
           try clear p2
           obtain ⟨x9_3, x10_3, x11_3, rfl, HA, HK3, HO_8, HO_9, HO_10, HB⟩ := hrel
           cases gk with
           | zero => exact absurd HA.out (by simp [tabardref02_Spread.l1])
           | succ k3 =>
            have H := HA.out
            clear HA
            simp only [tabardref02_Spread.l1] at H
            by_cases c17 : x11_3 < (l1.length : Int)
            ·rw [if_pos c17] at H
             have c17b0 : decide (x11_3 < (l1.length : Int)) = true := decide_eq_true c17
             clear c17
             by_cases c18 : 0 ≤ x11_3
             ·rw [if_pos c18] at H
              have c18b0 : decide (0 ≤ x11_3) = true := decide_eq_true c18
              clear c18
              by_cases c19 : 0 ≤ (rd l1 x11_3)
              ·rw [if_pos c19] at H
               have c19b0 : decide (0 ≤ (rd l1 x11_3)) = true := decide_eq_true c19
               clear c19
               by_cases c20 : (rd l1 x11_3) < (x10_3.length : Int)
               ·rw [if_pos c20] at H
                have c20b0 : decide ((rd l1 x11_3) < (x10_3.length : Int)) = true := decide_eq_true c20
                clear c20
                obtain ⟨bq21, hbq21⟩ : ∃ b_ : Bool, b_ = (rdOf false x10_3 (rd l1 x11_3)) := ⟨_, rfl⟩
                replace H : (if bq21 = true then (some (0, 5)) else (if x11_3 < (t188.length : Int) then (if (rd l1 x11_3) < (x9_3.length : Int) then (tabardref02_Spread.l1 k3 l1 t188 (x9_3.set ((rd l1 x11_3) : Int).toNat (rd t188 x11_3)) (x10_3.set ((rd l1 x11_3) : Int).toNat true) (wrap64 (x11_3 + 1))) else (none)) else (none))) = some (r1, r2) := by rw [← hbq21] at H; exact H
                have Nbq21 := Aside0.mk hbq21
                clear hbq21
                by_cases c22 : bq21 = true
                ·subst c22
                 have H1 : (some (0, 5)) = some (r1, r2) := by rw [if_pos rfl] at H; exact H
                 clear H
                 have H := H1
                 clear H1
                 simp only [Option.some.injEq, Prod.mk.injEq] at H
                 obtain ⟨rfl, rfl⟩ := H
                 have p197 : 0 ≤ (x11_3 : Int) := of_decide_eq_true aO
                 have q197 : x11_3 < (l1.length : Int) := of_decide_eq_true aO
                 obtain ⟨ad197, e197, hx197_0⟩ := Kd.at_int HR1.out x11_3 p197 q197
                 cases e197
                 replace hx197_0 := (HB.out.cell (World.block_lt_of_cell? w _ hx197_0)).trans hx197_0
                 replace p197 := eq_true p197
                 replace q197 := eq_true q197
                 obtain ⟨Ao23, co23, eo23⟩ := Kd.R_slice HO_10.out
                 subst eo23
                 have p198 : 0 ≤ ((rd l1 x11_3) : Int) := of_decide_eq_true aO
                 have q198 : (rd l1 x11_3) < (x10_3.length : Int) := of_decide_eq_true aO
                 obtain ⟨ad198, e198, hx198_0⟩ := Kd.at_bool (Kd.R_reads' HO_10.out).2.2 (rd l1 x11_3) p198 q198
                 (try rw [← Nbq21.out] at hx198_0)
                 cases e198
                 replace p198 := eq_true p198
                 replace q198 := eq_true q198
                 go_wp2
                 go_ret2
                 exact ⟨by first | rfl | (simp [errW_none, errW_some] <;> rfl) | (simp [*, errW_none, errW_some] <;> rfl), bO HB.out⟩
                ·replace c22 := Bool.eq_false_iff.mpr c22
                 subst c22
                 have H1 : (if x11_3 < (t188.length : Int) then (if (rd l1 x11_3) < (x9_3.length : Int) then (tabardref02_Spread.l1 k3 l1 t188 (x9_3.set ((rd l1 x11_3) : Int).toNat (rd t188 x11_3)) (x10_3.set ((rd l1 x11_3) : Int).toNat true) (wrap64 (x11_3 + 1))) else (none)) else (none)) = some (r1, r2) := by rw [if_neg (show ¬ (false = true) by decide)] at H; exact H
                 clear H
                 have H := H1
                 clear H1
                 obtain ⟨y200, hy200⟩ : ∃ y_ : List Bool, y_ = (x10_3.set ((rd l1 x11_3) : Int).toNat true) := ⟨_, rfl⟩
                 replace H : (if x11_3 < (t188.length : Int) then (if (rd l1 x11_3) < (x9_3.length : Int) then (tabardref02_Spread.l1 k3 l1 t188 (x9_3.set ((rd l1 x11_3) : Int).toNat (rd t188 x11_3)) y200 (wrap64 (x11_3 + 1))) else (none)) else (none)) = some (r1, r2) := by first | (rw [hy200]; with_reducible exact H) | (have H2_ := (Option.bind_some _ _).symm.trans H; rw [hy200]; with_reducible exact H2_) | (have H2_ := (Option.bind_some _ _).symm.trans H; with_reducible exact H2_) | with_reducible exact H | (rw [hy200]; exact H) | exact H
                 have Ny200 := Aside0.mk hy200
                 clear hy200
                 by_cases c25 : x11_3 < (t188.length : Int)
                 ·rw [if_pos c25] at H
                  have c25b0 : decide (x11_3 < (t188.length : Int)) = true := decide_eq_true c25
                  clear c25
                  by_cases c26 : (rd l1 x11_3) < (x9_3.length : Int)
                  ·rw [if_pos c26] at H
                   have c26b0 : decide ((rd l1 x11_3) < (x9_3.length : Int)) = true := decide_eq_true c26
                   clear c26
                   obtain ⟨y203, hy203⟩ : ∃ y_ : List Int, y_ = (x9_3.set ((rd l1 x11_3) : Int).toNat (rd t188 x11_3)) := ⟨_, rfl⟩
                   replace H : (tabardref02_Spread.l1 k3 l1 t188 y203 y200 (wrap64 (x11_3 + 1))) = some (r1, r2) := by first | (rw [hy203]; with_reducible exact H) | (have H2_ := (Option.bind_some _ _).symm.trans H; rw [hy203]; with_reducible exact H2_) | (have H2_ := (Option.bind_some _ _).symm.trans H; with_reducible exact H2_) | with_reducible exact H | (rw [hy203]; exact H) | exact H
                   have Ny203 := Aside0.mk hy203
                   clear hy203
                   have H' := Aside0.mk H
                   clear H
                   have p197 : 0 ≤ (x11_3 : Int) := of_decide_eq_true aO
                   have q197 : x11_3 < (l1.length : Int) := of_decide_eq_true aO
                   obtain ⟨ad197, e197, hx197_0⟩ := Kd.at_int HR1.out x11_3 p197 q197
                   cases e197
                   replace hx197_0 := (HB.out.cell (World.block_lt_of_cell? w _ hx197_0)).trans hx197_0
                   replace p197 := eq_true p197
                   replace q197 := eq_true q197
                   obtain ⟨Ao28, co28, eo28⟩ := Kd.R_slice HO_10.out
                   subst eo28
                   have p198 : 0 ≤ ((rd l1 x11_3) : Int) := of_decide_eq_true aO
                   have q198 : (rd l1 x11_3) < (x10_3.length : Int) := of_decide_eq_true aO
                   obtain ⟨ad198, e198, hx198_0⟩ := Kd.at_bool (Kd.R_reads' HO_10.out).2.2 (rd l1 x11_3) p198 q198
                   (try rw [← Nbq21.out] at hx198_0)
                   cases e198
                   replace p198 := eq_true p198
                   replace q198 := eq_true q198
                   have p199 : 0 ≤ (x11_3 : Int) := of_decide_eq_true aO
                   have q199 : x11_3 < (l1.length : Int) := of_decide_eq_true aO
                   obtain ⟨ad199, e199, hx199_0⟩ := Kd.at_int HR1.out x11_3 p199 q199
                   obtain rfl : ad197 = ad199 := (by injection e199)
                   replace hx199_0 := (HB.out.cell (World.block_lt_of_cell? w _ hx199_0)).trans hx199_0
                   replace p199 := eq_true p199
                   replace q199 := eq_true q199
                   have p24 : 0 ≤ ((rd l1 x11_3) : Int) := of_decide_eq_true aO
                   have q24 : ((rd l1 x11_3) : Int) < ((x10_3.length : Int) : Int) := of_decide_eq_true aO
                   obtain ⟨go24, co24, eo24, gb24, gl24, cl24, HG24⟩ := Kd.R_form HO_10.out (by omega)
                   (first | cases eo24 | (injection eo24 with ea_ en_ ec_; (first | subst ea_ | (injection ea_ with ea_; subst ea_)); subst ec_; clear en_))
                   have GB24 := Aside0.mk gb24
                   have GG24 := Aside0.mk HG24
                   clear gb24 gl24 HG24
                   (first | simp only [add_plain] at hx198_0 | skip)
                   obtain ⟨hx24_0, hf24_0⟩ := Kd.R_celln false HO_10.out ((rd l1 x11_3) : Int) p24 q24
                   replace p24 := eq_true p24
                   replace q24 := eq_true q24
                   have HP29 := Kd.R_putg HO_10.out ((rd l1 x11_3) : Int) true
                   try go_wp2_with (first | ((with_reducible refine gate_store (t := 4) (p := 54) rfl ?_); refine store_event (t := 4) (p := 54) (v := ?vo_w30) (w1 := (wr.setCell ⟨go24, ((rd l1 x11_3) : Int).toNat, none⟩ (.bool true))) ?hg ?ho ?hn ?hr ?_; (case ho => rfl); (case hg => rfl); (case hn => rfl); (case hr => first | (go_simp; done) | (go_simp; rfl)); intro w30 hw; have hg : wr.grownBy w30 (some go24) := (by rw [hw]; exact HP29.2); have hp_ : Kd.R Kd.bool 4 w30 w.heap.size (fun _ => True) (.slice (some ⟨go24, 0, none⟩) x10_3.length co28) y200 := (by rw [hw, Ny200.out]; exact HP29.1); clear HP29; have n0_ := Aside0.mk (Kd.R_over' (v := (.slice (some ⟨go24, 0, none⟩) x10_3.length co28)) (rO HO_8.out) (Kd.R_typed HO_10.out) (by decide) hg); have n1_ := Aside0.mk (Kd.R_over' (v := (.slice (some ⟨go24, 0, none⟩) x10_3.length co28)) (rO HO_9.out) (Kd.R_typed HO_10.out) (by decide) hg); have n2_ := Aside0.mk (hp_); have n3_ := Aside0.mk ((by rw [hw]; exact below_set (HB.out) GB24.out : Below w.heap.size w w30)); clear HO_8; clear HO_9; clear HO_10; clear HB; have HO_8 := n0_; have HO_9 := n1_; have HO_10 := n2_; have HB := n3_; clear n0_ n1_ n2_ n3_; clear hg hw hp_))
                   have n0_ := Aside0.mk (Kd.R_drew HO_8.out)
                   have n1_ := Aside0.mk (Kd.R_drew HO_9.out)
                   have n2_ := Aside0.mk (Kd.R_drew HO_10.out)
                   have n3_ := Aside0.mk (below_drew1 HB.out)
                   clear HO_8
                   clear HO_9
                   clear HO_10
                   clear HB
                   have HO_8 := n0_
                   have HO_9 := n1_
                   have HO_10 := n2_
                   have HB := n3_
                   clear n0_ n1_ n2_ n3_
                   have p201 : 0 ≤ (x11_3 : Int) := of_decide_eq_true aO
                   have q201 : x11_3 < (l1.length : Int) := of_decide_eq_true aO
                   obtain ⟨ad201, e201, hx201_0⟩ := Kd.at_int HR1.out x11_3 p201 q201
                   have hw201_0 := hx201_0
                   obtain rfl : ad197 = ad201 := (by injection e201)
                   replace hx201_0 := (HB.out.cell (World.block_lt_of_cell? w _ hx201_0)).trans hx201_0
                   replace p201 := eq_true p201
                   replace q201 := eq_true q201
                   obtain ⟨Ao32, co32, eo32⟩ := Kd.R_slice HO_8.out
                   (first | subst eo32 | (injection eo32 with f1_ f2_ f3_; have f4_ := f1_.symm; have f5_ := f3_.symm; clear f1_ f2_ f3_; subst f4_; subst f5_))
                   have p202 : 0 ≤ (x11_3 : Int) := of_decide_eq_true aO
                   have q202 : x11_3 < (t188.length : Int) := of_decide_eq_true aO
                   obtain ⟨ad202, e202, hx202_0⟩ := Kd.at_int (Kd.R_reads' HO_8.out).2.2 x11_3 p202 q202
                   cases e202
                   replace p202 := eq_true p202
                   replace q202 := eq_true q202
                   have p27 : 0 ≤ ((rd l1 x11_3) : Int) := of_decide_eq_true aO
                   have q27 : ((rd l1 x11_3) : Int) < ((x9_3.length : Int) : Int) := of_decide_eq_true aO
                   obtain ⟨go27, co27, eo27, gb27, gl27, cl27, HG27⟩ := Kd.R_form HO_9.out (by omega)
                   (first | cases eo27 | (injection eo27 with ea_ en_ ec_; (first | subst ea_ | (injection ea_ with ea_; subst ea_)); subst ec_; clear en_))
                   have GB27 := Aside0.mk gb27
                   have GG27 := Aside0.mk HG27
                   clear gb27 gl27 HG27
                   obtain ⟨hx27_0, hf27_0⟩ := Kd.R_celln 0 HO_9.out ((rd l1 x11_3) : Int) p27 q27
                   replace p27 := eq_true p27
                   replace q27 := eq_true q27
                   have HP33 := Kd.R_putn HO_9.out ((rd l1 x11_3) : Int) (rd t188 x11_3)
                   rw [← Ny203.out] at HP33
                   have HQ33 := Aside0.mk HP33
                   clear HP33
                   refine start_ (n := 11) (S := fun w' => w'.cell? (ad197.add (x11_3).toNat) = some (.int .i64 (rd l1 x11_3)) ∧ w'.cell? (ad202.add (x11_3).toNat) = some (.int .i64 (rd t188 x11_3))) (ds := [10]) #[false, false, false, false, false, false, false, false, false, false, false] (by kernel_rfl) rfl rfl ⟨((HB.out.cell (World.block_lt_of_cell? w _ hw201_0)).trans hw201_0), hx202_0⟩ (fun hHeld => ?_); refine with_tabW tabardref02_Spread.tab19 tabardref02_Spread.bits19 (fun HT_ HW_ => ?_)
                   generalize w30.drew = w31 at HO_8 HO_9 HO_10 HB GG27 HQ33 hf27_0 hx201_0 hx202_0 hx27_0 hHeld ⊢
                   refine pure_ (i := 0) (N := some 55) (v := ?_) (a' := ?_) #[true, false, false, false, false, false, false, false, false, false, false] rfl rfl (any_of HT_.out (by kernel_rfl)) (fun _ _ _ h => h) (Or.inl ⟨by rfl, ?_⟩) ?_ ?_
                   rotate_left
                   ·intro w'
                    go_simp
                    with_reducible rfl
                   rotate_left
                   ·simp only [Act.put, List.setIfInBounds_toArray, List.set_cons_zero, List.set_cons_succ, i64_w, i32_w]
                    rfl
                   refine pure_ (i := 1) (N := some 56) (v := ?_) (a' := ?_) #[true, true, false, false, false, false, false, false, false, false, false] rfl rfl (any_of HT_.out (by kernel_rfl)) (fun _ _ _ h => h) (Or.inl ⟨by rfl, ?_⟩) ?_ ?_
                   rotate_left
                   ·intro w'
                    go_simp
                    with_reducible rfl
                   rotate_left
                   ·simp only [Act.put, List.setIfInBounds_toArray, List.set_cons_zero, List.set_cons_succ, i64_w, i32_w]
                    rfl
                   refine pure_ (i := 2) (N := some 57) (v := ?_) (a' := ?_) #[true, true, true, false, false, false, false, false, false, false, false] rfl rfl (any_of HT_.out (by kernel_rfl)) (fun _ _ _ h => h) (Or.inl ⟨by rfl, ?_⟩) ?_ ?_
                   rotate_left
                   ·intro w'
                    go_simp
                    with_reducible rfl
                   rotate_left
                   ·simp only [Act.put, List.setIfInBounds_toArray, List.set_cons_zero, List.set_cons_succ, i64_w, i32_w]
                    rfl
                   refine pure_ (i := 3) (N := some 58) (v := ?_) (a' := ?_) #[true, true, true, true, false, false, false, false, false, false, false] rfl rfl (any_of HT_.out (by kernel_rfl)) (fun _ _ _ h => h) (Or.inl ⟨by rfl, ?_⟩) ?_ ?_
                   rotate_left
                   ·intro w'
                    go_simp
                    with_reducible rfl
                   rotate_left
                   ·simp only [Act.put, List.setIfInBounds_toArray, List.set_cons_zero, List.set_cons_succ, i64_w, i32_w]
                    rfl
                   refine pure_ (i := 5) (N := some 60) (v := ?_) (a' := ?_) #[true, true, true, true, false, true, false, false, false, false, false] rfl rfl (any_of HT_.out (by kernel_rfl)) (fun _ _ _ h => h) (Or.inl ⟨by rfl, ?_⟩) ?_ ?_
                   rotate_left
                   ·intro w'
                    go_simp
                    with_reducible rfl
                   rotate_left
                   ·simp only [Act.put, List.setIfInBounds_toArray, List.set_cons_zero, List.set_cons_succ, i64_w, i32_w]
                    rfl
                   refine pure_ (i := 6) (N := some 61) (v := ?_) (a' := ?_) #[true, true, true, true, false, true, true, false, false, false, false] rfl rfl (any_of HT_.out (by kernel_rfl)) (fun _ _ _ h => h) (Or.inl ⟨by rfl, ?_⟩) ?_ ?_
                   rotate_left
                   ·intro w'
                    go_simp
                    with_reducible rfl
                   rotate_left
                   ·simp only [Act.put, List.setIfInBounds_toArray, List.set_cons_zero, List.set_cons_succ, i64_w, i32_w]
                    rfl
                   refine pure_ (i := 7) (N := some 62) (v := ?_) (a' := ?_) #[true, true, true, true, false, true, true, true, false, false, false] rfl rfl (any_of HT_.out (by kernel_rfl)) (fun _ _ _ h => h) (Or.inl ⟨by rfl, ?_⟩) ?_ ?_
                   rotate_left
                   ·intro w'
                    go_simp
                    with_reducible rfl
                   rotate_left
                   ·simp only [Act.put, List.setIfInBounds_toArray, List.set_cons_zero, List.set_cons_succ, i64_w, i32_w]
                    rfl
                   refine take_ (i := 4) (N := some 59) (v := ?_) (a' := ?_) #[true, true, true, true, true, true, true, true, false, false, false] rfl rfl (take_ofW HT_.out HW_.out (by kernel_rfl)) (fun _ _ _ h => h) (Or.inl ⟨by rfl, ?_⟩) hHeld ?_ ?_
                   rotate_left
                   ·rintro w' ⟨s0, s1⟩
                    go_simp
                    with_reducible rfl
                   rotate_left
                   ·simp only [Act.put, List.setIfInBounds_toArray, List.set_cons_zero, List.set_cons_succ, i64_w, i32_w]
                    rfl
                   refine take_ (i := 8) (N := some 63) (v := ?_) (a' := ?_) #[true, true, true, true, true, true, true, true, true, false, false] rfl rfl (take_ofW HT_.out HW_.out (by kernel_rfl)) (fun _ _ _ h => h) (Or.inl ⟨by rfl, ?_⟩) hHeld ?_ ?_
                   rotate_left
                   ·rintro w' ⟨s0, s1⟩
                    go_simp
                    with_reducible rfl
                   rotate_left
                   ·simp only [Act.put, List.setIfInBounds_toArray, List.set_cons_zero, List.set_cons_succ, i64_w, i32_w]
                    rfl
                   refine pure_ (i := 9) (N := some 64) (v := ?_) (a' := ?_) #[true, true, true, true, true, true, true, true, true, true, false] rfl rfl (any_of HT_.out (by kernel_rfl)) (fun _ _ _ h => h) (Or.inl ⟨by rfl, ?_⟩) ?_ ?_
                   rotate_left
                   ·intro w'
                    go_simp
                    with_reducible rfl
                   rotate_left
                   ·simp only [Act.put, List.setIfInBounds_toArray, List.set_cons_zero, List.set_cons_succ, i64_w, i32_w]
                    rfl
                   refine last_ (i := 10) (N := none) #[true, true, true, true, true, true, true, true, true, true, true] rfl rfl (one_of HT_.out (by kernel_rfl)) (by decide) (fun K hK => ?_)
                   refine skip_ (w1 := ?_) (by rfl) rfl ?_ ?_
                   rotate_left
                   ·go_simp
                    rfl
                   refine hK.out _ _ ?_
                   clear hK K
                   refine done_ (done_of HT_.out (by kernel_rfl)) ?_
                   try go_wp2
                   go_roundg k3
                   case measure => have := HJ2.out; have := HK2.out; have := HK3.out; omega
                   case rel => exact ⟨(y203), (y200), (wrap64 (x11_3 + 1)), (by first | rfl | (simp; done) | (simp [*]; done)), H', ⟨by have := HJ2.out; have := HK2.out; have := HK3.out; omega⟩, ⟨by (with_reducible repeat (first | apply Kd.R_alloc | apply Kd.R_drewN | apply Kd.R_drew)); exact Kd.R_mono (Kd.R_far (p := ⟨go27, ((rd l1 x11_3) : Int).toNat, none⟩) (Kd.R_mono HO_8.out (fun k_ hk => (⟨hk, fun e_ => hk (by rw [e_]; rfl)⟩ : _ ∧ k_ ≠ go27))) (fun _ hk => hk.2) (.int .i64 (rd t188 x11_3))) (fun _ hk => hk.1)⟩, ⟨by (with_reducible repeat (first | apply Kd.R_alloc | apply Kd.R_drewN | apply Kd.R_drew)); exact HQ33.out⟩, ⟨by (with_reducible repeat (first | apply Kd.R_alloc | apply Kd.R_drewN | apply Kd.R_drew)); exact Kd.R_mono (Kd.R_far (p := ⟨go27, ((rd l1 x11_3) : Int).toNat, none⟩) (Kd.R_types HO_10.out GG27.out (by decide)) (fun _ hk => hk.2) (.int .i64 (rd t188 x11_3))) (fun _ hk => trivial)⟩, ⟨by repeat (first | (with_reducible first | exact HB.out | apply below_alloc | apply pw_below_drewN | apply below_drew1 | refine below_set ?_ GB27.out) | exact HB.out)⟩⟩
                  ·rw [if_neg c26] at H
                   exact absurd H (by simp)
                 ·rw [if_neg c25] at H
                  exact absurd H (by simp)
               ·rw [if_neg c20] at H
                exact absurd H (by simp)
              ·rw [if_neg c19] at H
               exact absurd H (by simp)
             ·rw [if_neg c18] at H
              exact absurd H (by simp)
            ·rw [if_neg c17] at H
             have c17b0 : decide (x11_3 < (l1.length : Int)) = false := decide_eq_false c17
             clear c17
             replace H := Option.bind_eq_some_iff.mp H
             obtain ⟨t204, A340, H⟩ := H
             replace H : (some (t204, 0)) = some (r1, r2) := H
             have A34 := Aside0.mk A340
             clear A340
             simp only [Option.some.injEq, Prod.mk.injEq] at H
             obtain ⟨rfl, rfl⟩ := H
             obtain ⟨Ao35, co35, eo35⟩ := Kd.R_slice HO_9.out
             subst eo35
             go_wp2_with (first | ((with_reducible refine gate_callee (f := 30) rfl ?_); refine goesL_ (some 66) rfl rfl Try.func30 (by kernel_rfl) rfl #[.slice Ao35 x9_3.length co35] rfl mO ?_; (with_reducible refine (tabardref02_Letter.calls k3 _ _ x9_3 t204 _ ?side1 ?side2 A34.out).mono ?_); (case side1 => exact cO (Kd.R_reads' HO_9.out).2.2); (case side2 => exact (Kd.R_reads' HO_9.out).2.1); rintro e w' ⟨rfl, ⟨nd, rfl⟩⟩; refine ⟨_, rfl, ?_⟩))
             go_ret2
             exact ⟨by first | rfl | (simp [errW_none, errW_some] <;> rfl) | (simp [*, errW_none, errW_some] <;> rfl), bO HB.out⟩
         ·rw [if_neg c11] at H
          exact absurd H (by simp)
        ·rw [if_neg c10] at H
         exact absurd H (by simp)

end Go.Proofs.Ytpekanolhgcljaa.X

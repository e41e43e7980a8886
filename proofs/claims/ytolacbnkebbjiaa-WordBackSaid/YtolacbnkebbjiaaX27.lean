/- What the functions of this seat compute, and that the program's calls come to just that: written by this session's own program out of the translation; no condition. -/
import Derived.Test.YtolacbnkebbjiaaX0
import Derived.Test.YtolacbnkebbjiaaX19
import Derived.Test.YtolacbnkebbjiaaX26
namespace Go.Proofs.Ytolacbnkebbjiaa.X
open Go.RowKit Go.Proofs.YtolacbnkebbjiaaW.PrintWords Go.Proofs.YtolacbnkebbjiaaW.PrintLast Go.Proofs.YtolacbnkebbjiaaW.PrintMore
attribute [local go_sem] max2_int min2_int max_two min_two max_three min_three max_four min_four   -- for this text's walks alone
set_option linter.unusedVariables false
set_option linter.unusedSimpArgs false

/-! ### word_Decode: function 25 -/
mutual
def word_Decode.j0 : Nat → List Int → Int → Bool → Option (List Int × Int)
 | 0, _, _, _ => none
 | k + 1, x0, x1, x13 => if x13 = true then (some (([] : List Int), 150)) else (if (x0.length : Int) = 0 then (some (([] : List Int), 3)) else (if (x0.length : Int) > 64 then (some (([] : List Int), 31)) else (word_Decode.l0 k x0 x1 x0 (x0.length : Int) 0)))
def word_Decode.l0 : Nat → List Int → Int → List Int → Int → Int → Option (List Int × Int)
 | 0, _, _, _, _, _ => none
 | k + 1, x0, x1, x28, x29, x30 => if x30 < x29 then (if 0 ≤ x30 then (if x30 < (x28.length : Int) then (if (rd x28 x30) < 0 then (some (([] : List Int), 30)) else (if 0 ≤ x1 then (if (rd x28 x30) ≥ (shl .i64 1 x1) then (some (([] : List Int), 30)) else (word_Decode.l0 k x0 x1 x28 x29 (wrap64 (x30 + 1)))) else (none))) else (none)) else (none)) else (if 0 ≤ x1 then (if (x1 : Int).toNat ≤ 35184372088832 then ((some (List.replicate (x1 : Int).toNat 0 : List Int)).bind fun y540 => (if 0 ≤ (x0.length : Int) then (if ((x0.length : Int) : Int).toNat ≤ 35184372088832 then (word_Decode.l1 k x0 y540 (List.replicate ((x0.length : Int) : Int).toNat 0) (y540.length : Int) 0) else (none)) else (none))) else (none)) else (none))
def word_Decode.l1 : Nat → List Int → List Int → List Int → Int → Int → Option (List Int × Int)
 | 0, _, _, _, _, _ => none
 | k + 1, x0, x8, x9, x49, x50 => if x50 < x49 then (word_Decode.l2 k x0 x8 x9 x50 x49 x50 x0 (x0.length : Int) 0) else (some (x8, 0))
def word_Decode.l2 : Nat → List Int → List Int → List Int → Int → Int → Int → List Int → Int → Int → Option (List Int × Int)
 | 0, _, _, _, _, _, _, _, _, _ => none
 | k + 1, x0, x8, x9, x10, x49, x50, x53, x54, x55 => if x55 < x54 then (if 0 ≤ x55 then (if x55 < (x53.length : Int) then ((bits_Digit.f (rd x53 x55) x10).bind fun t547 => (if x55 < (x9.length : Int) then (word_Decode.l2 k x0 x8 (x9.set (x55 : Int).toNat t547) x10 x49 x50 x53 x54 (wrap64 (x55 + 1))) else (none))) else (none)) else (none)) else ((word_Number.f k x9).bind fun bt549 => (if 0 ≤ x10 then (if x10 < (x8.length : Int) then (word_Decode.l1 k x0 (x8.set (x10 : Int).toNat bt549.1) x9 x49 (wrap64 (x50 + 1))) else (none)) else (none)))
end
def word_Decode.f (k : Nat) (l0 : List Int) (a1 : Int) : Option (List Int × Int) := if a1 < 0 then (word_Decode.j0 k l0 a1 true) else (word_Decode.j0 k l0 a1 (decide (a1 > 6)))
theorem word_Decode.mono_l : ∀ k, (∀ y0 y1 y2, LeO (word_Decode.j0 k y0 y1 y2) (word_Decode.j0 (k + 1) y0 y1 y2)) ∧ (∀ y0 y1 y2 y3 y4, LeO (word_Decode.l0 k y0 y1 y2 y3 y4) (word_Decode.l0 (k + 1) y0 y1 y2 y3 y4)) ∧ (∀ y0 y1 y2 y3 y4, LeO (word_Decode.l1 k y0 y1 y2 y3 y4) (word_Decode.l1 (k + 1) y0 y1 y2 y3 y4)) ∧ (∀ y0 y1 y2 y3 y4 y5 y6 y7 y8, LeO (word_Decode.l2 k y0 y1 y2 y3 y4 y5 y6 y7 y8) (word_Decode.l2 (k + 1) y0 y1 y2 y3 y4 y5 y6 y7 y8))
 | 0 => ⟨fun _ _ _ r h => by simp [word_Decode.j0] at h, fun _ _ _ _ _ r h => by simp [word_Decode.l0] at h, fun _ _ _ _ _ r h => by simp [word_Decode.l1] at h, fun _ _ _ _ _ _ _ _ _ r h => by simp [word_Decode.l2] at h⟩
 | k + 1 => by
  obtain ⟨ih0, ih1, ih2, ih3⟩ := word_Decode.mono_l k
  refine ⟨?_, ?_, ?_, ?_⟩
  ·intro y0 y1 y2
   unfold word_Decode.j0
   repeat' first
   | (with_reducible exact ih0 _ _ _)
   | (with_reducible exact ih1 _ _ _ _ _)
   | (with_reducible exact ih2 _ _ _ _ _)
   | (with_reducible exact ih3 _ _ _ _ _ _ _ _ _)
   | (with_reducible exact word_Number.mono _ _)
   | (with_reducible exact LeO.refl _)
   | (with_reducible exact LeO.none _)
   | (with_reducible refine LeO.ite ?_ ?_)
   | (with_reducible refine LeO.bind ?_ (fun _ => ?_))
   | exact ih0 _ _ _
   | exact ih1 _ _ _ _ _
   | exact ih2 _ _ _ _ _
   | exact ih3 _ _ _ _ _ _ _ _ _
   | exact word_Number.mono _ _
   | exact LeO.none _
   | refine LeO.ite ?_ ?_
   | refine LeO.bind ?_ (fun _ => ?_)
  ·intro y0 y1 y2 y3 y4
   unfold word_Decode.l0
   repeat' first
   | (with_reducible exact ih0 _ _ _)
   | (with_reducible exact ih1 _ _ _ _ _)
   | (with_reducible exact ih2 _ _ _ _ _)
   | (with_reducible exact ih3 _ _ _ _ _ _ _ _ _)
   | (with_reducible exact word_Number.mono _ _)
   | (with_reducible exact LeO.refl _)
   | (with_reducible exact LeO.none _)
   | (with_reducible refine LeO.ite ?_ ?_)
   | (with_reducible refine LeO.bind ?_ (fun _ => ?_))
   | exact ih0 _ _ _
   | exact ih1 _ _ _ _ _
   | exact ih2 _ _ _ _ _
   | exact ih3 _ _ _ _ _ _ _ _ _
   | exact word_Number.mono _ _
   | exact LeO.none _
   | refine LeO.ite ?_ ?_
   | refine LeO.bind ?_ (fun _ => ?_)
  ·intro y0 y1 y2 y3 y4
   unfold word_Decode.l1
   repeat' first
   | (with_reducible exact ih0 _ _ _)
   | (with_reducible exact ih1 _ _ _ _ _)
   | (with_reducible exact ih2 _ _ _ _ _)
   | (with_reducible exact ih3 _ _ _ _ _ _ _ _ _)
   | (with_reducible exact word_Number.mono _ _)
   | (with_reducible exact LeO.refl _)
   | (with_reducible exact LeO.none _)
   | (with_reducible refine LeO.ite ?_ ?_)
   | (with_reducible refine LeO.bind ?_ (fun _ => ?_))
   | exact ih0 _ _ _
   | exact ih1 _ _ _ _ _
   | exact ih2 _ _ _ _ _
   | exact ih3 _ _ _ _ _ _ _ _ _
   | exact word_Number.mono _ _
   | exact LeO.none _
   | refine LeO.ite ?_ ?_
   | refine LeO.bind ?_ (fun _ => ?_)
  ·intro y0 y1 y2 y3 y4 y5 y6 y7 y8
   unfold word_Decode.l2
   repeat' first
   | (with_reducible exact ih0 _ _ _)
   | (with_reducible exact ih1 _ _ _ _ _)
   | (with_reducible exact ih2 _ _ _ _ _)
   | (with_reducible exact ih3 _ _ _ _ _ _ _ _ _)
   | (with_reducible exact word_Number.mono _ _)
   | (with_reducible exact LeO.refl _)
   | (with_reducible exact LeO.none _)
   | (with_reducible refine LeO.ite ?_ ?_)
   | (with_reducible refine LeO.bind ?_ (fun _ => ?_))
   | exact ih0 _ _ _
   | exact ih1 _ _ _ _ _
   | exact ih2 _ _ _ _ _
   | exact ih3 _ _ _ _ _ _ _ _ _
   | exact word_Number.mono _ _
   | exact LeO.none _
   | refine LeO.ite ?_ ?_
   | refine LeO.bind ?_ (fun _ => ?_)
theorem word_Decode.mono : ∀ a0 a1 k, LeO (word_Decode.f k a0 a1) (word_Decode.f (k + 1) a0 a1) := by
 intro a0 a1 k
 obtain ⟨ih0, ih1, ih2, ih3⟩ := word_Decode.mono_l k
 unfold word_Decode.f
 repeat' first
   | (with_reducible exact ih0 _ _ _)
   | (with_reducible exact ih1 _ _ _ _ _)
   | (with_reducible exact ih2 _ _ _ _ _)
   | (with_reducible exact ih3 _ _ _ _ _ _ _ _ _)
   | (with_reducible exact word_Number.mono _ _)
   | (with_reducible exact LeO.refl _)
   | (with_reducible exact LeO.none _)
   | (with_reducible refine LeO.ite ?_ ?_)
   | (with_reducible refine LeO.bind ?_ (fun _ => ?_))
   | exact ih0 _ _ _
   | exact ih1 _ _ _ _ _
   | exact ih2 _ _ _ _ _
   | exact ih3 _ _ _ _ _ _ _ _ _
   | exact word_Number.mono _ _
   | exact LeO.none _
   | refine LeO.ite ?_ ?_
   | refine LeO.bind ?_ (fun _ => ?_)
set_option maxHeartbeats 8000000 in
set_option maxRecDepth 100000 in
theorem word_Decode.calls (k : Nat) (A0 : Option Addr) (c0 : Nat) (l0 : List Int) (a1 : Int) (r1 : List Int) (r2 : Int) (w : World) (hr0 : Kd.C (Kd.int .i64) w A0 l0.length l0) (hc0 : l0.length ≤ c0) (h : word_Decode.f k l0 a1 = some (r1, r2)) :
  Calls Try.prog 25 #[.slice A0 l0.length c0, .int .i64 a1] w fun e w' => ∃ v0_ : Value, e = .returned (.tuple #[v0_, .int .i64 r2]) ∧ Kd.R (Kd.int .i64) 2 w' w.heap.size (fun _ => True) v0_ r1 ∧ Below w.heap.size w w' := by
 have HR0 := Aside0.mk hr0
 have HC0 := Aside0.mk hc0
 clear hr0 hc0
 have HB := Aside0.mk (Below.refl w.heap.size w)
 have H : (if a1 < 0 then (word_Decode.j0 k l0 a1 true) else (word_Decode.j0 k l0 a1 (decide (a1 > 6)))) = some (r1, r2) := h
 clear h
 have HC3 := Aside0.mk H
 clear H
 go_enter Try.func25, Try.ntmps25
 go_upto_region 1 with (fail)
 go_cut [13] (fun v13 wc => ∃ (kq : Nat) (x13_2 : Bool), v13 = .bool x13_2 ∧ Aside0 (word_Decode.j0 kq l0 a1 x13_2 = some (r1, r2)) ∧ Aside0 (kq ≤ k) ∧ Aside0 (Below w.heap.size w wc))
 case first =>
  have H := HC3.out
  clear HC3
  by_cases c4 : a1 < 0
  ·rw [if_pos c4] at H
   have c4b0 : decide (a1 < 0) = true := decide_eq_true c4
   clear c4
   (first | rw [c4b0] | (simp only [i64_w, i32_w]; rw [c4b0]) | skip)
   have H' := Aside0.mk H
   clear H
   go_wp2
   go_meet
   case rel => exact ⟨_, (true), (by first | rfl | (simp; done) | (simp [*]; done)), H', ⟨by first | omega | exact Nat.le_refl _⟩, ⟨bO HB.out⟩⟩
  ·rw [if_neg c4] at H
   have c4b0 : decide (a1 < 0) = false := decide_eq_false c4
   clear c4
   (first | rw [c4b0] | (simp only [i64_w, i32_w]; rw [c4b0]) | skip)
   have H' := Aside0.mk H
   clear H
   go_wp2
   go_meet
   case rel => exact ⟨_, (decide (a1 > 6)), (by first | rfl | (simp; done) | (simp [*]; done)), H', ⟨by first | omega | exact Nat.le_refl _⟩, ⟨bO HB.out⟩⟩
 case rest =>
  clear HC3
  try clear c2
  try clear p2
  try clear c4
  try clear c4b0
  obtain ⟨kq, x13_2, rfl, HA, HJ2, HB⟩ := hcut
  cases kq with
  | zero => exact absurd HA.out (by simp [word_Decode.j0])
  | succ kj2 =>
   have H := HA.out
   clear HA
   simp only [word_Decode.j0] at H
   by_cases c5 : x13_2 = true
   ·subst c5
    have H1 : (some (([] : List Int), 150)) = some (r1, r2) := by rw [if_pos rfl] at H; exact H
    clear H
    have H := H1
    clear H1
    simp only [Option.some.injEq, Prod.mk.injEq] at H
    obtain ⟨rfl, rfl⟩ := H
    go_wp2
    go_ret2
    exact ⟨_, by first | rfl | (simp [errW_none, errW_some] <;> rfl) | (simp [*, errW_none, errW_some] <;> rfl), by first | exact Kd.R_nil _ _ _ _ _ | exact Kd.N_nil _ _ _ _ _ | exact Kd.V_nil _ _ _ _ _ | exact Kd.Q_nil _ _ _ _ _ | exact Kd.S_nil _ _ _ _ _, bO HB.out⟩
   ·replace c5 := Bool.eq_false_iff.mpr c5
    subst c5
    have H1 : (if (l0.length : Int) = 0 then (some (([] : List Int), 3)) else (if (l0.length : Int) > 64 then (some (([] : List Int), 31)) else (word_Decode.l0 kj2 l0 a1 l0 (l0.length : Int) 0))) = some (r1, r2) := by rw [if_neg (show ¬ (false = true) by decide)] at H; exact H
    clear H
    have H := H1
    clear H1
    by_cases c6 : (l0.length : Int) = 0
    ·rw [if_pos c6] at H
     have c6b0 : ((l0.length : Int) == 0) = true := beq_iff_eq.mpr c6
     have c6b1 : ((l0.length : Int) != 0) = false := bne_eq_false_iff_eq.mpr c6
     clear c6
     simp only [Option.some.injEq, Prod.mk.injEq] at H
     obtain ⟨rfl, rfl⟩ := H
     go_wp2
     go_ret2
     exact ⟨_, by first | rfl | (simp [errW_none, errW_some] <;> rfl) | (simp [*, errW_none, errW_some] <;> rfl), by first | exact Kd.R_nil _ _ _ _ _ | exact Kd.N_nil _ _ _ _ _ | exact Kd.V_nil _ _ _ _ _ | exact Kd.Q_nil _ _ _ _ _ | exact Kd.S_nil _ _ _ _ _, bO HB.out⟩
    ·rw [if_neg c6] at H
     have c6b0 : ((l0.length : Int) == 0) = false := beq_eq_false_iff_ne.mpr c6
     have c6b1 : ((l0.length : Int) != 0) = true := bne_iff_ne.mpr c6
     have c6b2 : ¬ (l0 = []) := fun h_ => c6 (by rw [h_]; rfl)
     by_cases c7 : (l0.length : Int) > 64
     ·rw [if_pos c7] at H
      have c7b0 : decide (64 < (l0.length : Int)) = true := decide_eq_true c7
      have c7b1 : decide (64 < l0.length) = true := decide_eq_true (by omega)
      clear c7
      simp only [Option.some.injEq, Prod.mk.injEq] at H
      obtain ⟨rfl, rfl⟩ := H
      go_wp2
      go_ret2
      exact ⟨_, by first | rfl | (simp [errW_none, errW_some] <;> rfl) | (simp [*, errW_none, errW_some] <;> rfl), by first | exact Kd.R_nil _ _ _ _ _ | exact Kd.N_nil _ _ _ _ _ | exact Kd.V_nil _ _ _ _ _ | exact Kd.Q_nil _ _ _ _ _ | exact Kd.S_nil _ _ _ _ _, bO HB.out⟩
     ·rw [if_neg c7] at H
      have c7b0 : decide (64 < (l0.length : Int)) = false := decide_eq_false c7
      have c7b1 : decide (64 < l0.length) = false := decide_eq_false (by omega)
      clear c7
      have H' := Aside0.mk H
      clear H
      go_wp2
      go_loopg [30] kj2 (fun kq v30 w' => ∃ (x30_2 : Int), v30 = .int .i64 x30_2 ∧ Aside0 (word_Decode.l0 kq l0 a1 l0 (l0.length : Int) x30_2 = some (r1, r2)) ∧ Aside0 (kq ≤ kj2) ∧ Aside0 (Below w.heap.size w w'))
      case atStart => exact ⟨(0), (by first | rfl | (simp; done) | (simp [*]; done)), H', ⟨Nat.le_refl _⟩, ⟨bO HB.out⟩⟩
      case round =>
       clear H'
       try clear c2
       try clear p2
       try clear c4
       try clear c4b0
       try clear c5
       try clear c6
       try clear c6b0
       try clear c6b1
       try clear c6b2
       try clear c7
       try clear c7b0
       try clear c7b1
       try clear p2
       obtain ⟨x30_2, rfl, HA, HK2, HB⟩ := hrel
       cases gk with
       | zero => exact absurd HA.out (by simp [word_Decode.l0])
       | succ k2 =>
        have H := HA.out
        clear HA
        simp only [word_Decode.l0] at H
        by_cases c8 : x30_2 < (l0.length : Int)
        ·rw [if_pos c8] at H
         have c8b0 : decide (x30_2 < (l0.length : Int)) = true := decide_eq_true c8
         clear c8
         by_cases c9 : 0 ≤ x30_2
         ·rw [if_pos c9] at H
          have c9b0 : decide (0 ≤ x30_2) = true := decide_eq_true c9
          clear c9
          by_cases c10 : x30_2 < (l0.length : Int)
          ·rw [if_pos c10] at H
           have c10b0 : decide (x30_2 < (l0.length : Int)) = true := decide_eq_true c10
           clear c10
           by_cases c11 : (rd l0 x30_2) < 0
           ·rw [if_pos c11] at H
            have c11b0 : decide ((rd l0 x30_2) < 0) = true := decide_eq_true c11
            clear c11
            simp only [Option.some.injEq, Prod.mk.injEq] at H
            obtain ⟨rfl, rfl⟩ := H
            have p539 : 0 ≤ (x30_2 : Int) := of_decide_eq_true aO
            have q539 : x30_2 < (l0.length : Int) := of_decide_eq_true aO
            obtain ⟨ad539, e539, hx539_0⟩ := Kd.at_int HR0.out x30_2 p539 q539
            cases e539
            replace hx539_0 := (HB.out.cell (World.block_lt_of_cell? w _ hx539_0)).trans hx539_0
            replace p539 := eq_true p539
            replace q539 := eq_true q539
            go_wp2
            go_ret2
            exact ⟨_, by first | rfl | (simp [errW_none, errW_some] <;> rfl) | (simp [*, errW_none, errW_some] <;> rfl), by first | exact Kd.R_nil _ _ _ _ _ | exact Kd.N_nil _ _ _ _ _ | exact Kd.V_nil _ _ _ _ _ | exact Kd.Q_nil _ _ _ _ _ | exact Kd.S_nil _ _ _ _ _, bO HB.out⟩
           ·rw [if_neg c11] at H
            have c11b0 : decide ((rd l0 x30_2) < 0) = false := decide_eq_false c11
            clear c11
            by_cases c12 : 0 ≤ a1
            ·rw [if_pos c12] at H
             have c12b0 := eq_true c12
             have c12b1 : decide (0 ≤ a1) = true := decide_eq_true c12
             clear c12
             obtain ⟨ji13, hji13⟩ : ∃ j_ : Int, (shl .i64 1 a1) = j_ := ⟨_, rfl⟩
             replace H : (if (rd l0 x30_2) ≥ (ji13) then (some (([] : List Int), 30)) else (word_Decode.l0 k2 l0 a1 l0 (l0.length : Int) (wrap64 (x30_2 + 1)))) = some (r1, r2) := by first | (rw [hji13] at H; exact H) | (simp only [hji13] at H ⊢; exact H)
             have hji13_ : (IntKind.i64.wrap (1 * 2 ^ min a1.toNat 64)) = ji13 := hji13
             have hji13z : a1 ≤ 64 → (IntKind.i64.wrap (1 * 2 ^ a1.toNat)) = ji13 := shl_small hji13
             have hji13u : (IntKind.i64.wrap (2 ^ min a1.toNat 64)) = ji13 := by have h_ := hji13_; rw [Int.one_mul] at h_; exact h_
             have hji13v : a1 ≤ 64 → (IntKind.i64.wrap (2 ^ a1.toNat)) = ji13 := fun hle_ => by have h_ := hji13z hle_; rw [Int.one_mul] at h_; exact h_
             have hji13y : (wrap64 (1 * 2 ^ min a1.toNat 64)) = ji13 := (i64_w _).symm.trans hji13_
             have hji13x : a1 ≤ 64 → (wrap64 (1 * 2 ^ a1.toNat)) = ji13 := fun h_ => (i64_w _).symm.trans (hji13z h_)
             by_cases c14 : (rd l0 x30_2) ≥ (ji13)
             ·rw [if_pos c14] at H
              have c14b0 : decide ((ji13) ≤ (rd l0 x30_2)) = true := decide_eq_true c14
              clear c14
              simp only [Option.some.injEq, Prod.mk.injEq] at H
              obtain ⟨rfl, rfl⟩ := H
              have p539 : 0 ≤ (x30_2 : Int) := of_decide_eq_true aO
              have q539 : x30_2 < (l0.length : Int) := of_decide_eq_true aO
              obtain ⟨ad539, e539, hx539_0⟩ := Kd.at_int HR0.out x30_2 p539 q539
              cases e539
              replace hx539_0 := (HB.out.cell (World.block_lt_of_cell? w _ hx539_0)).trans hx539_0
              replace p539 := eq_true p539
              replace q539 := eq_true q539
              go_wp2
              go_ret2
              exact ⟨_, by first | rfl | (simp [errW_none, errW_some] <;> rfl) | (simp only [← hji13]; first | rfl | (simp [errW_none, errW_some] <;> rfl)) | (simp [*, errW_none, errW_some] <;> rfl), by first | exact Kd.R_nil _ _ _ _ _ | exact Kd.N_nil _ _ _ _ _ | exact Kd.V_nil _ _ _ _ _ | exact Kd.Q_nil _ _ _ _ _ | exact Kd.S_nil _ _ _ _ _, bO HB.out⟩
             ·rw [if_neg c14] at H
              have c14b0 : decide ((ji13) ≤ (rd l0 x30_2)) = false := decide_eq_false c14
              clear c14
              have H' := Aside0.mk H
              clear H
              have p539 : 0 ≤ (x30_2 : Int) := of_decide_eq_true aO
              have q539 : x30_2 < (l0.length : Int) := of_decide_eq_true aO
              obtain ⟨ad539, e539, hx539_0⟩ := Kd.at_int HR0.out x30_2 p539 q539
              cases e539
              replace hx539_0 := (HB.out.cell (World.block_lt_of_cell? w _ hx539_0)).trans hx539_0
              replace p539 := eq_true p539
              replace q539 := eq_true q539
              go_wp2
              go_roundg k2
              case measure => have := HJ2.out; have := HK2.out; omega
              case rel => exact ⟨(wrap64 (x30_2 + 1)), (by first | rfl | (simp; done) | (simp [*]; done)), H', ⟨by have := HJ2.out; have := HK2.out; omega⟩, ⟨bO HB.out⟩⟩
            ·rw [if_neg c12] at H
             exact absurd H (by simp)
          ·rw [if_neg c10] at H
           exact absurd H (by simp)
         ·rw [if_neg c9] at H
          exact absurd H (by simp)
        ·rw [if_neg c8] at H
         have c8b0 : decide (x30_2 < (l0.length : Int)) = false := decide_eq_false c8
         clear c8
         by_cases c15 : 0 ≤ a1
         ·rw [if_pos c15] at H
          have c15b0 := eq_true c15
          have c15b1 : decide (0 ≤ a1) = true := decide_eq_true c15
          clear c15
          by_cases c16 : (a1 : Int).toNat ≤ 35184372088832
          ·rw [if_pos c16] at H
           have c16b0 := eq_true c16
           have c16b1 : decide ((a1 : Int).toNat ≤ 35184372088832) = true := decide_eq_true c16
           clear c16
           obtain ⟨y540, hy540⟩ : ∃ y_ : List Int, y_ = (List.replicate (a1 : Int).toNat 0) := ⟨_, rfl⟩
           replace H : (if 0 ≤ (l0.length : Int) then (if ((l0.length : Int) : Int).toNat ≤ 35184372088832 then (word_Decode.l1 k2 l0 y540 (List.replicate ((l0.length : Int) : Int).toNat 0) (y540.length : Int) 0) else (none)) else (none)) = some (r1, r2) := by first | (rw [hy540]; with_reducible exact H) | (have H2_ := (Option.bind_some _ _).symm.trans H; rw [hy540]; with_reducible exact H2_) | (have H2_ := (Option.bind_some _ _).symm.trans H; with_reducible exact H2_) | with_reducible exact H | (rw [hy540]; exact H) | exact H
           have Ny540 := Aside0.mk hy540
           clear hy540
           by_cases c17 : 0 ≤ (l0.length : Int)
           ·rw [if_pos c17] at H
            have c17b0 := eq_true c17
            have c17b1 : decide (0 ≤ (l0.length : Int)) = true := decide_eq_true c17
            clear c17
            by_cases c18 : ((l0.length : Int) : Int).toNat ≤ 35184372088832
            ·rw [if_pos c18] at H
             have c18b0 := eq_true c18
             have c18b1 : decide (((l0.length : Int) : Int).toNat ≤ 35184372088832) = true := decide_eq_true c18
             clear c18
             obtain ⟨y543, hy543⟩ : ∃ y_ : List Int, y_ = (List.replicate ((l0.length : Int) : Int).toNat 0) := ⟨_, rfl⟩
             replace H : (word_Decode.l1 k2 l0 y540 y543 (y540.length : Int) 0) = some (r1, r2) := by first | (rw [hy543]; with_reducible exact H) | (have H2_ := (Option.bind_some _ _).symm.trans H; rw [hy543]; with_reducible exact H2_) | (have H2_ := (Option.bind_some _ _).symm.trans H; with_reducible exact H2_) | with_reducible exact H | (rw [hy543]; exact H) | exact H
             have Ny543 := Aside0.mk hy543
             clear hy543
             have H' := Aside0.mk H
             clear H
             go_wp2_with (first | ((with_reducible refine gate_dst (N := 44) rfl ?_); refine Kd.R_make (Kd.int .i64) _ 2 rfl (N := 44) rfl 22 _ _ rfl a1 rfl rfl Try.underlying22 (.int .i64 0) 8 info2 rfl (by decide) (by omega) 0 (ok := fun _ => True) (okp := fun _ => True) rfl (fun _ hk => hk) trivial (of_decide_eq_true aO) (Nat.le_trans (Nat.mul_le_mul_right _ (of_decide_eq_true aO : a1.toNat ≤ 35184372088832)) (by omega)) (Below.refl _ _) (Nat.le_refl _) ?_; intro v541 w19 ho20 hb hg_ hnew_; clear hg_ hnew_; (first | rw [← Ny540.out] at ho20 | (simp only [Int.reduceToNat] at ho20; rw [← Ny540.out] at ho20)); have n0_ := Aside0.mk (Kd.R_lower ho20 (below_size (bO HB.out))); have n1_ := Aside0.mk (below_step (bO HB.out) hb); clear HB; have HO542 := n0_; have HB := n1_; clear n0_ n1_; clear hb ho20) | ((with_reducible refine gate_dst (N := 47) rfl ?_); refine Kd.R_make (Kd.int .i64) _ 3 rfl (N := 47) rfl 23 _ _ rfl (l0.length : Int) rfl rfl Try.underlying23 (.int .i64 0) 8 info3 rfl (by decide) (by omega) 0 (ok := fun _ => True) (okp := fun _ => True) rfl (fun _ hk => hk) trivial (of_decide_eq_true aO) (Nat.le_trans (Nat.mul_le_mul_right _ (of_decide_eq_true aO : (l0.length : Int).toNat ≤ 35184372088832)) (by omega)) (Below.refl _ _) (Nat.le_refl _) ?_; intro v544 w21 ho22 hb hg_ hnew_; clear hg_ hnew_; (first | rw [← Ny543.out] at ho22 | (simp only [Int.reduceToNat] at ho22; rw [← Ny543.out] at ho22)); have n0_ := Aside0.mk (Kd.R_below (rO HO542.out) hb); have n1_ := Aside0.mk (Kd.R_lower ho22 (below_size (bO HB.out))); have n2_ := Aside0.mk (below_step (bO HB.out) hb); clear HO542; clear HB; have HO542 := n0_; have HO545 := n1_; have HB := n2_; clear n0_ n1_ n2_; clear hb ho22; obtain ⟨Ao23, co23, eo23⟩ := Kd.R_slice HO542.out; subst eo23))
             go_loopg [50] k2 (fun kq v50 w' => ∃ (x8_3 : List Int) (x9_3 : List Int) (x50_3 : Int), v50 = .int .i64 x50_3 ∧ Aside0 (word_Decode.l1 kq l0 x8_3 x9_3 (y540.length : Int) x50_3 = some (r1, r2)) ∧ Aside0 (kq ≤ k2) ∧ Aside0 (Kd.R (Kd.int .i64) 2 w' w.heap.size (fun _ => True) (.slice Ao23 y540.length co23) x8_3) ∧ Aside0 (Kd.R (Kd.int .i64) 3 w' w.heap.size (fun _ => True) v544 x9_3) ∧ Aside0 (Below w.heap.size w w'))
             case atStart => exact ⟨(y540), (y543), (0), (by first | rfl | (simp; done) | (simp [*]; done)), H', ⟨Nat.le_refl _⟩, ⟨rO HO542.out⟩, ⟨rO HO545.out⟩, ⟨bO HB.out⟩⟩
             case round =>
              clear H'
              try clear c1
              try clear c2
              try clear p2
              try clear c4
              try clear c4b0
              try clear c5
              try clear p5
              try clear q5
              try clear hx5
              try clear c6
              try clear c6b0
              try clear c6b1
              try clear c6b2
              try clear p6
              try clear c7
              try clear c7b0
              try clear c7b1
              try clear c8
              try clear c8b0
              try clear c9
              try clear c9b0
              try clear c10
              try clear c10b0
              try clear c11
              try clear c11b0
              try clear c12
              try clear c12b0
              try clear c12b1
              try clear c14
              try clear c14b0
              try clear c15
              try clear c15b0
              try clear c15b1
              try clear c16
              try clear c16b0
              try clear c16b1
              try clear c17
              try clear c17b0
              try clear c17b1
              try clear c18
              try clear c18b0
              try clear c18b1
              try clear hx539_0
              try clear p2
              try clear p539
              try clear q539
              obtain ⟨x8_3, x9_3, x50_3, rfl, HA, HK3, HO_8, HO_9, HB⟩ := hrel
              have hl8_3 := (Kd.R_reads' HO_8.out).1
              rw [hl8_3] at HO_8
              (try simp only [hl8_3])
              (try simp only [hl8_3] at HO_9)
              cases gk with
              | zero => exact absurd HA.out (by simp [word_Decode.l1])
              | succ k3 =>
               have H := HA.out
               clear HA
               simp only [word_Decode.l1] at H
               by_cases c24 : x50_3 < (y540.length : Int)
               ·rw [if_pos c24] at H
                have c24b0 : decide (x50_3 < (y540.length : Int)) = true := decide_eq_true c24
                (try (have c24b0hl8_3 := c24b0; rw [hl8_3] at c24b0hl8_3))
                clear c24
                have H' := Aside0.mk H
                clear H
                go_wp2
                go_loopg [55] k3 (fun kq v55 w' => ∃ (x9_4 : List Int) (x55_4 : Int), v55 = .int .i64 x55_4 ∧ Aside0 (word_Decode.l2 kq l0 x8_3 x9_4 x50_3 (y540.length : Int) x50_3 l0 (l0.length : Int) x55_4 = some (r1, r2)) ∧ Aside0 (kq ≤ k3) ∧ Aside0 (Kd.R (Kd.int .i64) 2 w' w.heap.size (fun _ => True) (.slice Ao23 x8_3.length co23) x8_3) ∧ Aside0 (Kd.R (Kd.int .i64) 3 w' w.heap.size (fun _ => True) v544 x9_4) ∧ Aside0 (Below w.heap.size w w'))
                case atStart => exact ⟨(x9_3), (0), (by first | rfl | (simp; done) | (simp [*]; done)), H', ⟨Nat.le_refl _⟩, ⟨by (try simp only [hl8_3]); (with_reducible repeat (first | apply Kd.R_alloc | apply Kd.R_drewN | apply Kd.R_drew)); exact HO_8.out⟩, ⟨by (try simp only [hl8_3]); (with_reducible repeat (first | apply Kd.R_alloc | apply Kd.R_drewN | apply Kd.R_drew)); exact HO_9.out⟩, ⟨bO HB.out⟩⟩
                case round =>
                 clear H'
                 try clear c1
                 try clear c2
                 try clear p2
                 try clear c4
                 try clear c4b0
                 try clear c5
                 try clear p5
                 try clear q5
                 try clear hx5
                 try clear c6
                 try clear c6b0
                 try clear c6b1
                 try clear c6b2
                 try clear p6
                 try clear c7
                 try clear c7b0
                 try clear c7b1
                 try clear c8
                 try clear c8b0
                 try clear c9
                 try clear c9b0
                 try clear c10
                 try clear c10b0
                 try clear c11
                 try clear c11b0
                 try clear c12
                 try clear c12b0
                 try clear c12b1
                 try clear c14
                 try clear c14b0
                 try clear c15
                 try clear c15b0
                 try clear c15b1
                 try clear c16
                 try clear c16b0
                 try clear c16b1
                 try clear c17
                 try clear c17b0
                 try clear c17b1
                 try clear c18
                 try clear c18b0
                 try clear c18b1
                 try clear c24
                 try clear c24b0
                 try clear hx539_0
                 try clear p2
                 try clear p5
                 try clear p539
                 try clear p6
                 try clear q5
                 try clear q539
                 obtain ⟨x9_4, x55_4, rfl, HA, HK4, HO_8, HO_9, HB⟩ := hrel
                 cases gk with
                 | zero => exact absurd HA.out (by simp [word_Decode.l2])
                 | succ k4 =>
                  have H := HA.out
                  clear HA
                  simp only [word_Decode.l2] at H
                  by_cases c25 : x55_4 < (l0.length : Int)
                  ·rw [if_pos c25] at H
                   have c25b0 : decide (x55_4 < (l0.length : Int)) = true := decide_eq_true c25
                   (try (have c25b0hl8_3 := c25b0; rw [hl8_3] at c25b0hl8_3))
                   clear c25
                   by_cases c26 : 0 ≤ x55_4
                   ·rw [if_pos c26] at H
                    have c26b0 : decide (0 ≤ x55_4) = true := decide_eq_true c26
                    clear c26
                    by_cases c27 : x55_4 < (l0.length : Int)
                    ·rw [if_pos c27] at H
                     have c27b0 : decide (x55_4 < (l0.length : Int)) = true := decide_eq_true c27
                     (try (have c27b0hl8_3 := c27b0; rw [hl8_3] at c27b0hl8_3))
                     clear c27
                     replace H := Option.bind_eq_some_iff.mp H
                     obtain ⟨t547, A280, H⟩ := H
                     replace H : (if x55_4 < (x9_4.length : Int) then (word_Decode.l2 k4 l0 x8_3 (x9_4.set (x55_4 : Int).toNat t547) x50_3 (y540.length : Int) x50_3 l0 (l0.length : Int) (wrap64 (x55_4 + 1))) else (none)) = some (r1, r2) := H
                     have A28 := Aside0.mk A280
                     clear A280
                     by_cases c29 : x55_4 < (x9_4.length : Int)
                     ·rw [if_pos c29] at H
                      have c29b0 : decide (x55_4 < (x9_4.length : Int)) = true := decide_eq_true c29
                      (try (have c29b0hl8_3 := c29b0; rw [hl8_3] at c29b0hl8_3))
                      clear c29
                      obtain ⟨y548, hy548⟩ : ∃ y_ : List Int, y_ = (x9_4.set (x55_4 : Int).toNat t547) := ⟨_, rfl⟩
                      replace H : (word_Decode.l2 k4 l0 x8_3 y548 x50_3 (y540.length : Int) x50_3 l0 (l0.length : Int) (wrap64 (x55_4 + 1))) = some (r1, r2) := by first | (rw [hy548]; with_reducible exact H) | (have H2_ := (Option.bind_some _ _).symm.trans H; rw [hy548]; with_reducible exact H2_) | (have H2_ := (Option.bind_some _ _).symm.trans H; with_reducible exact H2_) | with_reducible exact H | (rw [hy548]; exact H) | exact H
                      have Ny548 := Aside0.mk hy548
                      clear hy548
                      have H' := Aside0.mk H
                      clear H
                      have p546 : 0 ≤ (x55_4 : Int) := of_decide_eq_true aO
                      have q546 : x55_4 < (l0.length : Int) := of_decide_eq_true aO
                      obtain ⟨ad546, e546, hx546_0⟩ := Kd.at_int HR0.out x55_4 p546 q546
                      cases e546
                      replace hx546_0 := (HB.out.cell (World.block_lt_of_cell? w _ hx546_0)).trans hx546_0
                      replace p546 := eq_true p546
                      replace q546 := eq_true q546
                      go_wp2_with (first | ((with_reducible refine gate_callee (f := 27) rfl ?_); refine goesL_ (some 64) rfl rfl Try.func27 (by kernel_rfl) rfl #[.int .i64 (rd l0 x55_4), .int .i64 x50_3] rfl mO ?_; (with_reducible refine (bits_Digit.calls (rd l0 x55_4) x50_3 t547 _ A28.out).mono ?_); rintro e w' ⟨rfl, ⟨nd, rfl⟩⟩; refine ⟨_, rfl, ?_⟩; (try (rw [drewN_self wr]; generalize hq_ : World.drewN wr _ = wr; have n0_ : Aside0 (Kd.R (Kd.int .i64) 2 wr w.heap.size (fun _ => True) (.slice Ao23 x8_3.length co23) x8_3) := ⟨by rw [← hq_]; exact (rO HO_8.out)⟩; have n1_ : Aside0 (Kd.R (Kd.int .i64) 3 wr w.heap.size (fun _ => True) v544 x9_4) := ⟨by rw [← hq_]; exact (rO HO_9.out)⟩; have n2_ : Aside0 (Below w.heap.size w wr) := ⟨by rw [← hq_]; exact (bO HB.out)⟩; clear HO_8 HO_9 HB hq_; have HO_8 := n0_; have HO_9 := n1_; have HB := n2_; clear n0_ n1_ n2_)); have p30 : 0 ≤ (x55_4 : Int) := of_decide_eq_true aO; have q30 : (x55_4 : Int) < ((x9_4.length : Int) : Int) := of_decide_eq_true aO; obtain ⟨go30, co30, eo30, gb30, gl30, cl30, HG30⟩ := Kd.R_form HO_9.out (by omega); (first | cases eo30 | (injection eo30 with ea_ en_ ec_; (first | subst ea_ | (injection ea_ with ea_; subst ea_)); subst ec_; clear en_)); have GB30 := Aside0.mk gb30; have GG30 := Aside0.mk HG30; clear gb30 gl30 HG30; obtain ⟨hx30_0, hf30_0⟩ := Kd.R_celln 0 HO_9.out (x55_4 : Int) p30 q30; replace p30 := eq_true p30; replace q30 := eq_true q30; obtain ⟨hy31_, hz31_⟩ := Kd.R_celln 0 HO_9.out (x55_4 : Int) (of_decide_eq_true aO) (of_decide_eq_true aO); have HP31 := Kd.R_putg HO_9.out (x55_4 : Int) t547) | ((with_reducible refine gate_store (t := 3) (p := 65) rfl ?_); refine store_event (t := 3) (p := 65) (v := ?vo_w32) (w1 := (wr.setCell ⟨go30, (x55_4 : Int).toNat, none⟩ (.int .i64 t547))) ?hg ?ho ?hn ?hr ?_; (case ho => rfl); (case hg => rfl); (case hn => rfl); (case hr => first | (go_simp; done) | (go_simp; rfl)); intro w32 hw; have hg : wr.grownBy w32 (some go30) := (by rw [hw]; exact HP31.2); have hp_ : Kd.R (Kd.int .i64) 3 w32 w.heap.size (fun _ => True) (.slice (some ⟨go30, 0, none⟩) x9_4.length co30) y548 := (by rw [hw, Ny548.out]; exact HP31.1); clear HP31; have n0_ := Aside0.mk (Kd.R_over' (v := (.slice (some ⟨go30, 0, none⟩) x9_4.length co30)) (rO HO_8.out) (Kd.R_typed HO_9.out) (by decide) hg); have n1_ := Aside0.mk (hp_); have n2_ := Aside0.mk ((by rw [hw]; exact below_set (HB.out) GB30.out : Below w.heap.size w w32)); clear HO_8; clear HO_9; clear HB; have HO_8 := n0_; have HO_9 := n1_; have HB := n2_; clear n0_ n1_ n2_; clear hg hw hp_))
                      go_roundg k4
                      case measure => have := HJ2.out; have := HK2.out; have := HK3.out; have := HK4.out; omega
                      case rel => exact ⟨(y548), (wrap64 (x55_4 + 1)), (by first | rfl | (simp; done) | (simp [*]; done)), H', ⟨by have := HJ2.out; have := HK2.out; have := HK3.out; have := HK4.out; omega⟩, ⟨by (try simp only [hl8_3]); (with_reducible repeat (first | apply Kd.R_alloc | apply Kd.R_drewN | apply Kd.R_drew)); exact HO_8.out⟩, ⟨by (try simp only [hl8_3]); (with_reducible repeat (first | apply Kd.R_alloc | apply Kd.R_drewN | apply Kd.R_drew)); exact HO_9.out⟩, ⟨bO HB.out⟩⟩
                     ·rw [if_neg c29] at H
                      exact absurd H (by simp)
                    ·rw [if_neg c27] at H
                     exact absurd H (by simp)
                   ·rw [if_neg c26] at H
                    exact absurd H (by simp)
                  ·rw [if_neg c25] at H
                   have c25b0 : decide (x55_4 < (l0.length : Int)) = false := decide_eq_false c25
                   (try (have c25b0hl8_3 := c25b0; rw [hl8_3] at c25b0hl8_3))
                   clear c25
                   replace H := Option.bind_eq_some_iff.mp H
                   obtain ⟨⟨t549, t550⟩, A330, H⟩ := H
                   replace H : (if 0 ≤ x50_3 then (if x50_3 < (x8_3.length : Int) then (word_Decode.l1 k4 l0 (x8_3.set (x50_3 : Int).toNat t549) x9_4 (y540.length : Int) (wrap64 (x50_3 + 1))) else (none)) else (none)) = some (r1, r2) := H
                   have A33 := Aside0.mk A330
                   clear A330
                   by_cases c34 : 0 ≤ x50_3
                   ·rw [if_pos c34] at H
                    have c34b0 : decide (0 ≤ x50_3) = true := decide_eq_true c34
                    clear c34
                    by_cases c35 : x50_3 < (x8_3.length : Int)
                    ·rw [if_pos c35] at H
                     have c35b0 : decide (x50_3 < (x8_3.length : Int)) = true := decide_eq_true c35
                     (try (have c35b0hl8_3 := c35b0; rw [hl8_3] at c35b0hl8_3))
                     clear c35
                     obtain ⟨y551, hy551⟩ : ∃ y_ : List Int, y_ = (x8_3.set (x50_3 : Int).toNat t549) := ⟨_, rfl⟩
                     replace H : (word_Decode.l1 k4 l0 y551 x9_4 (y540.length : Int) (wrap64 (x50_3 + 1))) = some (r1, r2) := by first | (rw [hy551]; with_reducible exact H) | (have H2_ := (Option.bind_some _ _).symm.trans H; rw [hy551]; with_reducible exact H2_) | (have H2_ := (Option.bind_some _ _).symm.trans H; with_reducible exact H2_) | with_reducible exact H | (rw [hy551]; exact H) | exact H
                     have Ny551 := Aside0.mk hy551
                     clear hy551
                     have H' := Aside0.mk H
                     clear H
                     obtain ⟨Ao37, co37, eo37⟩ := Kd.R_slice HO_9.out
                     subst eo37
                     go_wp2_with (first | ((with_reducible refine gate_callee (f := 19) rfl ?_); refine goesL_ (some 71) rfl rfl Try.func19 (by kernel_rfl) rfl #[.slice Ao37 x9_4.length co37] rfl mO ?_; (with_reducible refine (word_Number.calls k4 _ _ x9_4 t549 t550 _ ?side1 ?side2 A33.out).mono ?_); (case side1 => exact cO (Kd.R_reads' HO_9.out).2.2); (case side2 => exact (Kd.R_reads' HO_9.out).2.1); rintro e w' ⟨rfl, ⟨nd, rfl⟩⟩; refine ⟨_, rfl, ?_⟩; (try (rw [drewN_self wr]; generalize hq_ : World.drewN wr _ = wr; have n0_ : Aside0 (Kd.R (Kd.int .i64) 2 wr w.heap.size (fun _ => True) (.slice Ao23 x8_3.length co23) x8_3) := ⟨by rw [← hq_]; exact (rO HO_8.out)⟩; have n1_ : Aside0 (Kd.R (Kd.int .i64) 3 wr w.heap.size (fun _ => True) (.slice Ao37 x9_4.length co37) x9_4) := ⟨by rw [← hq_]; exact (rO HO_9.out)⟩; have n2_ : Aside0 (Below w.heap.size w wr) := ⟨by rw [← hq_]; exact (bO HB.out)⟩; clear HO_8 HO_9 HB hq_; have HO_8 := n0_; have HO_9 := n1_; have HB := n2_; clear n0_ n1_ n2_)); have p36 : 0 ≤ (x50_3 : Int) := of_decide_eq_true aO; have q36 : (x50_3 : Int) < ((x8_3.length : Int) : Int) := of_decide_eq_true aO; obtain ⟨go36, co36, eo36, gb36, gl36, cl36, HG36⟩ := Kd.R_form HO_8.out (by omega); (first | cases eo36 | (injection eo36 with ea_ en_ ec_; (first | subst ea_ | (injection ea_ with ea_; subst ea_)); subst ec_; clear en_)); have GB36 := Aside0.mk gb36; have GG36 := Aside0.mk HG36; clear gb36 gl36 HG36; obtain ⟨hx36_0, hf36_0⟩ := Kd.R_celln 0 HO_8.out (x50_3 : Int) p36 q36; replace p36 := eq_true p36; replace q36 := eq_true q36; obtain ⟨hy38_, hz38_⟩ := Kd.R_celln 0 HO_8.out (x50_3 : Int) (of_decide_eq_true aO) (of_decide_eq_true aO); have HP38 := Kd.R_putg HO_8.out (x50_3 : Int) t549) | ((with_reducible refine gate_store (t := 2) (p := 74) rfl ?_); refine store_event (t := 2) (p := 74) (v := ?vo_w39) (w1 := (wr.setCell ⟨go36, (x50_3 : Int).toNat, none⟩ (.int .i64 t549))) ?hg ?ho ?hn ?hr ?_; (case ho => rfl); (case hg => rfl); (case hn => rfl); (case hr => first | (go_simp; done) | (go_simp; rfl)); intro w39 hw; have hg : wr.grownBy w39 (some go36) := (by rw [hw]; exact HP38.2); have hp_ : Kd.R (Kd.int .i64) 2 w39 w.heap.size (fun _ => True) (.slice (some ⟨go36, 0, none⟩) x8_3.length co23) y551 := (by rw [hw, Ny551.out]; exact HP38.1); clear HP38; have n0_ := Aside0.mk (hp_); have n1_ := Aside0.mk (Kd.R_over' (v := (.slice (some ⟨go36, 0, none⟩) x8_3.length co23)) (rO HO_9.out) (Kd.R_typed HO_8.out) (by decide) hg); have n2_ := Aside0.mk ((by rw [hw]; exact below_set (HB.out) GB36.out : Below w.heap.size w w39)); clear HO_8; clear HO_9; clear HB; have HO_8 := n0_; have HO_9 := n1_; have HB := n2_; clear n0_ n1_ n2_; clear hg hw hp_))
                     (try simp only [← hl8_3])
                     go_roundg k4
                     case measure => have := HJ2.out; have := HK2.out; have := HK3.out; have := HK4.out; omega
                     case rel => exact ⟨(y551), (x9_4), (wrap64 (x50_3 + 1)), (by first | rfl | (simp; done) | (simp [*]; done)), H', ⟨by have := HJ2.out; have := HK2.out; have := HK3.out; have := HK4.out; omega⟩, ⟨by (try simp only [hl8_3]); (with_reducible repeat (first | apply Kd.R_alloc | apply Kd.R_drewN | apply Kd.R_drew)); exact HO_8.out⟩, ⟨by (try simp only [hl8_3]); (with_reducible repeat (first | apply Kd.R_alloc | apply Kd.R_drewN | apply Kd.R_drew)); exact HO_9.out⟩, ⟨bO HB.out⟩⟩
                    ·rw [if_neg c35] at H
                     exact absurd H (by simp)
                   ·rw [if_neg c34] at H
                    exact absurd H (by simp)
               ·rw [if_neg c24] at H
                have c24b0 : decide (x50_3 < (y540.length : Int)) = false := decide_eq_false c24
                (try (have c24b0hl8_3 := c24b0; rw [hl8_3] at c24b0hl8_3))
                clear c24
                simp only [Option.some.injEq, Prod.mk.injEq] at H
                obtain ⟨rfl, rfl⟩ := H
                go_wp2
                go_ret2
                exact ⟨_, by first | rfl | (simp [errW_none, errW_some] <;> rfl) | (simp [*, errW_none, errW_some] <;> rfl), rO HO_8.out, bO HB.out⟩
            ·rw [if_neg c18] at H
             exact absurd H (by simp)
           ·rw [if_neg c17] at H
            exact absurd H (by simp)
          ·rw [if_neg c16] at H
           exact absurd H (by simp)
         ·rw [if_neg c15] at H
          exact absurd H (by simp)

end Go.Proofs.Ytolacbnkebbjiaa.X

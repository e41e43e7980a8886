/- What the functions of this seat compute, and that the program's calls come to just that: written by this session's own program out of the translation; no condition. -/
import Derived.Test.YtolacbnkebbjiaaX0
import Derived.Test.YtolacbnkebbjiaaX1
namespace Go.Proofs.Ytolacbnkebbjiaa.X
open Go.RowKit Go.Proofs.YtolacbnkebbjiaaW.PrintWords Go.Proofs.YtolacbnkebbjiaaW.PrintLast Go.Proofs.YtolacbnkebbjiaaW.PrintMore
attribute [local go_sem] max2_int min2_int max_two min_two max_three min_three max_four min_four   -- for this text's walks alone
set_option linter.unusedVariables false
set_option linter.unusedSimpArgs false

/-! ### word_Digits: function 18 -/
mutual
def word_Digits.j0 : Nat → Int → Int → Bool → Option (List Int × Int)
 | 0, _, _, _ => none
 | k + 1, x0, x1, x15 => if x15 = true then (some (([] : List Int), 2)) else (if 0 ≤ x1 then (if (x1 : Int).toNat ≤ 35184372088832 then ((some (List.replicate (x1 : Int).toNat 0 : List Int)).bind fun y376 => (word_Digits.l0 k x0 y376 (y376.length : Int) 0)) else (none)) else (none))
def word_Digits.l0 : Nat → Int → List Int → Int → Int → Option (List Int × Int)
 | 0, _, _, _, _ => none
 | k + 1, x0, x6, x19, x20 => if x20 < x19 then (if 0 ≤ x20 then (if x20 < (x6.length : Int) then (word_Digits.l0 k x0 (x6.set (x20 : Int).toNat (Go.bits .and .i64 (shr .i64 x0 x20) 1)) x19 (wrap64 (x20 + 1))) else (none)) else (none)) else (some (x6, 0))
end
def word_Digits.f (k : Nat) (a0 : Int) (a1 : Int) : Option (List Int × Int) := (word_Length.f a0).bind fun t375 => (if a1 < t375 then (word_Digits.j0 k a0 a1 true) else (word_Digits.j0 k a0 a1 (decide (a1 > 64))))
theorem word_Digits.mono_l : ∀ k, (∀ y0 y1 y2, LeO (word_Digits.j0 k y0 y1 y2) (word_Digits.j0 (k + 1) y0 y1 y2)) ∧ (∀ y0 y1 y2 y3, LeO (word_Digits.l0 k y0 y1 y2 y3) (word_Digits.l0 (k + 1) y0 y1 y2 y3))
 | 0 => ⟨fun _ _ _ r h => by simp [word_Digits.j0] at h, fun _ _ _ _ r h => by simp [word_Digits.l0] at h⟩
 | k + 1 => by
  obtain ⟨ih0, ih1⟩ := word_Digits.mono_l k
  refine ⟨?_, ?_⟩
  ·intro y0 y1 y2
   unfold word_Digits.j0
   repeat' first
   | (with_reducible exact ih0 _ _ _)
   | (with_reducible exact ih1 _ _ _ _)
   | (with_reducible exact LeO.refl _)
   | (with_reducible exact LeO.none _)
   | (with_reducible refine LeO.ite ?_ ?_)
   | (with_reducible refine LeO.bind ?_ (fun _ => ?_))
   | exact ih0 _ _ _
   | exact ih1 _ _ _ _
   | exact LeO.none _
   | refine LeO.ite ?_ ?_
   | refine LeO.bind ?_ (fun _ => ?_)
  ·intro y0 y1 y2 y3
   unfold word_Digits.l0
   repeat' first
   | (with_reducible exact ih0 _ _ _)
   | (with_reducible exact ih1 _ _ _ _)
   | (with_reducible exact LeO.refl _)
   | (with_reducible exact LeO.none _)
   | (with_reducible refine LeO.ite ?_ ?_)
   | (with_reducible refine LeO.bind ?_ (fun _ => ?_))
   | exact ih0 _ _ _
   | exact ih1 _ _ _ _
   | exact LeO.none _
   | refine LeO.ite ?_ ?_
   | refine LeO.bind ?_ (fun _ => ?_)
theorem word_Digits.mono : ∀ a0 a1 k, LeO (word_Digits.f k a0 a1) (word_Digits.f (k + 1) a0 a1) := by
 intro a0 a1 k
 obtain ⟨ih0, ih1⟩ := word_Digits.mono_l k
 unfold word_Digits.f
 repeat' first
   | (with_reducible exact ih0 _ _ _)
   | (with_reducible exact ih1 _ _ _ _)
   | (with_reducible exact LeO.refl _)
   | (with_reducible exact LeO.none _)
   | (with_reducible refine LeO.ite ?_ ?_)
   | (with_reducible refine LeO.bind ?_ (fun _ => ?_))
   | exact ih0 _ _ _
   | exact ih1 _ _ _ _
   | exact LeO.none _
   | refine LeO.ite ?_ ?_
   | refine LeO.bind ?_ (fun _ => ?_)
set_option maxHeartbeats 8000000 in
set_option maxRecDepth 100000 in
theorem word_Digits.calls (k : Nat) (a0 : Int) (a1 : Int) (r1 : List Int) (r2 : Int) (w : World) (h : word_Digits.f k a0 a1 = some (r1, r2)) :
  Calls Try.prog 18 #[.int .i64 a0, .int .i64 a1] w fun e w' => ∃ v0_ : Value, e = .returned (.tuple #[v0_, .int .i64 r2]) ∧ Kd.R (Kd.int .i64) 3 w' w.heap.size (fun _ => True) v0_ r1 ∧ Below w.heap.size w w' := by
 have HB := Aside0.mk (Below.refl w.heap.size w)
 have H : ((word_Length.f a0).bind fun t375 => (if a1 < t375 then (word_Digits.j0 k a0 a1 true) else (word_Digits.j0 k a0 a1 (decide (a1 > 64))))) = some (r1, r2) := h
 clear h
 have HC3 := Aside0.mk H
 clear H
 go_enter Try.func18, Try.ntmps18
 go_upto_region 1 with (fail)
 go_cut [15] (fun v15 wc => ∃ (kq : Nat) (x15_2 : Bool), v15 = .bool x15_2 ∧ Aside0 (word_Digits.j0 kq a0 a1 x15_2 = some (r1, r2)) ∧ Aside0 (kq ≤ k) ∧ Aside0 (Below w.heap.size w wc))
 case first =>
  have H := HC3.out
  clear HC3
  replace H := Option.bind_eq_some_iff.mp H
  obtain ⟨t375, A40, H⟩ := H
  replace H : (if a1 < t375 then (word_Digits.j0 k a0 a1 true) else (word_Digits.j0 k a0 a1 (decide (a1 > 64)))) = some (r1, r2) := H
  have A4 := Aside0.mk A40
  clear A40
  by_cases c5 : a1 < t375
  ·rw [if_pos c5] at H
   have c5b0 : decide (a1 < t375) = true := decide_eq_true c5
   clear c5
   (first | rw [c5b0] | (simp only [i64_w, i32_w]; rw [c5b0]) | skip)
   have H' := Aside0.mk H
   clear H
   go_wp2_with (first | ((with_reducible refine gate_callee (f := 22) rfl ?_); refine goesL_ (some 10) rfl rfl Try.func22 (by kernel_rfl) rfl #[.int .i64 a0] rfl mO ?_; (with_reducible refine (word_Length.calls a0 t375 _ A4.out).mono ?_); rintro e w' ⟨rfl, ⟨nd, rfl⟩⟩; refine ⟨_, rfl, ?_⟩))
   go_meet
   case rel => exact ⟨_, (true), (by first | rfl | (simp; done) | (simp [*]; done)), H', ⟨by first | omega | exact Nat.le_refl _⟩, ⟨bO HB.out⟩⟩
  ·rw [if_neg c5] at H
   have c5b0 : decide (a1 < t375) = false := decide_eq_false c5
   clear c5
   (first | rw [c5b0] | (simp only [i64_w, i32_w]; rw [c5b0]) | skip)
   have H' := Aside0.mk H
   clear H
   go_wp2_with (first | ((with_reducible refine gate_callee (f := 22) rfl ?_); refine goesL_ (some 10) rfl rfl Try.func22 (by kernel_rfl) rfl #[.int .i64 a0] rfl mO ?_; (with_reducible refine (word_Length.calls a0 t375 _ A4.out).mono ?_); rintro e w' ⟨rfl, ⟨nd, rfl⟩⟩; refine ⟨_, rfl, ?_⟩))
   go_meet
   case rel => exact ⟨_, (decide (a1 > 64)), (by first | rfl | (simp; done) | (simp [*]; done)), H', ⟨by first | omega | exact Nat.le_refl _⟩, ⟨bO HB.out⟩⟩
 case rest =>
  clear HC3
  try clear c1
  try clear c2
  try clear p2
  try clear c5
  try clear c5b0
  obtain ⟨kq, x15_2, rfl, HA, HJ2, HB⟩ := hcut
  cases kq with
  | zero => exact absurd HA.out (by simp [word_Digits.j0])
  | succ kj2 =>
   have H := HA.out
   clear HA
   simp only [word_Digits.j0] at H
   by_cases c6 : x15_2 = true
   ·subst c6
    have H1 : (some (([] : List Int), 2)) = some (r1, r2) := by rw [if_pos rfl] at H; exact H
    clear H
    have H := H1
    clear H1
    simp only [Option.some.injEq, Prod.mk.injEq] at H
    obtain ⟨rfl, rfl⟩ := H
    go_wp2
    go_ret2
    exact ⟨_, by first | rfl | (simp [errW_none, errW_some] <;> rfl) | (simp [*, errW_none, errW_some] <;> rfl), by first | exact Kd.R_nil _ _ _ _ _ | exact Kd.N_nil _ _ _ _ _ | exact Kd.V_nil _ _ _ _ _ | exact Kd.Q_nil _ _ _ _ _ | exact Kd.S_nil _ _ _ _ _, bO HB.out⟩
   ·replace c6 := Bool.eq_false_iff.mpr c6
    subst c6
    have H1 : (if 0 ≤ a1 then (if (a1 : Int).toNat ≤ 35184372088832 then ((some (List.replicate (a1 : Int).toNat 0 : List Int)).bind fun y376 => (word_Digits.l0 kj2 a0 y376 (y376.length : Int) 0)) else (none)) else (none)) = some (r1, r2) := by rw [if_neg (show ¬ (false = true) by decide)] at H; exact H
    clear H
    have H := H1
    clear H1
    by_cases c7 : 0 ≤ a1
    ·rw [if_pos c7] at H
     have c7b0 := eq_true c7
     have c7b1 : decide (0 ≤ a1) = true := decide_eq_true c7
     clear c7
     by_cases c8 : (a1 : Int).toNat ≤ 35184372088832
     ·rw [if_pos c8] at H
      have c8b0 := eq_true c8
      have c8b1 : decide ((a1 : Int).toNat ≤ 35184372088832) = true := decide_eq_true c8
      clear c8
      obtain ⟨y376, hy376⟩ : ∃ y_ : List Int, y_ = (List.replicate (a1 : Int).toNat 0) := ⟨_, rfl⟩
      replace H : (word_Digits.l0 kj2 a0 y376 (y376.length : Int) 0) = some (r1, r2) := by first | (rw [hy376]; with_reducible exact H) | (have H2_ := (Option.bind_some _ _).symm.trans H; rw [hy376]; with_reducible exact H2_) | (have H2_ := (Option.bind_some _ _).symm.trans H; with_reducible exact H2_) | with_reducible exact H | (rw [hy376]; exact H) | exact H
      have Ny376 := Aside0.mk hy376
      clear hy376
      have H' := Aside0.mk H
      clear H
      go_wp2_with (first | ((with_reducible refine gate_dst (N := 17) rfl ?_); refine Kd.R_make (Kd.int .i64) _ 3 rfl (N := 17) rfl 23 _ _ rfl a1 rfl rfl Try.underlying23 (.int .i64 0) 8 info3 rfl (by decide) (by omega) 0 (ok := fun _ => True) (okp := fun _ => True) rfl (fun _ hk => hk) trivial (of_decide_eq_true aO) (Nat.le_trans (Nat.mul_le_mul_right _ (of_decide_eq_true aO : a1.toNat ≤ 35184372088832)) (by omega)) (Below.refl _ _) (Nat.le_refl _) ?_; intro v377 w9 ho10 hb hg_ hnew_; clear hg_ hnew_; (first | rw [← Ny376.out] at ho10 | (simp only [Int.reduceToNat] at ho10; rw [← Ny376.out] at ho10)); have n0_ := Aside0.mk (Kd.R_lower ho10 (below_size (bO HB.out))); have n1_ := Aside0.mk (below_step (bO HB.out) hb); clear HB; have HO378 := n0_; have HB := n1_; clear n0_ n1_; clear hb ho10; obtain ⟨Ao11, co11, eo11⟩ := Kd.R_slice HO378.out; subst eo11))
      go_loopg [20] kj2 (fun kq v20 w' => ∃ (x6_2 : List Int) (x20_2 : Int), v20 = .int .i64 x20_2 ∧ Aside0 (word_Digits.l0 kq a0 x6_2 (y376.length : Int) x20_2 = some (r1, r2)) ∧ Aside0 (kq ≤ kj2) ∧ Aside0 (Kd.R (Kd.int .i64) 3 w' w.heap.size (fun _ => True) (.slice Ao11 y376.length co11) x6_2) ∧ Aside0 (Below w.heap.size w w'))
      case atStart => exact ⟨(y376), (0), (by first | rfl | (simp; done) | (simp [*]; done)), H', ⟨Nat.le_refl _⟩, ⟨rO HO378.out⟩, ⟨bO HB.out⟩⟩
      case round =>
       clear H'
       try clear c1
       try clear c2
       try clear p2
       try clear c5
       try clear c5b0
       try clear c6
       try clear c7
       try clear c7b0
       try clear c7b1
       try clear c8
       try clear c8b0
       try clear c8b1
       try clear p2
       obtain ⟨x6_2, x20_2, rfl, HA, HK2, HO_6, HB⟩ := hrel
       have hl6_2 := (Kd.R_reads' HO_6.out).1
       rw [hl6_2] at HO_6
       (try simp only [hl6_2])
       cases gk with
       | zero => exact absurd HA.out (by simp [word_Digits.l0])
       | succ k2 =>
        have H := HA.out
        clear HA
        simp only [word_Digits.l0] at H
        by_cases c12 : x20_2 < (y376.length : Int)
        ·rw [if_pos c12] at H
         have c12b0 : decide (x20_2 < (y376.length : Int)) = true := decide_eq_true c12
         (try (have c12b0hl6_2 := c12b0; rw [hl6_2] at c12b0hl6_2))
         clear c12
         by_cases c13 : 0 ≤ x20_2
         ·rw [if_pos c13] at H
          have c13b0 := eq_true c13
          have c13b1 : decide (0 ≤ x20_2) = true := decide_eq_true c13
          clear c13
          obtain ⟨ji14, hji14⟩ : ∃ j_ : Int, (shr .i64 a0 x20_2) = j_ := ⟨_, rfl⟩
          replace H : (if x20_2 < (x6_2.length : Int) then (word_Digits.l0 k2 a0 (x6_2.set (x20_2 : Int).toNat (Go.bits .and .i64 (ji14) 1)) (y376.length : Int) (wrap64 (x20_2 + 1))) else (none)) = some (r1, r2) := by first | (rw [hji14] at H; exact H) | (simp only [hji14] at H ⊢; exact H)
          have hji14_ : (a0 / 2 ^ min x20_2.toNat 64) = ji14 := hji14
          have hji14z : x20_2 ≤ 64 → (a0 / 2 ^ x20_2.toNat) = ji14 := shr_small hji14
          by_cases c15 : x20_2 < (x6_2.length : Int)
          ·rw [if_pos c15] at H
           have c15b0 : decide (x20_2 < (x6_2.length : Int)) = true := decide_eq_true c15
           (try (have c15b0hl6_2 := c15b0; rw [hl6_2] at c15b0hl6_2))
           clear c15
           obtain ⟨y379, hy379⟩ : ∃ y_ : List Int, y_ = (x6_2.set (x20_2 : Int).toNat (Go.bits .and .i64 (ji14) 1)) := ⟨_, rfl⟩
           replace H : (word_Digits.l0 k2 a0 y379 (y376.length : Int) (wrap64 (x20_2 + 1))) = some (r1, r2) := by first | (rw [hy379]; with_reducible exact H) | (have H2_ := (Option.bind_some _ _).symm.trans H; rw [hy379]; with_reducible exact H2_) | (have H2_ := (Option.bind_some _ _).symm.trans H; with_reducible exact H2_) | with_reducible exact H | (rw [hy379]; exact H) | exact H
           have Ny379 := Aside0.mk hy379
           clear hy379
           have H' := Aside0.mk H
           clear H
           have p16 : 0 ≤ (x20_2 : Int) := of_decide_eq_true aO
           have q16 : (x20_2 : Int) < ((x6_2.length : Int) : Int) := of_decide_eq_true aO
           obtain ⟨go16, co16, eo16, gb16, gl16, cl16, HG16⟩ := Kd.R_form HO_6.out (by omega)
           (first | cases eo16 | (injection eo16 with ea_ en_ ec_; (first | subst ea_ | (injection ea_ with ea_; subst ea_)); subst ec_; clear en_))
           have GB16 := Aside0.mk gb16
           have GG16 := Aside0.mk HG16
           clear gb16 gl16 HG16
           obtain ⟨hx16_0, hf16_0⟩ := Kd.R_celln 0 HO_6.out (x20_2 : Int) p16 q16
           replace p16 := eq_true p16
           replace q16 := eq_true q16
           have HP17 := Kd.R_putg HO_6.out (x20_2 : Int) (Go.bits .and .i64 (ji14) 1)
           go_wp2_with (first | ((with_reducible refine gate_store (t := 3) (p := 29) rfl ?_); refine store_event (t := 3) (p := 29) (v := ?vo_w18) (w1 := (wr.setCell ⟨go16, (x20_2 : Int).toNat, none⟩ (.int .i64 (Go.bits .and .i64 (ji14) 1)))) ?hg ?ho ?hn ?hr ?_; (case ho => rfl); (case hg => rfl); (case hn => rfl); (case hr => first | (go_simp; done) | (go_simp; rfl)); intro w18 hw; have hg : wr.grownBy w18 (some go16) := (by rw [hw]; exact HP17.2); have hp_ : Kd.R (Kd.int .i64) 3 w18 w.heap.size (fun _ => True) (.slice (some ⟨go16, 0, none⟩) x6_2.length co11) y379 := (by rw [hw, Ny379.out]; exact HP17.1); clear HP17; have n0_ := Aside0.mk (hp_); have n1_ := Aside0.mk ((by rw [hw]; exact below_set (HB.out) GB16.out : Below w.heap.size w w18)); clear HO_6; clear HB; have HO_6 := n0_; have HB := n1_; clear n0_ n1_; clear hg hw hp_))
           (try simp only [← hl6_2])
           go_roundg k2
           case measure => have := HJ2.out; have := HK2.out; omega
           case rel => exact ⟨(y379), (wrap64 (x20_2 + 1)), (by first | rfl | (simp; done) | (simp [*]; done)), H', ⟨by have := HJ2.out; have := HK2.out; omega⟩, ⟨by (try simp only [hl6_2]); (with_reducible repeat (first | apply Kd.R_alloc | apply Kd.R_drewN | apply Kd.R_drew)); exact HO_6.out⟩, ⟨bO HB.out⟩⟩
          ·rw [if_neg c15] at H
           exact absurd H (by simp)
         ·rw [if_neg c13] at H
          exact absurd H (by simp)
        ·rw [if_neg c12] at H
         have c12b0 : decide (x20_2 < (y376.length : Int)) = false := decide_eq_false c12
         (try (have c12b0hl6_2 := c12b0; rw [hl6_2] at c12b0hl6_2))
         clear c12
         simp only [Option.some.injEq, Prod.mk.injEq] at H
         obtain ⟨rfl, rfl⟩ := H
         go_wp2
         go_ret2
         exact ⟨_, by first | rfl | (simp [errW_none, errW_some] <;> rfl) | (simp [*, errW_none, errW_some] <;> rfl), rO HO_6.out, bO HB.out⟩
     ·rw [if_neg c8] at H
      exact absurd H (by simp)
    ·rw [if_neg c7] at H
     exact absurd H (by simp)

/-! ### slices_IndexFunc_int_int: function 43 -/
/-- The function value that word.Number hands over: is it no digit? -/
def noDigit (d : Int) : Bool := d != 0 && d != 1
theorem noDigit_calls (d : Int) (w : World) : Calls Try.prog 32 #[.int .i64 d] w fun e w' => e = .returned (.bool (noDigit d)) ∧ w = w' := by
 by_cases h0 : d = 0
 ·subst h0
  go_enter Try.func32, Try.ntmps32
  go_wp2
  go_ret
  exact ⟨rfl, rfl⟩
 ·have b0 : (d != 0) = true := by simpa using h0
  have b1 : (d == 0) = false := by simpa using h0
  have e : noDigit d = (d != 1) := by unfold noDigit; rw [b0, Bool.true_and]
  rw [e]
  clear e h0
  go_enter Try.func32, Try.ntmps32
  go_wp2
  go_ret
  exact ⟨rfl, rfl⟩
def slices_IndexFunc_int_int.f (l0 : List Int) : Option Int := some (((l0.findIdx? noDigit).map fun i : Nat => (i : Int)).getD (-1))
theorem slices_IndexFunc_int_int.hit {l : List Int} {k : Nat} (hk : k < l.length) (hb : ∀ j : Nat, j < k → noDigit (rd l (j : Int)) = false) (hh : noDigit (rd l (k : Int)) = true) : slices_IndexFunc_int_int.f l = some (k : Int) := by
 simp only [rd, Int.toNat_natCast] at hb hh
 have : l.findIdx? noDigit = some k := by
  rw [List.findIdx?_eq_some_iff_getElem]
  refine ⟨hk, ?_, fun j hj => ?_⟩
  ·rw [List.getD_eq_getElem?_getD, List.getElem?_eq_getElem hk] at hh; exact hh
  ·have := hb j hj
   rw [List.getD_eq_getElem?_getD, List.getElem?_eq_getElem (Nat.lt_trans hj hk)] at this
   simpa using this
 unfold slices_IndexFunc_int_int.f
 rw [this]; rfl
theorem slices_IndexFunc_int_int.miss {l : List Int} (hb : ∀ j : Nat, j < l.length → noDigit (rd l (j : Int)) = false) : slices_IndexFunc_int_int.f l = some (-1) := by
 simp only [rd, Int.toNat_natCast] at hb
 have : l.findIdx? noDigit = none := by
  rw [List.findIdx?_eq_none_iff]
  intro x hx
  obtain ⟨j, hj, rfl⟩ := List.getElem_of_mem hx
  have := hb j hj
  rw [List.getD_eq_getElem?_getD, List.getElem?_eq_getElem hj] at this
  exact this
 unfold slices_IndexFunc_int_int.f
 rw [this]; rfl
set_option maxHeartbeats 8000000 in
set_option maxRecDepth 100000 in
theorem slices_IndexFunc_int_int.calls (A0 : Option Addr) (c0 : Nat) (l0 : List Int) (r : Int) (w : World) (hr0 : Kd.C (Kd.int .i64) w A0 l0.length l0) (hc0 : l0.length ≤ c0) (h : slices_IndexFunc_int_int.f l0 = some r) :
  Calls Try.prog 43 #[.slice A0 l0.length c0, .func (.func 32) #[] #[]] w fun e w' => e = .returned (.int .i64 r) ∧ Drawn0 w w' := by
 have HR0 := Aside0.mk hr0
 have HH := Aside0.mk h
 have hm : l0.length ≤ 9223372036854775807 := hr0.2.1
 clear hr0 hc0 h
 have hrefl : ∀ W : World, Drawn0 W W := Drawn0.refl
 have HRE := Aside0.mk hrefl
 clear hrefl
 go_enter Try.func43, Try.ntmps43
 go_wp2
 go_loop [8] (fun v8 => ∃ k : Nat, k ≤ l0.length ∧ v8 = .int .i64 k ∧ Aside0 (∀ j : Nat, j < k → noDigit (rd l0 (j : Int)) = false)) (fun v8 => l0.length - (intOf v8).toNat)
 case atStart => exact ⟨0, Nat.zero_le _, rfl, ⟨fun j hj => absurd hj (Nat.not_lt_zero _)⟩⟩
 case round =>
  obtain ⟨k, hk, rfl, HJ⟩ := hrel
  by_cases hlt : k < l0.length
  ·obtain ⟨ad, e0, hx⟩ := Kd.at_int HR0.out (k : Int) (by omega) (by omega)
   cases e0
   rw [Int.toNat_natCast] at hx
   obtain ⟨y, hy⟩ : ∃ y, y = rd l0 (k : Int) := ⟨_, rfl⟩
   rw [← hy] at hx
   by_cases hp : noDigit y = true
   ·have hr : r = (k : Int) := by
     have := slices_IndexFunc_int_int.hit hlt HJ.out (by rw [← hy]; exact hp)
     rw [HH.out] at this
     exact Option.some.inj this
    subst hr
    clear hy
    go_wp2_with (go_at_call 32; (with_reducible refine (noDigit_calls _ _).mono ?_); rintro e w' ⟨rfl, rfl⟩)
    go_ret
    exact ⟨rfl, HRE.out _⟩
   ·have hp' : noDigit y = false := by simpa using hp
    clear hp
    have HP := Aside0.mk (show noDigit (rd l0 (k : Int)) = false by rw [← hy]; exact hp')
    clear hy
    go_wp2_with (go_at_call 32; (with_reducible refine (noDigit_calls _ _).mono ?_); rintro e w' ⟨rfl, rfl⟩)
    go_round
    case rel =>
     refine ⟨k + 1, by omega, by go_num, ⟨fun j hj => ?_⟩⟩
     rcases Nat.lt_succ_iff_lt_or_eq.1 hj with h | rfl
     ·exact HJ.out j h
     ·exact HP.out
    case measure => simp [intOf]; omega
  ·have hr : r = -1 := by
    have : k = l0.length := by omega
    subst this
    have := slices_IndexFunc_int_int.miss HJ.out
    rw [HH.out] at this
    exact Option.some.inj this
   subst hr
   go_wp2
   go_ret
   exact ⟨rfl, HRE.out _⟩

end Go.Proofs.Ytolacbnkebbjiaa.X

/- What the functions of this seat compute, and that the program's calls come to just that: written by this session's own program out of the translation; no condition. -/
import Derived.Test.YtolacbnkebbjiaaX0
import Derived.Test.YtolacbnkebbjiaaX12
namespace Go.Proofs.Ytolacbnkebbjiaa.X
open Go.RowKit Go.Proofs.YtolacbnkebbjiaaW.PrintWords Go.Proofs.YtolacbnkebbjiaaW.PrintLast Go.Proofs.YtolacbnkebbjiaaW.PrintMore
attribute [local go_sem] max2_int min2_int max_two min_two max_three min_three max_four min_four   -- for this text's walks alone
set_option linter.unusedVariables false
set_option linter.unusedSimpArgs false

/-! ### tabardref03_Length: function 21 -/
def tabardref03_Length.l0 : Nat → Int → Int → Option (Int)
 | 0, _, _ => none
 | k + 1, x0, x3 => if x0 = 0 then (some x3) else (if x0 = (-1) then (some x3) else ((tabardref01_Floor.f k x0 2).bind fun bt300 => (tabardref03_Length.l0 k bt300.1 (wrap64 (x3 + 1)))))
def tabardref03_Length.f (k : Nat) (a0 : Int) : Option (Int) := tabardref03_Length.l0 k a0 1
theorem tabardref03_Length.mono_l : ∀ k, (∀ y0 y1, LeO (tabardref03_Length.l0 k y0 y1) (tabardref03_Length.l0 (k + 1) y0 y1))
 | 0 => fun _ _ r h => by simp [tabardref03_Length.l0] at h
 | k + 1 => by
  have ih0 := tabardref03_Length.mono_l k
  ·intro y0 y1
   unfold tabardref03_Length.l0
   repeat' first
   | (with_reducible exact ih0 _ _)
   | (with_reducible exact tabardref01_Floor.mono _ _ _)
   | (with_reducible exact LeO.refl _)
   | (with_reducible exact LeO.none _)
   | (with_reducible refine LeO.ite ?_ ?_)
   | (with_reducible refine LeO.bind ?_ (fun _ => ?_))
   | exact ih0 _ _
   | exact tabardref01_Floor.mono _ _ _
   | exact LeO.none _
   | refine LeO.ite ?_ ?_
   | refine LeO.bind ?_ (fun _ => ?_)
theorem tabardref03_Length.mono : ∀ a0 k, LeO (tabardref03_Length.f k a0) (tabardref03_Length.f (k + 1) a0) := by
 intro a0 k
 have ih0 := tabardref03_Length.mono_l k
 unfold tabardref03_Length.f
 repeat' first
   | (with_reducible exact ih0 _ _)
   | (with_reducible exact tabardref01_Floor.mono _ _ _)
   | (with_reducible exact LeO.refl _)
   | (with_reducible exact LeO.none _)
   | (with_reducible refine LeO.ite ?_ ?_)
   | (with_reducible refine LeO.bind ?_ (fun _ => ?_))
   | exact ih0 _ _
   | exact tabardref01_Floor.mono _ _ _
   | exact LeO.none _
   | refine LeO.ite ?_ ?_
   | refine LeO.bind ?_ (fun _ => ?_)
set_option maxHeartbeats 8000000 in
set_option maxRecDepth 100000 in
theorem tabardref03_Length.calls (k : Nat) (a0 : Int) (r : Int) (w : World) (h : tabardref03_Length.f k a0 = some r) :
  Calls Try.prog 21 #[.int .i64 a0] w fun e w' => e = .returned (.int .i64 r) ∧ Below w.heap.size w w' := by
 have HB := Aside0.mk (Below.refl w.heap.size w)
 have H : (tabardref03_Length.l0 k a0 1) = some r := h
 clear h
 have H' := Aside0.mk H
 clear H
 go_enter Try.func21, Try.ntmps21
 go_wp2
 go_loopg [0, 3] k (fun kq v0 v3 w' => ∃ (x0_1 : Int) (x3_1 : Int), v0 = .int .i64 x0_1 ∧ v3 = .int .i64 x3_1 ∧ Aside0 (tabardref03_Length.l0 kq x0_1 x3_1 = some r) ∧ Aside0 (kq ≤ k) ∧ Aside0 (Below w.heap.size w w'))
 case atStart => exact ⟨(a0), (1), (by first | rfl | (simp; done) | (simp [*]; done)), (by first | rfl | (simp; done) | (simp [*]; done)), H', ⟨Nat.le_refl _⟩, ⟨bO HB.out⟩⟩
 case round =>
  clear H'
  obtain ⟨x0_1, x3_1, rfl, rfl, HA, HK1, HB⟩ := hrel
  cases gk with
  | zero => exact absurd HA.out (by simp [tabardref03_Length.l0])
  | succ k1 =>
   have H := HA.out
   clear HA
   simp only [tabardref03_Length.l0] at H
   by_cases c2 : x0_1 = 0
   ·rw [if_pos c2] at H
    have c2b0 : (x0_1 == 0) = true := beq_iff_eq.mpr c2
    have c2b1 : (x0_1 != 0) = false := bne_eq_false_iff_eq.mpr c2
    clear c2
    obtain rfl := Option.some.inj H
    go_wp2
    go_ret
    exact ⟨by first | rfl | (simp [errW_none, errW_some] <;> rfl) | (simp [*, errW_none, errW_some] <;> rfl), bO HB.out⟩
   ·rw [if_neg c2] at H
    have c2b0 : (x0_1 == 0) = false := beq_eq_false_iff_ne.mpr c2
    have c2b1 : (x0_1 != 0) = true := bne_iff_ne.mpr c2
    by_cases c3 : x0_1 = (-1)
    ·rw [if_pos c3] at H
     have c3b0 : (x0_1 == (-1)) = true := beq_iff_eq.mpr c3
     have c3b1 : (x0_1 != (-1)) = false := bne_eq_false_iff_eq.mpr c3
     clear c3
     obtain rfl := Option.some.inj H
     go_wp2
     go_ret
     exact ⟨by first | rfl | (simp [errW_none, errW_some] <;> rfl) | (simp [*, errW_none, errW_some] <;> rfl), bO HB.out⟩
    ·rw [if_neg c3] at H
     have c3b0 : (x0_1 == (-1)) = false := beq_eq_false_iff_ne.mpr c3
     have c3b1 : (x0_1 != (-1)) = true := bne_iff_ne.mpr c3
     replace H := Option.bind_eq_some_iff.mp H
     obtain ⟨⟨t300, t301⟩, A40, H⟩ := H
     replace H : (tabardref03_Length.l0 k1 t300 (wrap64 (x3_1 + 1))) = some r := H
     have A4 := Aside0.mk A40
     clear A40
     have H' := Aside0.mk H
     clear H
     go_wp2_with (first | ((with_reducible refine gate_callee (f := 35) rfl ?_); refine goesL_ (some 16) rfl rfl Try.func35 (by kernel_rfl) rfl #[.int .i64 x0_1, .int .i64 2] rfl mO ?_; (with_reducible refine (tabardref01_Floor.calls k1 x0_1 2 t300 t301 _ A4.out).mono ?_); rintro e w5 ⟨rfl, hb⟩; refine ⟨_, rfl, ?_⟩; have n0_ := Aside0.mk (below_step (bO HB.out) hb); clear HB; have HB := n0_; clear n0_; (try clear hb); (try clear hb2); (try clear hk); (try clear hi)))
     go_roundg k1
     case measure => have := HK1.out; omega
     case rel => exact ⟨(t300), (wrap64 (x3_1 + 1)), (by first | rfl | (simp; done) | (simp [*]; done)), (by first | rfl | (simp; done) | (simp [*]; done)), H', ⟨by have := HK1.out; omega⟩, ⟨bO HB.out⟩⟩

/-! ### tabardref03_Longest: function 14 -/
def tabardref03_Longest.l0 : Nat → List Int → Int → Int → Option (Int)
 | 0, _, _, _ => none
 | k + 1, x0, x3, x4 => if x4 < (x0.length : Int) then (if 0 ≤ x4 then ((tabardref03_Length.f k (rd x0 x4)).bind fun t303 => (tabardref03_Longest.l0 k x0 (mx x3 t303) (wrap64 (x4 + 1)))) else (none)) else (some x3)
def tabardref03_Longest.f (k : Nat) (l0 : List Int) : Option (Int) := tabardref03_Longest.l0 k l0 1 0
theorem tabardref03_Longest.mono_l : ∀ k, (∀ y0 y1 y2, LeO (tabardref03_Longest.l0 k y0 y1 y2) (tabardref03_Longest.l0 (k + 1) y0 y1 y2))
 | 0 => fun _ _ _ r h => by simp [tabardref03_Longest.l0] at h
 | k + 1 => by
  have ih0 := tabardref03_Longest.mono_l k
  ·intro y0 y1 y2
   unfold tabardref03_Longest.l0
   repeat' first
   | (with_reducible exact ih0 _ _ _)
   | (with_reducible exact tabardref03_Length.mono _ _)
   | (with_reducible exact LeO.refl _)
   | (with_reducible exact LeO.none _)
   | (with_reducible refine LeO.ite ?_ ?_)
   | (with_reducible refine LeO.bind ?_ (fun _ => ?_))
   | exact ih0 _ _ _
   | exact tabardref03_Length.mono _ _
   | exact LeO.none _
   | refine LeO.ite ?_ ?_
   | refine LeO.bind ?_ (fun _ => ?_)
theorem tabardref03_Longest.mono : ∀ a0 k, LeO (tabardref03_Longest.f k a0) (tabardref03_Longest.f (k + 1) a0) := by
 intro a0 k
 have ih0 := tabardref03_Longest.mono_l k
 unfold tabardref03_Longest.f
 repeat' first
   | (with_reducible exact ih0 _ _ _)
   | (with_reducible exact tabardref03_Length.mono _ _)
   | (with_reducible exact LeO.refl _)
   | (with_reducible exact LeO.none _)
   | (with_reducible refine LeO.ite ?_ ?_)
   | (with_reducible refine LeO.bind ?_ (fun _ => ?_))
   | exact ih0 _ _ _
   | exact tabardref03_Length.mono _ _
   | exact LeO.none _
   | refine LeO.ite ?_ ?_
   | refine LeO.bind ?_ (fun _ => ?_)
set_option maxHeartbeats 8000000 in
set_option maxRecDepth 100000 in
theorem tabardref03_Longest.calls (k : Nat) (A0 : Option Addr) (c0 : Nat) (l0 : List Int) (r : Int) (w : World) (hr0 : Kd.C (Kd.int .i64) w A0 l0.length l0) (hc0 : l0.length ≤ c0) (h : tabardref03_Longest.f k l0 = some r) :
  Calls Try.prog 14 #[.slice A0 l0.length c0] w fun e w' => e = .returned (.int .i64 r) ∧ Below w.heap.size w w' := by
 have HR0 := Aside0.mk hr0
 have HC0 := Aside0.mk hc0
 clear hr0 hc0
 have HB := Aside0.mk (Below.refl w.heap.size w)
 have H : (tabardref03_Longest.l0 k l0 1 0) = some r := h
 clear h
 have H' := Aside0.mk H
 clear H
 go_enter Try.func14, Try.ntmps14
 go_wp2
 go_loopg [3, 4] k (fun kq v3 v4 w' => ∃ (x3_1 : Int) (x4_1 : Int), v3 = .int .i64 x3_1 ∧ v4 = .int .i64 x4_1 ∧ Aside0 (tabardref03_Longest.l0 kq l0 x3_1 x4_1 = some r) ∧ Aside0 (kq ≤ k) ∧ Aside0 (Below w.heap.size w w'))
 case atStart => exact ⟨(1), (0), (by first | rfl | (simp; done) | (simp [*]; done)), (by first | rfl | (simp; done) | (simp [*]; done)), H', ⟨Nat.le_refl _⟩, ⟨bO HB.out⟩⟩
 case round =>
  clear H'
  try clear c1
  obtain ⟨x3_1, x4_1, rfl, rfl, HA, HK1, HB⟩ := hrel
  cases gk with
  | zero => exact absurd HA.out (by simp [tabardref03_Longest.l0])
  | succ k1 =>
   have H := HA.out
   clear HA
   simp only [tabardref03_Longest.l0] at H
   by_cases c2 : x4_1 < (l0.length : Int)
   ·rw [if_pos c2] at H
    have c2b0 : decide (x4_1 < (l0.length : Int)) = true := decide_eq_true c2
    clear c2
    by_cases c3 : 0 ≤ x4_1
    ·rw [if_pos c3] at H
     have c3b0 : decide (0 ≤ x4_1) = true := decide_eq_true c3
     clear c3
     replace H := Option.bind_eq_some_iff.mp H
     obtain ⟨t303, A40, H⟩ := H
     replace H : (tabardref03_Longest.l0 k1 l0 (mx x3_1 t303) (wrap64 (x4_1 + 1))) = some r := H
     have A4 := Aside0.mk A40
     clear A40
     obtain ⟨ji5, hji5⟩ : ∃ j_ : Int, (mx x3_1 t303) = j_ := ⟨_, rfl⟩
     replace H : (tabardref03_Longest.l0 k1 l0 ji5 (wrap64 (x4_1 + 1))) = some r := by first | (rw [hji5] at H; exact H) | (simp only [hji5] at H ⊢; exact H)
     (try rw [hji5] at A4)
     have hji5_ : (if x3_1 < t303 then t303 else x3_1) = ji5 := hji5
     have H' := Aside0.mk H
     clear H
     have p302 : 0 ≤ (x4_1 : Int) := of_decide_eq_true aO
     have q302 : x4_1 < (l0.length : Int) := of_decide_eq_true aO
     obtain ⟨ad302, e302, hx302_0⟩ := Kd.at_int HR0.out x4_1 p302 q302
     cases e302
     replace hx302_0 := (HB.out.cell (World.block_lt_of_cell? w _ hx302_0)).trans hx302_0
     replace p302 := eq_true p302
     replace q302 := eq_true q302
     go_wp2_with (first | ((with_reducible refine gate_callee (f := 21) rfl ?_); refine goesL_ (some 16) rfl rfl Try.func21 (by kernel_rfl) rfl #[.int .i64 (rd l0 x4_1)] rfl mO ?_; (with_reducible refine (tabardref03_Length.calls k1 (rd l0 x4_1) t303 _ A4.out).mono ?_); rintro e w6 ⟨rfl, hb⟩; refine ⟨_, rfl, ?_⟩; have n0_ := Aside0.mk (below_step (bO HB.out) hb); clear HB; have HB := n0_; clear n0_; (try clear hb); (try clear hb2); (try clear hk); (try clear hi)))
     go_roundg k1
     case measure => have := HK1.out; omega
     case rel => exact ⟨(ji5), (wrap64 (x4_1 + 1)), (by first | rfl | (simp; done) | (simp only [← hji5] <;> (first | rfl | simp)) | (simp [*]; done)), (by first | rfl | (simp; done) | (simp [*]; done)), H', ⟨by have := HK1.out; omega⟩, ⟨bO HB.out⟩⟩
    ·rw [if_neg c3] at H
     exact absurd H (by simp)
   ·rw [if_neg c2] at H
    have c2b0 : decide (x4_1 < (l0.length : Int)) = false := decide_eq_false c2
    clear c2
    obtain rfl := Option.some.inj H
    go_wp2
    go_ret
    exact ⟨by first | rfl | (simp [errW_none, errW_some] <;> rfl) | (simp [*, errW_none, errW_some] <;> rfl), bO HB.out⟩

/-! ### tabardref03_Digits: function 23 -/
def tabardref03_Digits.l0 : Nat → Int → Int → List Int → Int → Option (List Int)
 | 0, _, _, _, _ => none
 | k + 1, x0, x1, x5, x6 => if x6 < x1 then (if (Int.tmod x0 2) < 0 then (if x5.length < 17592186044416 then ((tabardref01_Floor.f k x0 2).bind fun bt307 => (tabardref03_Digits.l0 k bt307.1 x1 (x5 ++ [1]) (wrap64 (x6 + 1)))) else (none)) else (if x5.length < 17592186044416 then ((tabardref01_Floor.f k x0 2).bind fun bt312 => (tabardref03_Digits.l0 k bt312.1 x1 (x5 ++ [Int.tmod x0 2]) (wrap64 (x6 + 1)))) else (none))) else (some x5)
def tabardref03_Digits.f (k : Nat) (a0 : Int) (a1 : Int) : Option (List Int) := tabardref03_Digits.l0 k a0 a1 ([] : List Int) 0
theorem tabardref03_Digits.mono_l : ∀ k, (∀ y0 y1 y2 y3, LeO (tabardref03_Digits.l0 k y0 y1 y2 y3) (tabardref03_Digits.l0 (k + 1) y0 y1 y2 y3))
 | 0 => fun _ _ _ _ r h => by simp [tabardref03_Digits.l0] at h
 | k + 1 => by
  have ih0 := tabardref03_Digits.mono_l k
  ·intro y0 y1 y2 y3
   unfold tabardref03_Digits.l0
   repeat' first
   | (with_reducible exact ih0 _ _ _ _)
   | (with_reducible exact tabardref01_Floor.mono _ _ _)
   | (with_reducible exact LeO.refl _)
   | (with_reducible exact LeO.none _)
   | (with_reducible refine LeO.ite ?_ ?_)
   | (with_reducible refine LeO.bind ?_ (fun _ => ?_))
   | exact ih0 _ _ _ _
   | exact tabardref01_Floor.mono _ _ _
   | exact LeO.none _
   | refine LeO.ite ?_ ?_
   | refine LeO.bind ?_ (fun _ => ?_)
theorem tabardref03_Digits.mono : ∀ a0 a1 k, LeO (tabardref03_Digits.f k a0 a1) (tabardref03_Digits.f (k + 1) a0 a1) := by
 intro a0 a1 k
 have ih0 := tabardref03_Digits.mono_l k
 unfold tabardref03_Digits.f
 repeat' first
   | (with_reducible exact ih0 _ _ _ _)
   | (with_reducible exact tabardref01_Floor.mono _ _ _)
   | (with_reducible exact LeO.refl _)
   | (with_reducible exact LeO.none _)
   | (with_reducible refine LeO.ite ?_ ?_)
   | (with_reducible refine LeO.bind ?_ (fun _ => ?_))
   | exact ih0 _ _ _ _
   | exact tabardref01_Floor.mono _ _ _
   | exact LeO.none _
   | refine LeO.ite ?_ ?_
   | refine LeO.bind ?_ (fun _ => ?_)
set_option maxHeartbeats 8000000 in
set_option maxRecDepth 100000 in
theorem tabardref03_Digits.calls (k : Nat) (a0 : Int) (a1 : Int) (r : List Int) (w : World) (h : tabardref03_Digits.f k a0 a1 = some r) :
  Calls Try.prog 23 #[.int .i64 a0, .int .i64 a1] w fun e w' => ∃ v0_ : Value, e = .returned (v0_) ∧ Kd.R (Kd.int .i64) 3 w' w.heap.size (fun _ => True) v0_ r ∧ Below w.heap.size w w' := by
 have HB := Aside0.mk (Below.refl w.heap.size w)
 have H : (tabardref03_Digits.l0 k a0 a1 ([] : List Int) 0) = some r := h
 clear h
 have H' := Aside0.mk H
 clear H
 go_enter Try.func23, Try.ntmps23
 go_wp2
 go_loopg [0, 5, 6] k (fun kq v0 v5 v6 w' => ∃ (x0_1 : Int) (x5_1 : List Int) (x6_1 : Int), v0 = .int .i64 x0_1 ∧ v6 = .int .i64 x6_1 ∧ Aside0 (tabardref03_Digits.l0 kq x0_1 a1 x5_1 x6_1 = some r) ∧ Aside0 (kq ≤ k) ∧ Aside0 (Kd.R (Kd.int .i64) 3 w' w.heap.size (fun _ => True) v5 x5_1) ∧ Aside0 (Below w.heap.size w w'))
 case atStart => exact ⟨(a0), (([] : List Int)), (0), (by first | rfl | (simp; done) | (simp [*]; done)), (by first | rfl | (simp; done) | (simp [*]; done)), H', ⟨Nat.le_refl _⟩, ⟨by first | exact Kd.R_nil _ _ _ _ _ | exact Kd.N_nil _ _ _ _ _ | exact Kd.V_nil _ _ _ _ _ | exact Kd.Q_nil _ _ _ _ _ | exact Kd.S_nil _ _ _ _ _⟩, ⟨bO HB.out⟩⟩
 case round =>
  clear H'
  try clear c2
  try clear p2
  obtain ⟨x0_1, x5_1, x6_1, rfl, rfl, HA, HK1, HO_5, HB⟩ := hrel
  cases gk with
  | zero => exact absurd HA.out (by simp [tabardref03_Digits.l0])
  | succ k1 =>
   have H := HA.out
   clear HA
   simp only [tabardref03_Digits.l0] at H
   by_cases c3 : x6_1 < a1
   ·rw [if_pos c3] at H
    have c3b0 : decide (x6_1 < a1) = true := decide_eq_true c3
    clear c3
    by_cases c4 : (Int.tmod x0_1 2) < 0
    ·rw [if_pos c4] at H
     have c4b0 : decide ((Int.tmod x0_1 2) < 0) = true := decide_eq_true c4
     clear c4
     by_cases c5 : x5_1.length < 17592186044416
     ·rw [if_pos c5] at H
      have LMc5 := Aside0.mk c5
      clear c5
      obtain ⟨y304, hy304⟩ : ∃ y_ : List Int, y_ = (x5_1 ++ [1]) := ⟨_, rfl⟩
      replace H : ((tabardref01_Floor.f k1 x0_1 2).bind fun bt307 => (tabardref03_Digits.l0 k1 bt307.1 a1 y304 (wrap64 (x6_1 + 1)))) = some r := by first | (rw [hy304]; with_reducible exact H) | (have H2_ := (Option.bind_some _ _).symm.trans H; rw [hy304]; with_reducible exact H2_) | (have H2_ := (Option.bind_some _ _).symm.trans H; with_reducible exact H2_) | with_reducible exact H | (rw [hy304]; exact H) | exact H
      have Ny304 := Aside0.mk hy304
      clear hy304
      replace H := Option.bind_eq_some_iff.mp H
      obtain ⟨⟨t307, t308⟩, A60, H⟩ := H
      replace H : (tabardref03_Digits.l0 k1 t307 a1 y304 (wrap64 (x6_1 + 1))) = some r := H
      have A6 := Aside0.mk A60
      clear A60
      have H' := Aside0.mk H
      clear H
      go_wp2_with (first | ((with_reducible refine gate_builtin (b := .append) (xs := #[.tmp 19, .tmp 21]) rfl ?_); at_builtin; refine Kd.R_append (Kd.int .i64) (w0 := w) w.heap.size rfl (.tmp 19) (.tmp 21) 23 3 (.int .i64 0) 8 rfl Try.underlying23 info3 rfl (by decide) (by omega) u5 x5_1 1 [.int .i64 1] (fun _ => True) (fun _ => False) rfl rfl ?aP (fun _ hk => hk.elim) ?aF ?aO ?aB ?aS ?aL ?_; (case aP => exact rfl); (case aB => exact (bO HB.out)); (case aF => exact (fun _ _ => trivial)); (case aO => exact (rO HO_5.out)); (case aS => exact (below_size (bO HB.out))); (case aL => have := LMc5.out; omega); intro v305 w7 ho hb hg hat; rw [← Ny304.out] at ho; have n0_ := Aside0.mk (hb); have n1_ := Aside0.mk (ho); clear HB; clear HO_5; have HB := n0_; have HO306 := n1_; clear n0_ n1_; clear ho hb hg hat) | ((with_reducible refine gate_callee (f := 35) rfl ?_); refine goesL_ (some 25) rfl rfl Try.func35 (by kernel_rfl) rfl #[.int .i64 x0_1, .int .i64 2] rfl mO ?_; (with_reducible refine (tabardref01_Floor.calls k1 x0_1 2 t307 t308 _ A6.out).mono ?_); rintro e w8 ⟨rfl, hb⟩; refine ⟨_, rfl, ?_⟩; have n0_ := Aside0.mk (Kd.R_below (rO HO306.out) hb); have n1_ := Aside0.mk (below_step (bO HB.out) hb); clear HO306; clear HB; have HO306 := n0_; have HB := n1_; clear n0_ n1_; (try clear hb); (try clear hb2); (try clear hk); (try clear hi)))
      go_roundg k1
      case measure => have := HK1.out; omega
      case rel => exact ⟨(t307), (y304), (wrap64 (x6_1 + 1)), (by first | rfl | (simp; done) | (simp [*]; done)), (by first | rfl | (simp; done) | (simp [*]; done)), H', ⟨by have := HK1.out; omega⟩, ⟨rO HO306.out⟩, ⟨bO HB.out⟩⟩
     ·rw [if_neg c5] at H
      exact absurd H (by simp)
    ·rw [if_neg c4] at H
     have c4b0 : decide ((Int.tmod x0_1 2) < 0) = false := decide_eq_false c4
     clear c4
     by_cases c9 : x5_1.length < 17592186044416
     ·rw [if_pos c9] at H
      have LMc9 := Aside0.mk c9
      clear c9
      obtain ⟨y309, hy309⟩ : ∃ y_ : List Int, y_ = (x5_1 ++ [Int.tmod x0_1 2]) := ⟨_, rfl⟩
      replace H : ((tabardref01_Floor.f k1 x0_1 2).bind fun bt312 => (tabardref03_Digits.l0 k1 bt312.1 a1 y309 (wrap64 (x6_1 + 1)))) = some r := by first | (rw [hy309]; with_reducible exact H) | (have H2_ := (Option.bind_some _ _).symm.trans H; rw [hy309]; with_reducible exact H2_) | (have H2_ := (Option.bind_some _ _).symm.trans H; with_reducible exact H2_) | with_reducible exact H | (rw [hy309]; exact H) | exact H
      have Ny309 := Aside0.mk hy309
      clear hy309
      replace H := Option.bind_eq_some_iff.mp H
      obtain ⟨⟨t312, t313⟩, A100, H⟩ := H
      replace H : (tabardref03_Digits.l0 k1 t312 a1 y309 (wrap64 (x6_1 + 1))) = some r := H
      have A10 := Aside0.mk A100
      clear A100
      have H' := Aside0.mk H
      clear H
      go_wp2_with (first | ((with_reducible refine gate_builtin (b := .append) (xs := #[.tmp 19, .tmp 21]) rfl ?_); at_builtin; refine Kd.R_append (Kd.int .i64) (w0 := w) w.heap.size rfl (.tmp 19) (.tmp 21) 23 3 (.int .i64 0) 8 rfl Try.underlying23 info3 rfl (by decide) (by omega) u5 x5_1 (Int.tmod x0_1 2) [.int .i64 (Int.tmod x0_1 2)] (fun _ => True) (fun _ => False) rfl rfl ?aP (fun _ hk => hk.elim) ?aF ?aO ?aB ?aS ?aL ?_; (case aP => exact rfl); (case aB => exact (bO HB.out)); (case aF => exact (fun _ _ => trivial)); (case aO => exact (rO HO_5.out)); (case aS => exact (below_size (bO HB.out))); (case aL => have := LMc9.out; omega); intro v310 w11 ho hb hg hat; rw [← Ny309.out] at ho; have n0_ := Aside0.mk (hb); have n1_ := Aside0.mk (ho); clear HB; clear HO_5; have HB := n0_; have HO311 := n1_; clear n0_ n1_; clear ho hb hg hat) | ((with_reducible refine gate_callee (f := 35) rfl ?_); refine goesL_ (some 25) rfl rfl Try.func35 (by kernel_rfl) rfl #[.int .i64 x0_1, .int .i64 2] rfl mO ?_; (with_reducible refine (tabardref01_Floor.calls k1 x0_1 2 t312 t313 _ A10.out).mono ?_); rintro e w12 ⟨rfl, hb⟩; refine ⟨_, rfl, ?_⟩; have n0_ := Aside0.mk (Kd.R_below (rO HO311.out) hb); have n1_ := Aside0.mk (below_step (bO HB.out) hb); clear HO311; clear HB; have HO311 := n0_; have HB := n1_; clear n0_ n1_; (try clear hb); (try clear hb2); (try clear hk); (try clear hi)))
      go_roundg k1
      case measure => have := HK1.out; omega
      case rel => exact ⟨(t312), (y309), (wrap64 (x6_1 + 1)), (by first | rfl | (simp; done) | (simp [*]; done)), (by first | rfl | (simp; done) | (simp [*]; done)), H', ⟨by have := HK1.out; omega⟩, ⟨rO HO311.out⟩, ⟨bO HB.out⟩⟩
     ·rw [if_neg c9] at H
      exact absurd H (by simp)
   ·rw [if_neg c3] at H
    have c3b0 : decide (x6_1 < a1) = false := decide_eq_false c3
    clear c3
    obtain rfl := Option.some.inj H
    go_wp2
    go_ret
    exact ⟨_, by first | rfl | (simp [errW_none, errW_some] <;> rfl) | (simp [*, errW_none, errW_some] <;> rfl), rO HO_5.out, bO HB.out⟩

end Go.Proofs.Ytolacbnkebbjiaa.X

/- What the functions of this seat compute, and that the program's calls come to just that: written by this session's own program out of the translation; no condition. -/
import Derived.Test.YtolacbnkebbjiaaX0
import Derived.Test.YtolacbnkebbjiaaX15
import Derived.Test.YtolacbnkebbjiaaX24
import Derived.Test.YtolacbnkebbjiaaX32
import Derived.Test.YtolacbnkebbjiaaX33
import Derived.Test.YtolacbnkebbjiaaX34
namespace Go.Proofs.Ytolacbnkebbjiaa.X
open Go.RowKit Go.Proofs.YtolacbnkebbjiaaW.PrintWords Go.Proofs.YtolacbnkebbjiaaW.PrintLast Go.Proofs.YtolacbnkebbjiaaW.PrintMore
attribute [local go_sem] max2_int min2_int max_two min_two max_three min_three max_four min_four   -- for this text's walks alone
set_option linter.unusedVariables false
set_option linter.unusedSimpArgs false

/-! ### tabardlaw03_WordTrims: function 8 -/
mutual
def tabardlaw03_WordTrims.j0 : Nat → List Int → List Int → List Int → List Int → List Int → Bool → Option (Bool)
 | 0, _, _, _, _, _, _ => none
 | k + 1, x0, x1, x5, x6, x7, x46 => if x46 = true then (some false) else (tabardlaw03_WordTrims.l0 k x0 x1 x5 x6 x7 (x7.length : Int) (x7.length : Int) 0)
def tabardlaw03_WordTrims.l0 : Nat → List Int → List Int → List Int → List Int → List Int → Int → Int → Int → Option (Bool)
 | 0, _, _, _, _, _, _, _, _ => none
 | k + 1, x0, x1, x5, x6, x7, x8, x50, x51 => if x51 < x50 then (if 0 ≤ x51 then (if x51 < (x7.length : Int) then (tabardlaw03_WordTrims.l0 k x0 x1 x5 x6 (x7.set (x51 : Int).toNat (-5)) x8 x50 (wrap64 (x51 + 1))) else (none)) else (none)) else ((some (([(-6), (-6)] : List Int) : List Int)).bind fun y676 => (if x7.length + y676.length < 17592186044416 then ((some (x7 ++ y676 : List Int)).bind fun y679 => ((tabardlaw03_same.f k x5 x0).bind fun t682 => (if t682 = true then ((tabardlaw03_same.f k x6 x1).bind fun t683 => (if t683 = true then (if 0 ≤ x8 then (if x8 < (y679.length : Int) then (some ((rd y679 x8) == (-6))) else (none)) else (none)) else (some false))) else (some false)))) else (none)))
end
def tabardlaw03_WordTrims.f (k : Nat) (l0 : List Int) (l1 : List Int) : Option (Bool) := (some (([] : List Int) : List Int)).bind fun y651 => (if y651.length + l0.length < 17592186044416 then ((some (y651 ++ l0 : List Int)).bind fun y654 => ((some (([] : List Int) : List Int)).bind fun y657 => (if y657.length + l1.length < 17592186044416 then ((some (y657 ++ l1 : List Int)).bind fun y660 => ((word_Trim.f k y654).bind fun t663 => ((tabardlaw03_fixed.f k).bind fun t666 => (if t666 = true then ((tabardref03_Trim.f k l0).bind fun t667 => ((tabardlaw03_same.f k t663 t667).bind fun t670 => (if t670 = true then ((word_Compare.f k y654 y660).bind fun t671 => ((tabardref03_Compare.f k l0 l1).bind fun t672 => (if t671 = t672 then ((word_Compare.f k y660 y654).bind fun t673 => ((word_Compare.f k y654 y660).bind fun t671 => (tabardlaw03_WordTrims.j0 k l0 l1 y654 y660 t663 (t673 != (wrap64 (-t671)))))) else (tabardlaw03_WordTrims.j0 k l0 l1 y654 y660 t663 true)))) else (tabardlaw03_WordTrims.j0 k l0 l1 y654 y660 t663 true)))) else (tabardlaw03_WordTrims.j0 k l0 l1 y654 y660 t663 true))))) else (none)))) else (none))
theorem tabardlaw03_WordTrims.mono_l : ∀ k, (∀ y0 y1 y2 y3 y4 y5, LeO (tabardlaw03_WordTrims.j0 k y0 y1 y2 y3 y4 y5) (tabardlaw03_WordTrims.j0 (k + 1) y0 y1 y2 y3 y4 y5)) ∧ (∀ y0 y1 y2 y3 y4 y5 y6 y7, LeO (tabardlaw03_WordTrims.l0 k y0 y1 y2 y3 y4 y5 y6 y7) (tabardlaw03_WordTrims.l0 (k + 1) y0 y1 y2 y3 y4 y5 y6 y7))
 | 0 => ⟨fun _ _ _ _ _ _ r h => by simp [tabardlaw03_WordTrims.j0] at h, fun _ _ _ _ _ _ _ _ r h => by simp [tabardlaw03_WordTrims.l0] at h⟩
 | k + 1 => by
  obtain ⟨ih0, ih1⟩ := tabardlaw03_WordTrims.mono_l k
  refine ⟨?_, ?_⟩
  ·intro y0 y1 y2 y3 y4 y5
   unfold tabardlaw03_WordTrims.j0
   repeat' first
   | (with_reducible exact ih0 _ _ _ _ _ _)
   | (with_reducible exact ih1 _ _ _ _ _ _ _ _)
   | (with_reducible exact tabardlaw03_fixed.mono _)
   | (with_reducible exact tabardlaw03_same.mono _ _ _)
   | (with_reducible exact tabardref03_Compare.mono _ _ _)
   | (with_reducible exact tabardref03_Trim.mono _ _)
   | (with_reducible exact word_Compare.mono _ _ _)
   | (with_reducible exact word_Trim.mono _ _)
   | (with_reducible exact LeO.refl _)
   | (with_reducible exact LeO.none _)
   | (with_reducible refine LeO.ite ?_ ?_)
   | (with_reducible refine LeO.bind ?_ (fun _ => ?_))
   | exact ih0 _ _ _ _ _ _
   | exact ih1 _ _ _ _ _ _ _ _
   | exact tabardlaw03_fixed.mono _
   | exact tabardlaw03_same.mono _ _ _
   | exact tabardref03_Compare.mono _ _ _
   | exact tabardref03_Trim.mono _ _
   | exact word_Compare.mono _ _ _
   | exact word_Trim.mono _ _
   | exact LeO.none _
   | refine LeO.ite ?_ ?_
   | refine LeO.bind ?_ (fun _ => ?_)
  ·intro y0 y1 y2 y3 y4 y5 y6 y7
   unfold tabardlaw03_WordTrims.l0
   repeat' first
   | (with_reducible exact ih0 _ _ _ _ _ _)
   | (with_reducible exact ih1 _ _ _ _ _ _ _ _)
   | (with_reducible exact tabardlaw03_fixed.mono _)
   | (with_reducible exact tabardlaw03_same.mono _ _ _)
   | (with_reducible exact tabardref03_Compare.mono _ _ _)
   | (with_reducible exact tabardref03_Trim.mono _ _)
   | (with_reducible exact word_Compare.mono _ _ _)
   | (with_reducible exact word_Trim.mono _ _)
   | (with_reducible exact LeO.refl _)
   | (with_reducible exact LeO.none _)
   | (with_reducible refine LeO.ite ?_ ?_)
   | (with_reducible refine LeO.bind ?_ (fun _ => ?_))
   | exact ih0 _ _ _ _ _ _
   | exact ih1 _ _ _ _ _ _ _ _
   | exact tabardlaw03_fixed.mono _
   | exact tabardlaw03_same.mono _ _ _
   | exact tabardref03_Compare.mono _ _ _
   | exact tabardref03_Trim.mono _ _
   | exact word_Compare.mono _ _ _
   | exact word_Trim.mono _ _
   | exact LeO.none _
   | refine LeO.ite ?_ ?_
   | refine LeO.bind ?_ (fun _ => ?_)
theorem tabardlaw03_WordTrims.mono : ∀ a0 a1 k, LeO (tabardlaw03_WordTrims.f k a0 a1) (tabardlaw03_WordTrims.f (k + 1) a0 a1) := by
 intro a0 a1 k
 obtain ⟨ih0, ih1⟩ := tabardlaw03_WordTrims.mono_l k
 unfold tabardlaw03_WordTrims.f
 repeat' first
   | (with_reducible exact ih0 _ _ _ _ _ _)
   | (with_reducible exact ih1 _ _ _ _ _ _ _ _)
   | (with_reducible exact tabardlaw03_fixed.mono _)
   | (with_reducible exact tabardlaw03_same.mono _ _ _)
   | (with_reducible exact tabardref03_Compare.mono _ _ _)
   | (with_reducible exact tabardref03_Trim.mono _ _)
   | (with_reducible exact word_Compare.mono _ _ _)
   | (with_reducible exact word_Trim.mono _ _)
   | (with_reducible exact LeO.refl _)
   | (with_reducible exact LeO.none _)
   | (with_reducible refine LeO.ite ?_ ?_)
   | (with_reducible refine LeO.bind ?_ (fun _ => ?_))
   | exact ih0 _ _ _ _ _ _
   | exact ih1 _ _ _ _ _ _ _ _
   | exact tabardlaw03_fixed.mono _
   | exact tabardlaw03_same.mono _ _ _
   | exact tabardref03_Compare.mono _ _ _
   | exact tabardref03_Trim.mono _ _
   | exact word_Compare.mono _ _ _
   | exact word_Trim.mono _ _
   | exact LeO.none _
   | refine LeO.ite ?_ ?_
   | refine LeO.bind ?_ (fun _ => ?_)
set_option maxHeartbeats 8000000 in
set_option maxRecDepth 100000 in
theorem tabardlaw03_WordTrims.calls (k : Nat) (A0 : Option Addr) (c0 : Nat) (l0 : List Int) (A1 : Option Addr) (c1 : Nat) (l1 : List Int) (r : Bool) (w : World) (hr0 : Kd.C (Kd.int .i64) w A0 l0.length l0) (hc0 : l0.length ≤ c0) (hr1 : Kd.C (Kd.int .i64) w A1 l1.length l1) (hc1 : l1.length ≤ c1) (h : tabardlaw03_WordTrims.f k l0 l1 = some r) :
  Calls Try.prog 8 #[.slice A0 l0.length c0, .slice A1 l1.length c1] w fun e w' => e = .returned (.bool r) ∧ Below w.heap.size w w' := by
 have HR0 := Aside0.mk hr0
 have HC0 := Aside0.mk hc0
 clear hr0 hc0
 have HR1 := Aside0.mk hr1
 have HC1 := Aside0.mk hc1
 clear hr1 hc1
 have HB := Aside0.mk (Below.refl w.heap.size w)
 have H : ((some (([] : List Int) : List Int)).bind fun y651 => (if y651.length + l0.length < 17592186044416 then ((some (y651 ++ l0 : List Int)).bind fun y654 => ((some (([] : List Int) : List Int)).bind fun y657 => (if y657.length + l1.length < 17592186044416 then ((some (y657 ++ l1 : List Int)).bind fun y660 => ((word_Trim.f k y654).bind fun t663 => ((tabardlaw03_fixed.f k).bind fun t666 => (if t666 = true then ((tabardref03_Trim.f k l0).bind fun t667 => ((tabardlaw03_same.f k t663 t667).bind fun t670 => (if t670 = true then ((word_Compare.f k y654 y660).bind fun t671 => ((tabardref03_Compare.f k l0 l1).bind fun t672 => (if t671 = t672 then ((word_Compare.f k y660 y654).bind fun t673 => ((word_Compare.f k y654 y660).bind fun t671 => (tabardlaw03_WordTrims.j0 k l0 l1 y654 y660 t663 (t673 != (wrap64 (-t671)))))) else (tabardlaw03_WordTrims.j0 k l0 l1 y654 y660 t663 true)))) else (tabardlaw03_WordTrims.j0 k l0 l1 y654 y660 t663 true)))) else (tabardlaw03_WordTrims.j0 k l0 l1 y654 y660 t663 true))))) else (none)))) else (none))) = some r := h
 clear h
 obtain ⟨y651, hy651⟩ : ∃ y_ : List Int, y_ = (([] : List Int)) := ⟨_, rfl⟩
 replace H : (if y651.length + l0.length < 17592186044416 then ((some (y651 ++ l0 : List Int)).bind fun y654 => ((some (([] : List Int) : List Int)).bind fun y657 => (if y657.length + l1.length < 17592186044416 then ((some (y657 ++ l1 : List Int)).bind fun y660 => ((word_Trim.f k y654).bind fun t663 => ((tabardlaw03_fixed.f k).bind fun t666 => (if t666 = true then ((tabardref03_Trim.f k l0).bind fun t667 => ((tabardlaw03_same.f k t663 t667).bind fun t670 => (if t670 = true then ((word_Compare.f k y654 y660).bind fun t671 => ((tabardref03_Compare.f k l0 l1).bind fun t672 => (if t671 = t672 then ((word_Compare.f k y660 y654).bind fun t673 => ((word_Compare.f k y654 y660).bind fun t671 => (tabardlaw03_WordTrims.j0 k l0 l1 y654 y660 t663 (t673 != (wrap64 (-t671)))))) else (tabardlaw03_WordTrims.j0 k l0 l1 y654 y660 t663 true)))) else (tabardlaw03_WordTrims.j0 k l0 l1 y654 y660 t663 true)))) else (tabardlaw03_WordTrims.j0 k l0 l1 y654 y660 t663 true))))) else (none)))) else (none)) = some r := by first | (rw [hy651]; with_reducible exact H) | (have H2_ := (Option.bind_some _ _).symm.trans H; rw [hy651]; with_reducible exact H2_) | (have H2_ := (Option.bind_some _ _).symm.trans H; with_reducible exact H2_) | with_reducible exact H | (rw [hy651]; exact H) | exact H
 have Ny651 := Aside0.mk hy651
 clear hy651
 by_cases c3 : y651.length + l0.length < 17592186044416
 ·rw [if_pos c3] at H
  have LMc3 := Aside0.mk c3
  clear c3
  obtain ⟨y654, hy654⟩ : ∃ y_ : List Int, y_ = (y651 ++ l0) := ⟨_, rfl⟩
  replace H : ((some (([] : List Int) : List Int)).bind fun y657 => (if y657.length + l1.length < 17592186044416 then ((some (y657 ++ l1 : List Int)).bind fun y660 => ((word_Trim.f k y654).bind fun t663 => ((tabardlaw03_fixed.f k).bind fun t666 => (if t666 = true then ((tabardref03_Trim.f k l0).bind fun t667 => ((tabardlaw03_same.f k t663 t667).bind fun t670 => (if t670 = true then ((word_Compare.f k y654 y660).bind fun t671 => ((tabardref03_Compare.f k l0 l1).bind fun t672 => (if t671 = t672 then ((word_Compare.f k y660 y654).bind fun t673 => ((word_Compare.f k y654 y660).bind fun t671 => (tabardlaw03_WordTrims.j0 k l0 l1 y654 y660 t663 (t673 != (wrap64 (-t671)))))) else (tabardlaw03_WordTrims.j0 k l0 l1 y654 y660 t663 true)))) else (tabardlaw03_WordTrims.j0 k l0 l1 y654 y660 t663 true)))) else (tabardlaw03_WordTrims.j0 k l0 l1 y654 y660 t663 true))))) else (none))) = some r := by first | (rw [hy654]; with_reducible exact H) | (have H2_ := (Option.bind_some _ _).symm.trans H; rw [hy654]; with_reducible exact H2_) | (have H2_ := (Option.bind_some _ _).symm.trans H; with_reducible exact H2_) | with_reducible exact H | (rw [hy654]; exact H) | exact H
  have Ny654 := Aside0.mk hy654
  clear hy654
  obtain ⟨y657, hy657⟩ : ∃ y_ : List Int, y_ = (([] : List Int)) := ⟨_, rfl⟩
  replace H : (if y657.length + l1.length < 17592186044416 then ((some (y657 ++ l1 : List Int)).bind fun y660 => ((word_Trim.f k y654).bind fun t663 => ((tabardlaw03_fixed.f k).bind fun t666 => (if t666 = true then ((tabardref03_Trim.f k l0).bind fun t667 => ((tabardlaw03_same.f k t663 t667).bind fun t670 => (if t670 = true then ((word_Compare.f k y654 y660).bind fun t671 => ((tabardref03_Compare.f k l0 l1).bind fun t672 => (if t671 = t672 then ((word_Compare.f k y660 y654).bind fun t673 => ((word_Compare.f k y654 y660).bind fun t671 => (tabardlaw03_WordTrims.j0 k l0 l1 y654 y660 t663 (t673 != (wrap64 (-t671)))))) else (tabardlaw03_WordTrims.j0 k l0 l1 y654 y660 t663 true)))) else (tabardlaw03_WordTrims.j0 k l0 l1 y654 y660 t663 true)))) else (tabardlaw03_WordTrims.j0 k l0 l1 y654 y660 t663 true))))) else (none)) = some r := by first | (rw [hy657]; with_reducible exact H) | (have H2_ := (Option.bind_some _ _).symm.trans H; rw [hy657]; with_reducible exact H2_) | (have H2_ := (Option.bind_some _ _).symm.trans H; with_reducible exact H2_) | with_reducible exact H | (rw [hy657]; exact H) | exact H
  have Ny657 := Aside0.mk hy657
  clear hy657
  by_cases c4 : y657.length + l1.length < 17592186044416
  ·rw [if_pos c4] at H
   have LMc4 := Aside0.mk c4
   clear c4
   obtain ⟨y660, hy660⟩ : ∃ y_ : List Int, y_ = (y657 ++ l1) := ⟨_, rfl⟩
   replace H : ((word_Trim.f k y654).bind fun t663 => ((tabardlaw03_fixed.f k).bind fun t666 => (if t666 = true then ((tabardref03_Trim.f k l0).bind fun t667 => ((tabardlaw03_same.f k t663 t667).bind fun t670 => (if t670 = true then ((word_Compare.f k y654 y660).bind fun t671 => ((tabardref03_Compare.f k l0 l1).bind fun t672 => (if t671 = t672 then ((word_Compare.f k y660 y654).bind fun t673 => ((word_Compare.f k y654 y660).bind fun t671 => (tabardlaw03_WordTrims.j0 k l0 l1 y654 y660 t663 (t673 != (wrap64 (-t671)))))) else (tabardlaw03_WordTrims.j0 k l0 l1 y654 y660 t663 true)))) else (tabardlaw03_WordTrims.j0 k l0 l1 y654 y660 t663 true)))) else (tabardlaw03_WordTrims.j0 k l0 l1 y654 y660 t663 true)))) = some r := by first | (rw [hy660]; with_reducible exact H) | (have H2_ := (Option.bind_some _ _).symm.trans H; rw [hy660]; with_reducible exact H2_) | (have H2_ := (Option.bind_some _ _).symm.trans H; with_reducible exact H2_) | with_reducible exact H | (rw [hy660]; exact H) | exact H
   have Ny660 := Aside0.mk hy660
   clear hy660
   replace H := Option.bind_eq_some_iff.mp H
   obtain ⟨t663, A50, H⟩ := H
   replace H : ((tabardlaw03_fixed.f k).bind fun t666 => (if t666 = true then ((tabardref03_Trim.f k l0).bind fun t667 => ((tabardlaw03_same.f k t663 t667).bind fun t670 => (if t670 = true then ((word_Compare.f k y654 y660).bind fun t671 => ((tabardref03_Compare.f k l0 l1).bind fun t672 => (if t671 = t672 then ((word_Compare.f k y660 y654).bind fun t673 => ((word_Compare.f k y654 y660).bind fun t671 => (tabardlaw03_WordTrims.j0 k l0 l1 y654 y660 t663 (t673 != (wrap64 (-t671)))))) else (tabardlaw03_WordTrims.j0 k l0 l1 y654 y660 t663 true)))) else (tabardlaw03_WordTrims.j0 k l0 l1 y654 y660 t663 true)))) else (tabardlaw03_WordTrims.j0 k l0 l1 y654 y660 t663 true))) = some r := H
   have A5 := Aside0.mk A50
   clear A50
   have HC6 := Aside0.mk H
   clear H
   go_enter Try.func8, Try.ntmps8
   go_upto_region 3 with (first | ((with_reducible refine gate_dst (N := 11) rfl ?_); refine Kd.R_lit (Kd.int .i64) _ 3 ?hg (N := 11) ?hd (xs := ([] : List Int)) (inner := []) (ok := fun _ => True) (okp := fun _ => True) ?hr ?hp (fun _ hk => hk) trivial (Below.refl _ _) (Nat.le_refl _) (by simp) ?_; (case hd => rfl); (case hg => rfl); (case hr => first | (go_simp; done) | (go_simp; rfl)); (case hp => exact (Reps.none _ _)); intro v652 w7 ho8 hb hg_ hnew_; clear hg_ hnew_; (first | rw [← Ny651.out] at ho8 | (simp only [Int.reduceToNat] at ho8; rw [← Ny651.out] at ho8)); have n0_ := Aside0.mk (Kd.R_lower ho8 (below_size (bO HB.out))); have n1_ := Aside0.mk (below_step (bO HB.out) hb); clear HB; have HO653 := n0_; have HB := n1_; clear n0_ n1_; clear hb ho8) | ((with_reducible refine gate_builtin (b := .append) (xs := #[.tmp 11, .tmp 12]) rfl ?_); at_builtin; refine Kd.R_append_rows (Kd.int .i64) (w0 := w) w.heap.size rfl (.tmp 11) (.tmp 12) 23 3 (.int .i64 0) 8 rfl Try.underlying23 info3 rfl (by decide) (by omega) v652 y651 l0 _ _ _ (fun _ => True) (fun _ => False) rfl rfl ?aO ?aR (fun _ _ h => h) (fun _ h => h.elim) ?aF ?aB ?aS ?aL ?_; (case aR => exact cO (Kd.C_below HR0.out HB.out)); (case aB => exact (bO HB.out)); (case aF => exact (fun _ _ => trivial)); (case aO => exact (rO HO653.out)); (case aS => exact (below_size (bO HB.out))); (case aL => have := LMc3.out; omega); intro v655 w9 ho hb hg hat; rw [← Ny654.out] at ho; have n0_ := Aside0.mk (hb); have n1_ := Aside0.mk (ho); clear HB; clear HO653; have HB := n0_; have HO656 := n1_; clear n0_ n1_; clear ho hb hg hat) | ((with_reducible refine gate_dst (N := 14) rfl ?_); refine Kd.R_lit (Kd.int .i64) _ 3 ?hg (N := 14) ?hd (xs := ([] : List Int)) (inner := []) (ok := fun _ => True) (okp := fun _ => True) ?hr ?hp (fun _ hk => hk) trivial (Below.refl _ _) (Nat.le_refl _) (by simp) ?_; (case hd => rfl); (case hg => rfl); (case hr => first | (go_simp; done) | (go_simp; rfl)); (case hp => exact (Reps.none _ _)); intro v658 w10 ho11 hb hg_ hnew_; clear hg_ hnew_; (first | rw [← Ny657.out] at ho11 | (simp only [Int.reduceToNat] at ho11; rw [← Ny657.out] at ho11)); have n0_ := Aside0.mk (Kd.R_elder' (rO HO656.out) (Kd.R_base ho11) hb); have n1_ := Aside0.mk (Kd.R_lower (Kd.R_new' ho11 (Kd.R_lt (rO HO656.out))) (below_size (bO HB.out))); have n2_ := Aside0.mk (below_step (bO HB.out) hb); clear HO656; clear HB; have HO656 := n0_; have HO659 := n1_; have HB := n2_; clear n0_ n1_ n2_; clear hb ho11) | ((with_reducible refine gate_builtin (b := .append) (xs := #[.tmp 14, .tmp 15]) rfl ?_); at_builtin; refine Kd.R_append_rows (Kd.int .i64) (w0 := w) w.heap.size rfl (.tmp 14) (.tmp 15) 23 3 (.int .i64 0) 8 rfl Try.underlying23 info3 rfl (by decide) (by omega) v658 y657 l1 _ _ _ (fun k_ => some k_ ≠ (v655 : Value).ownBlock) (fun _ => False) rfl rfl ?aO ?aR (fun _ _ h => h) (fun _ h => h.elim) ?aF ?aB ?aS ?aL ?_; (case aR => exact cO (Kd.C_below HR1.out HB.out)); (case aB => exact (bO HB.out)); (case aF => exact (fun k_ hk => Kd.fresh' (Kd.R_lt (rO HO656.out)) k_ hk)); (case aO => exact (by (with_reducible repeat (first | apply Kd.R_alloc | apply Kd.R_drewN | apply Kd.R_drew)); exact Kd.R_mono HO659.out (fun _ hk => hk.2))); (case aS => exact (below_size (bO HB.out))); (case aL => have := LMc4.out; omega); intro v661 w12 ho hb hg hat; rw [← Ny660.out] at ho; have n0_ := Aside0.mk (Kd.R_after (ok := (fun _ => True)) (rO HO656.out) hg hat); have n1_ := Aside0.mk (hb); have n2_ := Aside0.mk (ho); clear HO656; clear HB; clear HO659; have HO656 := n0_; have HB := n1_; have HO662 := n2_; clear n0_ n1_ n2_; clear ho hb hg hat; obtain ⟨Ao13, co13, eo13⟩ := Kd.R_slice HO656.out; subst eo13) | ((with_reducible refine gate_callee (f := 28) rfl ?_); refine goesL_ (some 18) rfl rfl Try.func28 (by kernel_rfl) rfl #[.slice Ao13 y654.length co13] rfl mO ?_; (with_reducible refine (word_Trim.calls k _ _ y654 t663 _ ?side1 ?side2 A5.out).mono ?_); (case side1 => exact cO (Kd.R_reads' HO656.out).2.2); (case side2 => exact (Kd.R_reads' HO656.out).2.1); rintro e w14 ⟨v664, rfl, ho0, hb⟩; refine ⟨_, rfl, ?_⟩; have n0_ := Aside0.mk (Kd.R_elder' (rO HO656.out) (Kd.R_base ho0) hb); have n1_ := Aside0.mk (Kd.R_elder' (rO HO662.out) (Kd.R_base ho0) hb); have n2_ := Aside0.mk (Kd.R_lower (Kd.R_new' (Kd.R_new' ho0 (Kd.R_lt (rO HO656.out))) (Kd.R_lt (rO HO662.out))) (below_size (bO HB.out))); have n3_ := Aside0.mk (below_step (bO HB.out) hb); clear HO656; clear HO662; clear HB; have HO656 := n0_; have HO662 := n1_; have HO665 := n2_; have HB := n3_; clear n0_ n1_ n2_ n3_; (try clear hb); (try clear hb2); (try clear hk); (try clear hi); (try clear ho0)))
   (try simp only [Act.put, List.setIfInBounds_toArray, List.set_cons_zero, List.set_cons_succ])
   go_cut [46] (fun v46 wc => ∃ (kq : Nat) (x46_5 : Bool), v46 = .bool x46_5 ∧ Aside0 (tabardlaw03_WordTrims.j0 kq l0 l1 y654 y660 t663 x46_5 = some r) ∧ Aside0 (kq ≤ k) ∧ Aside0 (Kd.R (Kd.int .i64) 3 wc w.heap.size (fun k_ => some k_ ≠ (v661 : Value).ownBlock ∧ some k_ ≠ (v664 : Value).ownBlock) (.slice Ao13 y654.length co13) y654) ∧ Aside0 (Kd.R (Kd.int .i64) 3 wc w.heap.size (fun k_ => some k_ ≠ ((.slice Ao13 y654.length co13) : Value).ownBlock ∧ some k_ ≠ (v664 : Value).ownBlock) v661 y660) ∧ Aside0 (Kd.R (Kd.int .i64) 3 wc w.heap.size (fun k_ => some k_ ≠ ((.slice Ao13 y654.length co13) : Value).ownBlock ∧ some k_ ≠ (v661 : Value).ownBlock) v664 t663) ∧ Aside0 (Below w.heap.size w wc))
   case first =>
    have H := HC6.out
    clear HC6
    replace H := Option.bind_eq_some_iff.mp H
    obtain ⟨t666, A150, H⟩ := H
    replace H : (if t666 = true then ((tabardref03_Trim.f k l0).bind fun t667 => ((tabardlaw03_same.f k t663 t667).bind fun t670 => (if t670 = true then ((word_Compare.f k y654 y660).bind fun t671 => ((tabardref03_Compare.f k l0 l1).bind fun t672 => (if t671 = t672 then ((word_Compare.f k y660 y654).bind fun t673 => ((word_Compare.f k y654 y660).bind fun t671 => (tabardlaw03_WordTrims.j0 k l0 l1 y654 y660 t663 (t673 != (wrap64 (-t671)))))) else (tabardlaw03_WordTrims.j0 k l0 l1 y654 y660 t663 true)))) else (tabardlaw03_WordTrims.j0 k l0 l1 y654 y660 t663 true)))) else (tabardlaw03_WordTrims.j0 k l0 l1 y654 y660 t663 true)) = some r := H
    have A15 := Aside0.mk A150
    clear A150
    by_cases c16 : t666 = true
    ·subst c16
     have H1 : ((tabardref03_Trim.f k l0).bind fun t667 => ((tabardlaw03_same.f k t663 t667).bind fun t670 => (if t670 = true then ((word_Compare.f k y654 y660).bind fun t671 => ((tabardref03_Compare.f k l0 l1).bind fun t672 => (if t671 = t672 then ((word_Compare.f k y660 y654).bind fun t673 => ((word_Compare.f k y654 y660).bind fun t671 => (tabardlaw03_WordTrims.j0 k l0 l1 y654 y660 t663 (t673 != (wrap64 (-t671)))))) else (tabardlaw03_WordTrims.j0 k l0 l1 y654 y660 t663 true)))) else (tabardlaw03_WordTrims.j0 k l0 l1 y654 y660 t663 true)))) = some r := by rw [if_pos rfl] at H; exact H
     clear H
     have H := H1
     clear H1
     replace H := Option.bind_eq_some_iff.mp H
     obtain ⟨t667, A170, H⟩ := H
     replace H : ((tabardlaw03_same.f k t663 t667).bind fun t670 => (if t670 = true then ((word_Compare.f k y654 y660).bind fun t671 => ((tabardref03_Compare.f k l0 l1).bind fun t672 => (if t671 = t672 then ((word_Compare.f k y660 y654).bind fun t673 => ((word_Compare.f k y654 y660).bind fun t671 => (tabardlaw03_WordTrims.j0 k l0 l1 y654 y660 t663 (t673 != (wrap64 (-t671)))))) else (tabardlaw03_WordTrims.j0 k l0 l1 y654 y660 t663 true)))) else (tabardlaw03_WordTrims.j0 k l0 l1 y654 y660 t663 true))) = some r := H
     have A17 := Aside0.mk A170
     clear A170
     replace H := Option.bind_eq_some_iff.mp H
     obtain ⟨t670, A180, H⟩ := H
     replace H : (if t670 = true then ((word_Compare.f k y654 y660).bind fun t671 => ((tabardref03_Compare.f k l0 l1).bind fun t672 => (if t671 = t672 then ((word_Compare.f k y660 y654).bind fun t673 => ((word_Compare.f k y654 y660).bind fun t671 => (tabardlaw03_WordTrims.j0 k l0 l1 y654 y660 t663 (t673 != (wrap64 (-t671)))))) else (tabardlaw03_WordTrims.j0 k l0 l1 y654 y660 t663 true)))) else (tabardlaw03_WordTrims.j0 k l0 l1 y654 y660 t663 true)) = some r := H
     have A18 := Aside0.mk A180
     clear A180
     by_cases c19 : t670 = true
     ·subst c19
      have H1 : ((word_Compare.f k y654 y660).bind fun t671 => ((tabardref03_Compare.f k l0 l1).bind fun t672 => (if t671 = t672 then ((word_Compare.f k y660 y654).bind fun t673 => ((word_Compare.f k y654 y660).bind fun t671 => (tabardlaw03_WordTrims.j0 k l0 l1 y654 y660 t663 (t673 != (wrap64 (-t671)))))) else (tabardlaw03_WordTrims.j0 k l0 l1 y654 y660 t663 true)))) = some r := by rw [if_pos rfl] at H; exact H
      clear H
      have H := H1
      clear H1
      replace H := Option.bind_eq_some_iff.mp H
      obtain ⟨t671, A200, H⟩ := H
      replace H : ((tabardref03_Compare.f k l0 l1).bind fun t672 => (if t671 = t672 then ((word_Compare.f k y660 y654).bind fun t673 => ((word_Compare.f k y654 y660).bind fun t671 => (tabardlaw03_WordTrims.j0 k l0 l1 y654 y660 t663 (t673 != (wrap64 (-t671)))))) else (tabardlaw03_WordTrims.j0 k l0 l1 y654 y660 t663 true))) = some r := H
      have A20 := Aside0.mk A200
      clear A200
      replace H := Option.bind_eq_some_iff.mp H
      obtain ⟨t672, A210, H⟩ := H
      replace H : (if t671 = t672 then ((word_Compare.f k y660 y654).bind fun t673 => ((word_Compare.f k y654 y660).bind fun t671 => (tabardlaw03_WordTrims.j0 k l0 l1 y654 y660 t663 (t673 != (wrap64 (-t671)))))) else (tabardlaw03_WordTrims.j0 k l0 l1 y654 y660 t663 true)) = some r := H
      have A21 := Aside0.mk A210
      clear A210
      by_cases c22 : t671 = t672
      ·rw [if_pos c22] at H
       have c22b0 : (t671 == t672) = true := beq_iff_eq.mpr c22
       have c22b1 : (t671 != t672) = false := bne_eq_false_iff_eq.mpr c22
       clear c22
       (first | rw [c22b0] | (simp only [i64_w, i32_w]; rw [c22b0]) | skip)
       replace H := Option.bind_eq_some_iff.mp H
       obtain ⟨t673, A230, H⟩ := H
       replace H : ((word_Compare.f k y654 y660).bind fun t671 => (tabardlaw03_WordTrims.j0 k l0 l1 y654 y660 t663 (t673 != (wrap64 (-t671))))) = some r := H
       have A23 := Aside0.mk A230
       clear A230
       replace H := Option.bind_eq_some_iff.mp H
       obtain ⟨t671z, A240, H⟩ := H
       have hEA24 := Option.some.inj (A20.out.symm.trans A240)
       subst hEA24
       replace H : (tabardlaw03_WordTrims.j0 k l0 l1 y654 y660 t663 (t673 != (wrap64 (-t671)))) = some r := H
       have A24 := Aside0.mk A240
       clear A240
       have H' := Aside0.mk H
       clear H
       go_wp2_with (first | ((with_reducible refine gate_callee (f := 15) rfl ?_); refine goesL_ (some 19) rfl rfl Try.func15 (by kernel_rfl) rfl #[] rfl mO ?_; (with_reducible refine (tabardlaw03_fixed.calls k  true _ A15.out).mono ?_); rintro e w25 ⟨rfl, hb⟩; refine ⟨_, rfl, ?_⟩; have n0_ := Aside0.mk (Kd.R_below (rO HO656.out) hb); have n1_ := Aside0.mk (Kd.R_below (rO HO662.out) hb); have n2_ := Aside0.mk (Kd.R_below (rO HO665.out) hb); have n3_ := Aside0.mk (below_step (bO HB.out) hb); clear HO656; clear HO662; clear HO665; clear HB; have HO656 := n0_; have HO662 := n1_; have HO665 := n2_; have HB := n3_; clear n0_ n1_ n2_ n3_; (try clear hb); (try clear hb2); (try clear hk); (try clear hi)) | (go_at_call 29; (with_reducible refine (tabardref03_Trim.calls k _ _ l0 t667 _ ?side1 ?side2 A17.out).mono ?_); (case side1 => exact cO (Kd.C_below HR0.out HB.out)); (case side2 => exact HC0.out); rintro e w26 ⟨v668, rfl, ho0, hb⟩; have n0_ := Aside0.mk (Kd.R_elder' (rO HO656.out) (Kd.R_base ho0) hb); have n1_ := Aside0.mk (Kd.R_elder' (rO HO662.out) (Kd.R_base ho0) hb); have n2_ := Aside0.mk (Kd.R_elder' (rO HO665.out) (Kd.R_base ho0) hb); have n3_ := Aside0.mk (Kd.R_lower (Kd.R_new' (Kd.R_new' (Kd.R_new' ho0 (Kd.R_lt (rO HO656.out))) (Kd.R_lt (rO HO662.out))) (Kd.R_lt (rO HO665.out))) (below_size (bO HB.out))); have n4_ := Aside0.mk (below_step (bO HB.out) hb); clear HO656; clear HO662; clear HO665; clear HB; have HO656 := n0_; have HO662 := n1_; have HO665 := n2_; have HO669 := n3_; have HB := n4_; clear n0_ n1_ n2_ n3_ n4_; (try clear hb); (try clear hb2); (try clear hk); (try clear hi); (try clear ho0); obtain ⟨Ao27, co27, eo27⟩ := Kd.R_slice HO665.out; subst eo27; obtain ⟨Ao28, co28, eo28⟩ := Kd.R_slice HO669.out; subst eo28) | (go_at_call 16; (with_reducible refine (tabardlaw03_same.calls k _ _ t663 _ _ t667 true _ ?side1 ?side2 ?side3 ?side4 A18.out).mono ?_); (case side1 => exact cO (Kd.R_reads' HO665.out).2.2); (case side2 => exact (Kd.R_reads' HO665.out).2.1); (case side3 => exact cO (Kd.R_reads' HO669.out).2.2); (case side4 => exact (Kd.R_reads' HO669.out).2.1); rintro e w' ⟨rfl, ⟨nd, rfl⟩⟩; obtain ⟨Ao29, co29, eo29⟩ := Kd.R_slice HO662.out; subst eo29) | (go_at_call 24; (with_reducible refine (word_Compare.calls k _ _ y654 _ _ y660 t671 _ ?side1 ?side2 ?side3 ?side4 A20.out).mono ?_); (case side1 => exact cO (Kd.R_reads' HO656.out).2.2); (case side2 => exact (Kd.R_reads' HO656.out).2.1); (case side3 => exact cO (Kd.R_reads' HO662.out).2.2); (case side4 => exact (Kd.R_reads' HO662.out).2.1); rintro e w30 ⟨rfl, hb⟩; have n0_ := Aside0.mk (Kd.R_below (rO HO656.out) hb); have n1_ := Aside0.mk (Kd.R_below (rO HO662.out) hb); have n2_ := Aside0.mk (Kd.R_below (rO HO665.out) hb); have n3_ := Aside0.mk (Kd.R_below (rO HO669.out) hb); have n4_ := Aside0.mk (below_step (bO HB.out) hb); clear HO656; clear HO662; clear HO665; clear HO669; clear HB; have HO656 := n0_; have HO662 := n1_; have HO665 := n2_; have HO669 := n3_; have HB := n4_; clear n0_ n1_ n2_ n3_ n4_; (try clear hb); (try clear hb2); (try clear hk); (try clear hi)) | (go_at_call 30; (with_reducible refine (tabardref03_Compare.calls k _ _ l0 _ _ l1 t672 _ ?side1 ?side2 ?side3 ?side4 A21.out).mono ?_); (case side1 => exact cO (Kd.C_below HR0.out HB.out)); (case side2 => exact HC0.out); (case side3 => exact cO (Kd.C_below HR1.out HB.out)); (case side4 => exact HC1.out); rintro e w' ⟨rfl, ⟨nd, rfl⟩⟩) | (go_at_call 24; (with_reducible refine (word_Compare.calls k _ _ y660 _ _ y654 t673 _ ?side1 ?side2 ?side3 ?side4 A23.out).mono ?_); (case side1 => exact cO (Kd.R_reads' HO662.out).2.2); (case side2 => exact (Kd.R_reads' HO662.out).2.1); (case side3 => exact cO (Kd.R_reads' HO656.out).2.2); (case side4 => exact (Kd.R_reads' HO656.out).2.1); rintro e w31 ⟨rfl, hb⟩; have n0_ := Aside0.mk (Kd.R_below (rO HO656.out) hb); have n1_ := Aside0.mk (Kd.R_below (rO HO662.out) hb); have n2_ := Aside0.mk (Kd.R_below (rO HO665.out) hb); have n3_ := Aside0.mk (Kd.R_below (rO HO669.out) hb); have n4_ := Aside0.mk (below_step (bO HB.out) hb); clear HO656; clear HO662; clear HO665; clear HO669; clear HB; have HO656 := n0_; have HO662 := n1_; have HO665 := n2_; have HO669 := n3_; have HB := n4_; clear n0_ n1_ n2_ n3_ n4_; (try clear hb); (try clear hb2); (try clear hk); (try clear hi)) | (go_at_call 24; (with_reducible refine (word_Compare.calls k _ _ y654 _ _ y660 t671 _ ?side1 ?side2 ?side3 ?side4 A24.out).mono ?_); (case side1 => exact cO (Kd.R_reads' HO656.out).2.2); (case side2 => exact (Kd.R_reads' HO656.out).2.1); (case side3 => exact cO (Kd.R_reads' HO662.out).2.2); (case side4 => exact (Kd.R_reads' HO662.out).2.1); rintro e w32 ⟨rfl, hb⟩; have n0_ := Aside0.mk (Kd.R_below (rO HO656.out) hb); have n1_ := Aside0.mk (Kd.R_below (rO HO662.out) hb); have n2_ := Aside0.mk (Kd.R_below (rO HO665.out) hb); have n3_ := Aside0.mk (Kd.R_below (rO HO669.out) hb); have n4_ := Aside0.mk (below_step (bO HB.out) hb); clear HO656; clear HO662; clear HO665; clear HO669; clear HB; have HO656 := n0_; have HO662 := n1_; have HO665 := n2_; have HO669 := n3_; have HB := n4_; clear n0_ n1_ n2_ n3_ n4_; (try clear hb); (try clear hb2); (try clear hk); (try clear hi)))
       go_meet
       case rel => exact ⟨_, ((t673 != (wrap64 (-t671)))), (by first | rfl | (simp; done) | (simp [*]; done)), H', ⟨by first | omega | exact Nat.le_refl _⟩, ⟨by (with_reducible repeat (first | apply Kd.R_alloc | apply Kd.R_drewN | apply Kd.R_drew)); exact Kd.R_mono HO656.out (fun _ hk => ⟨hk.1.1.2, hk.1.2⟩)⟩, ⟨by (with_reducible repeat (first | apply Kd.R_alloc | apply Kd.R_drewN | apply Kd.R_drew)); exact Kd.R_mono HO662.out (fun _ hk => ⟨hk.1.1, hk.1.2⟩)⟩, ⟨by (with_reducible repeat (first | apply Kd.R_alloc | apply Kd.R_drewN | apply Kd.R_drew)); exact Kd.R_mono HO665.out (fun _ hk => ⟨hk.1.1.2, hk.1.2⟩)⟩, ⟨bO HB.out⟩⟩
      ·rw [if_neg c22] at H
       have c22b0 : (t671 == t672) = false := beq_eq_false_iff_ne.mpr c22
       have c22b1 : (t671 != t672) = true := bne_iff_ne.mpr c22
       (first | rw [c22b0] | (simp only [i64_w, i32_w]; rw [c22b0]) | skip)
       have H' := Aside0.mk H
       clear H
       go_wp2_with (first | ((with_reducible refine gate_callee (f := 15) rfl ?_); refine goesL_ (some 19) rfl rfl Try.func15 (by kernel_rfl) rfl #[] rfl mO ?_; (with_reducible refine (tabardlaw03_fixed.calls k  true _ A15.out).mono ?_); rintro e w33 ⟨rfl, hb⟩; refine ⟨_, rfl, ?_⟩; have n0_ := Aside0.mk (Kd.R_below (rO HO656.out) hb); have n1_ := Aside0.mk (Kd.R_below (rO HO662.out) hb); have n2_ := Aside0.mk (Kd.R_below (rO HO665.out) hb); have n3_ := Aside0.mk (below_step (bO HB.out) hb); clear HO656; clear HO662; clear HO665; clear HB; have HO656 := n0_; have HO662 := n1_; have HO665 := n2_; have HB := n3_; clear n0_ n1_ n2_ n3_; (try clear hb); (try clear hb2); (try clear hk); (try clear hi)) | (go_at_call 29; (with_reducible refine (tabardref03_Trim.calls k _ _ l0 t667 _ ?side1 ?side2 A17.out).mono ?_); (case side1 => exact cO (Kd.C_below HR0.out HB.out)); (case side2 => exact HC0.out); rintro e w34 ⟨v668, rfl, ho0, hb⟩; have n0_ := Aside0.mk (Kd.R_elder' (rO HO656.out) (Kd.R_base ho0) hb); have n1_ := Aside0.mk (Kd.R_elder' (rO HO662.out) (Kd.R_base ho0) hb); have n2_ := Aside0.mk (Kd.R_elder' (rO HO665.out) (Kd.R_base ho0) hb); have n3_ := Aside0.mk (Kd.R_lower (Kd.R_new' (Kd.R_new' (Kd.R_new' ho0 (Kd.R_lt (rO HO656.out))) (Kd.R_lt (rO HO662.out))) (Kd.R_lt (rO HO665.out))) (below_size (bO HB.out))); have n4_ := Aside0.mk (below_step (bO HB.out) hb); clear HO656; clear HO662; clear HO665; clear HB; have HO656 := n0_; have HO662 := n1_; have HO665 := n2_; have HO669 := n3_; have HB := n4_; clear n0_ n1_ n2_ n3_ n4_; (try clear hb); (try clear hb2); (try clear hk); (try clear hi); (try clear ho0); obtain ⟨Ao35, co35, eo35⟩ := Kd.R_slice HO665.out; subst eo35; obtain ⟨Ao36, co36, eo36⟩ := Kd.R_slice HO669.out; subst eo36) | (go_at_call 16; (with_reducible refine (tabardlaw03_same.calls k _ _ t663 _ _ t667 true _ ?side1 ?side2 ?side3 ?side4 A18.out).mono ?_); (case side1 => exact cO (Kd.R_reads' HO665.out).2.2); (case side2 => exact (Kd.R_reads' HO665.out).2.1); (case side3 => exact cO (Kd.R_reads' HO669.out).2.2); (case side4 => exact (Kd.R_reads' HO669.out).2.1); rintro e w' ⟨rfl, ⟨nd, rfl⟩⟩; obtain ⟨Ao37, co37, eo37⟩ := Kd.R_slice HO662.out; subst eo37) | (go_at_call 24; (with_reducible refine (word_Compare.calls k _ _ y654 _ _ y660 t671 _ ?side1 ?side2 ?side3 ?side4 A20.out).mono ?_); (case side1 => exact cO (Kd.R_reads' HO656.out).2.2); (case side2 => exact (Kd.R_reads' HO656.out).2.1); (case side3 => exact cO (Kd.R_reads' HO662.out).2.2); (case side4 => exact (Kd.R_reads' HO662.out).2.1); rintro e w38 ⟨rfl, hb⟩; have n0_ := Aside0.mk (Kd.R_below (rO HO656.out) hb); have n1_ := Aside0.mk (Kd.R_below (rO HO662.out) hb); have n2_ := Aside0.mk (Kd.R_below (rO HO665.out) hb); have n3_ := Aside0.mk (Kd.R_below (rO HO669.out) hb); have n4_ := Aside0.mk (below_step (bO HB.out) hb); clear HO656; clear HO662; clear HO665; clear HO669; clear HB; have HO656 := n0_; have HO662 := n1_; have HO665 := n2_; have HO669 := n3_; have HB := n4_; clear n0_ n1_ n2_ n3_ n4_; (try clear hb); (try clear hb2); (try clear hk); (try clear hi)) | (go_at_call 30; (with_reducible refine (tabardref03_Compare.calls k _ _ l0 _ _ l1 t672 _ ?side1 ?side2 ?side3 ?side4 A21.out).mono ?_); (case side1 => exact cO (Kd.C_below HR0.out HB.out)); (case side2 => exact HC0.out); (case side3 => exact cO (Kd.C_below HR1.out HB.out)); (case side4 => exact HC1.out); rintro e w' ⟨rfl, ⟨nd, rfl⟩⟩))
       go_meet
       case rel => exact ⟨_, (true), (by first | rfl | (simp; done) | (simp [*]; done)), H', ⟨by first | omega | exact Nat.le_refl _⟩, ⟨by (with_reducible repeat (first | apply Kd.R_alloc | apply Kd.R_drewN | apply Kd.R_drew)); exact Kd.R_mono HO656.out (fun _ hk => ⟨hk.1.1.2, hk.1.2⟩)⟩, ⟨by (with_reducible repeat (first | apply Kd.R_alloc | apply Kd.R_drewN | apply Kd.R_drew)); exact Kd.R_mono HO662.out (fun _ hk => ⟨hk.1.1, hk.1.2⟩)⟩, ⟨by (with_reducible repeat (first | apply Kd.R_alloc | apply Kd.R_drewN | apply Kd.R_drew)); exact Kd.R_mono HO665.out (fun _ hk => ⟨hk.1.1.2, hk.1.2⟩)⟩, ⟨bO HB.out⟩⟩
     ·replace c19 := Bool.eq_false_iff.mpr c19
      subst c19
      have H1 : (tabardlaw03_WordTrims.j0 k l0 l1 y654 y660 t663 true) = some r := by rw [if_neg (show ¬ (false = true) by decide)] at H; exact H
      clear H
      have H := H1
      clear H1
      have H' := Aside0.mk H
      clear H
      go_wp2_with (first | ((with_reducible refine gate_callee (f := 15) rfl ?_); refine goesL_ (some 19) rfl rfl Try.func15 (by kernel_rfl) rfl #[] rfl mO ?_; (with_reducible refine (tabardlaw03_fixed.calls k  true _ A15.out).mono ?_); rintro e w39 ⟨rfl, hb⟩; refine ⟨_, rfl, ?_⟩; have n0_ := Aside0.mk (Kd.R_below (rO HO656.out) hb); have n1_ := Aside0.mk (Kd.R_below (rO HO662.out) hb); have n2_ := Aside0.mk (Kd.R_below (rO HO665.out) hb); have n3_ := Aside0.mk (below_step (bO HB.out) hb); clear HO656; clear HO662; clear HO665; clear HB; have HO656 := n0_; have HO662 := n1_; have HO665 := n2_; have HB := n3_; clear n0_ n1_ n2_ n3_; (try clear hb); (try clear hb2); (try clear hk); (try clear hi)) | (go_at_call 29; (with_reducible refine (tabardref03_Trim.calls k _ _ l0 t667 _ ?side1 ?side2 A17.out).mono ?_); (case side1 => exact cO (Kd.C_below HR0.out HB.out)); (case side2 => exact HC0.out); rintro e w40 ⟨v668, rfl, ho0, hb⟩; have n0_ := Aside0.mk (Kd.R_elder' (rO HO656.out) (Kd.R_base ho0) hb); have n1_ := Aside0.mk (Kd.R_elder' (rO HO662.out) (Kd.R_base ho0) hb); have n2_ := Aside0.mk (Kd.R_elder' (rO HO665.out) (Kd.R_base ho0) hb); have n3_ := Aside0.mk (Kd.R_lower (Kd.R_new' (Kd.R_new' (Kd.R_new' ho0 (Kd.R_lt (rO HO656.out))) (Kd.R_lt (rO HO662.out))) (Kd.R_lt (rO HO665.out))) (below_size (bO HB.out))); have n4_ := Aside0.mk (below_step (bO HB.out) hb); clear HO656; clear HO662; clear HO665; clear HB; have HO656 := n0_; have HO662 := n1_; have HO665 := n2_; have HO669 := n3_; have HB := n4_; clear n0_ n1_ n2_ n3_ n4_; (try clear hb); (try clear hb2); (try clear hk); (try clear hi); (try clear ho0); obtain ⟨Ao41, co41, eo41⟩ := Kd.R_slice HO665.out; subst eo41; obtain ⟨Ao42, co42, eo42⟩ := Kd.R_slice HO669.out; subst eo42) | (go_at_call 16; (with_reducible refine (tabardlaw03_same.calls k _ _ t663 _ _ t667 false _ ?side1 ?side2 ?side3 ?side4 A18.out).mono ?_); (case side1 => exact cO (Kd.R_reads' HO665.out).2.2); (case side2 => exact (Kd.R_reads' HO665.out).2.1); (case side3 => exact cO (Kd.R_reads' HO669.out).2.2); (case side4 => exact (Kd.R_reads' HO669.out).2.1); rintro e w' ⟨rfl, ⟨nd, rfl⟩⟩))
      go_meet
      case rel => exact ⟨_, (true), (by first | rfl | (simp; done) | (simp [*]; done)), H', ⟨by first | omega | exact Nat.le_refl _⟩, ⟨by (with_reducible repeat (first | apply Kd.R_alloc | apply Kd.R_drewN | apply Kd.R_drew)); exact Kd.R_mono HO656.out (fun _ hk => ⟨hk.1.1.2, hk.1.2⟩)⟩, ⟨by (with_reducible repeat (first | apply Kd.R_alloc | apply Kd.R_drewN | apply Kd.R_drew)); exact Kd.R_mono HO662.out (fun _ hk => ⟨hk.1.1, hk.1.2⟩)⟩, ⟨by (with_reducible repeat (first | apply Kd.R_alloc | apply Kd.R_drewN | apply Kd.R_drew)); exact Kd.R_mono HO665.out (fun _ hk => ⟨hk.1.1.2, hk.1.2⟩)⟩, ⟨bO HB.out⟩⟩
    ·replace c16 := Bool.eq_false_iff.mpr c16
     subst c16
     have H1 : (tabardlaw03_WordTrims.j0 k l0 l1 y654 y660 t663 true) = some r := by rw [if_neg (show ¬ (false = true) by decide)] at H; exact H
     clear H
     have H := H1
     clear H1
     have H' := Aside0.mk H
     clear H
     go_wp2_with (first | ((with_reducible refine gate_callee (f := 15) rfl ?_); refine goesL_ (some 19) rfl rfl Try.func15 (by kernel_rfl) rfl #[] rfl mO ?_; (with_reducible refine (tabardlaw03_fixed.calls k  false _ A15.out).mono ?_); rintro e w43 ⟨rfl, hb⟩; refine ⟨_, rfl, ?_⟩; have n0_ := Aside0.mk (Kd.R_below (rO HO656.out) hb); have n1_ := Aside0.mk (Kd.R_below (rO HO662.out) hb); have n2_ := Aside0.mk (Kd.R_below (rO HO665.out) hb); have n3_ := Aside0.mk (below_step (bO HB.out) hb); clear HO656; clear HO662; clear HO665; clear HB; have HO656 := n0_; have HO662 := n1_; have HO665 := n2_; have HB := n3_; clear n0_ n1_ n2_ n3_; (try clear hb); (try clear hb2); (try clear hk); (try clear hi)))
     go_meet
     case rel => exact ⟨_, (true), (by first | rfl | (simp; done) | (simp [*]; done)), H', ⟨by first | omega | exact Nat.le_refl _⟩, ⟨by (with_reducible repeat (first | apply Kd.R_alloc | apply Kd.R_drewN | apply Kd.R_drew)); exact Kd.R_mono HO656.out (fun _ hk => ⟨hk.1.2, hk.2⟩)⟩, ⟨rO HO662.out⟩, ⟨by (with_reducible repeat (first | apply Kd.R_alloc | apply Kd.R_drewN | apply Kd.R_drew)); exact Kd.R_mono HO665.out (fun _ hk => ⟨hk.1.2, hk.2⟩)⟩, ⟨bO HB.out⟩⟩
   case rest =>
    clear HC6
    try clear c1
    try clear c2
    try clear p2
    try clear c3
    try clear c4
    try clear p6
    try clear c8
    try clear c15
    try clear c16
    try clear c19
    try clear c22
    try clear c22b0
    try clear c22b1
    try clear c28
    obtain ⟨kq, x46_5, rfl, HA, HJ5, HO_5, HO_6, HO_7, HB⟩ := hcut
    cases kq with
    | zero => exact absurd HA.out (by simp [tabardlaw03_WordTrims.j0])
    | succ kj5 =>
     have H := HA.out
     clear HA
     simp only [tabardlaw03_WordTrims.j0] at H
     by_cases c44 : x46_5 = true
     ·subst c44
      have H1 : (some false) = some r := by rw [if_pos rfl] at H; exact H
      clear H
      have H := H1
      clear H1
      obtain rfl := Option.some.inj H
      go_wp2
      go_ret
      exact ⟨by first | rfl | (simp [errW_none, errW_some] <;> rfl) | (simp [*, errW_none, errW_some] <;> rfl), bO HB.out⟩
     ·replace c44 := Bool.eq_false_iff.mpr c44
      subst c44
      have H1 : (tabardlaw03_WordTrims.l0 kj5 l0 l1 y654 y660 t663 (t663.length : Int) (t663.length : Int) 0) = some r := by rw [if_neg (show ¬ (false = true) by decide)] at H; exact H
      clear H
      have H := H1
      clear H1
      have H' := Aside0.mk H
      clear H
      obtain ⟨Ao45, co45, eo45⟩ := Kd.R_slice HO_7.out
      subst eo45
      go_wp2
      go_loopg [51] kj5 (fun kq v51 w' => ∃ (x7_2 : List Int) (x51_2 : Int), v51 = .int .i64 x51_2 ∧ Aside0 (tabardlaw03_WordTrims.l0 kq l0 l1 y654 y660 x7_2 (t663.length : Int) (t663.length : Int) x51_2 = some r) ∧ Aside0 (kq ≤ kj5) ∧ Aside0 (Kd.R (Kd.int .i64) 3 w' w.heap.size (fun k_ => some k_ ≠ (v661 : Value).ownBlock ∧ some k_ ≠ ((.slice Ao45 t663.length co45) : Value).ownBlock) (.slice Ao13 y654.length co13) y654) ∧ Aside0 (Kd.R (Kd.int .i64) 3 w' w.heap.size (fun k_ => some k_ ≠ ((.slice Ao13 y654.length co13) : Value).ownBlock ∧ some k_ ≠ ((.slice Ao45 t663.length co45) : Value).ownBlock) v661 y660) ∧ Aside0 (Kd.R (Kd.int .i64) 3 w' w.heap.size (fun k_ => some k_ ≠ ((.slice Ao13 y654.length co13) : Value).ownBlock ∧ some k_ ≠ (v661 : Value).ownBlock) (.slice Ao45 t663.length co45) x7_2) ∧ Aside0 (Below w.heap.size w w'))
      case atStart => exact ⟨(t663), (0), (by first | rfl | (simp; done) | (simp [*]; done)), H', ⟨Nat.le_refl _⟩, ⟨rO HO_5.out⟩, ⟨rO HO_6.out⟩, ⟨rO HO_7.out⟩, ⟨bO HB.out⟩⟩
      case round =>
       clear H'
       try clear c1
       try clear c2
       try clear p2
       try clear c3
       try clear c4
       try clear p6
       try clear c8
       try clear c15
       try clear c16
       try clear c19
       try clear c22
       try clear c22b0
       try clear c22b1
       try clear c28
       try clear c44
       try clear p2
       try clear p6
       obtain ⟨x7_2, x51_2, rfl, HA, HK2, HO_5, HO_6, HO_7, HB⟩ := hrel
       have hl7_2 := (Kd.R_reads' HO_7.out).1
       rw [hl7_2] at HO_7
       (try simp only [hl7_2])
       (try simp only [hl7_2] at HO_5)
       (try simp only [hl7_2] at HO_6)
       cases gk with
       | zero => exact absurd HA.out (by simp [tabardlaw03_WordTrims.l0])
       | succ k2 =>
        have H := HA.out
        clear HA
        simp only [tabardlaw03_WordTrims.l0] at H
        by_cases c46 : x51_2 < (t663.length : Int)
        ·rw [if_pos c46] at H
         have c46b0 : decide (x51_2 < (t663.length : Int)) = true := decide_eq_true c46
         (try (have c46b0hl7_2 := c46b0; rw [hl7_2] at c46b0hl7_2))
         clear c46
         by_cases c47 : 0 ≤ x51_2
         ·rw [if_pos c47] at H
          have c47b0 : decide (0 ≤ x51_2) = true := decide_eq_true c47
          clear c47
          by_cases c48 : x51_2 < (x7_2.length : Int)
          ·rw [if_pos c48] at H
           have c48b0 : decide (x51_2 < (x7_2.length : Int)) = true := decide_eq_true c48
           (try (have c48b0hl7_2 := c48b0; rw [hl7_2] at c48b0hl7_2))
           clear c48
           obtain ⟨y675, hy675⟩ : ∃ y_ : List Int, y_ = (x7_2.set (x51_2 : Int).toNat (-5)) := ⟨_, rfl⟩
           replace H : (tabardlaw03_WordTrims.l0 k2 l0 l1 y654 y660 y675 (t663.length : Int) (t663.length : Int) (wrap64 (x51_2 + 1))) = some r := by first | (rw [hy675]; with_reducible exact H) | (have H2_ := (Option.bind_some _ _).symm.trans H; rw [hy675]; with_reducible exact H2_) | (have H2_ := (Option.bind_some _ _).symm.trans H; with_reducible exact H2_) | with_reducible exact H | (rw [hy675]; exact H) | exact H
           have Ny675 := Aside0.mk hy675
           clear hy675
           have H' := Aside0.mk H
           clear H
           have p49 : 0 ≤ (x51_2 : Int) := of_decide_eq_true aO
           have q49 : (x51_2 : Int) < ((x7_2.length : Int) : Int) := of_decide_eq_true aO
           obtain ⟨go49, co49, eo49, gb49, gl49, cl49, HG49⟩ := Kd.R_form HO_7.out (by omega)
           (first | cases eo49 | (injection eo49 with ea_ en_ ec_; (first | subst ea_ | (injection ea_ with ea_; subst ea_)); subst ec_; clear en_))
           have GB49 := Aside0.mk gb49
           have GG49 := Aside0.mk HG49
           clear gb49 gl49 HG49
           obtain ⟨hx49_0, hf49_0⟩ := Kd.R_celln 0 HO_7.out (x51_2 : Int) p49 q49
           replace p49 := eq_true p49
           replace q49 := eq_true q49
           have HP50 := Kd.R_putg HO_7.out (x51_2 : Int) (-5)
           go_wp2_with (first | ((with_reducible refine gate_store (t := 3) (p := 56) rfl ?_); refine store_event (t := 3) (p := 56) (v := ?vo_w51) (w1 := (wr.setCell ⟨go49, (x51_2 : Int).toNat, none⟩ (.int .i64 (-5)))) ?hg ?ho ?hn ?hr ?_; (case ho => rfl); (case hg => rfl); (case hn => rfl); (case hr => first | (go_simp; done) | (go_simp; rfl)); intro w51 hw; have hg : wr.grownBy w51 (some go49) := (by rw [hw]; exact HP50.2); have hp_ : Kd.R (Kd.int .i64) 3 w51 w.heap.size (fun k_ => some k_ ≠ (.slice Ao13 y654.length co13 : Value).ownBlock ∧ some k_ ≠ (v661 : Value).ownBlock) (.slice (some ⟨go49, 0, none⟩) x7_2.length co45) y675 := (by rw [hw, Ny675.out]; exact HP50.1); clear HP50; have n0_ := Aside0.mk (Kd.R_after (v := (.slice (some ⟨go49, 0, none⟩) x7_2.length co45)) (v1 := (.slice (some ⟨go49, 0, none⟩) x7_2.length co45)) (ok := (fun k_ => some k_ ≠ (v661 : Value).ownBlock)) (rO HO_5.out) hg (.inl rfl)); have n1_ := Aside0.mk (Kd.R_after (v := (.slice (some ⟨go49, 0, none⟩) x7_2.length co45)) (v1 := (.slice (some ⟨go49, 0, none⟩) x7_2.length co45)) (ok := (fun k_ => some k_ ≠ (.slice Ao13 y654.length co13 : Value).ownBlock)) (rO HO_6.out) hg (.inl rfl)); have n2_ := Aside0.mk (hp_); have n3_ := Aside0.mk ((by rw [hw]; exact below_set (HB.out) GB49.out : Below w.heap.size w w51)); clear HO_5; clear HO_6; clear HO_7; clear HB; have HO_5 := n0_; have HO_6 := n1_; have HO_7 := n2_; have HB := n3_; clear n0_ n1_ n2_ n3_; clear hg hw hp_))
           (try simp only [← hl7_2])
           go_roundg k2
           case measure => have := HJ5.out; have := HK2.out; omega
           case rel => exact ⟨(y675), (wrap64 (x51_2 + 1)), (by first | rfl | (simp; done) | (simp [*]; done)), H', ⟨by have := HJ5.out; have := HK2.out; omega⟩, ⟨by (try simp only [hl7_2]); (with_reducible repeat (first | apply Kd.R_alloc | apply Kd.R_drewN | apply Kd.R_drew)); exact HO_5.out⟩, ⟨by (try simp only [hl7_2]); (with_reducible repeat (first | apply Kd.R_alloc | apply Kd.R_drewN | apply Kd.R_drew)); exact HO_6.out⟩, ⟨by (try simp only [hl7_2]); (with_reducible repeat (first | apply Kd.R_alloc | apply Kd.R_drewN | apply Kd.R_drew)); exact HO_7.out⟩, ⟨bO HB.out⟩⟩
          ·rw [if_neg c48] at H
           exact absurd H (by simp)
         ·rw [if_neg c47] at H
          exact absurd H (by simp)
        ·rw [if_neg c46] at H
         have c46b0 : decide (x51_2 < (t663.length : Int)) = false := decide_eq_false c46
         (try (have c46b0hl7_2 := c46b0; rw [hl7_2] at c46b0hl7_2))
         clear c46
         obtain ⟨y676, hy676⟩ : ∃ y_ : List Int, y_ = (([(-6), (-6)] : List Int)) := ⟨_, rfl⟩
         replace H : (if x7_2.length + y676.length < 17592186044416 then ((some (x7_2 ++ y676 : List Int)).bind fun y679 => ((tabardlaw03_same.f k2 y654 l0).bind fun t682 => (if t682 = true then ((tabardlaw03_same.f k2 y660 l1).bind fun t683 => (if t683 = true then (if 0 ≤ (t663.length : Int) then (if (t663.length : Int) < (y679.length : Int) then (some ((rd y679 (t663.length : Int)) == (-6))) else (none)) else (none)) else (some false))) else (some false)))) else (none)) = some r := by first | (rw [hy676]; with_reducible exact H) | (have H2_ := (Option.bind_some _ _).symm.trans H; rw [hy676]; with_reducible exact H2_) | (have H2_ := (Option.bind_some _ _).symm.trans H; with_reducible exact H2_) | with_reducible exact H | (rw [hy676]; exact H) | exact H
         have Ny676 := Aside0.mk hy676
         clear hy676
         by_cases c52 : x7_2.length + y676.length < 17592186044416
         ·rw [if_pos c52] at H
          have LMc52 := Aside0.mk c52
          clear c52
          obtain ⟨y679, hy679⟩ : ∃ y_ : List Int, y_ = (x7_2 ++ y676) := ⟨_, rfl⟩
          replace H : ((tabardlaw03_same.f k2 y654 l0).bind fun t682 => (if t682 = true then ((tabardlaw03_same.f k2 y660 l1).bind fun t683 => (if t683 = true then (if 0 ≤ (t663.length : Int) then (if (t663.length : Int) < (y679.length : Int) then (some ((rd y679 (t663.length : Int)) == (-6))) else (none)) else (none)) else (some false))) else (some false))) = some r := by first | (rw [hy679]; with_reducible exact H) | (have H2_ := (Option.bind_some _ _).symm.trans H; rw [hy679]; with_reducible exact H2_) | (have H2_ := (Option.bind_some _ _).symm.trans H; with_reducible exact H2_) | with_reducible exact H | (rw [hy679]; exact H) | exact H
          have Ny679 := Aside0.mk hy679
          clear hy679
          replace H := Option.bind_eq_some_iff.mp H
          obtain ⟨t682, A530, H⟩ := H
          replace H : (if t682 = true then ((tabardlaw03_same.f k2 y660 l1).bind fun t683 => (if t683 = true then (if 0 ≤ (t663.length : Int) then (if (t663.length : Int) < (y679.length : Int) then (some ((rd y679 (t663.length : Int)) == (-6))) else (none)) else (none)) else (some false))) else (some false)) = some r := H
          have A53 := Aside0.mk A530
          clear A530
          by_cases c54 : t682 = true
          ·subst c54
           have H1 : ((tabardlaw03_same.f k2 y660 l1).bind fun t683 => (if t683 = true then (if 0 ≤ (t663.length : Int) then (if (t663.length : Int) < (y679.length : Int) then (some ((rd y679 (t663.length : Int)) == (-6))) else (none)) else (none)) else (some false))) = some r := by rw [if_pos rfl] at H; exact H
           clear H
           have H := H1
           clear H1
           replace H := Option.bind_eq_some_iff.mp H
           obtain ⟨t683, A550, H⟩ := H
           replace H : (if t683 = true then (if 0 ≤ (t663.length : Int) then (if (t663.length : Int) < (y679.length : Int) then (some ((rd y679 (t663.length : Int)) == (-6))) else (none)) else (none)) else (some false)) = some r := H
           have A55 := Aside0.mk A550
           clear A550
           by_cases c56 : t683 = true
           ·subst c56
            have H1 : (if 0 ≤ (t663.length : Int) then (if (t663.length : Int) < (y679.length : Int) then (some ((rd y679 (t663.length : Int)) == (-6))) else (none)) else (none)) = some r := by rw [if_pos rfl] at H; exact H
            clear H
            have H := H1
            clear H1
            by_cases c57 : 0 ≤ (t663.length : Int)
            ·rw [if_pos c57] at H
             have c57b0 : decide (0 ≤ (t663.length : Int)) = true := decide_eq_true c57
             (try (have c57b0hl7_2 := c57b0; rw [hl7_2] at c57b0hl7_2))
             have c57b1 : decide (0 ≤ t663.length) = true := decide_eq_true (by omega)
             (try (have c57b1hl7_2 := c57b1; rw [hl7_2] at c57b1hl7_2))
             clear c57
             by_cases c58 : (t663.length : Int) < (y679.length : Int)
             ·rw [if_pos c58] at H
              have c58b0 : decide ((t663.length : Int) < (y679.length : Int)) = true := decide_eq_true c58
              (try (have c58b0hl7_2 := c58b0; rw [hl7_2] at c58b0hl7_2))
              have c58b1 : decide (t663.length < y679.length) = true := decide_eq_true (Int.ofNat_lt.mp c58)
              (try (have c58b1hl7_2 := c58b1; rw [hl7_2] at c58b1hl7_2))
              clear c58
              obtain rfl := Option.some.inj H
              go_wp2_with (first | ((with_reducible refine gate_dst (N := 59) rfl ?_); refine Kd.R_lit (Kd.int .i64) _ 3 ?hg (N := 59) ?hd (xs := ([(-6), (-6)] : List Int)) (inner := [.int .i64 (-6), .int .i64 (-6)]) (ok := fun _ => True) (okp := fun _ => True) ?hr ?hp (fun _ hk => hk) trivial (Below.refl _ _) (Nat.le_refl _) (by simp) ?_; (case hd => rfl); (case hg => rfl); (case hr => first | (go_simp; done) | (go_simp; rfl)); (case hp => exact (Reps.one (show Kd.M (Kd.int .i64) _ _ _ (-6) [.int .i64 (-6)] from rfl) (Reps.one (show Kd.M (Kd.int .i64) _ _ _ (-6) [.int .i64 (-6)] from rfl) (Reps.none _ _)))); intro v677 w59 ho60 hb hg_ hnew_; clear hg_ hnew_; (first | rw [← Ny676.out] at ho60 | (simp only [Int.reduceToNat] at ho60; rw [← Ny676.out] at ho60)); have n0_ := Aside0.mk (Kd.R_elder' (rO HO_5.out) (Kd.R_base ho60) hb); have n1_ := Aside0.mk (Kd.R_elder' (rO HO_6.out) (Kd.R_base ho60) hb); have n2_ := Aside0.mk (Kd.R_elder' (rO HO_7.out) (Kd.R_base ho60) hb); have n3_ := Aside0.mk (Kd.R_lower (Kd.R_new' (Kd.R_new' (Kd.R_new' ho60 (Kd.R_lt (rO HO_5.out))) (Kd.R_lt (rO HO_6.out))) (Kd.R_lt (rO HO_7.out))) (below_size (bO HB.out))); have n4_ := Aside0.mk (below_step (bO HB.out) hb); clear HO_5; clear HO_6; clear HO_7; clear HB; have HO_5 := n0_; have HO_6 := n1_; have HO_7 := n2_; have HO678 := n3_; have HB := n4_; clear n0_ n1_ n2_ n3_ n4_; clear hb ho60; obtain ⟨Ao62, co62, eo62⟩ := Kd.R_slice HO678.out; subst eo62) | ((with_reducible refine gate_builtin (b := .append) (xs := #[.tmp 58, .tmp 59]) rfl ?_); at_builtin; refine Kd.R_append_rows (Kd.int .i64) (w0 := w) w.heap.size rfl (.tmp 58) (.tmp 59) 23 3 (.int .i64 0) 8 rfl Try.underlying23 info3 rfl (by decide) (by omega) (.slice Ao45 x7_2.length co45) x7_2 y676 _ _ _ (fun k_ => some k_ ≠ (.slice Ao13 y654.length co13 : Value).ownBlock ∧ some k_ ≠ (v661 : Value).ownBlock ∧ some k_ ≠ (.slice Ao62 y676.length co62 : Value).ownBlock) (fun _ => False) rfl rfl ?aO ?aR (fun _ _ h => h) (fun _ h => h.elim) ?aF ?aB ?aS ?aL ?_; (case aR => exact cO (Kd.R_reads' HO678.out).2.2); (case aB => exact (bO HB.out)); (case aF => exact (fun k_ hk => ⟨Kd.fresh' (Kd.R_lt (rO HO_5.out)) k_ hk, Kd.fresh' (Kd.R_lt (rO HO_6.out)) k_ hk, Kd.fresh' (Kd.R_lt (rO HO678.out)) k_ hk⟩)); (case aO => exact (by (with_reducible repeat (first | apply Kd.R_alloc | apply Kd.R_drewN | apply Kd.R_drew)); exact Kd.R_mono HO_7.out (fun _ hk => ⟨hk.1.1, ⟨hk.1.2, hk.2⟩⟩))); (case aS => exact (below_size (bO HB.out))); (case aL => have := LMc52.out; omega); intro v680 w61 ho hb hg hat; rw [← Ny679.out] at ho; have n0_ := Aside0.mk (Kd.R_after (ok := (fun k_ => some k_ ≠ (v661 : Value).ownBlock ∧ some k_ ≠ (.slice Ao62 y676.length co62 : Value).ownBlock)) (by (with_reducible repeat (first | apply Kd.R_alloc | apply Kd.R_drewN | apply Kd.R_drew)); exact Kd.R_mono HO_5.out (fun _ hk => ⟨⟨hk.1.1, hk.2⟩, hk.1.2⟩)) hg hat); have n1_ := Aside0.mk (Kd.R_after (ok := (fun k_ => some k_ ≠ (.slice Ao13 y654.length co13 : Value).ownBlock ∧ some k_ ≠ (.slice Ao62 y676.length co62 : Value).ownBlock)) (by (with_reducible repeat (first | apply Kd.R_alloc | apply Kd.R_drewN | apply Kd.R_drew)); exact Kd.R_mono HO_6.out (fun _ hk => ⟨⟨hk.1.1, hk.2⟩, hk.1.2⟩)) hg hat); have n2_ := Aside0.mk (Kd.R_after (ok := (fun k_ => some k_ ≠ (.slice Ao13 y654.length co13 : Value).ownBlock ∧ some k_ ≠ (v661 : Value).ownBlock)) (by (with_reducible repeat (first | apply Kd.R_alloc | apply Kd.R_drewN | apply Kd.R_drew)); exact Kd.R_mono HO678.out (fun _ hk => ⟨⟨hk.1.1.2, hk.1.2⟩, hk.2⟩)) hg hat); have n3_ := Aside0.mk (hb); have n4_ := Aside0.mk (ho); clear HO_5; clear HO_6; clear HO678; clear HB; clear HO_7; have HO_5 := n0_; have HO_6 := n1_; have HO678 := n2_; have HB := n3_; have HO681 := n4_; clear n0_ n1_ n2_ n3_ n4_; clear ho hb hg hat) | ((with_reducible refine gate_callee (f := 16) rfl ?_); refine goesL_ (some 63) rfl rfl Try.func16 (by kernel_rfl) rfl #[.slice Ao13 y654.length co13, .slice A0 l0.length c0] rfl mO ?_; (with_reducible refine (tabardlaw03_same.calls k2 _ _ y654 _ _ l0 true _ ?side1 ?side2 ?side3 ?side4 A53.out).mono ?_); (case side1 => exact cO (Kd.R_reads' HO_5.out).2.2); (case side2 => exact (Kd.R_reads' HO_5.out).2.1); (case side3 => exact cO (Kd.C_below HR0.out HB.out)); (case side4 => exact HC0.out); rintro e w' ⟨rfl, ⟨nd, rfl⟩⟩; refine ⟨_, rfl, ?_⟩; obtain ⟨Ao63, co63, eo63⟩ := Kd.R_slice HO_6.out; subst eo63) | (go_at_call 16; (with_reducible refine (tabardlaw03_same.calls k2 _ _ y660 _ _ l1 true _ ?side1 ?side2 ?side3 ?side4 A55.out).mono ?_); (case side1 => exact cO (Kd.R_reads' HO_6.out).2.2); (case side2 => exact (Kd.R_reads' HO_6.out).2.1); (case side3 => repeat (first | exact (Kd.C_below HR1.out (bO HB.out)) | (with_reducible refine Kd.C_alloc ?_ _) | (with_reducible refine Kd.C_drewN ?_ _) | (with_reducible refine Kd.C_drew ?_))); (case side4 => exact HC1.out); rintro e w' ⟨rfl, ⟨nd, rfl⟩⟩; obtain ⟨Ao64, co64, eo64⟩ := Kd.R_slice HO681.out; subst eo64; have p684 : 0 ≤ ((t663.length : Int) : Int) := of_decide_eq_true aO; have q684 : (t663.length : Int) < (y679.length : Int) := of_decide_eq_true aO; obtain ⟨ad684, e684, hx684_0⟩ := Kd.at_int (Kd.R_reads' HO681.out).2.2 (t663.length : Int) p684 q684; cases e684; (try simp only [Go.IntWalk.toNatUp] at hx684_0); (try simp only [hl7_2] at p684); (try simp only [hl7_2] at q684); (try simp only [hl7_2] at hx684_0); replace p684 := eq_true p684; replace q684 := eq_true q684))
              go_ret
              exact ⟨by first | rfl | (simp [errW_none, errW_some] <;> rfl) | (simp [*, errW_none, errW_some] <;> rfl), bO HB.out⟩
             ·rw [if_neg c58] at H
              exact absurd H (by simp)
            ·rw [if_neg c57] at H
             exact absurd H (by simp)
           ·replace c56 := Bool.eq_false_iff.mpr c56
            subst c56
            have H1 : (some false) = some r := by rw [if_neg (show ¬ (false = true) by decide)] at H; exact H
            clear H
            have H := H1
            clear H1
            obtain rfl := Option.some.inj H
            go_wp2_with (first | ((with_reducible refine gate_dst (N := 59) rfl ?_); refine Kd.R_lit (Kd.int .i64) _ 3 ?hg (N := 59) ?hd (xs := ([(-6), (-6)] : List Int)) (inner := [.int .i64 (-6), .int .i64 (-6)]) (ok := fun _ => True) (okp := fun _ => True) ?hr ?hp (fun _ hk => hk) trivial (Below.refl _ _) (Nat.le_refl _) (by simp) ?_; (case hd => rfl); (case hg => rfl); (case hr => first | (go_simp; done) | (go_simp; rfl)); (case hp => exact (Reps.one (show Kd.M (Kd.int .i64) _ _ _ (-6) [.int .i64 (-6)] from rfl) (Reps.one (show Kd.M (Kd.int .i64) _ _ _ (-6) [.int .i64 (-6)] from rfl) (Reps.none _ _)))); intro v677 w65 ho66 hb hg_ hnew_; clear hg_ hnew_; (first | rw [← Ny676.out] at ho66 | (simp only [Int.reduceToNat] at ho66; rw [← Ny676.out] at ho66)); have n0_ := Aside0.mk (Kd.R_elder' (rO HO_5.out) (Kd.R_base ho66) hb); have n1_ := Aside0.mk (Kd.R_elder' (rO HO_6.out) (Kd.R_base ho66) hb); have n2_ := Aside0.mk (Kd.R_elder' (rO HO_7.out) (Kd.R_base ho66) hb); have n3_ := Aside0.mk (Kd.R_lower (Kd.R_new' (Kd.R_new' (Kd.R_new' ho66 (Kd.R_lt (rO HO_5.out))) (Kd.R_lt (rO HO_6.out))) (Kd.R_lt (rO HO_7.out))) (below_size (bO HB.out))); have n4_ := Aside0.mk (below_step (bO HB.out) hb); clear HO_5; clear HO_6; clear HO_7; clear HB; have HO_5 := n0_; have HO_6 := n1_; have HO_7 := n2_; have HO678 := n3_; have HB := n4_; clear n0_ n1_ n2_ n3_ n4_; clear hb ho66; obtain ⟨Ao68, co68, eo68⟩ := Kd.R_slice HO678.out; subst eo68) | ((with_reducible refine gate_builtin (b := .append) (xs := #[.tmp 58, .tmp 59]) rfl ?_); at_builtin; refine Kd.R_append_rows (Kd.int .i64) (w0 := w) w.heap.size rfl (.tmp 58) (.tmp 59) 23 3 (.int .i64 0) 8 rfl Try.underlying23 info3 rfl (by decide) (by omega) (.slice Ao45 x7_2.length co45) x7_2 y676 _ _ _ (fun k_ => some k_ ≠ (.slice Ao13 y654.length co13 : Value).ownBlock ∧ some k_ ≠ (v661 : Value).ownBlock ∧ some k_ ≠ (.slice Ao68 y676.length co68 : Value).ownBlock) (fun _ => False) rfl rfl ?aO ?aR (fun _ _ h => h) (fun _ h => h.elim) ?aF ?aB ?aS ?aL ?_; (case aR => exact cO (Kd.R_reads' HO678.out).2.2); (case aB => exact (bO HB.out)); (case aF => exact (fun k_ hk => ⟨Kd.fresh' (Kd.R_lt (rO HO_5.out)) k_ hk, Kd.fresh' (Kd.R_lt (rO HO_6.out)) k_ hk, Kd.fresh' (Kd.R_lt (rO HO678.out)) k_ hk⟩)); (case aO => exact (by (with_reducible repeat (first | apply Kd.R_alloc | apply Kd.R_drewN | apply Kd.R_drew)); exact Kd.R_mono HO_7.out (fun _ hk => ⟨hk.1.1, ⟨hk.1.2, hk.2⟩⟩))); (case aS => exact (below_size (bO HB.out))); (case aL => have := LMc52.out; omega); intro v680 w67 ho hb hg hat; rw [← Ny679.out] at ho; have n0_ := Aside0.mk (Kd.R_after (ok := (fun k_ => some k_ ≠ (v661 : Value).ownBlock ∧ some k_ ≠ (.slice Ao68 y676.length co68 : Value).ownBlock)) (by (with_reducible repeat (first | apply Kd.R_alloc | apply Kd.R_drewN | apply Kd.R_drew)); exact Kd.R_mono HO_5.out (fun _ hk => ⟨⟨hk.1.1, hk.2⟩, hk.1.2⟩)) hg hat); have n1_ := Aside0.mk (Kd.R_after (ok := (fun k_ => some k_ ≠ (.slice Ao13 y654.length co13 : Value).ownBlock ∧ some k_ ≠ (.slice Ao68 y676.length co68 : Value).ownBlock)) (by (with_reducible repeat (first | apply Kd.R_alloc | apply Kd.R_drewN | apply Kd.R_drew)); exact Kd.R_mono HO_6.out (fun _ hk => ⟨⟨hk.1.1, hk.2⟩, hk.1.2⟩)) hg hat); have n2_ := Aside0.mk (Kd.R_after (ok := (fun k_ => some k_ ≠ (.slice Ao13 y654.length co13 : Value).ownBlock ∧ some k_ ≠ (v661 : Value).ownBlock)) (by (with_reducible repeat (first | apply Kd.R_alloc | apply Kd.R_drewN | apply Kd.R_drew)); exact Kd.R_mono HO678.out (fun _ hk => ⟨⟨hk.1.1.2, hk.1.2⟩, hk.2⟩)) hg hat); have n3_ := Aside0.mk (hb); have n4_ := Aside0.mk (ho); clear HO_5; clear HO_6; clear HO678; clear HB; clear HO_7; have HO_5 := n0_; have HO_6 := n1_; have HO678 := n2_; have HB := n3_; have HO681 := n4_; clear n0_ n1_ n2_ n3_ n4_; clear ho hb hg hat) | ((with_reducible refine gate_callee (f := 16) rfl ?_); refine goesL_ (some 63) rfl rfl Try.func16 (by kernel_rfl) rfl #[.slice Ao13 y654.length co13, .slice A0 l0.length c0] rfl mO ?_; (with_reducible refine (tabardlaw03_same.calls k2 _ _ y654 _ _ l0 true _ ?side1 ?side2 ?side3 ?side4 A53.out).mono ?_); (case side1 => exact cO (Kd.R_reads' HO_5.out).2.2); (case side2 => exact (Kd.R_reads' HO_5.out).2.1); (case side3 => exact cO (Kd.C_below HR0.out HB.out)); (case side4 => exact HC0.out); rintro e w' ⟨rfl, ⟨nd, rfl⟩⟩; refine ⟨_, rfl, ?_⟩; obtain ⟨Ao69, co69, eo69⟩ := Kd.R_slice HO_6.out; subst eo69) | (go_at_call 16; (with_reducible refine (tabardlaw03_same.calls k2 _ _ y660 _ _ l1 false _ ?side1 ?side2 ?side3 ?side4 A55.out).mono ?_); (case side1 => exact cO (Kd.R_reads' HO_6.out).2.2); (case side2 => exact (Kd.R_reads' HO_6.out).2.1); (case side3 => repeat (first | exact (Kd.C_below HR1.out (bO HB.out)) | (with_reducible refine Kd.C_alloc ?_ _) | (with_reducible refine Kd.C_drewN ?_ _) | (with_reducible refine Kd.C_drew ?_))); (case side4 => exact HC1.out); rintro e w' ⟨rfl, ⟨nd, rfl⟩⟩))
            go_ret
            exact ⟨by first | rfl | (simp [errW_none, errW_some] <;> rfl) | (simp [*, errW_none, errW_some] <;> rfl), bO HB.out⟩
          ·replace c54 := Bool.eq_false_iff.mpr c54
           subst c54
           have H1 : (some false) = some r := by rw [if_neg (show ¬ (false = true) by decide)] at H; exact H
           clear H
           have H := H1
           clear H1
           obtain rfl := Option.some.inj H
           go_wp2_with (first | ((with_reducible refine gate_dst (N := 59) rfl ?_); refine Kd.R_lit (Kd.int .i64) _ 3 ?hg (N := 59) ?hd (xs := ([(-6), (-6)] : List Int)) (inner := [.int .i64 (-6), .int .i64 (-6)]) (ok := fun _ => True) (okp := fun _ => True) ?hr ?hp (fun _ hk => hk) trivial (Below.refl _ _) (Nat.le_refl _) (by simp) ?_; (case hd => rfl); (case hg => rfl); (case hr => first | (go_simp; done) | (go_simp; rfl)); (case hp => exact (Reps.one (show Kd.M (Kd.int .i64) _ _ _ (-6) [.int .i64 (-6)] from rfl) (Reps.one (show Kd.M (Kd.int .i64) _ _ _ (-6) [.int .i64 (-6)] from rfl) (Reps.none _ _)))); intro v677 w70 ho71 hb hg_ hnew_; clear hg_ hnew_; (first | rw [← Ny676.out] at ho71 | (simp only [Int.reduceToNat] at ho71; rw [← Ny676.out] at ho71)); have n0_ := Aside0.mk (Kd.R_elder' (rO HO_5.out) (Kd.R_base ho71) hb); have n1_ := Aside0.mk (Kd.R_elder' (rO HO_6.out) (Kd.R_base ho71) hb); have n2_ := Aside0.mk (Kd.R_elder' (rO HO_7.out) (Kd.R_base ho71) hb); have n3_ := Aside0.mk (Kd.R_lower (Kd.R_new' (Kd.R_new' (Kd.R_new' ho71 (Kd.R_lt (rO HO_5.out))) (Kd.R_lt (rO HO_6.out))) (Kd.R_lt (rO HO_7.out))) (below_size (bO HB.out))); have n4_ := Aside0.mk (below_step (bO HB.out) hb); clear HO_5; clear HO_6; clear HO_7; clear HB; have HO_5 := n0_; have HO_6 := n1_; have HO_7 := n2_; have HO678 := n3_; have HB := n4_; clear n0_ n1_ n2_ n3_ n4_; clear hb ho71; obtain ⟨Ao73, co73, eo73⟩ := Kd.R_slice HO678.out; subst eo73) | ((with_reducible refine gate_builtin (b := .append) (xs := #[.tmp 58, .tmp 59]) rfl ?_); at_builtin; refine Kd.R_append_rows (Kd.int .i64) (w0 := w) w.heap.size rfl (.tmp 58) (.tmp 59) 23 3 (.int .i64 0) 8 rfl Try.underlying23 info3 rfl (by decide) (by omega) (.slice Ao45 x7_2.length co45) x7_2 y676 _ _ _ (fun k_ => some k_ ≠ (.slice Ao13 y654.length co13 : Value).ownBlock ∧ some k_ ≠ (v661 : Value).ownBlock ∧ some k_ ≠ (.slice Ao73 y676.length co73 : Value).ownBlock) (fun _ => False) rfl rfl ?aO ?aR (fun _ _ h => h) (fun _ h => h.elim) ?aF ?aB ?aS ?aL ?_; (case aR => exact cO (Kd.R_reads' HO678.out).2.2); (case aB => exact (bO HB.out)); (case aF => exact (fun k_ hk => ⟨Kd.fresh' (Kd.R_lt (rO HO_5.out)) k_ hk, Kd.fresh' (Kd.R_lt (rO HO_6.out)) k_ hk, Kd.fresh' (Kd.R_lt (rO HO678.out)) k_ hk⟩)); (case aO => exact (by (with_reducible repeat (first | apply Kd.R_alloc | apply Kd.R_drewN | apply Kd.R_drew)); exact Kd.R_mono HO_7.out (fun _ hk => ⟨hk.1.1, ⟨hk.1.2, hk.2⟩⟩))); (case aS => exact (below_size (bO HB.out))); (case aL => have := LMc52.out; omega); intro v680 w72 ho hb hg hat; rw [← Ny679.out] at ho; have n0_ := Aside0.mk (Kd.R_after (ok := (fun k_ => some k_ ≠ (v661 : Value).ownBlock ∧ some k_ ≠ (.slice Ao73 y676.length co73 : Value).ownBlock)) (by (with_reducible repeat (first | apply Kd.R_alloc | apply Kd.R_drewN | apply Kd.R_drew)); exact Kd.R_mono HO_5.out (fun _ hk => ⟨⟨hk.1.1, hk.2⟩, hk.1.2⟩)) hg hat); have n1_ := Aside0.mk (Kd.R_after (ok := (fun k_ => some k_ ≠ (.slice Ao13 y654.length co13 : Value).ownBlock ∧ some k_ ≠ (.slice Ao73 y676.length co73 : Value).ownBlock)) (by (with_reducible repeat (first | apply Kd.R_alloc | apply Kd.R_drewN | apply Kd.R_drew)); exact Kd.R_mono HO_6.out (fun _ hk => ⟨⟨hk.1.1, hk.2⟩, hk.1.2⟩)) hg hat); have n2_ := Aside0.mk (Kd.R_after (ok := (fun k_ => some k_ ≠ (.slice Ao13 y654.length co13 : Value).ownBlock ∧ some k_ ≠ (v661 : Value).ownBlock)) (by (with_reducible repeat (first | apply Kd.R_alloc | apply Kd.R_drewN | apply Kd.R_drew)); exact Kd.R_mono HO678.out (fun _ hk => ⟨⟨hk.1.1.2, hk.1.2⟩, hk.2⟩)) hg hat); have n3_ := Aside0.mk (hb); have n4_ := Aside0.mk (ho); clear HO_5; clear HO_6; clear HO678; clear HB; clear HO_7; have HO_5 := n0_; have HO_6 := n1_; have HO678 := n2_; have HB := n3_; have HO681 := n4_; clear n0_ n1_ n2_ n3_ n4_; clear ho hb hg hat) | ((with_reducible refine gate_callee (f := 16) rfl ?_); refine goesL_ (some 63) rfl rfl Try.func16 (by kernel_rfl) rfl #[.slice Ao13 y654.length co13, .slice A0 l0.length c0] rfl mO ?_; (with_reducible refine (tabardlaw03_same.calls k2 _ _ y654 _ _ l0 false _ ?side1 ?side2 ?side3 ?side4 A53.out).mono ?_); (case side1 => exact cO (Kd.R_reads' HO_5.out).2.2); (case side2 => exact (Kd.R_reads' HO_5.out).2.1); (case side3 => exact cO (Kd.C_below HR0.out HB.out)); (case side4 => exact HC0.out); rintro e w' ⟨rfl, ⟨nd, rfl⟩⟩; refine ⟨_, rfl, ?_⟩))
           go_ret
           exact ⟨by first | rfl | (simp [errW_none, errW_some] <;> rfl) | (simp [*, errW_none, errW_some] <;> rfl), bO HB.out⟩
         ·rw [if_neg c52] at H
          exact absurd H (by simp)
  ·rw [if_neg c4] at H
   exact absurd H (by simp)
 ·rw [if_neg c3] at H
  exact absurd H (by simp)

/-- THE ONE PURE STATEMENT of tabardlaw03_WordTrims: yours. -/
def tabardlaw03_WordTrims.Pure : Prop := ∀ (l0 : List Int) (l1 : List Int), l0.length ≤ maxLen → l0.length * 8 ≤ 140737488351232 → (∀ x ∈ l0, (Lit.int .i64 x).wf = true) → l1.length ≤ maxLen → l1.length * 8 ≤ 140737488351232 → (∀ x ∈ l1, (Lit.int .i64 x).wf = true) → ∃ k, tabardlaw03_WordTrims.f k l0 l1 = some true
theorem tabardlaw03_WordTrims.walk (P : tabardlaw03_WordTrims.Pure) (a0 : Option Addr) (len0 cap0 : Nat) (z0 : List Int) (a1 : Option Addr) (len1 cap1 : Nat) (z1 : List Int) (w : World) (w0 : (a0 = none ∧ len0 = 0 ∧ cap0 = 0 ∧ z0 = []) ∨ ∃ x, a0 = some x ∧ len0 ≤ cap0 ∧ cap0 ≤ maxLen ∧ z0.length = cap0 ∧ (∀ i, i < z0.length → w.cell? (x.add i) = some (.int .i64 (z0.getD i 0))) ∧ ∀ n ∈ z0, (Lit.int .i64 n).wf = true) (y0 : len0 * 8 ≤ 140737488351232) (w1 : (a1 = none ∧ len1 = 0 ∧ cap1 = 0 ∧ z1 = []) ∨ ∃ x, a1 = some x ∧ len1 ≤ cap1 ∧ cap1 ≤ maxLen ∧ z1.length = cap1 ∧ (∀ i, i < z1.length → w.cell? (x.add i) = some (.int .i64 (z1.getD i 0))) ∧ ∀ n ∈ z1, (Lit.int .i64 n).wf = true) (y1 : len1 * 8 ≤ 140737488351232) :
  Calls Try.prog 8 #[.slice a0 len0 cap0, .slice a1 len1 cap1] w fun e w' => e = .returned (.bool true) ∧ Below w.heap.size w w' := by
 obtain ⟨l0, rfl, hr0, hm0, hw0, hc0⟩ := ReadsInt.ofRowC w0
 obtain ⟨l1, rfl, hr1, hm1, hw1, hc1⟩ := ReadsInt.ofRowC w1
 obtain ⟨k, h⟩ := P l0 l1 hm0 y0 hw0 hm1 y1 hw1
 refine (tabardlaw03_WordTrims.calls k _ _ l0 _ _ l1 true w (Kd.C_of_reads (d := (0 : Int)) (h1 := fun _ => rfl) hr0) hc0 (Kd.C_of_reads (d := (0 : Int)) (h1 := fun _ => rfl) hr1) hc1 h).mono ?_
 rintro e w' ⟨rfl, hd⟩
 exact ⟨rfl, hd⟩

end Go.Proofs.Ytolacbnkebbjiaa.X

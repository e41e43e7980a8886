/- What the functions of this seat compute, and that the program's calls come to just that: written by this session's own program out of the translation; no condition. -/
import Derived.Test.YtolacbnkebbjiaaX0
namespace Go.Proofs.Ytolacbnkebbjiaa.X
open Go.RowKit Go.Proofs.YtolacbnkebbjiaaW.PrintWords Go.Proofs.YtolacbnkebbjiaaW.PrintLast Go.Proofs.YtolacbnkebbjiaaW.PrintMore
attribute [local go_sem] max2_int min2_int max_two min_two max_three min_three max_four min_four   -- for this text's walks alone
set_option linter.unusedVariables false
set_option linter.unusedSimpArgs false

/-! ### tabardref03_Trim: function 29 -/
def tabardref03_Trim.l0 : Nat → List Int → Int → Option (List Int)
 | 0, _, _ => none
 | k + 1, x0, x3 => if x3 ≥ 2 then (if 0 ≤ (wrap64 (x3 - 1)) then (if (wrap64 (x3 - 1)) < (x0.length : Int) then (if 0 ≤ (wrap64 (x3 - 2)) then (if (wrap64 (x3 - 2)) < (x0.length : Int) then (if (rd x0 (wrap64 (x3 - 1))) = (rd x0 (wrap64 (x3 - 2))) then (tabardref03_Trim.l0 k x0 (wrap64 (x3 - 1))) else ((some (([] : List Int) : List Int)).bind fun y633 => (if 0 ≤ x3 then (if x3 ≤ (x0.length : Int) then (if y633.length + (x0.take (x3 : Int).toNat).length < 17592186044416 then (some (y633 ++ (x0.take (x3 : Int).toNat))) else (none)) else (none)) else (none)))) else (none)) else (none)) else (none)) else (none)) else ((some (([] : List Int) : List Int)).bind fun y640 => (if 0 ≤ x3 then (if x3 ≤ (x0.length : Int) then (if y640.length + (x0.take (x3 : Int).toNat).length < 17592186044416 then (some (y640 ++ (x0.take (x3 : Int).toNat))) else (none)) else (none)) else (none)))
def tabardref03_Trim.f (k : Nat) (l0 : List Int) : Option (List Int) := tabardref03_Trim.l0 k l0 (l0.length : Int)
theorem tabardref03_Trim.mono_l : ∀ k, (∀ y0 y1, LeO (tabardref03_Trim.l0 k y0 y1) (tabardref03_Trim.l0 (k + 1) y0 y1))
 | 0 => fun _ _ r h => by simp [tabardref03_Trim.l0] at h
 | k + 1 => by
  have ih0 := tabardref03_Trim.mono_l k
  ·intro y0 y1
   unfold tabardref03_Trim.l0
   repeat' first
   | (with_reducible exact ih0 _ _)
   | (with_reducible exact LeO.refl _)
   | (with_reducible exact LeO.none _)
   | (with_reducible refine LeO.ite ?_ ?_)
   | (with_reducible refine LeO.bind ?_ (fun _ => ?_))
   | exact ih0 _ _
   | exact LeO.none _
   | refine LeO.ite ?_ ?_
   | refine LeO.bind ?_ (fun _ => ?_)
theorem tabardref03_Trim.mono : ∀ a0 k, LeO (tabardref03_Trim.f k a0) (tabardref03_Trim.f (k + 1) a0) := by
 intro a0 k
 have ih0 := tabardref03_Trim.mono_l k
 unfold tabardref03_Trim.f
 repeat' first
   | (with_reducible exact ih0 _ _)
   | (with_reducible exact LeO.refl _)
   | (with_reducible exact LeO.none _)
   | (with_reducible refine LeO.ite ?_ ?_)
   | (with_reducible refine LeO.bind ?_ (fun _ => ?_))
   | exact ih0 _ _
   | exact LeO.none _
   | refine LeO.ite ?_ ?_
   | refine LeO.bind ?_ (fun _ => ?_)
set_option maxHeartbeats 8000000 in
set_option maxRecDepth 100000 in
theorem tabardref03_Trim.calls (k : Nat) (A0 : Option Addr) (c0 : Nat) (l0 : List Int) (r : List Int) (w : World) (hr0 : Kd.C (Kd.int .i64) w A0 l0.length l0) (hc0 : l0.length ≤ c0) (h : tabardref03_Trim.f k l0 = some r) :
  Calls Try.prog 29 #[.slice A0 l0.length c0] w fun e w' => ∃ v0_ : Value, e = .returned (v0_) ∧ Kd.R (Kd.int .i64) 3 w' w.heap.size (fun _ => True) v0_ r ∧ Below w.heap.size w w' := by
 have HR0 := Aside0.mk hr0
 have HC0 := Aside0.mk hc0
 clear hr0 hc0
 have HB := Aside0.mk (Below.refl w.heap.size w)
 have H : (tabardref03_Trim.l0 k l0 (l0.length : Int)) = some r := h
 clear h
 have H' := Aside0.mk H
 clear H
 go_enter Try.func29, Try.ntmps29
 go_wp2
 repeat (go_quiet (fail); try go_wp2)
 go_loopg [3] k (fun kq v3 w' => ∃ (x3_1 : Int), v3 = .int .i64 x3_1 ∧ Aside0 (tabardref03_Trim.l0 kq l0 x3_1 = some r) ∧ Aside0 (kq ≤ k) ∧ Aside0 (Below w.heap.size w w'))
 case atStart => exact ⟨((l0.length : Int)), (by first | rfl | (simp; done) | (simp [*]; done)), H', ⟨Nat.le_refl _⟩, ⟨bO HB.out⟩⟩
 case round =>
  clear H'
  obtain ⟨x3_1, rfl, HA, HK1, HB⟩ := hrel
  cases gk with
  | zero => exact absurd HA.out (by simp [tabardref03_Trim.l0])
  | succ k1 =>
   have H := HA.out
   clear HA
   simp only [tabardref03_Trim.l0] at H
   by_cases c2 : x3_1 ≥ 2
   ·rw [if_pos c2] at H
    have c2b0 : decide (2 ≤ x3_1) = true := decide_eq_true c2
    clear c2
    obtain ⟨ji3, hji3⟩ : ∃ j_ : Int, (wrap64 (x3_1 - 1)) = j_ := ⟨_, rfl⟩
    replace H : (if 0 ≤ (ji3) then (if (ji3) < (l0.length : Int) then (if 0 ≤ (wrap64 (x3_1 - 2)) then (if (wrap64 (x3_1 - 2)) < (l0.length : Int) then (if (rd l0 (ji3)) = (rd l0 (wrap64 (x3_1 - 2))) then (tabardref03_Trim.l0 k1 l0 ji3) else ((some (([] : List Int) : List Int)).bind fun y633 => (if 0 ≤ x3_1 then (if x3_1 ≤ (l0.length : Int) then (if y633.length + (l0.take (x3_1 : Int).toNat).length < 17592186044416 then (some (y633 ++ (l0.take (x3_1 : Int).toNat))) else (none)) else (none)) else (none)))) else (none)) else (none)) else (none)) else (none)) = some r := by first | (rw [hji3] at H; exact H) | (simp only [hji3] at H ⊢; exact H)
    have hji3w : (IntKind.i64.wrap (x3_1 - 1)) = ji3 := (i64_w _).trans hji3
    by_cases c4 : 0 ≤ (ji3)
    ·rw [if_pos c4] at H
     have c4b0 : decide (0 ≤ (ji3)) = true := decide_eq_true c4
     clear c4
     by_cases c5 : (ji3) < (l0.length : Int)
     ·rw [if_pos c5] at H
      have c5b0 : decide ((ji3) < (l0.length : Int)) = true := decide_eq_true c5
      clear c5
      obtain ⟨ji6, hji6⟩ : ∃ j_ : Int, (wrap64 (x3_1 - 2)) = j_ := ⟨_, rfl⟩
      replace H : (if 0 ≤ (ji6) then (if (ji6) < (l0.length : Int) then (if (rd l0 (ji3)) = (rd l0 (ji6)) then (tabardref03_Trim.l0 k1 l0 ji3) else ((some (([] : List Int) : List Int)).bind fun y633 => (if 0 ≤ x3_1 then (if x3_1 ≤ (l0.length : Int) then (if y633.length + (l0.take (x3_1 : Int).toNat).length < 17592186044416 then (some (y633 ++ (l0.take (x3_1 : Int).toNat))) else (none)) else (none)) else (none)))) else (none)) else (none)) = some r := by first | (rw [hji6] at H; exact H) | (simp only [hji6] at H ⊢; exact H)
      have hji6w : (IntKind.i64.wrap (x3_1 - 2)) = ji6 := (i64_w _).trans hji6
      by_cases c7 : 0 ≤ (ji6)
      ·rw [if_pos c7] at H
       have c7b0 : decide (0 ≤ (ji6)) = true := decide_eq_true c7
       clear c7
       by_cases c8 : (ji6) < (l0.length : Int)
       ·rw [if_pos c8] at H
        have c8b0 : decide ((ji6) < (l0.length : Int)) = true := decide_eq_true c8
        clear c8
        by_cases c9 : (rd l0 (ji3)) = (rd l0 (ji6))
        ·rw [if_pos c9] at H
         have c9b0 : ((rd l0 (ji3)) == (rd l0 (ji6))) = true := beq_iff_eq.mpr c9
         have c9b1 : ((rd l0 (ji3)) != (rd l0 (ji6))) = false := bne_eq_false_iff_eq.mpr c9
         clear c9
         have H' := Aside0.mk H
         clear H
         have p631 : 0 ≤ ((ji3) : Int) := of_decide_eq_true aO
         have q631 : (ji3) < (l0.length : Int) := of_decide_eq_true aO
         obtain ⟨ad631, e631, hx631_0⟩ := Kd.at_int HR0.out (ji3) p631 q631
         cases e631
         replace hx631_0 := (HB.out.cell (World.block_lt_of_cell? w _ hx631_0)).trans hx631_0
         replace p631 := eq_true p631
         replace q631 := eq_true q631
         have p632 : 0 ≤ ((ji6) : Int) := of_decide_eq_true aO
         have q632 : (ji6) < (l0.length : Int) := of_decide_eq_true aO
         obtain ⟨ad632, e632, hx632_0⟩ := Kd.at_int HR0.out (ji6) p632 q632
         obtain rfl : ad631 = ad632 := (by injection e632)
         replace hx632_0 := (HB.out.cell (World.block_lt_of_cell? w _ hx632_0)).trans hx632_0
         replace p632 := eq_true p632
         replace q632 := eq_true q632
         go_wp2
         repeat (go_quiet (fail); try go_wp2)
         go_roundg k1
         case measure => have := HK1.out; omega
         case rel => exact ⟨(ji3), (by first | rfl | (simp; done) | (simp only [← hji3] <;> (first | rfl | simp)) | (simp [*]; done)), H', ⟨by have := HK1.out; omega⟩, ⟨bO HB.out⟩⟩
        ·rw [if_neg c9] at H
         have c9b0 : ((rd l0 (ji3)) == (rd l0 (ji6))) = false := beq_eq_false_iff_ne.mpr c9
         have c9b1 : ((rd l0 (ji3)) != (rd l0 (ji6))) = true := bne_iff_ne.mpr c9
         obtain ⟨y633, hy633⟩ : ∃ y_ : List Int, y_ = (([] : List Int)) := ⟨_, rfl⟩
         replace H : (if 0 ≤ x3_1 then (if x3_1 ≤ (l0.length : Int) then (if y633.length + (l0.take (x3_1 : Int).toNat).length < 17592186044416 then (some (y633 ++ (l0.take (x3_1 : Int).toNat))) else (none)) else (none)) else (none)) = some r := by first | (rw [hy633]; with_reducible exact H) | (have H2_ := (Option.bind_some _ _).symm.trans H; rw [hy633]; with_reducible exact H2_) | (have H2_ := (Option.bind_some _ _).symm.trans H; with_reducible exact H2_) | with_reducible exact H | (rw [hy633]; exact H) | exact H
         have Ny633 := Aside0.mk hy633
         clear hy633
         by_cases c10 : 0 ≤ x3_1
         ·rw [if_pos c10] at H
          have c10b0 := eq_true c10
          have c10b1 : decide (0 ≤ x3_1) = true := decide_eq_true c10
          clear c10
          by_cases c11 : x3_1 ≤ (l0.length : Int)
          ·rw [if_pos c11] at H
           have c11b0 := eq_true c11
           have c11b1 : decide (x3_1 ≤ (l0.length : Int)) = true := decide_eq_true c11
           clear c11
           by_cases c12 : y633.length + (l0.take (x3_1 : Int).toNat).length < 17592186044416
           ·rw [if_pos c12] at H
            have LMc12 := Aside0.mk c12
            clear c12
            obtain ⟨y637, hy637⟩ : ∃ y_ : List Int, y_ = (y633 ++ (l0.take (x3_1 : Int).toNat)) := ⟨_, rfl⟩
            replace H : (some y637) = some r := by first | (rw [hy637]; with_reducible exact H) | (have H2_ := (Option.bind_some _ _).symm.trans H; rw [hy637]; with_reducible exact H2_) | (have H2_ := (Option.bind_some _ _).symm.trans H; with_reducible exact H2_) | with_reducible exact H | (rw [hy637]; exact H) | exact H
            have Ny637 := Aside0.mk hy637
            clear hy637
            obtain rfl := Option.some.inj H
            have p631 : 0 ≤ ((ji3) : Int) := of_decide_eq_true aO
            have q631 : (ji3) < (l0.length : Int) := of_decide_eq_true aO
            obtain ⟨ad631, e631, hx631_0⟩ := Kd.at_int HR0.out (ji3) p631 q631
            cases e631
            replace hx631_0 := (HB.out.cell (World.block_lt_of_cell? w _ hx631_0)).trans hx631_0
            replace p631 := eq_true p631
            replace q631 := eq_true q631
            have p632 : 0 ≤ ((ji6) : Int) := of_decide_eq_true aO
            have q632 : (ji6) < (l0.length : Int) := of_decide_eq_true aO
            obtain ⟨ad632, e632, hx632_0⟩ := Kd.at_int HR0.out (ji6) p632 q632
            obtain rfl : ad631 = ad632 := (by injection e632)
            replace hx632_0 := (HB.out.cell (World.block_lt_of_cell? w _ hx632_0)).trans hx632_0
            replace p632 := eq_true p632
            replace q632 := eq_true q632
            go_wp2_with (first | ((with_reducible refine gate_dst (N := 23) rfl ?_); refine Kd.R_lit (Kd.int .i64) _ 3 ?hg (N := 23) ?hd (xs := ([] : List Int)) (inner := []) (ok := fun _ => True) (okp := fun _ => True) ?hr ?hp (fun _ hk => hk) trivial (Below.refl _ _) (Nat.le_refl _) (by simp) ?_; (case hd => rfl); (case hg => rfl); (case hr => first | (go_simp; done) | (go_simp; rfl)); (case hp => exact (Reps.none _ _)); intro v634 w13 ho14 hb hg_ hnew_; clear hg_ hnew_; (first | rw [← Ny633.out] at ho14 | (simp only [Int.reduceToNat] at ho14; rw [← Ny633.out] at ho14)); have n0_ := Aside0.mk (Kd.R_lower ho14 (below_size (bO HB.out))); have n1_ := Aside0.mk (below_step (bO HB.out) hb); clear HB; have HO635 := n0_; have HB := n1_; clear n0_ n1_; clear hb ho14; obtain ⟨i015, hi015, _, hsz15, _⟩ := info_parts info3; obtain ⟨hcut15, hA15, hC15⟩ := print_take_of (P := Try.prog) (Value.int .i64) 0 23 3 .i64 Try.underlying23 hi015 hsz15 (some ad631) c0 l0 x3_1 (of_decide_eq_true aO) (of_decide_eq_true aO) HC0.out; have HR636 := Aside0.mk (Kd.C_of_reads (h1 := fun _ => rfl) (hA15 _ (Kd.reads_of_C HR0.out))); have HC636 := Aside0.mk hC15; clear hA15 hC15 hi015 hsz15) | ((with_reducible refine gate_builtin (b := .append) (xs := #[.tmp 23, .tmp 26]) rfl ?_); at_builtin; refine Kd.R_append_rows (Kd.int .i64) (w0 := w) w.heap.size rfl (.tmp 23) (.tmp 26) 23 3 (.int .i64 0) 8 rfl Try.underlying23 info3 rfl (by decide) (by omega) v634 y633 (l0.take (x3_1 : Int).toNat) _ _ _ (fun _ => True) (fun _ => False) rfl rfl ?aO ?aR (fun _ _ h => h) (fun _ h => h.elim) ?aF ?aB ?aS ?aL ?_; (case aR => first | (refine Kd.C_lenO (show (l0.take (x3_1 : Int).toNat).length = x3_1.toNat from (by rw [List.length_take]; have h_ : (x3_1 : Int) ≤ (l0.length : Int) := of_decide_eq_true aO; omega)) ?_; repeat (first | exact (Kd.C_below HR636.out HB.out) | (with_reducible refine Kd.C_alloc ?_ _) | (with_reducible refine Kd.C_drewN ?_ _) | (with_reducible refine Kd.C_drew ?_))) | (repeat (first | exact (Kd.C_below HR636.out HB.out) | (with_reducible refine Kd.C_alloc ?_ _) | (with_reducible refine Kd.C_drewN ?_ _) | (with_reducible refine Kd.C_drew ?_)))); (case aB => exact (bO HB.out)); (case aF => exact (fun _ _ => trivial)); (case aO => exact (rO HO635.out)); (case aS => exact (below_size (bO HB.out))); (case aL => have := LMc12.out; have hlx_ := (show (l0.take (x3_1 : Int).toNat).length = x3_1.toNat from (by rw [List.length_take]; have h_ : (x3_1 : Int) ≤ (l0.length : Int) := of_decide_eq_true aO; omega)); omega); intro v638 w16 ho hb hg hat; rw [← Ny637.out] at ho; have n0_ := Aside0.mk (hb); have n1_ := Aside0.mk (ho); clear HB; clear HO635; have HB := n0_; have HO639 := n1_; clear n0_ n1_; clear ho hb hg hat))
            repeat (go_quiet (first | ((with_reducible refine gate_dst (N := 23) rfl ?_); refine Kd.R_lit (Kd.int .i64) _ 3 ?hg (N := 23) ?hd (xs := ([] : List Int)) (inner := []) (ok := fun _ => True) (okp := fun _ => True) ?hr ?hp (fun _ hk => hk) trivial (Below.refl _ _) (Nat.le_refl _) (by simp) ?_; (case hd => rfl); (case hg => rfl); (case hr => first | (go_simp; done) | (go_simp; rfl)); (case hp => exact (Reps.none _ _)); intro v634 w13 ho14 hb hg_ hnew_; clear hg_ hnew_; (first | rw [← Ny633.out] at ho14 | (simp only [Int.reduceToNat] at ho14; rw [← Ny633.out] at ho14)); have n0_ := Aside0.mk (Kd.R_lower ho14 (below_size (bO HB.out))); have n1_ := Aside0.mk (below_step (bO HB.out) hb); clear HB; have HO635 := n0_; have HB := n1_; clear n0_ n1_; clear hb ho14; obtain ⟨i015, hi015, _, hsz15, _⟩ := info_parts info3; obtain ⟨hcut15, hA15, hC15⟩ := print_take_of (P := Try.prog) (Value.int .i64) 0 23 3 .i64 Try.underlying23 hi015 hsz15 (some ad631) c0 l0 x3_1 (of_decide_eq_true aO) (of_decide_eq_true aO) HC0.out; have HR636 := Aside0.mk (Kd.C_of_reads (h1 := fun _ => rfl) (hA15 _ (Kd.reads_of_C HR0.out))); have HC636 := Aside0.mk hC15; clear hA15 hC15 hi015 hsz15) | ((with_reducible refine gate_builtin (b := .append) (xs := #[.tmp 23, .tmp 26]) rfl ?_); at_builtin; refine Kd.R_append_rows (Kd.int .i64) (w0 := w) w.heap.size rfl (.tmp 23) (.tmp 26) 23 3 (.int .i64 0) 8 rfl Try.underlying23 info3 rfl (by decide) (by omega) v634 y633 (l0.take (x3_1 : Int).toNat) _ _ _ (fun _ => True) (fun _ => False) rfl rfl ?aO ?aR (fun _ _ h => h) (fun _ h => h.elim) ?aF ?aB ?aS ?aL ?_; (case aR => first | (refine Kd.C_lenO (show (l0.take (x3_1 : Int).toNat).length = x3_1.toNat from (by rw [List.length_take]; have h_ : (x3_1 : Int) ≤ (l0.length : Int) := of_decide_eq_true aO; omega)) ?_; repeat (first | exact (Kd.C_below HR636.out HB.out) | (with_reducible refine Kd.C_alloc ?_ _) | (with_reducible refine Kd.C_drewN ?_ _) | (with_reducible refine Kd.C_drew ?_))) | (repeat (first | exact (Kd.C_below HR636.out HB.out) | (with_reducible refine Kd.C_alloc ?_ _) | (with_reducible refine Kd.C_drewN ?_ _) | (with_reducible refine Kd.C_drew ?_)))); (case aB => exact (bO HB.out)); (case aF => exact (fun _ _ => trivial)); (case aO => exact (rO HO635.out)); (case aS => exact (below_size (bO HB.out))); (case aL => have := LMc12.out; have hlx_ := (show (l0.take (x3_1 : Int).toNat).length = x3_1.toNat from (by rw [List.length_take]; have h_ : (x3_1 : Int) ≤ (l0.length : Int) := of_decide_eq_true aO; omega)); omega); intro v638 w16 ho hb hg hat; rw [← Ny637.out] at ho; have n0_ := Aside0.mk (hb); have n1_ := Aside0.mk (ho); clear HB; clear HO635; have HB := n0_; have HO639 := n1_; clear n0_ n1_; clear ho hb hg hat)); try go_wp2_with (first | ((with_reducible refine gate_dst (N := 23) rfl ?_); refine Kd.R_lit (Kd.int .i64) _ 3 ?hg (N := 23) ?hd (xs := ([] : List Int)) (inner := []) (ok := fun _ => True) (okp := fun _ => True) ?hr ?hp (fun _ hk => hk) trivial (Below.refl _ _) (Nat.le_refl _) (by simp) ?_; (case hd => rfl); (case hg => rfl); (case hr => first | (go_simp; done) | (go_simp; rfl)); (case hp => exact (Reps.none _ _)); intro v634 w13 ho14 hb hg_ hnew_; clear hg_ hnew_; (first | rw [← Ny633.out] at ho14 | (simp only [Int.reduceToNat] at ho14; rw [← Ny633.out] at ho14)); have n0_ := Aside0.mk (Kd.R_lower ho14 (below_size (bO HB.out))); have n1_ := Aside0.mk (below_step (bO HB.out) hb); clear HB; have HO635 := n0_; have HB := n1_; clear n0_ n1_; clear hb ho14; obtain ⟨i015, hi015, _, hsz15, _⟩ := info_parts info3; obtain ⟨hcut15, hA15, hC15⟩ := print_take_of (P := Try.prog) (Value.int .i64) 0 23 3 .i64 Try.underlying23 hi015 hsz15 (some ad631) c0 l0 x3_1 (of_decide_eq_true aO) (of_decide_eq_true aO) HC0.out; have HR636 := Aside0.mk (Kd.C_of_reads (h1 := fun _ => rfl) (hA15 _ (Kd.reads_of_C HR0.out))); have HC636 := Aside0.mk hC15; clear hA15 hC15 hi015 hsz15) | ((with_reducible refine gate_builtin (b := .append) (xs := #[.tmp 23, .tmp 26]) rfl ?_); at_builtin; refine Kd.R_append_rows (Kd.int .i64) (w0 := w) w.heap.size rfl (.tmp 23) (.tmp 26) 23 3 (.int .i64 0) 8 rfl Try.underlying23 info3 rfl (by decide) (by omega) v634 y633 (l0.take (x3_1 : Int).toNat) _ _ _ (fun _ => True) (fun _ => False) rfl rfl ?aO ?aR (fun _ _ h => h) (fun _ h => h.elim) ?aF ?aB ?aS ?aL ?_; (case aR => first | (refine Kd.C_lenO (show (l0.take (x3_1 : Int).toNat).length = x3_1.toNat from (by rw [List.length_take]; have h_ : (x3_1 : Int) ≤ (l0.length : Int) := of_decide_eq_true aO; omega)) ?_; repeat (first | exact (Kd.C_below HR636.out HB.out) | (with_reducible refine Kd.C_alloc ?_ _) | (with_reducible refine Kd.C_drewN ?_ _) | (with_reducible refine Kd.C_drew ?_))) | (repeat (first | exact (Kd.C_below HR636.out HB.out) | (with_reducible refine Kd.C_alloc ?_ _) | (with_reducible refine Kd.C_drewN ?_ _) | (with_reducible refine Kd.C_drew ?_)))); (case aB => exact (bO HB.out)); (case aF => exact (fun _ _ => trivial)); (case aO => exact (rO HO635.out)); (case aS => exact (below_size (bO HB.out))); (case aL => have := LMc12.out; have hlx_ := (show (l0.take (x3_1 : Int).toNat).length = x3_1.toNat from (by rw [List.length_take]; have h_ : (x3_1 : Int) ≤ (l0.length : Int) := of_decide_eq_true aO; omega)); omega); intro v638 w16 ho hb hg hat; rw [← Ny637.out] at ho; have n0_ := Aside0.mk (hb); have n1_ := Aside0.mk (ho); clear HB; clear HO635; have HB := n0_; have HO639 := n1_; clear n0_ n1_; clear ho hb hg hat)))
            go_ret
            exact ⟨_, by first | rfl | (simp [errW_none, errW_some] <;> rfl) | (simp only [← hji3, ← hji6]; first | rfl | (simp [errW_none, errW_some] <;> rfl)) | (simp [*, errW_none, errW_some] <;> rfl), rO HO639.out, bO HB.out⟩
           ·rw [if_neg c12] at H
            exact absurd H (by simp)
          ·rw [if_neg c11] at H
           exact absurd H (by simp)
         ·rw [if_neg c10] at H
          exact absurd H (by simp)
       ·rw [if_neg c8] at H
        exact absurd H (by simp)
      ·rw [if_neg c7] at H
       exact absurd H (by simp)
     ·rw [if_neg c5] at H
      exact absurd H (by simp)
    ·rw [if_neg c4] at H
     exact absurd H (by simp)
   ·rw [if_neg c2] at H
    have c2b0 : decide (2 ≤ x3_1) = false := decide_eq_false c2
    clear c2
    obtain ⟨y640, hy640⟩ : ∃ y_ : List Int, y_ = (([] : List Int)) := ⟨_, rfl⟩
    replace H : (if 0 ≤ x3_1 then (if x3_1 ≤ (l0.length : Int) then (if y640.length + (l0.take (x3_1 : Int).toNat).length < 17592186044416 then (some (y640 ++ (l0.take (x3_1 : Int).toNat))) else (none)) else (none)) else (none)) = some r := by first | (rw [hy640]; with_reducible exact H) | (have H2_ := (Option.bind_some _ _).symm.trans H; rw [hy640]; with_reducible exact H2_) | (have H2_ := (Option.bind_some _ _).symm.trans H; with_reducible exact H2_) | with_reducible exact H | (rw [hy640]; exact H) | exact H
    have Ny640 := Aside0.mk hy640
    clear hy640
    by_cases c17 : 0 ≤ x3_1
    ·rw [if_pos c17] at H
     have c17b0 := eq_true c17
     have c17b1 : decide (0 ≤ x3_1) = true := decide_eq_true c17
     clear c17
     by_cases c18 : x3_1 ≤ (l0.length : Int)
     ·rw [if_pos c18] at H
      have c18b0 := eq_true c18
      have c18b1 : decide (x3_1 ≤ (l0.length : Int)) = true := decide_eq_true c18
      clear c18
      by_cases c19 : y640.length + (l0.take (x3_1 : Int).toNat).length < 17592186044416
      ·rw [if_pos c19] at H
       have LMc19 := Aside0.mk c19
       clear c19
       obtain ⟨y644, hy644⟩ : ∃ y_ : List Int, y_ = (y640 ++ (l0.take (x3_1 : Int).toNat)) := ⟨_, rfl⟩
       replace H : (some y644) = some r := by first | (rw [hy644]; with_reducible exact H) | (have H2_ := (Option.bind_some _ _).symm.trans H; rw [hy644]; with_reducible exact H2_) | (have H2_ := (Option.bind_some _ _).symm.trans H; with_reducible exact H2_) | with_reducible exact H | (rw [hy644]; exact H) | exact H
       have Ny644 := Aside0.mk hy644
       clear hy644
       obtain rfl := Option.some.inj H
       go_wp2_with (first | ((with_reducible refine gate_dst (N := 23) rfl ?_); refine Kd.R_lit (Kd.int .i64) _ 3 ?hg (N := 23) ?hd (xs := ([] : List Int)) (inner := []) (ok := fun _ => True) (okp := fun _ => True) ?hr ?hp (fun _ hk => hk) trivial (Below.refl _ _) (Nat.le_refl _) (by simp) ?_; (case hd => rfl); (case hg => rfl); (case hr => first | (go_simp; done) | (go_simp; rfl)); (case hp => exact (Reps.none _ _)); intro v641 w20 ho21 hb hg_ hnew_; clear hg_ hnew_; (first | rw [← Ny640.out] at ho21 | (simp only [Int.reduceToNat] at ho21; rw [← Ny640.out] at ho21)); have n0_ := Aside0.mk (Kd.R_lower ho21 (below_size (bO HB.out))); have n1_ := Aside0.mk (below_step (bO HB.out) hb); clear HB; have HO642 := n0_; have HB := n1_; clear n0_ n1_; clear hb ho21; obtain ⟨i022, hi022, _, hsz22, _⟩ := info_parts info3; obtain ⟨hcut22, hA22, hC22⟩ := print_take_of (P := Try.prog) (Value.int .i64) 0 23 3 .i64 Try.underlying23 hi022 hsz22 A0 c0 l0 x3_1 (of_decide_eq_true aO) (of_decide_eq_true aO) HC0.out; have HR643 := Aside0.mk (Kd.C_of_reads (h1 := fun _ => rfl) (hA22 _ (Kd.reads_of_C HR0.out))); have HC643 := Aside0.mk hC22; clear hA22 hC22 hi022 hsz22) | ((with_reducible refine gate_builtin (b := .append) (xs := #[.tmp 23, .tmp 26]) rfl ?_); at_builtin; refine Kd.R_append_rows (Kd.int .i64) (w0 := w) w.heap.size rfl (.tmp 23) (.tmp 26) 23 3 (.int .i64 0) 8 rfl Try.underlying23 info3 rfl (by decide) (by omega) v641 y640 (l0.take (x3_1 : Int).toNat) _ _ _ (fun _ => True) (fun _ => False) rfl rfl ?aO ?aR (fun _ _ h => h) (fun _ h => h.elim) ?aF ?aB ?aS ?aL ?_; (case aR => first | (refine Kd.C_lenO (show (l0.take (x3_1 : Int).toNat).length = x3_1.toNat from (by rw [List.length_take]; have h_ : (x3_1 : Int) ≤ (l0.length : Int) := of_decide_eq_true aO; omega)) ?_; repeat (first | exact (Kd.C_below HR643.out HB.out) | (with_reducible refine Kd.C_alloc ?_ _) | (with_reducible refine Kd.C_drewN ?_ _) | (with_reducible refine Kd.C_drew ?_))) | (repeat (first | exact (Kd.C_below HR643.out HB.out) | (with_reducible refine Kd.C_alloc ?_ _) | (with_reducible refine Kd.C_drewN ?_ _) | (with_reducible refine Kd.C_drew ?_)))); (case aB => exact (bO HB.out)); (case aF => exact (fun _ _ => trivial)); (case aO => exact (rO HO642.out)); (case aS => exact (below_size (bO HB.out))); (case aL => have := LMc19.out; have hlx_ := (show (l0.take (x3_1 : Int).toNat).length = x3_1.toNat from (by rw [List.length_take]; have h_ : (x3_1 : Int) ≤ (l0.length : Int) := of_decide_eq_true aO; omega)); omega); intro v645 w23 ho hb hg hat; rw [← Ny644.out] at ho; have n0_ := Aside0.mk (hb); have n1_ := Aside0.mk (ho); clear HB; clear HO642; have HB := n0_; have HO646 := n1_; clear n0_ n1_; clear ho hb hg hat))
       repeat (go_quiet (first | ((with_reducible refine gate_dst (N := 23) rfl ?_); refine Kd.R_lit (Kd.int .i64) _ 3 ?hg (N := 23) ?hd (xs := ([] : List Int)) (inner := []) (ok := fun _ => True) (okp := fun _ => True) ?hr ?hp (fun _ hk => hk) trivial (Below.refl _ _) (Nat.le_refl _) (by simp) ?_; (case hd => rfl); (case hg => rfl); (case hr => first | (go_simp; done) | (go_simp; rfl)); (case hp => exact (Reps.none _ _)); intro v641 w20 ho21 hb hg_ hnew_; clear hg_ hnew_; (first | rw [← Ny640.out] at ho21 | (simp only [Int.reduceToNat] at ho21; rw [← Ny640.out] at ho21)); have n0_ := Aside0.mk (Kd.R_lower ho21 (below_size (bO HB.out))); have n1_ := Aside0.mk (below_step (bO HB.out) hb); clear HB; have HO642 := n0_; have HB := n1_; clear n0_ n1_; clear hb ho21; obtain ⟨i022, hi022, _, hsz22, _⟩ := info_parts info3; obtain ⟨hcut22, hA22, hC22⟩ := print_take_of (P := Try.prog) (Value.int .i64) 0 23 3 .i64 Try.underlying23 hi022 hsz22 A0 c0 l0 x3_1 (of_decide_eq_true aO) (of_decide_eq_true aO) HC0.out; have HR643 := Aside0.mk (Kd.C_of_reads (h1 := fun _ => rfl) (hA22 _ (Kd.reads_of_C HR0.out))); have HC643 := Aside0.mk hC22; clear hA22 hC22 hi022 hsz22) | ((with_reducible refine gate_builtin (b := .append) (xs := #[.tmp 23, .tmp 26]) rfl ?_); at_builtin; refine Kd.R_append_rows (Kd.int .i64) (w0 := w) w.heap.size rfl (.tmp 23) (.tmp 26) 23 3 (.int .i64 0) 8 rfl Try.underlying23 info3 rfl (by decide) (by omega) v641 y640 (l0.take (x3_1 : Int).toNat) _ _ _ (fun _ => True) (fun _ => False) rfl rfl ?aO ?aR (fun _ _ h => h) (fun _ h => h.elim) ?aF ?aB ?aS ?aL ?_; (case aR => first | (refine Kd.C_lenO (show (l0.take (x3_1 : Int).toNat).length = x3_1.toNat from (by rw [List.length_take]; have h_ : (x3_1 : Int) ≤ (l0.length : Int) := of_decide_eq_true aO; omega)) ?_; repeat (first | exact (Kd.C_below HR643.out HB.out) | (with_reducible refine Kd.C_alloc ?_ _) | (with_reducible refine Kd.C_drewN ?_ _) | (with_reducible refine Kd.C_drew ?_))) | (repeat (first | exact (Kd.C_below HR643.out HB.out) | (with_reducible refine Kd.C_alloc ?_ _) | (with_reducible refine Kd.C_drewN ?_ _) | (with_reducible refine Kd.C_drew ?_)))); (case aB => exact (bO HB.out)); (case aF => exact (fun _ _ => trivial)); (case aO => exact (rO HO642.out)); (case aS => exact (below_size (bO HB.out))); (case aL => have := LMc19.out; have hlx_ := (show (l0.take (x3_1 : Int).toNat).length = x3_1.toNat from (by rw [List.length_take]; have h_ : (x3_1 : Int) ≤ (l0.length : Int) := of_decide_eq_true aO; omega)); omega); intro v645 w23 ho hb hg hat; rw [← Ny644.out] at ho; have n0_ := Aside0.mk (hb); have n1_ := Aside0.mk (ho); clear HB; clear HO642; have HB := n0_; have HO646 := n1_; clear n0_ n1_; clear ho hb hg hat)); try go_wp2_with (first | ((with_reducible refine gate_dst (N := 23) rfl ?_); refine Kd.R_lit (Kd.int .i64) _ 3 ?hg (N := 23) ?hd (xs := ([] : List Int)) (inner := []) (ok := fun _ => True) (okp := fun _ => True) ?hr ?hp (fun _ hk => hk) trivial (Below.refl _ _) (Nat.le_refl _) (by simp) ?_; (case hd => rfl); (case hg => rfl); (case hr => first | (go_simp; done) | (go_simp; rfl)); (case hp => exact (Reps.none _ _)); intro v641 w20 ho21 hb hg_ hnew_; clear hg_ hnew_; (first | rw [← Ny640.out] at ho21 | (simp only [Int.reduceToNat] at ho21; rw [← Ny640.out] at ho21)); have n0_ := Aside0.mk (Kd.R_lower ho21 (below_size (bO HB.out))); have n1_ := Aside0.mk (below_step (bO HB.out) hb); clear HB; have HO642 := n0_; have HB := n1_; clear n0_ n1_; clear hb ho21; obtain ⟨i022, hi022, _, hsz22, _⟩ := info_parts info3; obtain ⟨hcut22, hA22, hC22⟩ := print_take_of (P := Try.prog) (Value.int .i64) 0 23 3 .i64 Try.underlying23 hi022 hsz22 A0 c0 l0 x3_1 (of_decide_eq_true aO) (of_decide_eq_true aO) HC0.out; have HR643 := Aside0.mk (Kd.C_of_reads (h1 := fun _ => rfl) (hA22 _ (Kd.reads_of_C HR0.out))); have HC643 := Aside0.mk hC22; clear hA22 hC22 hi022 hsz22) | ((with_reducible refine gate_builtin (b := .append) (xs := #[.tmp 23, .tmp 26]) rfl ?_); at_builtin; refine Kd.R_append_rows (Kd.int .i64) (w0 := w) w.heap.size rfl (.tmp 23) (.tmp 26) 23 3 (.int .i64 0) 8 rfl Try.underlying23 info3 rfl (by decide) (by omega) v641 y640 (l0.take (x3_1 : Int).toNat) _ _ _ (fun _ => True) (fun _ => False) rfl rfl ?aO ?aR (fun _ _ h => h) (fun _ h => h.elim) ?aF ?aB ?aS ?aL ?_; (case aR => first | (refine Kd.C_lenO (show (l0.take (x3_1 : Int).toNat).length = x3_1.toNat from (by rw [List.length_take]; have h_ : (x3_1 : Int) ≤ (l0.length : Int) := of_decide_eq_true aO; omega)) ?_; repeat (first | exact (Kd.C_below HR643.out HB.out) | (with_reducible refine Kd.C_alloc ?_ _) | (with_reducible refine Kd.C_drewN ?_ _) | (with_reducible refine Kd.C_drew ?_))) | (repeat (first | exact (Kd.C_below HR643.out HB.out) | (with_reducible refine Kd.C_alloc ?_ _) | (with_reducible refine Kd.C_drewN ?_ _) | (with_reducible refine Kd.C_drew ?_)))); (case aB => exact (bO HB.out)); (case aF => exact (fun _ _ => trivial)); (case aO => exact (rO HO642.out)); (case aS => exact (below_size (bO HB.out))); (case aL => have := LMc19.out; have hlx_ := (show (l0.take (x3_1 : Int).toNat).length = x3_1.toNat from (by rw [List.length_take]; have h_ : (x3_1 : Int) ≤ (l0.length : Int) := of_decide_eq_true aO; omega)); omega); intro v645 w23 ho hb hg hat; rw [← Ny644.out] at ho; have n0_ := Aside0.mk (hb); have n1_ := Aside0.mk (ho); clear HB; clear HO642; have HB := n0_; have HO646 := n1_; clear n0_ n1_; clear ho hb hg hat)))
       go_ret
       exact ⟨_, by first | rfl | (simp [errW_none, errW_some] <;> rfl) | (simp [*, errW_none, errW_some] <;> rfl), rO HO646.out, bO HB.out⟩
      ·rw [if_neg c19] at H
       exact absurd H (by simp)
     ·rw [if_neg c18] at H
      exact absurd H (by simp)
    ·rw [if_neg c17] at H
     exact absurd H (by simp)

end Go.Proofs.Ytolacbnkebbjiaa.X

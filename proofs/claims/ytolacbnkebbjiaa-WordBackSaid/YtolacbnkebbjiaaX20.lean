/- What the functions of this seat compute, and that the program's calls come to just that: written by this session's own program out of the translation; no condition. -/
import Derived.Test.YtolacbnkebbjiaaX0
import Derived.Test.YtolacbnkebbjiaaX4
import Derived.Test.YtolacbnkebbjiaaX8
namespace Go.Proofs.Ytolacbnkebbjiaa.X
open Go.RowKit Go.Proofs.YtolacbnkebbjiaaW.PrintWords Go.Proofs.YtolacbnkebbjiaaW.PrintLast Go.Proofs.YtolacbnkebbjiaaW.PrintMore
attribute [local go_sem] max2_int min2_int max_two min_two max_three min_three max_four min_four   -- for this text's walks alone
set_option linter.unusedVariables false
set_option linter.unusedSimpArgs false

/-! ### tabardref03_Value: function 34 -/
def tabardref03_Value.l0 : Nat → List Int → Int → Bool → List Int → Option (Bool × List Int)
 | 0, _, _, _, _ => none
 | k + 1, x0, x5, x389000, x389001 => if x5 ≥ 0 then ((tabardref01_Plus.f k x389000 x389001 x389000 x389001).bind fun bt389 => (if 0 ≤ x5 then (if x5 < (x0.length : Int) then ((tabardref01_Of.f k (rd x0 x5)).bind fun bt394 => ((tabardref01_Plus.f k bt389.1 bt389.2 bt394.1 bt394.2).bind fun bt398 => (tabardref03_Value.l0 k x0 (wrap64 (x5 - 1)) bt398.1 bt398.2))) else (none)) else (none))) else (some (x389000, x389001))
def tabardref03_Value.f (k : Nat) (l0 : List Int) : Option (Bool × List Int) := if 0 ≤ (wrap64 ((l0.length : Int) - 1)) then (if (wrap64 ((l0.length : Int) - 1)) < (l0.length : Int) then ((tabardref01_Of.f k (wrap64 (-(rd l0 (wrap64 ((l0.length : Int) - 1)))))).bind fun bt384 => (tabardref03_Value.l0 k l0 (wrap64 ((l0.length : Int) - 2)) bt384.1 bt384.2)) else (none)) else (none)
theorem tabardref03_Value.mono_l : ∀ k, (∀ y0 y1 y2 y3, LeO (tabardref03_Value.l0 k y0 y1 y2 y3) (tabardref03_Value.l0 (k + 1) y0 y1 y2 y3))
 | 0 => fun _ _ _ _ r h => by simp [tabardref03_Value.l0] at h
 | k + 1 => by
  have ih0 := tabardref03_Value.mono_l k
  ·intro y0 y1 y2 y3
   unfold tabardref03_Value.l0
   repeat' first
   | (with_reducible exact ih0 _ _ _ _)
   | (with_reducible exact tabardref01_Of.mono _ _)
   | (with_reducible exact tabardref01_Plus.mono _ _ _ _ _)
   | (with_reducible exact LeO.refl _)
   | (with_reducible exact LeO.none _)
   | (with_reducible refine LeO.ite ?_ ?_)
   | (with_reducible refine LeO.bind ?_ (fun _ => ?_))
   | exact ih0 _ _ _ _
   | exact tabardref01_Of.mono _ _
   | exact tabardref01_Plus.mono _ _ _ _ _
   | exact LeO.none _
   | refine LeO.ite ?_ ?_
   | refine LeO.bind ?_ (fun _ => ?_)
theorem tabardref03_Value.mono : ∀ a0 k, LeO (tabardref03_Value.f k a0) (tabardref03_Value.f (k + 1) a0) := by
 intro a0 k
 have ih0 := tabardref03_Value.mono_l k
 unfold tabardref03_Value.f
 repeat' first
   | (with_reducible exact ih0 _ _ _ _)
   | (with_reducible exact tabardref01_Of.mono _ _)
   | (with_reducible exact tabardref01_Plus.mono _ _ _ _ _)
   | (with_reducible exact LeO.refl _)
   | (with_reducible exact LeO.none _)
   | (with_reducible refine LeO.ite ?_ ?_)
   | (with_reducible refine LeO.bind ?_ (fun _ => ?_))
   | exact ih0 _ _ _ _
   | exact tabardref01_Of.mono _ _
   | exact tabardref01_Plus.mono _ _ _ _ _
   | exact LeO.none _
   | refine LeO.ite ?_ ?_
   | refine LeO.bind ?_ (fun _ => ?_)
def tabardref03_Value.T6 : Bool × List (List Nat × List Nat) := (true, [([], []), ([], []), ([0, 1], [0, 1]), ([], []), ([], []), ([3, 4], [3, 4]), ([5], [5]), ([6, 2], [6]), ([2, 7, 7], [2, 7]), ([8, 8, 0, 1, 2, 3, 4, 5, 6, 7, 8], [8])])
def tabardref03_Value.B6 : List Nat := [0, 0, 3, 0, 0, 24, 56, 127, 255, 511]
theorem tabardref03_Value.tab6 : rtab .any (opsOf Try.f34 6) = tabardref03_Value.T6 := by kernel_rfl
theorem tabardref03_Value.bits6 : waitsOk tabardref03_Value.T6.2 tabardref03_Value.B6 = true := by kernel_rfl
set_option maxHeartbeats 8000000 in
set_option maxRecDepth 100000 in
theorem tabardref03_Value.calls (k : Nat) (A0 : Option Addr) (c0 : Nat) (l0 : List Int) (r1 : Bool) (r2 : List Int) (w : World) (hr0 : Kd.C (Kd.int .i64) w A0 l0.length l0) (hc0 : l0.length ≤ c0) (h : tabardref03_Value.f k l0 = some (r1, r2)) :
  Calls Try.prog 34 #[.slice A0 l0.length c0] w fun e w' => ∃ v1_ : Value, e = .returned (.agg #[.bool r1, v1_]) ∧ Kd.V (Kd.int .u64) 63 w' w.heap.size (fun k_ => (w.heap.size ≤ k_)) v1_ r2 ∧ Below w.heap.size w w' := by
 have hu59 := Try.underlying59
 have HR0 := Aside0.mk hr0
 have HC0 := Aside0.mk hc0
 clear hr0 hc0
 have HB := Aside0.mk (Below.refl w.heap.size w)
 have H : (if 0 ≤ (wrap64 ((l0.length : Int) - 1)) then (if (wrap64 ((l0.length : Int) - 1)) < (l0.length : Int) then ((tabardref01_Of.f k (wrap64 (-(rd l0 (wrap64 ((l0.length : Int) - 1)))))).bind fun bt384 => (tabardref03_Value.l0 k l0 (wrap64 ((l0.length : Int) - 2)) bt384.1 bt384.2)) else (none)) else (none)) = some (r1, r2) := h
 clear h
 obtain ⟨ji2, hji2⟩ : ∃ j_ : Int, (wrap64 ((l0.length : Int) - 1)) = j_ := ⟨_, rfl⟩
 replace H : (if 0 ≤ (ji2) then (if (ji2) < (l0.length : Int) then ((tabardref01_Of.f k (wrap64 (-(rd l0 (ji2))))).bind fun bt384 => (tabardref03_Value.l0 k l0 (wrap64 ((l0.length : Int) - 2)) bt384.1 bt384.2)) else (none)) else (none)) = some (r1, r2) := by first | (rw [hji2] at H; exact H) | (simp only [hji2] at H ⊢; exact H)
 have hji2w : (IntKind.i64.wrap ((l0.length : Int) - 1)) = ji2 := (i64_w _).trans hji2
 by_cases c3 : 0 ≤ (ji2)
 ·rw [if_pos c3] at H
  have c3b0 : decide (0 ≤ (ji2)) = true := decide_eq_true c3
  clear c3
  by_cases c4 : (ji2) < (l0.length : Int)
  ·rw [if_pos c4] at H
   have c4b0 : decide ((ji2) < (l0.length : Int)) = true := decide_eq_true c4
   clear c4
   replace H := Option.bind_eq_some_iff.mp H
   obtain ⟨⟨t384, t385⟩, A50, H⟩ := H
   replace H : (tabardref03_Value.l0 k l0 (wrap64 ((l0.length : Int) - 2)) t384 t385) = some (r1, r2) := H
   have A5 := Aside0.mk A50
   clear A50
   have H' := Aside0.mk H
   clear H
   go_enter Try.func34, Try.ntmps34
   go_wp2_with (first | ((with_reducible refine gate_dst (N := 2) rfl ?_); refine box_event ?hg (N := 2) ?hd (cs := #[.bool false, .slice none 0 0]) (t := 59) ?hr ?_; (case hd => rfl); (case hg => rfl); (case hr => first | (go_simp; done) | (go_simp; rfl)); intro gb382 hg w6 hbox hb; have n0_ := Aside0.mk (below_step (bO HB.out) hb); have n1_ := Aside0.mk (hbox); have n2_ := Aside0.mk ((by rw [hg]; exact (below_size (bO HB.out)) : w.heap.size ≤ gb382)); have n3_ := Aside0.mk ((by rw [hg]; exact (below_size (bO HB.out)) : w.heap.size ≤ gb382)); clear HB; have HB := n0_; have BK382 := n1_; have GW382 := n2_; have GE382 := n3_; clear n0_ n1_ n2_ n3_; clear hb hbox hg; have p383 : 0 ≤ ((ji2) : Int) := of_decide_eq_true aO; have q383 : (ji2) < (l0.length : Int) := of_decide_eq_true aO; obtain ⟨ad383, e383, hx383_0⟩ := Kd.at_int HR0.out (ji2) p383 q383; cases e383; replace hx383_0 := (HB.out.cell (World.block_lt_of_cell? w _ hx383_0)).trans hx383_0; replace p383 := eq_true p383; replace q383 := eq_true q383) | ((with_reducible refine gate_callee (f := 45) rfl ?_); refine goesL_ (some 14) rfl rfl Try.func45 (by kernel_rfl) rfl #[.int .i64 (wrap64 (-(rd l0 (ji2))))] rfl (by (try simp only [List.map_toArray, List.map_cons, List.map_nil]); first | done | (simp only [hji2]; rfl) | rfl | (simp only [List.length_drop, List.length_take]; rfl)) ?_; (with_reducible refine (tabardref01_Of.calls k (wrap64 (-(rd l0 (ji2)))) t384 t385 _ A5.out).mono ?_); rintro e w7 ⟨v386, rfl, ho0, hb⟩; refine ⟨_, rfl, ?_⟩; have n0_ := Aside0.mk (Kd.V_lower (Kd.V_mono (ok' := fun k_ => (w.heap.size ≤ k_) ∧ k_ ≠ gb382) ho0 (fun k_ hk_ => ⟨(Nat.le_trans (below_size (by repeat (first | (with_reducible first | exact HB.out | apply below_alloc | apply pw_below_drewN | apply below_drew1 | refine below_set ?_ GE382.out) | exact HB.out))) hk_), (Kd.freshB (g := gb382) (o := .cells #[.bool false, .slice none 0 0] 59 (0, 0)) (kO BK382.out) k_ hk_)⟩)) (below_size (by repeat (first | (with_reducible first | exact HB.out | apply below_alloc | apply pw_below_drewN | apply below_drew1 | refine below_set ?_ GE382.out) | exact HB.out)))); have n1_ := Aside0.mk (blk_below (g := gb382) (o := .cells #[.bool false, .slice none 0 0] 59 (0, 0)) (kO BK382.out) hb); have n2_ := Aside0.mk (below_step (by repeat (first | (with_reducible first | exact HB.out | apply below_alloc | apply pw_below_drewN | apply below_drew1 | refine below_set ?_ GE382.out) | exact HB.out)) hb); clear BK382; clear HB; have HO387 := n0_; have BK382 := n1_; have HB := n2_; clear n0_ n1_ n2_; (try clear hb); (try clear hb2); (try clear hk); (try clear hi); (try clear ho0)) | ((with_reducible refine gate_dst (N := 4) rfl ?_); refine box_event ?hg (N := 4) ?hd (cs := #[.bool false, .slice none 0 0]) (t := 59) ?hr ?_; (case hd => rfl); (case hg => rfl); (case hr => first | (go_simp; done) | (go_simp; rfl)); intro gb388 hg w8 hbox hb; have n0_ := Aside0.mk (Kd.V_below (Kd.V_elderB (vO HO387.out) gb388 (Nat.le_of_eq hg.symm)) hb); have n1_ := Aside0.mk (blk_below (g := gb382) (o := .cells #[.bool false, .slice none 0 0] 59 (0, 0)) (kO BK382.out) hb); have n2_ := Aside0.mk (below_step (by repeat (first | (with_reducible first | exact HB.out | apply below_alloc | apply pw_below_drewN | apply below_drew1 | refine below_set ?_ GE382.out) | exact HB.out)) hb); have n3_ := Aside0.mk (hbox); have n4_ := Aside0.mk ((by rw [hg]; exact (below_size (by repeat (first | (with_reducible first | exact HB.out | apply below_alloc | apply pw_below_drewN | apply below_drew1 | refine below_set ?_ GE382.out) | exact HB.out))) : w.heap.size ≤ gb388)); have n5_ := Aside0.mk ((by rw [hg]; exact (below_size (by repeat (first | (with_reducible first | exact HB.out | apply below_alloc | apply pw_below_drewN | apply below_drew1 | refine below_set ?_ GE382.out) | exact HB.out))) : w.heap.size ≤ gb388)); have n6_ := Aside0.mk ((by rw [hg]; exact Nat.ne_of_lt (blk_lt (g := gb382) (o := .cells #[.bool false, .slice none 0 0] 59 (0, 0)) (kO BK382.out)) : gb382 ≠ gb388)); have n7_ := Aside0.mk ((by rw [hg]; exact Nat.ne_of_gt (blk_lt (g := gb382) (o := .cells #[.bool false, .slice none 0 0] 59 (0, 0)) (kO BK382.out)) : gb388 ≠ gb382)); clear HO387; clear BK382; clear HB; have HO387 := n0_; have BK382 := n1_; have HB := n2_; have BK388 := n3_; have GW388 := n4_; have GE388 := n5_; have NB382_388 := n6_; have NB388_382 := n7_; clear n0_ n1_ n2_ n3_ n4_ n5_ n6_ n7_; clear hb hbox hg; have hnb9 := NB388_382.out; have hnc9 := NB382_388.out; have hcz10_0 : w8.cell? ⟨gb388, 0, none⟩ = some (.bool false) := (blk_cell BK388.out 0).trans rfl; have hcz10_1 : w8.cell? ⟨gb388, 1, none⟩ = some (.slice none 0 0) := (blk_cell BK388.out 1).trans rfl; have hfz10_0 := blk_frozen BK388.out 0; have hfz10_1 := blk_frozen BK388.out 1; obtain ⟨Ao11, co11, eo11⟩ := Kd.V_slice HO387.out; subst eo11))
   go_loopg [5] k (fun kq v5 w' => ∃ (x5_1 : Int) (x389000_1 : Bool) (x389001_1 : List Int) (u389001 : Value), v5 = .int .i64 x5_1 ∧ Aside0 (tabardref03_Value.l0 kq l0 x5_1 x389000_1 x389001_1 = some (r1, r2)) ∧ Aside0 (kq ≤ k) ∧ Aside0 (Kd.V (Kd.int .u64) 63 w' w.heap.size (fun k_ => (w.heap.size ≤ k_) ∧ k_ ≠ gb382 ∧ k_ ≠ gb388) u389001 x389001_1) ∧ Aside0 (w'.heap[gb382]? = some (.cells #[.bool false, (.slice none 0 0)] 59 (0, 0))) ∧ Aside0 (w'.heap[gb388]? = some (.cells #[.bool x389000_1, u389001] 59 (0, 0))) ∧ Aside0 (Below w.heap.size w w'))
   case atStart => exact ⟨(wrap64 ((l0.length : Int) - 2)), (t384), (t385), (.slice Ao11 t385.length co11), (by first | rfl | (simp; done) | (simp [*]; done)), H', ⟨Nat.le_refl _⟩, ⟨by (with_reducible repeat (first | apply Kd.V_alloc | apply Kd.V_drewN | apply Kd.V_drew)); exact Kd.V_mono (Kd.V_far (p := ⟨gb388, 1, none⟩) (Kd.V_far (p := ⟨gb388, 0, none⟩) (Kd.V_mono HO387.out (fun k_ hk => (⟨hk, hk.2⟩ : _ ∧ k_ ≠ gb388))) (fun _ hk => hk.2) (.bool t384)) (fun _ hk => hk.2) (.slice Ao11 t385.length co11)) (fun _ hk => ⟨hk.1.1.1, ⟨hk.1.1.2, hk.1.2⟩⟩)⟩, ⟨by (with_reducible repeat (first | refine blk_drewN ?_ _ | refine blk_drew ?_ | refine blk_alloc ?_ _)); refine blk_far ?_ NB382_388.out _; (with_reducible repeat (first | refine blk_drewN ?_ _ | refine blk_drew ?_ | refine blk_alloc ?_ _)); refine blk_far ?_ NB382_388.out _; (with_reducible repeat (first | refine blk_drewN ?_ _ | refine blk_drew ?_ | refine blk_alloc ?_ _)); exact BK382.out⟩, ⟨by (with_reducible repeat (first | refine blk_drewN ?_ _ | refine blk_drew ?_ | refine blk_alloc ?_ _)); refine blk_put (cs := #[.bool t384, .slice none 0 0]) ?_ 1 _ rfl; (with_reducible repeat (first | refine blk_drewN ?_ _ | refine blk_drew ?_ | refine blk_alloc ?_ _)); refine blk_put (cs := #[.bool false, .slice none 0 0]) ?_ 0 _ rfl; (with_reducible repeat (first | refine blk_drewN ?_ _ | refine blk_drew ?_ | refine blk_alloc ?_ _)); exact BK388.out⟩, ⟨by repeat (first | (with_reducible first | exact HB.out | apply below_alloc | apply pw_below_drewN | apply below_drew1 | refine below_set ?_ GE382.out | refine below_set ?_ GE388.out) | exact HB.out)⟩⟩
   case round =>
    clear H'
    try clear p2
    try clear c3
    try clear c3b0
    try clear p3
    try clear q3
    try clear hx3
    try clear c4
    try clear c4b0
    try clear p6
    try clear c9
    try clear hcz10_0
    try clear hcz10_1
    try clear hfz10_0
    try clear hfz10_1
    try clear hx383_0
    try clear p383
    try clear q383
    obtain ⟨x5_1, x389000_1, x389001_1, u389001, rfl, HA, HK1, HO_389001, BK382, BK388, HB⟩ := hrel
    cases gk with
    | zero => exact absurd HA.out (by simp [tabardref03_Value.l0])
    | succ k1 =>
     have H := HA.out
     clear HA
     simp only [tabardref03_Value.l0] at H
     by_cases c12 : x5_1 ≥ 0
     ·rw [if_pos c12] at H
      have c12b0 : decide (0 ≤ x5_1) = true := decide_eq_true c12
      clear c12
      replace H := Option.bind_eq_some_iff.mp H
      obtain ⟨⟨t389, t390⟩, A130, H⟩ := H
      replace H : (if 0 ≤ x5_1 then (if x5_1 < (l0.length : Int) then ((tabardref01_Of.f k1 (rd l0 x5_1)).bind fun bt394 => ((tabardref01_Plus.f k1 t389 t390 bt394.1 bt394.2).bind fun bt398 => (tabardref03_Value.l0 k1 l0 (wrap64 (x5_1 - 1)) bt398.1 bt398.2))) else (none)) else (none)) = some (r1, r2) := H
      have A13 := Aside0.mk A130
      clear A130
      by_cases c14 : 0 ≤ x5_1
      ·rw [if_pos c14] at H
       have c14b0 : decide (0 ≤ x5_1) = true := decide_eq_true c14
       clear c14
       by_cases c15 : x5_1 < (l0.length : Int)
       ·rw [if_pos c15] at H
        have c15b0 : decide (x5_1 < (l0.length : Int)) = true := decide_eq_true c15
        clear c15
        replace H := Option.bind_eq_some_iff.mp H
        obtain ⟨⟨t394, t395⟩, A160, H⟩ := H
        replace H : ((tabardref01_Plus.f k1 t389 t390 t394 t395).bind fun bt398 => (tabardref03_Value.l0 k1 l0 (wrap64 (x5_1 - 1)) bt398.1 bt398.2)) = some (r1, r2) := H
        have A16 := Aside0.mk A160
        clear A160
        replace H := Option.bind_eq_some_iff.mp H
        obtain ⟨⟨t398, t399⟩, A170, H⟩ := H
        replace H : (tabardref03_Value.l0 k1 l0 (wrap64 (x5_1 - 1)) t398 t399) = some (r1, r2) := H
        have A17 := Aside0.mk A170
        clear A170
        have H' := Aside0.mk H
        clear H
        try go_wp2
        have n0_ := Aside0.mk (Kd.V_drew HO_389001.out)
        have n1_ := Aside0.mk (blk_drew BK382.out)
        have n2_ := Aside0.mk (blk_drew BK388.out)
        have n3_ := Aside0.mk (below_drew1 HB.out)
        clear HO_389001
        clear BK382
        clear BK388
        clear HB
        have HO_389001 := n0_
        have BK382 := n1_
        have BK388 := n2_
        have HB := n3_
        clear n0_ n1_ n2_ n3_
        have p393 : 0 ≤ (x5_1 : Int) := of_decide_eq_true aO
        have q393 : x5_1 < (l0.length : Int) := of_decide_eq_true aO
        obtain ⟨ad393, e393, hx393_0⟩ := Kd.at_int HR0.out x5_1 p393 q393
        have hw393_0 := hx393_0
        obtain rfl : ad383 = ad393 := (by injection e393)
        replace hx393_0 := (HB.out.cell (World.block_lt_of_cell? w _ hx393_0)).trans hx393_0
        replace p393 := eq_true p393
        replace q393 := eq_true q393
        obtain ⟨Ao19, co19, eo19⟩ := Kd.V_slice HO_389001.out
        (first | subst eo19 | (injection eo19 with f1_ f2_ f3_; have f4_ := f1_.symm; have f5_ := f3_.symm; clear f1_ f2_ f3_; subst f4_; subst f5_))
        refine start_ (n := 10) (S := fun w' => w'.cell? ⟨gb388, 0, none⟩ = some (.bool x389000_1) ∧ w'.cell? ⟨gb388, 1, none⟩ = some (.slice Ao19 x389001_1.length co19) ∧ w'.cell? (ad383.add (x5_1).toNat) = some (.int .i64 (rd l0 x5_1))) (ds := [9]) #[false, false, false, false, false, false, false, false, false, false] (by kernel_rfl) rfl rfl ⟨(blk_cell BK388.out 0).trans rfl, (blk_cell BK388.out 1).trans rfl, ((HB.out.cell (World.block_lt_of_cell? w _ hw393_0)).trans hw393_0)⟩ (fun hHeld => ?_); refine with_tabW tabardref03_Value.tab6 tabardref03_Value.bits6 (fun HT_ HW_ => ?_)
        generalize wr.drew = w18 at HO_389001 BK382 BK388 HB hx393_0 hHeld ⊢
        refine pure_ (i := 3) (N := some 24) (v := ?_) (a' := ?_) #[false, false, false, true, false, false, false, false, false, false] rfl rfl (any_of HT_.out (by kernel_rfl)) (fun _ _ _ h => h) (Or.inl ⟨by rfl, ?_⟩) ?_ ?_
        rotate_left
        ·intro w'
         go_simp
         with_reducible rfl
        rotate_left
        ·simp only [Act.put, List.setIfInBounds_toArray, List.set_cons_zero, List.set_cons_succ, i64_w, i32_w]
         rfl
        refine pure_ (i := 4) (N := some 25) (v := ?_) (a' := ?_) #[false, false, false, true, true, false, false, false, false, false] rfl rfl (any_of HT_.out (by kernel_rfl)) (fun _ _ _ h => h) (Or.inl ⟨by rfl, ?_⟩) ?_ ?_
        rotate_left
        ·intro w'
         go_simp
         with_reducible rfl
        rotate_left
        ·simp only [Act.put, List.setIfInBounds_toArray, List.set_cons_zero, List.set_cons_succ, i64_w, i32_w]
         rfl
        refine pure_ (i := 5) (N := some 26) (v := ?_) (a' := ?_) #[false, false, false, true, true, true, false, false, false, false] rfl rfl (any_of HT_.out (by kernel_rfl)) (fun _ _ _ h => h) (Or.inl ⟨by rfl, ?_⟩) ?_ ?_
        rotate_left
        ·intro w'
         go_simp
         with_reducible rfl
        rotate_left
        ·simp only [Act.put, List.setIfInBounds_toArray, List.set_cons_zero, List.set_cons_succ, i64_w, i32_w]
         rfl
        refine take_ (i := 0) (N := some 21) (v := ?_) (a' := ?_) #[true, false, false, true, true, true, false, false, false, false] rfl rfl (take_ofW HT_.out HW_.out (by kernel_rfl)) (fun _ _ _ h => h) (Or.inl ⟨by rfl, ?_⟩) hHeld ?_ ?_
        rotate_left
        ·rintro w' ⟨s0, s1, s2⟩
         go_simp
         with_reducible rfl
        rotate_left
        ·simp only [Act.put, List.setIfInBounds_toArray, List.set_cons_zero, List.set_cons_succ, i64_w, i32_w]
         rfl
        refine take_ (i := 1) (N := some 22) (v := ?_) (a' := ?_) #[true, true, false, true, true, true, false, false, false, false] rfl rfl (take_ofW HT_.out HW_.out (by kernel_rfl)) (fun _ _ _ h => h) (Or.inl ⟨by rfl, ?_⟩) hHeld ?_ ?_
        rotate_left
        ·rintro w' ⟨s0, s1, s2⟩
         go_simp
         with_reducible rfl
        rotate_left
        ·simp only [Act.put, List.setIfInBounds_toArray, List.set_cons_zero, List.set_cons_succ, i64_w, i32_w]
         rfl
        refine take_ (i := 6) (N := some 27) (v := ?_) (a' := ?_) #[true, true, false, true, true, true, true, false, false, false] rfl rfl (take_ofW HT_.out HW_.out (by kernel_rfl)) (fun _ _ _ h => h) (Or.inl ⟨by rfl, ?_⟩) hHeld ?_ ?_
        rotate_left
        ·rintro w' ⟨s0, s1, s2⟩
         go_simp
         with_reducible rfl
        rotate_left
        ·simp only [Act.put, List.setIfInBounds_toArray, List.set_cons_zero, List.set_cons_succ, i64_w, i32_w]
         rfl
        refine one_ (i := 2) (N := some 23) #[true, true, true, true, true, true, true, false, false, false] rfl rfl (one_of HT_.out (by kernel_rfl)) (by decide) (fun K hK => ?_)
        refine goes_ Try.func46 (by kernel_rfl) rfl #[.agg #[.bool x389000_1, .slice Ao19 x389001_1.length co19], .agg #[.bool x389000_1, .slice Ao19 x389001_1.length co19]] (by rfl) rfl rfl mO ?_
        with_reducible refine (tabardref01_Plus.calls k1 x389000_1 _ _ x389001_1 x389000_1 _ _ x389001_1 t389 t390 _ ?side1 ?side2 ?side3 ?side4 A13.out).mono ?_
        (case side1 => exact cO (Kd.V_reads' HO_389001.out).2.2)
        (case side2 => exact (Kd.V_reads' HO_389001.out).2.1)
        (case side3 => exact cO (Kd.V_reads' HO_389001.out).2.2)
        (case side4 => exact (Kd.V_reads' HO_389001.out).2.1)
        rintro e w20 ⟨v391, rfl, ho0, hb⟩
        refine ⟨_, rfl, ?_⟩
        have n0_ := Aside0.mk (Kd.V_below (vO HO_389001.out) hb)
        have n1_ := Aside0.mk (Kd.V_lower (Kd.V_mono (ok' := fun k_ => (w.heap.size ≤ k_) ∧ k_ ≠ gb382 ∧ k_ ≠ gb388) ho0 (fun k_ hk_ => ⟨(Nat.le_trans (below_size (by repeat (first | (with_reducible first | exact HB.out | apply below_alloc | apply pw_below_drewN | apply below_drew1 | refine below_set ?_ GE382.out | refine below_set ?_ GE388.out) | exact HB.out))) hk_), (Kd.freshB (g := gb382) (o := .cells #[.bool false, .slice none 0 0] 59 (0, 0)) (kO BK382.out) k_ hk_), (Kd.freshB (g := gb388) (o := .cells #[.bool x389000_1, .slice Ao19 x389001_1.length co19] 59 (0, 0)) (kO BK388.out) k_ hk_)⟩)) (below_size (by repeat (first | (with_reducible first | exact HB.out | apply below_alloc | apply pw_below_drewN | apply below_drew1 | refine below_set ?_ GE382.out | refine below_set ?_ GE388.out) | exact HB.out))))
        have n2_ := Aside0.mk (blk_below (g := gb382) (o := .cells #[.bool false, .slice none 0 0] 59 (0, 0)) (kO BK382.out) hb)
        have n3_ := Aside0.mk (blk_below (g := gb388) (o := .cells #[.bool x389000_1, .slice Ao19 x389001_1.length co19] 59 (0, 0)) (kO BK388.out) hb)
        have n4_ := Aside0.mk (below_step (by repeat (first | (with_reducible first | exact HB.out | apply below_alloc | apply pw_below_drewN | apply below_drew1 | refine below_set ?_ GE382.out | refine below_set ?_ GE388.out) | exact HB.out)) hb)
        clear HO_389001
        clear BK382
        clear BK388
        clear HB
        have HO_389001 := n0_
        have HO392 := n1_
        have BK382 := n2_
        have BK388 := n3_
        have HB := n4_
        clear n0_ n1_ n2_ n3_ n4_
        (try clear hb)
        (try clear hb2)
        (try clear hk)
        (try clear hi)
        (try clear ho0)
        refine hK.out _ _ ⟨(blk_cell BK388.out 0).trans rfl, (blk_cell BK388.out 1).trans rfl, ((HB.out.cell (World.block_lt_of_cell? w _ hw393_0)).trans hw393_0)⟩ (fun hHeld => ?_)
        clear hK K
        refine norm_ (a' := ?_) ?_ ?_
        rotate_left
        ·show Act.put _ (some 23) _ = _
         simp only [Act.put, List.setIfInBounds_toArray, List.set_cons_zero, List.set_cons_succ, i64_w, i32_w]
         rfl
        refine one_ (i := 7) (N := some 28) #[true, true, true, true, true, true, true, true, false, false] rfl rfl (one_of HT_.out (by kernel_rfl)) (by decide) (fun K hK => ?_)
        refine goes_ Try.func45 (by kernel_rfl) rfl #[.int .i64 (rd l0 x5_1)] (by rfl) rfl rfl mO ?_
        with_reducible refine (tabardref01_Of.calls k1 (rd l0 x5_1) t394 t395 _ A16.out).mono ?_
        rintro e w21 ⟨v396, rfl, ho0, hb⟩
        refine ⟨_, rfl, ?_⟩
        have n0_ := Aside0.mk (Kd.V_below (vO HO_389001.out) hb)
        have n1_ := Aside0.mk (Kd.V_below (vO HO392.out) hb)
        have n2_ := Aside0.mk (Kd.V_lower (Kd.V_mono (ok' := fun k_ => (w.heap.size ≤ k_) ∧ k_ ≠ gb382 ∧ k_ ≠ gb388) ho0 (fun k_ hk_ => ⟨(Nat.le_trans (below_size (by repeat (first | (with_reducible first | exact HB.out | apply below_alloc | apply pw_below_drewN | apply below_drew1 | refine below_set ?_ GE382.out | refine below_set ?_ GE388.out) | exact HB.out))) hk_), (Kd.freshB (g := gb382) (o := .cells #[.bool false, .slice none 0 0] 59 (0, 0)) (kO BK382.out) k_ hk_), (Kd.freshB (g := gb388) (o := .cells #[.bool x389000_1, .slice Ao19 x389001_1.length co19] 59 (0, 0)) (kO BK388.out) k_ hk_)⟩)) (below_size (by repeat (first | (with_reducible first | exact HB.out | apply below_alloc | apply pw_below_drewN | apply below_drew1 | refine below_set ?_ GE382.out | refine below_set ?_ GE388.out) | exact HB.out))))
        have n3_ := Aside0.mk (blk_below (g := gb382) (o := .cells #[.bool false, .slice none 0 0] 59 (0, 0)) (kO BK382.out) hb)
        have n4_ := Aside0.mk (blk_below (g := gb388) (o := .cells #[.bool x389000_1, .slice Ao19 x389001_1.length co19] 59 (0, 0)) (kO BK388.out) hb)
        have n5_ := Aside0.mk (below_step (by repeat (first | (with_reducible first | exact HB.out | apply below_alloc | apply pw_below_drewN | apply below_drew1 | refine below_set ?_ GE382.out | refine below_set ?_ GE388.out) | exact HB.out)) hb)
        clear HO_389001
        clear HO392
        clear BK382
        clear BK388
        clear HB
        have HO_389001 := n0_
        have HO392 := n1_
        have HO397 := n2_
        have BK382 := n3_
        have BK388 := n4_
        have HB := n5_
        clear n0_ n1_ n2_ n3_ n4_ n5_
        (try clear hb)
        (try clear hb2)
        (try clear hk)
        (try clear hi)
        (try clear ho0)
        obtain ⟨Ao22, co22, eo22⟩ := Kd.V_slice HO392.out
        (first | subst eo22 | (injection eo22 with f1_ f2_ f3_; have f4_ := f1_.symm; have f5_ := f3_.symm; clear f1_ f2_ f3_; subst f4_; subst f5_))
        obtain ⟨Ao23, co23, eo23⟩ := Kd.V_slice HO397.out
        (first | subst eo23 | (injection eo23 with f1_ f2_ f3_; have f4_ := f1_.symm; have f5_ := f3_.symm; clear f1_ f2_ f3_; subst f4_; subst f5_))
        refine hK.out _ _ ⟨(blk_cell BK388.out 0).trans rfl, (blk_cell BK388.out 1).trans rfl, ((HB.out.cell (World.block_lt_of_cell? w _ hw393_0)).trans hw393_0)⟩ (fun hHeld => ?_)
        clear hK K
        refine norm_ (a' := ?_) ?_ ?_
        rotate_left
        ·show Act.put _ (some 28) _ = _
         simp only [Act.put, List.setIfInBounds_toArray, List.set_cons_zero, List.set_cons_succ, i64_w, i32_w]
         rfl
        refine one_ (i := 8) (N := some 29) #[true, true, true, true, true, true, true, true, true, false] rfl rfl (one_of HT_.out (by kernel_rfl)) (by decide) (fun K hK => ?_)
        refine goes_ Try.func46 (by kernel_rfl) rfl #[.agg #[.bool t389, .slice Ao22 t390.length co22], .agg #[.bool t394, .slice Ao23 t395.length co23]] (by rfl) rfl rfl mO ?_
        with_reducible refine (tabardref01_Plus.calls k1 t389 _ _ t390 t394 _ _ t395 t398 t399 _ ?side1 ?side2 ?side3 ?side4 A17.out).mono ?_
        (case side1 => exact cO (Kd.V_reads' HO392.out).2.2)
        (case side2 => exact (Kd.V_reads' HO392.out).2.1)
        (case side3 => exact cO (Kd.V_reads' HO397.out).2.2)
        (case side4 => exact (Kd.V_reads' HO397.out).2.1)
        rintro e w24 ⟨v400, rfl, ho0, hb⟩
        refine ⟨_, rfl, ?_⟩
        have n0_ := Aside0.mk (Kd.V_below (vO HO_389001.out) hb)
        have n1_ := Aside0.mk (Kd.V_below (vO HO392.out) hb)
        have n2_ := Aside0.mk (Kd.V_below (vO HO397.out) hb)
        have n3_ := Aside0.mk (Kd.V_lower (Kd.V_mono (ok' := fun k_ => (w.heap.size ≤ k_) ∧ k_ ≠ gb382 ∧ k_ ≠ gb388) ho0 (fun k_ hk_ => ⟨(Nat.le_trans (below_size (by repeat (first | (with_reducible first | exact HB.out | apply below_alloc | apply pw_below_drewN | apply below_drew1 | refine below_set ?_ GE382.out | refine below_set ?_ GE388.out) | exact HB.out))) hk_), (Kd.freshB (g := gb382) (o := .cells #[.bool false, .slice none 0 0] 59 (0, 0)) (kO BK382.out) k_ hk_), (Kd.freshB (g := gb388) (o := .cells #[.bool x389000_1, .slice Ao19 x389001_1.length co19] 59 (0, 0)) (kO BK388.out) k_ hk_)⟩)) (below_size (by repeat (first | (with_reducible first | exact HB.out | apply below_alloc | apply pw_below_drewN | apply below_drew1 | refine below_set ?_ GE382.out | refine below_set ?_ GE388.out) | exact HB.out))))
        have n4_ := Aside0.mk (blk_below (g := gb382) (o := .cells #[.bool false, .slice none 0 0] 59 (0, 0)) (kO BK382.out) hb)
        have n5_ := Aside0.mk (blk_below (g := gb388) (o := .cells #[.bool x389000_1, .slice Ao19 x389001_1.length co19] 59 (0, 0)) (kO BK388.out) hb)
        have n6_ := Aside0.mk (below_step (by repeat (first | (with_reducible first | exact HB.out | apply below_alloc | apply pw_below_drewN | apply below_drew1 | refine below_set ?_ GE382.out | refine below_set ?_ GE388.out) | exact HB.out)) hb)
        clear HO_389001
        clear HO392
        clear HO397
        clear BK382
        clear BK388
        clear HB
        have HO_389001 := n0_
        have HO392 := n1_
        have HO397 := n2_
        have HO401 := n3_
        have BK382 := n4_
        have BK388 := n5_
        have HB := n6_
        clear n0_ n1_ n2_ n3_ n4_ n5_ n6_
        (try clear hb)
        (try clear hb2)
        (try clear hk)
        (try clear hi)
        (try clear ho0)
        obtain ⟨Ao26, co26, eo26⟩ := Kd.V_slice HO401.out
        (first | subst eo26 | (injection eo26 with f1_ f2_ f3_; have f4_ := f1_.symm; have f5_ := f3_.symm; clear f1_ f2_ f3_; subst f4_; subst f5_))
        refine hK.out _ _ ⟨(blk_cell BK388.out 0).trans rfl, (blk_cell BK388.out 1).trans rfl, ((HB.out.cell (World.block_lt_of_cell? w _ hw393_0)).trans hw393_0)⟩ (fun hHeld => ?_)
        clear hK K
        refine norm_ (a' := ?_) ?_ ?_
        rotate_left
        ·show Act.put _ (some 29) _ = _
         simp only [Act.put, List.setIfInBounds_toArray, List.set_cons_zero, List.set_cons_succ, i64_w, i32_w]
         rfl
        refine last_ (i := 9) (N := none) #[true, true, true, true, true, true, true, true, true, true] rfl rfl (one_of HT_.out (by kernel_rfl)) (by decide) (fun K hK => ?_)
        have hs25 : w24.cell? ⟨gb388, 0, none⟩ = some (.bool x389000_1) := (blk_cell BK388.out 0).trans rfl
        have hfs25 := blk_frozen BK388.out 0
        have hns25_0 := NB382_388.out
        have hms25_0 := NB388_382.out
        have hs27 : w24.cell? ⟨gb388, 1, none⟩ = some (.slice Ao19 x389001_1.length co19) := (blk_cell BK388.out 1).trans rfl
        have hfs27 := blk_frozen BK388.out 1
        have hns27_0 := NB382_388.out
        have hms27_0 := NB388_382.out
        refine skip_ (w1 := ?_) (by rfl) rfl ?_ ?_
        rotate_left
        ·go_simp
         rfl
        refine hK.out _ _ ?_
        clear hK K
        refine done_ (done_of HT_.out (by kernel_rfl)) ?_
        try go_wp2
        go_roundg k1
        case measure => have := HK1.out; omega
        case rel => exact ⟨(wrap64 (x5_1 - 1)), (t398), (t399), (.slice Ao26 t399.length co26), (by first | rfl | (simp; done) | (simp [*]; done)), H', ⟨by have := HK1.out; omega⟩, ⟨by (with_reducible repeat (first | apply Kd.V_alloc | apply Kd.V_drewN | apply Kd.V_drew)); exact Kd.V_mono (Kd.V_far (p := ⟨gb388, 1, none⟩) (Kd.V_far (p := ⟨gb388, 0, none⟩) (Kd.V_mono HO401.out (fun k_ hk => (⟨hk, hk.2.2⟩ : _ ∧ k_ ≠ gb388))) (fun _ hk => hk.2) (.bool t398)) (fun _ hk => hk.2) (.slice Ao26 t399.length co26)) (fun _ hk => ⟨hk.1.1, ⟨hk.1.2.1, hk.1.2.2⟩⟩)⟩, ⟨by (with_reducible repeat (first | refine blk_drewN ?_ _ | refine blk_drew ?_ | refine blk_alloc ?_ _)); refine blk_far ?_ NB382_388.out _; (with_reducible repeat (first | refine blk_drewN ?_ _ | refine blk_drew ?_ | refine blk_alloc ?_ _)); refine blk_far ?_ NB382_388.out _; (with_reducible repeat (first | refine blk_drewN ?_ _ | refine blk_drew ?_ | refine blk_alloc ?_ _)); exact BK382.out⟩, ⟨by (with_reducible repeat (first | refine blk_drewN ?_ _ | refine blk_drew ?_ | refine blk_alloc ?_ _)); refine blk_put (cs := #[.bool t398, .slice Ao19 x389001_1.length co19]) ?_ 1 _ rfl; (with_reducible repeat (first | refine blk_drewN ?_ _ | refine blk_drew ?_ | refine blk_alloc ?_ _)); refine blk_put (cs := #[.bool x389000_1, .slice Ao19 x389001_1.length co19]) ?_ 0 _ rfl; (with_reducible repeat (first | refine blk_drewN ?_ _ | refine blk_drew ?_ | refine blk_alloc ?_ _)); exact BK388.out⟩, ⟨by repeat (first | (with_reducible first | exact HB.out | apply below_alloc | apply pw_below_drewN | apply below_drew1 | refine below_set ?_ GE382.out | refine below_set ?_ GE388.out) | exact HB.out)⟩⟩
       ·rw [if_neg c15] at H
        exact absurd H (by simp)
      ·rw [if_neg c14] at H
       exact absurd H (by simp)
     ·rw [if_neg c12] at H
      have c12b0 : decide (0 ≤ x5_1) = false := decide_eq_false c12
      clear c12
      simp only [Option.some.injEq, Prod.mk.injEq] at H
      obtain ⟨rfl, rfl⟩ := H
      have hnb28 := NB388_382.out
      have hnc28 := NB382_388.out
      have hcz29_0 : wr.cell? ⟨gb388, 0, none⟩ = some (.bool x389000_1) := (blk_cell BK388.out 0).trans rfl
      have hcz29_1 : wr.cell? ⟨gb388, 1, none⟩ = some (u389001) := (blk_cell BK388.out 1).trans rfl
      have hfz29_0 := blk_frozen BK388.out 0
      have hfz29_1 := blk_frozen BK388.out 1
      have hcz30_0 : wr.cell? ⟨gb382, 0, none⟩ = some (.bool false) := (blk_cell BK382.out 0).trans rfl
      have hcz30_1 : wr.cell? ⟨gb382, 1, none⟩ = some (.slice none 0 0) := (blk_cell BK382.out 1).trans rfl
      have hfz30_0 := blk_frozen BK382.out 0
      have hfz30_1 := blk_frozen BK382.out 1
      obtain ⟨Ao31, co31, eo31⟩ := Kd.V_slice HO_389001.out
      subst eo31
      go_wp2
      refine bodyPost_ret (results_cell_row rfl _ _ gb382 59 #[.bool x389000_1, .slice Ao31 x389001_1.length co31] (0, 0) _ rfl (by (with_reducible repeat (first | refine blk_drewN ?_ _ | refine blk_drew ?_ | refine blk_alloc ?_ _)); refine blk_put (cs := #[.bool x389000_1, .slice none 0 0]) ?_ 1 _ rfl; (with_reducible repeat (first | refine blk_drewN ?_ _ | refine blk_drew ?_ | refine blk_alloc ?_ _)); refine blk_put (cs := #[.bool false, .slice none 0 0]) ?_ 0 _ rfl; (with_reducible repeat (first | refine blk_drewN ?_ _ | refine blk_drew ?_ | refine blk_alloc ?_ _)); exact BK382.out) Try.underlying59 rfl (by kernel_rfl)) rfl ?_
      exact ⟨_, by first | rfl | (simp [errW_none, errW_some] <;> rfl) | (simp only [← hji2]; first | rfl | (simp [errW_none, errW_some] <;> rfl)) | (simp [*, errW_none, errW_some] <;> rfl), by (with_reducible repeat (first | apply Kd.V_alloc | apply Kd.V_drewN | apply Kd.V_drew)); exact Kd.V_mono (Kd.V_far (p := ⟨gb382, 1, none⟩) (Kd.V_far (p := ⟨gb382, 0, none⟩) (Kd.V_mono HO_389001.out (fun k_ hk => (⟨hk, hk.2.1⟩ : _ ∧ k_ ≠ gb382))) (fun _ hk => hk.2) (.bool x389000_1)) (fun _ hk => hk.2) (.slice Ao31 x389001_1.length co31)) (fun _ hk => hk.1.1), by repeat (first | (with_reducible first | exact HB.out | apply below_alloc | apply pw_below_drewN | apply below_drew1 | refine below_set ?_ GE382.out | refine below_set ?_ GE388.out) | exact HB.out)⟩
  ·rw [if_neg c4] at H
   exact absurd H (by simp)
 ·rw [if_neg c3] at H
  exact absurd H (by simp)

end Go.Proofs.Ytolacbnkebbjiaa.X

/- What the functions of this seat compute, and that the program's calls come to just that: written by this session's own program out of the translation; no condition. -/
import Derived.Test.YtolacbnkebbjiaaX0
namespace Go.Proofs.Ytolacbnkebbjiaa.X
open Go.RowKit Go.Proofs.YtolacbnkebbjiaaW.PrintWords Go.Proofs.YtolacbnkebbjiaaW.PrintLast Go.Proofs.YtolacbnkebbjiaaW.PrintMore
attribute [local go_sem] max2_int min2_int max_two min_two max_three min_three max_four min_four   -- for this text's walks alone
set_option linter.unusedVariables false
set_option linter.unusedSimpArgs false

/-! ### tabardref01_Wide_trimmed: function 52 -/
def tabardref01_Wide_trimmed.l0 : Nat → Int → Bool → List Int → Option (Bool × List Int)
 | 0, _, _, _ => none
 | k + 1, x3, x113000, x113001 => if x3 > 0 then (if 0 ≤ (wrap64 (x3 - 1)) then (if (wrap64 (x3 - 1)) < (x113001.length : Int) then (if (rd x113001 (wrap64 (x3 - 1))) = 0 then (tabardref01_Wide_trimmed.l0 k (wrap64 (x3 - 1)) x113000 x113001) else (if x113000 = true then (if 0 ≤ x3 then (if x3 ≤ (x113001.length : Int) then (some (true, (x113001.take (x3 : Int).toNat))) else (none)) else (none)) else (if 0 ≤ x3 then (if x3 ≤ (x113001.length : Int) then (some (false, (x113001.take (x3 : Int).toNat))) else (none)) else (none)))) else (none)) else (none)) else (if x113000 = true then (if 0 ≤ x3 then (if x3 ≤ (x113001.length : Int) then (some (false, (x113001.take (x3 : Int).toNat))) else (none)) else (none)) else (if 0 ≤ x3 then (if x3 ≤ (x113001.length : Int) then (some (false, (x113001.take (x3 : Int).toNat))) else (none)) else (none)))
def tabardref01_Wide_trimmed.f (k : Nat) (a0_0 : Bool) (l0_1 : List Int) : Option (Bool × List Int) := tabardref01_Wide_trimmed.l0 k (l0_1.length : Int) a0_0 l0_1
theorem tabardref01_Wide_trimmed.mono_l : ∀ k, (∀ y0 y1 y2, LeO (tabardref01_Wide_trimmed.l0 k y0 y1 y2) (tabardref01_Wide_trimmed.l0 (k + 1) y0 y1 y2))
 | 0 => fun _ _ _ r h => by simp [tabardref01_Wide_trimmed.l0] at h
 | k + 1 => by
  have ih0 := tabardref01_Wide_trimmed.mono_l k
  ·intro y0 y1 y2
   unfold tabardref01_Wide_trimmed.l0
   repeat' first
   | (with_reducible exact ih0 _ _ _)
   | (with_reducible exact LeO.refl _)
   | (with_reducible exact LeO.none _)
   | (with_reducible refine LeO.ite ?_ ?_)
   | (with_reducible refine LeO.bind ?_ (fun _ => ?_))
   | exact ih0 _ _ _
   | exact LeO.none _
   | refine LeO.ite ?_ ?_
   | refine LeO.bind ?_ (fun _ => ?_)
theorem tabardref01_Wide_trimmed.mono : ∀ a0 a1 k, LeO (tabardref01_Wide_trimmed.f k a0 a1) (tabardref01_Wide_trimmed.f (k + 1) a0 a1) := by
 intro a0 a1 k
 have ih0 := tabardref01_Wide_trimmed.mono_l k
 unfold tabardref01_Wide_trimmed.f
 repeat' first
   | (with_reducible exact ih0 _ _ _)
   | (with_reducible exact LeO.refl _)
   | (with_reducible exact LeO.none _)
   | (with_reducible refine LeO.ite ?_ ?_)
   | (with_reducible refine LeO.bind ?_ (fun _ => ?_))
   | exact ih0 _ _ _
   | exact LeO.none _
   | refine LeO.ite ?_ ?_
   | refine LeO.bind ?_ (fun _ => ?_)
def tabardref01_Wide_trimmed.T4 : Bool × List (List Nat × List Nat) := (true, [([], []), ([0], [0]), ([1], [1]), ([2], [2]), ([3, 2], [2, 3]), ([2, 4], [2, 4]), ([], []), ([6], [6]), ([], []), ([], []), ([7, 8, 9], [7, 8, 9]), ([5, 10], [5, 10]), ([11, 2, 0, 1, 2, 3, 4, 5, 6, 7, 8, 9, 10, 11], [11])])
def tabardref01_Wide_trimmed.B4 : List Nat := [0, 1, 3, 7, 15, 31, 0, 64, 0, 0, 960, 2047, 4095]
theorem tabardref01_Wide_trimmed.tab4 : rtab .any (opsOf Try.f52 4) = tabardref01_Wide_trimmed.T4 := by kernel_rfl
theorem tabardref01_Wide_trimmed.bits4 : waitsOk tabardref01_Wide_trimmed.T4.2 tabardref01_Wide_trimmed.B4 = true := by kernel_rfl
set_option maxHeartbeats 8000000 in
set_option maxRecDepth 100000 in
theorem tabardref01_Wide_trimmed.calls (k : Nat) (a0_0 : Bool) (P0_1_ : Nat → Prop) (A0_1 : Option Addr) (c0_1 : Nat) (l0_1 : List Int) (r1 : Bool) (r2 : List Int) (w : World) (hs0_1 : Kd.V (Kd.int .u64) 63 w w.heap.size (fun k_ => P0_1_ k_) (.slice A0_1 l0_1.length c0_1) l0_1) (h : tabardref01_Wide_trimmed.f k a0_0 l0_1 = some (r1, r2)) :
  Calls Try.prog 52 #[.agg #[.bool a0_0, .slice A0_1 l0_1.length c0_1]] w fun e w' => ∃ v1_ : Value, e = .returned (.agg #[.bool r1, v1_]) ∧ Kd.V (Kd.int .u64) 63 w' w.heap.size (fun k_ => (P0_1_ k_ ∨ w.heap.size ≤ k_)) v1_ r2 ∧ Below w.heap.size w w' := by
 have hu59 := Try.underlying59
 have HO0_1 := Aside0.mk (show Kd.V (Kd.int .u64) 63 w w.heap.size (fun k_ => (P0_1_ k_ ∨ w.heap.size ≤ k_)) (.slice A0_1 l0_1.length c0_1) l0_1 from Kd.V_mono hs0_1 (fun k_ hk => .inl hk))
 have HB := Aside0.mk (Below.refl w.heap.size w)
 have H : (tabardref01_Wide_trimmed.l0 k (l0_1.length : Int) a0_0 l0_1) = some (r1, r2) := h
 clear h
 have H' := Aside0.mk H
 clear H
 go_enter Try.func52, Try.ntmps52
 go_wp2_with (first | ((with_reducible refine gate_dst (N := 1) rfl ?_); refine box_event ?hg (N := 1) ?hd (cs := #[.bool a0_0, .slice A0_1 l0_1.length c0_1]) (t := 59) ?hr ?_; (case hd => rfl); (case hg => rfl); (case hr => first | (go_simp; done) | (go_simp; rfl)); intro gb112 hg w2 hbox hb; have n0_ := Aside0.mk (Kd.V_below (Kd.V_elderB (vO HO0_1.out) gb112 (Nat.le_of_eq hg.symm)) hb); have n1_ := Aside0.mk (below_step (bO HB.out) hb); have n2_ := Aside0.mk (hbox); have n3_ := Aside0.mk ((by rw [hg]; exact (below_size (bO HB.out)) : w.heap.size ≤ gb112)); have n4_ := Aside0.mk ((by rw [hg]; exact (below_size (bO HB.out)) : w.heap.size ≤ gb112)); clear HO0_1; clear HB; have HO0_1 := n0_; have HB := n1_; have BK112 := n2_; have GW112 := n3_; have GE112 := n4_; clear n0_ n1_ n2_ n3_ n4_; clear hb hbox hg) | ((with_reducible refine gate_dst (N := 2) rfl ?_); refine box_event ?hg (N := 2) ?hd (cs := #[.bool false, .slice none 0 0]) (t := 59) ?hr ?_; (case hd => rfl); (case hg => rfl); (case hr => first | (go_simp; done) | (go_simp; rfl)); intro gb113 hg w3 hbox hb; have n0_ := Aside0.mk (Kd.V_below (Kd.V_elderB (vO HO0_1.out) gb113 (Nat.le_of_eq hg.symm)) hb); have n1_ := Aside0.mk (blk_below (g := gb112) (o := .cells #[.bool a0_0, .slice A0_1 l0_1.length c0_1] 59 (0, 0)) (kO BK112.out) hb); have n2_ := Aside0.mk (below_step (by repeat (first | (with_reducible first | exact HB.out | apply below_alloc | apply pw_below_drewN | apply below_drew1 | refine below_set ?_ GE112.out) | exact HB.out)) hb); have n3_ := Aside0.mk (hbox); have n4_ := Aside0.mk ((by rw [hg]; exact (below_size (by repeat (first | (with_reducible first | exact HB.out | apply below_alloc | apply pw_below_drewN | apply below_drew1 | refine below_set ?_ GE112.out) | exact HB.out))) : w.heap.size ≤ gb113)); have n5_ := Aside0.mk ((by rw [hg]; exact (below_size (by repeat (first | (with_reducible first | exact HB.out | apply below_alloc | apply pw_below_drewN | apply below_drew1 | refine below_set ?_ GE112.out) | exact HB.out))) : w.heap.size ≤ gb113)); have n6_ := Aside0.mk ((by rw [hg]; exact Nat.ne_of_lt (blk_lt (g := gb112) (o := .cells #[.bool a0_0, .slice A0_1 l0_1.length c0_1] 59 (0, 0)) (kO BK112.out)) : gb112 ≠ gb113)); have n7_ := Aside0.mk ((by rw [hg]; exact Nat.ne_of_gt (blk_lt (g := gb112) (o := .cells #[.bool a0_0, .slice A0_1 l0_1.length c0_1] 59 (0, 0)) (kO BK112.out)) : gb113 ≠ gb112)); clear HO0_1; clear BK112; clear HB; have HO0_1 := n0_; have BK112 := n1_; have HB := n2_; have BK113 := n3_; have GW113 := n4_; have GE113 := n5_; have NB112_113 := n6_; have NB113_112 := n7_; clear n0_ n1_ n2_ n3_ n4_ n5_ n6_ n7_; clear hb hbox hg; have hnb4 := NB112_113.out; have hnc4 := NB113_112.out; have hcz5_0 : w3.cell? ⟨gb112, 0, none⟩ = some (.bool a0_0) := (blk_cell BK112.out 0).trans rfl; have hcz5_1 : w3.cell? ⟨gb112, 1, none⟩ = some (.slice A0_1 l0_1.length c0_1) := (blk_cell BK112.out 1).trans rfl; have hfz5_0 := blk_frozen BK112.out 0; have hfz5_1 := blk_frozen BK112.out 1))
 go_loopg [3] k (fun kq v3 w' => ∃ (x3_1 : Int), v3 = .int .i64 x3_1 ∧ Aside0 (tabardref01_Wide_trimmed.l0 kq x3_1 a0_0 l0_1 = some (r1, r2)) ∧ Aside0 (kq ≤ k) ∧ Aside0 (Kd.V (Kd.int .u64) 63 w' w.heap.size (fun k_ => (P0_1_ k_ ∨ w.heap.size ≤ k_) ∧ k_ ≠ gb112 ∧ k_ ≠ gb113) (.slice A0_1 l0_1.length c0_1) l0_1) ∧ Aside0 (w'.heap[gb112]? = some (.cells #[.bool a0_0, (.slice A0_1 l0_1.length c0_1)] 59 (0, 0))) ∧ Aside0 (w'.heap[gb113]? = some (.cells #[.bool false, (.slice none 0 0)] 59 (0, 0))) ∧ Aside0 (Below w.heap.size w w'))
 case atStart => exact ⟨((l0_1.length : Int)), (by first | rfl | (simp; done) | (simp [*]; done)), H', ⟨Nat.le_refl _⟩, ⟨by (with_reducible repeat (first | apply Kd.V_alloc | apply Kd.V_drewN | apply Kd.V_drew)); exact Kd.V_mono HO0_1.out (fun _ hk => ⟨hk.1.1, ⟨hk.1.2, hk.2⟩⟩)⟩, ⟨kO BK112.out⟩, ⟨kO BK113.out⟩, ⟨by repeat (first | (with_reducible first | exact HB.out | apply below_alloc | apply pw_below_drewN | apply below_drew1 | refine below_set ?_ GE112.out | refine below_set ?_ GE113.out) | exact HB.out)⟩⟩
 case round =>
  clear H'
  try clear p2
  try clear c4
  try clear c5
  try clear hcz5_0
  try clear hcz5_1
  try clear hfz5_0
  try clear hfz5_1
  obtain ⟨x3_1, rfl, HA, HK1, HO_113001, BK112, BK113, HB⟩ := hrel
  cases gk with
  | zero => exact absurd HA.out (by simp [tabardref01_Wide_trimmed.l0])
  | succ k1 =>
   have H := HA.out
   clear HA
   simp only [tabardref01_Wide_trimmed.l0] at H
   by_cases c6 : x3_1 > 0
   ·rw [if_pos c6] at H
    have c6b0 : decide (0 < x3_1) = true := decide_eq_true c6
    clear c6
    obtain ⟨ji7, hji7⟩ : ∃ j_ : Int, (wrap64 (x3_1 - 1)) = j_ := ⟨_, rfl⟩
    replace H : (if 0 ≤ (ji7) then (if (ji7) < (l0_1.length : Int) then (if (rd l0_1 (ji7)) = 0 then (tabardref01_Wide_trimmed.l0 k1 ji7 a0_0 l0_1) else (if a0_0 = true then (if 0 ≤ x3_1 then (if x3_1 ≤ (l0_1.length : Int) then (some (true, (l0_1.take (x3_1 : Int).toNat))) else (none)) else (none)) else (if 0 ≤ x3_1 then (if x3_1 ≤ (l0_1.length : Int) then (some (false, (l0_1.take (x3_1 : Int).toNat))) else (none)) else (none)))) else (none)) else (none)) = some (r1, r2) := by first | (rw [hji7] at H; exact H) | (simp only [hji7] at H ⊢; exact H)
    have hji7w : (IntKind.i64.wrap (x3_1 - 1)) = ji7 := (i64_w _).trans hji7
    by_cases c8 : 0 ≤ (ji7)
    ·rw [if_pos c8] at H
     have c8b0 : decide (0 ≤ (ji7)) = true := decide_eq_true c8
     clear c8
     by_cases c9 : (ji7) < (l0_1.length : Int)
     ·rw [if_pos c9] at H
      have c9b0 : decide ((ji7) < (l0_1.length : Int)) = true := decide_eq_true c9
      clear c9
      by_cases c10 : (rd l0_1 (ji7)) = 0
      ·rw [if_pos c10] at H
       have c10b0 : ((rd l0_1 (ji7)) == 0) = true := beq_iff_eq.mpr c10
       have c10b1 : ((rd l0_1 (ji7)) != 0) = false := bne_eq_false_iff_eq.mpr c10
       clear c10
       have H' := Aside0.mk H
       clear H
       have hnb11 := NB112_113.out
       have hnc11 := NB113_112.out
       have hcz12_0 : wr.cell? ⟨gb112, 0, none⟩ = some (.bool a0_0) := (blk_cell BK112.out 0).trans rfl
       have hcz12_1 : wr.cell? ⟨gb112, 1, none⟩ = some (.slice A0_1 l0_1.length c0_1) := (blk_cell BK112.out 1).trans rfl
       have hfz12_0 := blk_frozen BK112.out 0
       have hfz12_1 := blk_frozen BK112.out 1
       have p114 : 0 ≤ ((ji7) : Int) := of_decide_eq_true aO
       have q114 : (ji7) < (l0_1.length : Int) := of_decide_eq_true aO
       obtain ⟨ad114, e114, hx114_0⟩ := Kd.at_int (Kd.V_reads' HO_113001.out).2.2 (ji7) p114 q114
       cases e114
       replace p114 := eq_true p114
       replace q114 := eq_true q114
       go_wp2
       go_roundg k1
       case measure => have := HK1.out; omega
       case rel => exact ⟨(ji7), (by first | rfl | (simp; done) | (simp only [← hji7] <;> (first | rfl | simp)) | (simp [*]; done)), H', ⟨by have := HK1.out; omega⟩, ⟨vO HO_113001.out⟩, ⟨kO BK112.out⟩, ⟨kO BK113.out⟩, ⟨by repeat (first | (with_reducible first | exact HB.out | apply below_alloc | apply pw_below_drewN | apply below_drew1 | refine below_set ?_ GE112.out | refine below_set ?_ GE113.out) | exact HB.out)⟩⟩
      ·rw [if_neg c10] at H
       have c10b0 : ((rd l0_1 (ji7)) == 0) = false := beq_eq_false_iff_ne.mpr c10
       have c10b1 : ((rd l0_1 (ji7)) != 0) = true := bne_iff_ne.mpr c10
       by_cases c13 : a0_0 = true
       ·subst c13
        have H1 : (if 0 ≤ x3_1 then (if x3_1 ≤ (l0_1.length : Int) then (some (true, (l0_1.take (x3_1 : Int).toNat))) else (none)) else (none)) = some (r1, r2) := by rw [if_pos rfl] at H; exact H
        clear H
        have H := H1
        clear H1
        by_cases c14 : 0 ≤ x3_1
        ·rw [if_pos c14] at H
         have c14b0 := eq_true c14
         have c14b1 : decide (0 ≤ x3_1) = true := decide_eq_true c14
         clear c14
         by_cases c15 : x3_1 ≤ (l0_1.length : Int)
         ·rw [if_pos c15] at H
          have c15b0 := eq_true c15
          have c15b1 : decide (x3_1 ≤ (l0_1.length : Int)) = true := decide_eq_true c15
          clear c15
          obtain ⟨y115, hy115⟩ : ∃ y_ : List Int, y_ = (l0_1.take (x3_1 : Int).toNat) := ⟨_, rfl⟩
          replace H : (some (true, y115)) = some (r1, r2) := by first | (rw [hy115]; with_reducible exact H) | (have H2_ := (Option.bind_some _ _).symm.trans H; rw [hy115]; with_reducible exact H2_) | (have H2_ := (Option.bind_some _ _).symm.trans H; with_reducible exact H2_) | with_reducible exact H | (rw [hy115]; exact H) | exact H
          have Ny115 := Aside0.mk hy115
          clear hy115
          simp only [Option.some.injEq, Prod.mk.injEq] at H
          obtain ⟨rfl, rfl⟩ := H
          have hnb16 := NB112_113.out
          have hnc16 := NB113_112.out
          have hcz17_0 : wr.cell? ⟨gb112, 0, none⟩ = some (.bool true) := (blk_cell BK112.out 0).trans rfl
          have hcz17_1 : wr.cell? ⟨gb112, 1, none⟩ = some (.slice A0_1 l0_1.length c0_1) := (blk_cell BK112.out 1).trans rfl
          have hfz17_0 := blk_frozen BK112.out 0
          have hfz17_1 := blk_frozen BK112.out 1
          have p114 : 0 ≤ ((ji7) : Int) := of_decide_eq_true aO
          have q114 : (ji7) < (l0_1.length : Int) := of_decide_eq_true aO
          obtain ⟨ad114, e114, hx114_0⟩ := Kd.at_int (Kd.V_reads' HO_113001.out).2.2 (ji7) p114 q114
          cases e114
          replace p114 := eq_true p114
          replace q114 := eq_true q114
          try go_wp2
          have n0_ := Aside0.mk (Kd.V_drew HO_113001.out)
          have n1_ := Aside0.mk (blk_drew BK112.out)
          have n2_ := Aside0.mk (blk_drew BK113.out)
          have n3_ := Aside0.mk (below_drew1 HB.out)
          clear HO_113001
          clear BK112
          clear BK113
          clear HB
          have HO_113001 := n0_
          have BK112 := n1_
          have BK113 := n2_
          have HB := n3_
          clear n0_ n1_ n2_ n3_
          have q19 : (x3_1 : Int) ≤ ((l0_1.length : Int) : Int) := of_decide_eq_true aO
          obtain ⟨i019, hi019, _, hsz19, _⟩ := info_parts info63
          have hroom19 : l0_1.length ≤ c0_1 := (Kd.V_reads' HO_113001.out).2.1
          have hC19 : Kd.F (Kd.int .u64) _ _ (some ad114) l0_1.length l0_1 := (Kd.V_at (base := w.heap.size) HO_113001.out).2.2
          have hcut19 := cut_to3 (P := Try.prog) 57 63 .i64 .i64 Try.underlying57 hi019 (some ad114) l0_1.length c0_1 x3_1 (of_decide_eq_true aO) q19 hroom19
          have hr19 := Kd.F_take (m := (x3_1 : Int).toNat) hC19 (by omega)
          have hy19 : y115.length = (x3_1 : Int).toNat := (by rw [Ny115.out, List.length_take]; omega)
          rw [← Ny115.out] at hr19
          rw [← hy19] at hcut19
          have HO119 := Aside0.mk (show Kd.V (Kd.int .u64) 63 _ w.heap.size _ (.slice (some ad114) y115.length y115.length) y115 from Kd.V_mk (by omega) hr19)
          have HC119 := Aside0.mk (show y115.length ≤ y115.length from by omega)
          clear hr19 hC19 hroom19 hi019 hsz19
          have KY19 := Aside0.mk hy19
          clear hy19
          replace q19 := eq_true q19
          refine start_ (n := 13) (S := fun w' => w'.cell? ⟨gb112, 0, none⟩ = some (.bool true) ∧ w'.cell? ⟨gb112, 1, none⟩ = some (.slice (some ad114) l0_1.length c0_1)) (ds := []) #[false, false, false, false, false, false, false, false, false, false, false, false, false] (by kernel_rfl) rfl rfl ⟨(blk_cell BK112.out 0).trans rfl, (blk_cell BK112.out 1).trans rfl⟩ (fun hHeld => ?_); refine with_tabW tabardref01_Wide_trimmed.tab4 tabardref01_Wide_trimmed.bits4 (fun HT_ HW_ => ?_)
          generalize wr.drew = w18 at HO_113001 BK112 BK113 HB HO119 hHeld ⊢
          refine pure_ (i := 0) (N := some 20) (v := ?_) (a' := ?_) #[true, false, false, false, false, false, false, false, false, false, false, false, false] rfl rfl (any_of HT_.out (by kernel_rfl)) (fun _ _ _ h => h) (Or.inl ⟨by rfl, ?_⟩) ?_ ?_
          rotate_left
          ·intro w'
           go_simp
           with_reducible rfl
          rotate_left
          ·simp only [Act.put, List.setIfInBounds_toArray, List.set_cons_zero, List.set_cons_succ, i64_w, i32_w]
           rfl
          refine pure_ (i := 6) (N := some 26) (v := ?_) (a' := ?_) #[true, false, false, false, false, false, true, false, false, false, false, false, false] rfl rfl (any_of HT_.out (by kernel_rfl)) (fun _ _ _ h => h) (Or.inl ⟨by rfl, ?_⟩) ?_ ?_
          rotate_left
          ·intro w'
           go_simp
           with_reducible rfl
          rotate_left
          ·simp only [Act.put, List.setIfInBounds_toArray, List.set_cons_zero, List.set_cons_succ, i64_w, i32_w]
           rfl
          refine pure_ (i := 8) (N := some 28) (v := ?_) (a' := ?_) #[true, false, false, false, false, false, true, false, true, false, false, false, false] rfl rfl (any_of HT_.out (by kernel_rfl)) (fun _ _ _ h => h) (Or.inl ⟨by rfl, ?_⟩) ?_ ?_
          rotate_left
          ·intro w'
           go_simp
           with_reducible rfl
          rotate_left
          ·simp only [Act.put, List.setIfInBounds_toArray, List.set_cons_zero, List.set_cons_succ, i64_w, i32_w]
           rfl
          refine pure_ (i := 9) (N := some 29) (v := ?_) (a' := ?_) #[true, false, false, false, false, false, true, false, true, true, false, false, false] rfl rfl (any_of HT_.out (by kernel_rfl)) (fun _ _ _ h => h) (Or.inl ⟨by rfl, ?_⟩) ?_ ?_
          rotate_left
          ·intro w'
           go_simp
           with_reducible rfl
          rotate_left
          ·simp only [Act.put, List.setIfInBounds_toArray, List.set_cons_zero, List.set_cons_succ, i64_w, i32_w]
           rfl
          refine take_ (i := 1) (N := some 21) (v := ?_) (a' := ?_) #[true, true, false, false, false, false, true, false, true, true, false, false, false] rfl rfl (take_ofW HT_.out HW_.out (by kernel_rfl)) (fun _ _ _ h => h) (Or.inl ⟨by rfl, ?_⟩) hHeld ?_ ?_
          rotate_left
          ·rintro w' ⟨s0, s1⟩
           go_simp
           with_reducible rfl
          rotate_left
          ·simp only [Act.put, List.setIfInBounds_toArray, List.set_cons_zero, List.set_cons_succ, i64_w, i32_w]
           rfl
          refine pure_ (i := 2) (N := some 22) (v := ?_) (a' := ?_) #[true, true, true, false, false, false, true, false, true, true, false, false, false] rfl rfl (any_of HT_.out (by kernel_rfl)) (fun _ _ _ h => h) (Or.inl ⟨by rfl, ?_⟩) ?_ ?_
          rotate_left
          ·intro w'
           go_simp
           with_reducible rfl
          rotate_left
          ·simp only [Act.put, List.setIfInBounds_toArray, List.set_cons_zero, List.set_cons_succ, i64_w, i32_w]
           rfl
          refine pure_ (i := 3) (N := some 23) (v := ?_) (a' := ?_) #[true, true, true, true, false, false, true, false, true, true, false, false, false] rfl rfl (any_of HT_.out (by kernel_rfl)) (fun _ _ _ h => h) (Or.inl ⟨by rfl, ?_⟩) ?_ ?_
          rotate_left
          ·intro w'
           go_simp
           with_reducible rfl
          rotate_left
          ·simp only [Act.put, List.setIfInBounds_toArray, List.set_cons_zero, List.set_cons_succ, i64_w, i32_w]
           rfl
          refine pure_ (i := 4) (N := some 24) (v := ?_) (a' := ?_) #[true, true, true, true, true, false, true, false, true, true, false, false, false] rfl rfl (any_of HT_.out (by kernel_rfl)) (fun _ _ _ h => h) (Or.inl ⟨by rfl, ?_⟩) ?_ ?_
          rotate_left
          ·intro w'
           go_simp
           with_reducible rfl
          rotate_left
          ·simp only [Act.put, List.setIfInBounds_toArray, List.set_cons_zero, List.set_cons_succ, i64_w, i32_w]
           rfl
          refine pure_ (i := 5) (N := some 25) (v := ?_) (a' := ?_) #[true, true, true, true, true, true, true, false, true, true, false, false, false] rfl rfl (any_of HT_.out (by kernel_rfl)) (fun _ _ _ h => h) (Or.inl ⟨by rfl, ?_⟩) ?_ ?_
          rotate_left
          ·intro w'
           go_simp
           with_reducible rfl
          rotate_left
          ·simp only [Act.put, List.setIfInBounds_toArray, List.set_cons_zero, List.set_cons_succ, i64_w, i32_w]
           rfl
          refine take_ (i := 7) (N := some 27) (v := ?_) (a' := ?_) #[true, true, true, true, true, true, true, true, true, true, false, false, false] rfl rfl (take_ofW HT_.out HW_.out (by kernel_rfl)) (fun _ _ _ h => h) (Or.inl ⟨by rfl, ?_⟩) hHeld ?_ ?_
          rotate_left
          ·rintro w' ⟨s0, s1⟩
           go_simp
           with_reducible rfl
          rotate_left
          ·simp only [Act.put, List.setIfInBounds_toArray, List.set_cons_zero, List.set_cons_succ, i64_w, i32_w]
           rfl
          refine pure_ (i := 10) (N := some 30) (v := ?_) (a' := ?_) #[true, true, true, true, true, true, true, true, true, true, true, false, false] rfl rfl (any_of HT_.out (by kernel_rfl)) (fun _ _ _ h => h) (Or.inl ⟨by rfl, ?_⟩) ?_ ?_
          rotate_left
          ·intro w'
           go_simp
           with_reducible rfl
          rotate_left
          ·simp only [Act.put, List.setIfInBounds_toArray, List.set_cons_zero, List.set_cons_succ, i64_w, i32_w]
           rfl
          refine pure_ (i := 11) (N := some 31) (v := ?_) (a' := ?_) #[true, true, true, true, true, true, true, true, true, true, true, true, false] rfl rfl (any_of HT_.out (by kernel_rfl)) (fun _ _ _ h => h) (Or.inl ⟨by rfl, ?_⟩) ?_ ?_
          rotate_left
          ·intro w'
           go_simp
           with_reducible rfl
          rotate_left
          ·simp only [Act.put, List.setIfInBounds_toArray, List.set_cons_zero, List.set_cons_succ, i64_w, i32_w]
           rfl
          refine one_ (i := 12) (N := none) #[true, true, true, true, true, true, true, true, true, true, true, true, true] rfl rfl (one_of HT_.out (by kernel_rfl)) (by decide) (fun K hK => ?_)
          have hs20 : w18.cell? ⟨gb113, 0, none⟩ = some (.bool false) := (blk_cell BK113.out 0).trans rfl
          have hfs20 := blk_frozen BK113.out 0
          have hns20_0 := NB112_113.out
          have hms20_0 := NB113_112.out
          have hs21 : w18.cell? ⟨gb113, 1, none⟩ = some (.slice none 0 0) := (blk_cell BK113.out 1).trans rfl
          have hfs21 := blk_frozen BK113.out 1
          have hns21_0 := NB112_113.out
          have hms21_0 := NB113_112.out
          refine skip_ (w1 := ?_) (by rfl) rfl ?_ ?_
          rotate_left
          ·go_simp
           rfl
          refine hK.out _ _ ⟨((cell_far (p := ⟨gb113, _, none⟩) NB112_113.out _).trans (((cell_far (p := ⟨gb113, _, none⟩) NB112_113.out _).trans (hHeld.1)))), ((cell_far (p := ⟨gb113, _, none⟩) NB112_113.out _).trans (((cell_far (p := ⟨gb113, _, none⟩) NB112_113.out _).trans (hHeld.2))))⟩ (fun hHeld => ?_)
          clear hK K
          refine done_ (done_of HT_.out (by kernel_rfl)) ?_
          try go_wp2
          refine bodyPost_ret (results_cell_row rfl _ _ gb113 59 #[.bool true, .slice (some ad114) y115.length (y115.length)] (0, 0) _ rfl (by (with_reducible repeat (first | refine blk_drewN ?_ _ | refine blk_drew ?_ | refine blk_alloc ?_ _)); refine blk_put (cs := #[.bool true, .slice none 0 0]) ?_ 1 _ rfl; (with_reducible repeat (first | refine blk_drewN ?_ _ | refine blk_drew ?_ | refine blk_alloc ?_ _)); refine blk_put (cs := #[.bool false, .slice none 0 0]) ?_ 0 _ rfl; (with_reducible repeat (first | refine blk_drewN ?_ _ | refine blk_drew ?_ | refine blk_alloc ?_ _)); exact BK113.out) Try.underlying59 rfl (by kernel_rfl)) rfl ?_
          exact ⟨_, by first | rfl | (simp [errW_none, errW_some] <;> rfl) | (simp only [← hji7]; first | rfl | (simp [errW_none, errW_some] <;> rfl)) | (simp [*, errW_none, errW_some] <;> rfl), by (with_reducible repeat (first | apply Kd.V_alloc | apply Kd.V_drewN | apply Kd.V_drew)); exact Kd.V_mono (Kd.V_far (p := ⟨gb113, 1, none⟩) (Kd.V_far (p := ⟨gb113, 0, none⟩) (Kd.V_mono HO119.out (fun k_ hk => (⟨hk, hk.2.2⟩ : _ ∧ k_ ≠ gb113))) (fun _ hk => hk.2) (.bool true)) (fun _ hk => hk.2) (.slice (some ad114) y115.length (y115.length))) (fun _ hk => hk.1.1), by repeat (first | (with_reducible first | exact HB.out | apply below_alloc | apply pw_below_drewN | apply below_drew1 | refine below_set ?_ GE112.out | refine below_set ?_ GE113.out) | exact HB.out)⟩
         ·rw [if_neg c15] at H
          exact absurd H (by simp)
        ·rw [if_neg c14] at H
         exact absurd H (by simp)
       ·replace c13 := Bool.eq_false_iff.mpr c13
        subst c13
        have H1 : (if 0 ≤ x3_1 then (if x3_1 ≤ (l0_1.length : Int) then (some (false, (l0_1.take (x3_1 : Int).toNat))) else (none)) else (none)) = some (r1, r2) := by rw [if_neg (show ¬ (false = true) by decide)] at H; exact H
        clear H
        have H := H1
        clear H1
        by_cases c22 : 0 ≤ x3_1
        ·rw [if_pos c22] at H
         have c22b0 := eq_true c22
         have c22b1 : decide (0 ≤ x3_1) = true := decide_eq_true c22
         clear c22
         by_cases c23 : x3_1 ≤ (l0_1.length : Int)
         ·rw [if_pos c23] at H
          have c23b0 := eq_true c23
          have c23b1 : decide (x3_1 ≤ (l0_1.length : Int)) = true := decide_eq_true c23
          clear c23
          obtain ⟨y120, hy120⟩ : ∃ y_ : List Int, y_ = (l0_1.take (x3_1 : Int).toNat) := ⟨_, rfl⟩
          replace H : (some (false, y120)) = some (r1, r2) := by first | (rw [hy120]; with_reducible exact H) | (have H2_ := (Option.bind_some _ _).symm.trans H; rw [hy120]; with_reducible exact H2_) | (have H2_ := (Option.bind_some _ _).symm.trans H; with_reducible exact H2_) | with_reducible exact H | (rw [hy120]; exact H) | exact H
          have Ny120 := Aside0.mk hy120
          clear hy120
          simp only [Option.some.injEq, Prod.mk.injEq] at H
          obtain ⟨rfl, rfl⟩ := H
          have hnb24 := NB112_113.out
          have hnc24 := NB113_112.out
          have hcz25_0 : wr.cell? ⟨gb112, 0, none⟩ = some (.bool false) := (blk_cell BK112.out 0).trans rfl
          have hcz25_1 : wr.cell? ⟨gb112, 1, none⟩ = some (.slice A0_1 l0_1.length c0_1) := (blk_cell BK112.out 1).trans rfl
          have hfz25_0 := blk_frozen BK112.out 0
          have hfz25_1 := blk_frozen BK112.out 1
          have p114 : 0 ≤ ((ji7) : Int) := of_decide_eq_true aO
          have q114 : (ji7) < (l0_1.length : Int) := of_decide_eq_true aO
          obtain ⟨ad114, e114, hx114_0⟩ := Kd.at_int (Kd.V_reads' HO_113001.out).2.2 (ji7) p114 q114
          cases e114
          replace p114 := eq_true p114
          replace q114 := eq_true q114
          try go_wp2
          have n0_ := Aside0.mk (Kd.V_drew HO_113001.out)
          have n1_ := Aside0.mk (blk_drew BK112.out)
          have n2_ := Aside0.mk (blk_drew BK113.out)
          have n3_ := Aside0.mk (below_drew1 HB.out)
          clear HO_113001
          clear BK112
          clear BK113
          clear HB
          have HO_113001 := n0_
          have BK112 := n1_
          have BK113 := n2_
          have HB := n3_
          clear n0_ n1_ n2_ n3_
          have q27 : (x3_1 : Int) ≤ ((l0_1.length : Int) : Int) := of_decide_eq_true aO
          obtain ⟨i027, hi027, _, hsz27, _⟩ := info_parts info63
          have hroom27 : l0_1.length ≤ c0_1 := (Kd.V_reads' HO_113001.out).2.1
          have hC27 : Kd.F (Kd.int .u64) _ _ (some ad114) l0_1.length l0_1 := (Kd.V_at (base := w.heap.size) HO_113001.out).2.2
          have hcut27 := cut_to3 (P := Try.prog) 57 63 .i64 .i64 Try.underlying57 hi027 (some ad114) l0_1.length c0_1 x3_1 (of_decide_eq_true aO) q27 hroom27
          have hr27 := Kd.F_take (m := (x3_1 : Int).toNat) hC27 (by omega)
          have hy27 : y120.length = (x3_1 : Int).toNat := (by rw [Ny120.out, List.length_take]; omega)
          rw [← Ny120.out] at hr27
          rw [← hy27] at hcut27
          have HO124 := Aside0.mk (show Kd.V (Kd.int .u64) 63 _ w.heap.size _ (.slice (some ad114) y120.length y120.length) y120 from Kd.V_mk (by omega) hr27)
          have HC124 := Aside0.mk (show y120.length ≤ y120.length from by omega)
          clear hr27 hC27 hroom27 hi027 hsz27
          have KY27 := Aside0.mk hy27
          clear hy27
          replace q27 := eq_true q27
          refine start_ (n := 13) (S := fun w' => w'.cell? ⟨gb112, 0, none⟩ = some (.bool false) ∧ w'.cell? ⟨gb112, 1, none⟩ = some (.slice (some ad114) l0_1.length c0_1)) (ds := []) #[false, false, false, false, false, false, false, false, false, false, false, false, false] (by kernel_rfl) rfl rfl ⟨(blk_cell BK112.out 0).trans rfl, (blk_cell BK112.out 1).trans rfl⟩ (fun hHeld => ?_); refine with_tabW tabardref01_Wide_trimmed.tab4 tabardref01_Wide_trimmed.bits4 (fun HT_ HW_ => ?_)
          generalize wr.drew = w26 at HO_113001 BK112 BK113 HB HO124 hHeld ⊢
          refine pure_ (i := 0) (N := some 20) (v := ?_) (a' := ?_) #[true, false, false, false, false, false, false, false, false, false, false, false, false] rfl rfl (any_of HT_.out (by kernel_rfl)) (fun _ _ _ h => h) (Or.inl ⟨by rfl, ?_⟩) ?_ ?_
          rotate_left
          ·intro w'
           go_simp
           with_reducible rfl
          rotate_left
          ·simp only [Act.put, List.setIfInBounds_toArray, List.set_cons_zero, List.set_cons_succ, i64_w, i32_w]
           rfl
          refine pure_ (i := 6) (N := some 26) (v := ?_) (a' := ?_) #[true, false, false, false, false, false, true, false, false, false, false, false, false] rfl rfl (any_of HT_.out (by kernel_rfl)) (fun _ _ _ h => h) (Or.inl ⟨by rfl, ?_⟩) ?_ ?_
          rotate_left
          ·intro w'
           go_simp
           with_reducible rfl
          rotate_left
          ·simp only [Act.put, List.setIfInBounds_toArray, List.set_cons_zero, List.set_cons_succ, i64_w, i32_w]
           rfl
          refine pure_ (i := 8) (N := some 28) (v := ?_) (a' := ?_) #[true, false, false, false, false, false, true, false, true, false, false, false, false] rfl rfl (any_of HT_.out (by kernel_rfl)) (fun _ _ _ h => h) (Or.inl ⟨by rfl, ?_⟩) ?_ ?_
          rotate_left
          ·intro w'
           go_simp
           with_reducible rfl
          rotate_left
          ·simp only [Act.put, List.setIfInBounds_toArray, List.set_cons_zero, List.set_cons_succ, i64_w, i32_w]
           rfl
          refine pure_ (i := 9) (N := some 29) (v := ?_) (a' := ?_) #[true, false, false, false, false, false, true, false, true, true, false, false, false] rfl rfl (any_of HT_.out (by kernel_rfl)) (fun _ _ _ h => h) (Or.inl ⟨by rfl, ?_⟩) ?_ ?_
          rotate_left
          ·intro w'
           go_simp
           with_reducible rfl
          rotate_left
          ·simp only [Act.put, List.setIfInBounds_toArray, List.set_cons_zero, List.set_cons_succ, i64_w, i32_w]
           rfl
          refine take_ (i := 1) (N := some 21) (v := ?_) (a' := ?_) #[true, true, false, false, false, false, true, false, true, true, false, false, false] rfl rfl (take_ofW HT_.out HW_.out (by kernel_rfl)) (fun _ _ _ h => h) (Or.inl ⟨by rfl, ?_⟩) hHeld ?_ ?_
          rotate_left
          ·rintro w' ⟨s0, s1⟩
           go_simp
           with_reducible rfl
          rotate_left
          ·simp only [Act.put, List.setIfInBounds_toArray, List.set_cons_zero, List.set_cons_succ, i64_w, i32_w]
           rfl
          refine pure_ (i := 2) (N := some 22) (v := ?_) (a' := ?_) #[true, true, true, false, false, false, true, false, true, true, false, false, false] rfl rfl (any_of HT_.out (by kernel_rfl)) (fun _ _ _ h => h) (Or.inl ⟨by rfl, ?_⟩) ?_ ?_
          rotate_left
          ·intro w'
           go_simp
           with_reducible rfl
          rotate_left
          ·simp only [Act.put, List.setIfInBounds_toArray, List.set_cons_zero, List.set_cons_succ, i64_w, i32_w]
           rfl
          refine pure_ (i := 3) (N := some 23) (v := undef) (a' := ?_) #[true, true, true, true, false, false, true, false, true, true, false, false, false] rfl rfl (any_of HT_.out (by kernel_rfl)) (fun _ _ _ h => h) (Or.inr ⟨by rfl, rfl⟩) ?_ ?_
          rotate_left
          ·simp only [Act.put, List.setIfInBounds_toArray, List.set_cons_zero, List.set_cons_succ, i64_w, i32_w]
           rfl
          refine pure_ (i := 4) (N := some 24) (v := undef) (a' := ?_) #[true, true, true, true, true, false, true, false, true, true, false, false, false] rfl rfl (any_of HT_.out (by kernel_rfl)) (fun _ _ _ h => h) (Or.inr ⟨by rfl, rfl⟩) ?_ ?_
          rotate_left
          ·simp only [Act.put, List.setIfInBounds_toArray, List.set_cons_zero, List.set_cons_succ, i64_w, i32_w]
           rfl
          refine pure_ (i := 5) (N := some 25) (v := ?_) (a' := ?_) #[true, true, true, true, true, true, true, false, true, true, false, false, false] rfl rfl (any_of HT_.out (by kernel_rfl)) (fun _ _ _ h => h) (Or.inl ⟨by rfl, ?_⟩) ?_ ?_
          rotate_left
          ·intro w'
           go_simp
           with_reducible rfl
          rotate_left
          ·simp only [Act.put, List.setIfInBounds_toArray, List.set_cons_zero, List.set_cons_succ, i64_w, i32_w]
           rfl
          refine take_ (i := 7) (N := some 27) (v := ?_) (a' := ?_) #[true, true, true, true, true, true, true, true, true, true, false, false, false] rfl rfl (take_ofW HT_.out HW_.out (by kernel_rfl)) (fun _ _ _ h => h) (Or.inl ⟨by rfl, ?_⟩) hHeld ?_ ?_
          rotate_left
          ·rintro w' ⟨s0, s1⟩
           go_simp
           with_reducible rfl
          rotate_left
          ·simp only [Act.put, List.setIfInBounds_toArray, List.set_cons_zero, List.set_cons_succ, i64_w, i32_w]
           rfl
          refine pure_ (i := 10) (N := some 30) (v := ?_) (a' := ?_) #[true, true, true, true, true, true, true, true, true, true, true, false, false] rfl rfl (any_of HT_.out (by kernel_rfl)) (fun _ _ _ h => h) (Or.inl ⟨by rfl, ?_⟩) ?_ ?_
          rotate_left
          ·intro w'
           go_simp
           with_reducible rfl
          rotate_left
          ·simp only [Act.put, List.setIfInBounds_toArray, List.set_cons_zero, List.set_cons_succ, i64_w, i32_w]
           rfl
          refine pure_ (i := 11) (N := some 31) (v := ?_) (a' := ?_) #[true, true, true, true, true, true, true, true, true, true, true, true, false] rfl rfl (any_of HT_.out (by kernel_rfl)) (fun _ _ _ h => h) (Or.inl ⟨by rfl, ?_⟩) ?_ ?_
          rotate_left
          ·intro w'
           go_simp
           with_reducible rfl
          rotate_left
          ·simp only [Act.put, List.setIfInBounds_toArray, List.set_cons_zero, List.set_cons_succ, i64_w, i32_w]
           rfl
          refine one_ (i := 12) (N := none) #[true, true, true, true, true, true, true, true, true, true, true, true, true] rfl rfl (one_of HT_.out (by kernel_rfl)) (by decide) (fun K hK => ?_)
          have hs28 : w26.cell? ⟨gb113, 0, none⟩ = some (.bool false) := (blk_cell BK113.out 0).trans rfl
          have hfs28 := blk_frozen BK113.out 0
          have hns28_0 := NB112_113.out
          have hms28_0 := NB113_112.out
          have hs29 : w26.cell? ⟨gb113, 1, none⟩ = some (.slice none 0 0) := (blk_cell BK113.out 1).trans rfl
          have hfs29 := blk_frozen BK113.out 1
          have hns29_0 := NB112_113.out
          have hms29_0 := NB113_112.out
          refine skip_ (w1 := ?_) (by rfl) rfl ?_ ?_
          rotate_left
          ·go_simp
           rfl
          refine hK.out _ _ ⟨((cell_far (p := ⟨gb113, _, none⟩) NB112_113.out _).trans (((cell_far (p := ⟨gb113, _, none⟩) NB112_113.out _).trans (hHeld.1)))), ((cell_far (p := ⟨gb113, _, none⟩) NB112_113.out _).trans (((cell_far (p := ⟨gb113, _, none⟩) NB112_113.out _).trans (hHeld.2))))⟩ (fun hHeld => ?_)
          clear hK K
          refine done_ (done_of HT_.out (by kernel_rfl)) ?_
          try go_wp2
          refine bodyPost_ret (results_cell_row rfl _ _ gb113 59 #[.bool false, .slice (some ad114) y120.length (y120.length)] (0, 0) _ rfl (by (with_reducible repeat (first | refine blk_drewN ?_ _ | refine blk_drew ?_ | refine blk_alloc ?_ _)); refine blk_put (cs := #[.bool false, .slice none 0 0]) ?_ 1 _ rfl; (with_reducible repeat (first | refine blk_drewN ?_ _ | refine blk_drew ?_ | refine blk_alloc ?_ _)); refine blk_put (cs := #[.bool false, .slice none 0 0]) ?_ 0 _ rfl; (with_reducible repeat (first | refine blk_drewN ?_ _ | refine blk_drew ?_ | refine blk_alloc ?_ _)); exact BK113.out) Try.underlying59 rfl (by kernel_rfl)) rfl ?_
          exact ⟨_, by first | rfl | (simp [errW_none, errW_some] <;> rfl) | (simp only [← hji7]; first | rfl | (simp [errW_none, errW_some] <;> rfl)) | (simp [*, errW_none, errW_some] <;> rfl), by (with_reducible repeat (first | apply Kd.V_alloc | apply Kd.V_drewN | apply Kd.V_drew)); exact Kd.V_mono (Kd.V_far (p := ⟨gb113, 1, none⟩) (Kd.V_far (p := ⟨gb113, 0, none⟩) (Kd.V_mono HO124.out (fun k_ hk => (⟨hk, hk.2.2⟩ : _ ∧ k_ ≠ gb113))) (fun _ hk => hk.2) (.bool false)) (fun _ hk => hk.2) (.slice (some ad114) y120.length (y120.length))) (fun _ hk => hk.1.1), by repeat (first | (with_reducible first | exact HB.out | apply below_alloc | apply pw_below_drewN | apply below_drew1 | refine below_set ?_ GE112.out | refine below_set ?_ GE113.out) | exact HB.out)⟩
         ·rw [if_neg c23] at H
          exact absurd H (by simp)
        ·rw [if_neg c22] at H
         exact absurd H (by simp)
     ·rw [if_neg c9] at H
      exact absurd H (by simp)
    ·rw [if_neg c8] at H
     exact absurd H (by simp)
   ·rw [if_neg c6] at H
    have c6b0 : decide (0 < x3_1) = false := decide_eq_false c6
    clear c6
    by_cases c30 : a0_0 = true
    ·subst c30
     have H1 : (if 0 ≤ x3_1 then (if x3_1 ≤ (l0_1.length : Int) then (some (false, (l0_1.take (x3_1 : Int).toNat))) else (none)) else (none)) = some (r1, r2) := by rw [if_pos rfl] at H; exact H
     clear H
     have H := H1
     clear H1
     by_cases c31 : 0 ≤ x3_1
     ·rw [if_pos c31] at H
      have c31b0 := eq_true c31
      have c31b1 : decide (0 ≤ x3_1) = true := decide_eq_true c31
      clear c31
      by_cases c32 : x3_1 ≤ (l0_1.length : Int)
      ·rw [if_pos c32] at H
       have c32b0 := eq_true c32
       have c32b1 : decide (x3_1 ≤ (l0_1.length : Int)) = true := decide_eq_true c32
       clear c32
       obtain ⟨y125, hy125⟩ : ∃ y_ : List Int, y_ = (l0_1.take (x3_1 : Int).toNat) := ⟨_, rfl⟩
       replace H : (some (false, y125)) = some (r1, r2) := by first | (rw [hy125]; with_reducible exact H) | (have H2_ := (Option.bind_some _ _).symm.trans H; rw [hy125]; with_reducible exact H2_) | (have H2_ := (Option.bind_some _ _).symm.trans H; with_reducible exact H2_) | with_reducible exact H | (rw [hy125]; exact H) | exact H
       have Ny125 := Aside0.mk hy125
       clear hy125
       simp only [Option.some.injEq, Prod.mk.injEq] at H
       obtain ⟨rfl, rfl⟩ := H
       try go_wp2
       have n0_ := Aside0.mk (Kd.V_drew HO_113001.out)
       have n1_ := Aside0.mk (blk_drew BK112.out)
       have n2_ := Aside0.mk (blk_drew BK113.out)
       have n3_ := Aside0.mk (below_drew1 HB.out)
       clear HO_113001
       clear BK112
       clear BK113
       clear HB
       have HO_113001 := n0_
       have BK112 := n1_
       have BK113 := n2_
       have HB := n3_
       clear n0_ n1_ n2_ n3_
       have q34 : (x3_1 : Int) ≤ ((l0_1.length : Int) : Int) := of_decide_eq_true aO
       obtain ⟨i034, hi034, _, hsz34, _⟩ := info_parts info63
       have hroom34 : l0_1.length ≤ c0_1 := (Kd.V_reads' HO_113001.out).2.1
       have hC34 : Kd.F (Kd.int .u64) _ _ A0_1 l0_1.length l0_1 := (Kd.V_at (base := w.heap.size) HO_113001.out).2.2
       have hcut34 := cut_to3 (P := Try.prog) 57 63 .i64 .i64 Try.underlying57 hi034 A0_1 l0_1.length c0_1 x3_1 (of_decide_eq_true aO) q34 hroom34
       have hr34 := Kd.F_take (m := (x3_1 : Int).toNat) hC34 (by omega)
       have hy34 : y125.length = (x3_1 : Int).toNat := (by rw [Ny125.out, List.length_take]; omega)
       rw [← Ny125.out] at hr34
       rw [← hy34] at hcut34
       have HO129 := Aside0.mk (show Kd.V (Kd.int .u64) 63 _ w.heap.size _ (.slice A0_1 y125.length y125.length) y125 from Kd.V_mk (by omega) hr34)
       have HC129 := Aside0.mk (show y125.length ≤ y125.length from by omega)
       clear hr34 hC34 hroom34 hi034 hsz34
       have KY34 := Aside0.mk hy34
       clear hy34
       replace q34 := eq_true q34
       refine start_ (n := 13) (S := fun w' => w'.cell? ⟨gb112, 0, none⟩ = some (.bool true) ∧ w'.cell? ⟨gb112, 1, none⟩ = some (.slice A0_1 l0_1.length c0_1)) (ds := []) #[false, false, false, false, false, false, false, false, false, false, false, false, false] (by kernel_rfl) rfl rfl ⟨(blk_cell BK112.out 0).trans rfl, (blk_cell BK112.out 1).trans rfl⟩ (fun hHeld => ?_); refine with_tabW tabardref01_Wide_trimmed.tab4 tabardref01_Wide_trimmed.bits4 (fun HT_ HW_ => ?_)
       generalize wr.drew = w33 at HO_113001 BK112 BK113 HB HO129 hHeld ⊢
       refine pure_ (i := 0) (N := some 20) (v := ?_) (a' := ?_) #[true, false, false, false, false, false, false, false, false, false, false, false, false] rfl rfl (any_of HT_.out (by kernel_rfl)) (fun _ _ _ h => h) (Or.inl ⟨by rfl, ?_⟩) ?_ ?_
       rotate_left
       ·intro w'
        go_simp
        with_reducible rfl
       rotate_left
       ·simp only [Act.put, List.setIfInBounds_toArray, List.set_cons_zero, List.set_cons_succ, i64_w, i32_w]
        rfl
       refine pure_ (i := 6) (N := some 26) (v := ?_) (a' := ?_) #[true, false, false, false, false, false, true, false, false, false, false, false, false] rfl rfl (any_of HT_.out (by kernel_rfl)) (fun _ _ _ h => h) (Or.inl ⟨by rfl, ?_⟩) ?_ ?_
       rotate_left
       ·intro w'
        go_simp
        with_reducible rfl
       rotate_left
       ·simp only [Act.put, List.setIfInBounds_toArray, List.set_cons_zero, List.set_cons_succ, i64_w, i32_w]
        rfl
       refine pure_ (i := 8) (N := some 28) (v := ?_) (a' := ?_) #[true, false, false, false, false, false, true, false, true, false, false, false, false] rfl rfl (any_of HT_.out (by kernel_rfl)) (fun _ _ _ h => h) (Or.inl ⟨by rfl, ?_⟩) ?_ ?_
       rotate_left
       ·intro w'
        go_simp
        with_reducible rfl
       rotate_left
       ·simp only [Act.put, List.setIfInBounds_toArray, List.set_cons_zero, List.set_cons_succ, i64_w, i32_w]
        rfl
       refine pure_ (i := 9) (N := some 29) (v := ?_) (a' := ?_) #[true, false, false, false, false, false, true, false, true, true, false, false, false] rfl rfl (any_of HT_.out (by kernel_rfl)) (fun _ _ _ h => h) (Or.inl ⟨by rfl, ?_⟩) ?_ ?_
       rotate_left
       ·intro w'
        go_simp
        with_reducible rfl
       rotate_left
       ·simp only [Act.put, List.setIfInBounds_toArray, List.set_cons_zero, List.set_cons_succ, i64_w, i32_w]
        rfl
       refine take_ (i := 1) (N := some 21) (v := ?_) (a' := ?_) #[true, true, false, false, false, false, true, false, true, true, false, false, false] rfl rfl (take_ofW HT_.out HW_.out (by kernel_rfl)) (fun _ _ _ h => h) (Or.inl ⟨by rfl, ?_⟩) hHeld ?_ ?_
       rotate_left
       ·rintro w' ⟨s0, s1⟩
        go_simp
        with_reducible rfl
       rotate_left
       ·simp only [Act.put, List.setIfInBounds_toArray, List.set_cons_zero, List.set_cons_succ, i64_w, i32_w]
        rfl
       refine pure_ (i := 2) (N := some 22) (v := ?_) (a' := ?_) #[true, true, true, false, false, false, true, false, true, true, false, false, false] rfl rfl (any_of HT_.out (by kernel_rfl)) (fun _ _ _ h => h) (Or.inl ⟨by rfl, ?_⟩) ?_ ?_
       rotate_left
       ·intro w'
        go_simp
        with_reducible rfl
       rotate_left
       ·simp only [Act.put, List.setIfInBounds_toArray, List.set_cons_zero, List.set_cons_succ, i64_w, i32_w]
        rfl
       refine pure_ (i := 3) (N := some 23) (v := ?_) (a' := ?_) #[true, true, true, true, false, false, true, false, true, true, false, false, false] rfl rfl (any_of HT_.out (by kernel_rfl)) (fun _ _ _ h => h) (Or.inl ⟨by rfl, ?_⟩) ?_ ?_
       rotate_left
       ·intro w'
        go_simp
        with_reducible rfl
       rotate_left
       ·simp only [Act.put, List.setIfInBounds_toArray, List.set_cons_zero, List.set_cons_succ, i64_w, i32_w]
        rfl
       refine pure_ (i := 4) (N := some 24) (v := ?_) (a' := ?_) #[true, true, true, true, true, false, true, false, true, true, false, false, false] rfl rfl (any_of HT_.out (by kernel_rfl)) (fun _ _ _ h => h) (Or.inl ⟨by rfl, ?_⟩) ?_ ?_
       rotate_left
       ·intro w'
        go_simp
        with_reducible rfl
       rotate_left
       ·simp only [Act.put, List.setIfInBounds_toArray, List.set_cons_zero, List.set_cons_succ, i64_w, i32_w]
        rfl
       refine pure_ (i := 5) (N := some 25) (v := ?_) (a' := ?_) #[true, true, true, true, true, true, true, false, true, true, false, false, false] rfl rfl (any_of HT_.out (by kernel_rfl)) (fun _ _ _ h => h) (Or.inl ⟨by rfl, ?_⟩) ?_ ?_
       rotate_left
       ·intro w'
        go_simp
        with_reducible rfl
       rotate_left
       ·simp only [Act.put, List.setIfInBounds_toArray, List.set_cons_zero, List.set_cons_succ, i64_w, i32_w]
        rfl
       refine take_ (i := 7) (N := some 27) (v := ?_) (a' := ?_) #[true, true, true, true, true, true, true, true, true, true, false, false, false] rfl rfl (take_ofW HT_.out HW_.out (by kernel_rfl)) (fun _ _ _ h => h) (Or.inl ⟨by rfl, ?_⟩) hHeld ?_ ?_
       rotate_left
       ·rintro w' ⟨s0, s1⟩
        go_simp
        with_reducible rfl
       rotate_left
       ·simp only [Act.put, List.setIfInBounds_toArray, List.set_cons_zero, List.set_cons_succ, i64_w, i32_w]
        rfl
       refine pure_ (i := 10) (N := some 30) (v := ?_) (a' := ?_) #[true, true, true, true, true, true, true, true, true, true, true, false, false] rfl rfl (any_of HT_.out (by kernel_rfl)) (fun _ _ _ h => h) (Or.inl ⟨by rfl, ?_⟩) ?_ ?_
       rotate_left
       ·intro w'
        go_simp
        with_reducible rfl
       rotate_left
       ·simp only [Act.put, List.setIfInBounds_toArray, List.set_cons_zero, List.set_cons_succ, i64_w, i32_w]
        rfl
       refine pure_ (i := 11) (N := some 31) (v := ?_) (a' := ?_) #[true, true, true, true, true, true, true, true, true, true, true, true, false] rfl rfl (any_of HT_.out (by kernel_rfl)) (fun _ _ _ h => h) (Or.inl ⟨by rfl, ?_⟩) ?_ ?_
       rotate_left
       ·intro w'
        go_simp
        with_reducible rfl
       rotate_left
       ·simp only [Act.put, List.setIfInBounds_toArray, List.set_cons_zero, List.set_cons_succ, i64_w, i32_w]
        rfl
       refine one_ (i := 12) (N := none) #[true, true, true, true, true, true, true, true, true, true, true, true, true] rfl rfl (one_of HT_.out (by kernel_rfl)) (by decide) (fun K hK => ?_)
       have hs35 : w33.cell? ⟨gb113, 0, none⟩ = some (.bool false) := (blk_cell BK113.out 0).trans rfl
       have hfs35 := blk_frozen BK113.out 0
       have hns35_0 := NB112_113.out
       have hms35_0 := NB113_112.out
       have hs36 : w33.cell? ⟨gb113, 1, none⟩ = some (.slice none 0 0) := (blk_cell BK113.out 1).trans rfl
       have hfs36 := blk_frozen BK113.out 1
       have hns36_0 := NB112_113.out
       have hms36_0 := NB113_112.out
       refine skip_ (w1 := ?_) (by rfl) rfl ?_ ?_
       rotate_left
       ·go_simp
        rfl
       refine hK.out _ _ ⟨((cell_far (p := ⟨gb113, _, none⟩) NB112_113.out _).trans (((cell_far (p := ⟨gb113, _, none⟩) NB112_113.out _).trans (hHeld.1)))), ((cell_far (p := ⟨gb113, _, none⟩) NB112_113.out _).trans (((cell_far (p := ⟨gb113, _, none⟩) NB112_113.out _).trans (hHeld.2))))⟩ (fun hHeld => ?_)
       clear hK K
       refine done_ (done_of HT_.out (by kernel_rfl)) ?_
       try go_wp2
       refine bodyPost_ret (results_cell_row rfl _ _ gb113 59 #[.bool false, .slice A0_1 y125.length (y125.length)] (0, 0) _ rfl (by (with_reducible repeat (first | refine blk_drewN ?_ _ | refine blk_drew ?_ | refine blk_alloc ?_ _)); refine blk_put (cs := #[.bool false, .slice none 0 0]) ?_ 1 _ rfl; (with_reducible repeat (first | refine blk_drewN ?_ _ | refine blk_drew ?_ | refine blk_alloc ?_ _)); refine blk_put (cs := #[.bool false, .slice none 0 0]) ?_ 0 _ rfl; (with_reducible repeat (first | refine blk_drewN ?_ _ | refine blk_drew ?_ | refine blk_alloc ?_ _)); exact BK113.out) Try.underlying59 rfl (by kernel_rfl)) rfl ?_
       exact ⟨_, by first | rfl | (simp [errW_none, errW_some] <;> rfl) | (simp [*, errW_none, errW_some] <;> rfl), by (with_reducible repeat (first | apply Kd.V_alloc | apply Kd.V_drewN | apply Kd.V_drew)); exact Kd.V_mono (Kd.V_far (p := ⟨gb113, 1, none⟩) (Kd.V_far (p := ⟨gb113, 0, none⟩) (Kd.V_mono HO129.out (fun k_ hk => (⟨hk, hk.2.2⟩ : _ ∧ k_ ≠ gb113))) (fun _ hk => hk.2) (.bool false)) (fun _ hk => hk.2) (.slice A0_1 y125.length (y125.length))) (fun _ hk => hk.1.1), by repeat (first | (with_reducible first | exact HB.out | apply below_alloc | apply pw_below_drewN | apply below_drew1 | refine below_set ?_ GE112.out | refine below_set ?_ GE113.out) | exact HB.out)⟩
      ·rw [if_neg c32] at H
       exact absurd H (by simp)
     ·rw [if_neg c31] at H
      exact absurd H (by simp)
    ·replace c30 := Bool.eq_false_iff.mpr c30
     subst c30
     have H1 : (if 0 ≤ x3_1 then (if x3_1 ≤ (l0_1.length : Int) then (some (false, (l0_1.take (x3_1 : Int).toNat))) else (none)) else (none)) = some (r1, r2) := by rw [if_neg (show ¬ (false = true) by decide)] at H; exact H
     clear H
     have H := H1
     clear H1
     by_cases c37 : 0 ≤ x3_1
     ·rw [if_pos c37] at H
      have c37b0 := eq_true c37
      have c37b1 : decide (0 ≤ x3_1) = true := decide_eq_true c37
      clear c37
      by_cases c38 : x3_1 ≤ (l0_1.length : Int)
      ·rw [if_pos c38] at H
       have c38b0 := eq_true c38
       have c38b1 : decide (x3_1 ≤ (l0_1.length : Int)) = true := decide_eq_true c38
       clear c38
       obtain ⟨y130, hy130⟩ : ∃ y_ : List Int, y_ = (l0_1.take (x3_1 : Int).toNat) := ⟨_, rfl⟩
       replace H : (some (false, y130)) = some (r1, r2) := by first | (rw [hy130]; with_reducible exact H) | (have H2_ := (Option.bind_some _ _).symm.trans H; rw [hy130]; with_reducible exact H2_) | (have H2_ := (Option.bind_some _ _).symm.trans H; with_reducible exact H2_) | with_reducible exact H | (rw [hy130]; exact H) | exact H
       have Ny130 := Aside0.mk hy130
       clear hy130
       simp only [Option.some.injEq, Prod.mk.injEq] at H
       obtain ⟨rfl, rfl⟩ := H
       try go_wp2
       have n0_ := Aside0.mk (Kd.V_drew HO_113001.out)
       have n1_ := Aside0.mk (blk_drew BK112.out)
       have n2_ := Aside0.mk (blk_drew BK113.out)
       have n3_ := Aside0.mk (below_drew1 HB.out)
       clear HO_113001
       clear BK112
       clear BK113
       clear HB
       have HO_113001 := n0_
       have BK112 := n1_
       have BK113 := n2_
       have HB := n3_
       clear n0_ n1_ n2_ n3_
       have q40 : (x3_1 : Int) ≤ ((l0_1.length : Int) : Int) := of_decide_eq_true aO
       obtain ⟨i040, hi040, _, hsz40, _⟩ := info_parts info63
       have hroom40 : l0_1.length ≤ c0_1 := (Kd.V_reads' HO_113001.out).2.1
       have hC40 : Kd.F (Kd.int .u64) _ _ A0_1 l0_1.length l0_1 := (Kd.V_at (base := w.heap.size) HO_113001.out).2.2
       have hcut40 := cut_to3 (P := Try.prog) 57 63 .i64 .i64 Try.underlying57 hi040 A0_1 l0_1.length c0_1 x3_1 (of_decide_eq_true aO) q40 hroom40
       have hr40 := Kd.F_take (m := (x3_1 : Int).toNat) hC40 (by omega)
       have hy40 : y130.length = (x3_1 : Int).toNat := (by rw [Ny130.out, List.length_take]; omega)
       rw [← Ny130.out] at hr40
       rw [← hy40] at hcut40
       have HO134 := Aside0.mk (show Kd.V (Kd.int .u64) 63 _ w.heap.size _ (.slice A0_1 y130.length y130.length) y130 from Kd.V_mk (by omega) hr40)
       have HC134 := Aside0.mk (show y130.length ≤ y130.length from by omega)
       clear hr40 hC40 hroom40 hi040 hsz40
       have KY40 := Aside0.mk hy40
       clear hy40
       replace q40 := eq_true q40
       refine start_ (n := 13) (S := fun w' => w'.cell? ⟨gb112, 0, none⟩ = some (.bool false) ∧ w'.cell? ⟨gb112, 1, none⟩ = some (.slice A0_1 l0_1.length c0_1)) (ds := []) #[false, false, false, false, false, false, false, false, false, false, false, false, false] (by kernel_rfl) rfl rfl ⟨(blk_cell BK112.out 0).trans rfl, (blk_cell BK112.out 1).trans rfl⟩ (fun hHeld => ?_); refine with_tabW tabardref01_Wide_trimmed.tab4 tabardref01_Wide_trimmed.bits4 (fun HT_ HW_ => ?_)
       generalize wr.drew = w39 at HO_113001 BK112 BK113 HB HO134 hHeld ⊢
       refine pure_ (i := 0) (N := some 20) (v := ?_) (a' := ?_) #[true, false, false, false, false, false, false, false, false, false, false, false, false] rfl rfl (any_of HT_.out (by kernel_rfl)) (fun _ _ _ h => h) (Or.inl ⟨by rfl, ?_⟩) ?_ ?_
       rotate_left
       ·intro w'
        go_simp
        with_reducible rfl
       rotate_left
       ·simp only [Act.put, List.setIfInBounds_toArray, List.set_cons_zero, List.set_cons_succ, i64_w, i32_w]
        rfl
       refine pure_ (i := 6) (N := some 26) (v := ?_) (a' := ?_) #[true, false, false, false, false, false, true, false, false, false, false, false, false] rfl rfl (any_of HT_.out (by kernel_rfl)) (fun _ _ _ h => h) (Or.inl ⟨by rfl, ?_⟩) ?_ ?_
       rotate_left
       ·intro w'
        go_simp
        with_reducible rfl
       rotate_left
       ·simp only [Act.put, List.setIfInBounds_toArray, List.set_cons_zero, List.set_cons_succ, i64_w, i32_w]
        rfl
       refine pure_ (i := 8) (N := some 28) (v := ?_) (a' := ?_) #[true, false, false, false, false, false, true, false, true, false, false, false, false] rfl rfl (any_of HT_.out (by kernel_rfl)) (fun _ _ _ h => h) (Or.inl ⟨by rfl, ?_⟩) ?_ ?_
       rotate_left
       ·intro w'
        go_simp
        with_reducible rfl
       rotate_left
       ·simp only [Act.put, List.setIfInBounds_toArray, List.set_cons_zero, List.set_cons_succ, i64_w, i32_w]
        rfl
       refine pure_ (i := 9) (N := some 29) (v := ?_) (a' := ?_) #[true, false, false, false, false, false, true, false, true, true, false, false, false] rfl rfl (any_of HT_.out (by kernel_rfl)) (fun _ _ _ h => h) (Or.inl ⟨by rfl, ?_⟩) ?_ ?_
       rotate_left
       ·intro w'
        go_simp
        with_reducible rfl
       rotate_left
       ·simp only [Act.put, List.setIfInBounds_toArray, List.set_cons_zero, List.set_cons_succ, i64_w, i32_w]
        rfl
       refine take_ (i := 1) (N := some 21) (v := ?_) (a' := ?_) #[true, true, false, false, false, false, true, false, true, true, false, false, false] rfl rfl (take_ofW HT_.out HW_.out (by kernel_rfl)) (fun _ _ _ h => h) (Or.inl ⟨by rfl, ?_⟩) hHeld ?_ ?_
       rotate_left
       ·rintro w' ⟨s0, s1⟩
        go_simp
        with_reducible rfl
       rotate_left
       ·simp only [Act.put, List.setIfInBounds_toArray, List.set_cons_zero, List.set_cons_succ, i64_w, i32_w]
        rfl
       refine pure_ (i := 2) (N := some 22) (v := ?_) (a' := ?_) #[true, true, true, false, false, false, true, false, true, true, false, false, false] rfl rfl (any_of HT_.out (by kernel_rfl)) (fun _ _ _ h => h) (Or.inl ⟨by rfl, ?_⟩) ?_ ?_
       rotate_left
       ·intro w'
        go_simp
        with_reducible rfl
       rotate_left
       ·simp only [Act.put, List.setIfInBounds_toArray, List.set_cons_zero, List.set_cons_succ, i64_w, i32_w]
        rfl
       refine pure_ (i := 3) (N := some 23) (v := undef) (a' := ?_) #[true, true, true, true, false, false, true, false, true, true, false, false, false] rfl rfl (any_of HT_.out (by kernel_rfl)) (fun _ _ _ h => h) (Or.inr ⟨by rfl, rfl⟩) ?_ ?_
       rotate_left
       ·simp only [Act.put, List.setIfInBounds_toArray, List.set_cons_zero, List.set_cons_succ, i64_w, i32_w]
        rfl
       refine pure_ (i := 4) (N := some 24) (v := undef) (a' := ?_) #[true, true, true, true, true, false, true, false, true, true, false, false, false] rfl rfl (any_of HT_.out (by kernel_rfl)) (fun _ _ _ h => h) (Or.inr ⟨by rfl, rfl⟩) ?_ ?_
       rotate_left
       ·simp only [Act.put, List.setIfInBounds_toArray, List.set_cons_zero, List.set_cons_succ, i64_w, i32_w]
        rfl
       refine pure_ (i := 5) (N := some 25) (v := ?_) (a' := ?_) #[true, true, true, true, true, true, true, false, true, true, false, false, false] rfl rfl (any_of HT_.out (by kernel_rfl)) (fun _ _ _ h => h) (Or.inl ⟨by rfl, ?_⟩) ?_ ?_
       rotate_left
       ·intro w'
        go_simp
        with_reducible rfl
       rotate_left
       ·simp only [Act.put, List.setIfInBounds_toArray, List.set_cons_zero, List.set_cons_succ, i64_w, i32_w]
        rfl
       refine take_ (i := 7) (N := some 27) (v := ?_) (a' := ?_) #[true, true, true, true, true, true, true, true, true, true, false, false, false] rfl rfl (take_ofW HT_.out HW_.out (by kernel_rfl)) (fun _ _ _ h => h) (Or.inl ⟨by rfl, ?_⟩) hHeld ?_ ?_
       rotate_left
       ·rintro w' ⟨s0, s1⟩
        go_simp
        with_reducible rfl
       rotate_left
       ·simp only [Act.put, List.setIfInBounds_toArray, List.set_cons_zero, List.set_cons_succ, i64_w, i32_w]
        rfl
       refine pure_ (i := 10) (N := some 30) (v := ?_) (a' := ?_) #[true, true, true, true, true, true, true, true, true, true, true, false, false] rfl rfl (any_of HT_.out (by kernel_rfl)) (fun _ _ _ h => h) (Or.inl ⟨by rfl, ?_⟩) ?_ ?_
       rotate_left
       ·intro w'
        go_simp
        with_reducible rfl
       rotate_left
       ·simp only [Act.put, List.setIfInBounds_toArray, List.set_cons_zero, List.set_cons_succ, i64_w, i32_w]
        rfl
       refine pure_ (i := 11) (N := some 31) (v := ?_) (a' := ?_) #[true, true, true, true, true, true, true, true, true, true, true, true, false] rfl rfl (any_of HT_.out (by kernel_rfl)) (fun _ _ _ h => h) (Or.inl ⟨by rfl, ?_⟩) ?_ ?_
       rotate_left
       ·intro w'
        go_simp
        with_reducible rfl
       rotate_left
       ·simp only [Act.put, List.setIfInBounds_toArray, List.set_cons_zero, List.set_cons_succ, i64_w, i32_w]
        rfl
       refine one_ (i := 12) (N := none) #[true, true, true, true, true, true, true, true, true, true, true, true, true] rfl rfl (one_of HT_.out (by kernel_rfl)) (by decide) (fun K hK => ?_)
       have hs41 : w39.cell? ⟨gb113, 0, none⟩ = some (.bool false) := (blk_cell BK113.out 0).trans rfl
       have hfs41 := blk_frozen BK113.out 0
       have hns41_0 := NB112_113.out
       have hms41_0 := NB113_112.out
       have hs42 : w39.cell? ⟨gb113, 1, none⟩ = some (.slice none 0 0) := (blk_cell BK113.out 1).trans rfl
       have hfs42 := blk_frozen BK113.out 1
       have hns42_0 := NB112_113.out
       have hms42_0 := NB113_112.out
       refine skip_ (w1 := ?_) (by rfl) rfl ?_ ?_
       rotate_left
       ·go_simp
        rfl
       refine hK.out _ _ ⟨((cell_far (p := ⟨gb113, _, none⟩) NB112_113.out _).trans (((cell_far (p := ⟨gb113, _, none⟩) NB112_113.out _).trans (hHeld.1)))), ((cell_far (p := ⟨gb113, _, none⟩) NB112_113.out _).trans (((cell_far (p := ⟨gb113, _, none⟩) NB112_113.out _).trans (hHeld.2))))⟩ (fun hHeld => ?_)
       clear hK K
       refine done_ (done_of HT_.out (by kernel_rfl)) ?_
       try go_wp2
       refine bodyPost_ret (results_cell_row rfl _ _ gb113 59 #[.bool false, .slice A0_1 y130.length (y130.length)] (0, 0) _ rfl (by (with_reducible repeat (first | refine blk_drewN ?_ _ | refine blk_drew ?_ | refine blk_alloc ?_ _)); refine blk_put (cs := #[.bool false, .slice none 0 0]) ?_ 1 _ rfl; (with_reducible repeat (first | refine blk_drewN ?_ _ | refine blk_drew ?_ | refine blk_alloc ?_ _)); refine blk_put (cs := #[.bool false, .slice none 0 0]) ?_ 0 _ rfl; (with_reducible repeat (first | refine blk_drewN ?_ _ | refine blk_drew ?_ | refine blk_alloc ?_ _)); exact BK113.out) Try.underlying59 rfl (by kernel_rfl)) rfl ?_
       exact ⟨_, by first | rfl | (simp [errW_none, errW_some] <;> rfl) | (simp [*, errW_none, errW_some] <;> rfl), by (with_reducible repeat (first | apply Kd.V_alloc | apply Kd.V_drewN | apply Kd.V_drew)); exact Kd.V_mono (Kd.V_far (p := ⟨gb113, 1, none⟩) (Kd.V_far (p := ⟨gb113, 0, none⟩) (Kd.V_mono HO134.out (fun k_ hk => (⟨hk, hk.2.2⟩ : _ ∧ k_ ≠ gb113))) (fun _ hk => hk.2) (.bool false)) (fun _ hk => hk.2) (.slice A0_1 y130.length (y130.length))) (fun _ hk => hk.1.1), by repeat (first | (with_reducible first | exact HB.out | apply below_alloc | apply pw_below_drewN | apply below_drew1 | refine below_set ?_ GE112.out | refine below_set ?_ GE113.out) | exact HB.out)⟩
      ·rw [if_neg c38] at H
       exact absurd H (by simp)
     ·rw [if_neg c37] at H
      exact absurd H (by simp)

end Go.Proofs.Ytolacbnkebbjiaa.X

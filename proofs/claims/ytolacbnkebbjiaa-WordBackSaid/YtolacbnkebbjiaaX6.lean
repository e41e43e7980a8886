/- What the functions of this seat compute, and that the program's calls come to just that: written by this session's own program out of the translation; no condition. -/
import Derived.Test.YtolacbnkebbjiaaX0
import Derived.Test.YtolacbnkebbjiaaX4
namespace Go.Proofs.Ytolacbnkebbjiaa.X
open Go.RowKit Go.Proofs.YtolacbnkebbjiaaW.PrintWords Go.Proofs.YtolacbnkebbjiaaW.PrintLast Go.Proofs.YtolacbnkebbjiaaW.PrintMore
attribute [local go_sem] max2_int min2_int max_two min_two max_three min_three max_four min_four   -- for this text's walks alone
set_option linter.unusedVariables false
set_option linter.unusedSimpArgs false

/-! ### tabardref01_plus: function 53 -/
mutual
def tabardref01_plus.l0 : Nat → List Int → Int → Int → Bool → List Int → Bool → List Int → Option (List Int)
 | 0, _, _, _, _, _, _, _ => none
 | k + 1, x5, x6, x7, x159000, x159001, x160000, x160001 => if x7 < (mx (x159001.length : Int) (x160001.length : Int)) then (tabardref01_plus.j1 k x5 x6 x7 true x159000 x159001 x160000 x160001) else (tabardref01_plus.j1 k x5 x6 x7 (decide (x6 > 0)) x159000 x159001 x160000 x160001)
def tabardref01_plus.j1 : Nat → List Int → Int → Int → Bool → Bool → List Int → Bool → List Int → Option (List Int)
 | 0, _, _, _, _, _, _, _, _ => none
 | k + 1, x5, x6, x7, x21, x159000, x159001, x160000, x160001 => if x21 = true then ((tabardref01_Wide_digit.f x159000 x159001 x7).bind fun t160 => ((tabardref01_Wide_digit.f x160000 x160001 x7).bind fun t161 => (if x5.length < 17592186044416 then (tabardref01_plus.l0 k (x5 ++ [Go.bits .and .u64 (IntKind.u64.wrap ((IntKind.u64.wrap (t160 + t161)) + x6)) 65535]) ((IntKind.u64.wrap ((IntKind.u64.wrap (t160 + t161)) + x6)) / 65536) (wrap64 (x7 + 1)) x159000 x159001 x160000 x160001) else (none)))) else (some x5)
end
def tabardref01_plus.f (k : Nat) (a0_0 : Bool) (l0_1 : List Int) (a1_0 : Bool) (l1_1 : List Int) : Option (List Int) := tabardref01_plus.l0 k ([] : List Int) 0 0 a0_0 l0_1 a1_0 l1_1
theorem tabardref01_plus.mono_l : ∀ k, (∀ y0 y1 y2 y3 y4 y5 y6, LeO (tabardref01_plus.l0 k y0 y1 y2 y3 y4 y5 y6) (tabardref01_plus.l0 (k + 1) y0 y1 y2 y3 y4 y5 y6)) ∧ (∀ y0 y1 y2 y3 y4 y5 y6 y7, LeO (tabardref01_plus.j1 k y0 y1 y2 y3 y4 y5 y6 y7) (tabardref01_plus.j1 (k + 1) y0 y1 y2 y3 y4 y5 y6 y7))
 | 0 => ⟨fun _ _ _ _ _ _ _ r h => by simp [tabardref01_plus.l0] at h, fun _ _ _ _ _ _ _ _ r h => by simp [tabardref01_plus.j1] at h⟩
 | k + 1 => by
  obtain ⟨ih0, ih1⟩ := tabardref01_plus.mono_l k
  refine ⟨?_, ?_⟩
  ·intro y0 y1 y2 y3 y4 y5 y6
   unfold tabardref01_plus.l0
   repeat' first
   | (with_reducible exact ih0 _ _ _ _ _ _ _)
   | (with_reducible exact ih1 _ _ _ _ _ _ _ _)
   | (with_reducible exact LeO.refl _)
   | (with_reducible exact LeO.none _)
   | (with_reducible refine LeO.ite ?_ ?_)
   | (with_reducible refine LeO.bind ?_ (fun _ => ?_))
   | exact ih0 _ _ _ _ _ _ _
   | exact ih1 _ _ _ _ _ _ _ _
   | exact LeO.none _
   | refine LeO.ite ?_ ?_
   | refine LeO.bind ?_ (fun _ => ?_)
  ·intro y0 y1 y2 y3 y4 y5 y6 y7
   unfold tabardref01_plus.j1
   repeat' first
   | (with_reducible exact ih0 _ _ _ _ _ _ _)
   | (with_reducible exact ih1 _ _ _ _ _ _ _ _)
   | (with_reducible exact LeO.refl _)
   | (with_reducible exact LeO.none _)
   | (with_reducible refine LeO.ite ?_ ?_)
   | (with_reducible refine LeO.bind ?_ (fun _ => ?_))
   | exact ih0 _ _ _ _ _ _ _
   | exact ih1 _ _ _ _ _ _ _ _
   | exact LeO.none _
   | refine LeO.ite ?_ ?_
   | refine LeO.bind ?_ (fun _ => ?_)
theorem tabardref01_plus.mono : ∀ a0 a1 a2 a3 k, LeO (tabardref01_plus.f k a0 a1 a2 a3) (tabardref01_plus.f (k + 1) a0 a1 a2 a3) := by
 intro a0 a1 a2 a3 k
 obtain ⟨ih0, ih1⟩ := tabardref01_plus.mono_l k
 unfold tabardref01_plus.f
 repeat' first
   | (with_reducible exact ih0 _ _ _ _ _ _ _)
   | (with_reducible exact ih1 _ _ _ _ _ _ _ _)
   | (with_reducible exact LeO.refl _)
   | (with_reducible exact LeO.none _)
   | (with_reducible refine LeO.ite ?_ ?_)
   | (with_reducible refine LeO.bind ?_ (fun _ => ?_))
   | exact ih0 _ _ _ _ _ _ _
   | exact ih1 _ _ _ _ _ _ _ _
   | exact LeO.none _
   | refine LeO.ite ?_ ?_
   | refine LeO.bind ?_ (fun _ => ?_)
def tabardref01_plus.T6 : Bool × List (List Nat × List Nat) := (true, [([], []), ([], []), ([0, 1], [0, 1]), ([], []), ([], []), ([3, 4, 2], [3, 4]), ([2, 5], [2, 5]), ([], []), ([6, 7], [6, 7]), ([8, 5, 0, 1, 2, 3, 4, 5, 6, 7, 8], [8])])
def tabardref01_plus.B6 : List Nat := [0, 0, 3, 0, 0, 31, 63, 0, 255, 511]
theorem tabardref01_plus.tab6 : rtab .any (opsOf Try.f53 6) = tabardref01_plus.T6 := by kernel_rfl
theorem tabardref01_plus.bits6 : waitsOk tabardref01_plus.T6.2 tabardref01_plus.B6 = true := by kernel_rfl
set_option maxHeartbeats 8000000 in
set_option maxRecDepth 100000 in
theorem tabardref01_plus.calls (k : Nat) (a0_0 : Bool) (A0_1 : Option Addr) (c0_1 : Nat) (l0_1 : List Int) (a1_0 : Bool) (A1_1 : Option Addr) (c1_1 : Nat) (l1_1 : List Int) (r : List Int) (w : World) (hr0_1 : Kd.C (Kd.int .u64) w A0_1 l0_1.length l0_1) (hc0_1 : l0_1.length ≤ c0_1) (hr1_1 : Kd.C (Kd.int .u64) w A1_1 l1_1.length l1_1) (hc1_1 : l1_1.length ≤ c1_1) (h : tabardref01_plus.f k a0_0 l0_1 a1_0 l1_1 = some r) :
  Calls Try.prog 53 #[.agg #[.bool a0_0, .slice A0_1 l0_1.length c0_1], .agg #[.bool a1_0, .slice A1_1 l1_1.length c1_1]] w fun e w' => ∃ v0_ : Value, e = .returned (v0_) ∧ Kd.R (Kd.int .u64) 63 w' w.heap.size (fun _ => True) v0_ r ∧ Below w.heap.size w w' := by
 have hu59 := Try.underlying59
 have HR0_1 := Aside0.mk hr0_1
 have HC0_1 := Aside0.mk hc0_1
 clear hr0_1 hc0_1
 have HR1_1 := Aside0.mk hr1_1
 have HC1_1 := Aside0.mk hc1_1
 clear hr1_1 hc1_1
 have HB := Aside0.mk (Below.refl w.heap.size w)
 have H : (tabardref01_plus.l0 k ([] : List Int) 0 0 a0_0 l0_1 a1_0 l1_1) = some r := h
 clear h
 have H' := Aside0.mk H
 clear H
 go_enter Try.func53, Try.ntmps53
 go_wp2_with (first | ((with_reducible refine gate_dst (N := 2) rfl ?_); refine box_event ?hg (N := 2) ?hd (cs := #[.bool a0_0, .slice A0_1 l0_1.length c0_1]) (t := 59) ?hr ?_; (case hd => rfl); (case hg => rfl); (case hr => first | (go_simp; done) | (go_simp; rfl)); intro gb158 hg w3 hbox hb; have n0_ := Aside0.mk (below_step (bO HB.out) hb); have n1_ := Aside0.mk (hbox); have n2_ := Aside0.mk ((by rw [hg]; exact (below_size (bO HB.out)) : w.heap.size ≤ gb158)); have n3_ := Aside0.mk ((by rw [hg]; exact (below_size (bO HB.out)) : w.heap.size ≤ gb158)); clear HB; have HB := n0_; have BK158 := n1_; have GW158 := n2_; have GE158 := n3_; clear n0_ n1_ n2_ n3_; clear hb hbox hg) | ((with_reducible refine gate_dst (N := 3) rfl ?_); refine box_event ?hg (N := 3) ?hd (cs := #[.bool a1_0, .slice A1_1 l1_1.length c1_1]) (t := 59) ?hr ?_; (case hd => rfl); (case hg => rfl); (case hr => first | (go_simp; done) | (go_simp; rfl)); intro gb159 hg w4 hbox hb; have n0_ := Aside0.mk (blk_below (g := gb158) (o := .cells #[.bool a0_0, .slice A0_1 l0_1.length c0_1] 59 (0, 0)) (kO BK158.out) hb); have n1_ := Aside0.mk (below_step (by repeat (first | (with_reducible first | exact HB.out | apply below_alloc | apply pw_below_drewN | apply below_drew1 | refine below_set ?_ GE158.out) | exact HB.out)) hb); have n2_ := Aside0.mk (hbox); have n3_ := Aside0.mk ((by rw [hg]; exact (below_size (by repeat (first | (with_reducible first | exact HB.out | apply below_alloc | apply pw_below_drewN | apply below_drew1 | refine below_set ?_ GE158.out) | exact HB.out))) : w.heap.size ≤ gb159)); have n4_ := Aside0.mk ((by rw [hg]; exact (below_size (by repeat (first | (with_reducible first | exact HB.out | apply below_alloc | apply pw_below_drewN | apply below_drew1 | refine below_set ?_ GE158.out) | exact HB.out))) : w.heap.size ≤ gb159)); have n5_ := Aside0.mk ((by rw [hg]; exact Nat.ne_of_lt (blk_lt (g := gb158) (o := .cells #[.bool a0_0, .slice A0_1 l0_1.length c0_1] 59 (0, 0)) (kO BK158.out)) : gb158 ≠ gb159)); have n6_ := Aside0.mk ((by rw [hg]; exact Nat.ne_of_gt (blk_lt (g := gb158) (o := .cells #[.bool a0_0, .slice A0_1 l0_1.length c0_1] 59 (0, 0)) (kO BK158.out)) : gb159 ≠ gb158)); clear BK158; clear HB; have BK158 := n0_; have HB := n1_; have BK159 := n2_; have GW159 := n3_; have GE159 := n4_; have NB158_159 := n5_; have NB159_158 := n6_; clear n0_ n1_ n2_ n3_ n4_ n5_ n6_; clear hb hbox hg))
 go_loopg [5, 6, 7] k (fun kq v5 v6 v7 w' => ∃ (x5_1 : List Int) (x6_1 : Int) (x7_1 : Int), v6 = .int .u64 x6_1 ∧ v7 = .int .i64 x7_1 ∧ Aside0 (tabardref01_plus.l0 kq x5_1 x6_1 x7_1 a0_0 l0_1 a1_0 l1_1 = some r) ∧ Aside0 (kq ≤ k) ∧ Aside0 (Kd.R (Kd.int .u64) 63 w' w.heap.size (fun _ => True) v5 x5_1) ∧ Aside0 (w'.heap[gb158]? = some (.cells #[.bool a0_0, (.slice A0_1 l0_1.length c0_1)] 59 (0, 0))) ∧ Aside0 (w'.heap[gb159]? = some (.cells #[.bool a1_0, (.slice A1_1 l1_1.length c1_1)] 59 (0, 0))) ∧ Aside0 (Below w.heap.size w w'))
 case atStart => exact ⟨(([] : List Int)), (0), (0), (by first | rfl | (simp; done) | (simp [*]; done)), (by first | rfl | (simp; done) | (simp [*]; done)), H', ⟨Nat.le_refl _⟩, ⟨by first | exact Kd.R_nil _ _ _ _ _ | exact Kd.N_nil _ _ _ _ _ | exact Kd.V_nil _ _ _ _ _ | exact Kd.Q_nil _ _ _ _ _ | exact Kd.S_nil _ _ _ _ _⟩, ⟨kO BK158.out⟩, ⟨kO BK159.out⟩, ⟨by repeat (first | (with_reducible first | exact HB.out | apply below_alloc | apply pw_below_drewN | apply below_drew1 | refine below_set ?_ GE158.out | refine below_set ?_ GE159.out) | exact HB.out)⟩⟩
 case round =>
  clear H'
  try clear c1
  try clear p2
  obtain ⟨x5_1, x6_1, x7_1, rfl, rfl, HA, HK1, HO_5, BK158, BK159, HB⟩ := hrel
  cases gk with
  | zero => exact absurd HA.out (by simp [tabardref01_plus.l0])
  | succ k1 =>
   have H := HA.out
   clear HA
   simp only [tabardref01_plus.l0] at H
   have HC5 := Aside0.mk H
   clear H
   go_upto_region 4 with (fail)
   go_cut [21] (fun v21 wc => ∃ (kq : Nat) (x21_4 : Bool), v21 = .bool x21_4 ∧ Aside0 (tabardref01_plus.j1 kq x5_1 x6_1 x7_1 x21_4 a0_0 l0_1 a1_0 l1_1 = some r) ∧ Aside0 (kq ≤ k1) ∧ Aside0 (Kd.R (Kd.int .u64) 63 wc w.heap.size (fun _ => True) u5 x5_1) ∧ Aside0 (wc.heap[gb158]? = some (.cells #[.bool a0_0, (.slice A0_1 l0_1.length c0_1)] 59 (0, 0))) ∧ Aside0 (wc.heap[gb159]? = some (.cells #[.bool a1_0, (.slice A1_1 l1_1.length c1_1)] 59 (0, 0))) ∧ Aside0 (Below w.heap.size w wc))
   case first =>
    have H := HC5.out
    clear HC5
    obtain ⟨ji6, hji6⟩ : ∃ j_ : Int, (mx (l0_1.length : Int) (l1_1.length : Int)) = j_ := ⟨_, rfl⟩
    replace H : (if x7_1 < (ji6) then (tabardref01_plus.j1 k1 x5_1 x6_1 x7_1 true a0_0 l0_1 a1_0 l1_1) else (tabardref01_plus.j1 k1 x5_1 x6_1 x7_1 (decide (x6_1 > 0)) a0_0 l0_1 a1_0 l1_1)) = some r := by first | (rw [hji6] at H; exact H) | (simp only [hji6] at H ⊢; exact H)
    (try (have hji6l : 0 ≤ ji6 := by (rw [← hji6]; unfold mx; (repeat' split) <;> omega)))
    (try (have hji6m : 0 ≤ ji6 := by omega))
    have hji6_ : (if (l0_1.length : Int) < (l1_1.length : Int) then (l1_1.length : Int) else (l0_1.length : Int)) = ji6 := hji6
    (try (have hji6_n : (if l0_1.length < l1_1.length then (l1_1.length : Int) else (l0_1.length : Int)) = ji6 := by rw [← hji6_]; simp only [Int.ofNat_lt]))
    by_cases c7 : x7_1 < (ji6)
    ·rw [if_pos c7] at H
     have c7b0 : decide (x7_1 < (ji6)) = true := decide_eq_true c7
     clear c7
     (first | rw [c7b0] | (simp only [i64_w, i32_w]; rw [c7b0]) | skip)
     have H' := Aside0.mk H
     clear H
     have hnb8 := NB158_159.out
     have hnc8 := NB159_158.out
     have hcz9_0 : wr.cell? ⟨gb158, 0, none⟩ = some (.bool a0_0) := (blk_cell BK158.out 0).trans rfl
     have hcz9_1 : wr.cell? ⟨gb158, 1, none⟩ = some (.slice A0_1 l0_1.length c0_1) := (blk_cell BK158.out 1).trans rfl
     have hfz9_0 := blk_frozen BK158.out 0
     have hfz9_1 := blk_frozen BK158.out 1
     have hcz10_0 : wr.cell? ⟨gb159, 0, none⟩ = some (.bool a1_0) := (blk_cell BK159.out 0).trans rfl
     have hcz10_1 : wr.cell? ⟨gb159, 1, none⟩ = some (.slice A1_1 l1_1.length c1_1) := (blk_cell BK159.out 1).trans rfl
     have hfz10_0 := blk_frozen BK159.out 0
     have hfz10_1 := blk_frozen BK159.out 1
     go_wp2
     go_meet
     case rel => exact ⟨_, (true), (by first | rfl | (simp; done) | (simp [*]; done)), H', ⟨by have := HK1.out; first | omega | exact Nat.le_refl _⟩, ⟨rO HO_5.out⟩, ⟨kO BK158.out⟩, ⟨kO BK159.out⟩, ⟨by repeat (first | (with_reducible first | exact HB.out | apply below_alloc | apply pw_below_drewN | apply below_drew1 | refine below_set ?_ GE158.out | refine below_set ?_ GE159.out) | exact HB.out)⟩⟩
    ·rw [if_neg c7] at H
     have c7b0 : decide (x7_1 < (ji6)) = false := decide_eq_false c7
     clear c7
     (first | rw [c7b0] | (simp only [i64_w, i32_w]; rw [c7b0]) | skip)
     have H' := Aside0.mk H
     clear H
     have hnb11 := NB158_159.out
     have hnc11 := NB159_158.out
     have hcz12_0 : wr.cell? ⟨gb158, 0, none⟩ = some (.bool a0_0) := (blk_cell BK158.out 0).trans rfl
     have hcz12_1 : wr.cell? ⟨gb158, 1, none⟩ = some (.slice A0_1 l0_1.length c0_1) := (blk_cell BK158.out 1).trans rfl
     have hfz12_0 := blk_frozen BK158.out 0
     have hfz12_1 := blk_frozen BK158.out 1
     have hcz13_0 : wr.cell? ⟨gb159, 0, none⟩ = some (.bool a1_0) := (blk_cell BK159.out 0).trans rfl
     have hcz13_1 : wr.cell? ⟨gb159, 1, none⟩ = some (.slice A1_1 l1_1.length c1_1) := (blk_cell BK159.out 1).trans rfl
     have hfz13_0 := blk_frozen BK159.out 0
     have hfz13_1 := blk_frozen BK159.out 1
     go_wp2
     go_meet
     case rel => exact ⟨_, (decide (x6_1 > 0)), (by first | rfl | (simp; done) | (simp [*]; done)), H', ⟨by have := HK1.out; first | omega | exact Nat.le_refl _⟩, ⟨rO HO_5.out⟩, ⟨kO BK158.out⟩, ⟨kO BK159.out⟩, ⟨by repeat (first | (with_reducible first | exact HB.out | apply below_alloc | apply pw_below_drewN | apply below_drew1 | refine below_set ?_ GE158.out | refine below_set ?_ GE159.out) | exact HB.out)⟩⟩
   case rest =>
    clear HC5
    try clear c1
    try clear p2
    try clear c5
    try clear c7
    try clear c7b0
    try clear c8
    try clear c11
    try clear hcz10_0
    try clear hcz10_1
    try clear hcz12_0
    try clear hcz12_1
    try clear hcz13_0
    try clear hcz13_1
    try clear hcz9_0
    try clear hcz9_1
    try clear hfz10_0
    try clear hfz10_1
    try clear hfz12_0
    try clear hfz12_1
    try clear hfz13_0
    try clear hfz13_1
    try clear hfz9_0
    try clear hfz9_1
    try clear p2
    obtain ⟨kq, x21_4, rfl, HA, HJ4, HO_5, BK158, BK159, HB⟩ := hcut
    cases kq with
    | zero => exact absurd HA.out (by simp [tabardref01_plus.j1])
    | succ kj4 =>
     have H := HA.out
     clear HA
     simp only [tabardref01_plus.j1] at H
     by_cases c14 : x21_4 = true
     ·subst c14
      have H1 : ((tabardref01_Wide_digit.f a0_0 l0_1 x7_1).bind fun t160 => ((tabardref01_Wide_digit.f a1_0 l1_1 x7_1).bind fun t161 => (if x5_1.length < 17592186044416 then (tabardref01_plus.l0 kj4 (x5_1 ++ [Go.bits .and .u64 (IntKind.u64.wrap ((IntKind.u64.wrap (t160 + t161)) + x6_1)) 65535]) ((IntKind.u64.wrap ((IntKind.u64.wrap (t160 + t161)) + x6_1)) / 65536) (wrap64 (x7_1 + 1)) a0_0 l0_1 a1_0 l1_1) else (none)))) = some r := by rw [if_pos rfl] at H; exact H
      clear H
      have H := H1
      clear H1
      replace H := Option.bind_eq_some_iff.mp H
      obtain ⟨t160, A150, H⟩ := H
      replace H : ((tabardref01_Wide_digit.f a1_0 l1_1 x7_1).bind fun t161 => (if x5_1.length < 17592186044416 then (tabardref01_plus.l0 kj4 (x5_1 ++ [Go.bits .and .u64 (IntKind.u64.wrap ((IntKind.u64.wrap (t160 + t161)) + x6_1)) 65535]) ((IntKind.u64.wrap ((IntKind.u64.wrap (t160 + t161)) + x6_1)) / 65536) (wrap64 (x7_1 + 1)) a0_0 l0_1 a1_0 l1_1) else (none))) = some r := H
      have A15 := Aside0.mk A150
      clear A150
      replace H := Option.bind_eq_some_iff.mp H
      obtain ⟨t161, A160, H⟩ := H
      replace H : (if x5_1.length < 17592186044416 then (tabardref01_plus.l0 kj4 (x5_1 ++ [Go.bits .and .u64 (IntKind.u64.wrap ((IntKind.u64.wrap (t160 + t161)) + x6_1)) 65535]) ((IntKind.u64.wrap ((IntKind.u64.wrap (t160 + t161)) + x6_1)) / 65536) (wrap64 (x7_1 + 1)) a0_0 l0_1 a1_0 l1_1) else (none)) = some r := H
      have A16 := Aside0.mk A160
      clear A160
      by_cases c17 : x5_1.length < 17592186044416
      ·rw [if_pos c17] at H
       have LMc17 := Aside0.mk c17
       clear c17
       obtain ⟨y162, hy162⟩ : ∃ y_ : List Int, y_ = (x5_1 ++ [Go.bits .and .u64 (IntKind.u64.wrap ((IntKind.u64.wrap (t160 + t161)) + x6_1)) 65535]) := ⟨_, rfl⟩
       replace H : (tabardref01_plus.l0 kj4 y162 ((IntKind.u64.wrap ((IntKind.u64.wrap (t160 + t161)) + x6_1)) / 65536) (wrap64 (x7_1 + 1)) a0_0 l0_1 a1_0 l1_1) = some r := by first | (rw [hy162]; with_reducible exact H) | (have H2_ := (Option.bind_some _ _).symm.trans H; rw [hy162]; with_reducible exact H2_) | (have H2_ := (Option.bind_some _ _).symm.trans H; with_reducible exact H2_) | with_reducible exact H | (rw [hy162]; exact H) | exact H
       have Ny162 := Aside0.mk hy162
       clear hy162
       have H' := Aside0.mk H
       clear H
       try go_wp2
       have n0_ := Aside0.mk (Kd.R_drew HO_5.out)
       have n1_ := Aside0.mk (blk_drew BK158.out)
       have n2_ := Aside0.mk (blk_drew BK159.out)
       have n3_ := Aside0.mk (below_drew1 HB.out)
       clear HO_5
       clear BK158
       clear BK159
       clear HB
       have HO_5 := n0_
       have BK158 := n1_
       have BK159 := n2_
       have HB := n3_
       clear n0_ n1_ n2_ n3_
       refine start_ (n := 10) (S := fun w' => w'.cell? ⟨gb158, 0, none⟩ = some (.bool a0_0) ∧ w'.cell? ⟨gb158, 1, none⟩ = some (.slice A0_1 l0_1.length c0_1) ∧ w'.cell? ⟨gb159, 0, none⟩ = some (.bool a1_0) ∧ w'.cell? ⟨gb159, 1, none⟩ = some (.slice A1_1 l1_1.length c1_1)) (ds := []) #[false, false, false, false, false, false, false, false, false, false] (by kernel_rfl) rfl rfl ⟨(blk_cell BK158.out 0).trans rfl, (blk_cell BK158.out 1).trans rfl, (blk_cell BK159.out 0).trans rfl, (blk_cell BK159.out 1).trans rfl⟩ (fun hHeld => ?_); refine with_tabW tabardref01_plus.tab6 tabardref01_plus.bits6 (fun HT_ HW_ => ?_)
       generalize wc.drew = w18 at HO_5 BK158 BK159 HB hHeld ⊢
       refine pure_ (i := 1) (N := some 25) (v := ?_) (a' := ?_) #[false, true, false, false, false, false, false, false, false, false] rfl rfl (any_of HT_.out (by kernel_rfl)) (fun _ _ _ h => h) (Or.inl ⟨by rfl, ?_⟩) ?_ ?_
       rotate_left
       ·intro w'
        go_simp
        with_reducible rfl
       rotate_left
       ·simp only [Act.put, List.setIfInBounds_toArray, List.set_cons_zero, List.set_cons_succ, i64_w, i32_w]
        rfl
       refine pure_ (i := 4) (N := some 28) (v := ?_) (a' := ?_) #[false, true, false, false, true, false, false, false, false, false] rfl rfl (any_of HT_.out (by kernel_rfl)) (fun _ _ _ h => h) (Or.inl ⟨by rfl, ?_⟩) ?_ ?_
       rotate_left
       ·intro w'
        go_simp
        with_reducible rfl
       rotate_left
       ·simp only [Act.put, List.setIfInBounds_toArray, List.set_cons_zero, List.set_cons_succ, i64_w, i32_w]
        rfl
       refine pure_ (i := 7) (N := some 31) (v := ?_) (a' := ?_) #[false, true, false, false, true, false, false, true, false, false] rfl rfl (any_of HT_.out (by kernel_rfl)) (fun _ _ _ h => h) (Or.inl ⟨by rfl, ?_⟩) ?_ ?_
       rotate_left
       ·intro w'
        go_simp
        with_reducible rfl
       rotate_left
       ·simp only [Act.put, List.setIfInBounds_toArray, List.set_cons_zero, List.set_cons_succ, i64_w, i32_w]
        rfl
       refine take_ (i := 0) (N := some 24) (v := ?_) (a' := ?_) #[true, true, false, false, true, false, false, true, false, false] rfl rfl (take_ofW HT_.out HW_.out (by kernel_rfl)) (fun _ _ _ h => h) (Or.inl ⟨by rfl, ?_⟩) hHeld ?_ ?_
       rotate_left
       ·rintro w' ⟨s0, s1, s2, s3⟩
        go_simp
        with_reducible rfl
       rotate_left
       ·simp only [Act.put, List.setIfInBounds_toArray, List.set_cons_zero, List.set_cons_succ, i64_w, i32_w]
        rfl
       refine take_ (i := 3) (N := some 27) (v := ?_) (a' := ?_) #[true, true, false, true, true, false, false, true, false, false] rfl rfl (take_ofW HT_.out HW_.out (by kernel_rfl)) (fun _ _ _ h => h) (Or.inl ⟨by rfl, ?_⟩) hHeld ?_ ?_
       rotate_left
       ·rintro w' ⟨s0, s1, s2, s3⟩
        go_simp
        with_reducible rfl
       rotate_left
       ·simp only [Act.put, List.setIfInBounds_toArray, List.set_cons_zero, List.set_cons_succ, i64_w, i32_w]
        rfl
       refine one_ (i := 2) (N := some 26) #[true, true, true, true, true, false, false, true, false, false] rfl rfl (one_of HT_.out (by kernel_rfl)) (by decide) (fun K hK => ?_)
       refine goes_ Try.func47 (by kernel_rfl) rfl #[.agg #[.bool a0_0, .slice A0_1 l0_1.length c0_1], .int .i64 x7_1] (by rfl) rfl rfl mO ?_
       with_reducible refine (tabardref01_Wide_digit.calls a0_0 _ _ l0_1 x7_1 t160 _ ?side1 ?side2 A15.out).mono ?_
       (case side1 => exact cO (Kd.C_below HR0_1.out HB.out))
       (case side2 => exact HC0_1.out)
       rintro e w19 ⟨rfl, hb⟩
       refine ⟨_, rfl, ?_⟩
       have n0_ := Aside0.mk (Kd.R_below (rO HO_5.out) hb)
       have n1_ := Aside0.mk (blk_below (g := gb158) (o := .cells #[.bool a0_0, .slice A0_1 l0_1.length c0_1] 59 (0, 0)) (kO BK158.out) hb)
       have n2_ := Aside0.mk (blk_below (g := gb159) (o := .cells #[.bool a1_0, .slice A1_1 l1_1.length c1_1] 59 (0, 0)) (kO BK159.out) hb)
       have n3_ := Aside0.mk (below_step (by repeat (first | (with_reducible first | exact HB.out | apply below_alloc | apply pw_below_drewN | apply below_drew1 | refine below_set ?_ GE158.out | refine below_set ?_ GE159.out) | exact HB.out)) hb)
       clear HO_5
       clear BK158
       clear BK159
       clear HB
       have HO_5 := n0_
       have BK158 := n1_
       have BK159 := n2_
       have HB := n3_
       clear n0_ n1_ n2_ n3_
       (try clear hb)
       (try clear hb2)
       (try clear hk)
       (try clear hi)
       refine hK.out _ _ ⟨(blk_cell BK158.out 0).trans rfl, (blk_cell BK158.out 1).trans rfl, (blk_cell BK159.out 0).trans rfl, (blk_cell BK159.out 1).trans rfl⟩ (fun hHeld => ?_)
       clear hK K
       refine norm_ (a' := ?_) ?_ ?_
       rotate_left
       ·show Act.put _ (some 26) _ = _
        simp only [Act.put, List.setIfInBounds_toArray, List.set_cons_zero, List.set_cons_succ, i64_w, i32_w]
        rfl
       refine one_ (i := 5) (N := some 29) #[true, true, true, true, true, true, false, true, false, false] rfl rfl (one_of HT_.out (by kernel_rfl)) (by decide) (fun K hK => ?_)
       refine goes_ Try.func47 (by kernel_rfl) rfl #[.agg #[.bool a1_0, .slice A1_1 l1_1.length c1_1], .int .i64 x7_1] (by rfl) rfl rfl mO ?_
       with_reducible refine (tabardref01_Wide_digit.calls a1_0 _ _ l1_1 x7_1 t161 _ ?side1 ?side2 A16.out).mono ?_
       (case side1 => exact cO (Kd.C_below HR1_1.out HB.out))
       (case side2 => exact HC1_1.out)
       rintro e w20 ⟨rfl, hb⟩
       refine ⟨_, rfl, ?_⟩
       have n0_ := Aside0.mk (Kd.R_below (rO HO_5.out) hb)
       have n1_ := Aside0.mk (blk_below (g := gb158) (o := .cells #[.bool a0_0, .slice A0_1 l0_1.length c0_1] 59 (0, 0)) (kO BK158.out) hb)
       have n2_ := Aside0.mk (blk_below (g := gb159) (o := .cells #[.bool a1_0, .slice A1_1 l1_1.length c1_1] 59 (0, 0)) (kO BK159.out) hb)
       have n3_ := Aside0.mk (below_step (by repeat (first | (with_reducible first | exact HB.out | apply below_alloc | apply pw_below_drewN | apply below_drew1 | refine below_set ?_ GE158.out | refine below_set ?_ GE159.out) | exact HB.out)) hb)
       clear HO_5
       clear BK158
       clear BK159
       clear HB
       have HO_5 := n0_
       have BK158 := n1_
       have BK159 := n2_
       have HB := n3_
       clear n0_ n1_ n2_ n3_
       (try clear hb)
       (try clear hb2)
       (try clear hk)
       (try clear hi)
       refine hK.out _ _ ⟨(blk_cell BK158.out 0).trans rfl, (blk_cell BK158.out 1).trans rfl, (blk_cell BK159.out 0).trans rfl, (blk_cell BK159.out 1).trans rfl⟩ (fun hHeld => ?_)
       clear hK K
       refine norm_ (a' := ?_) ?_ ?_
       rotate_left
       ·show Act.put _ (some 29) _ = _
        simp only [Act.put, List.setIfInBounds_toArray, List.set_cons_zero, List.set_cons_succ, i64_w, i32_w]
        rfl
       refine pure_ (i := 6) (N := some 30) (v := ?_) (a' := ?_) #[true, true, true, true, true, true, true, true, false, false] rfl rfl (any_of HT_.out (by kernel_rfl)) (fun _ _ _ h => h) (Or.inl ⟨by rfl, ?_⟩) ?_ ?_
       rotate_left
       ·intro w'
        go_simp
        with_reducible rfl
       rotate_left
       ·simp only [Act.put, List.setIfInBounds_toArray, List.set_cons_zero, List.set_cons_succ, i64_w, i32_w]
        rfl
       refine pure_ (i := 8) (N := some 32) (v := ?_) (a' := ?_) #[true, true, true, true, true, true, true, true, true, false] rfl rfl (any_of HT_.out (by kernel_rfl)) (fun _ _ _ h => h) (Or.inl ⟨by rfl, ?_⟩) ?_ ?_
       rotate_left
       ·intro w'
        go_simp
        with_reducible rfl
       rotate_left
       ·simp only [Act.put, List.setIfInBounds_toArray, List.set_cons_zero, List.set_cons_succ, i64_w, i32_w]
        rfl
       refine pure_ (i := 9) (N := some 8) (v := ?_) (a' := ?_) #[true, true, true, true, true, true, true, true, true, true] rfl rfl (any_of HT_.out (by kernel_rfl)) (fun _ _ _ h => h) (Or.inl ⟨by rfl, ?_⟩) ?_ ?_
       rotate_left
       ·intro w'
        go_simp
        with_reducible rfl
       rotate_left
       ·simp only [Act.put, List.setIfInBounds_toArray, List.set_cons_zero, List.set_cons_succ, i64_w, i32_w]
        rfl
       refine done_ (done_of HT_.out (by kernel_rfl)) ?_
       try go_wp2_with (first | ((with_reducible refine gate_builtin (b := .append) (xs := #[.tmp 33, .tmp 36]) rfl ?_); at_builtin; refine Kd.R_append (Kd.int .u64) (w0 := w) w.heap.size rfl (.tmp 33) (.tmp 36) 57 63 (.int .u64 0) 8 rfl Try.underlying57 info63 rfl (by decide) (by omega) u5 x5_1 (Go.bits .and .u64 (IntKind.u64.wrap ((IntKind.u64.wrap (t160 + t161)) + x6_1)) 65535) [.int .u64 (Go.bits .and .u64 (IntKind.u64.wrap ((IntKind.u64.wrap (t160 + t161)) + x6_1)) 65535)] (fun _ => True) (fun _ => False) rfl rfl ?aP (fun _ hk => hk.elim) ?aF ?aO ?aB ?aS ?aL ?_; (case aP => exact rfl); (case aB => exact (by repeat (first | (with_reducible first | exact HB.out | apply below_alloc | apply pw_below_drewN | apply below_drew1 | refine below_set ?_ GE158.out | refine below_set ?_ GE159.out) | exact HB.out))); (case aF => exact (fun _ _ => trivial)); (case aO => exact (rO HO_5.out)); (case aS => exact (below_size (by repeat (first | (with_reducible first | exact HB.out | apply below_alloc | apply pw_below_drewN | apply below_drew1 | refine below_set ?_ GE158.out | refine below_set ?_ GE159.out) | exact HB.out)))); (case aL => have := LMc17.out; omega); intro v163 w21 ho hb hg hat; rw [← Ny162.out] at ho; have n0_ := Aside0.mk (blk_grown (g := gb158) (o := .cells #[.bool a0_0, .slice A0_1 l0_1.length c0_1] 59 (0, 0)) (kO BK158.out) hg (Kd.R_ne HO_5.out BK158.out (by decide))); have n1_ := Aside0.mk (blk_grown (g := gb159) (o := .cells #[.bool a1_0, .slice A1_1 l1_1.length c1_1] 59 (0, 0)) (kO BK159.out) hg (Kd.R_ne HO_5.out BK159.out (by decide))); have n2_ := Aside0.mk (hb); have n3_ := Aside0.mk (ho); clear BK158; clear BK159; clear HB; clear HO_5; have BK158 := n0_; have BK159 := n1_; have HB := n2_; have HO164 := n3_; clear n0_ n1_ n2_ n3_; clear ho hb hg hat))
       go_roundg kj4
       case measure => have := HK1.out; have := HJ4.out; omega
       case rel => exact ⟨(y162), ((IntKind.u64.wrap ((IntKind.u64.wrap (t160 + t161)) + x6_1)) / 65536), (wrap64 (x7_1 + 1)), (by first | rfl | (simp; done) | (simp [*]; done)), (by first | rfl | (simp; done) | (simp [*]; done)), H', ⟨by have := HK1.out; have := HJ4.out; omega⟩, ⟨rO HO164.out⟩, ⟨kO BK158.out⟩, ⟨kO BK159.out⟩, ⟨by repeat (first | (with_reducible first | exact HB.out | apply below_alloc | apply pw_below_drewN | apply below_drew1 | refine below_set ?_ GE158.out | refine below_set ?_ GE159.out) | exact HB.out)⟩⟩
      ·rw [if_neg c17] at H
       exact absurd H (by simp)
     ·replace c14 := Bool.eq_false_iff.mpr c14
      subst c14
      have H1 : (some x5_1) = some r := by rw [if_neg (show ¬ (false = true) by decide)] at H; exact H
      clear H
      have H := H1
      clear H1
      obtain rfl := Option.some.inj H
      go_wp2
      go_ret
      exact ⟨_, by first | rfl | (simp [errW_none, errW_some] <;> rfl) | (simp [*, errW_none, errW_some] <;> rfl), rO HO_5.out, by repeat (first | (with_reducible first | exact HB.out | apply below_alloc | apply pw_below_drewN | apply below_drew1 | refine below_set ?_ GE158.out | refine below_set ?_ GE159.out) | exact HB.out)⟩

end Go.Proofs.Ytolacbnkebbjiaa.X

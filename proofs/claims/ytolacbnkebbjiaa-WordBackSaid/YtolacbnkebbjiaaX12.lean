/- What the functions of this seat compute, and that the program's calls come to just that: written by this session's own program out of the translation; no condition. -/
import Derived.Test.YtolacbnkebbjiaaX0
import Derived.Test.YtolacbnkebbjiaaX4
import Derived.Test.YtolacbnkebbjiaaX5
import Derived.Test.YtolacbnkebbjiaaX8
import Derived.Test.YtolacbnkebbjiaaX9
import Derived.Test.YtolacbnkebbjiaaX11
namespace Go.Proofs.Ytolacbnkebbjiaa.X
open Go.RowKit Go.Proofs.YtolacbnkebbjiaaW.PrintWords Go.Proofs.YtolacbnkebbjiaaW.PrintLast Go.Proofs.YtolacbnkebbjiaaW.PrintMore
attribute [local go_sem] max2_int min2_int max_two min_two max_three min_three max_four min_four   -- for this text's walks alone
set_option linter.unusedVariables false
set_option linter.unusedSimpArgs false

/-! ### tabardref01_Floor: function 35 -/
def tabardref01_Floor.l0 : Nat → Int → Int → Int → Bool → List Int → Bool → List Int → Bool → List Int → Bool → List Int → Option (Int × Int)
 | 0, _, _, _, _, _, _, _, _, _, _, _ => none
 | k + 1, x0, x1, x10, x237000, x237001, x238000, x238001, x247000, x247001, x248000, x248001 => if x10 ≥ 0 then ((tabardref01_Plus.f k x248000 x248001 x248000 x248001).bind fun bt248 => ((tabardref01_Wide_digit.f x237000 x237001 (wrap64 (Int.tdiv x10 16))).bind fun t252 => (if 0 ≤ (IntKind.u64.wrap (Int.tmod x10 16)) then ((tabardref01_Of.f k (wrap64 (Go.bits .and .u64 (shr .u64 t252 (IntKind.u64.wrap (Int.tmod x10 16))) 1))).bind fun bt253 => ((tabardref01_Plus.f k bt248.1 bt248.2 bt253.1 bt253.2).bind fun bt257 => ((tabardref01_Plus.f k x247000 x247001 x247000 x247001).bind fun bt261 => ((tabardref01_Size.f k bt257.1 bt257.2 x238000 x238001).bind fun t265 => (if t265 ≥ 0 then ((tabardref01_Minus.f k x238000 x238001).bind fun bt266 => ((tabardref01_Plus.f k bt257.1 bt257.2 bt266.1 bt266.2).bind fun bt270 => ((tabardref01_Of.f k 1).bind fun bt274 => ((tabardref01_Plus.f k bt261.1 bt261.2 bt274.1 bt274.2).bind fun bt278 => (tabardref01_Floor.l0 k x0 x1 (wrap64 (x10 - 1)) x237000 x237001 x238000 x238001 bt278.1 bt278.2 bt270.1 bt270.2))))) else (tabardref01_Floor.l0 k x0 x1 (wrap64 (x10 - 1)) x237000 x237001 x238000 x238001 bt261.1 bt261.2 bt257.1 bt257.2)))))) else (none)))) else (if ((decide (x0 < 0)) != (decide (x1 < 0))) = true then ((tabardref01_Minus.f k x247000 x247001).bind fun bt282 => (if (x248001.length : Int) > 0 then ((tabardref01_Of.f k (-1)).bind fun bt286 => ((tabardref01_Plus.f k bt282.1 bt282.2 bt286.1 bt286.2).bind fun bt290 => ((tabardref01_told.f k bt290.1 bt290.2).bind fun bt294 => (some (bt294.1, bt294.2))))) else ((tabardref01_told.f k bt282.1 bt282.2).bind fun bt296 => (some (bt296.1, bt296.2))))) else ((tabardref01_told.f k x247000 x247001).bind fun bt298 => (some (bt298.1, bt298.2))))
def tabardref01_Floor.f (k : Nat) (a0 : Int) (a1 : Int) : Option (Int × Int) := if a1 = 0 then (some (0, 2)) else ((tabardref01_Of.f k a0).bind fun bt228 => ((tabardref01_Of.f k a1).bind fun bt232 => ((tabardref01_Of.f k 0).bind fun bt238 => ((tabardref01_Of.f k 0).bind fun bt242 => (tabardref01_Floor.l0 k a0 a1 (wrap64 ((wrap64 ((bt228.2.length : Int) * 16)) - 1)) false bt228.2 false bt232.2 bt238.1 bt238.2 bt242.1 bt242.2)))))
theorem tabardref01_Floor.mono_l : ∀ k, (∀ y0 y1 y2 y3 y4 y5 y6 y7 y8 y9 y10, LeO (tabardref01_Floor.l0 k y0 y1 y2 y3 y4 y5 y6 y7 y8 y9 y10) (tabardref01_Floor.l0 (k + 1) y0 y1 y2 y3 y4 y5 y6 y7 y8 y9 y10))
 | 0 => fun _ _ _ _ _ _ _ _ _ _ _ r h => by simp [tabardref01_Floor.l0] at h
 | k + 1 => by
  have ih0 := tabardref01_Floor.mono_l k
  ·intro y0 y1 y2 y3 y4 y5 y6 y7 y8 y9 y10
   unfold tabardref01_Floor.l0
   repeat' first
   | (with_reducible exact ih0 _ _ _ _ _ _ _ _ _ _ _)
   | (with_reducible exact tabardref01_Minus.mono _ _ _)
   | (with_reducible exact tabardref01_Of.mono _ _)
   | (with_reducible exact tabardref01_Plus.mono _ _ _ _ _)
   | (with_reducible exact tabardref01_Size.mono _ _ _ _ _)
   | (with_reducible exact tabardref01_told.mono _ _ _)
   | (with_reducible exact LeO.refl _)
   | (with_reducible exact LeO.none _)
   | (with_reducible refine LeO.ite ?_ ?_)
   | (with_reducible refine LeO.bind ?_ (fun _ => ?_))
   | exact ih0 _ _ _ _ _ _ _ _ _ _ _
   | exact tabardref01_Minus.mono _ _ _
   | exact tabardref01_Of.mono _ _
   | exact tabardref01_Plus.mono _ _ _ _ _
   | exact tabardref01_Size.mono _ _ _ _ _
   | exact tabardref01_told.mono _ _ _
   | exact LeO.none _
   | refine LeO.ite ?_ ?_
   | refine LeO.bind ?_ (fun _ => ?_)
theorem tabardref01_Floor.mono : ∀ a0 a1 k, LeO (tabardref01_Floor.f k a0 a1) (tabardref01_Floor.f (k + 1) a0 a1) := by
 intro a0 a1 k
 have ih0 := tabardref01_Floor.mono_l k
 unfold tabardref01_Floor.f
 repeat' first
   | (with_reducible exact ih0 _ _ _ _ _ _ _ _ _ _ _)
   | (with_reducible exact tabardref01_Minus.mono _ _ _)
   | (with_reducible exact tabardref01_Of.mono _ _)
   | (with_reducible exact tabardref01_Plus.mono _ _ _ _ _)
   | (with_reducible exact tabardref01_Size.mono _ _ _ _ _)
   | (with_reducible exact tabardref01_told.mono _ _ _)
   | (with_reducible exact LeO.refl _)
   | (with_reducible exact LeO.none _)
   | (with_reducible refine LeO.ite ?_ ?_)
   | (with_reducible refine LeO.bind ?_ (fun _ => ?_))
   | exact ih0 _ _ _ _ _ _ _ _ _ _ _
   | exact tabardref01_Minus.mono _ _ _
   | exact tabardref01_Of.mono _ _
   | exact tabardref01_Plus.mono _ _ _ _ _
   | exact tabardref01_Size.mono _ _ _ _ _
   | exact tabardref01_told.mono _ _ _
   | exact LeO.none _
   | refine LeO.ite ?_ ?_
   | refine LeO.bind ?_ (fun _ => ?_)
def tabardref01_Floor.T8 : Bool × List (List Nat × List Nat) := (true, [([], []), ([], []), ([0, 1], [0, 1]), ([], []), ([], []), ([4], [4]), ([3, 5, 2], [3, 5]), ([], []), ([7], [7]), ([8], [8]), ([6, 9], [6, 9]), ([10], [10]), ([11], [11]), ([12, 6], [12]), ([2, 13, 13], [2, 13]), ([14, 14, 0, 1, 2, 3, 4, 5, 6, 7, 8, 9, 10, 11, 12, 13, 14], [14])])
def tabardref01_Floor.B8 : List Nat := [0, 0, 3, 0, 0, 16, 63, 0, 128, 384, 1023, 2047, 4095, 8191, 16383, 32767]
theorem tabardref01_Floor.tab8 : rtab .any (opsOf Try.f35 8) = tabardref01_Floor.T8 := by kernel_rfl
theorem tabardref01_Floor.bits8 : waitsOk tabardref01_Floor.T8.2 tabardref01_Floor.B8 = true := by kernel_rfl
set_option maxHeartbeats 8000000 in
set_option maxRecDepth 100000 in
theorem tabardref01_Floor.calls (k : Nat) (a0 : Int) (a1 : Int) (r1 : Int) (r2 : Int) (w : World) (h : tabardref01_Floor.f k a0 a1 = some (r1, r2)) :
  Calls Try.prog 35 #[.int .i64 a0, .int .i64 a1] w fun e w' => e = .returned (.tuple #[.int .i64 r1, .int .i64 r2]) ∧ Below w.heap.size w w' := by
 have hu59 := Try.underlying59
 have hfd59_1 : ∀ (z0 z1 : Value) (W : World), (Instr.field 59 (.agg #[z0, z1]) 1).run Try.prog W = .ok z1 W := fun z0 z1 W => by kernel_rfl
 have HB := Aside0.mk (Below.refl w.heap.size w)
 have H : (if a1 = 0 then (some (0, 2)) else ((tabardref01_Of.f k a0).bind fun bt228 => ((tabardref01_Of.f k a1).bind fun bt232 => ((tabardref01_Of.f k 0).bind fun bt238 => ((tabardref01_Of.f k 0).bind fun bt242 => (tabardref01_Floor.l0 k a0 a1 (wrap64 ((wrap64 ((bt228.2.length : Int) * 16)) - 1)) false bt228.2 false bt232.2 bt238.1 bt238.2 bt242.1 bt242.2)))))) = some (r1, r2) := h
 clear h
 by_cases c3 : a1 = 0
 ·rw [if_pos c3] at H
  have c3b0 : (a1 == 0) = true := beq_iff_eq.mpr c3
  have c3b1 : (a1 != 0) = false := bne_eq_false_iff_eq.mpr c3
  clear c3
  simp only [Option.some.injEq, Prod.mk.injEq] at H
  obtain ⟨rfl, rfl⟩ := H
  go_enter Try.func35, Try.ntmps35
  go_wp2
  go_ret2
  exact ⟨by first | rfl | (simp [errW_none, errW_some] <;> rfl) | (simp [*, errW_none, errW_some] <;> rfl), bO HB.out⟩
 ·rw [if_neg c3] at H
  have c3b0 : (a1 == 0) = false := beq_eq_false_iff_ne.mpr c3
  have c3b1 : (a1 != 0) = true := bne_iff_ne.mpr c3
  replace H := Option.bind_eq_some_iff.mp H
  obtain ⟨⟨t228, t229⟩, A40, H⟩ := H
  replace H : ((tabardref01_Of.f k a1).bind fun bt232 => ((tabardref01_Of.f k 0).bind fun bt238 => ((tabardref01_Of.f k 0).bind fun bt242 => (tabardref01_Floor.l0 k a0 a1 (wrap64 ((wrap64 ((t229.length : Int) * 16)) - 1)) false t229 false bt232.2 bt238.1 bt238.2 bt242.1 bt242.2)))) = some (r1, r2) := H
  have A4 := Aside0.mk A40
  clear A40
  replace H := Option.bind_eq_some_iff.mp H
  obtain ⟨⟨t232, t233⟩, A50, H⟩ := H
  replace H : ((tabardref01_Of.f k 0).bind fun bt238 => ((tabardref01_Of.f k 0).bind fun bt242 => (tabardref01_Floor.l0 k a0 a1 (wrap64 ((wrap64 ((t229.length : Int) * 16)) - 1)) false t229 false t233 bt238.1 bt238.2 bt242.1 bt242.2))) = some (r1, r2) := H
  have A5 := Aside0.mk A50
  clear A50
  replace H := Option.bind_eq_some_iff.mp H
  obtain ⟨⟨t238, t239⟩, A60, H⟩ := H
  replace H : ((tabardref01_Of.f k 0).bind fun bt242 => (tabardref01_Floor.l0 k a0 a1 (wrap64 ((wrap64 ((t229.length : Int) * 16)) - 1)) false t229 false t233 t238 t239 bt242.1 bt242.2)) = some (r1, r2) := H
  have A6 := Aside0.mk A60
  clear A60
  replace H := Option.bind_eq_some_iff.mp H
  obtain ⟨⟨t242, t243⟩, A70, H⟩ := H
  replace H : (tabardref01_Floor.l0 k a0 a1 (wrap64 ((wrap64 ((t229.length : Int) * 16)) - 1)) false t229 false t233 t238 t239 t242 t243) = some (r1, r2) := H
  have A7 := Aside0.mk A70
  clear A70
  have H' := Aside0.mk H
  clear H
  go_enter Try.func35, Try.ntmps35
  go_wp2_with (first | ((with_reducible refine gate_callee (f := 45) rfl ?_); refine goesL_ (some 14) rfl rfl Try.func45 (by kernel_rfl) rfl #[.int .i64 a0] rfl mO ?_; (with_reducible refine (tabardref01_Of.calls k a0 t228 t229 _ A4.out).mono ?_); rintro e w8 ⟨v230, rfl, ho0, hb⟩; refine ⟨_, rfl, ?_⟩; have n0_ := Aside0.mk (Kd.V_lower (Kd.V_mono (ok' := fun k_ => True) ho0 (fun k_ hk_ => trivial)) (below_size (bO HB.out))); have n1_ := Aside0.mk (below_step (bO HB.out) hb); clear HB; have HO231 := n0_; have HB := n1_; clear n0_ n1_; (try clear hb); (try clear hb2); (try clear hk); (try clear hi); (try clear ho0); obtain ⟨Ao9, co9, eo9⟩ := Kd.V_slice HO231.out; subst eo9) | ((with_reducible refine gate_callee (f := 45) rfl ?_); refine goesL_ (some 18) rfl rfl Try.func45 (by kernel_rfl) rfl #[.int .i64 a1] rfl mO ?_; (with_reducible refine (tabardref01_Of.calls k a1 t232 t233 _ A5.out).mono ?_); rintro e w10 ⟨v234, rfl, ho0, hb⟩; refine ⟨_, rfl, ?_⟩; have n0_ := Aside0.mk (Kd.V_below (vO HO231.out) hb); have n1_ := Aside0.mk (Kd.V_lower (Kd.V_mono (ok' := fun k_ => True) ho0 (fun k_ hk_ => trivial)) (below_size (bO HB.out))); have n2_ := Aside0.mk (below_step (bO HB.out) hb); clear HO231; clear HB; have HO231 := n0_; have HO235 := n1_; have HB := n2_; clear n0_ n1_ n2_; (try clear hb); (try clear hb2); (try clear hk); (try clear hi); (try clear ho0); obtain ⟨Ao11, co11, eo11⟩ := Kd.V_slice HO235.out; subst eo11) | ((with_reducible refine gate_dst (N := 6) rfl ?_); refine box_event ?hg (N := 6) ?hd (cs := #[.bool false, .slice none 0 0]) (t := 59) ?hr ?_; (case hd => rfl); (case hg => rfl); (case hr => first | (go_simp; done) | (go_simp; rfl)); intro gb236 hg w12 hbox hb; have n0_ := Aside0.mk (Kd.V_below (Kd.V_elderB (vO HO231.out) gb236 (Nat.le_of_eq hg.symm)) hb); have n1_ := Aside0.mk (Kd.V_below (Kd.V_elderB (vO HO235.out) gb236 (Nat.le_of_eq hg.symm)) hb); have n2_ := Aside0.mk (below_step (bO HB.out) hb); have n3_ := Aside0.mk (hbox); have n4_ := Aside0.mk ((by rw [hg]; exact (below_size (bO HB.out)) : w.heap.size ≤ gb236)); have n5_ := Aside0.mk ((by rw [hg]; exact (below_size (bO HB.out)) : w.heap.size ≤ gb236)); clear HO231; clear HO235; clear HB; have HO231 := n0_; have HO235 := n1_; have HB := n2_; have BK236 := n3_; have GW236 := n4_; have GE236 := n5_; clear n0_ n1_ n2_ n3_ n4_ n5_; clear hb hbox hg) | ((with_reducible refine gate_dst (N := 7) rfl ?_); refine box_event ?hg (N := 7) ?hd (cs := #[.bool false, .slice none 0 0]) (t := 59) ?hr ?_; (case hd => rfl); (case hg => rfl); (case hr => first | (go_simp; done) | (go_simp; rfl)); intro gb237 hg w13 hbox hb; have n0_ := Aside0.mk (Kd.V_below (Kd.V_elderB (vO HO231.out) gb237 (Nat.le_of_eq hg.symm)) hb); have n1_ := Aside0.mk (Kd.V_below (Kd.V_elderB (vO HO235.out) gb237 (Nat.le_of_eq hg.symm)) hb); have n2_ := Aside0.mk (blk_below (g := gb236) (o := .cells #[.bool false, .slice none 0 0] 59 (0, 0)) (kO BK236.out) hb); have n3_ := Aside0.mk (below_step (by repeat (first | (with_reducible first | exact HB.out | apply below_alloc | apply pw_below_drewN | apply below_drew1 | refine below_set ?_ GE236.out) | exact HB.out)) hb); have n4_ := Aside0.mk (hbox); have n5_ := Aside0.mk ((by rw [hg]; exact (below_size (by repeat (first | (with_reducible first | exact HB.out | apply below_alloc | apply pw_below_drewN | apply below_drew1 | refine below_set ?_ GE236.out) | exact HB.out))) : w.heap.size ≤ gb237)); have n6_ := Aside0.mk ((by rw [hg]; exact (below_size (by repeat (first | (with_reducible first | exact HB.out | apply below_alloc | apply pw_below_drewN | apply below_drew1 | refine below_set ?_ GE236.out) | exact HB.out))) : w.heap.size ≤ gb237)); have n7_ := Aside0.mk ((by rw [hg]; exact Nat.ne_of_lt (blk_lt (g := gb236) (o := .cells #[.bool false, .slice none 0 0] 59 (0, 0)) (kO BK236.out)) : gb236 ≠ gb237)); have n8_ := Aside0.mk ((by rw [hg]; exact Nat.ne_of_gt (blk_lt (g := gb236) (o := .cells #[.bool false, .slice none 0 0] 59 (0, 0)) (kO BK236.out)) : gb237 ≠ gb236)); clear HO231; clear HO235; clear BK236; clear HB; have HO231 := n0_; have HO235 := n1_; have BK236 := n2_; have HB := n3_; have BK237 := n4_; have GW237 := n5_; have GE237 := n6_; have NB236_237 := n7_; have NB237_236 := n8_; clear n0_ n1_ n2_ n3_ n4_ n5_ n6_ n7_ n8_; clear hb hbox hg; have hnb14 := NB236_237.out; have hnc14 := NB237_236.out; have hcz15_0 : w13.cell? ⟨gb236, 0, none⟩ = some (.bool false) := (blk_cell BK236.out 0).trans rfl; have hcz15_1 : w13.cell? ⟨gb236, 1, none⟩ = some (.slice none 0 0) := (blk_cell BK236.out 1).trans rfl; have hfz15_0 := blk_frozen BK236.out 0; have hfz15_1 := blk_frozen BK236.out 1; have hcz16_0 : w13.cell? ⟨gb237, 0, none⟩ = some (.bool false) := (blk_cell BK237.out 0).trans rfl; have hcz16_1 : w13.cell? ⟨gb237, 1, none⟩ = some (.slice none 0 0) := (blk_cell BK237.out 1).trans rfl; have hfz16_0 := blk_frozen BK237.out 0; have hfz16_1 := blk_frozen BK237.out 1) | ((with_reducible refine gate_callee (f := 45) rfl ?_); refine goesL_ (some 21) rfl rfl Try.func45 (by kernel_rfl) rfl #[.int .i64 0] rfl mO ?_; (with_reducible refine (tabardref01_Of.calls k 0 t238 t239 _ A6.out).mono ?_); rintro e w17 ⟨v240, rfl, ho0, hb⟩; refine ⟨_, rfl, ?_⟩; have n0_ := Aside0.mk (Kd.V_below (by (with_reducible repeat (first | apply Kd.V_alloc | apply Kd.V_drewN | apply Kd.V_drew)); exact (Kd.V_mono (Kd.V_mono (Kd.V_far (p := ⟨gb237, 1, none⟩) (Kd.V_far (p := ⟨gb237, 0, none⟩) (Kd.V_far (p := ⟨gb236, 1, none⟩) (Kd.V_far (p := ⟨gb236, 0, none⟩) (Kd.V_mono (Kd.V_mono HO231.out (fun k_ hk => (⟨hk, hk.1.2⟩ : _ ∧ k_ ≠ gb236))) (fun k_ hk => (⟨hk, hk.1.2⟩ : _ ∧ k_ ≠ gb237))) (fun _ hk => hk.1.2) (.bool false)) (fun _ hk => hk.1.2) (.slice Ao9 t229.length co9)) (fun _ hk => hk.2) (.bool false)) (fun _ hk => hk.2) (.slice Ao11 t233.length co11)) (fun _ h_ => h_.1)) (fun _ h_ => h_.1))) hb); have n1_ := Aside0.mk (Kd.V_below (by (with_reducible repeat (first | apply Kd.V_alloc | apply Kd.V_drewN | apply Kd.V_drew)); exact (Kd.V_mono (Kd.V_mono (Kd.V_far (p := ⟨gb237, 1, none⟩) (Kd.V_far (p := ⟨gb237, 0, none⟩) (Kd.V_far (p := ⟨gb236, 1, none⟩) (Kd.V_far (p := ⟨gb236, 0, none⟩) (Kd.V_mono (Kd.V_mono HO235.out (fun k_ hk => (⟨hk, hk.1.2⟩ : _ ∧ k_ ≠ gb236))) (fun k_ hk => (⟨hk, hk.1.2⟩ : _ ∧ k_ ≠ gb237))) (fun _ hk => hk.1.2) (.bool false)) (fun _ hk => hk.1.2) (.slice Ao9 t229.length co9)) (fun _ hk => hk.2) (.bool false)) (fun _ hk => hk.2) (.slice Ao11 t233.length co11)) (fun _ h_ => h_.1)) (fun _ h_ => h_.1))) hb); have n2_ := Aside0.mk (Kd.V_lower (Kd.V_mono (ok' := fun k_ => k_ ≠ gb236 ∧ k_ ≠ gb237) ho0 (fun k_ hk_ => ⟨(Kd.freshB (g := gb236) (o := .cells #[.bool false, .slice Ao9 t229.length co9] 59 (0, 0)) (by (with_reducible repeat (first | refine blk_drewN ?_ _ | refine blk_drew ?_ | refine blk_alloc ?_ _)); refine blk_far ?_ NB236_237.out _; (with_reducible repeat (first | refine blk_drewN ?_ _ | refine blk_drew ?_ | refine blk_alloc ?_ _)); refine blk_far ?_ NB236_237.out _; (with_reducible repeat (first | refine blk_drewN ?_ _ | refine blk_drew ?_ | refine blk_alloc ?_ _)); refine blk_put (cs := #[.bool false, .slice none 0 0]) ?_ 1 _ rfl; (with_reducible repeat (first | refine blk_drewN ?_ _ | refine blk_drew ?_ | refine blk_alloc ?_ _)); refine blk_put (cs := #[.bool false, .slice none 0 0]) ?_ 0 _ rfl; (with_reducible repeat (first | refine blk_drewN ?_ _ | refine blk_drew ?_ | refine blk_alloc ?_ _)); exact BK236.out) k_ hk_), (Kd.freshB (g := gb237) (o := .cells #[.bool false, .slice Ao11 t233.length co11] 59 (0, 0)) (by (with_reducible repeat (first | refine blk_drewN ?_ _ | refine blk_drew ?_ | refine blk_alloc ?_ _)); refine blk_put (cs := #[.bool false, .slice none 0 0]) ?_ 1 _ rfl; (with_reducible repeat (first | refine blk_drewN ?_ _ | refine blk_drew ?_ | refine blk_alloc ?_ _)); refine blk_put (cs := #[.bool false, .slice none 0 0]) ?_ 0 _ rfl; (with_reducible repeat (first | refine blk_drewN ?_ _ | refine blk_drew ?_ | refine blk_alloc ?_ _)); refine blk_far ?_ NB237_236.out _; (with_reducible repeat (first | refine blk_drewN ?_ _ | refine blk_drew ?_ | refine blk_alloc ?_ _)); refine blk_far ?_ NB237_236.out _; (with_reducible repeat (first | refine blk_drewN ?_ _ | refine blk_drew ?_ | refine blk_alloc ?_ _)); exact BK237.out) k_ hk_)⟩)) (below_size (by repeat (first | (with_reducible first | exact HB.out | apply below_alloc | apply pw_below_drewN | apply below_drew1 | refine below_set ?_ GE236.out | refine below_set ?_ GE237.out) | exact HB.out)))); have n3_ := Aside0.mk (blk_below (g := gb236) (o := .cells #[.bool false, .slice Ao9 t229.length co9] 59 (0, 0)) (by (with_reducible repeat (first | refine blk_drewN ?_ _ | refine blk_drew ?_ | refine blk_alloc ?_ _)); refine blk_far ?_ NB236_237.out _; (with_reducible repeat (first | refine blk_drewN ?_ _ | refine blk_drew ?_ | refine blk_alloc ?_ _)); refine blk_far ?_ NB236_237.out _; (with_reducible repeat (first | refine blk_drewN ?_ _ | refine blk_drew ?_ | refine blk_alloc ?_ _)); refine blk_put (cs := #[.bool false, .slice none 0 0]) ?_ 1 _ rfl; (with_reducible repeat (first | refine blk_drewN ?_ _ | refine blk_drew ?_ | refine blk_alloc ?_ _)); refine blk_put (cs := #[.bool false, .slice none 0 0]) ?_ 0 _ rfl; (with_reducible repeat (first | refine blk_drewN ?_ _ | refine blk_drew ?_ | refine blk_alloc ?_ _)); exact BK236.out) hb); have n4_ := Aside0.mk (blk_below (g := gb237) (o := .cells #[.bool false, .slice Ao11 t233.length co11] 59 (0, 0)) (by (with_reducible repeat (first | refine blk_drewN ?_ _ | refine blk_drew ?_ | refine blk_alloc ?_ _)); refine blk_put (cs := #[.bool false, .slice none 0 0]) ?_ 1 _ rfl; (with_reducible repeat (first | refine blk_drewN ?_ _ | refine blk_drew ?_ | refine blk_alloc ?_ _)); refine blk_put (cs := #[.bool false, .slice none 0 0]) ?_ 0 _ rfl; (with_reducible repeat (first | refine blk_drewN ?_ _ | refine blk_drew ?_ | refine blk_alloc ?_ _)); refine blk_far ?_ NB237_236.out _; (with_reducible repeat (first | refine blk_drewN ?_ _ | refine blk_drew ?_ | refine blk_alloc ?_ _)); refine blk_far ?_ NB237_236.out _; (with_reducible repeat (first | refine blk_drewN ?_ _ | refine blk_drew ?_ | refine blk_alloc ?_ _)); exact BK237.out) hb); have n5_ := Aside0.mk (below_step (by repeat (first | (with_reducible first | exact HB.out | apply below_alloc | apply pw_below_drewN | apply below_drew1 | refine below_set ?_ GE236.out | refine below_set ?_ GE237.out) | exact HB.out)) hb); clear HO231; clear HO235; clear BK236; clear BK237; clear HB; have HO231 := n0_; have HO235 := n1_; have HO241 := n2_; have BK236 := n3_; have BK237 := n4_; have HB := n5_; clear n0_ n1_ n2_ n3_ n4_ n5_; (try clear hb); (try clear hb2); (try clear hk); (try clear hi); (try clear ho0)) | ((with_reducible refine gate_callee (f := 45) rfl ?_); refine goesL_ (some 22) rfl rfl Try.func45 (by kernel_rfl) rfl #[.int .i64 0] rfl mO ?_; (with_reducible refine (tabardref01_Of.calls k 0 t242 t243 _ A7.out).mono ?_); rintro e w18 ⟨v244, rfl, ho0, hb⟩; refine ⟨_, rfl, ?_⟩; have n0_ := Aside0.mk (Kd.V_below (vO HO231.out) hb); have n1_ := Aside0.mk (Kd.V_below (vO HO235.out) hb); have n2_ := Aside0.mk (Kd.V_below (vO HO241.out) hb); have n3_ := Aside0.mk (Kd.V_lower (Kd.V_mono (ok' := fun k_ => k_ ≠ gb236 ∧ k_ ≠ gb237) ho0 (fun k_ hk_ => ⟨(Kd.freshB (g := gb236) (o := .cells #[.bool false, .slice Ao9 t229.length co9] 59 (0, 0)) (kO BK236.out) k_ hk_), (Kd.freshB (g := gb237) (o := .cells #[.bool false, .slice Ao11 t233.length co11] 59 (0, 0)) (kO BK237.out) k_ hk_)⟩)) (below_size (by repeat (first | (with_reducible first | exact HB.out | apply below_alloc | apply pw_below_drewN | apply below_drew1 | refine below_set ?_ GE236.out | refine below_set ?_ GE237.out) | exact HB.out)))); have n4_ := Aside0.mk (blk_below (g := gb236) (o := .cells #[.bool false, .slice Ao9 t229.length co9] 59 (0, 0)) (kO BK236.out) hb); have n5_ := Aside0.mk (blk_below (g := gb237) (o := .cells #[.bool false, .slice Ao11 t233.length co11] 59 (0, 0)) (kO BK237.out) hb); have n6_ := Aside0.mk (below_step (by repeat (first | (with_reducible first | exact HB.out | apply below_alloc | apply pw_below_drewN | apply below_drew1 | refine below_set ?_ GE236.out | refine below_set ?_ GE237.out) | exact HB.out)) hb); clear HO231; clear HO235; clear HO241; clear BK236; clear BK237; clear HB; have HO231 := n0_; have HO235 := n1_; have HO241 := n2_; have HO245 := n3_; have BK236 := n4_; have BK237 := n5_; have HB := n6_; clear n0_ n1_ n2_ n3_ n4_ n5_ n6_; (try clear hb); (try clear hb2); (try clear hk); (try clear hi); (try clear ho0)) | ((with_reducible refine gate_dst (N := 8) rfl ?_); refine box_event ?hg (N := 8) ?hd (cs := #[.bool false, .slice none 0 0]) (t := 59) ?hr ?_; (case hd => rfl); (case hg => rfl); (case hr => first | (go_simp; done) | (go_simp; rfl)); intro gb246 hg w19 hbox hb; have n0_ := Aside0.mk (Kd.V_below (Kd.V_elderB (vO HO231.out) gb246 (Nat.le_of_eq hg.symm)) hb); have n1_ := Aside0.mk (Kd.V_below (Kd.V_elderB (vO HO235.out) gb246 (Nat.le_of_eq hg.symm)) hb); have n2_ := Aside0.mk (Kd.V_below (Kd.V_elderB (vO HO241.out) gb246 (Nat.le_of_eq hg.symm)) hb); have n3_ := Aside0.mk (Kd.V_below (Kd.V_elderB (vO HO245.out) gb246 (Nat.le_of_eq hg.symm)) hb); have n4_ := Aside0.mk (blk_below (g := gb236) (o := .cells #[.bool false, .slice Ao9 t229.length co9] 59 (0, 0)) (kO BK236.out) hb); have n5_ := Aside0.mk (blk_below (g := gb237) (o := .cells #[.bool false, .slice Ao11 t233.length co11] 59 (0, 0)) (kO BK237.out) hb); have n6_ := Aside0.mk (below_step (by repeat (first | (with_reducible first | exact HB.out | apply below_alloc | apply pw_below_drewN | apply below_drew1 | refine below_set ?_ GE236.out | refine below_set ?_ GE237.out) | exact HB.out)) hb); have n7_ := Aside0.mk (hbox); have n8_ := Aside0.mk ((by rw [hg]; exact (below_size (by repeat (first | (with_reducible first | exact HB.out | apply below_alloc | apply pw_below_drewN | apply below_drew1 | refine below_set ?_ GE236.out | refine below_set ?_ GE237.out) | exact HB.out))) : w.heap.size ≤ gb246)); have n9_ := Aside0.mk ((by rw [hg]; exact (below_size (by repeat (first | (with_reducible first | exact HB.out | apply below_alloc | apply pw_below_drewN | apply below_drew1 | refine below_set ?_ GE236.out | refine below_set ?_ GE237.out) | exact HB.out))) : w.heap.size ≤ gb246)); have n10_ := Aside0.mk ((by rw [hg]; exact Nat.ne_of_lt (blk_lt (g := gb236) (o := .cells #[.bool false, .slice Ao9 t229.length co9] 59 (0, 0)) (kO BK236.out)) : gb236 ≠ gb246)); have n11_ := Aside0.mk ((by rw [hg]; exact Nat.ne_of_gt (blk_lt (g := gb236) (o := .cells #[.bool false, .slice Ao9 t229.length co9] 59 (0, 0)) (kO BK236.out)) : gb246 ≠ gb236)); have n12_ := Aside0.mk ((by rw [hg]; exact Nat.ne_of_lt (blk_lt (g := gb237) (o := .cells #[.bool false, .slice Ao11 t233.length co11] 59 (0, 0)) (kO BK237.out)) : gb237 ≠ gb246)); have n13_ := Aside0.mk ((by rw [hg]; exact Nat.ne_of_gt (blk_lt (g := gb237) (o := .cells #[.bool false, .slice Ao11 t233.length co11] 59 (0, 0)) (kO BK237.out)) : gb246 ≠ gb237)); clear HO231; clear HO235; clear HO241; clear HO245; clear BK236; clear BK237; clear HB; have HO231 := n0_; have HO235 := n1_; have HO241 := n2_; have HO245 := n3_; have BK236 := n4_; have BK237 := n5_; have HB := n6_; have BK246 := n7_; have GW246 := n8_; have GE246 := n9_; have NB236_246 := n10_; have NB246_236 := n11_; have NB237_246 := n12_; have NB246_237 := n13_; clear n0_ n1_ n2_ n3_ n4_ n5_ n6_ n7_ n8_ n9_ n10_ n11_ n12_ n13_; clear hb hbox hg) | ((with_reducible refine gate_dst (N := 9) rfl ?_); refine box_event ?hg (N := 9) ?hd (cs := #[.bool false, .slice none 0 0]) (t := 59) ?hr ?_; (case hd => rfl); (case hg => rfl); (case hr => first | (go_simp; done) | (go_simp; rfl)); intro gb247 hg w20 hbox hb; have n0_ := Aside0.mk (Kd.V_below (Kd.V_elderB (vO HO231.out) gb247 (Nat.le_of_eq hg.symm)) hb); have n1_ := Aside0.mk (Kd.V_below (Kd.V_elderB (vO HO235.out) gb247 (Nat.le_of_eq hg.symm)) hb); have n2_ := Aside0.mk (Kd.V_below (Kd.V_elderB (vO HO241.out) gb247 (Nat.le_of_eq hg.symm)) hb); have n3_ := Aside0.mk (Kd.V_below (Kd.V_elderB (vO HO245.out) gb247 (Nat.le_of_eq hg.symm)) hb); have n4_ := Aside0.mk (blk_below (g := gb236) (o := .cells #[.bool false, .slice Ao9 t229.length co9] 59 (0, 0)) (kO BK236.out) hb); have n5_ := Aside0.mk (blk_below (g := gb237) (o := .cells #[.bool false, .slice Ao11 t233.length co11] 59 (0, 0)) (kO BK237.out) hb); have n6_ := Aside0.mk (blk_below (g := gb246) (o := .cells #[.bool false, .slice none 0 0] 59 (0, 0)) (kO BK246.out) hb); have n7_ := Aside0.mk (below_step (by repeat (first | (with_reducible first | exact HB.out | apply below_alloc | apply pw_below_drewN | apply below_drew1 | refine below_set ?_ GE236.out | refine below_set ?_ GE237.out | refine below_set ?_ GE246.out) | exact HB.out)) hb); have n8_ := Aside0.mk (hbox); have n9_ := Aside0.mk ((by rw [hg]; exact (below_size (by repeat (first | (with_reducible first | exact HB.out | apply below_alloc | apply pw_below_drewN | apply below_drew1 | refine below_set ?_ GE236.out | refine below_set ?_ GE237.out | refine below_set ?_ GE246.out) | exact HB.out))) : w.heap.size ≤ gb247)); have n10_ := Aside0.mk ((by rw [hg]; exact (below_size (by repeat (first | (with_reducible first | exact HB.out | apply below_alloc | apply pw_below_drewN | apply below_drew1 | refine below_set ?_ GE236.out | refine below_set ?_ GE237.out | refine below_set ?_ GE246.out) | exact HB.out))) : w.heap.size ≤ gb247)); have n11_ := Aside0.mk ((by rw [hg]; exact Nat.ne_of_lt (blk_lt (g := gb236) (o := .cells #[.bool false, .slice Ao9 t229.length co9] 59 (0, 0)) (kO BK236.out)) : gb236 ≠ gb247)); have n12_ := Aside0.mk ((by rw [hg]; exact Nat.ne_of_gt (blk_lt (g := gb236) (o := .cells #[.bool false, .slice Ao9 t229.length co9] 59 (0, 0)) (kO BK236.out)) : gb247 ≠ gb236)); have n13_ := Aside0.mk ((by rw [hg]; exact Nat.ne_of_lt (blk_lt (g := gb237) (o := .cells #[.bool false, .slice Ao11 t233.length co11] 59 (0, 0)) (kO BK237.out)) : gb237 ≠ gb247)); have n14_ := Aside0.mk ((by rw [hg]; exact Nat.ne_of_gt (blk_lt (g := gb237) (o := .cells #[.bool false, .slice Ao11 t233.length co11] 59 (0, 0)) (kO BK237.out)) : gb247 ≠ gb237)); have n15_ := Aside0.mk ((by rw [hg]; exact Nat.ne_of_lt (blk_lt (g := gb246) (o := .cells #[.bool false, .slice none 0 0] 59 (0, 0)) (kO BK246.out)) : gb246 ≠ gb247)); have n16_ := Aside0.mk ((by rw [hg]; exact Nat.ne_of_gt (blk_lt (g := gb246) (o := .cells #[.bool false, .slice none 0 0] 59 (0, 0)) (kO BK246.out)) : gb247 ≠ gb246)); clear HO231; clear HO235; clear HO241; clear HO245; clear BK236; clear BK237; clear BK246; clear HB; have HO231 := n0_; have HO235 := n1_; have HO241 := n2_; have HO245 := n3_; have BK236 := n4_; have BK237 := n5_; have BK246 := n6_; have HB := n7_; have BK247 := n8_; have GW247 := n9_; have GE247 := n10_; have NB236_247 := n11_; have NB247_236 := n12_; have NB237_247 := n13_; have NB247_237 := n14_; have NB246_247 := n15_; have NB247_246 := n16_; clear n0_ n1_ n2_ n3_ n4_ n5_ n6_ n7_ n8_ n9_ n10_ n11_ n12_ n13_ n14_ n15_ n16_; clear hb hbox hg; have hnb21 := NB246_236.out; have hnc21 := NB236_246.out; have hnb22 := NB246_237.out; have hnc22 := NB237_246.out; have hnb23 := NB246_247.out; have hnc23 := NB247_246.out; have hcz24_0 : w20.cell? ⟨gb246, 0, none⟩ = some (.bool false) := (blk_cell BK246.out 0).trans rfl; have hcz24_1 : w20.cell? ⟨gb246, 1, none⟩ = some (.slice none 0 0) := (blk_cell BK246.out 1).trans rfl; have hfz24_0 := blk_frozen BK246.out 0; have hfz24_1 := blk_frozen BK246.out 1; obtain ⟨Ao25, co25, eo25⟩ := Kd.V_slice HO241.out; subst eo25; have hnb26 := NB247_236.out; have hnc26 := NB236_247.out; have hnb27 := NB247_237.out; have hnc27 := NB237_247.out; have hcz28_0 : w20.cell? ⟨gb247, 0, none⟩ = some (.bool false) := (blk_cell BK247.out 0).trans rfl; have hcz28_1 : w20.cell? ⟨gb247, 1, none⟩ = some (.slice none 0 0) := (blk_cell BK247.out 1).trans rfl; have hfz28_0 := blk_frozen BK247.out 0; have hfz28_1 := blk_frozen BK247.out 1; obtain ⟨Ao29, co29, eo29⟩ := Kd.V_slice HO245.out; subst eo29; have hcz30_0 : w20.cell? ⟨gb236, 0, none⟩ = some (.bool false) := (blk_cell BK236.out 0).trans rfl; have hcz30_1 : w20.cell? ⟨gb236, 1, none⟩ = some (.slice Ao9 t229.length co9) := (blk_cell BK236.out 1).trans rfl; have hfz30_0 := blk_frozen BK236.out 0; have hfz30_1 := blk_frozen BK236.out 1))
  go_loopg [10] k (fun kq v10 w' => ∃ (x10_1 : Int) (x247000_1 : Bool) (x247001_1 : List Int) (x248000_1 : Bool) (x248001_1 : List Int) (u247001 : Value) (u248001 : Value), v10 = .int .i64 x10_1 ∧ Aside0 (tabardref01_Floor.l0 kq a0 a1 x10_1 false t229 false t233 x247000_1 x247001_1 x248000_1 x248001_1 = some (r1, r2)) ∧ Aside0 (kq ≤ k) ∧ Aside0 (Kd.V (Kd.int .u64) 63 w' w.heap.size (fun k_ => k_ ≠ gb236 ∧ k_ ≠ gb237 ∧ k_ ≠ gb246 ∧ k_ ≠ gb247) (.slice Ao9 t229.length co9) t229) ∧ Aside0 (Kd.V (Kd.int .u64) 63 w' w.heap.size (fun k_ => k_ ≠ gb236 ∧ k_ ≠ gb237 ∧ k_ ≠ gb246 ∧ k_ ≠ gb247) (.slice Ao11 t233.length co11) t233) ∧ Aside0 (Kd.V (Kd.int .u64) 63 w' w.heap.size (fun k_ => k_ ≠ gb236 ∧ k_ ≠ gb237 ∧ k_ ≠ gb246 ∧ k_ ≠ gb247) u247001 x247001_1) ∧ Aside0 (Kd.V (Kd.int .u64) 63 w' w.heap.size (fun k_ => k_ ≠ gb236 ∧ k_ ≠ gb237 ∧ k_ ≠ gb246 ∧ k_ ≠ gb247) u248001 x248001_1) ∧ Aside0 (w'.heap[gb236]? = some (.cells #[.bool false, (.slice Ao9 t229.length co9)] 59 (0, 0))) ∧ Aside0 (w'.heap[gb237]? = some (.cells #[.bool false, (.slice Ao11 t233.length co11)] 59 (0, 0))) ∧ Aside0 (w'.heap[gb246]? = some (.cells #[.bool x247000_1, u247001] 59 (0, 0))) ∧ Aside0 (w'.heap[gb247]? = some (.cells #[.bool x248000_1, u248001] 59 (0, 0))) ∧ Aside0 (Below w.heap.size w w'))
  case atStart => exact ⟨(wrap64 ((wrap64 ((t229.length : Int) * 16)) - 1)), (t238), (t239), (t242), (t243), (.slice Ao25 t239.length co25), (.slice Ao29 t243.length co29), (by first | rfl | (simp; done) | (simp [*]; done)), H', ⟨Nat.le_refl _⟩, ⟨by (with_reducible repeat (first | apply Kd.V_alloc | apply Kd.V_drewN | apply Kd.V_drew)); exact Kd.V_mono (Kd.V_far (p := ⟨gb247, 1, none⟩) (Kd.V_far (p := ⟨gb247, 0, none⟩) (Kd.V_far (p := ⟨gb246, 1, none⟩) (Kd.V_far (p := ⟨gb246, 0, none⟩) (Kd.V_mono (Kd.V_mono HO231.out (fun k_ hk => (⟨hk, hk.1.2⟩ : _ ∧ k_ ≠ gb246))) (fun k_ hk => (⟨hk, hk.1.2⟩ : _ ∧ k_ ≠ gb247))) (fun _ hk => hk.1.2) (.bool t238)) (fun _ hk => hk.1.2) (.slice Ao25 t239.length co25)) (fun _ hk => hk.2) (.bool t242)) (fun _ hk => hk.2) (.slice Ao29 t243.length co29)) (fun _ hk => ⟨hk.1.1.1.1.1.2, ⟨hk.1.1.1.1.2, ⟨hk.1.1.1.2, hk.1.1.2⟩⟩⟩)⟩, ⟨by (with_reducible repeat (first | apply Kd.V_alloc | apply Kd.V_drewN | apply Kd.V_drew)); exact Kd.V_mono (Kd.V_far (p := ⟨gb247, 1, none⟩) (Kd.V_far (p := ⟨gb247, 0, none⟩) (Kd.V_far (p := ⟨gb246, 1, none⟩) (Kd.V_far (p := ⟨gb246, 0, none⟩) (Kd.V_mono (Kd.V_mono HO235.out (fun k_ hk => (⟨hk, hk.1.2⟩ : _ ∧ k_ ≠ gb246))) (fun k_ hk => (⟨hk, hk.1.2⟩ : _ ∧ k_ ≠ gb247))) (fun _ hk => hk.1.2) (.bool t238)) (fun _ hk => hk.1.2) (.slice Ao25 t239.length co25)) (fun _ hk => hk.2) (.bool t242)) (fun _ hk => hk.2) (.slice Ao29 t243.length co29)) (fun _ hk => ⟨hk.1.1.1.1.1.2, ⟨hk.1.1.1.1.2, ⟨hk.1.1.1.2, hk.1.1.2⟩⟩⟩)⟩, ⟨by (with_reducible repeat (first | apply Kd.V_alloc | apply Kd.V_drewN | apply Kd.V_drew)); exact Kd.V_mono (Kd.V_far (p := ⟨gb247, 1, none⟩) (Kd.V_far (p := ⟨gb247, 0, none⟩) (Kd.V_far (p := ⟨gb246, 1, none⟩) (Kd.V_far (p := ⟨gb246, 0, none⟩) (Kd.V_mono (Kd.V_mono HO241.out (fun k_ hk => (⟨hk, hk.1.2⟩ : _ ∧ k_ ≠ gb246))) (fun k_ hk => (⟨hk, hk.1.2⟩ : _ ∧ k_ ≠ gb247))) (fun _ hk => hk.1.2) (.bool t238)) (fun _ hk => hk.1.2) (.slice Ao25 t239.length co25)) (fun _ hk => hk.2) (.bool t242)) (fun _ hk => hk.2) (.slice Ao29 t243.length co29)) (fun _ hk => ⟨hk.1.1.1.1.1, ⟨hk.1.1.1.1.2, ⟨hk.1.1.1.2, hk.1.1.2⟩⟩⟩)⟩, ⟨by (with_reducible repeat (first | apply Kd.V_alloc | apply Kd.V_drewN | apply Kd.V_drew)); exact Kd.V_mono (Kd.V_far (p := ⟨gb247, 1, none⟩) (Kd.V_far (p := ⟨gb247, 0, none⟩) (Kd.V_far (p := ⟨gb246, 1, none⟩) (Kd.V_far (p := ⟨gb246, 0, none⟩) (Kd.V_mono (Kd.V_mono HO245.out (fun k_ hk => (⟨hk, hk.1.2⟩ : _ ∧ k_ ≠ gb246))) (fun k_ hk => (⟨hk, hk.1.2⟩ : _ ∧ k_ ≠ gb247))) (fun _ hk => hk.1.2) (.bool t238)) (fun _ hk => hk.1.2) (.slice Ao25 t239.length co25)) (fun _ hk => hk.2) (.bool t242)) (fun _ hk => hk.2) (.slice Ao29 t243.length co29)) (fun _ hk => ⟨hk.1.1.1.1.1, ⟨hk.1.1.1.1.2, ⟨hk.1.1.1.2, hk.1.1.2⟩⟩⟩)⟩, ⟨by (with_reducible repeat (first | refine blk_drewN ?_ _ | refine blk_drew ?_ | refine blk_alloc ?_ _)); refine blk_far ?_ NB236_247.out _; (with_reducible repeat (first | refine blk_drewN ?_ _ | refine blk_drew ?_ | refine blk_alloc ?_ _)); refine blk_far ?_ NB236_247.out _; (with_reducible repeat (first | refine blk_drewN ?_ _ | refine blk_drew ?_ | refine blk_alloc ?_ _)); refine blk_far ?_ NB236_246.out _; (with_reducible repeat (first | refine blk_drewN ?_ _ | refine blk_drew ?_ | refine blk_alloc ?_ _)); refine blk_far ?_ NB236_246.out _; (with_reducible repeat (first | refine blk_drewN ?_ _ | refine blk_drew ?_ | refine blk_alloc ?_ _)); exact BK236.out⟩, ⟨by (with_reducible repeat (first | refine blk_drewN ?_ _ | refine blk_drew ?_ | refine blk_alloc ?_ _)); refine blk_far ?_ NB237_247.out _; (with_reducible repeat (first | refine blk_drewN ?_ _ | refine blk_drew ?_ | refine blk_alloc ?_ _)); refine blk_far ?_ NB237_247.out _; (with_reducible repeat (first | refine blk_drewN ?_ _ | refine blk_drew ?_ | refine blk_alloc ?_ _)); refine blk_far ?_ NB237_246.out _; (with_reducible repeat (first | refine blk_drewN ?_ _ | refine blk_drew ?_ | refine blk_alloc ?_ _)); refine blk_far ?_ NB237_246.out _; (with_reducible repeat (first | refine blk_drewN ?_ _ | refine blk_drew ?_ | refine blk_alloc ?_ _)); exact BK237.out⟩, ⟨by (with_reducible repeat (first | refine blk_drewN ?_ _ | refine blk_drew ?_ | refine blk_alloc ?_ _)); refine blk_far ?_ NB246_247.out _; (with_reducible repeat (first | refine blk_drewN ?_ _ | refine blk_drew ?_ | refine blk_alloc ?_ _)); refine blk_far ?_ NB246_247.out _; (with_reducible repeat (first | refine blk_drewN ?_ _ | refine blk_drew ?_ | refine blk_alloc ?_ _)); refine blk_put (cs := #[.bool t238, .slice none 0 0]) ?_ 1 _ rfl; (with_reducible repeat (first | refine blk_drewN ?_ _ | refine blk_drew ?_ | refine blk_alloc ?_ _)); refine blk_put (cs := #[.bool false, .slice none 0 0]) ?_ 0 _ rfl; (with_reducible repeat (first | refine blk_drewN ?_ _ | refine blk_drew ?_ | refine blk_alloc ?_ _)); exact BK246.out⟩, ⟨by (with_reducible repeat (first | refine blk_drewN ?_ _ | refine blk_drew ?_ | refine blk_alloc ?_ _)); refine blk_put (cs := #[.bool t242, .slice none 0 0]) ?_ 1 _ rfl; (with_reducible repeat (first | refine blk_drewN ?_ _ | refine blk_drew ?_ | refine blk_alloc ?_ _)); refine blk_put (cs := #[.bool false, .slice none 0 0]) ?_ 0 _ rfl; (with_reducible repeat (first | refine blk_drewN ?_ _ | refine blk_drew ?_ | refine blk_alloc ?_ _)); refine blk_far ?_ NB247_246.out _; (with_reducible repeat (first | refine blk_drewN ?_ _ | refine blk_drew ?_ | refine blk_alloc ?_ _)); refine blk_far ?_ NB247_246.out _; (with_reducible repeat (first | refine blk_drewN ?_ _ | refine blk_drew ?_ | refine blk_alloc ?_ _)); exact BK247.out⟩, ⟨by repeat (first | (with_reducible first | exact HB.out | apply below_alloc | apply pw_below_drewN | apply below_drew1 | refine below_set ?_ GE236.out | refine below_set ?_ GE237.out | refine below_set ?_ GE246.out | refine below_set ?_ GE247.out) | exact HB.out)⟩⟩
  case round =>
   clear H'
   try clear c1
   try clear c2
   try clear p2
   try clear c3
   try clear c3b0
   try clear c3b1
   try clear c4
   try clear p6
   try clear c14
   try clear c21
   try clear c22
   try clear c23
   try clear c26
   try clear c27
   try clear hcz15_0
   try clear hcz15_1
   try clear hcz16_0
   try clear hcz16_1
   try clear hcz24_0
   try clear hcz24_1
   try clear hcz28_0
   try clear hcz28_1
   try clear hcz30_0
   try clear hcz30_1
   try clear hfz15_0
   try clear hfz15_1
   try clear hfz16_0
   try clear hfz16_1
   try clear hfz24_0
   try clear hfz24_1
   try clear hfz28_0
   try clear hfz28_1
   try clear hfz30_0
   try clear hfz30_1
   obtain ⟨x10_1, x247000_1, x247001_1, x248000_1, x248001_1, u247001, u248001, rfl, HA, HK1, HO_237001, HO_238001, HO_247001, HO_248001, BK236, BK237, BK246, BK247, HB⟩ := hrel
   cases gk with
   | zero => exact absurd HA.out (by simp [tabardref01_Floor.l0])
   | succ k1 =>
    have H := HA.out
    clear HA
    simp only [tabardref01_Floor.l0] at H
    by_cases c31 : x10_1 ≥ 0
    ·rw [if_pos c31] at H
     have c31b0 : decide (0 ≤ x10_1) = true := decide_eq_true c31
     clear c31
     replace H := Option.bind_eq_some_iff.mp H
     obtain ⟨⟨t248, t249⟩, A320, H⟩ := H
     replace H : ((tabardref01_Wide_digit.f false t229 (wrap64 (Int.tdiv x10_1 16))).bind fun t252 => (if 0 ≤ (IntKind.u64.wrap (Int.tmod x10_1 16)) then ((tabardref01_Of.f k1 (wrap64 (Go.bits .and .u64 (shr .u64 t252 (IntKind.u64.wrap (Int.tmod x10_1 16))) 1))).bind fun bt253 => ((tabardref01_Plus.f k1 t248 t249 bt253.1 bt253.2).bind fun bt257 => ((tabardref01_Plus.f k1 x247000_1 x247001_1 x247000_1 x247001_1).bind fun bt261 => ((tabardref01_Size.f k1 bt257.1 bt257.2 false t233).bind fun t265 => (if t265 ≥ 0 then ((tabardref01_Minus.f k1 false t233).bind fun bt266 => ((tabardref01_Plus.f k1 bt257.1 bt257.2 bt266.1 bt266.2).bind fun bt270 => ((tabardref01_Of.f k1 1).bind fun bt274 => ((tabardref01_Plus.f k1 bt261.1 bt261.2 bt274.1 bt274.2).bind fun bt278 => (tabardref01_Floor.l0 k1 a0 a1 (wrap64 (x10_1 - 1)) false t229 false t233 bt278.1 bt278.2 bt270.1 bt270.2))))) else (tabardref01_Floor.l0 k1 a0 a1 (wrap64 (x10_1 - 1)) false t229 false t233 bt261.1 bt261.2 bt257.1 bt257.2)))))) else (none))) = some (r1, r2) := H
     have A32 := Aside0.mk A320
     clear A320
     replace H := Option.bind_eq_some_iff.mp H
     obtain ⟨t252, A330, H⟩ := H
     replace H : (if 0 ≤ (IntKind.u64.wrap (Int.tmod x10_1 16)) then ((tabardref01_Of.f k1 (wrap64 (Go.bits .and .u64 (shr .u64 t252 (IntKind.u64.wrap (Int.tmod x10_1 16))) 1))).bind fun bt253 => ((tabardref01_Plus.f k1 t248 t249 bt253.1 bt253.2).bind fun bt257 => ((tabardref01_Plus.f k1 x247000_1 x247001_1 x247000_1 x247001_1).bind fun bt261 => ((tabardref01_Size.f k1 bt257.1 bt257.2 false t233).bind fun t265 => (if t265 ≥ 0 then ((tabardref01_Minus.f k1 false t233).bind fun bt266 => ((tabardref01_Plus.f k1 bt257.1 bt257.2 bt266.1 bt266.2).bind fun bt270 => ((tabardref01_Of.f k1 1).bind fun bt274 => ((tabardref01_Plus.f k1 bt261.1 bt261.2 bt274.1 bt274.2).bind fun bt278 => (tabardref01_Floor.l0 k1 a0 a1 (wrap64 (x10_1 - 1)) false t229 false t233 bt278.1 bt278.2 bt270.1 bt270.2))))) else (tabardref01_Floor.l0 k1 a0 a1 (wrap64 (x10_1 - 1)) false t229 false t233 bt261.1 bt261.2 bt257.1 bt257.2)))))) else (none)) = some (r1, r2) := H
     have A33 := Aside0.mk A330
     clear A330
     obtain ⟨ji34, hji34⟩ : ∃ j_ : Int, (IntKind.u64.wrap (Int.tmod x10_1 16)) = j_ := ⟨_, rfl⟩
     replace H : (if 0 ≤ (ji34) then ((tabardref01_Of.f k1 (wrap64 (Go.bits .and .u64 (shr .u64 t252 (ji34)) 1))).bind fun bt253 => ((tabardref01_Plus.f k1 t248 t249 bt253.1 bt253.2).bind fun bt257 => ((tabardref01_Plus.f k1 x247000_1 x247001_1 x247000_1 x247001_1).bind fun bt261 => ((tabardref01_Size.f k1 bt257.1 bt257.2 false t233).bind fun t265 => (if t265 ≥ 0 then ((tabardref01_Minus.f k1 false t233).bind fun bt266 => ((tabardref01_Plus.f k1 bt257.1 bt257.2 bt266.1 bt266.2).bind fun bt270 => ((tabardref01_Of.f k1 1).bind fun bt274 => ((tabardref01_Plus.f k1 bt261.1 bt261.2 bt274.1 bt274.2).bind fun bt278 => (tabardref01_Floor.l0 k1 a0 a1 (wrap64 (x10_1 - 1)) false t229 false t233 bt278.1 bt278.2 bt270.1 bt270.2))))) else (tabardref01_Floor.l0 k1 a0 a1 (wrap64 (x10_1 - 1)) false t229 false t233 bt261.1 bt261.2 bt257.1 bt257.2)))))) else (none)) = some (r1, r2) := by first | (rw [hji34] at H; exact H) | (simp only [hji34] at H ⊢; exact H)
     (try rw [hji34] at A32)
     (try rw [hji34] at A33)
     by_cases c35 : 0 ≤ (ji34)
     ·rw [if_pos c35] at H
      have c35b0 := eq_true c35
      have c35b1 : decide (0 ≤ (ji34)) = true := decide_eq_true c35
      clear c35
      obtain ⟨ji36, hji36⟩ : ∃ j_ : Int, (shr .u64 t252 (ji34)) = j_ := ⟨_, rfl⟩
      replace H : ((tabardref01_Of.f k1 (wrap64 (Go.bits .and .u64 (ji36) 1))).bind fun bt253 => ((tabardref01_Plus.f k1 t248 t249 bt253.1 bt253.2).bind fun bt257 => ((tabardref01_Plus.f k1 x247000_1 x247001_1 x247000_1 x247001_1).bind fun bt261 => ((tabardref01_Size.f k1 bt257.1 bt257.2 false t233).bind fun t265 => (if t265 ≥ 0 then ((tabardref01_Minus.f k1 false t233).bind fun bt266 => ((tabardref01_Plus.f k1 bt257.1 bt257.2 bt266.1 bt266.2).bind fun bt270 => ((tabardref01_Of.f k1 1).bind fun bt274 => ((tabardref01_Plus.f k1 bt261.1 bt261.2 bt274.1 bt274.2).bind fun bt278 => (tabardref01_Floor.l0 k1 a0 a1 (wrap64 (x10_1 - 1)) false t229 false t233 bt278.1 bt278.2 bt270.1 bt270.2))))) else (tabardref01_Floor.l0 k1 a0 a1 (wrap64 (x10_1 - 1)) false t229 false t233 bt261.1 bt261.2 bt257.1 bt257.2)))))) = some (r1, r2) := by first | (rw [hji36] at H; exact H) | (simp only [hji36] at H ⊢; exact H)
      (try rw [hji36] at A32)
      (try rw [hji36] at A33)
      have hji36_ : (t252 / 2 ^ min (ji34).toNat 64) = ji36 := hji36
      have hji36z : (ji34) ≤ 64 → (t252 / 2 ^ (ji34).toNat) = ji36 := shr_small hji36
      replace H := Option.bind_eq_some_iff.mp H
      obtain ⟨⟨t253, t254⟩, A370, H⟩ := H
      replace H : ((tabardref01_Plus.f k1 t248 t249 t253 t254).bind fun bt257 => ((tabardref01_Plus.f k1 x247000_1 x247001_1 x247000_1 x247001_1).bind fun bt261 => ((tabardref01_Size.f k1 bt257.1 bt257.2 false t233).bind fun t265 => (if t265 ≥ 0 then ((tabardref01_Minus.f k1 false t233).bind fun bt266 => ((tabardref01_Plus.f k1 bt257.1 bt257.2 bt266.1 bt266.2).bind fun bt270 => ((tabardref01_Of.f k1 1).bind fun bt274 => ((tabardref01_Plus.f k1 bt261.1 bt261.2 bt274.1 bt274.2).bind fun bt278 => (tabardref01_Floor.l0 k1 a0 a1 (wrap64 (x10_1 - 1)) false t229 false t233 bt278.1 bt278.2 bt270.1 bt270.2))))) else (tabardref01_Floor.l0 k1 a0 a1 (wrap64 (x10_1 - 1)) false t229 false t233 bt261.1 bt261.2 bt257.1 bt257.2))))) = some (r1, r2) := H
      have A37 := Aside0.mk A370
      clear A370
      replace H := Option.bind_eq_some_iff.mp H
      obtain ⟨⟨t257, t258⟩, A380, H⟩ := H
      replace H : ((tabardref01_Plus.f k1 x247000_1 x247001_1 x247000_1 x247001_1).bind fun bt261 => ((tabardref01_Size.f k1 t257 t258 false t233).bind fun t265 => (if t265 ≥ 0 then ((tabardref01_Minus.f k1 false t233).bind fun bt266 => ((tabardref01_Plus.f k1 t257 t258 bt266.1 bt266.2).bind fun bt270 => ((tabardref01_Of.f k1 1).bind fun bt274 => ((tabardref01_Plus.f k1 bt261.1 bt261.2 bt274.1 bt274.2).bind fun bt278 => (tabardref01_Floor.l0 k1 a0 a1 (wrap64 (x10_1 - 1)) false t229 false t233 bt278.1 bt278.2 bt270.1 bt270.2))))) else (tabardref01_Floor.l0 k1 a0 a1 (wrap64 (x10_1 - 1)) false t229 false t233 bt261.1 bt261.2 t257 t258)))) = some (r1, r2) := H
      have A38 := Aside0.mk A380
      clear A380
      replace H := Option.bind_eq_some_iff.mp H
      obtain ⟨⟨t261, t262⟩, A390, H⟩ := H
      replace H : ((tabardref01_Size.f k1 t257 t258 false t233).bind fun t265 => (if t265 ≥ 0 then ((tabardref01_Minus.f k1 false t233).bind fun bt266 => ((tabardref01_Plus.f k1 t257 t258 bt266.1 bt266.2).bind fun bt270 => ((tabardref01_Of.f k1 1).bind fun bt274 => ((tabardref01_Plus.f k1 t261 t262 bt274.1 bt274.2).bind fun bt278 => (tabardref01_Floor.l0 k1 a0 a1 (wrap64 (x10_1 - 1)) false t229 false t233 bt278.1 bt278.2 bt270.1 bt270.2))))) else (tabardref01_Floor.l0 k1 a0 a1 (wrap64 (x10_1 - 1)) false t229 false t233 t261 t262 t257 t258))) = some (r1, r2) := H
      have A39 := Aside0.mk A390
      clear A390
      replace H := Option.bind_eq_some_iff.mp H
      obtain ⟨t265, A400, H⟩ := H
      replace H : (if t265 ≥ 0 then ((tabardref01_Minus.f k1 false t233).bind fun bt266 => ((tabardref01_Plus.f k1 t257 t258 bt266.1 bt266.2).bind fun bt270 => ((tabardref01_Of.f k1 1).bind fun bt274 => ((tabardref01_Plus.f k1 t261 t262 bt274.1 bt274.2).bind fun bt278 => (tabardref01_Floor.l0 k1 a0 a1 (wrap64 (x10_1 - 1)) false t229 false t233 bt278.1 bt278.2 bt270.1 bt270.2))))) else (tabardref01_Floor.l0 k1 a0 a1 (wrap64 (x10_1 - 1)) false t229 false t233 t261 t262 t257 t258)) = some (r1, r2) := H
      have A40 := Aside0.mk A400
      clear A400
      by_cases c41 : t265 ≥ 0
      ·rw [if_pos c41] at H
       have c41b0 : decide (0 ≤ t265) = true := decide_eq_true c41
       clear c41
       replace H := Option.bind_eq_some_iff.mp H
       obtain ⟨⟨t266, t267⟩, A420, H⟩ := H
       replace H : ((tabardref01_Plus.f k1 t257 t258 t266 t267).bind fun bt270 => ((tabardref01_Of.f k1 1).bind fun bt274 => ((tabardref01_Plus.f k1 t261 t262 bt274.1 bt274.2).bind fun bt278 => (tabardref01_Floor.l0 k1 a0 a1 (wrap64 (x10_1 - 1)) false t229 false t233 bt278.1 bt278.2 bt270.1 bt270.2)))) = some (r1, r2) := H
       have A42 := Aside0.mk A420
       clear A420
       replace H := Option.bind_eq_some_iff.mp H
       obtain ⟨⟨t270, t271⟩, A430, H⟩ := H
       replace H : ((tabardref01_Of.f k1 1).bind fun bt274 => ((tabardref01_Plus.f k1 t261 t262 bt274.1 bt274.2).bind fun bt278 => (tabardref01_Floor.l0 k1 a0 a1 (wrap64 (x10_1 - 1)) false t229 false t233 bt278.1 bt278.2 t270 t271))) = some (r1, r2) := H
       have A43 := Aside0.mk A430
       clear A430
       replace H := Option.bind_eq_some_iff.mp H
       obtain ⟨⟨t274, t275⟩, A440, H⟩ := H
       replace H : ((tabardref01_Plus.f k1 t261 t262 t274 t275).bind fun bt278 => (tabardref01_Floor.l0 k1 a0 a1 (wrap64 (x10_1 - 1)) false t229 false t233 bt278.1 bt278.2 t270 t271)) = some (r1, r2) := H
       have A44 := Aside0.mk A440
       clear A440
       replace H := Option.bind_eq_some_iff.mp H
       obtain ⟨⟨t278, t279⟩, A450, H⟩ := H
       replace H : (tabardref01_Floor.l0 k1 a0 a1 (wrap64 (x10_1 - 1)) false t229 false t233 t278 t279 t270 t271) = some (r1, r2) := H
       have A45 := Aside0.mk A450
       clear A450
       have H' := Aside0.mk H
       clear H
       try go_wp2
       have n0_ := Aside0.mk (Kd.V_drew HO_237001.out)
       have n1_ := Aside0.mk (Kd.V_drew HO_238001.out)
       have n2_ := Aside0.mk (Kd.V_drew HO_247001.out)
       have n3_ := Aside0.mk (Kd.V_drew HO_248001.out)
       have n4_ := Aside0.mk (blk_drew BK236.out)
       have n5_ := Aside0.mk (blk_drew BK237.out)
       have n6_ := Aside0.mk (blk_drew BK246.out)
       have n7_ := Aside0.mk (blk_drew BK247.out)
       have n8_ := Aside0.mk (below_drew1 HB.out)
       clear HO_237001
       clear HO_238001
       clear HO_247001
       clear HO_248001
       clear BK236
       clear BK237
       clear BK246
       clear BK247
       clear HB
       have HO_237001 := n0_
       have HO_238001 := n1_
       have HO_247001 := n2_
       have HO_248001 := n3_
       have BK236 := n4_
       have BK237 := n5_
       have BK246 := n6_
       have BK247 := n7_
       have HB := n8_
       clear n0_ n1_ n2_ n3_ n4_ n5_ n6_ n7_ n8_
       obtain ⟨Ao47, co47, eo47⟩ := Kd.V_slice HO_248001.out
       (first | subst eo47 | (injection eo47 with f1_ f2_ f3_; have f4_ := f1_.symm; have f5_ := f3_.symm; clear f1_ f2_ f3_; subst f4_; subst f5_))
       refine start_ (n := 16) (S := fun w' => w'.cell? ⟨gb247, 0, none⟩ = some (.bool x248000_1) ∧ w'.cell? ⟨gb247, 1, none⟩ = some (.slice Ao47 x248001_1.length co47) ∧ w'.cell? ⟨gb236, 0, none⟩ = some (.bool false) ∧ w'.cell? ⟨gb236, 1, none⟩ = some (.slice Ao9 t229.length co9)) (ds := [15]) #[false, false, false, false, false, false, false, false, false, false, false, false, false, false, false, false] (by kernel_rfl) rfl rfl ⟨(blk_cell BK247.out 0).trans rfl, (blk_cell BK247.out 1).trans rfl, (blk_cell BK236.out 0).trans rfl, (blk_cell BK236.out 1).trans rfl⟩ (fun hHeld => ?_); refine with_tabW tabardref01_Floor.tab8 tabardref01_Floor.bits8 (fun HT_ HW_ => ?_)
       generalize wr.drew = w46 at HO_237001 HO_238001 HO_247001 HO_248001 BK236 BK237 BK246 BK247 HB hHeld ⊢
       refine pure_ (i := 4) (N := some 36) (v := ?_) (a' := ?_) #[false, false, false, false, true, false, false, false, false, false, false, false, false, false, false, false] rfl rfl (any_of HT_.out (by kernel_rfl)) (fun _ _ _ h => h) (Or.inl ⟨by rfl, ?_⟩) ?_ ?_
       rotate_left
       ·intro w'
        go_simp
        with_reducible rfl
       rotate_left
       ·simp only [Act.put, List.setIfInBounds_toArray, List.set_cons_zero, List.set_cons_succ, i64_w, i32_w]
        rfl
       refine pure_ (i := 5) (N := some 37) (v := ?_) (a' := ?_) #[false, false, false, false, true, true, false, false, false, false, false, false, false, false, false, false] rfl rfl (any_of HT_.out (by kernel_rfl)) (fun _ _ _ h => h) (Or.inl ⟨by rfl, ?_⟩) ?_ ?_
       rotate_left
       ·intro w'
        go_simp
        with_reducible rfl
       rotate_left
       ·simp only [Act.put, List.setIfInBounds_toArray, List.set_cons_zero, List.set_cons_succ, i64_w, i32_w]
        rfl
       refine pure_ (i := 7) (N := some 39) (v := ?_) (a' := ?_) #[false, false, false, false, true, true, false, true, false, false, false, false, false, false, false, false] rfl rfl (any_of HT_.out (by kernel_rfl)) (fun _ _ _ h => h) (Or.inl ⟨by rfl, ?_⟩) ?_ ?_
       rotate_left
       ·intro w'
        go_simp
        with_reducible rfl
       rotate_left
       ·simp only [Act.put, List.setIfInBounds_toArray, List.set_cons_zero, List.set_cons_succ, i64_w, i32_w]
        rfl
       refine pure_ (i := 8) (N := some 40) (v := ?_) (a' := ?_) #[false, false, false, false, true, true, false, true, true, false, false, false, false, false, false, false] rfl rfl (any_of HT_.out (by kernel_rfl)) (fun _ _ _ h => h) (Or.inl ⟨by rfl, ?_⟩) ?_ ?_
       rotate_left
       ·intro w'
        go_simp
        with_reducible rfl
       rotate_left
       ·simp only [Act.put, List.setIfInBounds_toArray, List.set_cons_zero, List.set_cons_succ, i64_w, i32_w]
        rfl
       refine pure_ (i := 9) (N := some 41) (v := ?_) (a' := ?_) #[false, false, false, false, true, true, false, true, true, true, false, false, false, false, false, false] rfl rfl (any_of HT_.out (by kernel_rfl)) (fun _ _ _ h => h) (Or.inl ⟨by rfl, ?_⟩) ?_ ?_
       rotate_left
       ·intro w'
        go_simp
        with_reducible rfl
       rotate_left
       ·simp only [Act.put, List.setIfInBounds_toArray, List.set_cons_zero, List.set_cons_succ, i64_w, i32_w]
        rfl
       refine take_ (i := 0) (N := some 32) (v := ?_) (a' := ?_) #[true, false, false, false, true, true, false, true, true, true, false, false, false, false, false, false] rfl rfl (take_ofW HT_.out HW_.out (by kernel_rfl)) (fun _ _ _ h => h) (Or.inl ⟨by rfl, ?_⟩) hHeld ?_ ?_
       rotate_left
       ·rintro w' ⟨s0, s1, s2, s3⟩
        go_simp
        with_reducible rfl
       rotate_left
       ·simp only [Act.put, List.setIfInBounds_toArray, List.set_cons_zero, List.set_cons_succ, i64_w, i32_w]
        rfl
       refine take_ (i := 1) (N := some 33) (v := ?_) (a' := ?_) #[true, true, false, false, true, true, false, true, true, true, false, false, false, false, false, false] rfl rfl (take_ofW HT_.out HW_.out (by kernel_rfl)) (fun _ _ _ h => h) (Or.inl ⟨by rfl, ?_⟩) hHeld ?_ ?_
       rotate_left
       ·rintro w' ⟨s0, s1, s2, s3⟩
        go_simp
        with_reducible rfl
       rotate_left
       ·simp only [Act.put, List.setIfInBounds_toArray, List.set_cons_zero, List.set_cons_succ, i64_w, i32_w]
        rfl
       refine take_ (i := 3) (N := some 35) (v := ?_) (a' := ?_) #[true, true, false, true, true, true, false, true, true, true, false, false, false, false, false, false] rfl rfl (take_ofW HT_.out HW_.out (by kernel_rfl)) (fun _ _ _ h => h) (Or.inl ⟨by rfl, ?_⟩) hHeld ?_ ?_
       rotate_left
       ·rintro w' ⟨s0, s1, s2, s3⟩
        go_simp
        with_reducible rfl
       rotate_left
       ·simp only [Act.put, List.setIfInBounds_toArray, List.set_cons_zero, List.set_cons_succ, i64_w, i32_w]
        rfl
       refine one_ (i := 2) (N := some 34) #[true, true, true, true, true, true, false, true, true, true, false, false, false, false, false, false] rfl rfl (one_of HT_.out (by kernel_rfl)) (by decide) (fun K hK => ?_)
       refine goes_ Try.func46 (by kernel_rfl) rfl #[.agg #[.bool x248000_1, .slice Ao47 x248001_1.length co47], .agg #[.bool x248000_1, .slice Ao47 x248001_1.length co47]] (by rfl) rfl rfl mO ?_
       with_reducible refine (tabardref01_Plus.calls k1 x248000_1 _ _ x248001_1 x248000_1 _ _ x248001_1 t248 t249 _ ?side1 ?side2 ?side3 ?side4 A32.out).mono ?_
       (case side1 => exact cO (Kd.V_reads' HO_248001.out).2.2)
       (case side2 => exact (Kd.V_reads' HO_248001.out).2.1)
       (case side3 => exact cO (Kd.V_reads' HO_248001.out).2.2)
       (case side4 => exact (Kd.V_reads' HO_248001.out).2.1)
       rintro e w48 ⟨v250, rfl, ho0, hb⟩
       refine ⟨_, rfl, ?_⟩
       have n0_ := Aside0.mk (Kd.V_below (vO HO_237001.out) hb)
       have n1_ := Aside0.mk (Kd.V_below (vO HO_238001.out) hb)
       have n2_ := Aside0.mk (Kd.V_below (vO HO_247001.out) hb)
       have n3_ := Aside0.mk (Kd.V_below (vO HO_248001.out) hb)
       have n4_ := Aside0.mk (Kd.V_lower (Kd.V_mono (ok' := fun k_ => k_ ≠ gb236 ∧ k_ ≠ gb237 ∧ k_ ≠ gb246 ∧ k_ ≠ gb247) ho0 (fun k_ hk_ => ⟨(Kd.freshB (g := gb236) (o := .cells #[.bool false, .slice Ao9 t229.length co9] 59 (0, 0)) (kO BK236.out) k_ hk_), (Kd.freshB (g := gb237) (o := .cells #[.bool false, .slice Ao11 t233.length co11] 59 (0, 0)) (kO BK237.out) k_ hk_), (Kd.freshB (g := gb246) (o := .cells #[.bool x247000_1, u247001] 59 (0, 0)) (kO BK246.out) k_ hk_), (Kd.freshB (g := gb247) (o := .cells #[.bool x248000_1, .slice Ao47 x248001_1.length co47] 59 (0, 0)) (kO BK247.out) k_ hk_)⟩)) (below_size (by repeat (first | (with_reducible first | exact HB.out | apply below_alloc | apply pw_below_drewN | apply below_drew1 | refine below_set ?_ GE236.out | refine below_set ?_ GE237.out | refine below_set ?_ GE246.out | refine below_set ?_ GE247.out) | exact HB.out))))
       have n5_ := Aside0.mk (blk_below (g := gb236) (o := .cells #[.bool false, .slice Ao9 t229.length co9] 59 (0, 0)) (kO BK236.out) hb)
       have n6_ := Aside0.mk (blk_below (g := gb237) (o := .cells #[.bool false, .slice Ao11 t233.length co11] 59 (0, 0)) (kO BK237.out) hb)
       have n7_ := Aside0.mk (blk_below (g := gb246) (o := .cells #[.bool x247000_1, u247001] 59 (0, 0)) (kO BK246.out) hb)
       have n8_ := Aside0.mk (blk_below (g := gb247) (o := .cells #[.bool x248000_1, .slice Ao47 x248001_1.length co47] 59 (0, 0)) (kO BK247.out) hb)
       have n9_ := Aside0.mk (below_step (by repeat (first | (with_reducible first | exact HB.out | apply below_alloc | apply pw_below_drewN | apply below_drew1 | refine below_set ?_ GE236.out | refine below_set ?_ GE237.out | refine below_set ?_ GE246.out | refine below_set ?_ GE247.out) | exact HB.out)) hb)
       clear HO_237001
       clear HO_238001
       clear HO_247001
       clear HO_248001
       clear BK236
       clear BK237
       clear BK246
       clear BK247
       clear HB
       have HO_237001 := n0_
       have HO_238001 := n1_
       have HO_247001 := n2_
       have HO_248001 := n3_
       have HO251 := n4_
       have BK236 := n5_
       have BK237 := n6_
       have BK246 := n7_
       have BK247 := n8_
       have HB := n9_
       clear n0_ n1_ n2_ n3_ n4_ n5_ n6_ n7_ n8_ n9_
       (try clear hb)
       (try clear hb2)
       (try clear hk)
       (try clear hi)
       (try clear ho0)
       refine hK.out _ _ ⟨(blk_cell BK247.out 0).trans rfl, (blk_cell BK247.out 1).trans rfl, (blk_cell BK236.out 0).trans rfl, (blk_cell BK236.out 1).trans rfl⟩ (fun hHeld => ?_)
       clear hK K
       refine norm_ (a' := ?_) ?_ ?_
       rotate_left
       ·show Act.put _ (some 34) _ = _
        simp only [Act.put, List.setIfInBounds_toArray, List.set_cons_zero, List.set_cons_succ, i64_w, i32_w]
        rfl
       refine one_ (i := 6) (N := some 38) #[true, true, true, true, true, true, true, true, true, true, false, false, false, false, false, false] rfl rfl (one_of HT_.out (by kernel_rfl)) (by decide) (fun K hK => ?_)
       refine goes_ Try.func47 (by kernel_rfl) rfl #[.agg #[.bool false, .slice Ao9 t229.length co9], .int .i64 (wrap64 (Int.tdiv x10_1 16))] (by rfl) rfl rfl mO ?_
       with_reducible refine (tabardref01_Wide_digit.calls false _ _ t229 (wrap64 (Int.tdiv x10_1 16)) t252 _ ?side1 ?side2 A33.out).mono ?_
       (case side1 => exact cO (Kd.V_reads' HO_237001.out).2.2)
       (case side2 => exact (Kd.V_reads' HO_237001.out).2.1)
       rintro e w49 ⟨rfl, hb⟩
       refine ⟨_, rfl, ?_⟩
       have n0_ := Aside0.mk (Kd.V_below (vO HO_237001.out) hb)
       have n1_ := Aside0.mk (Kd.V_below (vO HO_238001.out) hb)
       have n2_ := Aside0.mk (Kd.V_below (vO HO_247001.out) hb)
       have n3_ := Aside0.mk (Kd.V_below (vO HO_248001.out) hb)
       have n4_ := Aside0.mk (Kd.V_below (vO HO251.out) hb)
       have n5_ := Aside0.mk (blk_below (g := gb236) (o := .cells #[.bool false, .slice Ao9 t229.length co9] 59 (0, 0)) (kO BK236.out) hb)
       have n6_ := Aside0.mk (blk_below (g := gb237) (o := .cells #[.bool false, .slice Ao11 t233.length co11] 59 (0, 0)) (kO BK237.out) hb)
       have n7_ := Aside0.mk (blk_below (g := gb246) (o := .cells #[.bool x247000_1, u247001] 59 (0, 0)) (kO BK246.out) hb)
       have n8_ := Aside0.mk (blk_below (g := gb247) (o := .cells #[.bool x248000_1, .slice Ao47 x248001_1.length co47] 59 (0, 0)) (kO BK247.out) hb)
       have n9_ := Aside0.mk (below_step (by repeat (first | (with_reducible first | exact HB.out | apply below_alloc | apply pw_below_drewN | apply below_drew1 | refine below_set ?_ GE236.out | refine below_set ?_ GE237.out | refine below_set ?_ GE246.out | refine below_set ?_ GE247.out) | exact HB.out)) hb)
       clear HO_237001
       clear HO_238001
       clear HO_247001
       clear HO_248001
       clear HO251
       clear BK236
       clear BK237
       clear BK246
       clear BK247
       clear HB
       have HO_237001 := n0_
       have HO_238001 := n1_
       have HO_247001 := n2_
       have HO_248001 := n3_
       have HO251 := n4_
       have BK236 := n5_
       have BK237 := n6_
       have BK246 := n7_
       have BK247 := n8_
       have HB := n9_
       clear n0_ n1_ n2_ n3_ n4_ n5_ n6_ n7_ n8_ n9_
       (try clear hb)
       (try clear hb2)
       (try clear hk)
       (try clear hi)
       refine hK.out _ _ ⟨(blk_cell BK247.out 0).trans rfl, (blk_cell BK247.out 1).trans rfl, (blk_cell BK236.out 0).trans rfl, (blk_cell BK236.out 1).trans rfl⟩ (fun hHeld => ?_)
       clear hK K
       refine norm_ (a' := ?_) ?_ ?_
       rotate_left
       ·show Act.put _ (some 38) _ = _
        simp only [Act.put, List.setIfInBounds_toArray, List.set_cons_zero, List.set_cons_succ, i64_w, i32_w]
        rfl
       refine pure_ (i := 10) (N := some 42) (v := ?_) (a' := ?_) #[true, true, true, true, true, true, true, true, true, true, true, false, false, false, false, false] rfl rfl (any_of HT_.out (by kernel_rfl)) (fun _ _ _ h => h) (Or.inl ⟨by rfl, ?_⟩) ?_ ?_
       rotate_left
       ·intro w'
        go_simp
        with_reducible rfl
       rotate_left
       ·simp only [Act.put, List.setIfInBounds_toArray, List.set_cons_zero, List.set_cons_succ, i64_w, i32_w]
        rfl
       refine pure_ (i := 11) (N := some 43) (v := ?_) (a' := ?_) #[true, true, true, true, true, true, true, true, true, true, true, true, false, false, false, false] rfl rfl (any_of HT_.out (by kernel_rfl)) (fun _ _ _ h => h) (Or.inl ⟨by rfl, ?_⟩) ?_ ?_
       rotate_left
       ·intro w'
        go_simp
        with_reducible rfl
       rotate_left
       ·simp only [Act.put, List.setIfInBounds_toArray, List.set_cons_zero, List.set_cons_succ, i64_w, i32_w]
        rfl
       refine pure_ (i := 12) (N := some 44) (v := ?_) (a' := ?_) #[true, true, true, true, true, true, true, true, true, true, true, true, true, false, false, false] rfl rfl (any_of HT_.out (by kernel_rfl)) (fun _ _ _ h => h) (Or.inl ⟨by rfl, ?_⟩) ?_ ?_
       rotate_left
       ·intro w'
        go_simp
        with_reducible rfl
       rotate_left
       ·simp only [Act.put, List.setIfInBounds_toArray, List.set_cons_zero, List.set_cons_succ, i64_w, i32_w]
        rfl
       refine one_ (i := 13) (N := some 45) #[true, true, true, true, true, true, true, true, true, true, true, true, true, true, false, false] rfl rfl (one_of HT_.out (by kernel_rfl)) (by decide) (fun K hK => ?_)
       refine goes_ Try.func45 (by kernel_rfl) rfl #[.int .i64 (wrap64 (Go.bits .and .u64 (ji36) 1))] (by rfl) rfl rfl (by (try simp only [List.map_toArray, List.map_cons, List.map_nil]); first | done | (simp only [hji36]; rfl) | rfl | (simp only [List.length_drop, List.length_take]; rfl)) ?_
       with_reducible refine (tabardref01_Of.calls k1 (wrap64 (Go.bits .and .u64 (ji36) 1)) t253 t254 _ A37.out).mono ?_
       rintro e w50 ⟨v255, rfl, ho0, hb⟩
       refine ⟨_, rfl, ?_⟩
       have n0_ := Aside0.mk (Kd.V_below (vO HO_237001.out) hb)
       have n1_ := Aside0.mk (Kd.V_below (vO HO_238001.out) hb)
       have n2_ := Aside0.mk (Kd.V_below (vO HO_247001.out) hb)
       have n3_ := Aside0.mk (Kd.V_below (vO HO_248001.out) hb)
       have n4_ := Aside0.mk (Kd.V_below (vO HO251.out) hb)
       have n5_ := Aside0.mk (Kd.V_lower (Kd.V_mono (ok' := fun k_ => k_ ≠ gb236 ∧ k_ ≠ gb237 ∧ k_ ≠ gb246 ∧ k_ ≠ gb247) ho0 (fun k_ hk_ => ⟨(Kd.freshB (g := gb236) (o := .cells #[.bool false, .slice Ao9 t229.length co9] 59 (0, 0)) (kO BK236.out) k_ hk_), (Kd.freshB (g := gb237) (o := .cells #[.bool false, .slice Ao11 t233.length co11] 59 (0, 0)) (kO BK237.out) k_ hk_), (Kd.freshB (g := gb246) (o := .cells #[.bool x247000_1, u247001] 59 (0, 0)) (kO BK246.out) k_ hk_), (Kd.freshB (g := gb247) (o := .cells #[.bool x248000_1, .slice Ao47 x248001_1.length co47] 59 (0, 0)) (kO BK247.out) k_ hk_)⟩)) (below_size (by repeat (first | (with_reducible first | exact HB.out | apply below_alloc | apply pw_below_drewN | apply below_drew1 | refine below_set ?_ GE236.out | refine below_set ?_ GE237.out | refine below_set ?_ GE246.out | refine below_set ?_ GE247.out) | exact HB.out))))
       have n6_ := Aside0.mk (blk_below (g := gb236) (o := .cells #[.bool false, .slice Ao9 t229.length co9] 59 (0, 0)) (kO BK236.out) hb)
       have n7_ := Aside0.mk (blk_below (g := gb237) (o := .cells #[.bool false, .slice Ao11 t233.length co11] 59 (0, 0)) (kO BK237.out) hb)
       have n8_ := Aside0.mk (blk_below (g := gb246) (o := .cells #[.bool x247000_1, u247001] 59 (0, 0)) (kO BK246.out) hb)
       have n9_ := Aside0.mk (blk_below (g := gb247) (o := .cells #[.bool x248000_1, .slice Ao47 x248001_1.length co47] 59 (0, 0)) (kO BK247.out) hb)
       have n10_ := Aside0.mk (below_step (by repeat (first | (with_reducible first | exact HB.out | apply below_alloc | apply pw_below_drewN | apply below_drew1 | refine below_set ?_ GE236.out | refine below_set ?_ GE237.out | refine below_set ?_ GE246.out | refine below_set ?_ GE247.out) | exact HB.out)) hb)
       clear HO_237001
       clear HO_238001
       clear HO_247001
       clear HO_248001
       clear HO251
       clear BK236
       clear BK237
       clear BK246
       clear BK247
       clear HB
       have HO_237001 := n0_
       have HO_238001 := n1_
       have HO_247001 := n2_
       have HO_248001 := n3_
       have HO251 := n4_
       have HO256 := n5_
       have BK236 := n6_
       have BK237 := n7_
       have BK246 := n8_
       have BK247 := n9_
       have HB := n10_
       clear n0_ n1_ n2_ n3_ n4_ n5_ n6_ n7_ n8_ n9_ n10_
       (try clear hb)
       (try clear hb2)
       (try clear hk)
       (try clear hi)
       (try clear ho0)
       obtain ⟨Ao51, co51, eo51⟩ := Kd.V_slice HO251.out
       (first | subst eo51 | (injection eo51 with f1_ f2_ f3_; have f4_ := f1_.symm; have f5_ := f3_.symm; clear f1_ f2_ f3_; subst f4_; subst f5_))
       obtain ⟨Ao52, co52, eo52⟩ := Kd.V_slice HO256.out
       (first | subst eo52 | (injection eo52 with f1_ f2_ f3_; have f4_ := f1_.symm; have f5_ := f3_.symm; clear f1_ f2_ f3_; subst f4_; subst f5_))
       refine hK.out _ _ ⟨(blk_cell BK247.out 0).trans rfl, (blk_cell BK247.out 1).trans rfl, (blk_cell BK236.out 0).trans rfl, (blk_cell BK236.out 1).trans rfl⟩ (fun hHeld => ?_)
       clear hK K
       refine norm_ (a' := ?_) ?_ ?_
       rotate_left
       ·show Act.put _ (some 45) _ = _
        simp only [Act.put, List.setIfInBounds_toArray, List.set_cons_zero, List.set_cons_succ, i64_w, i32_w]
        rfl
       refine one_ (i := 14) (N := some 46) #[true, true, true, true, true, true, true, true, true, true, true, true, true, true, true, false] rfl rfl (one_of HT_.out (by kernel_rfl)) (by decide) (fun K hK => ?_)
       refine goes_ Try.func46 (by kernel_rfl) rfl #[.agg #[.bool t248, .slice Ao51 t249.length co51], .agg #[.bool t253, .slice Ao52 t254.length co52]] (by rfl) rfl rfl mO ?_
       with_reducible refine (tabardref01_Plus.calls k1 t248 _ _ t249 t253 _ _ t254 t257 t258 _ ?side1 ?side2 ?side3 ?side4 A38.out).mono ?_
       (case side1 => exact cO (Kd.V_reads' HO251.out).2.2)
       (case side2 => exact (Kd.V_reads' HO251.out).2.1)
       (case side3 => exact cO (Kd.V_reads' HO256.out).2.2)
       (case side4 => exact (Kd.V_reads' HO256.out).2.1)
       rintro e w53 ⟨v259, rfl, ho0, hb⟩
       refine ⟨_, rfl, ?_⟩
       have n0_ := Aside0.mk (Kd.V_below (vO HO_237001.out) hb)
       have n1_ := Aside0.mk (Kd.V_below (vO HO_238001.out) hb)
       have n2_ := Aside0.mk (Kd.V_below (vO HO_247001.out) hb)
       have n3_ := Aside0.mk (Kd.V_below (vO HO_248001.out) hb)
       have n4_ := Aside0.mk (Kd.V_below (vO HO251.out) hb)
       have n5_ := Aside0.mk (Kd.V_below (vO HO256.out) hb)
       have n6_ := Aside0.mk (Kd.V_lower (Kd.V_mono (ok' := fun k_ => k_ ≠ gb236 ∧ k_ ≠ gb237 ∧ k_ ≠ gb246 ∧ k_ ≠ gb247) ho0 (fun k_ hk_ => ⟨(Kd.freshB (g := gb236) (o := .cells #[.bool false, .slice Ao9 t229.length co9] 59 (0, 0)) (kO BK236.out) k_ hk_), (Kd.freshB (g := gb237) (o := .cells #[.bool false, .slice Ao11 t233.length co11] 59 (0, 0)) (kO BK237.out) k_ hk_), (Kd.freshB (g := gb246) (o := .cells #[.bool x247000_1, u247001] 59 (0, 0)) (kO BK246.out) k_ hk_), (Kd.freshB (g := gb247) (o := .cells #[.bool x248000_1, .slice Ao47 x248001_1.length co47] 59 (0, 0)) (kO BK247.out) k_ hk_)⟩)) (below_size (by repeat (first | (with_reducible first | exact HB.out | apply below_alloc | apply pw_below_drewN | apply below_drew1 | refine below_set ?_ GE236.out | refine below_set ?_ GE237.out | refine below_set ?_ GE246.out | refine below_set ?_ GE247.out) | exact HB.out))))
       have n7_ := Aside0.mk (blk_below (g := gb236) (o := .cells #[.bool false, .slice Ao9 t229.length co9] 59 (0, 0)) (kO BK236.out) hb)
       have n8_ := Aside0.mk (blk_below (g := gb237) (o := .cells #[.bool false, .slice Ao11 t233.length co11] 59 (0, 0)) (kO BK237.out) hb)
       have n9_ := Aside0.mk (blk_below (g := gb246) (o := .cells #[.bool x247000_1, u247001] 59 (0, 0)) (kO BK246.out) hb)
       have n10_ := Aside0.mk (blk_below (g := gb247) (o := .cells #[.bool x248000_1, .slice Ao47 x248001_1.length co47] 59 (0, 0)) (kO BK247.out) hb)
       have n11_ := Aside0.mk (below_step (by repeat (first | (with_reducible first | exact HB.out | apply below_alloc | apply pw_below_drewN | apply below_drew1 | refine below_set ?_ GE236.out | refine below_set ?_ GE237.out | refine below_set ?_ GE246.out | refine below_set ?_ GE247.out) | exact HB.out)) hb)
       clear HO_237001
       clear HO_238001
       clear HO_247001
       clear HO_248001
       clear HO251
       clear HO256
       clear BK236
       clear BK237
       clear BK246
       clear BK247
       clear HB
       have HO_237001 := n0_
       have HO_238001 := n1_
       have HO_247001 := n2_
       have HO_248001 := n3_
       have HO251 := n4_
       have HO256 := n5_
       have HO260 := n6_
       have BK236 := n7_
       have BK237 := n8_
       have BK246 := n9_
       have BK247 := n10_
       have HB := n11_
       clear n0_ n1_ n2_ n3_ n4_ n5_ n6_ n7_ n8_ n9_ n10_ n11_
       (try clear hb)
       (try clear hb2)
       (try clear hk)
       (try clear hi)
       (try clear ho0)
       obtain ⟨Ao55, co55, eo55⟩ := Kd.V_slice HO260.out
       (first | subst eo55 | (injection eo55 with f1_ f2_ f3_; have f4_ := f1_.symm; have f5_ := f3_.symm; clear f1_ f2_ f3_; subst f4_; subst f5_))
       refine hK.out _ _ ⟨(blk_cell BK247.out 0).trans rfl, (blk_cell BK247.out 1).trans rfl, (blk_cell BK236.out 0).trans rfl, (blk_cell BK236.out 1).trans rfl⟩ (fun hHeld => ?_)
       clear hK K
       refine norm_ (a' := ?_) ?_ ?_
       rotate_left
       ·show Act.put _ (some 46) _ = _
        simp only [Act.put, List.setIfInBounds_toArray, List.set_cons_zero, List.set_cons_succ, i64_w, i32_w]
        rfl
       refine last_ (i := 15) (N := none) #[true, true, true, true, true, true, true, true, true, true, true, true, true, true, true, true] rfl rfl (one_of HT_.out (by kernel_rfl)) (by decide) (fun K hK => ?_)
       have hs54 : w53.cell? ⟨gb247, 0, none⟩ = some (.bool x248000_1) := (blk_cell BK247.out 0).trans rfl
       have hfs54 := blk_frozen BK247.out 0
       have hns54_0 := NB236_247.out
       have hns54_1 := NB237_247.out
       have hns54_2 := NB246_247.out
       have hms54_0 := NB247_236.out
       have hms54_1 := NB247_237.out
       have hms54_2 := NB247_246.out
       have hs56 : w53.cell? ⟨gb247, 1, none⟩ = some (.slice Ao47 x248001_1.length co47) := (blk_cell BK247.out 1).trans rfl
       have hfs56 := blk_frozen BK247.out 1
       have hns56_0 := NB236_247.out
       have hns56_1 := NB237_247.out
       have hns56_2 := NB246_247.out
       have hms56_0 := NB247_236.out
       have hms56_1 := NB247_237.out
       have hms56_2 := NB247_246.out
       refine skip_ (w1 := ?_) (by rfl) rfl ?_ ?_
       rotate_left
       ·go_simp
        rfl
       refine hK.out _ _ ?_
       clear hK K
       refine done_ (done_of HT_.out (by kernel_rfl)) ?_
       have hnb57 := NB246_236.out
       have hnc57 := NB236_246.out
       have hnb58 := NB246_237.out
       have hnc58 := NB237_246.out
       have hnb59 := NB246_247.out
       have hnc59 := NB247_246.out
       have hcz60_0 : w53.cell? ⟨gb246, 0, none⟩ = some (.bool x247000_1) := (blk_cell BK246.out 0).trans rfl
       have hcz60_1 : w53.cell? ⟨gb246, 1, none⟩ = some (u247001) := (blk_cell BK246.out 1).trans rfl
       have hfz60_0 := blk_frozen BK246.out 0
       have hfz60_1 := blk_frozen BK246.out 1
       obtain ⟨Ao61, co61, eo61⟩ := Kd.V_slice HO_247001.out
       subst eo61
       try go_wp2_with (first | ((with_reducible refine gate_callee (f := 46) rfl ?_); refine goesL_ (some 49) rfl rfl Try.func46 (by kernel_rfl) rfl #[.agg #[.bool x247000_1, .slice Ao61 x247001_1.length co61], .agg #[.bool x247000_1, .slice Ao61 x247001_1.length co61]] rfl mO ?_; (with_reducible refine (tabardref01_Plus.calls k1 x247000_1 _ _ x247001_1 x247000_1 _ _ x247001_1 t261 t262 _ ?side1 ?side2 ?side3 ?side4 A39.out).mono ?_); (case side1 => refine (Kd.V_reads' (e := 63) (base := w.heap.size) (ok := fun k_ => (k_ ≠ gb236 ∧ (k_ ≠ gb237 ∧ (k_ ≠ gb246 ∧ k_ ≠ gb247)))) (n := x247001_1.length) (c := co61) ?_).2.2; exact (by (with_reducible repeat (first | apply Kd.V_alloc | apply Kd.V_drewN | apply Kd.V_drew)); exact (Kd.V_mono (Kd.V_far (p := ⟨gb247, 1, none⟩) (Kd.V_far (p := ⟨gb247, 0, none⟩) (Kd.V_mono HO_247001.out (fun k_ hk => (⟨hk, hk.2.2.2⟩ : _ ∧ k_ ≠ gb247))) (fun _ hk => hk.2) (.bool t257)) (fun _ hk => hk.2) (.slice Ao55 t258.length co55)) (fun _ h_ => h_.1)))); (case side2 => exact (Kd.V_reads' HO_247001.out).2.1); (case side3 => refine (Kd.V_reads' (e := 63) (base := w.heap.size) (ok := fun k_ => (k_ ≠ gb236 ∧ (k_ ≠ gb237 ∧ (k_ ≠ gb246 ∧ k_ ≠ gb247)))) (n := x247001_1.length) (c := co61) ?_).2.2; exact (by (with_reducible repeat (first | apply Kd.V_alloc | apply Kd.V_drewN | apply Kd.V_drew)); exact (Kd.V_mono (Kd.V_far (p := ⟨gb247, 1, none⟩) (Kd.V_far (p := ⟨gb247, 0, none⟩) (Kd.V_mono HO_247001.out (fun k_ hk => (⟨hk, hk.2.2.2⟩ : _ ∧ k_ ≠ gb247))) (fun _ hk => hk.2) (.bool t257)) (fun _ hk => hk.2) (.slice Ao55 t258.length co55)) (fun _ h_ => h_.1)))); (case side4 => exact (Kd.V_reads' HO_247001.out).2.1); rintro e w62 ⟨v263, rfl, ho0, hb⟩; refine ⟨_, rfl, ?_⟩; have n0_ := Aside0.mk (Kd.V_below (by (with_reducible repeat (first | apply Kd.V_alloc | apply Kd.V_drewN | apply Kd.V_drew)); exact (Kd.V_mono (Kd.V_far (p := ⟨gb247, 1, none⟩) (Kd.V_far (p := ⟨gb247, 0, none⟩) (Kd.V_mono HO_237001.out (fun k_ hk => (⟨hk, hk.2.2.2⟩ : _ ∧ k_ ≠ gb247))) (fun _ hk => hk.2) (.bool t257)) (fun _ hk => hk.2) (.slice Ao55 t258.length co55)) (fun _ h_ => h_.1))) hb); have n1_ := Aside0.mk (Kd.V_below (by (with_reducible repeat (first | apply Kd.V_alloc | apply Kd.V_drewN | apply Kd.V_drew)); exact (Kd.V_mono (Kd.V_far (p := ⟨gb247, 1, none⟩) (Kd.V_far (p := ⟨gb247, 0, none⟩) (Kd.V_mono HO_238001.out (fun k_ hk => (⟨hk, hk.2.2.2⟩ : _ ∧ k_ ≠ gb247))) (fun _ hk => hk.2) (.bool t257)) (fun _ hk => hk.2) (.slice Ao55 t258.length co55)) (fun _ h_ => h_.1))) hb); have n2_ := Aside0.mk (Kd.V_below (by (with_reducible repeat (first | apply Kd.V_alloc | apply Kd.V_drewN | apply Kd.V_drew)); exact (Kd.V_mono (Kd.V_far (p := ⟨gb247, 1, none⟩) (Kd.V_far (p := ⟨gb247, 0, none⟩) (Kd.V_mono HO_247001.out (fun k_ hk => (⟨hk, hk.2.2.2⟩ : _ ∧ k_ ≠ gb247))) (fun _ hk => hk.2) (.bool t257)) (fun _ hk => hk.2) (.slice Ao55 t258.length co55)) (fun _ h_ => h_.1))) hb); have n3_ := Aside0.mk (Kd.V_below (by (with_reducible repeat (first | apply Kd.V_alloc | apply Kd.V_drewN | apply Kd.V_drew)); exact (Kd.V_mono (Kd.V_far (p := ⟨gb247, 1, none⟩) (Kd.V_far (p := ⟨gb247, 0, none⟩) (Kd.V_mono HO_248001.out (fun k_ hk => (⟨hk, hk.2.2.2⟩ : _ ∧ k_ ≠ gb247))) (fun _ hk => hk.2) (.bool t257)) (fun _ hk => hk.2) (.slice Ao55 t258.length co55)) (fun _ h_ => h_.1))) hb); have n4_ := Aside0.mk (Kd.V_below (by (with_reducible repeat (first | apply Kd.V_alloc | apply Kd.V_drewN | apply Kd.V_drew)); exact (Kd.V_mono (Kd.V_far (p := ⟨gb247, 1, none⟩) (Kd.V_far (p := ⟨gb247, 0, none⟩) (Kd.V_mono HO251.out (fun k_ hk => (⟨hk, hk.2.2.2⟩ : _ ∧ k_ ≠ gb247))) (fun _ hk => hk.2) (.bool t257)) (fun _ hk => hk.2) (.slice Ao55 t258.length co55)) (fun _ h_ => h_.1))) hb); have n5_ := Aside0.mk (Kd.V_below (by (with_reducible repeat (first | apply Kd.V_alloc | apply Kd.V_drewN | apply Kd.V_drew)); exact (Kd.V_mono (Kd.V_far (p := ⟨gb247, 1, none⟩) (Kd.V_far (p := ⟨gb247, 0, none⟩) (Kd.V_mono HO256.out (fun k_ hk => (⟨hk, hk.2.2.2⟩ : _ ∧ k_ ≠ gb247))) (fun _ hk => hk.2) (.bool t257)) (fun _ hk => hk.2) (.slice Ao55 t258.length co55)) (fun _ h_ => h_.1))) hb); have n6_ := Aside0.mk (Kd.V_below (by (with_reducible repeat (first | apply Kd.V_alloc | apply Kd.V_drewN | apply Kd.V_drew)); exact (Kd.V_mono (Kd.V_far (p := ⟨gb247, 1, none⟩) (Kd.V_far (p := ⟨gb247, 0, none⟩) (Kd.V_mono HO260.out (fun k_ hk => (⟨hk, hk.2.2.2⟩ : _ ∧ k_ ≠ gb247))) (fun _ hk => hk.2) (.bool t257)) (fun _ hk => hk.2) (.slice Ao55 t258.length co55)) (fun _ h_ => h_.1))) hb); have n7_ := Aside0.mk (Kd.V_lower (Kd.V_mono (ok' := fun k_ => k_ ≠ gb236 ∧ k_ ≠ gb237 ∧ k_ ≠ gb246 ∧ k_ ≠ gb247) ho0 (fun k_ hk_ => ⟨(Kd.freshB (g := gb236) (o := .cells #[.bool false, .slice Ao9 t229.length co9] 59 (0, 0)) (by (with_reducible repeat (first | refine blk_drewN ?_ _ | refine blk_drew ?_ | refine blk_alloc ?_ _)); refine blk_far ?_ NB236_247.out _; (with_reducible repeat (first | refine blk_drewN ?_ _ | refine blk_drew ?_ | refine blk_alloc ?_ _)); refine blk_far ?_ NB236_247.out _; (with_reducible repeat (first | refine blk_drewN ?_ _ | refine blk_drew ?_ | refine blk_alloc ?_ _)); exact BK236.out) k_ hk_), (Kd.freshB (g := gb237) (o := .cells #[.bool false, .slice Ao11 t233.length co11] 59 (0, 0)) (by (with_reducible repeat (first | refine blk_drewN ?_ _ | refine blk_drew ?_ | refine blk_alloc ?_ _)); refine blk_far ?_ NB237_247.out _; (with_reducible repeat (first | refine blk_drewN ?_ _ | refine blk_drew ?_ | refine blk_alloc ?_ _)); refine blk_far ?_ NB237_247.out _; (with_reducible repeat (first | refine blk_drewN ?_ _ | refine blk_drew ?_ | refine blk_alloc ?_ _)); exact BK237.out) k_ hk_), (Kd.freshB (g := gb246) (o := .cells #[.bool x247000_1, .slice Ao61 x247001_1.length co61] 59 (0, 0)) (by (with_reducible repeat (first | refine blk_drewN ?_ _ | refine blk_drew ?_ | refine blk_alloc ?_ _)); refine blk_far ?_ NB246_247.out _; (with_reducible repeat (first | refine blk_drewN ?_ _ | refine blk_drew ?_ | refine blk_alloc ?_ _)); refine blk_far ?_ NB246_247.out _; (with_reducible repeat (first | refine blk_drewN ?_ _ | refine blk_drew ?_ | refine blk_alloc ?_ _)); exact BK246.out) k_ hk_), (Kd.freshB (g := gb247) (o := .cells #[.bool t257, .slice Ao55 t258.length co55] 59 (0, 0)) (by (with_reducible repeat (first | refine blk_drewN ?_ _ | refine blk_drew ?_ | refine blk_alloc ?_ _)); refine blk_put (cs := #[.bool t257, .slice Ao47 x248001_1.length co47]) ?_ 1 _ rfl; (with_reducible repeat (first | refine blk_drewN ?_ _ | refine blk_drew ?_ | refine blk_alloc ?_ _)); refine blk_put (cs := #[.bool x248000_1, .slice Ao47 x248001_1.length co47]) ?_ 0 _ rfl; (with_reducible repeat (first | refine blk_drewN ?_ _ | refine blk_drew ?_ | refine blk_alloc ?_ _)); exact BK247.out) k_ hk_)⟩)) (below_size (by repeat (first | (with_reducible first | exact HB.out | apply below_alloc | apply pw_below_drewN | apply below_drew1 | refine below_set ?_ GE236.out | refine below_set ?_ GE237.out | refine below_set ?_ GE246.out | refine below_set ?_ GE247.out) | exact HB.out)))); have n8_ := Aside0.mk (blk_below (g := gb236) (o := .cells #[.bool false, .slice Ao9 t229.length co9] 59 (0, 0)) (by (with_reducible repeat (first | refine blk_drewN ?_ _ | refine blk_drew ?_ | refine blk_alloc ?_ _)); refine blk_far ?_ NB236_247.out _; (with_reducible repeat (first | refine blk_drewN ?_ _ | refine blk_drew ?_ | refine blk_alloc ?_ _)); refine blk_far ?_ NB236_247.out _; (with_reducible repeat (first | refine blk_drewN ?_ _ | refine blk_drew ?_ | refine blk_alloc ?_ _)); exact BK236.out) hb); have n9_ := Aside0.mk (blk_below (g := gb237) (o := .cells #[.bool false, .slice Ao11 t233.length co11] 59 (0, 0)) (by (with_reducible repeat (first | refine blk_drewN ?_ _ | refine blk_drew ?_ | refine blk_alloc ?_ _)); refine blk_far ?_ NB237_247.out _; (with_reducible repeat (first | refine blk_drewN ?_ _ | refine blk_drew ?_ | refine blk_alloc ?_ _)); refine blk_far ?_ NB237_247.out _; (with_reducible repeat (first | refine blk_drewN ?_ _ | refine blk_drew ?_ | refine blk_alloc ?_ _)); exact BK237.out) hb); have n10_ := Aside0.mk (blk_below (g := gb246) (o := .cells #[.bool x247000_1, .slice Ao61 x247001_1.length co61] 59 (0, 0)) (by (with_reducible repeat (first | refine blk_drewN ?_ _ | refine blk_drew ?_ | refine blk_alloc ?_ _)); refine blk_far ?_ NB246_247.out _; (with_reducible repeat (first | refine blk_drewN ?_ _ | refine blk_drew ?_ | refine blk_alloc ?_ _)); refine blk_far ?_ NB246_247.out _; (with_reducible repeat (first | refine blk_drewN ?_ _ | refine blk_drew ?_ | refine blk_alloc ?_ _)); exact BK246.out) hb); have n11_ := Aside0.mk (blk_below (g := gb247) (o := .cells #[.bool t257, .slice Ao55 t258.length co55] 59 (0, 0)) (by (with_reducible repeat (first | refine blk_drewN ?_ _ | refine blk_drew ?_ | refine blk_alloc ?_ _)); refine blk_put (cs := #[.bool t257, .slice Ao47 x248001_1.length co47]) ?_ 1 _ rfl; (with_reducible repeat (first | refine blk_drewN ?_ _ | refine blk_drew ?_ | refine blk_alloc ?_ _)); refine blk_put (cs := #[.bool x248000_1, .slice Ao47 x248001_1.length co47]) ?_ 0 _ rfl; (with_reducible repeat (first | refine blk_drewN ?_ _ | refine blk_drew ?_ | refine blk_alloc ?_ _)); exact BK247.out) hb); have n12_ := Aside0.mk (below_step (by repeat (first | (with_reducible first | exact HB.out | apply below_alloc | apply pw_below_drewN | apply below_drew1 | refine below_set ?_ GE236.out | refine below_set ?_ GE237.out | refine below_set ?_ GE246.out | refine below_set ?_ GE247.out) | exact HB.out)) hb); clear HO_237001; clear HO_238001; clear HO_247001; clear HO_248001; clear HO251; clear HO256; clear HO260; clear BK236; clear BK237; clear BK246; clear BK247; clear HB; have HO_237001 := n0_; have HO_238001 := n1_; have HO_247001 := n2_; have HO_248001 := n3_; have HO251 := n4_; have HO256 := n5_; have HO260 := n6_; have HO264 := n7_; have BK236 := n8_; have BK237 := n9_; have BK246 := n10_; have BK247 := n11_; have HB := n12_; clear n0_ n1_ n2_ n3_ n4_ n5_ n6_ n7_ n8_ n9_ n10_ n11_ n12_; (try clear hb); (try clear hb2); (try clear hk); (try clear hi); (try clear ho0); have hcz63_0 : w62.cell? ⟨gb246, 0, none⟩ = some (.bool x247000_1) := (blk_cell BK246.out 0).trans rfl; have hcz63_1 : w62.cell? ⟨gb246, 1, none⟩ = some (.slice Ao61 x247001_1.length co61) := (blk_cell BK246.out 1).trans rfl; have hfz63_0 := blk_frozen BK246.out 0; have hfz63_1 := blk_frozen BK246.out 1; obtain ⟨Ao64, co64, eo64⟩ := Kd.V_slice HO264.out; subst eo64; have hnb65 := NB247_236.out; have hnc65 := NB236_247.out; have hnb66 := NB247_237.out; have hnc66 := NB237_247.out; have hcz67_0 : w62.cell? ⟨gb247, 0, none⟩ = some (.bool t257) := (blk_cell BK247.out 0).trans rfl; have hcz67_1 : w62.cell? ⟨gb247, 1, none⟩ = some (.slice Ao55 t258.length co55) := (blk_cell BK247.out 1).trans rfl; have hfz67_0 := blk_frozen BK247.out 0; have hfz67_1 := blk_frozen BK247.out 1; have hnb68 := NB237_236.out; have hnc68 := NB236_237.out; have hcz69_0 : w62.cell? ⟨gb237, 0, none⟩ = some (.bool false) := (blk_cell BK237.out 0).trans rfl; have hcz69_1 : w62.cell? ⟨gb237, 1, none⟩ = some (.slice Ao11 t233.length co11) := (blk_cell BK237.out 1).trans rfl; have hfz69_0 := blk_frozen BK237.out 0; have hfz69_1 := blk_frozen BK237.out 1) | ((with_reducible refine gate_callee (f := 48) rfl ?_); refine goesL_ (some 52) rfl rfl Try.func48 (by kernel_rfl) rfl #[.agg #[.bool t257, .slice Ao55 t258.length co55], .agg #[.bool false, .slice Ao11 t233.length co11]] rfl mO ?_; (with_reducible refine (tabardref01_Size.calls k1 t257 _ _ t258 false _ _ t233 t265 _ ?side1 ?side2 ?side3 ?side4 A40.out).mono ?_); (case side1 => refine (Kd.V_reads' (e := 63) (base := w.heap.size) (ok := fun k_ => (k_ ≠ gb236 ∧ (k_ ≠ gb237 ∧ (k_ ≠ gb246 ∧ k_ ≠ gb247)))) (n := t258.length) (c := co55) ?_).2.2; exact (by (with_reducible repeat (first | apply Kd.V_alloc | apply Kd.V_drewN | apply Kd.V_drew)); exact (Kd.V_mono (Kd.V_far (p := ⟨gb246, 1, none⟩) (Kd.V_far (p := ⟨gb246, 0, none⟩) (Kd.V_mono HO260.out (fun k_ hk => (⟨hk, hk.2.2.1⟩ : _ ∧ k_ ≠ gb246))) (fun _ hk => hk.2) (.bool t261)) (fun _ hk => hk.2) (.slice Ao64 t262.length co64)) (fun _ h_ => h_.1)))); (case side2 => exact (Kd.V_reads' HO260.out).2.1); (case side3 => refine (Kd.V_reads' (e := 63) (base := w.heap.size) (ok := fun k_ => (k_ ≠ gb236 ∧ (k_ ≠ gb237 ∧ (k_ ≠ gb246 ∧ k_ ≠ gb247)))) (n := t233.length) (c := co11) ?_).2.2; exact (by (with_reducible repeat (first | apply Kd.V_alloc | apply Kd.V_drewN | apply Kd.V_drew)); exact (Kd.V_mono (Kd.V_far (p := ⟨gb246, 1, none⟩) (Kd.V_far (p := ⟨gb246, 0, none⟩) (Kd.V_mono HO_238001.out (fun k_ hk => (⟨hk, hk.2.2.1⟩ : _ ∧ k_ ≠ gb246))) (fun _ hk => hk.2) (.bool t261)) (fun _ hk => hk.2) (.slice Ao64 t262.length co64)) (fun _ h_ => h_.1)))); (case side4 => exact (Kd.V_reads' HO_238001.out).2.1); rintro e w70 ⟨rfl, hb⟩; refine ⟨_, rfl, ?_⟩; have n0_ := Aside0.mk (Kd.V_below (by (with_reducible repeat (first | apply Kd.V_alloc | apply Kd.V_drewN | apply Kd.V_drew)); exact (Kd.V_mono (Kd.V_far (p := ⟨gb246, 1, none⟩) (Kd.V_far (p := ⟨gb246, 0, none⟩) (Kd.V_mono HO_237001.out (fun k_ hk => (⟨hk, hk.2.2.1⟩ : _ ∧ k_ ≠ gb246))) (fun _ hk => hk.2) (.bool t261)) (fun _ hk => hk.2) (.slice Ao64 t262.length co64)) (fun _ h_ => h_.1))) hb); have n1_ := Aside0.mk (Kd.V_below (by (with_reducible repeat (first | apply Kd.V_alloc | apply Kd.V_drewN | apply Kd.V_drew)); exact (Kd.V_mono (Kd.V_far (p := ⟨gb246, 1, none⟩) (Kd.V_far (p := ⟨gb246, 0, none⟩) (Kd.V_mono HO_238001.out (fun k_ hk => (⟨hk, hk.2.2.1⟩ : _ ∧ k_ ≠ gb246))) (fun _ hk => hk.2) (.bool t261)) (fun _ hk => hk.2) (.slice Ao64 t262.length co64)) (fun _ h_ => h_.1))) hb); have n2_ := Aside0.mk (Kd.V_below (by (with_reducible repeat (first | apply Kd.V_alloc | apply Kd.V_drewN | apply Kd.V_drew)); exact (Kd.V_mono (Kd.V_far (p := ⟨gb246, 1, none⟩) (Kd.V_far (p := ⟨gb246, 0, none⟩) (Kd.V_mono HO_247001.out (fun k_ hk => (⟨hk, hk.2.2.1⟩ : _ ∧ k_ ≠ gb246))) (fun _ hk => hk.2) (.bool t261)) (fun _ hk => hk.2) (.slice Ao64 t262.length co64)) (fun _ h_ => h_.1))) hb); have n3_ := Aside0.mk (Kd.V_below (by (with_reducible repeat (first | apply Kd.V_alloc | apply Kd.V_drewN | apply Kd.V_drew)); exact (Kd.V_mono (Kd.V_far (p := ⟨gb246, 1, none⟩) (Kd.V_far (p := ⟨gb246, 0, none⟩) (Kd.V_mono HO_248001.out (fun k_ hk => (⟨hk, hk.2.2.1⟩ : _ ∧ k_ ≠ gb246))) (fun _ hk => hk.2) (.bool t261)) (fun _ hk => hk.2) (.slice Ao64 t262.length co64)) (fun _ h_ => h_.1))) hb); have n4_ := Aside0.mk (Kd.V_below (by (with_reducible repeat (first | apply Kd.V_alloc | apply Kd.V_drewN | apply Kd.V_drew)); exact (Kd.V_mono (Kd.V_far (p := ⟨gb246, 1, none⟩) (Kd.V_far (p := ⟨gb246, 0, none⟩) (Kd.V_mono HO251.out (fun k_ hk => (⟨hk, hk.2.2.1⟩ : _ ∧ k_ ≠ gb246))) (fun _ hk => hk.2) (.bool t261)) (fun _ hk => hk.2) (.slice Ao64 t262.length co64)) (fun _ h_ => h_.1))) hb); have n5_ := Aside0.mk (Kd.V_below (by (with_reducible repeat (first | apply Kd.V_alloc | apply Kd.V_drewN | apply Kd.V_drew)); exact (Kd.V_mono (Kd.V_far (p := ⟨gb246, 1, none⟩) (Kd.V_far (p := ⟨gb246, 0, none⟩) (Kd.V_mono HO256.out (fun k_ hk => (⟨hk, hk.2.2.1⟩ : _ ∧ k_ ≠ gb246))) (fun _ hk => hk.2) (.bool t261)) (fun _ hk => hk.2) (.slice Ao64 t262.length co64)) (fun _ h_ => h_.1))) hb); have n6_ := Aside0.mk (Kd.V_below (by (with_reducible repeat (first | apply Kd.V_alloc | apply Kd.V_drewN | apply Kd.V_drew)); exact (Kd.V_mono (Kd.V_far (p := ⟨gb246, 1, none⟩) (Kd.V_far (p := ⟨gb246, 0, none⟩) (Kd.V_mono HO260.out (fun k_ hk => (⟨hk, hk.2.2.1⟩ : _ ∧ k_ ≠ gb246))) (fun _ hk => hk.2) (.bool t261)) (fun _ hk => hk.2) (.slice Ao64 t262.length co64)) (fun _ h_ => h_.1))) hb); have n7_ := Aside0.mk (Kd.V_below (by (with_reducible repeat (first | apply Kd.V_alloc | apply Kd.V_drewN | apply Kd.V_drew)); exact (Kd.V_mono (Kd.V_far (p := ⟨gb246, 1, none⟩) (Kd.V_far (p := ⟨gb246, 0, none⟩) (Kd.V_mono HO264.out (fun k_ hk => (⟨hk, hk.2.2.1⟩ : _ ∧ k_ ≠ gb246))) (fun _ hk => hk.2) (.bool t261)) (fun _ hk => hk.2) (.slice Ao64 t262.length co64)) (fun _ h_ => h_.1))) hb); have n8_ := Aside0.mk (blk_below (g := gb236) (o := .cells #[.bool false, .slice Ao9 t229.length co9] 59 (0, 0)) (by (with_reducible repeat (first | refine blk_drewN ?_ _ | refine blk_drew ?_ | refine blk_alloc ?_ _)); refine blk_far ?_ NB236_246.out _; (with_reducible repeat (first | refine blk_drewN ?_ _ | refine blk_drew ?_ | refine blk_alloc ?_ _)); refine blk_far ?_ NB236_246.out _; (with_reducible repeat (first | refine blk_drewN ?_ _ | refine blk_drew ?_ | refine blk_alloc ?_ _)); exact BK236.out) hb); have n9_ := Aside0.mk (blk_below (g := gb237) (o := .cells #[.bool false, .slice Ao11 t233.length co11] 59 (0, 0)) (by (with_reducible repeat (first | refine blk_drewN ?_ _ | refine blk_drew ?_ | refine blk_alloc ?_ _)); refine blk_far ?_ NB237_246.out _; (with_reducible repeat (first | refine blk_drewN ?_ _ | refine blk_drew ?_ | refine blk_alloc ?_ _)); refine blk_far ?_ NB237_246.out _; (with_reducible repeat (first | refine blk_drewN ?_ _ | refine blk_drew ?_ | refine blk_alloc ?_ _)); exact BK237.out) hb); have n10_ := Aside0.mk (blk_below (g := gb246) (o := .cells #[.bool t261, .slice Ao64 t262.length co64] 59 (0, 0)) (by (with_reducible repeat (first | refine blk_drewN ?_ _ | refine blk_drew ?_ | refine blk_alloc ?_ _)); refine blk_put (cs := #[.bool t261, .slice Ao61 x247001_1.length co61]) ?_ 1 _ rfl; (with_reducible repeat (first | refine blk_drewN ?_ _ | refine blk_drew ?_ | refine blk_alloc ?_ _)); refine blk_put (cs := #[.bool x247000_1, .slice Ao61 x247001_1.length co61]) ?_ 0 _ rfl; (with_reducible repeat (first | refine blk_drewN ?_ _ | refine blk_drew ?_ | refine blk_alloc ?_ _)); exact BK246.out) hb); have n11_ := Aside0.mk (blk_below (g := gb247) (o := .cells #[.bool t257, .slice Ao55 t258.length co55] 59 (0, 0)) (by (with_reducible repeat (first | refine blk_drewN ?_ _ | refine blk_drew ?_ | refine blk_alloc ?_ _)); refine blk_far ?_ NB247_246.out _; (with_reducible repeat (first | refine blk_drewN ?_ _ | refine blk_drew ?_ | refine blk_alloc ?_ _)); refine blk_far ?_ NB247_246.out _; (with_reducible repeat (first | refine blk_drewN ?_ _ | refine blk_drew ?_ | refine blk_alloc ?_ _)); exact BK247.out) hb); have n12_ := Aside0.mk (below_step (by repeat (first | (with_reducible first | exact HB.out | apply below_alloc | apply pw_below_drewN | apply below_drew1 | refine below_set ?_ GE236.out | refine below_set ?_ GE237.out | refine below_set ?_ GE246.out | refine below_set ?_ GE247.out) | exact HB.out)) hb); clear HO_237001; clear HO_238001; clear HO_247001; clear HO_248001; clear HO251; clear HO256; clear HO260; clear HO264; clear BK236; clear BK237; clear BK246; clear BK247; clear HB; have HO_237001 := n0_; have HO_238001 := n1_; have HO_247001 := n2_; have HO_248001 := n3_; have HO251 := n4_; have HO256 := n5_; have HO260 := n6_; have HO264 := n7_; have BK236 := n8_; have BK237 := n9_; have BK246 := n10_; have BK247 := n11_; have HB := n12_; clear n0_ n1_ n2_ n3_ n4_ n5_ n6_ n7_ n8_ n9_ n10_ n11_ n12_; (try clear hb); (try clear hb2); (try clear hk); (try clear hi)))
       have n0_ := Aside0.mk (Kd.V_drew HO_237001.out)
       have n1_ := Aside0.mk (Kd.V_drew HO_238001.out)
       have n2_ := Aside0.mk (Kd.V_drew HO_247001.out)
       have n3_ := Aside0.mk (Kd.V_drew HO_248001.out)
       have n4_ := Aside0.mk (Kd.V_drew HO251.out)
       have n5_ := Aside0.mk (Kd.V_drew HO256.out)
       have n6_ := Aside0.mk (Kd.V_drew HO260.out)
       have n7_ := Aside0.mk (Kd.V_drew HO264.out)
       have n8_ := Aside0.mk (blk_drew BK236.out)
       have n9_ := Aside0.mk (blk_drew BK237.out)
       have n10_ := Aside0.mk (blk_drew BK246.out)
       have n11_ := Aside0.mk (blk_drew BK247.out)
       have n12_ := Aside0.mk (below_drew1 HB.out)
       clear HO_237001
       clear HO_238001
       clear HO_247001
       clear HO_248001
       clear HO251
       clear HO256
       clear HO260
       clear HO264
       clear BK236
       clear BK237
       clear BK246
       clear BK247
       clear HB
       have HO_237001 := n0_
       have HO_238001 := n1_
       have HO_247001 := n2_
       have HO_248001 := n3_
       have HO251 := n4_
       have HO256 := n5_
       have HO260 := n6_
       have HO264 := n7_
       have BK236 := n8_
       have BK237 := n9_
       have BK246 := n10_
       have BK247 := n11_
       have HB := n12_
       clear n0_ n1_ n2_ n3_ n4_ n5_ n6_ n7_ n8_ n9_ n10_ n11_ n12_
       refine start_ (n := 5) (S := fun w' => w'.cell? ⟨gb247, 0, none⟩ = some (.bool t257) ∧ w'.cell? ⟨gb247, 1, none⟩ = some (.slice Ao55 t258.length co55) ∧ w'.cell? ⟨gb237, 0, none⟩ = some (.bool false) ∧ w'.cell? ⟨gb237, 1, none⟩ = some (.slice Ao11 t233.length co11)) (ds := [4]) #[false, false, false, false, false] (by kernel_rfl) rfl rfl ⟨(blk_cell BK247.out 0).trans rfl, (blk_cell BK247.out 1).trans rfl, (blk_cell BK237.out 0).trans rfl, (blk_cell BK237.out 1).trans rfl⟩ (fun hHeld => ?_)
       generalize w70.drew = w71 at HO_237001 HO_238001 HO_247001 HO_248001 HO251 HO256 HO260 HO264 BK236 BK237 BK246 BK247 HB hHeld ⊢
       refine take_ (i := 0) (N := some 54) (v := ?_) (a' := ?_) #[true, false, false, false, false] rfl rfl (by kernel_rfl) (fun _ _ _ h => h) (Or.inl ⟨by rfl, ?_⟩) hHeld ?_ ?_
       rotate_left
       ·rintro w' ⟨s0, s1, s2, s3⟩
        go_simp
        with_reducible rfl
       rotate_left
       ·simp only [Act.put, List.setIfInBounds_toArray, List.set_cons_zero, List.set_cons_succ, i64_w, i32_w]
        rfl
       refine take_ (i := 1) (N := some 55) (v := ?_) (a' := ?_) #[true, true, false, false, false] rfl rfl (by kernel_rfl) (fun _ _ _ h => h) (Or.inl ⟨by rfl, ?_⟩) hHeld ?_ ?_
       rotate_left
       ·rintro w' ⟨s0, s1, s2, s3⟩
        go_simp
        with_reducible rfl
       rotate_left
       ·simp only [Act.put, List.setIfInBounds_toArray, List.set_cons_zero, List.set_cons_succ, i64_w, i32_w]
        rfl
       refine one_ (i := 2) (N := some 56) #[true, true, true, false, false] rfl rfl (by kernel_rfl) (by decide) (fun K hK => ?_)
       refine goes_ Try.func49 (by kernel_rfl) rfl #[.agg #[.bool false, .slice Ao11 t233.length co11]] (by rfl) rfl rfl mO ?_
       with_reducible refine (tabardref01_Minus.calls k1 false (fun k_ => (k_ ≠ gb236 ∧ (k_ ≠ gb237 ∧ (k_ ≠ gb246 ∧ k_ ≠ gb247)))) _ _ t233 t266 t267 _ ?side1 A42.out).mono ?_
       (case side1 => exact HO_238001.out)
       rintro e w72 ⟨v268, rfl, ho0, hb⟩
       refine ⟨_, rfl, ?_⟩
       have n0_ := Aside0.mk (Kd.V_below (vO HO_237001.out) hb)
       have n1_ := Aside0.mk (Kd.V_below (vO HO_238001.out) hb)
       have n2_ := Aside0.mk (Kd.V_below (vO HO_247001.out) hb)
       have n3_ := Aside0.mk (Kd.V_below (vO HO_248001.out) hb)
       have n4_ := Aside0.mk (Kd.V_below (vO HO251.out) hb)
       have n5_ := Aside0.mk (Kd.V_below (vO HO256.out) hb)
       have n6_ := Aside0.mk (Kd.V_below (vO HO260.out) hb)
       have n7_ := Aside0.mk (Kd.V_below (vO HO264.out) hb)
       have n8_ := Aside0.mk (Kd.V_lower (Kd.V_mono (ok' := fun k_ => k_ ≠ gb236 ∧ k_ ≠ gb237 ∧ k_ ≠ gb246 ∧ k_ ≠ gb247) ho0 (fun k_ hk_ => ⟨Or.elim hk_ (fun hs_ => hs_.1) (fun hn_ => (Kd.freshB (g := gb236) (o := .cells #[.bool false, .slice Ao9 t229.length co9] 59 (0, 0)) (kO BK236.out) k_ hn_)), Or.elim hk_ (fun hs_ => hs_.2.1) (fun hn_ => (Kd.freshB (g := gb237) (o := .cells #[.bool false, .slice Ao11 t233.length co11] 59 (0, 0)) (kO BK237.out) k_ hn_)), Or.elim hk_ (fun hs_ => hs_.2.2.1) (fun hn_ => (Kd.freshB (g := gb246) (o := .cells #[.bool t261, .slice Ao64 t262.length co64] 59 (0, 0)) (kO BK246.out) k_ hn_)), Or.elim hk_ (fun hs_ => hs_.2.2.2) (fun hn_ => (Kd.freshB (g := gb247) (o := .cells #[.bool t257, .slice Ao55 t258.length co55] 59 (0, 0)) (kO BK247.out) k_ hn_))⟩)) (below_size (by repeat (first | (with_reducible first | exact HB.out | apply below_alloc | apply pw_below_drewN | apply below_drew1 | refine below_set ?_ GE236.out | refine below_set ?_ GE237.out | refine below_set ?_ GE246.out | refine below_set ?_ GE247.out) | exact HB.out))))
       have n9_ := Aside0.mk (blk_below (g := gb236) (o := .cells #[.bool false, .slice Ao9 t229.length co9] 59 (0, 0)) (kO BK236.out) hb)
       have n10_ := Aside0.mk (blk_below (g := gb237) (o := .cells #[.bool false, .slice Ao11 t233.length co11] 59 (0, 0)) (kO BK237.out) hb)
       have n11_ := Aside0.mk (blk_below (g := gb246) (o := .cells #[.bool t261, .slice Ao64 t262.length co64] 59 (0, 0)) (kO BK246.out) hb)
       have n12_ := Aside0.mk (blk_below (g := gb247) (o := .cells #[.bool t257, .slice Ao55 t258.length co55] 59 (0, 0)) (kO BK247.out) hb)
       have n13_ := Aside0.mk (below_step (by repeat (first | (with_reducible first | exact HB.out | apply below_alloc | apply pw_below_drewN | apply below_drew1 | refine below_set ?_ GE236.out | refine below_set ?_ GE237.out | refine below_set ?_ GE246.out | refine below_set ?_ GE247.out) | exact HB.out)) hb)
       clear HO_237001
       clear HO_238001
       clear HO_247001
       clear HO_248001
       clear HO251
       clear HO256
       clear HO260
       clear HO264
       clear BK236
       clear BK237
       clear BK246
       clear BK247
       clear HB
       have HO_237001 := n0_
       have HO_238001 := n1_
       have HO_247001 := n2_
       have HO_248001 := n3_
       have HO251 := n4_
       have HO256 := n5_
       have HO260 := n6_
       have HO264 := n7_
       have HO269 := n8_
       have BK236 := n9_
       have BK237 := n10_
       have BK246 := n11_
       have BK247 := n12_
       have HB := n13_
       clear n0_ n1_ n2_ n3_ n4_ n5_ n6_ n7_ n8_ n9_ n10_ n11_ n12_ n13_
       (try clear hb)
       (try clear hb2)
       (try clear hk)
       (try clear hi)
       (try clear ho0)
       obtain ⟨Ao73, co73, eo73⟩ := Kd.V_slice HO269.out
       (first | subst eo73 | (injection eo73 with f1_ f2_ f3_; have f4_ := f1_.symm; have f5_ := f3_.symm; clear f1_ f2_ f3_; subst f4_; subst f5_))
       refine hK.out _ _ ⟨(blk_cell BK247.out 0).trans rfl, (blk_cell BK247.out 1).trans rfl, (blk_cell BK237.out 0).trans rfl, (blk_cell BK237.out 1).trans rfl⟩ (fun hHeld => ?_)
       clear hK K
       refine norm_ (a' := ?_) ?_ ?_
       rotate_left
       ·show Act.put _ (some 56) _ = _
        simp only [Act.put, List.setIfInBounds_toArray, List.set_cons_zero, List.set_cons_succ, i64_w, i32_w]
        rfl
       refine one_ (i := 3) (N := some 57) #[true, true, true, true, false] rfl rfl (by kernel_rfl) (by decide) (fun K hK => ?_)
       refine goes_ Try.func46 (by kernel_rfl) rfl #[.agg #[.bool t257, .slice Ao55 t258.length co55], .agg #[.bool t266, .slice Ao73 t267.length co73]] (by rfl) rfl rfl mO ?_
       with_reducible refine (tabardref01_Plus.calls k1 t257 _ _ t258 t266 _ _ t267 t270 t271 _ ?side1 ?side2 ?side3 ?side4 A43.out).mono ?_
       (case side1 => exact cO (Kd.V_reads' HO260.out).2.2)
       (case side2 => exact (Kd.V_reads' HO260.out).2.1)
       (case side3 => exact cO (Kd.V_reads' HO269.out).2.2)
       (case side4 => exact (Kd.V_reads' HO269.out).2.1)
       rintro e w74 ⟨v272, rfl, ho0, hb⟩
       refine ⟨_, rfl, ?_⟩
       have n0_ := Aside0.mk (Kd.V_below (vO HO_237001.out) hb)
       have n1_ := Aside0.mk (Kd.V_below (vO HO_238001.out) hb)
       have n2_ := Aside0.mk (Kd.V_below (vO HO_247001.out) hb)
       have n3_ := Aside0.mk (Kd.V_below (vO HO_248001.out) hb)
       have n4_ := Aside0.mk (Kd.V_below (vO HO251.out) hb)
       have n5_ := Aside0.mk (Kd.V_below (vO HO256.out) hb)
       have n6_ := Aside0.mk (Kd.V_below (vO HO260.out) hb)
       have n7_ := Aside0.mk (Kd.V_below (vO HO264.out) hb)
       have n8_ := Aside0.mk (Kd.V_below (vO HO269.out) hb)
       have n9_ := Aside0.mk (Kd.V_lower (Kd.V_mono (ok' := fun k_ => k_ ≠ gb236 ∧ k_ ≠ gb237 ∧ k_ ≠ gb246 ∧ k_ ≠ gb247) ho0 (fun k_ hk_ => ⟨(Kd.freshB (g := gb236) (o := .cells #[.bool false, .slice Ao9 t229.length co9] 59 (0, 0)) (kO BK236.out) k_ hk_), (Kd.freshB (g := gb237) (o := .cells #[.bool false, .slice Ao11 t233.length co11] 59 (0, 0)) (kO BK237.out) k_ hk_), (Kd.freshB (g := gb246) (o := .cells #[.bool t261, .slice Ao64 t262.length co64] 59 (0, 0)) (kO BK246.out) k_ hk_), (Kd.freshB (g := gb247) (o := .cells #[.bool t257, .slice Ao55 t258.length co55] 59 (0, 0)) (kO BK247.out) k_ hk_)⟩)) (below_size (by repeat (first | (with_reducible first | exact HB.out | apply below_alloc | apply pw_below_drewN | apply below_drew1 | refine below_set ?_ GE236.out | refine below_set ?_ GE237.out | refine below_set ?_ GE246.out | refine below_set ?_ GE247.out) | exact HB.out))))
       have n10_ := Aside0.mk (blk_below (g := gb236) (o := .cells #[.bool false, .slice Ao9 t229.length co9] 59 (0, 0)) (kO BK236.out) hb)
       have n11_ := Aside0.mk (blk_below (g := gb237) (o := .cells #[.bool false, .slice Ao11 t233.length co11] 59 (0, 0)) (kO BK237.out) hb)
       have n12_ := Aside0.mk (blk_below (g := gb246) (o := .cells #[.bool t261, .slice Ao64 t262.length co64] 59 (0, 0)) (kO BK246.out) hb)
       have n13_ := Aside0.mk (blk_below (g := gb247) (o := .cells #[.bool t257, .slice Ao55 t258.length co55] 59 (0, 0)) (kO BK247.out) hb)
       have n14_ := Aside0.mk (below_step (by repeat (first | (with_reducible first | exact HB.out | apply below_alloc | apply pw_below_drewN | apply below_drew1 | refine below_set ?_ GE236.out | refine below_set ?_ GE237.out | refine below_set ?_ GE246.out | refine below_set ?_ GE247.out) | exact HB.out)) hb)
       clear HO_237001
       clear HO_238001
       clear HO_247001
       clear HO_248001
       clear HO251
       clear HO256
       clear HO260
       clear HO264
       clear HO269
       clear BK236
       clear BK237
       clear BK246
       clear BK247
       clear HB
       have HO_237001 := n0_
       have HO_238001 := n1_
       have HO_247001 := n2_
       have HO_248001 := n3_
       have HO251 := n4_
       have HO256 := n5_
       have HO260 := n6_
       have HO264 := n7_
       have HO269 := n8_
       have HO273 := n9_
       have BK236 := n10_
       have BK237 := n11_
       have BK246 := n12_
       have BK247 := n13_
       have HB := n14_
       clear n0_ n1_ n2_ n3_ n4_ n5_ n6_ n7_ n8_ n9_ n10_ n11_ n12_ n13_ n14_
       (try clear hb)
       (try clear hb2)
       (try clear hk)
       (try clear hi)
       (try clear ho0)
       obtain ⟨Ao76, co76, eo76⟩ := Kd.V_slice HO273.out
       (first | subst eo76 | (injection eo76 with f1_ f2_ f3_; have f4_ := f1_.symm; have f5_ := f3_.symm; clear f1_ f2_ f3_; subst f4_; subst f5_))
       refine hK.out _ _ ⟨(blk_cell BK247.out 0).trans rfl, (blk_cell BK247.out 1).trans rfl, (blk_cell BK237.out 0).trans rfl, (blk_cell BK237.out 1).trans rfl⟩ (fun hHeld => ?_)
       clear hK K
       refine norm_ (a' := ?_) ?_ ?_
       rotate_left
       ·show Act.put _ (some 57) _ = _
        simp only [Act.put, List.setIfInBounds_toArray, List.set_cons_zero, List.set_cons_succ, i64_w, i32_w]
        rfl
       refine last_ (i := 4) (N := none) #[true, true, true, true, true] rfl rfl (by kernel_rfl) (by decide) (fun K hK => ?_)
       have hs75 : w74.cell? ⟨gb247, 0, none⟩ = some (.bool t257) := (blk_cell BK247.out 0).trans rfl
       have hfs75 := blk_frozen BK247.out 0
       have hns75_0 := NB236_247.out
       have hns75_1 := NB237_247.out
       have hns75_2 := NB246_247.out
       have hms75_0 := NB247_236.out
       have hms75_1 := NB247_237.out
       have hms75_2 := NB247_246.out
       have hs77 : w74.cell? ⟨gb247, 1, none⟩ = some (.slice Ao55 t258.length co55) := (blk_cell BK247.out 1).trans rfl
       have hfs77 := blk_frozen BK247.out 1
       have hns77_0 := NB236_247.out
       have hns77_1 := NB237_247.out
       have hns77_2 := NB246_247.out
       have hms77_0 := NB247_236.out
       have hms77_1 := NB247_237.out
       have hms77_2 := NB247_246.out
       refine skip_ (w1 := ?_) (by rfl) rfl ?_ ?_
       rotate_left
       ·go_simp
        rfl
       refine hK.out _ _ ?_
       clear hK K
       refine done_ (by kernel_rfl) ?_
       try go_wp2
       have n0_ : Aside0 (Kd.V (Kd.int .u64) 63 ((w74.setCell ⟨gb247, 0, none⟩ (.bool t270)).setCell ⟨gb247, 1, none⟩ (.slice Ao76 t271.length co76)) w.heap.size (fun k_ => k_ ≠ gb236 ∧ k_ ≠ gb237 ∧ k_ ≠ gb246 ∧ k_ ≠ gb247) (.slice Ao9 t229.length co9) t229) := ⟨by (with_reducible repeat (first | apply Kd.V_alloc | apply Kd.V_drewN | apply Kd.V_drew)); exact Kd.V_mono (Kd.V_far (p := ⟨gb247, 1, none⟩) (Kd.V_far (p := ⟨gb247, 0, none⟩) (Kd.V_mono HO_237001.out (fun k_ hk => (⟨hk, hk.2.2.2⟩ : _ ∧ k_ ≠ gb247))) (fun _ hk => hk.2) (.bool t270)) (fun _ hk => hk.2) (.slice Ao76 t271.length co76)) (fun _ hk => ⟨hk.1.1, ⟨hk.1.2.1, ⟨hk.1.2.2.1, hk.1.2.2.2⟩⟩⟩)⟩
       have n1_ : Aside0 (Kd.V (Kd.int .u64) 63 ((w74.setCell ⟨gb247, 0, none⟩ (.bool t270)).setCell ⟨gb247, 1, none⟩ (.slice Ao76 t271.length co76)) w.heap.size (fun k_ => k_ ≠ gb236 ∧ k_ ≠ gb237 ∧ k_ ≠ gb246 ∧ k_ ≠ gb247) (.slice Ao11 t233.length co11) t233) := ⟨by (with_reducible repeat (first | apply Kd.V_alloc | apply Kd.V_drewN | apply Kd.V_drew)); exact Kd.V_mono (Kd.V_far (p := ⟨gb247, 1, none⟩) (Kd.V_far (p := ⟨gb247, 0, none⟩) (Kd.V_mono HO_238001.out (fun k_ hk => (⟨hk, hk.2.2.2⟩ : _ ∧ k_ ≠ gb247))) (fun _ hk => hk.2) (.bool t270)) (fun _ hk => hk.2) (.slice Ao76 t271.length co76)) (fun _ hk => ⟨hk.1.1, ⟨hk.1.2.1, ⟨hk.1.2.2.1, hk.1.2.2.2⟩⟩⟩)⟩
       have n2_ : Aside0 (Kd.V (Kd.int .u64) 63 ((w74.setCell ⟨gb247, 0, none⟩ (.bool t270)).setCell ⟨gb247, 1, none⟩ (.slice Ao76 t271.length co76)) w.heap.size (fun k_ => k_ ≠ gb236 ∧ k_ ≠ gb237 ∧ k_ ≠ gb246 ∧ k_ ≠ gb247) (.slice Ao61 x247001_1.length co61) x247001_1) := ⟨by (with_reducible repeat (first | apply Kd.V_alloc | apply Kd.V_drewN | apply Kd.V_drew)); exact Kd.V_mono (Kd.V_far (p := ⟨gb247, 1, none⟩) (Kd.V_far (p := ⟨gb247, 0, none⟩) (Kd.V_mono HO_247001.out (fun k_ hk => (⟨hk, hk.2.2.2⟩ : _ ∧ k_ ≠ gb247))) (fun _ hk => hk.2) (.bool t270)) (fun _ hk => hk.2) (.slice Ao76 t271.length co76)) (fun _ hk => ⟨hk.1.1, ⟨hk.1.2.1, ⟨hk.1.2.2.1, hk.1.2.2.2⟩⟩⟩)⟩
       have n3_ : Aside0 (Kd.V (Kd.int .u64) 63 ((w74.setCell ⟨gb247, 0, none⟩ (.bool t270)).setCell ⟨gb247, 1, none⟩ (.slice Ao76 t271.length co76)) w.heap.size (fun k_ => k_ ≠ gb236 ∧ k_ ≠ gb237 ∧ k_ ≠ gb246 ∧ k_ ≠ gb247) (.slice Ao47 x248001_1.length co47) x248001_1) := ⟨by (with_reducible repeat (first | apply Kd.V_alloc | apply Kd.V_drewN | apply Kd.V_drew)); exact Kd.V_mono (Kd.V_far (p := ⟨gb247, 1, none⟩) (Kd.V_far (p := ⟨gb247, 0, none⟩) (Kd.V_mono HO_248001.out (fun k_ hk => (⟨hk, hk.2.2.2⟩ : _ ∧ k_ ≠ gb247))) (fun _ hk => hk.2) (.bool t270)) (fun _ hk => hk.2) (.slice Ao76 t271.length co76)) (fun _ hk => ⟨hk.1.1, ⟨hk.1.2.1, ⟨hk.1.2.2.1, hk.1.2.2.2⟩⟩⟩)⟩
       have n4_ : Aside0 (Kd.V (Kd.int .u64) 63 ((w74.setCell ⟨gb247, 0, none⟩ (.bool t270)).setCell ⟨gb247, 1, none⟩ (.slice Ao76 t271.length co76)) w.heap.size (fun k_ => k_ ≠ gb236 ∧ k_ ≠ gb237 ∧ k_ ≠ gb246 ∧ k_ ≠ gb247) (.slice Ao51 t249.length co51) t249) := ⟨by (with_reducible repeat (first | apply Kd.V_alloc | apply Kd.V_drewN | apply Kd.V_drew)); exact Kd.V_mono (Kd.V_far (p := ⟨gb247, 1, none⟩) (Kd.V_far (p := ⟨gb247, 0, none⟩) (Kd.V_mono HO251.out (fun k_ hk => (⟨hk, hk.2.2.2⟩ : _ ∧ k_ ≠ gb247))) (fun _ hk => hk.2) (.bool t270)) (fun _ hk => hk.2) (.slice Ao76 t271.length co76)) (fun _ hk => ⟨hk.1.1, ⟨hk.1.2.1, ⟨hk.1.2.2.1, hk.1.2.2.2⟩⟩⟩)⟩
       have n5_ : Aside0 (Kd.V (Kd.int .u64) 63 ((w74.setCell ⟨gb247, 0, none⟩ (.bool t270)).setCell ⟨gb247, 1, none⟩ (.slice Ao76 t271.length co76)) w.heap.size (fun k_ => k_ ≠ gb236 ∧ k_ ≠ gb237 ∧ k_ ≠ gb246 ∧ k_ ≠ gb247) (.slice Ao52 t254.length co52) t254) := ⟨by (with_reducible repeat (first | apply Kd.V_alloc | apply Kd.V_drewN | apply Kd.V_drew)); exact Kd.V_mono (Kd.V_far (p := ⟨gb247, 1, none⟩) (Kd.V_far (p := ⟨gb247, 0, none⟩) (Kd.V_mono HO256.out (fun k_ hk => (⟨hk, hk.2.2.2⟩ : _ ∧ k_ ≠ gb247))) (fun _ hk => hk.2) (.bool t270)) (fun _ hk => hk.2) (.slice Ao76 t271.length co76)) (fun _ hk => ⟨hk.1.1, ⟨hk.1.2.1, ⟨hk.1.2.2.1, hk.1.2.2.2⟩⟩⟩)⟩
       have n6_ : Aside0 (Kd.V (Kd.int .u64) 63 ((w74.setCell ⟨gb247, 0, none⟩ (.bool t270)).setCell ⟨gb247, 1, none⟩ (.slice Ao76 t271.length co76)) w.heap.size (fun k_ => k_ ≠ gb236 ∧ k_ ≠ gb237 ∧ k_ ≠ gb246 ∧ k_ ≠ gb247) (.slice Ao55 t258.length co55) t258) := ⟨by (with_reducible repeat (first | apply Kd.V_alloc | apply Kd.V_drewN | apply Kd.V_drew)); exact Kd.V_mono (Kd.V_far (p := ⟨gb247, 1, none⟩) (Kd.V_far (p := ⟨gb247, 0, none⟩) (Kd.V_mono HO260.out (fun k_ hk => (⟨hk, hk.2.2.2⟩ : _ ∧ k_ ≠ gb247))) (fun _ hk => hk.2) (.bool t270)) (fun _ hk => hk.2) (.slice Ao76 t271.length co76)) (fun _ hk => ⟨hk.1.1, ⟨hk.1.2.1, ⟨hk.1.2.2.1, hk.1.2.2.2⟩⟩⟩)⟩
       have n7_ : Aside0 (Kd.V (Kd.int .u64) 63 ((w74.setCell ⟨gb247, 0, none⟩ (.bool t270)).setCell ⟨gb247, 1, none⟩ (.slice Ao76 t271.length co76)) w.heap.size (fun k_ => k_ ≠ gb236 ∧ k_ ≠ gb237 ∧ k_ ≠ gb246 ∧ k_ ≠ gb247) (.slice Ao64 t262.length co64) t262) := ⟨by (with_reducible repeat (first | apply Kd.V_alloc | apply Kd.V_drewN | apply Kd.V_drew)); exact Kd.V_mono (Kd.V_far (p := ⟨gb247, 1, none⟩) (Kd.V_far (p := ⟨gb247, 0, none⟩) (Kd.V_mono HO264.out (fun k_ hk => (⟨hk, hk.2.2.2⟩ : _ ∧ k_ ≠ gb247))) (fun _ hk => hk.2) (.bool t270)) (fun _ hk => hk.2) (.slice Ao76 t271.length co76)) (fun _ hk => ⟨hk.1.1, ⟨hk.1.2.1, ⟨hk.1.2.2.1, hk.1.2.2.2⟩⟩⟩)⟩
       have n8_ : Aside0 (Kd.V (Kd.int .u64) 63 ((w74.setCell ⟨gb247, 0, none⟩ (.bool t270)).setCell ⟨gb247, 1, none⟩ (.slice Ao76 t271.length co76)) w.heap.size (fun k_ => k_ ≠ gb236 ∧ k_ ≠ gb237 ∧ k_ ≠ gb246 ∧ k_ ≠ gb247) (.slice Ao73 t267.length co73) t267) := ⟨by (with_reducible repeat (first | apply Kd.V_alloc | apply Kd.V_drewN | apply Kd.V_drew)); exact Kd.V_mono (Kd.V_far (p := ⟨gb247, 1, none⟩) (Kd.V_far (p := ⟨gb247, 0, none⟩) (Kd.V_mono HO269.out (fun k_ hk => (⟨hk, hk.2.2.2⟩ : _ ∧ k_ ≠ gb247))) (fun _ hk => hk.2) (.bool t270)) (fun _ hk => hk.2) (.slice Ao76 t271.length co76)) (fun _ hk => ⟨hk.1.1, ⟨hk.1.2.1, ⟨hk.1.2.2.1, hk.1.2.2.2⟩⟩⟩)⟩
       have n9_ : Aside0 (Kd.V (Kd.int .u64) 63 ((w74.setCell ⟨gb247, 0, none⟩ (.bool t270)).setCell ⟨gb247, 1, none⟩ (.slice Ao76 t271.length co76)) w.heap.size (fun k_ => k_ ≠ gb236 ∧ k_ ≠ gb237 ∧ k_ ≠ gb246 ∧ k_ ≠ gb247) (.slice Ao76 t271.length co76) t271) := ⟨by (with_reducible repeat (first | apply Kd.V_alloc | apply Kd.V_drewN | apply Kd.V_drew)); exact Kd.V_mono (Kd.V_far (p := ⟨gb247, 1, none⟩) (Kd.V_far (p := ⟨gb247, 0, none⟩) (Kd.V_mono HO273.out (fun k_ hk => (⟨hk, hk.2.2.2⟩ : _ ∧ k_ ≠ gb247))) (fun _ hk => hk.2) (.bool t270)) (fun _ hk => hk.2) (.slice Ao76 t271.length co76)) (fun _ hk => ⟨hk.1.1, ⟨hk.1.2.1, ⟨hk.1.2.2.1, hk.1.2.2.2⟩⟩⟩)⟩
       have n10_ : Aside0 (((w74.setCell ⟨gb247, 0, none⟩ (.bool t270)).setCell ⟨gb247, 1, none⟩ (.slice Ao76 t271.length co76)).heap[gb236]? = some (.cells #[.bool false, .slice Ao9 t229.length co9] 59 (0, 0))) := ⟨by (with_reducible repeat (first | refine blk_drewN ?_ _ | refine blk_drew ?_ | refine blk_alloc ?_ _)); refine blk_far ?_ NB236_247.out _; (with_reducible repeat (first | refine blk_drewN ?_ _ | refine blk_drew ?_ | refine blk_alloc ?_ _)); refine blk_far ?_ NB236_247.out _; (with_reducible repeat (first | refine blk_drewN ?_ _ | refine blk_drew ?_ | refine blk_alloc ?_ _)); exact BK236.out⟩
       have n11_ : Aside0 (((w74.setCell ⟨gb247, 0, none⟩ (.bool t270)).setCell ⟨gb247, 1, none⟩ (.slice Ao76 t271.length co76)).heap[gb237]? = some (.cells #[.bool false, .slice Ao11 t233.length co11] 59 (0, 0))) := ⟨by (with_reducible repeat (first | refine blk_drewN ?_ _ | refine blk_drew ?_ | refine blk_alloc ?_ _)); refine blk_far ?_ NB237_247.out _; (with_reducible repeat (first | refine blk_drewN ?_ _ | refine blk_drew ?_ | refine blk_alloc ?_ _)); refine blk_far ?_ NB237_247.out _; (with_reducible repeat (first | refine blk_drewN ?_ _ | refine blk_drew ?_ | refine blk_alloc ?_ _)); exact BK237.out⟩
       have n12_ : Aside0 (((w74.setCell ⟨gb247, 0, none⟩ (.bool t270)).setCell ⟨gb247, 1, none⟩ (.slice Ao76 t271.length co76)).heap[gb246]? = some (.cells #[.bool t261, .slice Ao64 t262.length co64] 59 (0, 0))) := ⟨by (with_reducible repeat (first | refine blk_drewN ?_ _ | refine blk_drew ?_ | refine blk_alloc ?_ _)); refine blk_far ?_ NB246_247.out _; (with_reducible repeat (first | refine blk_drewN ?_ _ | refine blk_drew ?_ | refine blk_alloc ?_ _)); refine blk_far ?_ NB246_247.out _; (with_reducible repeat (first | refine blk_drewN ?_ _ | refine blk_drew ?_ | refine blk_alloc ?_ _)); exact BK246.out⟩
       have n13_ : Aside0 (((w74.setCell ⟨gb247, 0, none⟩ (.bool t270)).setCell ⟨gb247, 1, none⟩ (.slice Ao76 t271.length co76)).heap[gb247]? = some (.cells #[.bool t270, .slice Ao76 t271.length co76] 59 (0, 0))) := ⟨by (with_reducible repeat (first | refine blk_drewN ?_ _ | refine blk_drew ?_ | refine blk_alloc ?_ _)); refine blk_put (cs := #[.bool t270, .slice Ao55 t258.length co55]) ?_ 1 _ rfl; (with_reducible repeat (first | refine blk_drewN ?_ _ | refine blk_drew ?_ | refine blk_alloc ?_ _)); refine blk_put (cs := #[.bool t257, .slice Ao55 t258.length co55]) ?_ 0 _ rfl; (with_reducible repeat (first | refine blk_drewN ?_ _ | refine blk_drew ?_ | refine blk_alloc ?_ _)); exact BK247.out⟩
       have n14_ : Aside0 (Below w.heap.size w ((w74.setCell ⟨gb247, 0, none⟩ (.bool t270)).setCell ⟨gb247, 1, none⟩ (.slice Ao76 t271.length co76))) := ⟨by repeat (first | (with_reducible first | exact HB.out | apply below_alloc | apply pw_below_drewN | apply below_drew1 | refine below_set ?_ GE236.out | refine below_set ?_ GE237.out | refine below_set ?_ GE246.out | refine below_set ?_ GE247.out) | exact HB.out)⟩
       (try clear HO_237001)
       (try clear HO_238001)
       (try clear HO_247001)
       (try clear HO_248001)
       (try clear HO251)
       (try clear HO256)
       (try clear HO260)
       (try clear HO264)
       (try clear HO269)
       (try clear HO273)
       (try clear BK236)
       (try clear BK237)
       (try clear BK246)
       (try clear BK247)
       (try clear HB)
       generalize ((w74.setCell ⟨gb247, 0, none⟩ (.bool t270)).setCell ⟨gb247, 1, none⟩ (.slice Ao76 t271.length co76)) = w78 at n0_ n1_ n2_ n3_ n4_ n5_ n6_ n7_ n8_ n9_ n10_ n11_ n12_ n13_ n14_ ⊢
       have HO_237001 := n0_
       have HO_238001 := n1_
       have HO_247001 := n2_
       have HO_248001 := n3_
       have HO251 := n4_
       have HO256 := n5_
       have HO260 := n6_
       have HO264 := n7_
       have HO269 := n8_
       have HO273 := n9_
       have BK236 := n10_
       have BK237 := n11_
       have BK246 := n12_
       have BK247 := n13_
       have HB := n14_
       clear n0_ n1_ n2_ n3_ n4_ n5_ n6_ n7_ n8_ n9_ n10_ n11_ n12_ n13_ n14_
       have n0_ := Aside0.mk (Kd.V_drew HO_237001.out)
       have n1_ := Aside0.mk (Kd.V_drew HO_238001.out)
       have n2_ := Aside0.mk (Kd.V_drew HO_247001.out)
       have n3_ := Aside0.mk (Kd.V_drew HO_248001.out)
       have n4_ := Aside0.mk (Kd.V_drew HO251.out)
       have n5_ := Aside0.mk (Kd.V_drew HO256.out)
       have n6_ := Aside0.mk (Kd.V_drew HO260.out)
       have n7_ := Aside0.mk (Kd.V_drew HO264.out)
       have n8_ := Aside0.mk (Kd.V_drew HO269.out)
       have n9_ := Aside0.mk (Kd.V_drew HO273.out)
       have n10_ := Aside0.mk (blk_drew BK236.out)
       have n11_ := Aside0.mk (blk_drew BK237.out)
       have n12_ := Aside0.mk (blk_drew BK246.out)
       have n13_ := Aside0.mk (blk_drew BK247.out)
       have n14_ := Aside0.mk (below_drew1 HB.out)
       clear HO_237001
       clear HO_238001
       clear HO_247001
       clear HO_248001
       clear HO251
       clear HO256
       clear HO260
       clear HO264
       clear HO269
       clear HO273
       clear BK236
       clear BK237
       clear BK246
       clear BK247
       clear HB
       have HO_237001 := n0_
       have HO_238001 := n1_
       have HO_247001 := n2_
       have HO_248001 := n3_
       have HO251 := n4_
       have HO256 := n5_
       have HO260 := n6_
       have HO264 := n7_
       have HO269 := n8_
       have HO273 := n9_
       have BK236 := n10_
       have BK237 := n11_
       have BK246 := n12_
       have BK247 := n13_
       have HB := n14_
       clear n0_ n1_ n2_ n3_ n4_ n5_ n6_ n7_ n8_ n9_ n10_ n11_ n12_ n13_ n14_
       refine start_ (n := 4) (S := fun w' => w'.cell? ⟨gb246, 0, none⟩ = some (.bool t261) ∧ w'.cell? ⟨gb246, 1, none⟩ = some (.slice Ao64 t262.length co64)) (ds := [3]) #[false, false, false, false] (by kernel_rfl) rfl rfl ⟨(blk_cell BK246.out 0).trans rfl, (blk_cell BK246.out 1).trans rfl⟩ (fun hHeld => ?_)
       generalize w78.drew = w79 at HO_237001 HO_238001 HO_247001 HO_248001 HO251 HO256 HO260 HO264 HO269 HO273 BK236 BK237 BK246 BK247 HB hHeld ⊢
       refine take_ (i := 0) (N := some 58) (v := ?_) (a' := ?_) #[true, false, false, false] rfl rfl (by kernel_rfl) (fun _ _ _ h => h) (Or.inl ⟨by rfl, ?_⟩) hHeld ?_ ?_
       rotate_left
       ·rintro w' ⟨s0, s1⟩
        go_simp
        with_reducible rfl
       rotate_left
       ·simp only [Act.put, List.setIfInBounds_toArray, List.set_cons_zero, List.set_cons_succ, i64_w, i32_w]
        rfl
       refine one_ (i := 1) (N := some 59) #[true, true, false, false] rfl rfl (by kernel_rfl) (by decide) (fun K hK => ?_)
       refine goes_ Try.func45 (by kernel_rfl) rfl #[.int .i64 1] (by rfl) rfl rfl mO ?_
       with_reducible refine (tabardref01_Of.calls k1 1 t274 t275 _ A44.out).mono ?_
       rintro e w80 ⟨v276, rfl, ho0, hb⟩
       refine ⟨_, rfl, ?_⟩
       have n0_ := Aside0.mk (Kd.V_below (vO HO_237001.out) hb)
       have n1_ := Aside0.mk (Kd.V_below (vO HO_238001.out) hb)
       have n2_ := Aside0.mk (Kd.V_below (vO HO_247001.out) hb)
       have n3_ := Aside0.mk (Kd.V_below (vO HO_248001.out) hb)
       have n4_ := Aside0.mk (Kd.V_below (vO HO251.out) hb)
       have n5_ := Aside0.mk (Kd.V_below (vO HO256.out) hb)
       have n6_ := Aside0.mk (Kd.V_below (vO HO260.out) hb)
       have n7_ := Aside0.mk (Kd.V_below (vO HO264.out) hb)
       have n8_ := Aside0.mk (Kd.V_below (vO HO269.out) hb)
       have n9_ := Aside0.mk (Kd.V_below (vO HO273.out) hb)
       have n10_ := Aside0.mk (Kd.V_lower (Kd.V_mono (ok' := fun k_ => k_ ≠ gb236 ∧ k_ ≠ gb237 ∧ k_ ≠ gb246 ∧ k_ ≠ gb247) ho0 (fun k_ hk_ => ⟨(Kd.freshB (g := gb236) (o := .cells #[.bool false, .slice Ao9 t229.length co9] 59 (0, 0)) (kO BK236.out) k_ hk_), (Kd.freshB (g := gb237) (o := .cells #[.bool false, .slice Ao11 t233.length co11] 59 (0, 0)) (kO BK237.out) k_ hk_), (Kd.freshB (g := gb246) (o := .cells #[.bool t261, .slice Ao64 t262.length co64] 59 (0, 0)) (kO BK246.out) k_ hk_), (Kd.freshB (g := gb247) (o := .cells #[.bool t270, .slice Ao76 t271.length co76] 59 (0, 0)) (kO BK247.out) k_ hk_)⟩)) (below_size (by repeat (first | (with_reducible first | exact HB.out | apply below_alloc | apply pw_below_drewN | apply below_drew1 | refine below_set ?_ GE236.out | refine below_set ?_ GE237.out | refine below_set ?_ GE246.out | refine below_set ?_ GE247.out) | exact HB.out))))
       have n11_ := Aside0.mk (blk_below (g := gb236) (o := .cells #[.bool false, .slice Ao9 t229.length co9] 59 (0, 0)) (kO BK236.out) hb)
       have n12_ := Aside0.mk (blk_below (g := gb237) (o := .cells #[.bool false, .slice Ao11 t233.length co11] 59 (0, 0)) (kO BK237.out) hb)
       have n13_ := Aside0.mk (blk_below (g := gb246) (o := .cells #[.bool t261, .slice Ao64 t262.length co64] 59 (0, 0)) (kO BK246.out) hb)
       have n14_ := Aside0.mk (blk_below (g := gb247) (o := .cells #[.bool t270, .slice Ao76 t271.length co76] 59 (0, 0)) (kO BK247.out) hb)
       have n15_ := Aside0.mk (below_step (by repeat (first | (with_reducible first | exact HB.out | apply below_alloc | apply pw_below_drewN | apply below_drew1 | refine below_set ?_ GE236.out | refine below_set ?_ GE237.out | refine below_set ?_ GE246.out | refine below_set ?_ GE247.out) | exact HB.out)) hb)
       clear HO_237001
       clear HO_238001
       clear HO_247001
       clear HO_248001
       clear HO251
       clear HO256
       clear HO260
       clear HO264
       clear HO269
       clear HO273
       clear BK236
       clear BK237
       clear BK246
       clear BK247
       clear HB
       have HO_237001 := n0_
       have HO_238001 := n1_
       have HO_247001 := n2_
       have HO_248001 := n3_
       have HO251 := n4_
       have HO256 := n5_
       have HO260 := n6_
       have HO264 := n7_
       have HO269 := n8_
       have HO273 := n9_
       have HO277 := n10_
       have BK236 := n11_
       have BK237 := n12_
       have BK246 := n13_
       have BK247 := n14_
       have HB := n15_
       clear n0_ n1_ n2_ n3_ n4_ n5_ n6_ n7_ n8_ n9_ n10_ n11_ n12_ n13_ n14_ n15_
       (try clear hb)
       (try clear hb2)
       (try clear hk)
       (try clear hi)
       (try clear ho0)
       obtain ⟨Ao81, co81, eo81⟩ := Kd.V_slice HO277.out
       (first | subst eo81 | (injection eo81 with f1_ f2_ f3_; have f4_ := f1_.symm; have f5_ := f3_.symm; clear f1_ f2_ f3_; subst f4_; subst f5_))
       refine hK.out _ _ ⟨(blk_cell BK246.out 0).trans rfl, (blk_cell BK246.out 1).trans rfl⟩ (fun hHeld => ?_)
       clear hK K
       refine norm_ (a' := ?_) ?_ ?_
       rotate_left
       ·show Act.put _ (some 59) _ = _
        simp only [Act.put, List.setIfInBounds_toArray, List.set_cons_zero, List.set_cons_succ, i64_w, i32_w]
        rfl
       refine one_ (i := 2) (N := some 60) #[true, true, true, false] rfl rfl (by kernel_rfl) (by decide) (fun K hK => ?_)
       refine goes_ Try.func46 (by kernel_rfl) rfl #[.agg #[.bool t261, .slice Ao64 t262.length co64], .agg #[.bool t274, .slice Ao81 t275.length co81]] (by rfl) rfl rfl mO ?_
       with_reducible refine (tabardref01_Plus.calls k1 t261 _ _ t262 t274 _ _ t275 t278 t279 _ ?side1 ?side2 ?side3 ?side4 A45.out).mono ?_
       (case side1 => exact cO (Kd.V_reads' HO264.out).2.2)
       (case side2 => exact (Kd.V_reads' HO264.out).2.1)
       (case side3 => exact cO (Kd.V_reads' HO277.out).2.2)
       (case side4 => exact (Kd.V_reads' HO277.out).2.1)
       rintro e w82 ⟨v280, rfl, ho0, hb⟩
       refine ⟨_, rfl, ?_⟩
       have n0_ := Aside0.mk (Kd.V_below (vO HO_237001.out) hb)
       have n1_ := Aside0.mk (Kd.V_below (vO HO_238001.out) hb)
       have n2_ := Aside0.mk (Kd.V_below (vO HO_247001.out) hb)
       have n3_ := Aside0.mk (Kd.V_below (vO HO_248001.out) hb)
       have n4_ := Aside0.mk (Kd.V_below (vO HO251.out) hb)
       have n5_ := Aside0.mk (Kd.V_below (vO HO256.out) hb)
       have n6_ := Aside0.mk (Kd.V_below (vO HO260.out) hb)
       have n7_ := Aside0.mk (Kd.V_below (vO HO264.out) hb)
       have n8_ := Aside0.mk (Kd.V_below (vO HO269.out) hb)
       have n9_ := Aside0.mk (Kd.V_below (vO HO273.out) hb)
       have n10_ := Aside0.mk (Kd.V_below (vO HO277.out) hb)
       have n11_ := Aside0.mk (Kd.V_lower (Kd.V_mono (ok' := fun k_ => k_ ≠ gb236 ∧ k_ ≠ gb237 ∧ k_ ≠ gb246 ∧ k_ ≠ gb247) ho0 (fun k_ hk_ => ⟨(Kd.freshB (g := gb236) (o := .cells #[.bool false, .slice Ao9 t229.length co9] 59 (0, 0)) (kO BK236.out) k_ hk_), (Kd.freshB (g := gb237) (o := .cells #[.bool false, .slice Ao11 t233.length co11] 59 (0, 0)) (kO BK237.out) k_ hk_), (Kd.freshB (g := gb246) (o := .cells #[.bool t261, .slice Ao64 t262.length co64] 59 (0, 0)) (kO BK246.out) k_ hk_), (Kd.freshB (g := gb247) (o := .cells #[.bool t270, .slice Ao76 t271.length co76] 59 (0, 0)) (kO BK247.out) k_ hk_)⟩)) (below_size (by repeat (first | (with_reducible first | exact HB.out | apply below_alloc | apply pw_below_drewN | apply below_drew1 | refine below_set ?_ GE236.out | refine below_set ?_ GE237.out | refine below_set ?_ GE246.out | refine below_set ?_ GE247.out) | exact HB.out))))
       have n12_ := Aside0.mk (blk_below (g := gb236) (o := .cells #[.bool false, .slice Ao9 t229.length co9] 59 (0, 0)) (kO BK236.out) hb)
       have n13_ := Aside0.mk (blk_below (g := gb237) (o := .cells #[.bool false, .slice Ao11 t233.length co11] 59 (0, 0)) (kO BK237.out) hb)
       have n14_ := Aside0.mk (blk_below (g := gb246) (o := .cells #[.bool t261, .slice Ao64 t262.length co64] 59 (0, 0)) (kO BK246.out) hb)
       have n15_ := Aside0.mk (blk_below (g := gb247) (o := .cells #[.bool t270, .slice Ao76 t271.length co76] 59 (0, 0)) (kO BK247.out) hb)
       have n16_ := Aside0.mk (below_step (by repeat (first | (with_reducible first | exact HB.out | apply below_alloc | apply pw_below_drewN | apply below_drew1 | refine below_set ?_ GE236.out | refine below_set ?_ GE237.out | refine below_set ?_ GE246.out | refine below_set ?_ GE247.out) | exact HB.out)) hb)
       clear HO_237001
       clear HO_238001
       clear HO_247001
       clear HO_248001
       clear HO251
       clear HO256
       clear HO260
       clear HO264
       clear HO269
       clear HO273
       clear HO277
       clear BK236
       clear BK237
       clear BK246
       clear BK247
       clear HB
       have HO_237001 := n0_
       have HO_238001 := n1_
       have HO_247001 := n2_
       have HO_248001 := n3_
       have HO251 := n4_
       have HO256 := n5_
       have HO260 := n6_
       have HO264 := n7_
       have HO269 := n8_
       have HO273 := n9_
       have HO277 := n10_
       have HO281 := n11_
       have BK236 := n12_
       have BK237 := n13_
       have BK246 := n14_
       have BK247 := n15_
       have HB := n16_
       clear n0_ n1_ n2_ n3_ n4_ n5_ n6_ n7_ n8_ n9_ n10_ n11_ n12_ n13_ n14_ n15_ n16_
       (try clear hb)
       (try clear hb2)
       (try clear hk)
       (try clear hi)
       (try clear ho0)
       obtain ⟨Ao84, co84, eo84⟩ := Kd.V_slice HO281.out
       (first | subst eo84 | (injection eo84 with f1_ f2_ f3_; have f4_ := f1_.symm; have f5_ := f3_.symm; clear f1_ f2_ f3_; subst f4_; subst f5_))
       refine hK.out _ _ ⟨(blk_cell BK246.out 0).trans rfl, (blk_cell BK246.out 1).trans rfl⟩ (fun hHeld => ?_)
       clear hK K
       refine norm_ (a' := ?_) ?_ ?_
       rotate_left
       ·show Act.put _ (some 60) _ = _
        simp only [Act.put, List.setIfInBounds_toArray, List.set_cons_zero, List.set_cons_succ, i64_w, i32_w]
        rfl
       refine last_ (i := 3) (N := none) #[true, true, true, true] rfl rfl (by kernel_rfl) (by decide) (fun K hK => ?_)
       have hs83 : w82.cell? ⟨gb246, 0, none⟩ = some (.bool t261) := (blk_cell BK246.out 0).trans rfl
       have hfs83 := blk_frozen BK246.out 0
       have hns83_0 := NB236_246.out
       have hns83_1 := NB237_246.out
       have hns83_3 := NB247_246.out
       have hms83_0 := NB246_236.out
       have hms83_1 := NB246_237.out
       have hms83_3 := NB246_247.out
       have hs85 : w82.cell? ⟨gb246, 1, none⟩ = some (.slice Ao64 t262.length co64) := (blk_cell BK246.out 1).trans rfl
       have hfs85 := blk_frozen BK246.out 1
       have hns85_0 := NB236_246.out
       have hns85_1 := NB237_246.out
       have hns85_3 := NB247_246.out
       have hms85_0 := NB246_236.out
       have hms85_1 := NB246_237.out
       have hms85_3 := NB246_247.out
       refine skip_ (w1 := ?_) (by rfl) rfl ?_ ?_
       rotate_left
       ·go_simp
        rfl
       refine hK.out _ _ ?_
       clear hK K
       refine done_ (by kernel_rfl) ?_
       try go_wp2
       go_roundg k1
       case measure => have := HK1.out; omega
       case rel => exact ⟨(wrap64 (x10_1 - 1)), (t278), (t279), (t270), (t271), (.slice Ao84 t279.length co84), (.slice Ao76 t271.length co76), (by first | rfl | (simp; done) | (simp [*]; done)), H', ⟨by have := HK1.out; omega⟩, ⟨by (with_reducible repeat (first | apply Kd.V_alloc | apply Kd.V_drewN | apply Kd.V_drew)); exact Kd.V_mono (Kd.V_far (p := ⟨gb246, 1, none⟩) (Kd.V_far (p := ⟨gb246, 0, none⟩) (Kd.V_mono HO_237001.out (fun k_ hk => (⟨hk, hk.2.2.1⟩ : _ ∧ k_ ≠ gb246))) (fun _ hk => hk.2) (.bool t278)) (fun _ hk => hk.2) (.slice Ao84 t279.length co84)) (fun _ hk => ⟨hk.1.1, ⟨hk.1.2.1, ⟨hk.1.2.2.1, hk.1.2.2.2⟩⟩⟩)⟩, ⟨by (with_reducible repeat (first | apply Kd.V_alloc | apply Kd.V_drewN | apply Kd.V_drew)); exact Kd.V_mono (Kd.V_far (p := ⟨gb246, 1, none⟩) (Kd.V_far (p := ⟨gb246, 0, none⟩) (Kd.V_mono HO_238001.out (fun k_ hk => (⟨hk, hk.2.2.1⟩ : _ ∧ k_ ≠ gb246))) (fun _ hk => hk.2) (.bool t278)) (fun _ hk => hk.2) (.slice Ao84 t279.length co84)) (fun _ hk => ⟨hk.1.1, ⟨hk.1.2.1, ⟨hk.1.2.2.1, hk.1.2.2.2⟩⟩⟩)⟩, ⟨by (with_reducible repeat (first | apply Kd.V_alloc | apply Kd.V_drewN | apply Kd.V_drew)); exact Kd.V_mono (Kd.V_far (p := ⟨gb246, 1, none⟩) (Kd.V_far (p := ⟨gb246, 0, none⟩) (Kd.V_mono HO281.out (fun k_ hk => (⟨hk, hk.2.2.1⟩ : _ ∧ k_ ≠ gb246))) (fun _ hk => hk.2) (.bool t278)) (fun _ hk => hk.2) (.slice Ao84 t279.length co84)) (fun _ hk => ⟨hk.1.1, ⟨hk.1.2.1, ⟨hk.1.2.2.1, hk.1.2.2.2⟩⟩⟩)⟩, ⟨by (with_reducible repeat (first | apply Kd.V_alloc | apply Kd.V_drewN | apply Kd.V_drew)); exact Kd.V_mono (Kd.V_far (p := ⟨gb246, 1, none⟩) (Kd.V_far (p := ⟨gb246, 0, none⟩) (Kd.V_mono HO273.out (fun k_ hk => (⟨hk, hk.2.2.1⟩ : _ ∧ k_ ≠ gb246))) (fun _ hk => hk.2) (.bool t278)) (fun _ hk => hk.2) (.slice Ao84 t279.length co84)) (fun _ hk => ⟨hk.1.1, ⟨hk.1.2.1, ⟨hk.1.2.2.1, hk.1.2.2.2⟩⟩⟩)⟩, ⟨by (with_reducible repeat (first | refine blk_drewN ?_ _ | refine blk_drew ?_ | refine blk_alloc ?_ _)); refine blk_far ?_ NB236_246.out _; (with_reducible repeat (first | refine blk_drewN ?_ _ | refine blk_drew ?_ | refine blk_alloc ?_ _)); refine blk_far ?_ NB236_246.out _; (with_reducible repeat (first | refine blk_drewN ?_ _ | refine blk_drew ?_ | refine blk_alloc ?_ _)); exact BK236.out⟩, ⟨by (with_reducible repeat (first | refine blk_drewN ?_ _ | refine blk_drew ?_ | refine blk_alloc ?_ _)); refine blk_far ?_ NB237_246.out _; (with_reducible repeat (first | refine blk_drewN ?_ _ | refine blk_drew ?_ | refine blk_alloc ?_ _)); refine blk_far ?_ NB237_246.out _; (with_reducible repeat (first | refine blk_drewN ?_ _ | refine blk_drew ?_ | refine blk_alloc ?_ _)); exact BK237.out⟩, ⟨by (with_reducible repeat (first | refine blk_drewN ?_ _ | refine blk_drew ?_ | refine blk_alloc ?_ _)); refine blk_put (cs := #[.bool t278, .slice Ao64 t262.length co64]) ?_ 1 _ rfl; (with_reducible repeat (first | refine blk_drewN ?_ _ | refine blk_drew ?_ | refine blk_alloc ?_ _)); refine blk_put (cs := #[.bool t261, .slice Ao64 t262.length co64]) ?_ 0 _ rfl; (with_reducible repeat (first | refine blk_drewN ?_ _ | refine blk_drew ?_ | refine blk_alloc ?_ _)); exact BK246.out⟩, ⟨by (with_reducible repeat (first | refine blk_drewN ?_ _ | refine blk_drew ?_ | refine blk_alloc ?_ _)); refine blk_far ?_ NB247_246.out _; (with_reducible repeat (first | refine blk_drewN ?_ _ | refine blk_drew ?_ | refine blk_alloc ?_ _)); refine blk_far ?_ NB247_246.out _; (with_reducible repeat (first | refine blk_drewN ?_ _ | refine blk_drew ?_ | refine blk_alloc ?_ _)); exact BK247.out⟩, ⟨by repeat (first | (with_reducible first | exact HB.out | apply below_alloc | apply pw_below_drewN | apply below_drew1 | refine below_set ?_ GE236.out | refine below_set ?_ GE237.out | refine below_set ?_ GE246.out | refine below_set ?_ GE247.out) | exact HB.out)⟩⟩
      ·rw [if_neg c41] at H
       have c41b0 : decide (0 ≤ t265) = false := decide_eq_false c41
       clear c41
       have H' := Aside0.mk H
       clear H
       try go_wp2
       have n0_ := Aside0.mk (Kd.V_drew HO_237001.out)
       have n1_ := Aside0.mk (Kd.V_drew HO_238001.out)
       have n2_ := Aside0.mk (Kd.V_drew HO_247001.out)
       have n3_ := Aside0.mk (Kd.V_drew HO_248001.out)
       have n4_ := Aside0.mk (blk_drew BK236.out)
       have n5_ := Aside0.mk (blk_drew BK237.out)
       have n6_ := Aside0.mk (blk_drew BK246.out)
       have n7_ := Aside0.mk (blk_drew BK247.out)
       have n8_ := Aside0.mk (below_drew1 HB.out)
       clear HO_237001
       clear HO_238001
       clear HO_247001
       clear HO_248001
       clear BK236
       clear BK237
       clear BK246
       clear BK247
       clear HB
       have HO_237001 := n0_
       have HO_238001 := n1_
       have HO_247001 := n2_
       have HO_248001 := n3_
       have BK236 := n4_
       have BK237 := n5_
       have BK246 := n6_
       have BK247 := n7_
       have HB := n8_
       clear n0_ n1_ n2_ n3_ n4_ n5_ n6_ n7_ n8_
       obtain ⟨Ao87, co87, eo87⟩ := Kd.V_slice HO_248001.out
       (first | subst eo87 | (injection eo87 with f1_ f2_ f3_; have f4_ := f1_.symm; have f5_ := f3_.symm; clear f1_ f2_ f3_; subst f4_; subst f5_))
       refine start_ (n := 16) (S := fun w' => w'.cell? ⟨gb247, 0, none⟩ = some (.bool x248000_1) ∧ w'.cell? ⟨gb247, 1, none⟩ = some (.slice Ao87 x248001_1.length co87) ∧ w'.cell? ⟨gb236, 0, none⟩ = some (.bool false) ∧ w'.cell? ⟨gb236, 1, none⟩ = some (.slice Ao9 t229.length co9)) (ds := [15]) #[false, false, false, false, false, false, false, false, false, false, false, false, false, false, false, false] (by kernel_rfl) rfl rfl ⟨(blk_cell BK247.out 0).trans rfl, (blk_cell BK247.out 1).trans rfl, (blk_cell BK236.out 0).trans rfl, (blk_cell BK236.out 1).trans rfl⟩ (fun hHeld => ?_); refine with_tabW tabardref01_Floor.tab8 tabardref01_Floor.bits8 (fun HT_ HW_ => ?_)
       generalize wr.drew = w86 at HO_237001 HO_238001 HO_247001 HO_248001 BK236 BK237 BK246 BK247 HB hHeld ⊢
       refine pure_ (i := 4) (N := some 36) (v := ?_) (a' := ?_) #[false, false, false, false, true, false, false, false, false, false, false, false, false, false, false, false] rfl rfl (any_of HT_.out (by kernel_rfl)) (fun _ _ _ h => h) (Or.inl ⟨by rfl, ?_⟩) ?_ ?_
       rotate_left
       ·intro w'
        go_simp
        with_reducible rfl
       rotate_left
       ·simp only [Act.put, List.setIfInBounds_toArray, List.set_cons_zero, List.set_cons_succ, i64_w, i32_w]
        rfl
       refine pure_ (i := 5) (N := some 37) (v := ?_) (a' := ?_) #[false, false, false, false, true, true, false, false, false, false, false, false, false, false, false, false] rfl rfl (any_of HT_.out (by kernel_rfl)) (fun _ _ _ h => h) (Or.inl ⟨by rfl, ?_⟩) ?_ ?_
       rotate_left
       ·intro w'
        go_simp
        with_reducible rfl
       rotate_left
       ·simp only [Act.put, List.setIfInBounds_toArray, List.set_cons_zero, List.set_cons_succ, i64_w, i32_w]
        rfl
       refine pure_ (i := 7) (N := some 39) (v := ?_) (a' := ?_) #[false, false, false, false, true, true, false, true, false, false, false, false, false, false, false, false] rfl rfl (any_of HT_.out (by kernel_rfl)) (fun _ _ _ h => h) (Or.inl ⟨by rfl, ?_⟩) ?_ ?_
       rotate_left
       ·intro w'
        go_simp
        with_reducible rfl
       rotate_left
       ·simp only [Act.put, List.setIfInBounds_toArray, List.set_cons_zero, List.set_cons_succ, i64_w, i32_w]
        rfl
       refine pure_ (i := 8) (N := some 40) (v := ?_) (a' := ?_) #[false, false, false, false, true, true, false, true, true, false, false, false, false, false, false, false] rfl rfl (any_of HT_.out (by kernel_rfl)) (fun _ _ _ h => h) (Or.inl ⟨by rfl, ?_⟩) ?_ ?_
       rotate_left
       ·intro w'
        go_simp
        with_reducible rfl
       rotate_left
       ·simp only [Act.put, List.setIfInBounds_toArray, List.set_cons_zero, List.set_cons_succ, i64_w, i32_w]
        rfl
       refine pure_ (i := 9) (N := some 41) (v := ?_) (a' := ?_) #[false, false, false, false, true, true, false, true, true, true, false, false, false, false, false, false] rfl rfl (any_of HT_.out (by kernel_rfl)) (fun _ _ _ h => h) (Or.inl ⟨by rfl, ?_⟩) ?_ ?_
       rotate_left
       ·intro w'
        go_simp
        with_reducible rfl
       rotate_left
       ·simp only [Act.put, List.setIfInBounds_toArray, List.set_cons_zero, List.set_cons_succ, i64_w, i32_w]
        rfl
       refine take_ (i := 0) (N := some 32) (v := ?_) (a' := ?_) #[true, false, false, false, true, true, false, true, true, true, false, false, false, false, false, false] rfl rfl (take_ofW HT_.out HW_.out (by kernel_rfl)) (fun _ _ _ h => h) (Or.inl ⟨by rfl, ?_⟩) hHeld ?_ ?_
       rotate_left
       ·rintro w' ⟨s0, s1, s2, s3⟩
        go_simp
        with_reducible rfl
       rotate_left
       ·simp only [Act.put, List.setIfInBounds_toArray, List.set_cons_zero, List.set_cons_succ, i64_w, i32_w]
        rfl
       refine take_ (i := 1) (N := some 33) (v := ?_) (a' := ?_) #[true, true, false, false, true, true, false, true, true, true, false, false, false, false, false, false] rfl rfl (take_ofW HT_.out HW_.out (by kernel_rfl)) (fun _ _ _ h => h) (Or.inl ⟨by rfl, ?_⟩) hHeld ?_ ?_
       rotate_left
       ·rintro w' ⟨s0, s1, s2, s3⟩
        go_simp
        with_reducible rfl
       rotate_left
       ·simp only [Act.put, List.setIfInBounds_toArray, List.set_cons_zero, List.set_cons_succ, i64_w, i32_w]
        rfl
       refine take_ (i := 3) (N := some 35) (v := ?_) (a' := ?_) #[true, true, false, true, true, true, false, true, true, true, false, false, false, false, false, false] rfl rfl (take_ofW HT_.out HW_.out (by kernel_rfl)) (fun _ _ _ h => h) (Or.inl ⟨by rfl, ?_⟩) hHeld ?_ ?_
       rotate_left
       ·rintro w' ⟨s0, s1, s2, s3⟩
        go_simp
        with_reducible rfl
       rotate_left
       ·simp only [Act.put, List.setIfInBounds_toArray, List.set_cons_zero, List.set_cons_succ, i64_w, i32_w]
        rfl
       refine one_ (i := 2) (N := some 34) #[true, true, true, true, true, true, false, true, true, true, false, false, false, false, false, false] rfl rfl (one_of HT_.out (by kernel_rfl)) (by decide) (fun K hK => ?_)
       refine goes_ Try.func46 (by kernel_rfl) rfl #[.agg #[.bool x248000_1, .slice Ao87 x248001_1.length co87], .agg #[.bool x248000_1, .slice Ao87 x248001_1.length co87]] (by rfl) rfl rfl mO ?_
       with_reducible refine (tabardref01_Plus.calls k1 x248000_1 _ _ x248001_1 x248000_1 _ _ x248001_1 t248 t249 _ ?side1 ?side2 ?side3 ?side4 A32.out).mono ?_
       (case side1 => exact cO (Kd.V_reads' HO_248001.out).2.2)
       (case side2 => exact (Kd.V_reads' HO_248001.out).2.1)
       (case side3 => exact cO (Kd.V_reads' HO_248001.out).2.2)
       (case side4 => exact (Kd.V_reads' HO_248001.out).2.1)
       rintro e w88 ⟨v250, rfl, ho0, hb⟩
       refine ⟨_, rfl, ?_⟩
       have n0_ := Aside0.mk (Kd.V_below (vO HO_237001.out) hb)
       have n1_ := Aside0.mk (Kd.V_below (vO HO_238001.out) hb)
       have n2_ := Aside0.mk (Kd.V_below (vO HO_247001.out) hb)
       have n3_ := Aside0.mk (Kd.V_below (vO HO_248001.out) hb)
       have n4_ := Aside0.mk (Kd.V_lower (Kd.V_mono (ok' := fun k_ => k_ ≠ gb236 ∧ k_ ≠ gb237 ∧ k_ ≠ gb246 ∧ k_ ≠ gb247) ho0 (fun k_ hk_ => ⟨(Kd.freshB (g := gb236) (o := .cells #[.bool false, .slice Ao9 t229.length co9] 59 (0, 0)) (kO BK236.out) k_ hk_), (Kd.freshB (g := gb237) (o := .cells #[.bool false, .slice Ao11 t233.length co11] 59 (0, 0)) (kO BK237.out) k_ hk_), (Kd.freshB (g := gb246) (o := .cells #[.bool x247000_1, u247001] 59 (0, 0)) (kO BK246.out) k_ hk_), (Kd.freshB (g := gb247) (o := .cells #[.bool x248000_1, .slice Ao87 x248001_1.length co87] 59 (0, 0)) (kO BK247.out) k_ hk_)⟩)) (below_size (by repeat (first | (with_reducible first | exact HB.out | apply below_alloc | apply pw_below_drewN | apply below_drew1 | refine below_set ?_ GE236.out | refine below_set ?_ GE237.out | refine below_set ?_ GE246.out | refine below_set ?_ GE247.out) | exact HB.out))))
       have n5_ := Aside0.mk (blk_below (g := gb236) (o := .cells #[.bool false, .slice Ao9 t229.length co9] 59 (0, 0)) (kO BK236.out) hb)
       have n6_ := Aside0.mk (blk_below (g := gb237) (o := .cells #[.bool false, .slice Ao11 t233.length co11] 59 (0, 0)) (kO BK237.out) hb)
       have n7_ := Aside0.mk (blk_below (g := gb246) (o := .cells #[.bool x247000_1, u247001] 59 (0, 0)) (kO BK246.out) hb)
       have n8_ := Aside0.mk (blk_below (g := gb247) (o := .cells #[.bool x248000_1, .slice Ao87 x248001_1.length co87] 59 (0, 0)) (kO BK247.out) hb)
       have n9_ := Aside0.mk (below_step (by repeat (first | (with_reducible first | exact HB.out | apply below_alloc | apply pw_below_drewN | apply below_drew1 | refine below_set ?_ GE236.out | refine below_set ?_ GE237.out | refine below_set ?_ GE246.out | refine below_set ?_ GE247.out) | exact HB.out)) hb)
       clear HO_237001
       clear HO_238001
       clear HO_247001
       clear HO_248001
       clear BK236
       clear BK237
       clear BK246
       clear BK247
       clear HB
       have HO_237001 := n0_
       have HO_238001 := n1_
       have HO_247001 := n2_
       have HO_248001 := n3_
       have HO251 := n4_
       have BK236 := n5_
       have BK237 := n6_
       have BK246 := n7_
       have BK247 := n8_
       have HB := n9_
       clear n0_ n1_ n2_ n3_ n4_ n5_ n6_ n7_ n8_ n9_
       (try clear hb)
       (try clear hb2)
       (try clear hk)
       (try clear hi)
       (try clear ho0)
       refine hK.out _ _ ⟨(blk_cell BK247.out 0).trans rfl, (blk_cell BK247.out 1).trans rfl, (blk_cell BK236.out 0).trans rfl, (blk_cell BK236.out 1).trans rfl⟩ (fun hHeld => ?_)
       clear hK K
       refine norm_ (a' := ?_) ?_ ?_
       rotate_left
       ·show Act.put _ (some 34) _ = _
        simp only [Act.put, List.setIfInBounds_toArray, List.set_cons_zero, List.set_cons_succ, i64_w, i32_w]
        rfl
       refine one_ (i := 6) (N := some 38) #[true, true, true, true, true, true, true, true, true, true, false, false, false, false, false, false] rfl rfl (one_of HT_.out (by kernel_rfl)) (by decide) (fun K hK => ?_)
       refine goes_ Try.func47 (by kernel_rfl) rfl #[.agg #[.bool false, .slice Ao9 t229.length co9], .int .i64 (wrap64 (Int.tdiv x10_1 16))] (by rfl) rfl rfl mO ?_
       with_reducible refine (tabardref01_Wide_digit.calls false _ _ t229 (wrap64 (Int.tdiv x10_1 16)) t252 _ ?side1 ?side2 A33.out).mono ?_
       (case side1 => exact cO (Kd.V_reads' HO_237001.out).2.2)
       (case side2 => exact (Kd.V_reads' HO_237001.out).2.1)
       rintro e w89 ⟨rfl, hb⟩
       refine ⟨_, rfl, ?_⟩
       have n0_ := Aside0.mk (Kd.V_below (vO HO_237001.out) hb)
       have n1_ := Aside0.mk (Kd.V_below (vO HO_238001.out) hb)
       have n2_ := Aside0.mk (Kd.V_below (vO HO_247001.out) hb)
       have n3_ := Aside0.mk (Kd.V_below (vO HO_248001.out) hb)
       have n4_ := Aside0.mk (Kd.V_below (vO HO251.out) hb)
       have n5_ := Aside0.mk (blk_below (g := gb236) (o := .cells #[.bool false, .slice Ao9 t229.length co9] 59 (0, 0)) (kO BK236.out) hb)
       have n6_ := Aside0.mk (blk_below (g := gb237) (o := .cells #[.bool false, .slice Ao11 t233.length co11] 59 (0, 0)) (kO BK237.out) hb)
       have n7_ := Aside0.mk (blk_below (g := gb246) (o := .cells #[.bool x247000_1, u247001] 59 (0, 0)) (kO BK246.out) hb)
       have n8_ := Aside0.mk (blk_below (g := gb247) (o := .cells #[.bool x248000_1, .slice Ao87 x248001_1.length co87] 59 (0, 0)) (kO BK247.out) hb)
       have n9_ := Aside0.mk (below_step (by repeat (first | (with_reducible first | exact HB.out | apply below_alloc | apply pw_below_drewN | apply below_drew1 | refine below_set ?_ GE236.out | refine below_set ?_ GE237.out | refine below_set ?_ GE246.out | refine below_set ?_ GE247.out) | exact HB.out)) hb)
       clear HO_237001
       clear HO_238001
       clear HO_247001
       clear HO_248001
       clear HO251
       clear BK236
       clear BK237
       clear BK246
       clear BK247
       clear HB
       have HO_237001 := n0_
       have HO_238001 := n1_
       have HO_247001 := n2_
       have HO_248001 := n3_
       have HO251 := n4_
       have BK236 := n5_
       have BK237 := n6_
       have BK246 := n7_
       have BK247 := n8_
       have HB := n9_
       clear n0_ n1_ n2_ n3_ n4_ n5_ n6_ n7_ n8_ n9_
       (try clear hb)
       (try clear hb2)
       (try clear hk)
       (try clear hi)
       refine hK.out _ _ ⟨(blk_cell BK247.out 0).trans rfl, (blk_cell BK247.out 1).trans rfl, (blk_cell BK236.out 0).trans rfl, (blk_cell BK236.out 1).trans rfl⟩ (fun hHeld => ?_)
       clear hK K
       refine norm_ (a' := ?_) ?_ ?_
       rotate_left
       ·show Act.put _ (some 38) _ = _
        simp only [Act.put, List.setIfInBounds_toArray, List.set_cons_zero, List.set_cons_succ, i64_w, i32_w]
        rfl
       refine pure_ (i := 10) (N := some 42) (v := ?_) (a' := ?_) #[true, true, true, true, true, true, true, true, true, true, true, false, false, false, false, false] rfl rfl (any_of HT_.out (by kernel_rfl)) (fun _ _ _ h => h) (Or.inl ⟨by rfl, ?_⟩) ?_ ?_
       rotate_left
       ·intro w'
        go_simp
        with_reducible rfl
       rotate_left
       ·simp only [Act.put, List.setIfInBounds_toArray, List.set_cons_zero, List.set_cons_succ, i64_w, i32_w]
        rfl
       refine pure_ (i := 11) (N := some 43) (v := ?_) (a' := ?_) #[true, true, true, true, true, true, true, true, true, true, true, true, false, false, false, false] rfl rfl (any_of HT_.out (by kernel_rfl)) (fun _ _ _ h => h) (Or.inl ⟨by rfl, ?_⟩) ?_ ?_
       rotate_left
       ·intro w'
        go_simp
        with_reducible rfl
       rotate_left
       ·simp only [Act.put, List.setIfInBounds_toArray, List.set_cons_zero, List.set_cons_succ, i64_w, i32_w]
        rfl
       refine pure_ (i := 12) (N := some 44) (v := ?_) (a' := ?_) #[true, true, true, true, true, true, true, true, true, true, true, true, true, false, false, false] rfl rfl (any_of HT_.out (by kernel_rfl)) (fun _ _ _ h => h) (Or.inl ⟨by rfl, ?_⟩) ?_ ?_
       rotate_left
       ·intro w'
        go_simp
        with_reducible rfl
       rotate_left
       ·simp only [Act.put, List.setIfInBounds_toArray, List.set_cons_zero, List.set_cons_succ, i64_w, i32_w]
        rfl
       refine one_ (i := 13) (N := some 45) #[true, true, true, true, true, true, true, true, true, true, true, true, true, true, false, false] rfl rfl (one_of HT_.out (by kernel_rfl)) (by decide) (fun K hK => ?_)
       refine goes_ Try.func45 (by kernel_rfl) rfl #[.int .i64 (wrap64 (Go.bits .and .u64 (ji36) 1))] (by rfl) rfl rfl (by (try simp only [List.map_toArray, List.map_cons, List.map_nil]); first | done | (simp only [hji36]; rfl) | rfl | (simp only [List.length_drop, List.length_take]; rfl)) ?_
       with_reducible refine (tabardref01_Of.calls k1 (wrap64 (Go.bits .and .u64 (ji36) 1)) t253 t254 _ A37.out).mono ?_
       rintro e w90 ⟨v255, rfl, ho0, hb⟩
       refine ⟨_, rfl, ?_⟩
       have n0_ := Aside0.mk (Kd.V_below (vO HO_237001.out) hb)
       have n1_ := Aside0.mk (Kd.V_below (vO HO_238001.out) hb)
       have n2_ := Aside0.mk (Kd.V_below (vO HO_247001.out) hb)
       have n3_ := Aside0.mk (Kd.V_below (vO HO_248001.out) hb)
       have n4_ := Aside0.mk (Kd.V_below (vO HO251.out) hb)
       have n5_ := Aside0.mk (Kd.V_lower (Kd.V_mono (ok' := fun k_ => k_ ≠ gb236 ∧ k_ ≠ gb237 ∧ k_ ≠ gb246 ∧ k_ ≠ gb247) ho0 (fun k_ hk_ => ⟨(Kd.freshB (g := gb236) (o := .cells #[.bool false, .slice Ao9 t229.length co9] 59 (0, 0)) (kO BK236.out) k_ hk_), (Kd.freshB (g := gb237) (o := .cells #[.bool false, .slice Ao11 t233.length co11] 59 (0, 0)) (kO BK237.out) k_ hk_), (Kd.freshB (g := gb246) (o := .cells #[.bool x247000_1, u247001] 59 (0, 0)) (kO BK246.out) k_ hk_), (Kd.freshB (g := gb247) (o := .cells #[.bool x248000_1, .slice Ao87 x248001_1.length co87] 59 (0, 0)) (kO BK247.out) k_ hk_)⟩)) (below_size (by repeat (first | (with_reducible first | exact HB.out | apply below_alloc | apply pw_below_drewN | apply below_drew1 | refine below_set ?_ GE236.out | refine below_set ?_ GE237.out | refine below_set ?_ GE246.out | refine below_set ?_ GE247.out) | exact HB.out))))
       have n6_ := Aside0.mk (blk_below (g := gb236) (o := .cells #[.bool false, .slice Ao9 t229.length co9] 59 (0, 0)) (kO BK236.out) hb)
       have n7_ := Aside0.mk (blk_below (g := gb237) (o := .cells #[.bool false, .slice Ao11 t233.length co11] 59 (0, 0)) (kO BK237.out) hb)
       have n8_ := Aside0.mk (blk_below (g := gb246) (o := .cells #[.bool x247000_1, u247001] 59 (0, 0)) (kO BK246.out) hb)
       have n9_ := Aside0.mk (blk_below (g := gb247) (o := .cells #[.bool x248000_1, .slice Ao87 x248001_1.length co87] 59 (0, 0)) (kO BK247.out) hb)
       have n10_ := Aside0.mk (below_step (by repeat (first | (with_reducible first | exact HB.out | apply below_alloc | apply pw_below_drewN | apply below_drew1 | refine below_set ?_ GE236.out | refine below_set ?_ GE237.out | refine below_set ?_ GE246.out | refine below_set ?_ GE247.out) | exact HB.out)) hb)
       clear HO_237001
       clear HO_238001
       clear HO_247001
       clear HO_248001
       clear HO251
       clear BK236
       clear BK237
       clear BK246
       clear BK247
       clear HB
       have HO_237001 := n0_
       have HO_238001 := n1_
       have HO_247001 := n2_
       have HO_248001 := n3_
       have HO251 := n4_
       have HO256 := n5_
       have BK236 := n6_
       have BK237 := n7_
       have BK246 := n8_
       have BK247 := n9_
       have HB := n10_
       clear n0_ n1_ n2_ n3_ n4_ n5_ n6_ n7_ n8_ n9_ n10_
       (try clear hb)
       (try clear hb2)
       (try clear hk)
       (try clear hi)
       (try clear ho0)
       obtain ⟨Ao91, co91, eo91⟩ := Kd.V_slice HO251.out
       (first | subst eo91 | (injection eo91 with f1_ f2_ f3_; have f4_ := f1_.symm; have f5_ := f3_.symm; clear f1_ f2_ f3_; subst f4_; subst f5_))
       obtain ⟨Ao92, co92, eo92⟩ := Kd.V_slice HO256.out
       (first | subst eo92 | (injection eo92 with f1_ f2_ f3_; have f4_ := f1_.symm; have f5_ := f3_.symm; clear f1_ f2_ f3_; subst f4_; subst f5_))
       refine hK.out _ _ ⟨(blk_cell BK247.out 0).trans rfl, (blk_cell BK247.out 1).trans rfl, (blk_cell BK236.out 0).trans rfl, (blk_cell BK236.out 1).trans rfl⟩ (fun hHeld => ?_)
       clear hK K
       refine norm_ (a' := ?_) ?_ ?_
       rotate_left
       ·show Act.put _ (some 45) _ = _
        simp only [Act.put, List.setIfInBounds_toArray, List.set_cons_zero, List.set_cons_succ, i64_w, i32_w]
        rfl
       refine one_ (i := 14) (N := some 46) #[true, true, true, true, true, true, true, true, true, true, true, true, true, true, true, false] rfl rfl (one_of HT_.out (by kernel_rfl)) (by decide) (fun K hK => ?_)
       refine goes_ Try.func46 (by kernel_rfl) rfl #[.agg #[.bool t248, .slice Ao91 t249.length co91], .agg #[.bool t253, .slice Ao92 t254.length co92]] (by rfl) rfl rfl mO ?_
       with_reducible refine (tabardref01_Plus.calls k1 t248 _ _ t249 t253 _ _ t254 t257 t258 _ ?side1 ?side2 ?side3 ?side4 A38.out).mono ?_
       (case side1 => exact cO (Kd.V_reads' HO251.out).2.2)
       (case side2 => exact (Kd.V_reads' HO251.out).2.1)
       (case side3 => exact cO (Kd.V_reads' HO256.out).2.2)
       (case side4 => exact (Kd.V_reads' HO256.out).2.1)
       rintro e w93 ⟨v259, rfl, ho0, hb⟩
       refine ⟨_, rfl, ?_⟩
       have n0_ := Aside0.mk (Kd.V_below (vO HO_237001.out) hb)
       have n1_ := Aside0.mk (Kd.V_below (vO HO_238001.out) hb)
       have n2_ := Aside0.mk (Kd.V_below (vO HO_247001.out) hb)
       have n3_ := Aside0.mk (Kd.V_below (vO HO_248001.out) hb)
       have n4_ := Aside0.mk (Kd.V_below (vO HO251.out) hb)
       have n5_ := Aside0.mk (Kd.V_below (vO HO256.out) hb)
       have n6_ := Aside0.mk (Kd.V_lower (Kd.V_mono (ok' := fun k_ => k_ ≠ gb236 ∧ k_ ≠ gb237 ∧ k_ ≠ gb246 ∧ k_ ≠ gb247) ho0 (fun k_ hk_ => ⟨(Kd.freshB (g := gb236) (o := .cells #[.bool false, .slice Ao9 t229.length co9] 59 (0, 0)) (kO BK236.out) k_ hk_), (Kd.freshB (g := gb237) (o := .cells #[.bool false, .slice Ao11 t233.length co11] 59 (0, 0)) (kO BK237.out) k_ hk_), (Kd.freshB (g := gb246) (o := .cells #[.bool x247000_1, u247001] 59 (0, 0)) (kO BK246.out) k_ hk_), (Kd.freshB (g := gb247) (o := .cells #[.bool x248000_1, .slice Ao87 x248001_1.length co87] 59 (0, 0)) (kO BK247.out) k_ hk_)⟩)) (below_size (by repeat (first | (with_reducible first | exact HB.out | apply below_alloc | apply pw_below_drewN | apply below_drew1 | refine below_set ?_ GE236.out | refine below_set ?_ GE237.out | refine below_set ?_ GE246.out | refine below_set ?_ GE247.out) | exact HB.out))))
       have n7_ := Aside0.mk (blk_below (g := gb236) (o := .cells #[.bool false, .slice Ao9 t229.length co9] 59 (0, 0)) (kO BK236.out) hb)
       have n8_ := Aside0.mk (blk_below (g := gb237) (o := .cells #[.bool false, .slice Ao11 t233.length co11] 59 (0, 0)) (kO BK237.out) hb)
       have n9_ := Aside0.mk (blk_below (g := gb246) (o := .cells #[.bool x247000_1, u247001] 59 (0, 0)) (kO BK246.out) hb)
       have n10_ := Aside0.mk (blk_below (g := gb247) (o := .cells #[.bool x248000_1, .slice Ao87 x248001_1.length co87] 59 (0, 0)) (kO BK247.out) hb)
       have n11_ := Aside0.mk (below_step (by repeat (first | (with_reducible first | exact HB.out | apply below_alloc | apply pw_below_drewN | apply below_drew1 | refine below_set ?_ GE236.out | refine below_set ?_ GE237.out | refine below_set ?_ GE246.out | refine below_set ?_ GE247.out) | exact HB.out)) hb)
       clear HO_237001
       clear HO_238001
       clear HO_247001
       clear HO_248001
       clear HO251
       clear HO256
       clear BK236
       clear BK237
       clear BK246
       clear BK247
       clear HB
       have HO_237001 := n0_
       have HO_238001 := n1_
       have HO_247001 := n2_
       have HO_248001 := n3_
       have HO251 := n4_
       have HO256 := n5_
       have HO260 := n6_
       have BK236 := n7_
       have BK237 := n8_
       have BK246 := n9_
       have BK247 := n10_
       have HB := n11_
       clear n0_ n1_ n2_ n3_ n4_ n5_ n6_ n7_ n8_ n9_ n10_ n11_
       (try clear hb)
       (try clear hb2)
       (try clear hk)
       (try clear hi)
       (try clear ho0)
       obtain ⟨Ao95, co95, eo95⟩ := Kd.V_slice HO260.out
       (first | subst eo95 | (injection eo95 with f1_ f2_ f3_; have f4_ := f1_.symm; have f5_ := f3_.symm; clear f1_ f2_ f3_; subst f4_; subst f5_))
       refine hK.out _ _ ⟨(blk_cell BK247.out 0).trans rfl, (blk_cell BK247.out 1).trans rfl, (blk_cell BK236.out 0).trans rfl, (blk_cell BK236.out 1).trans rfl⟩ (fun hHeld => ?_)
       clear hK K
       refine norm_ (a' := ?_) ?_ ?_
       rotate_left
       ·show Act.put _ (some 46) _ = _
        simp only [Act.put, List.setIfInBounds_toArray, List.set_cons_zero, List.set_cons_succ, i64_w, i32_w]
        rfl
       refine last_ (i := 15) (N := none) #[true, true, true, true, true, true, true, true, true, true, true, true, true, true, true, true] rfl rfl (one_of HT_.out (by kernel_rfl)) (by decide) (fun K hK => ?_)
       have hs94 : w93.cell? ⟨gb247, 0, none⟩ = some (.bool x248000_1) := (blk_cell BK247.out 0).trans rfl
       have hfs94 := blk_frozen BK247.out 0
       have hns94_0 := NB236_247.out
       have hns94_1 := NB237_247.out
       have hns94_2 := NB246_247.out
       have hms94_0 := NB247_236.out
       have hms94_1 := NB247_237.out
       have hms94_2 := NB247_246.out
       have hs96 : w93.cell? ⟨gb247, 1, none⟩ = some (.slice Ao87 x248001_1.length co87) := (blk_cell BK247.out 1).trans rfl
       have hfs96 := blk_frozen BK247.out 1
       have hns96_0 := NB236_247.out
       have hns96_1 := NB237_247.out
       have hns96_2 := NB246_247.out
       have hms96_0 := NB247_236.out
       have hms96_1 := NB247_237.out
       have hms96_2 := NB247_246.out
       refine skip_ (w1 := ?_) (by rfl) rfl ?_ ?_
       rotate_left
       ·go_simp
        rfl
       refine hK.out _ _ ?_
       clear hK K
       refine done_ (done_of HT_.out (by kernel_rfl)) ?_
       have hnb97 := NB246_236.out
       have hnc97 := NB236_246.out
       have hnb98 := NB246_237.out
       have hnc98 := NB237_246.out
       have hnb99 := NB246_247.out
       have hnc99 := NB247_246.out
       have hcz100_0 : w93.cell? ⟨gb246, 0, none⟩ = some (.bool x247000_1) := (blk_cell BK246.out 0).trans rfl
       have hcz100_1 : w93.cell? ⟨gb246, 1, none⟩ = some (u247001) := (blk_cell BK246.out 1).trans rfl
       have hfz100_0 := blk_frozen BK246.out 0
       have hfz100_1 := blk_frozen BK246.out 1
       obtain ⟨Ao101, co101, eo101⟩ := Kd.V_slice HO_247001.out
       subst eo101
       try go_wp2_with (first | ((with_reducible refine gate_callee (f := 46) rfl ?_); refine goesL_ (some 49) rfl rfl Try.func46 (by kernel_rfl) rfl #[.agg #[.bool x247000_1, .slice Ao101 x247001_1.length co101], .agg #[.bool x247000_1, .slice Ao101 x247001_1.length co101]] rfl mO ?_; (with_reducible refine (tabardref01_Plus.calls k1 x247000_1 _ _ x247001_1 x247000_1 _ _ x247001_1 t261 t262 _ ?side1 ?side2 ?side3 ?side4 A39.out).mono ?_); (case side1 => refine (Kd.V_reads' (e := 63) (base := w.heap.size) (ok := fun k_ => (k_ ≠ gb236 ∧ (k_ ≠ gb237 ∧ (k_ ≠ gb246 ∧ k_ ≠ gb247)))) (n := x247001_1.length) (c := co101) ?_).2.2; exact (by (with_reducible repeat (first | apply Kd.V_alloc | apply Kd.V_drewN | apply Kd.V_drew)); exact (Kd.V_mono (Kd.V_far (p := ⟨gb247, 1, none⟩) (Kd.V_far (p := ⟨gb247, 0, none⟩) (Kd.V_mono HO_247001.out (fun k_ hk => (⟨hk, hk.2.2.2⟩ : _ ∧ k_ ≠ gb247))) (fun _ hk => hk.2) (.bool t257)) (fun _ hk => hk.2) (.slice Ao95 t258.length co95)) (fun _ h_ => h_.1)))); (case side2 => exact (Kd.V_reads' HO_247001.out).2.1); (case side3 => refine (Kd.V_reads' (e := 63) (base := w.heap.size) (ok := fun k_ => (k_ ≠ gb236 ∧ (k_ ≠ gb237 ∧ (k_ ≠ gb246 ∧ k_ ≠ gb247)))) (n := x247001_1.length) (c := co101) ?_).2.2; exact (by (with_reducible repeat (first | apply Kd.V_alloc | apply Kd.V_drewN | apply Kd.V_drew)); exact (Kd.V_mono (Kd.V_far (p := ⟨gb247, 1, none⟩) (Kd.V_far (p := ⟨gb247, 0, none⟩) (Kd.V_mono HO_247001.out (fun k_ hk => (⟨hk, hk.2.2.2⟩ : _ ∧ k_ ≠ gb247))) (fun _ hk => hk.2) (.bool t257)) (fun _ hk => hk.2) (.slice Ao95 t258.length co95)) (fun _ h_ => h_.1)))); (case side4 => exact (Kd.V_reads' HO_247001.out).2.1); rintro e w102 ⟨v263, rfl, ho0, hb⟩; refine ⟨_, rfl, ?_⟩; have n0_ := Aside0.mk (Kd.V_below (by (with_reducible repeat (first | apply Kd.V_alloc | apply Kd.V_drewN | apply Kd.V_drew)); exact (Kd.V_mono (Kd.V_far (p := ⟨gb247, 1, none⟩) (Kd.V_far (p := ⟨gb247, 0, none⟩) (Kd.V_mono HO_237001.out (fun k_ hk => (⟨hk, hk.2.2.2⟩ : _ ∧ k_ ≠ gb247))) (fun _ hk => hk.2) (.bool t257)) (fun _ hk => hk.2) (.slice Ao95 t258.length co95)) (fun _ h_ => h_.1))) hb); have n1_ := Aside0.mk (Kd.V_below (by (with_reducible repeat (first | apply Kd.V_alloc | apply Kd.V_drewN | apply Kd.V_drew)); exact (Kd.V_mono (Kd.V_far (p := ⟨gb247, 1, none⟩) (Kd.V_far (p := ⟨gb247, 0, none⟩) (Kd.V_mono HO_238001.out (fun k_ hk => (⟨hk, hk.2.2.2⟩ : _ ∧ k_ ≠ gb247))) (fun _ hk => hk.2) (.bool t257)) (fun _ hk => hk.2) (.slice Ao95 t258.length co95)) (fun _ h_ => h_.1))) hb); have n2_ := Aside0.mk (Kd.V_below (by (with_reducible repeat (first | apply Kd.V_alloc | apply Kd.V_drewN | apply Kd.V_drew)); exact (Kd.V_mono (Kd.V_far (p := ⟨gb247, 1, none⟩) (Kd.V_far (p := ⟨gb247, 0, none⟩) (Kd.V_mono HO_247001.out (fun k_ hk => (⟨hk, hk.2.2.2⟩ : _ ∧ k_ ≠ gb247))) (fun _ hk => hk.2) (.bool t257)) (fun _ hk => hk.2) (.slice Ao95 t258.length co95)) (fun _ h_ => h_.1))) hb); have n3_ := Aside0.mk (Kd.V_below (by (with_reducible repeat (first | apply Kd.V_alloc | apply Kd.V_drewN | apply Kd.V_drew)); exact (Kd.V_mono (Kd.V_far (p := ⟨gb247, 1, none⟩) (Kd.V_far (p := ⟨gb247, 0, none⟩) (Kd.V_mono HO_248001.out (fun k_ hk => (⟨hk, hk.2.2.2⟩ : _ ∧ k_ ≠ gb247))) (fun _ hk => hk.2) (.bool t257)) (fun _ hk => hk.2) (.slice Ao95 t258.length co95)) (fun _ h_ => h_.1))) hb); have n4_ := Aside0.mk (Kd.V_below (by (with_reducible repeat (first | apply Kd.V_alloc | apply Kd.V_drewN | apply Kd.V_drew)); exact (Kd.V_mono (Kd.V_far (p := ⟨gb247, 1, none⟩) (Kd.V_far (p := ⟨gb247, 0, none⟩) (Kd.V_mono HO251.out (fun k_ hk => (⟨hk, hk.2.2.2⟩ : _ ∧ k_ ≠ gb247))) (fun _ hk => hk.2) (.bool t257)) (fun _ hk => hk.2) (.slice Ao95 t258.length co95)) (fun _ h_ => h_.1))) hb); have n5_ := Aside0.mk (Kd.V_below (by (with_reducible repeat (first | apply Kd.V_alloc | apply Kd.V_drewN | apply Kd.V_drew)); exact (Kd.V_mono (Kd.V_far (p := ⟨gb247, 1, none⟩) (Kd.V_far (p := ⟨gb247, 0, none⟩) (Kd.V_mono HO256.out (fun k_ hk => (⟨hk, hk.2.2.2⟩ : _ ∧ k_ ≠ gb247))) (fun _ hk => hk.2) (.bool t257)) (fun _ hk => hk.2) (.slice Ao95 t258.length co95)) (fun _ h_ => h_.1))) hb); have n6_ := Aside0.mk (Kd.V_below (by (with_reducible repeat (first | apply Kd.V_alloc | apply Kd.V_drewN | apply Kd.V_drew)); exact (Kd.V_mono (Kd.V_far (p := ⟨gb247, 1, none⟩) (Kd.V_far (p := ⟨gb247, 0, none⟩) (Kd.V_mono HO260.out (fun k_ hk => (⟨hk, hk.2.2.2⟩ : _ ∧ k_ ≠ gb247))) (fun _ hk => hk.2) (.bool t257)) (fun _ hk => hk.2) (.slice Ao95 t258.length co95)) (fun _ h_ => h_.1))) hb); have n7_ := Aside0.mk (Kd.V_lower (Kd.V_mono (ok' := fun k_ => k_ ≠ gb236 ∧ k_ ≠ gb237 ∧ k_ ≠ gb246 ∧ k_ ≠ gb247) ho0 (fun k_ hk_ => ⟨(Kd.freshB (g := gb236) (o := .cells #[.bool false, .slice Ao9 t229.length co9] 59 (0, 0)) (by (with_reducible repeat (first | refine blk_drewN ?_ _ | refine blk_drew ?_ | refine blk_alloc ?_ _)); refine blk_far ?_ NB236_247.out _; (with_reducible repeat (first | refine blk_drewN ?_ _ | refine blk_drew ?_ | refine blk_alloc ?_ _)); refine blk_far ?_ NB236_247.out _; (with_reducible repeat (first | refine blk_drewN ?_ _ | refine blk_drew ?_ | refine blk_alloc ?_ _)); exact BK236.out) k_ hk_), (Kd.freshB (g := gb237) (o := .cells #[.bool false, .slice Ao11 t233.length co11] 59 (0, 0)) (by (with_reducible repeat (first | refine blk_drewN ?_ _ | refine blk_drew ?_ | refine blk_alloc ?_ _)); refine blk_far ?_ NB237_247.out _; (with_reducible repeat (first | refine blk_drewN ?_ _ | refine blk_drew ?_ | refine blk_alloc ?_ _)); refine blk_far ?_ NB237_247.out _; (with_reducible repeat (first | refine blk_drewN ?_ _ | refine blk_drew ?_ | refine blk_alloc ?_ _)); exact BK237.out) k_ hk_), (Kd.freshB (g := gb246) (o := .cells #[.bool x247000_1, .slice Ao101 x247001_1.length co101] 59 (0, 0)) (by (with_reducible repeat (first | refine blk_drewN ?_ _ | refine blk_drew ?_ | refine blk_alloc ?_ _)); refine blk_far ?_ NB246_247.out _; (with_reducible repeat (first | refine blk_drewN ?_ _ | refine blk_drew ?_ | refine blk_alloc ?_ _)); refine blk_far ?_ NB246_247.out _; (with_reducible repeat (first | refine blk_drewN ?_ _ | refine blk_drew ?_ | refine blk_alloc ?_ _)); exact BK246.out) k_ hk_), (Kd.freshB (g := gb247) (o := .cells #[.bool t257, .slice Ao95 t258.length co95] 59 (0, 0)) (by (with_reducible repeat (first | refine blk_drewN ?_ _ | refine blk_drew ?_ | refine blk_alloc ?_ _)); refine blk_put (cs := #[.bool t257, .slice Ao87 x248001_1.length co87]) ?_ 1 _ rfl; (with_reducible repeat (first | refine blk_drewN ?_ _ | refine blk_drew ?_ | refine blk_alloc ?_ _)); refine blk_put (cs := #[.bool x248000_1, .slice Ao87 x248001_1.length co87]) ?_ 0 _ rfl; (with_reducible repeat (first | refine blk_drewN ?_ _ | refine blk_drew ?_ | refine blk_alloc ?_ _)); exact BK247.out) k_ hk_)⟩)) (below_size (by repeat (first | (with_reducible first | exact HB.out | apply below_alloc | apply pw_below_drewN | apply below_drew1 | refine below_set ?_ GE236.out | refine below_set ?_ GE237.out | refine below_set ?_ GE246.out | refine below_set ?_ GE247.out) | exact HB.out)))); have n8_ := Aside0.mk (blk_below (g := gb236) (o := .cells #[.bool false, .slice Ao9 t229.length co9] 59 (0, 0)) (by (with_reducible repeat (first | refine blk_drewN ?_ _ | refine blk_drew ?_ | refine blk_alloc ?_ _)); refine blk_far ?_ NB236_247.out _; (with_reducible repeat (first | refine blk_drewN ?_ _ | refine blk_drew ?_ | refine blk_alloc ?_ _)); refine blk_far ?_ NB236_247.out _; (with_reducible repeat (first | refine blk_drewN ?_ _ | refine blk_drew ?_ | refine blk_alloc ?_ _)); exact BK236.out) hb); have n9_ := Aside0.mk (blk_below (g := gb237) (o := .cells #[.bool false, .slice Ao11 t233.length co11] 59 (0, 0)) (by (with_reducible repeat (first | refine blk_drewN ?_ _ | refine blk_drew ?_ | refine blk_alloc ?_ _)); refine blk_far ?_ NB237_247.out _; (with_reducible repeat (first | refine blk_drewN ?_ _ | refine blk_drew ?_ | refine blk_alloc ?_ _)); refine blk_far ?_ NB237_247.out _; (with_reducible repeat (first | refine blk_drewN ?_ _ | refine blk_drew ?_ | refine blk_alloc ?_ _)); exact BK237.out) hb); have n10_ := Aside0.mk (blk_below (g := gb246) (o := .cells #[.bool x247000_1, .slice Ao101 x247001_1.length co101] 59 (0, 0)) (by (with_reducible repeat (first | refine blk_drewN ?_ _ | refine blk_drew ?_ | refine blk_alloc ?_ _)); refine blk_far ?_ NB246_247.out _; (with_reducible repeat (first | refine blk_drewN ?_ _ | refine blk_drew ?_ | refine blk_alloc ?_ _)); refine blk_far ?_ NB246_247.out _; (with_reducible repeat (first | refine blk_drewN ?_ _ | refine blk_drew ?_ | refine blk_alloc ?_ _)); exact BK246.out) hb); have n11_ := Aside0.mk (blk_below (g := gb247) (o := .cells #[.bool t257, .slice Ao95 t258.length co95] 59 (0, 0)) (by (with_reducible repeat (first | refine blk_drewN ?_ _ | refine blk_drew ?_ | refine blk_alloc ?_ _)); refine blk_put (cs := #[.bool t257, .slice Ao87 x248001_1.length co87]) ?_ 1 _ rfl; (with_reducible repeat (first | refine blk_drewN ?_ _ | refine blk_drew ?_ | refine blk_alloc ?_ _)); refine blk_put (cs := #[.bool x248000_1, .slice Ao87 x248001_1.length co87]) ?_ 0 _ rfl; (with_reducible repeat (first | refine blk_drewN ?_ _ | refine blk_drew ?_ | refine blk_alloc ?_ _)); exact BK247.out) hb); have n12_ := Aside0.mk (below_step (by repeat (first | (with_reducible first | exact HB.out | apply below_alloc | apply pw_below_drewN | apply below_drew1 | refine below_set ?_ GE236.out | refine below_set ?_ GE237.out | refine below_set ?_ GE246.out | refine below_set ?_ GE247.out) | exact HB.out)) hb); clear HO_237001; clear HO_238001; clear HO_247001; clear HO_248001; clear HO251; clear HO256; clear HO260; clear BK236; clear BK237; clear BK246; clear BK247; clear HB; have HO_237001 := n0_; have HO_238001 := n1_; have HO_247001 := n2_; have HO_248001 := n3_; have HO251 := n4_; have HO256 := n5_; have HO260 := n6_; have HO264 := n7_; have BK236 := n8_; have BK237 := n9_; have BK246 := n10_; have BK247 := n11_; have HB := n12_; clear n0_ n1_ n2_ n3_ n4_ n5_ n6_ n7_ n8_ n9_ n10_ n11_ n12_; (try clear hb); (try clear hb2); (try clear hk); (try clear hi); (try clear ho0); have hcz103_0 : w102.cell? ⟨gb246, 0, none⟩ = some (.bool x247000_1) := (blk_cell BK246.out 0).trans rfl; have hcz103_1 : w102.cell? ⟨gb246, 1, none⟩ = some (.slice Ao101 x247001_1.length co101) := (blk_cell BK246.out 1).trans rfl; have hfz103_0 := blk_frozen BK246.out 0; have hfz103_1 := blk_frozen BK246.out 1; obtain ⟨Ao104, co104, eo104⟩ := Kd.V_slice HO264.out; subst eo104; have hnb105 := NB247_236.out; have hnc105 := NB236_247.out; have hnb106 := NB247_237.out; have hnc106 := NB237_247.out; have hcz107_0 : w102.cell? ⟨gb247, 0, none⟩ = some (.bool t257) := (blk_cell BK247.out 0).trans rfl; have hcz107_1 : w102.cell? ⟨gb247, 1, none⟩ = some (.slice Ao95 t258.length co95) := (blk_cell BK247.out 1).trans rfl; have hfz107_0 := blk_frozen BK247.out 0; have hfz107_1 := blk_frozen BK247.out 1; have hnb108 := NB237_236.out; have hnc108 := NB236_237.out; have hcz109_0 : w102.cell? ⟨gb237, 0, none⟩ = some (.bool false) := (blk_cell BK237.out 0).trans rfl; have hcz109_1 : w102.cell? ⟨gb237, 1, none⟩ = some (.slice Ao11 t233.length co11) := (blk_cell BK237.out 1).trans rfl; have hfz109_0 := blk_frozen BK237.out 0; have hfz109_1 := blk_frozen BK237.out 1) | ((with_reducible refine gate_callee (f := 48) rfl ?_); refine goesL_ (some 52) rfl rfl Try.func48 (by kernel_rfl) rfl #[.agg #[.bool t257, .slice Ao95 t258.length co95], .agg #[.bool false, .slice Ao11 t233.length co11]] rfl mO ?_; (with_reducible refine (tabardref01_Size.calls k1 t257 _ _ t258 false _ _ t233 t265 _ ?side1 ?side2 ?side3 ?side4 A40.out).mono ?_); (case side1 => refine (Kd.V_reads' (e := 63) (base := w.heap.size) (ok := fun k_ => (k_ ≠ gb236 ∧ (k_ ≠ gb237 ∧ (k_ ≠ gb246 ∧ k_ ≠ gb247)))) (n := t258.length) (c := co95) ?_).2.2; exact (by (with_reducible repeat (first | apply Kd.V_alloc | apply Kd.V_drewN | apply Kd.V_drew)); exact (Kd.V_mono (Kd.V_far (p := ⟨gb246, 1, none⟩) (Kd.V_far (p := ⟨gb246, 0, none⟩) (Kd.V_mono HO260.out (fun k_ hk => (⟨hk, hk.2.2.1⟩ : _ ∧ k_ ≠ gb246))) (fun _ hk => hk.2) (.bool t261)) (fun _ hk => hk.2) (.slice Ao104 t262.length co104)) (fun _ h_ => h_.1)))); (case side2 => exact (Kd.V_reads' HO260.out).2.1); (case side3 => refine (Kd.V_reads' (e := 63) (base := w.heap.size) (ok := fun k_ => (k_ ≠ gb236 ∧ (k_ ≠ gb237 ∧ (k_ ≠ gb246 ∧ k_ ≠ gb247)))) (n := t233.length) (c := co11) ?_).2.2; exact (by (with_reducible repeat (first | apply Kd.V_alloc | apply Kd.V_drewN | apply Kd.V_drew)); exact (Kd.V_mono (Kd.V_far (p := ⟨gb246, 1, none⟩) (Kd.V_far (p := ⟨gb246, 0, none⟩) (Kd.V_mono HO_238001.out (fun k_ hk => (⟨hk, hk.2.2.1⟩ : _ ∧ k_ ≠ gb246))) (fun _ hk => hk.2) (.bool t261)) (fun _ hk => hk.2) (.slice Ao104 t262.length co104)) (fun _ h_ => h_.1)))); (case side4 => exact (Kd.V_reads' HO_238001.out).2.1); rintro e w110 ⟨rfl, hb⟩; refine ⟨_, rfl, ?_⟩; have n0_ := Aside0.mk (Kd.V_below (by (with_reducible repeat (first | apply Kd.V_alloc | apply Kd.V_drewN | apply Kd.V_drew)); exact (Kd.V_mono (Kd.V_far (p := ⟨gb246, 1, none⟩) (Kd.V_far (p := ⟨gb246, 0, none⟩) (Kd.V_mono HO_237001.out (fun k_ hk => (⟨hk, hk.2.2.1⟩ : _ ∧ k_ ≠ gb246))) (fun _ hk => hk.2) (.bool t261)) (fun _ hk => hk.2) (.slice Ao104 t262.length co104)) (fun _ h_ => h_.1))) hb); have n1_ := Aside0.mk (Kd.V_below (by (with_reducible repeat (first | apply Kd.V_alloc | apply Kd.V_drewN | apply Kd.V_drew)); exact (Kd.V_mono (Kd.V_far (p := ⟨gb246, 1, none⟩) (Kd.V_far (p := ⟨gb246, 0, none⟩) (Kd.V_mono HO_238001.out (fun k_ hk => (⟨hk, hk.2.2.1⟩ : _ ∧ k_ ≠ gb246))) (fun _ hk => hk.2) (.bool t261)) (fun _ hk => hk.2) (.slice Ao104 t262.length co104)) (fun _ h_ => h_.1))) hb); have n2_ := Aside0.mk (Kd.V_below (by (with_reducible repeat (first | apply Kd.V_alloc | apply Kd.V_drewN | apply Kd.V_drew)); exact (Kd.V_mono (Kd.V_far (p := ⟨gb246, 1, none⟩) (Kd.V_far (p := ⟨gb246, 0, none⟩) (Kd.V_mono HO_247001.out (fun k_ hk => (⟨hk, hk.2.2.1⟩ : _ ∧ k_ ≠ gb246))) (fun _ hk => hk.2) (.bool t261)) (fun _ hk => hk.2) (.slice Ao104 t262.length co104)) (fun _ h_ => h_.1))) hb); have n3_ := Aside0.mk (Kd.V_below (by (with_reducible repeat (first | apply Kd.V_alloc | apply Kd.V_drewN | apply Kd.V_drew)); exact (Kd.V_mono (Kd.V_far (p := ⟨gb246, 1, none⟩) (Kd.V_far (p := ⟨gb246, 0, none⟩) (Kd.V_mono HO_248001.out (fun k_ hk => (⟨hk, hk.2.2.1⟩ : _ ∧ k_ ≠ gb246))) (fun _ hk => hk.2) (.bool t261)) (fun _ hk => hk.2) (.slice Ao104 t262.length co104)) (fun _ h_ => h_.1))) hb); have n4_ := Aside0.mk (Kd.V_below (by (with_reducible repeat (first | apply Kd.V_alloc | apply Kd.V_drewN | apply Kd.V_drew)); exact (Kd.V_mono (Kd.V_far (p := ⟨gb246, 1, none⟩) (Kd.V_far (p := ⟨gb246, 0, none⟩) (Kd.V_mono HO251.out (fun k_ hk => (⟨hk, hk.2.2.1⟩ : _ ∧ k_ ≠ gb246))) (fun _ hk => hk.2) (.bool t261)) (fun _ hk => hk.2) (.slice Ao104 t262.length co104)) (fun _ h_ => h_.1))) hb); have n5_ := Aside0.mk (Kd.V_below (by (with_reducible repeat (first | apply Kd.V_alloc | apply Kd.V_drewN | apply Kd.V_drew)); exact (Kd.V_mono (Kd.V_far (p := ⟨gb246, 1, none⟩) (Kd.V_far (p := ⟨gb246, 0, none⟩) (Kd.V_mono HO256.out (fun k_ hk => (⟨hk, hk.2.2.1⟩ : _ ∧ k_ ≠ gb246))) (fun _ hk => hk.2) (.bool t261)) (fun _ hk => hk.2) (.slice Ao104 t262.length co104)) (fun _ h_ => h_.1))) hb); have n6_ := Aside0.mk (Kd.V_below (by (with_reducible repeat (first | apply Kd.V_alloc | apply Kd.V_drewN | apply Kd.V_drew)); exact (Kd.V_mono (Kd.V_far (p := ⟨gb246, 1, none⟩) (Kd.V_far (p := ⟨gb246, 0, none⟩) (Kd.V_mono HO260.out (fun k_ hk => (⟨hk, hk.2.2.1⟩ : _ ∧ k_ ≠ gb246))) (fun _ hk => hk.2) (.bool t261)) (fun _ hk => hk.2) (.slice Ao104 t262.length co104)) (fun _ h_ => h_.1))) hb); have n7_ := Aside0.mk (Kd.V_below (by (with_reducible repeat (first | apply Kd.V_alloc | apply Kd.V_drewN | apply Kd.V_drew)); exact (Kd.V_mono (Kd.V_far (p := ⟨gb246, 1, none⟩) (Kd.V_far (p := ⟨gb246, 0, none⟩) (Kd.V_mono HO264.out (fun k_ hk => (⟨hk, hk.2.2.1⟩ : _ ∧ k_ ≠ gb246))) (fun _ hk => hk.2) (.bool t261)) (fun _ hk => hk.2) (.slice Ao104 t262.length co104)) (fun _ h_ => h_.1))) hb); have n8_ := Aside0.mk (blk_below (g := gb236) (o := .cells #[.bool false, .slice Ao9 t229.length co9] 59 (0, 0)) (by (with_reducible repeat (first | refine blk_drewN ?_ _ | refine blk_drew ?_ | refine blk_alloc ?_ _)); refine blk_far ?_ NB236_246.out _; (with_reducible repeat (first | refine blk_drewN ?_ _ | refine blk_drew ?_ | refine blk_alloc ?_ _)); refine blk_far ?_ NB236_246.out _; (with_reducible repeat (first | refine blk_drewN ?_ _ | refine blk_drew ?_ | refine blk_alloc ?_ _)); exact BK236.out) hb); have n9_ := Aside0.mk (blk_below (g := gb237) (o := .cells #[.bool false, .slice Ao11 t233.length co11] 59 (0, 0)) (by (with_reducible repeat (first | refine blk_drewN ?_ _ | refine blk_drew ?_ | refine blk_alloc ?_ _)); refine blk_far ?_ NB237_246.out _; (with_reducible repeat (first | refine blk_drewN ?_ _ | refine blk_drew ?_ | refine blk_alloc ?_ _)); refine blk_far ?_ NB237_246.out _; (with_reducible repeat (first | refine blk_drewN ?_ _ | refine blk_drew ?_ | refine blk_alloc ?_ _)); exact BK237.out) hb); have n10_ := Aside0.mk (blk_below (g := gb246) (o := .cells #[.bool t261, .slice Ao104 t262.length co104] 59 (0, 0)) (by (with_reducible repeat (first | refine blk_drewN ?_ _ | refine blk_drew ?_ | refine blk_alloc ?_ _)); refine blk_put (cs := #[.bool t261, .slice Ao101 x247001_1.length co101]) ?_ 1 _ rfl; (with_reducible repeat (first | refine blk_drewN ?_ _ | refine blk_drew ?_ | refine blk_alloc ?_ _)); refine blk_put (cs := #[.bool x247000_1, .slice Ao101 x247001_1.length co101]) ?_ 0 _ rfl; (with_reducible repeat (first | refine blk_drewN ?_ _ | refine blk_drew ?_ | refine blk_alloc ?_ _)); exact BK246.out) hb); have n11_ := Aside0.mk (blk_below (g := gb247) (o := .cells #[.bool t257, .slice Ao95 t258.length co95] 59 (0, 0)) (by (with_reducible repeat (first | refine blk_drewN ?_ _ | refine blk_drew ?_ | refine blk_alloc ?_ _)); refine blk_far ?_ NB247_246.out _; (with_reducible repeat (first | refine blk_drewN ?_ _ | refine blk_drew ?_ | refine blk_alloc ?_ _)); refine blk_far ?_ NB247_246.out _; (with_reducible repeat (first | refine blk_drewN ?_ _ | refine blk_drew ?_ | refine blk_alloc ?_ _)); exact BK247.out) hb); have n12_ := Aside0.mk (below_step (by repeat (first | (with_reducible first | exact HB.out | apply below_alloc | apply pw_below_drewN | apply below_drew1 | refine below_set ?_ GE236.out | refine below_set ?_ GE237.out | refine below_set ?_ GE246.out | refine below_set ?_ GE247.out) | exact HB.out)) hb); clear HO_237001; clear HO_238001; clear HO_247001; clear HO_248001; clear HO251; clear HO256; clear HO260; clear HO264; clear BK236; clear BK237; clear BK246; clear BK247; clear HB; have HO_237001 := n0_; have HO_238001 := n1_; have HO_247001 := n2_; have HO_248001 := n3_; have HO251 := n4_; have HO256 := n5_; have HO260 := n6_; have HO264 := n7_; have BK236 := n8_; have BK237 := n9_; have BK246 := n10_; have BK247 := n11_; have HB := n12_; clear n0_ n1_ n2_ n3_ n4_ n5_ n6_ n7_ n8_ n9_ n10_ n11_ n12_; (try clear hb); (try clear hb2); (try clear hk); (try clear hi)))
       go_roundg k1
       case measure => have := HK1.out; omega
       case rel => exact ⟨(wrap64 (x10_1 - 1)), (t261), (t262), (t257), (t258), (.slice Ao104 t262.length co104), (.slice Ao95 t258.length co95), (by first | rfl | (simp; done) | (simp [*]; done)), H', ⟨by have := HK1.out; omega⟩, ⟨vO HO_237001.out⟩, ⟨vO HO_238001.out⟩, ⟨vO HO264.out⟩, ⟨vO HO260.out⟩, ⟨kO BK236.out⟩, ⟨kO BK237.out⟩, ⟨kO BK246.out⟩, ⟨kO BK247.out⟩, ⟨by repeat (first | (with_reducible first | exact HB.out | apply below_alloc | apply pw_below_drewN | apply below_drew1 | refine below_set ?_ GE236.out | refine below_set ?_ GE237.out | refine below_set ?_ GE246.out | refine below_set ?_ GE247.out) | exact HB.out)⟩⟩
     ·rw [if_neg c35] at H
      exact absurd H (by simp)
    ·rw [if_neg c31] at H
     have c31b0 : decide (0 ≤ x10_1) = false := decide_eq_false c31
     clear c31
     by_cases c111 : ((decide (a0 < 0)) != (decide (a1 < 0))) = true
     ·rw [if_pos c111] at H
      have c111b0 : ((decide (a0 < 0)) != (decide (a1 < 0))) = true := c111
      (try (have c111b1 : decide ((decide (a0 < 0)) = (decide (a1 < 0))) = false := by simpa using c111))
      (try (have c111b2 : ((decide (a0 < 0)) == (decide (a1 < 0))) = false := by simpa using c111))
      (try (have c111b3 : ¬ ((decide (a0 < 0)) = (decide (a1 < 0))) := by simpa using c111))
      clear c111
      replace H := Option.bind_eq_some_iff.mp H
      obtain ⟨⟨t282, t283⟩, A1120, H⟩ := H
      replace H : (if (x248001_1.length : Int) > 0 then ((tabardref01_Of.f k1 (-1)).bind fun bt286 => ((tabardref01_Plus.f k1 t282 t283 bt286.1 bt286.2).bind fun bt290 => ((tabardref01_told.f k1 bt290.1 bt290.2).bind fun bt294 => (some (bt294.1, bt294.2))))) else ((tabardref01_told.f k1 t282 t283).bind fun bt296 => (some (bt296.1, bt296.2)))) = some (r1, r2) := H
      have A112 := Aside0.mk A1120
      clear A1120
      by_cases c113 : (x248001_1.length : Int) > 0
      ·rw [if_pos c113] at H
       have c113b0 : decide (0 < (x248001_1.length : Int)) = true := decide_eq_true c113
       have c113b1 : decide (0 < x248001_1.length) = true := decide_eq_true (by omega)
       clear c113
       replace H := Option.bind_eq_some_iff.mp H
       obtain ⟨⟨t286, t287⟩, A1140, H⟩ := H
       replace H : ((tabardref01_Plus.f k1 t282 t283 t286 t287).bind fun bt290 => ((tabardref01_told.f k1 bt290.1 bt290.2).bind fun bt294 => (some (bt294.1, bt294.2)))) = some (r1, r2) := H
       have A114 := Aside0.mk A1140
       clear A1140
       replace H := Option.bind_eq_some_iff.mp H
       obtain ⟨⟨t290, t291⟩, A1150, H⟩ := H
       replace H : ((tabardref01_told.f k1 t290 t291).bind fun bt294 => (some (bt294.1, bt294.2))) = some (r1, r2) := H
       have A115 := Aside0.mk A1150
       clear A1150
       replace H := Option.bind_eq_some_iff.mp H
       obtain ⟨⟨t294, t295⟩, A1160, H⟩ := H
       replace H : (some (t294, t295)) = some (r1, r2) := H
       have A116 := Aside0.mk A1160
       clear A1160
       simp only [Option.some.injEq, Prod.mk.injEq] at H
       obtain ⟨rfl, rfl⟩ := H
       have hnb117 := NB246_236.out
       have hnc117 := NB236_246.out
       have hnb118 := NB246_237.out
       have hnc118 := NB237_246.out
       have hnb119 := NB246_247.out
       have hnc119 := NB247_246.out
       have hcz120_0 : wr.cell? ⟨gb246, 0, none⟩ = some (.bool x247000_1) := (blk_cell BK246.out 0).trans rfl
       have hcz120_1 : wr.cell? ⟨gb246, 1, none⟩ = some (u247001) := (blk_cell BK246.out 1).trans rfl
       have hfz120_0 := blk_frozen BK246.out 0
       have hfz120_1 := blk_frozen BK246.out 1
       obtain ⟨Ao121, co121, eo121⟩ := Kd.V_slice HO_247001.out
       subst eo121
       try go_wp2_with (first | ((with_reducible refine gate_callee (f := 49) rfl ?_); refine goesL_ (some 67) rfl rfl Try.func49 (by kernel_rfl) rfl #[.agg #[.bool x247000_1, .slice Ao121 x247001_1.length co121]] rfl mO ?_; (with_reducible refine (tabardref01_Minus.calls k1 x247000_1 (fun k_ => (k_ ≠ gb236 ∧ (k_ ≠ gb237 ∧ (k_ ≠ gb246 ∧ k_ ≠ gb247)))) _ _ x247001_1 t282 t283 _ ?side1 A112.out).mono ?_); (case side1 => exact HO_247001.out); rintro e w122 ⟨v284, rfl, ho0, hb⟩; refine ⟨_, rfl, ?_⟩; have n0_ := Aside0.mk (Kd.V_below (vO HO_237001.out) hb); have n1_ := Aside0.mk (Kd.V_below (vO HO_238001.out) hb); have n2_ := Aside0.mk (Kd.V_below (vO HO_247001.out) hb); have n3_ := Aside0.mk (Kd.V_below (vO HO_248001.out) hb); have n4_ := Aside0.mk (Kd.V_lower (Kd.V_mono (ok' := fun k_ => k_ ≠ gb236 ∧ k_ ≠ gb237 ∧ k_ ≠ gb246 ∧ k_ ≠ gb247) ho0 (fun k_ hk_ => ⟨Or.elim hk_ (fun hs_ => hs_.1) (fun hn_ => (Kd.freshB (g := gb236) (o := .cells #[.bool false, .slice Ao9 t229.length co9] 59 (0, 0)) (kO BK236.out) k_ hn_)), Or.elim hk_ (fun hs_ => hs_.2.1) (fun hn_ => (Kd.freshB (g := gb237) (o := .cells #[.bool false, .slice Ao11 t233.length co11] 59 (0, 0)) (kO BK237.out) k_ hn_)), Or.elim hk_ (fun hs_ => hs_.2.2.1) (fun hn_ => (Kd.freshB (g := gb246) (o := .cells #[.bool x247000_1, .slice Ao121 x247001_1.length co121] 59 (0, 0)) (kO BK246.out) k_ hn_)), Or.elim hk_ (fun hs_ => hs_.2.2.2) (fun hn_ => (Kd.freshB (g := gb247) (o := .cells #[.bool x248000_1, u248001] 59 (0, 0)) (kO BK247.out) k_ hn_))⟩)) (below_size (by repeat (first | (with_reducible first | exact HB.out | apply below_alloc | apply pw_below_drewN | apply below_drew1 | refine below_set ?_ GE236.out | refine below_set ?_ GE237.out | refine below_set ?_ GE246.out | refine below_set ?_ GE247.out) | exact HB.out)))); have n5_ := Aside0.mk (blk_below (g := gb236) (o := .cells #[.bool false, .slice Ao9 t229.length co9] 59 (0, 0)) (kO BK236.out) hb); have n6_ := Aside0.mk (blk_below (g := gb237) (o := .cells #[.bool false, .slice Ao11 t233.length co11] 59 (0, 0)) (kO BK237.out) hb); have n7_ := Aside0.mk (blk_below (g := gb246) (o := .cells #[.bool x247000_1, .slice Ao121 x247001_1.length co121] 59 (0, 0)) (kO BK246.out) hb); have n8_ := Aside0.mk (blk_below (g := gb247) (o := .cells #[.bool x248000_1, u248001] 59 (0, 0)) (kO BK247.out) hb); have n9_ := Aside0.mk (below_step (by repeat (first | (with_reducible first | exact HB.out | apply below_alloc | apply pw_below_drewN | apply below_drew1 | refine below_set ?_ GE236.out | refine below_set ?_ GE237.out | refine below_set ?_ GE246.out | refine below_set ?_ GE247.out) | exact HB.out)) hb); clear HO_237001; clear HO_238001; clear HO_247001; clear HO_248001; clear BK236; clear BK237; clear BK246; clear BK247; clear HB; have HO_237001 := n0_; have HO_238001 := n1_; have HO_247001 := n2_; have HO_248001 := n3_; have HO285 := n4_; have BK236 := n5_; have BK237 := n6_; have BK246 := n7_; have BK247 := n8_; have HB := n9_; clear n0_ n1_ n2_ n3_ n4_ n5_ n6_ n7_ n8_ n9_; (try clear hb); (try clear hb2); (try clear hk); (try clear hi); (try clear ho0); have hcz123_0 : w122.cell? ⟨gb246, 0, none⟩ = some (.bool x247000_1) := (blk_cell BK246.out 0).trans rfl; have hcz123_1 : w122.cell? ⟨gb246, 1, none⟩ = some (.slice Ao121 x247001_1.length co121) := (blk_cell BK246.out 1).trans rfl; have hfz123_0 := blk_frozen BK246.out 0; have hfz123_1 := blk_frozen BK246.out 1; obtain ⟨Ao124, co124, eo124⟩ := Kd.V_slice HO285.out; subst eo124; have hnb125 := NB247_236.out; have hnc125 := NB236_247.out; have hnb126 := NB247_237.out; have hnc126 := NB237_247.out; have hcz127_0 : w122.cell? ⟨gb247, 0, none⟩ = some (.bool x248000_1) := (blk_cell BK247.out 0).trans rfl; have hcz127_1 : w122.cell? ⟨gb247, 1, none⟩ = some (u248001) := (blk_cell BK247.out 1).trans rfl; have hfz127_0 := blk_frozen BK247.out 0; have hfz127_1 := blk_frozen BK247.out 1; obtain ⟨Ao128, co128, eo128⟩ := Kd.V_slice HO_248001.out; subst eo128))
       have n0_ : Aside0 (Kd.V (Kd.int .u64) 63 ((w122.setCell ⟨gb246, 0, none⟩ (.bool t282)).setCell ⟨gb246, 1, none⟩ (.slice Ao124 t283.length co124)) w.heap.size (fun k_ => k_ ≠ gb236 ∧ k_ ≠ gb237 ∧ k_ ≠ gb246 ∧ k_ ≠ gb247) (.slice Ao9 t229.length co9) t229) := ⟨by (with_reducible repeat (first | apply Kd.V_alloc | apply Kd.V_drewN | apply Kd.V_drew)); exact Kd.V_mono (Kd.V_far (p := ⟨gb246, 1, none⟩) (Kd.V_far (p := ⟨gb246, 0, none⟩) (Kd.V_mono HO_237001.out (fun k_ hk => (⟨hk, hk.2.2.1⟩ : _ ∧ k_ ≠ gb246))) (fun _ hk => hk.2) (.bool t282)) (fun _ hk => hk.2) (.slice Ao124 t283.length co124)) (fun _ hk => ⟨hk.1.1, ⟨hk.1.2.1, ⟨hk.1.2.2.1, hk.1.2.2.2⟩⟩⟩)⟩
       have n1_ : Aside0 (Kd.V (Kd.int .u64) 63 ((w122.setCell ⟨gb246, 0, none⟩ (.bool t282)).setCell ⟨gb246, 1, none⟩ (.slice Ao124 t283.length co124)) w.heap.size (fun k_ => k_ ≠ gb236 ∧ k_ ≠ gb237 ∧ k_ ≠ gb246 ∧ k_ ≠ gb247) (.slice Ao11 t233.length co11) t233) := ⟨by (with_reducible repeat (first | apply Kd.V_alloc | apply Kd.V_drewN | apply Kd.V_drew)); exact Kd.V_mono (Kd.V_far (p := ⟨gb246, 1, none⟩) (Kd.V_far (p := ⟨gb246, 0, none⟩) (Kd.V_mono HO_238001.out (fun k_ hk => (⟨hk, hk.2.2.1⟩ : _ ∧ k_ ≠ gb246))) (fun _ hk => hk.2) (.bool t282)) (fun _ hk => hk.2) (.slice Ao124 t283.length co124)) (fun _ hk => ⟨hk.1.1, ⟨hk.1.2.1, ⟨hk.1.2.2.1, hk.1.2.2.2⟩⟩⟩)⟩
       have n2_ : Aside0 (Kd.V (Kd.int .u64) 63 ((w122.setCell ⟨gb246, 0, none⟩ (.bool t282)).setCell ⟨gb246, 1, none⟩ (.slice Ao124 t283.length co124)) w.heap.size (fun k_ => k_ ≠ gb236 ∧ k_ ≠ gb237 ∧ k_ ≠ gb246 ∧ k_ ≠ gb247) (.slice Ao121 x247001_1.length co121) x247001_1) := ⟨by (with_reducible repeat (first | apply Kd.V_alloc | apply Kd.V_drewN | apply Kd.V_drew)); exact Kd.V_mono (Kd.V_far (p := ⟨gb246, 1, none⟩) (Kd.V_far (p := ⟨gb246, 0, none⟩) (Kd.V_mono HO_247001.out (fun k_ hk => (⟨hk, hk.2.2.1⟩ : _ ∧ k_ ≠ gb246))) (fun _ hk => hk.2) (.bool t282)) (fun _ hk => hk.2) (.slice Ao124 t283.length co124)) (fun _ hk => ⟨hk.1.1, ⟨hk.1.2.1, ⟨hk.1.2.2.1, hk.1.2.2.2⟩⟩⟩)⟩
       have n3_ : Aside0 (Kd.V (Kd.int .u64) 63 ((w122.setCell ⟨gb246, 0, none⟩ (.bool t282)).setCell ⟨gb246, 1, none⟩ (.slice Ao124 t283.length co124)) w.heap.size (fun k_ => k_ ≠ gb236 ∧ k_ ≠ gb237 ∧ k_ ≠ gb246 ∧ k_ ≠ gb247) (.slice Ao128 x248001_1.length co128) x248001_1) := ⟨by (with_reducible repeat (first | apply Kd.V_alloc | apply Kd.V_drewN | apply Kd.V_drew)); exact Kd.V_mono (Kd.V_far (p := ⟨gb246, 1, none⟩) (Kd.V_far (p := ⟨gb246, 0, none⟩) (Kd.V_mono HO_248001.out (fun k_ hk => (⟨hk, hk.2.2.1⟩ : _ ∧ k_ ≠ gb246))) (fun _ hk => hk.2) (.bool t282)) (fun _ hk => hk.2) (.slice Ao124 t283.length co124)) (fun _ hk => ⟨hk.1.1, ⟨hk.1.2.1, ⟨hk.1.2.2.1, hk.1.2.2.2⟩⟩⟩)⟩
       have n4_ : Aside0 (Kd.V (Kd.int .u64) 63 ((w122.setCell ⟨gb246, 0, none⟩ (.bool t282)).setCell ⟨gb246, 1, none⟩ (.slice Ao124 t283.length co124)) w.heap.size (fun k_ => k_ ≠ gb236 ∧ k_ ≠ gb237 ∧ k_ ≠ gb246 ∧ k_ ≠ gb247) (.slice Ao124 t283.length co124) t283) := ⟨by (with_reducible repeat (first | apply Kd.V_alloc | apply Kd.V_drewN | apply Kd.V_drew)); exact Kd.V_mono (Kd.V_far (p := ⟨gb246, 1, none⟩) (Kd.V_far (p := ⟨gb246, 0, none⟩) (Kd.V_mono HO285.out (fun k_ hk => (⟨hk, hk.2.2.1⟩ : _ ∧ k_ ≠ gb246))) (fun _ hk => hk.2) (.bool t282)) (fun _ hk => hk.2) (.slice Ao124 t283.length co124)) (fun _ hk => ⟨hk.1.1, ⟨hk.1.2.1, ⟨hk.1.2.2.1, hk.1.2.2.2⟩⟩⟩)⟩
       have n5_ : Aside0 (((w122.setCell ⟨gb246, 0, none⟩ (.bool t282)).setCell ⟨gb246, 1, none⟩ (.slice Ao124 t283.length co124)).heap[gb236]? = some (.cells #[.bool false, .slice Ao9 t229.length co9] 59 (0, 0))) := ⟨by (with_reducible repeat (first | refine blk_drewN ?_ _ | refine blk_drew ?_ | refine blk_alloc ?_ _)); refine blk_far ?_ NB236_246.out _; (with_reducible repeat (first | refine blk_drewN ?_ _ | refine blk_drew ?_ | refine blk_alloc ?_ _)); refine blk_far ?_ NB236_246.out _; (with_reducible repeat (first | refine blk_drewN ?_ _ | refine blk_drew ?_ | refine blk_alloc ?_ _)); exact BK236.out⟩
       have n6_ : Aside0 (((w122.setCell ⟨gb246, 0, none⟩ (.bool t282)).setCell ⟨gb246, 1, none⟩ (.slice Ao124 t283.length co124)).heap[gb237]? = some (.cells #[.bool false, .slice Ao11 t233.length co11] 59 (0, 0))) := ⟨by (with_reducible repeat (first | refine blk_drewN ?_ _ | refine blk_drew ?_ | refine blk_alloc ?_ _)); refine blk_far ?_ NB237_246.out _; (with_reducible repeat (first | refine blk_drewN ?_ _ | refine blk_drew ?_ | refine blk_alloc ?_ _)); refine blk_far ?_ NB237_246.out _; (with_reducible repeat (first | refine blk_drewN ?_ _ | refine blk_drew ?_ | refine blk_alloc ?_ _)); exact BK237.out⟩
       have n7_ : Aside0 (((w122.setCell ⟨gb246, 0, none⟩ (.bool t282)).setCell ⟨gb246, 1, none⟩ (.slice Ao124 t283.length co124)).heap[gb246]? = some (.cells #[.bool t282, .slice Ao124 t283.length co124] 59 (0, 0))) := ⟨by (with_reducible repeat (first | refine blk_drewN ?_ _ | refine blk_drew ?_ | refine blk_alloc ?_ _)); refine blk_put (cs := #[.bool t282, .slice Ao121 x247001_1.length co121]) ?_ 1 _ rfl; (with_reducible repeat (first | refine blk_drewN ?_ _ | refine blk_drew ?_ | refine blk_alloc ?_ _)); refine blk_put (cs := #[.bool x247000_1, .slice Ao121 x247001_1.length co121]) ?_ 0 _ rfl; (with_reducible repeat (first | refine blk_drewN ?_ _ | refine blk_drew ?_ | refine blk_alloc ?_ _)); exact BK246.out⟩
       have n8_ : Aside0 (((w122.setCell ⟨gb246, 0, none⟩ (.bool t282)).setCell ⟨gb246, 1, none⟩ (.slice Ao124 t283.length co124)).heap[gb247]? = some (.cells #[.bool x248000_1, .slice Ao128 x248001_1.length co128] 59 (0, 0))) := ⟨by (with_reducible repeat (first | refine blk_drewN ?_ _ | refine blk_drew ?_ | refine blk_alloc ?_ _)); refine blk_far ?_ NB247_246.out _; (with_reducible repeat (first | refine blk_drewN ?_ _ | refine blk_drew ?_ | refine blk_alloc ?_ _)); refine blk_far ?_ NB247_246.out _; (with_reducible repeat (first | refine blk_drewN ?_ _ | refine blk_drew ?_ | refine blk_alloc ?_ _)); exact BK247.out⟩
       have n9_ : Aside0 (Below w.heap.size w ((w122.setCell ⟨gb246, 0, none⟩ (.bool t282)).setCell ⟨gb246, 1, none⟩ (.slice Ao124 t283.length co124))) := ⟨by repeat (first | (with_reducible first | exact HB.out | apply below_alloc | apply pw_below_drewN | apply below_drew1 | refine below_set ?_ GE236.out | refine below_set ?_ GE237.out | refine below_set ?_ GE246.out | refine below_set ?_ GE247.out) | exact HB.out)⟩
       (try clear HO_237001)
       (try clear HO_238001)
       (try clear HO_247001)
       (try clear HO_248001)
       (try clear HO285)
       (try clear BK236)
       (try clear BK237)
       (try clear BK246)
       (try clear BK247)
       (try clear HB)
       generalize ((w122.setCell ⟨gb246, 0, none⟩ (.bool t282)).setCell ⟨gb246, 1, none⟩ (.slice Ao124 t283.length co124)) = w129 at n0_ n1_ n2_ n3_ n4_ n5_ n6_ n7_ n8_ n9_ ⊢
       have HO_237001 := n0_
       have HO_238001 := n1_
       have HO_247001 := n2_
       have HO_248001 := n3_
       have HO285 := n4_
       have BK236 := n5_
       have BK237 := n6_
       have BK246 := n7_
       have BK247 := n8_
       have HB := n9_
       clear n0_ n1_ n2_ n3_ n4_ n5_ n6_ n7_ n8_ n9_
       have n0_ := Aside0.mk (Kd.V_drew HO_237001.out)
       have n1_ := Aside0.mk (Kd.V_drew HO_238001.out)
       have n2_ := Aside0.mk (Kd.V_drew HO_247001.out)
       have n3_ := Aside0.mk (Kd.V_drew HO_248001.out)
       have n4_ := Aside0.mk (Kd.V_drew HO285.out)
       have n5_ := Aside0.mk (blk_drew BK236.out)
       have n6_ := Aside0.mk (blk_drew BK237.out)
       have n7_ := Aside0.mk (blk_drew BK246.out)
       have n8_ := Aside0.mk (blk_drew BK247.out)
       have n9_ := Aside0.mk (below_drew1 HB.out)
       clear HO_237001
       clear HO_238001
       clear HO_247001
       clear HO_248001
       clear HO285
       clear BK236
       clear BK237
       clear BK246
       clear BK247
       clear HB
       have HO_237001 := n0_
       have HO_238001 := n1_
       have HO_247001 := n2_
       have HO_248001 := n3_
       have HO285 := n4_
       have BK236 := n5_
       have BK237 := n6_
       have BK246 := n7_
       have BK247 := n8_
       have HB := n9_
       clear n0_ n1_ n2_ n3_ n4_ n5_ n6_ n7_ n8_ n9_
       refine start_ (n := 4) (S := fun w' => w'.cell? ⟨gb246, 0, none⟩ = some (.bool t282) ∧ w'.cell? ⟨gb246, 1, none⟩ = some (.slice Ao124 t283.length co124)) (ds := [3]) #[false, false, false, false] (by kernel_rfl) rfl rfl ⟨(blk_cell BK246.out 0).trans rfl, (blk_cell BK246.out 1).trans rfl⟩ (fun hHeld => ?_)
       generalize w129.drew = w130 at HO_237001 HO_238001 HO_247001 HO_248001 HO285 BK236 BK237 BK246 BK247 HB hHeld ⊢
       refine take_ (i := 0) (N := some 72) (v := ?_) (a' := ?_) #[true, false, false, false] rfl rfl (by kernel_rfl) (fun _ _ _ h => h) (Or.inl ⟨by rfl, ?_⟩) hHeld ?_ ?_
       rotate_left
       ·rintro w' ⟨s0, s1⟩
        go_simp
        with_reducible rfl
       rotate_left
       ·simp only [Act.put, List.setIfInBounds_toArray, List.set_cons_zero, List.set_cons_succ, i64_w, i32_w]
        rfl
       refine one_ (i := 1) (N := some 73) #[true, true, false, false] rfl rfl (by kernel_rfl) (by decide) (fun K hK => ?_)
       refine goes_ Try.func45 (by kernel_rfl) rfl #[.int .i64 (-1)] (by rfl) rfl rfl mO ?_
       with_reducible refine (tabardref01_Of.calls k1 (-1) t286 t287 _ A114.out).mono ?_
       rintro e w131 ⟨v288, rfl, ho0, hb⟩
       refine ⟨_, rfl, ?_⟩
       have n0_ := Aside0.mk (Kd.V_below (vO HO_237001.out) hb)
       have n1_ := Aside0.mk (Kd.V_below (vO HO_238001.out) hb)
       have n2_ := Aside0.mk (Kd.V_below (vO HO_247001.out) hb)
       have n3_ := Aside0.mk (Kd.V_below (vO HO_248001.out) hb)
       have n4_ := Aside0.mk (Kd.V_below (vO HO285.out) hb)
       have n5_ := Aside0.mk (Kd.V_lower (Kd.V_mono (ok' := fun k_ => k_ ≠ gb236 ∧ k_ ≠ gb237 ∧ k_ ≠ gb246 ∧ k_ ≠ gb247) ho0 (fun k_ hk_ => ⟨(Kd.freshB (g := gb236) (o := .cells #[.bool false, .slice Ao9 t229.length co9] 59 (0, 0)) (kO BK236.out) k_ hk_), (Kd.freshB (g := gb237) (o := .cells #[.bool false, .slice Ao11 t233.length co11] 59 (0, 0)) (kO BK237.out) k_ hk_), (Kd.freshB (g := gb246) (o := .cells #[.bool t282, .slice Ao124 t283.length co124] 59 (0, 0)) (kO BK246.out) k_ hk_), (Kd.freshB (g := gb247) (o := .cells #[.bool x248000_1, .slice Ao128 x248001_1.length co128] 59 (0, 0)) (kO BK247.out) k_ hk_)⟩)) (below_size (by repeat (first | (with_reducible first | exact HB.out | apply below_alloc | apply pw_below_drewN | apply below_drew1 | refine below_set ?_ GE236.out | refine below_set ?_ GE237.out | refine below_set ?_ GE246.out | refine below_set ?_ GE247.out) | exact HB.out))))
       have n6_ := Aside0.mk (blk_below (g := gb236) (o := .cells #[.bool false, .slice Ao9 t229.length co9] 59 (0, 0)) (kO BK236.out) hb)
       have n7_ := Aside0.mk (blk_below (g := gb237) (o := .cells #[.bool false, .slice Ao11 t233.length co11] 59 (0, 0)) (kO BK237.out) hb)
       have n8_ := Aside0.mk (blk_below (g := gb246) (o := .cells #[.bool t282, .slice Ao124 t283.length co124] 59 (0, 0)) (kO BK246.out) hb)
       have n9_ := Aside0.mk (blk_below (g := gb247) (o := .cells #[.bool x248000_1, .slice Ao128 x248001_1.length co128] 59 (0, 0)) (kO BK247.out) hb)
       have n10_ := Aside0.mk (below_step (by repeat (first | (with_reducible first | exact HB.out | apply below_alloc | apply pw_below_drewN | apply below_drew1 | refine below_set ?_ GE236.out | refine below_set ?_ GE237.out | refine below_set ?_ GE246.out | refine below_set ?_ GE247.out) | exact HB.out)) hb)
       clear HO_237001
       clear HO_238001
       clear HO_247001
       clear HO_248001
       clear HO285
       clear BK236
       clear BK237
       clear BK246
       clear BK247
       clear HB
       have HO_237001 := n0_
       have HO_238001 := n1_
       have HO_247001 := n2_
       have HO_248001 := n3_
       have HO285 := n4_
       have HO289 := n5_
       have BK236 := n6_
       have BK237 := n7_
       have BK246 := n8_
       have BK247 := n9_
       have HB := n10_
       clear n0_ n1_ n2_ n3_ n4_ n5_ n6_ n7_ n8_ n9_ n10_
       (try clear hb)
       (try clear hb2)
       (try clear hk)
       (try clear hi)
       (try clear ho0)
       obtain ⟨Ao132, co132, eo132⟩ := Kd.V_slice HO289.out
       (first | subst eo132 | (injection eo132 with f1_ f2_ f3_; have f4_ := f1_.symm; have f5_ := f3_.symm; clear f1_ f2_ f3_; subst f4_; subst f5_))
       refine hK.out _ _ ⟨(blk_cell BK246.out 0).trans rfl, (blk_cell BK246.out 1).trans rfl⟩ (fun hHeld => ?_)
       clear hK K
       refine norm_ (a' := ?_) ?_ ?_
       rotate_left
       ·show Act.put _ (some 73) _ = _
        simp only [Act.put, List.setIfInBounds_toArray, List.set_cons_zero, List.set_cons_succ, i64_w, i32_w]
        rfl
       refine one_ (i := 2) (N := some 74) #[true, true, true, false] rfl rfl (by kernel_rfl) (by decide) (fun K hK => ?_)
       refine goes_ Try.func46 (by kernel_rfl) rfl #[.agg #[.bool t282, .slice Ao124 t283.length co124], .agg #[.bool t286, .slice Ao132 t287.length co132]] (by rfl) rfl rfl mO ?_
       with_reducible refine (tabardref01_Plus.calls k1 t282 _ _ t283 t286 _ _ t287 t290 t291 _ ?side1 ?side2 ?side3 ?side4 A115.out).mono ?_
       (case side1 => exact cO (Kd.V_reads' HO285.out).2.2)
       (case side2 => exact (Kd.V_reads' HO285.out).2.1)
       (case side3 => exact cO (Kd.V_reads' HO289.out).2.2)
       (case side4 => exact (Kd.V_reads' HO289.out).2.1)
       rintro e w133 ⟨v292, rfl, ho0, hb⟩
       refine ⟨_, rfl, ?_⟩
       have n0_ := Aside0.mk (Kd.V_below (vO HO_237001.out) hb)
       have n1_ := Aside0.mk (Kd.V_below (vO HO_238001.out) hb)
       have n2_ := Aside0.mk (Kd.V_below (vO HO_247001.out) hb)
       have n3_ := Aside0.mk (Kd.V_below (vO HO_248001.out) hb)
       have n4_ := Aside0.mk (Kd.V_below (vO HO285.out) hb)
       have n5_ := Aside0.mk (Kd.V_below (vO HO289.out) hb)
       have n6_ := Aside0.mk (Kd.V_lower (Kd.V_mono (ok' := fun k_ => k_ ≠ gb236 ∧ k_ ≠ gb237 ∧ k_ ≠ gb246 ∧ k_ ≠ gb247) ho0 (fun k_ hk_ => ⟨(Kd.freshB (g := gb236) (o := .cells #[.bool false, .slice Ao9 t229.length co9] 59 (0, 0)) (kO BK236.out) k_ hk_), (Kd.freshB (g := gb237) (o := .cells #[.bool false, .slice Ao11 t233.length co11] 59 (0, 0)) (kO BK237.out) k_ hk_), (Kd.freshB (g := gb246) (o := .cells #[.bool t282, .slice Ao124 t283.length co124] 59 (0, 0)) (kO BK246.out) k_ hk_), (Kd.freshB (g := gb247) (o := .cells #[.bool x248000_1, .slice Ao128 x248001_1.length co128] 59 (0, 0)) (kO BK247.out) k_ hk_)⟩)) (below_size (by repeat (first | (with_reducible first | exact HB.out | apply below_alloc | apply pw_below_drewN | apply below_drew1 | refine below_set ?_ GE236.out | refine below_set ?_ GE237.out | refine below_set ?_ GE246.out | refine below_set ?_ GE247.out) | exact HB.out))))
       have n7_ := Aside0.mk (blk_below (g := gb236) (o := .cells #[.bool false, .slice Ao9 t229.length co9] 59 (0, 0)) (kO BK236.out) hb)
       have n8_ := Aside0.mk (blk_below (g := gb237) (o := .cells #[.bool false, .slice Ao11 t233.length co11] 59 (0, 0)) (kO BK237.out) hb)
       have n9_ := Aside0.mk (blk_below (g := gb246) (o := .cells #[.bool t282, .slice Ao124 t283.length co124] 59 (0, 0)) (kO BK246.out) hb)
       have n10_ := Aside0.mk (blk_below (g := gb247) (o := .cells #[.bool x248000_1, .slice Ao128 x248001_1.length co128] 59 (0, 0)) (kO BK247.out) hb)
       have n11_ := Aside0.mk (below_step (by repeat (first | (with_reducible first | exact HB.out | apply below_alloc | apply pw_below_drewN | apply below_drew1 | refine below_set ?_ GE236.out | refine below_set ?_ GE237.out | refine below_set ?_ GE246.out | refine below_set ?_ GE247.out) | exact HB.out)) hb)
       clear HO_237001
       clear HO_238001
       clear HO_247001
       clear HO_248001
       clear HO285
       clear HO289
       clear BK236
       clear BK237
       clear BK246
       clear BK247
       clear HB
       have HO_237001 := n0_
       have HO_238001 := n1_
       have HO_247001 := n2_
       have HO_248001 := n3_
       have HO285 := n4_
       have HO289 := n5_
       have HO293 := n6_
       have BK236 := n7_
       have BK237 := n8_
       have BK246 := n9_
       have BK247 := n10_
       have HB := n11_
       clear n0_ n1_ n2_ n3_ n4_ n5_ n6_ n7_ n8_ n9_ n10_ n11_
       (try clear hb)
       (try clear hb2)
       (try clear hk)
       (try clear hi)
       (try clear ho0)
       obtain ⟨Ao135, co135, eo135⟩ := Kd.V_slice HO293.out
       (first | subst eo135 | (injection eo135 with f1_ f2_ f3_; have f4_ := f1_.symm; have f5_ := f3_.symm; clear f1_ f2_ f3_; subst f4_; subst f5_))
       refine hK.out _ _ ⟨(blk_cell BK246.out 0).trans rfl, (blk_cell BK246.out 1).trans rfl⟩ (fun hHeld => ?_)
       clear hK K
       refine norm_ (a' := ?_) ?_ ?_
       rotate_left
       ·show Act.put _ (some 74) _ = _
        simp only [Act.put, List.setIfInBounds_toArray, List.set_cons_zero, List.set_cons_succ, i64_w, i32_w]
        rfl
       refine last_ (i := 3) (N := none) #[true, true, true, true] rfl rfl (by kernel_rfl) (by decide) (fun K hK => ?_)
       have hs134 : w133.cell? ⟨gb246, 0, none⟩ = some (.bool t282) := (blk_cell BK246.out 0).trans rfl
       have hfs134 := blk_frozen BK246.out 0
       have hns134_0 := NB236_246.out
       have hns134_1 := NB237_246.out
       have hns134_3 := NB247_246.out
       have hms134_0 := NB246_236.out
       have hms134_1 := NB246_237.out
       have hms134_3 := NB246_247.out
       have hs136 : w133.cell? ⟨gb246, 1, none⟩ = some (.slice Ao124 t283.length co124) := (blk_cell BK246.out 1).trans rfl
       have hfs136 := blk_frozen BK246.out 1
       have hns136_0 := NB236_246.out
       have hns136_1 := NB237_246.out
       have hns136_3 := NB247_246.out
       have hms136_0 := NB246_236.out
       have hms136_1 := NB246_237.out
       have hms136_3 := NB246_247.out
       refine skip_ (w1 := ?_) (by rfl) rfl ?_ ?_
       rotate_left
       ·go_simp
        rfl
       refine hK.out _ _ ?_
       clear hK K
       refine done_ (by kernel_rfl) ?_
       have hcz137_0 : w133.cell? ⟨gb246, 0, none⟩ = some (.bool t282) := (blk_cell BK246.out 0).trans rfl
       have hcz137_1 : w133.cell? ⟨gb246, 1, none⟩ = some (.slice Ao124 t283.length co124) := (blk_cell BK246.out 1).trans rfl
       have hfz137_0 := blk_frozen BK246.out 0
       have hfz137_1 := blk_frozen BK246.out 1
       try go_wp2_with (first | ((with_reducible refine gate_callee (f := 50) rfl ?_); refine goesL_ (some 76) rfl rfl Try.func50 (by kernel_rfl) rfl #[.agg #[.bool t290, .slice Ao135 t291.length co135]] rfl mO ?_; (with_reducible refine (tabardref01_told.calls k1 t290 _ _ t291 t294 t295 _ ?side1 ?side2 A116.out).mono ?_); (case side1 => refine (Kd.V_reads' (e := 63) (base := w.heap.size) (ok := fun k_ => (k_ ≠ gb236 ∧ (k_ ≠ gb237 ∧ (k_ ≠ gb246 ∧ k_ ≠ gb247)))) (n := t291.length) (c := co135) ?_).2.2; exact (by (with_reducible repeat (first | apply Kd.V_alloc | apply Kd.V_drewN | apply Kd.V_drew)); exact (Kd.V_mono (Kd.V_far (p := ⟨gb246, 1, none⟩) (Kd.V_far (p := ⟨gb246, 0, none⟩) (Kd.V_mono HO293.out (fun k_ hk => (⟨hk, hk.2.2.1⟩ : _ ∧ k_ ≠ gb246))) (fun _ hk => hk.2) (.bool t290)) (fun _ hk => hk.2) (.slice Ao135 t291.length co135)) (fun _ h_ => h_.1)))); (case side2 => exact (Kd.V_reads' HO293.out).2.1); rintro e w138 ⟨rfl, hb⟩; refine ⟨_, rfl, ?_⟩; have n0_ := Aside0.mk (Kd.V_below (by (with_reducible repeat (first | apply Kd.V_alloc | apply Kd.V_drewN | apply Kd.V_drew)); exact (Kd.V_mono (Kd.V_far (p := ⟨gb246, 1, none⟩) (Kd.V_far (p := ⟨gb246, 0, none⟩) (Kd.V_mono HO_237001.out (fun k_ hk => (⟨hk, hk.2.2.1⟩ : _ ∧ k_ ≠ gb246))) (fun _ hk => hk.2) (.bool t290)) (fun _ hk => hk.2) (.slice Ao135 t291.length co135)) (fun _ h_ => h_.1))) hb); have n1_ := Aside0.mk (Kd.V_below (by (with_reducible repeat (first | apply Kd.V_alloc | apply Kd.V_drewN | apply Kd.V_drew)); exact (Kd.V_mono (Kd.V_far (p := ⟨gb246, 1, none⟩) (Kd.V_far (p := ⟨gb246, 0, none⟩) (Kd.V_mono HO_238001.out (fun k_ hk => (⟨hk, hk.2.2.1⟩ : _ ∧ k_ ≠ gb246))) (fun _ hk => hk.2) (.bool t290)) (fun _ hk => hk.2) (.slice Ao135 t291.length co135)) (fun _ h_ => h_.1))) hb); have n2_ := Aside0.mk (Kd.V_below (by (with_reducible repeat (first | apply Kd.V_alloc | apply Kd.V_drewN | apply Kd.V_drew)); exact (Kd.V_mono (Kd.V_far (p := ⟨gb246, 1, none⟩) (Kd.V_far (p := ⟨gb246, 0, none⟩) (Kd.V_mono HO_247001.out (fun k_ hk => (⟨hk, hk.2.2.1⟩ : _ ∧ k_ ≠ gb246))) (fun _ hk => hk.2) (.bool t290)) (fun _ hk => hk.2) (.slice Ao135 t291.length co135)) (fun _ h_ => h_.1))) hb); have n3_ := Aside0.mk (Kd.V_below (by (with_reducible repeat (first | apply Kd.V_alloc | apply Kd.V_drewN | apply Kd.V_drew)); exact (Kd.V_mono (Kd.V_far (p := ⟨gb246, 1, none⟩) (Kd.V_far (p := ⟨gb246, 0, none⟩) (Kd.V_mono HO_248001.out (fun k_ hk => (⟨hk, hk.2.2.1⟩ : _ ∧ k_ ≠ gb246))) (fun _ hk => hk.2) (.bool t290)) (fun _ hk => hk.2) (.slice Ao135 t291.length co135)) (fun _ h_ => h_.1))) hb); have n4_ := Aside0.mk (Kd.V_below (by (with_reducible repeat (first | apply Kd.V_alloc | apply Kd.V_drewN | apply Kd.V_drew)); exact (Kd.V_mono (Kd.V_far (p := ⟨gb246, 1, none⟩) (Kd.V_far (p := ⟨gb246, 0, none⟩) (Kd.V_mono HO285.out (fun k_ hk => (⟨hk, hk.2.2.1⟩ : _ ∧ k_ ≠ gb246))) (fun _ hk => hk.2) (.bool t290)) (fun _ hk => hk.2) (.slice Ao135 t291.length co135)) (fun _ h_ => h_.1))) hb); have n5_ := Aside0.mk (Kd.V_below (by (with_reducible repeat (first | apply Kd.V_alloc | apply Kd.V_drewN | apply Kd.V_drew)); exact (Kd.V_mono (Kd.V_far (p := ⟨gb246, 1, none⟩) (Kd.V_far (p := ⟨gb246, 0, none⟩) (Kd.V_mono HO289.out (fun k_ hk => (⟨hk, hk.2.2.1⟩ : _ ∧ k_ ≠ gb246))) (fun _ hk => hk.2) (.bool t290)) (fun _ hk => hk.2) (.slice Ao135 t291.length co135)) (fun _ h_ => h_.1))) hb); have n6_ := Aside0.mk (Kd.V_below (by (with_reducible repeat (first | apply Kd.V_alloc | apply Kd.V_drewN | apply Kd.V_drew)); exact (Kd.V_mono (Kd.V_far (p := ⟨gb246, 1, none⟩) (Kd.V_far (p := ⟨gb246, 0, none⟩) (Kd.V_mono HO293.out (fun k_ hk => (⟨hk, hk.2.2.1⟩ : _ ∧ k_ ≠ gb246))) (fun _ hk => hk.2) (.bool t290)) (fun _ hk => hk.2) (.slice Ao135 t291.length co135)) (fun _ h_ => h_.1))) hb); have n7_ := Aside0.mk (blk_below (g := gb236) (o := .cells #[.bool false, .slice Ao9 t229.length co9] 59 (0, 0)) (by (with_reducible repeat (first | refine blk_drewN ?_ _ | refine blk_drew ?_ | refine blk_alloc ?_ _)); refine blk_far ?_ NB236_246.out _; (with_reducible repeat (first | refine blk_drewN ?_ _ | refine blk_drew ?_ | refine blk_alloc ?_ _)); refine blk_far ?_ NB236_246.out _; (with_reducible repeat (first | refine blk_drewN ?_ _ | refine blk_drew ?_ | refine blk_alloc ?_ _)); exact BK236.out) hb); have n8_ := Aside0.mk (blk_below (g := gb237) (o := .cells #[.bool false, .slice Ao11 t233.length co11] 59 (0, 0)) (by (with_reducible repeat (first | refine blk_drewN ?_ _ | refine blk_drew ?_ | refine blk_alloc ?_ _)); refine blk_far ?_ NB237_246.out _; (with_reducible repeat (first | refine blk_drewN ?_ _ | refine blk_drew ?_ | refine blk_alloc ?_ _)); refine blk_far ?_ NB237_246.out _; (with_reducible repeat (first | refine blk_drewN ?_ _ | refine blk_drew ?_ | refine blk_alloc ?_ _)); exact BK237.out) hb); have n9_ := Aside0.mk (blk_below (g := gb246) (o := .cells #[.bool t290, .slice Ao135 t291.length co135] 59 (0, 0)) (by (with_reducible repeat (first | refine blk_drewN ?_ _ | refine blk_drew ?_ | refine blk_alloc ?_ _)); refine blk_put (cs := #[.bool t290, .slice Ao124 t283.length co124]) ?_ 1 _ rfl; (with_reducible repeat (first | refine blk_drewN ?_ _ | refine blk_drew ?_ | refine blk_alloc ?_ _)); refine blk_put (cs := #[.bool t282, .slice Ao124 t283.length co124]) ?_ 0 _ rfl; (with_reducible repeat (first | refine blk_drewN ?_ _ | refine blk_drew ?_ | refine blk_alloc ?_ _)); exact BK246.out) hb); have n10_ := Aside0.mk (blk_below (g := gb247) (o := .cells #[.bool x248000_1, .slice Ao128 x248001_1.length co128] 59 (0, 0)) (by (with_reducible repeat (first | refine blk_drewN ?_ _ | refine blk_drew ?_ | refine blk_alloc ?_ _)); refine blk_far ?_ NB247_246.out _; (with_reducible repeat (first | refine blk_drewN ?_ _ | refine blk_drew ?_ | refine blk_alloc ?_ _)); refine blk_far ?_ NB247_246.out _; (with_reducible repeat (first | refine blk_drewN ?_ _ | refine blk_drew ?_ | refine blk_alloc ?_ _)); exact BK247.out) hb); have n11_ := Aside0.mk (below_step (by repeat (first | (with_reducible first | exact HB.out | apply below_alloc | apply pw_below_drewN | apply below_drew1 | refine below_set ?_ GE236.out | refine below_set ?_ GE237.out | refine below_set ?_ GE246.out | refine below_set ?_ GE247.out) | exact HB.out)) hb); clear HO_237001; clear HO_238001; clear HO_247001; clear HO_248001; clear HO285; clear HO289; clear HO293; clear BK236; clear BK237; clear BK246; clear BK247; clear HB; have HO_237001 := n0_; have HO_238001 := n1_; have HO_247001 := n2_; have HO_248001 := n3_; have HO285 := n4_; have HO289 := n5_; have HO293 := n6_; have BK236 := n7_; have BK237 := n8_; have BK246 := n9_; have BK247 := n10_; have HB := n11_; clear n0_ n1_ n2_ n3_ n4_ n5_ n6_ n7_ n8_ n9_ n10_ n11_; (try clear hb); (try clear hb2); (try clear hk); (try clear hi)))
       go_ret2
       exact ⟨by first | rfl | (simp [errW_none, errW_some] <;> rfl) | (simp [*, errW_none, errW_some] <;> rfl), by repeat (first | (with_reducible first | exact HB.out | apply below_alloc | apply pw_below_drewN | apply below_drew1 | refine below_set ?_ GE236.out | refine below_set ?_ GE237.out | refine below_set ?_ GE246.out | refine below_set ?_ GE247.out) | exact HB.out)⟩
      ·rw [if_neg c113] at H
       have c113b0 : decide (0 < (x248001_1.length : Int)) = false := decide_eq_false c113
       have c113b1 : decide (0 < x248001_1.length) = false := decide_eq_false (by omega)
       clear c113
       replace H := Option.bind_eq_some_iff.mp H
       obtain ⟨⟨t296, t297⟩, A1390, H⟩ := H
       replace H : (some (t296, t297)) = some (r1, r2) := H
       have A139 := Aside0.mk A1390
       clear A1390
       simp only [Option.some.injEq, Prod.mk.injEq] at H
       obtain ⟨rfl, rfl⟩ := H
       have hnb140 := NB246_236.out
       have hnc140 := NB236_246.out
       have hnb141 := NB246_237.out
       have hnc141 := NB237_246.out
       have hnb142 := NB246_247.out
       have hnc142 := NB247_246.out
       have hcz143_0 : wr.cell? ⟨gb246, 0, none⟩ = some (.bool x247000_1) := (blk_cell BK246.out 0).trans rfl
       have hcz143_1 : wr.cell? ⟨gb246, 1, none⟩ = some (u247001) := (blk_cell BK246.out 1).trans rfl
       have hfz143_0 := blk_frozen BK246.out 0
       have hfz143_1 := blk_frozen BK246.out 1
       obtain ⟨Ao144, co144, eo144⟩ := Kd.V_slice HO_247001.out
       subst eo144
       go_wp2_with (first | ((with_reducible refine gate_callee (f := 49) rfl ?_); refine goesL_ (some 67) rfl rfl Try.func49 (by kernel_rfl) rfl #[.agg #[.bool x247000_1, .slice Ao144 x247001_1.length co144]] rfl mO ?_; (with_reducible refine (tabardref01_Minus.calls k1 x247000_1 (fun k_ => (k_ ≠ gb236 ∧ (k_ ≠ gb237 ∧ (k_ ≠ gb246 ∧ k_ ≠ gb247)))) _ _ x247001_1 t282 t283 _ ?side1 A112.out).mono ?_); (case side1 => exact HO_247001.out); rintro e w145 ⟨v284, rfl, ho0, hb⟩; refine ⟨_, rfl, ?_⟩; have n0_ := Aside0.mk (Kd.V_below (vO HO_237001.out) hb); have n1_ := Aside0.mk (Kd.V_below (vO HO_238001.out) hb); have n2_ := Aside0.mk (Kd.V_below (vO HO_247001.out) hb); have n3_ := Aside0.mk (Kd.V_below (vO HO_248001.out) hb); have n4_ := Aside0.mk (Kd.V_lower (Kd.V_mono (ok' := fun k_ => k_ ≠ gb236 ∧ k_ ≠ gb237 ∧ k_ ≠ gb246 ∧ k_ ≠ gb247) ho0 (fun k_ hk_ => ⟨Or.elim hk_ (fun hs_ => hs_.1) (fun hn_ => (Kd.freshB (g := gb236) (o := .cells #[.bool false, .slice Ao9 t229.length co9] 59 (0, 0)) (kO BK236.out) k_ hn_)), Or.elim hk_ (fun hs_ => hs_.2.1) (fun hn_ => (Kd.freshB (g := gb237) (o := .cells #[.bool false, .slice Ao11 t233.length co11] 59 (0, 0)) (kO BK237.out) k_ hn_)), Or.elim hk_ (fun hs_ => hs_.2.2.1) (fun hn_ => (Kd.freshB (g := gb246) (o := .cells #[.bool x247000_1, .slice Ao144 x247001_1.length co144] 59 (0, 0)) (kO BK246.out) k_ hn_)), Or.elim hk_ (fun hs_ => hs_.2.2.2) (fun hn_ => (Kd.freshB (g := gb247) (o := .cells #[.bool x248000_1, u248001] 59 (0, 0)) (kO BK247.out) k_ hn_))⟩)) (below_size (by repeat (first | (with_reducible first | exact HB.out | apply below_alloc | apply pw_below_drewN | apply below_drew1 | refine below_set ?_ GE236.out | refine below_set ?_ GE237.out | refine below_set ?_ GE246.out | refine below_set ?_ GE247.out) | exact HB.out)))); have n5_ := Aside0.mk (blk_below (g := gb236) (o := .cells #[.bool false, .slice Ao9 t229.length co9] 59 (0, 0)) (kO BK236.out) hb); have n6_ := Aside0.mk (blk_below (g := gb237) (o := .cells #[.bool false, .slice Ao11 t233.length co11] 59 (0, 0)) (kO BK237.out) hb); have n7_ := Aside0.mk (blk_below (g := gb246) (o := .cells #[.bool x247000_1, .slice Ao144 x247001_1.length co144] 59 (0, 0)) (kO BK246.out) hb); have n8_ := Aside0.mk (blk_below (g := gb247) (o := .cells #[.bool x248000_1, u248001] 59 (0, 0)) (kO BK247.out) hb); have n9_ := Aside0.mk (below_step (by repeat (first | (with_reducible first | exact HB.out | apply below_alloc | apply pw_below_drewN | apply below_drew1 | refine below_set ?_ GE236.out | refine below_set ?_ GE237.out | refine below_set ?_ GE246.out | refine below_set ?_ GE247.out) | exact HB.out)) hb); clear HO_237001; clear HO_238001; clear HO_247001; clear HO_248001; clear BK236; clear BK237; clear BK246; clear BK247; clear HB; have HO_237001 := n0_; have HO_238001 := n1_; have HO_247001 := n2_; have HO_248001 := n3_; have HO285 := n4_; have BK236 := n5_; have BK237 := n6_; have BK246 := n7_; have BK247 := n8_; have HB := n9_; clear n0_ n1_ n2_ n3_ n4_ n5_ n6_ n7_ n8_ n9_; (try clear hb); (try clear hb2); (try clear hk); (try clear hi); (try clear ho0); have hcz146_0 : w145.cell? ⟨gb246, 0, none⟩ = some (.bool x247000_1) := (blk_cell BK246.out 0).trans rfl; have hcz146_1 : w145.cell? ⟨gb246, 1, none⟩ = some (.slice Ao144 x247001_1.length co144) := (blk_cell BK246.out 1).trans rfl; have hfz146_0 := blk_frozen BK246.out 0; have hfz146_1 := blk_frozen BK246.out 1; obtain ⟨Ao147, co147, eo147⟩ := Kd.V_slice HO285.out; subst eo147; have hnb148 := NB247_236.out; have hnc148 := NB236_247.out; have hnb149 := NB247_237.out; have hnc149 := NB237_247.out; have hcz150_0 : w145.cell? ⟨gb247, 0, none⟩ = some (.bool x248000_1) := (blk_cell BK247.out 0).trans rfl; have hcz150_1 : w145.cell? ⟨gb247, 1, none⟩ = some (u248001) := (blk_cell BK247.out 1).trans rfl; have hfz150_0 := blk_frozen BK247.out 0; have hfz150_1 := blk_frozen BK247.out 1; obtain ⟨Ao151, co151, eo151⟩ := Kd.V_slice HO_248001.out; subst eo151) | ((with_reducible refine gate_callee (f := 50) rfl ?_); refine goesL_ (some 76) rfl rfl Try.func50 (by kernel_rfl) rfl #[.agg #[.bool t282, .slice Ao147 t283.length co147]] rfl mO ?_; (with_reducible refine (tabardref01_told.calls k1 t282 _ _ t283 t296 t297 _ ?side1 ?side2 A139.out).mono ?_); (case side1 => refine (Kd.V_reads' (e := 63) (base := w.heap.size) (ok := fun k_ => (k_ ≠ gb236 ∧ (k_ ≠ gb237 ∧ (k_ ≠ gb246 ∧ k_ ≠ gb247)))) (n := t283.length) (c := co147) ?_).2.2; exact (by (with_reducible repeat (first | apply Kd.V_alloc | apply Kd.V_drewN | apply Kd.V_drew)); exact (Kd.V_mono (Kd.V_far (p := ⟨gb246, 1, none⟩) (Kd.V_far (p := ⟨gb246, 0, none⟩) (Kd.V_mono HO285.out (fun k_ hk => (⟨hk, hk.2.2.1⟩ : _ ∧ k_ ≠ gb246))) (fun _ hk => hk.2) (.bool t282)) (fun _ hk => hk.2) (.slice Ao147 t283.length co147)) (fun _ h_ => h_.1)))); (case side2 => exact (Kd.V_reads' HO285.out).2.1); rintro e w152 ⟨rfl, hb⟩; refine ⟨_, rfl, ?_⟩; have n0_ := Aside0.mk (Kd.V_below (by (with_reducible repeat (first | apply Kd.V_alloc | apply Kd.V_drewN | apply Kd.V_drew)); exact (Kd.V_mono (Kd.V_far (p := ⟨gb246, 1, none⟩) (Kd.V_far (p := ⟨gb246, 0, none⟩) (Kd.V_mono HO_237001.out (fun k_ hk => (⟨hk, hk.2.2.1⟩ : _ ∧ k_ ≠ gb246))) (fun _ hk => hk.2) (.bool t282)) (fun _ hk => hk.2) (.slice Ao147 t283.length co147)) (fun _ h_ => h_.1))) hb); have n1_ := Aside0.mk (Kd.V_below (by (with_reducible repeat (first | apply Kd.V_alloc | apply Kd.V_drewN | apply Kd.V_drew)); exact (Kd.V_mono (Kd.V_far (p := ⟨gb246, 1, none⟩) (Kd.V_far (p := ⟨gb246, 0, none⟩) (Kd.V_mono HO_238001.out (fun k_ hk => (⟨hk, hk.2.2.1⟩ : _ ∧ k_ ≠ gb246))) (fun _ hk => hk.2) (.bool t282)) (fun _ hk => hk.2) (.slice Ao147 t283.length co147)) (fun _ h_ => h_.1))) hb); have n2_ := Aside0.mk (Kd.V_below (by (with_reducible repeat (first | apply Kd.V_alloc | apply Kd.V_drewN | apply Kd.V_drew)); exact (Kd.V_mono (Kd.V_far (p := ⟨gb246, 1, none⟩) (Kd.V_far (p := ⟨gb246, 0, none⟩) (Kd.V_mono HO_247001.out (fun k_ hk => (⟨hk, hk.2.2.1⟩ : _ ∧ k_ ≠ gb246))) (fun _ hk => hk.2) (.bool t282)) (fun _ hk => hk.2) (.slice Ao147 t283.length co147)) (fun _ h_ => h_.1))) hb); have n3_ := Aside0.mk (Kd.V_below (by (with_reducible repeat (first | apply Kd.V_alloc | apply Kd.V_drewN | apply Kd.V_drew)); exact (Kd.V_mono (Kd.V_far (p := ⟨gb246, 1, none⟩) (Kd.V_far (p := ⟨gb246, 0, none⟩) (Kd.V_mono HO_248001.out (fun k_ hk => (⟨hk, hk.2.2.1⟩ : _ ∧ k_ ≠ gb246))) (fun _ hk => hk.2) (.bool t282)) (fun _ hk => hk.2) (.slice Ao147 t283.length co147)) (fun _ h_ => h_.1))) hb); have n4_ := Aside0.mk (Kd.V_below (by (with_reducible repeat (first | apply Kd.V_alloc | apply Kd.V_drewN | apply Kd.V_drew)); exact (Kd.V_mono (Kd.V_far (p := ⟨gb246, 1, none⟩) (Kd.V_far (p := ⟨gb246, 0, none⟩) (Kd.V_mono HO285.out (fun k_ hk => (⟨hk, hk.2.2.1⟩ : _ ∧ k_ ≠ gb246))) (fun _ hk => hk.2) (.bool t282)) (fun _ hk => hk.2) (.slice Ao147 t283.length co147)) (fun _ h_ => h_.1))) hb); have n5_ := Aside0.mk (blk_below (g := gb236) (o := .cells #[.bool false, .slice Ao9 t229.length co9] 59 (0, 0)) (by (with_reducible repeat (first | refine blk_drewN ?_ _ | refine blk_drew ?_ | refine blk_alloc ?_ _)); refine blk_far ?_ NB236_246.out _; (with_reducible repeat (first | refine blk_drewN ?_ _ | refine blk_drew ?_ | refine blk_alloc ?_ _)); refine blk_far ?_ NB236_246.out _; (with_reducible repeat (first | refine blk_drewN ?_ _ | refine blk_drew ?_ | refine blk_alloc ?_ _)); exact BK236.out) hb); have n6_ := Aside0.mk (blk_below (g := gb237) (o := .cells #[.bool false, .slice Ao11 t233.length co11] 59 (0, 0)) (by (with_reducible repeat (first | refine blk_drewN ?_ _ | refine blk_drew ?_ | refine blk_alloc ?_ _)); refine blk_far ?_ NB237_246.out _; (with_reducible repeat (first | refine blk_drewN ?_ _ | refine blk_drew ?_ | refine blk_alloc ?_ _)); refine blk_far ?_ NB237_246.out _; (with_reducible repeat (first | refine blk_drewN ?_ _ | refine blk_drew ?_ | refine blk_alloc ?_ _)); exact BK237.out) hb); have n7_ := Aside0.mk (blk_below (g := gb246) (o := .cells #[.bool t282, .slice Ao147 t283.length co147] 59 (0, 0)) (by (with_reducible repeat (first | refine blk_drewN ?_ _ | refine blk_drew ?_ | refine blk_alloc ?_ _)); refine blk_put (cs := #[.bool t282, .slice Ao144 x247001_1.length co144]) ?_ 1 _ rfl; (with_reducible repeat (first | refine blk_drewN ?_ _ | refine blk_drew ?_ | refine blk_alloc ?_ _)); refine blk_put (cs := #[.bool x247000_1, .slice Ao144 x247001_1.length co144]) ?_ 0 _ rfl; (with_reducible repeat (first | refine blk_drewN ?_ _ | refine blk_drew ?_ | refine blk_alloc ?_ _)); exact BK246.out) hb); have n8_ := Aside0.mk (blk_below (g := gb247) (o := .cells #[.bool x248000_1, .slice Ao151 x248001_1.length co151] 59 (0, 0)) (by (with_reducible repeat (first | refine blk_drewN ?_ _ | refine blk_drew ?_ | refine blk_alloc ?_ _)); refine blk_far ?_ NB247_246.out _; (with_reducible repeat (first | refine blk_drewN ?_ _ | refine blk_drew ?_ | refine blk_alloc ?_ _)); refine blk_far ?_ NB247_246.out _; (with_reducible repeat (first | refine blk_drewN ?_ _ | refine blk_drew ?_ | refine blk_alloc ?_ _)); exact BK247.out) hb); have n9_ := Aside0.mk (below_step (by repeat (first | (with_reducible first | exact HB.out | apply below_alloc | apply pw_below_drewN | apply below_drew1 | refine below_set ?_ GE236.out | refine below_set ?_ GE237.out | refine below_set ?_ GE246.out | refine below_set ?_ GE247.out) | exact HB.out)) hb); clear HO_237001; clear HO_238001; clear HO_247001; clear HO_248001; clear HO285; clear BK236; clear BK237; clear BK246; clear BK247; clear HB; have HO_237001 := n0_; have HO_238001 := n1_; have HO_247001 := n2_; have HO_248001 := n3_; have HO285 := n4_; have BK236 := n5_; have BK237 := n6_; have BK246 := n7_; have BK247 := n8_; have HB := n9_; clear n0_ n1_ n2_ n3_ n4_ n5_ n6_ n7_ n8_ n9_; (try clear hb); (try clear hb2); (try clear hk); (try clear hi)))
       go_ret2
       exact ⟨by first | rfl | (simp [errW_none, errW_some] <;> rfl) | (simp [*, errW_none, errW_some] <;> rfl), by repeat (first | (with_reducible first | exact HB.out | apply below_alloc | apply pw_below_drewN | apply below_drew1 | refine below_set ?_ GE236.out | refine below_set ?_ GE237.out | refine below_set ?_ GE246.out | refine below_set ?_ GE247.out) | exact HB.out)⟩
     ·rw [if_neg c111] at H
      have c111b0 : ((decide (a0 < 0)) != (decide (a1 < 0))) = false := by simpa using c111
      (try (have c111b1 : decide ((decide (a0 < 0)) = (decide (a1 < 0))) = true := by simpa using c111))
      (try (have c111b2 : ((decide (a0 < 0)) == (decide (a1 < 0))) = true := by simpa using c111))
      clear c111
      replace H := Option.bind_eq_some_iff.mp H
      obtain ⟨⟨t298, t299⟩, A1530, H⟩ := H
      replace H : (some (t298, t299)) = some (r1, r2) := H
      have A153 := Aside0.mk A1530
      clear A1530
      simp only [Option.some.injEq, Prod.mk.injEq] at H
      obtain ⟨rfl, rfl⟩ := H
      have hnb154 := NB246_236.out
      have hnc154 := NB236_246.out
      have hnb155 := NB246_237.out
      have hnc155 := NB237_246.out
      have hnb156 := NB246_247.out
      have hnc156 := NB247_246.out
      have hcz157_0 : wr.cell? ⟨gb246, 0, none⟩ = some (.bool x247000_1) := (blk_cell BK246.out 0).trans rfl
      have hcz157_1 : wr.cell? ⟨gb246, 1, none⟩ = some (u247001) := (blk_cell BK246.out 1).trans rfl
      have hfz157_0 := blk_frozen BK246.out 0
      have hfz157_1 := blk_frozen BK246.out 1
      obtain ⟨Ao158, co158, eo158⟩ := Kd.V_slice HO_247001.out
      subst eo158
      go_wp2_with (first | ((with_reducible refine gate_callee (f := 50) rfl ?_); refine goesL_ (some 76) rfl rfl Try.func50 (by kernel_rfl) rfl #[.agg #[.bool x247000_1, .slice Ao158 x247001_1.length co158]] rfl mO ?_; (with_reducible refine (tabardref01_told.calls k1 x247000_1 _ _ x247001_1 t298 t299 _ ?side1 ?side2 A153.out).mono ?_); (case side1 => exact cO (Kd.V_reads' HO_247001.out).2.2); (case side2 => exact (Kd.V_reads' HO_247001.out).2.1); rintro e w159 ⟨rfl, hb⟩; refine ⟨_, rfl, ?_⟩; have n0_ := Aside0.mk (Kd.V_below (vO HO_237001.out) hb); have n1_ := Aside0.mk (Kd.V_below (vO HO_238001.out) hb); have n2_ := Aside0.mk (Kd.V_below (vO HO_247001.out) hb); have n3_ := Aside0.mk (Kd.V_below (vO HO_248001.out) hb); have n4_ := Aside0.mk (blk_below (g := gb236) (o := .cells #[.bool false, .slice Ao9 t229.length co9] 59 (0, 0)) (kO BK236.out) hb); have n5_ := Aside0.mk (blk_below (g := gb237) (o := .cells #[.bool false, .slice Ao11 t233.length co11] 59 (0, 0)) (kO BK237.out) hb); have n6_ := Aside0.mk (blk_below (g := gb246) (o := .cells #[.bool x247000_1, .slice Ao158 x247001_1.length co158] 59 (0, 0)) (kO BK246.out) hb); have n7_ := Aside0.mk (blk_below (g := gb247) (o := .cells #[.bool x248000_1, u248001] 59 (0, 0)) (kO BK247.out) hb); have n8_ := Aside0.mk (below_step (by repeat (first | (with_reducible first | exact HB.out | apply below_alloc | apply pw_below_drewN | apply below_drew1 | refine below_set ?_ GE236.out | refine below_set ?_ GE237.out | refine below_set ?_ GE246.out | refine below_set ?_ GE247.out) | exact HB.out)) hb); clear HO_237001; clear HO_238001; clear HO_247001; clear HO_248001; clear BK236; clear BK237; clear BK246; clear BK247; clear HB; have HO_237001 := n0_; have HO_238001 := n1_; have HO_247001 := n2_; have HO_248001 := n3_; have BK236 := n4_; have BK237 := n5_; have BK246 := n6_; have BK247 := n7_; have HB := n8_; clear n0_ n1_ n2_ n3_ n4_ n5_ n6_ n7_ n8_; (try clear hb); (try clear hb2); (try clear hk); (try clear hi)))
      go_ret2
      exact ⟨by first | rfl | (simp [errW_none, errW_some] <;> rfl) | (simp [*, errW_none, errW_some] <;> rfl), by repeat (first | (with_reducible first | exact HB.out | apply below_alloc | apply pw_below_drewN | apply below_drew1 | refine below_set ?_ GE236.out | refine below_set ?_ GE237.out | refine below_set ?_ GE246.out | refine below_set ?_ GE247.out) | exact HB.out)⟩

end Go.Proofs.Ytolacbnkebbjiaa.X

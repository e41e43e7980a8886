/- What the functions of this seat compute, and that the program's calls come to just that: written by this session's own program out of the translation; no condition. -/
import Derived.Test.YtghfclgcgecgdaaX0
import Derived.Test.YtghfclgcgecgdaaX5
import Derived.Test.YtghfclgcgecgdaaX11
import Derived.Test.YtghfclgcgecgdaaX14
namespace Go.Proofs.Ytghfclgcgecgdaa.X
open Go.RowKit Go.Proofs.YtghfclgcgecgdaaW.PrintWords Go.Proofs.YtghfclgcgecgdaaW.PrintLast Go.Proofs.YtghfclgcgecgdaaW.PrintMore
attribute [local go_sem] max2_int min2_int max_two min_two max_three min_three max_four min_four   -- for this text's walks alone
set_option linter.unusedVariables false
set_option linter.unusedSimpArgs false

/-! ### table_Check: function 29 -/
mutual
def table_Check.j0 : Nat → Int → Bool → List ByteArray → List Bool → List Int → List (S58) → Option (Int)
 | 0, _, _, _, _, _, _ => none
 | k + 1, x3, x45, x176000, x176001, x176002, x176003 => if x45 = true then (some 3) else (table_Check.l0 k x3 x3 0 x176000 x176001 x176002 x176003)
def table_Check.l0 : Nat → Int → Int → Int → List ByteArray → List Bool → List Int → List (S58) → Option (Int)
 | 0, _, _, _, _, _, _, _ => none
 | k + 1, x3, x46, x47, x176000, x176001, x176002, x176003 => if x47 < x46 then ((table_rowOf.f x176000 x176001 x176002 x176003 x47).bind fun t180 => (if (t180.length : Int) > 32 then (some 3) else ((row_Right.f k t180 (x176000.length : Int) x3).bind fun t183 => (if t183 = true then (table_Check.l0 k x3 x46 (wrap64 (x47 + 1)) x176000 x176001 x176002 x176003) else (some 3))))) else (some 0)
end
def table_Check.f (k : Nat) (l0_0 : List ByteArray) (l0_1 : List Bool) (l0_2 : List Int) (l0_3 : List (S58)) : Option (Int) := (table_tracks.f k l0_0 (l0_1.length : Int)).bind fun t176 => (if t176 = true then (if (l0_2.length : Int) = (wrap64 ((l0_1.length : Int) + 1)) then (if 0 < (l0_2.length : Int) then (if (rd l0_2 0) = 0 then (if 0 ≤ (l0_1.length : Int) then (if (l0_1.length : Int) < (l0_2.length : Int) then (if (rd l0_2 (l0_1.length : Int)) = (l0_3.length : Int) then ((slices_IsSorted_int_int.f k l0_2).bind fun t179 => (table_Check.j0 k (l0_1.length : Int) (!t179) l0_0 l0_1 l0_2 l0_3)) else (table_Check.j0 k (l0_1.length : Int) true l0_0 l0_1 l0_2 l0_3)) else (none)) else (none)) else (table_Check.j0 k (l0_1.length : Int) true l0_0 l0_1 l0_2 l0_3)) else (none)) else (table_Check.j0 k (l0_1.length : Int) true l0_0 l0_1 l0_2 l0_3)) else (table_Check.j0 k (l0_1.length : Int) true l0_0 l0_1 l0_2 l0_3))
theorem table_Check.mono_l : ∀ k, (∀ y0 y1 y2 y3 y4 y5, LeO (table_Check.j0 k y0 y1 y2 y3 y4 y5) (table_Check.j0 (k + 1) y0 y1 y2 y3 y4 y5)) ∧ (∀ y0 y1 y2 y3 y4 y5 y6, LeO (table_Check.l0 k y0 y1 y2 y3 y4 y5 y6) (table_Check.l0 (k + 1) y0 y1 y2 y3 y4 y5 y6))
 | 0 => ⟨fun _ _ _ _ _ _ r h => by simp [table_Check.j0] at h, fun _ _ _ _ _ _ _ r h => by simp [table_Check.l0] at h⟩
 | k + 1 => by
  obtain ⟨ih0, ih1⟩ := table_Check.mono_l k; refine ⟨?_, ?_⟩
  ·intro y0 y1 y2 y3 y4 y5
   unfold table_Check.j0
   repeat' first
   | (with_reducible exact ih0 _ _ _ _ _ _)
   | (with_reducible exact ih1 _ _ _ _ _ _ _)
   | (with_reducible exact row_Right.mono _ _ _ _)
   | (with_reducible exact slices_IsSorted_int_int.mono _ _)
   | (with_reducible exact table_tracks.mono _ _ _)
   | (with_reducible exact LeO.refl _)
   | (with_reducible exact LeO.none _)
   | (with_reducible refine LeO.ite ?_ ?_)
   | (with_reducible refine LeO.bind ?_ (fun _ => ?_))
   | exact LeO.none _
   | refine LeO.ite ?_ ?_
   | refine LeO.bind ?_ (fun _ => ?_)
  ·intro y0 y1 y2 y3 y4 y5 y6
   unfold table_Check.l0
   repeat' first
   | (with_reducible exact ih0 _ _ _ _ _ _)
   | (with_reducible exact ih1 _ _ _ _ _ _ _)
   | (with_reducible exact row_Right.mono _ _ _ _)
   | (with_reducible exact slices_IsSorted_int_int.mono _ _)
   | (with_reducible exact table_tracks.mono _ _ _)
   | (with_reducible exact LeO.refl _)
   | (with_reducible exact LeO.none _)
   | (with_reducible refine LeO.ite ?_ ?_)
   | (with_reducible refine LeO.bind ?_ (fun _ => ?_))
   | exact LeO.none _
   | refine LeO.ite ?_ ?_
   | refine LeO.bind ?_ (fun _ => ?_)
theorem table_Check.mono : ∀ a0 a1 a2 a3 k, LeO (table_Check.f k a0 a1 a2 a3) (table_Check.f (k + 1) a0 a1 a2 a3) := by
 intro a0 a1 a2 a3 k; obtain ⟨ih0, ih1⟩ := table_Check.mono_l k
 unfold table_Check.f
 repeat' first
   | (with_reducible exact ih0 _ _ _ _ _ _)
   | (with_reducible exact ih1 _ _ _ _ _ _ _)
   | (with_reducible exact row_Right.mono _ _ _ _)
   | (with_reducible exact slices_IsSorted_int_int.mono _ _)
   | (with_reducible exact table_tracks.mono _ _ _)
   | (with_reducible exact LeO.refl _)
   | (with_reducible exact LeO.none _)
   | (with_reducible refine LeO.ite ?_ ?_)
   | (with_reducible refine LeO.bind ?_ (fun _ => ?_))
   | exact LeO.none _
   | refine LeO.ite ?_ ?_
   | refine LeO.bind ?_ (fun _ => ?_)
def table_Check.T2 : Bool × List (List Nat × List Nat) := (true, [([], []), ([0], [0]), ([], []), ([1, 2], [1, 2]), ([3], [3]), ([4, 3], [4]), ([5], [5]), ([6, 5], [5, 6]), ([7, 5], [5, 7]), ([5], [5]), ([9, 5], [5, 9]), ([8, 10, 5], [5, 8, 10]), ([5, 11], [5, 11]), ([12, 5], [12]), ([13], [13]), ([14, 13], [13, 14]), ([15, 13], [13, 15]), ([16, 13], [13, 16]), ([17, 13], [13, 17]), ([13, 18], [13, 18]), ([19, 13], [19]), ([20], [20]), ([21, 20], [20, 21]), ([20], [20]), ([22, 23, 20], [20, 22, 23]), ([24, 20], [20, 24]), ([20], [20]), ([26, 20], [20, 26]), ([27, 20], [20, 27]), ([25, 28, 20], [20, 25, 28]), ([20, 29], [20, 29]), ([30, 20], [30]), ([31], [31]), ([32, 31], [31, 32]), ([33, 31, 31], [31, 33]), ([34, 31], [31, 34]), ([31, 35], [31, 35])])
def table_Check.B2 : List Nat := [0, 1, 0, 7, 15, 31, 63, 127, 255, 63, 575, 2047, 4095, 8191, 16383, 32767, 65535, 131071, 262143, 524287, 1048575, 2097151, 4194303, 2097151, 16777215, 33554431, 2097151, 69206015, 203423743, 536870911, 1073741823, 2147483647, 4294967295, 8589934591, 17179869183, 34359738367, 68719476735]
theorem table_Check.tab2 : rtab .any (opsOf Try.f29 2) = table_Check.T2 := by kernel_rfl
theorem table_Check.bits2 : waitsOk table_Check.T2.2 table_Check.B2 = true := by kernel_rfl
set_option maxHeartbeats 8000000 in
set_option maxRecDepth 100000 in
theorem table_Check.calls (k : Nat) (A0_0 : Option Addr) (c0_0 : Nat) (l0_0 : List ByteArray) (A0_1 : Option Addr) (c0_1 : Nat) (l0_1 : List Bool) (A0_2 : Option Addr) (c0_2 : Nat) (l0_2 : List Int) (A0_3 : Option Addr) (c0_3 : Nat) (l0_3 : List (S58)) (r : Int) (w : World) (hr0_0 : Kd.C Kd.string w A0_0 l0_0.length l0_0) (hc0_0 : l0_0.length ≤ c0_0) (hr0_1 : Kd.C Kd.bool w A0_1 l0_1.length l0_1) (hc0_1 : l0_1.length ≤ c0_1) (hr0_2 : Kd.C (Kd.int .i64) w A0_2 l0_2.length l0_2) (hc0_2 : l0_2.length ≤ c0_2) (hr0_3 : Kd.C k58 w A0_3 l0_3.length l0_3) (hc0_3 : l0_3.length ≤ c0_3) (h : table_Check.f k l0_0 l0_1 l0_2 l0_3 = some r) :
  Calls Try.prog 29 #[.agg #[.slice A0_0 l0_0.length c0_0, .slice A0_1 l0_1.length c0_1, .slice A0_2 l0_2.length c0_2, .slice A0_3 l0_3.length c0_3]] w fun e w' => e = .returned (.int .i64 r) ∧ Below w.heap.size w w' := by
 have hu32 := Try.underlying32; have HR0_0 := Aside0.mk hr0_0; have HC0_0 := Aside0.mk hc0_0; clear hr0_0 hc0_0; have HR0_1 := Aside0.mk hr0_1; have HC0_1 := Aside0.mk hc0_1; clear hr0_1 hc0_1; have HR0_2 := Aside0.mk hr0_2; have HC0_2 := Aside0.mk hc0_2; clear hr0_2 hc0_2; have HR0_3 := Aside0.mk hr0_3; have HC0_3 := Aside0.mk hc0_3; clear hr0_3 hc0_3; have HB := Aside0.mk (Below.refl w.heap.size w); have H : ((table_tracks.f k l0_0 (l0_1.length : Int)).bind fun t176 => (if t176 = true then (if (l0_2.length : Int) = (wrap64 ((l0_1.length : Int) + 1)) then (if 0 < (l0_2.length : Int) then (if (rd l0_2 0) = 0 then (if 0 ≤ (l0_1.length : Int) then (if (l0_1.length : Int) < (l0_2.length : Int) then (if (rd l0_2 (l0_1.length : Int)) = (l0_3.length : Int) then ((slices_IsSorted_int_int.f k l0_2).bind fun t179 => (table_Check.j0 k (l0_1.length : Int) (!t179) l0_0 l0_1 l0_2 l0_3)) else (table_Check.j0 k (l0_1.length : Int) true l0_0 l0_1 l0_2 l0_3)) else (none)) else (none)) else (table_Check.j0 k (l0_1.length : Int) true l0_0 l0_1 l0_2 l0_3)) else (none)) else (table_Check.j0 k (l0_1.length : Int) true l0_0 l0_1 l0_2 l0_3)) else (table_Check.j0 k (l0_1.length : Int) true l0_0 l0_1 l0_2 l0_3))) = some r := h; clear h; have HC2 := Aside0.mk H; clear H
 go_enter Try.func29, Try.ntmps29
 go_upto_region 2 with (first | ((with_reducible refine gate_dst (N := 1) rfl ?_); (try (refine gate_guard (by rfl) ?_; dsimp only)); refine be_ (cs := #[.slice A0_0 l0_0.length c0_0, .slice A0_1 l0_1.length c0_1, .slice A0_2 l0_2.length c0_2, .slice A0_3 l0_3.length c0_3]) (t := 32) ?_; intro gb175 hg w3 hbox hb; have BK175 := Aside0.mk (hbox); have GW175 := gE hg (bO HB.out); have GE175 := gE hg (bO HB.out); replace HB := hS0 HB hb; clear hb hbox hg; obtain ⟨hcz4_0, hcz4_1, hcz4_2, hcz4_3, hfz4_0, hfz4_1, hfz4_2, hfz4_3⟩ := bF4 BK175.out))
 (try simp only [Act.put, sA, sB, sC])
 go_cut [45] (fun v45 wc => ∃ (kq : Nat) (x45_1 : Bool), v45 = .bool x45_1 ∧ Aside0 (table_Check.j0 kq (l0_1.length : Int) x45_1 l0_0 l0_1 l0_2 l0_3 = some r) ∧ Aside0 (kq ≤ k) ∧ Aside0 (wc.heap[gb175]? = some (.cells #[(.slice A0_0 l0_0.length c0_0), (.slice A0_1 l0_1.length c0_1), (.slice A0_2 l0_2.length c0_2), (.slice A0_3 l0_3.length c0_3)] 32 (0, 0))) ∧ Aside0 (Below w.heap.size w wc))
 case first =>
  have H := HC2.out; clear HC2; replace H := Option.bind_eq_some_iff.mp H; obtain ⟨t176, A50, H⟩ := H; replace H : (if t176 = true then (if (l0_2.length : Int) = (wrap64 ((l0_1.length : Int) + 1)) then (if 0 < (l0_2.length : Int) then (if (rd l0_2 0) = 0 then (if 0 ≤ (l0_1.length : Int) then (if (l0_1.length : Int) < (l0_2.length : Int) then (if (rd l0_2 (l0_1.length : Int)) = (l0_3.length : Int) then ((slices_IsSorted_int_int.f k l0_2).bind fun t179 => (table_Check.j0 k (l0_1.length : Int) (!t179) l0_0 l0_1 l0_2 l0_3)) else (table_Check.j0 k (l0_1.length : Int) true l0_0 l0_1 l0_2 l0_3)) else (none)) else (none)) else (table_Check.j0 k (l0_1.length : Int) true l0_0 l0_1 l0_2 l0_3)) else (none)) else (table_Check.j0 k (l0_1.length : Int) true l0_0 l0_1 l0_2 l0_3)) else (table_Check.j0 k (l0_1.length : Int) true l0_0 l0_1 l0_2 l0_3)) = some r := H; have A5 := Aside0.mk A50; clear A50
  by_cases c6 : t176 = true
  ·subst c6
   have H1 : (if (l0_2.length : Int) = (wrap64 ((l0_1.length : Int) + 1)) then (if 0 < (l0_2.length : Int) then (if (rd l0_2 0) = 0 then (if 0 ≤ (l0_1.length : Int) then (if (l0_1.length : Int) < (l0_2.length : Int) then (if (rd l0_2 (l0_1.length : Int)) = (l0_3.length : Int) then ((slices_IsSorted_int_int.f k l0_2).bind fun t179 => (table_Check.j0 k (l0_1.length : Int) (!t179) l0_0 l0_1 l0_2 l0_3)) else (table_Check.j0 k (l0_1.length : Int) true l0_0 l0_1 l0_2 l0_3)) else (none)) else (none)) else (table_Check.j0 k (l0_1.length : Int) true l0_0 l0_1 l0_2 l0_3)) else (none)) else (table_Check.j0 k (l0_1.length : Int) true l0_0 l0_1 l0_2 l0_3)) = some r := by rw [if_pos rfl] at H; exact H
   clear H; have H := H1; clear H1
   by_cases c7 : (l0_2.length : Int) = (wrap64 ((l0_1.length : Int) + 1))
   ·rw [if_pos c7] at H; have c7b0 : ((l0_2.length : Int) == (wrap64 ((l0_1.length : Int) + 1))) = true := beq_iff_eq.mpr c7; have c7b1 : ((l0_2.length : Int) != (wrap64 ((l0_1.length : Int) + 1))) = false := bne_eq_false_iff_eq.mpr c7; clear c7
    (first | rw [c7b0] | (simp only [i64_w, i32_w]; rw [c7b0]) | skip)
    by_cases c8 : 0 < (l0_2.length : Int)
    ·rw [if_pos c8] at H; have c8b0 : decide (0 < (l0_2.length : Int)) = true := decide_eq_true c8; have c8b1 : decide (0 < l0_2.length) = true := decide_eq_true (by omega); clear c8
     by_cases c9 : (rd l0_2 0) = 0
     ·rw [if_pos c9] at H; have c9b0 : ((rd l0_2 0) == 0) = true := beq_iff_eq.mpr c9; have c9b1 : ((rd l0_2 0) != 0) = false := bne_eq_false_iff_eq.mpr c9; clear c9
      by_cases c10 : 0 ≤ (l0_1.length : Int)
      ·rw [if_pos c10] at H; have c10b0 : decide (0 ≤ (l0_1.length : Int)) = true := decide_eq_true c10; have c10b1 : decide (0 ≤ l0_1.length) = true := decide_eq_true (by omega); clear c10
       by_cases c11 : (l0_1.length : Int) < (l0_2.length : Int)
       ·rw [if_pos c11] at H; have c11b0 : decide ((l0_1.length : Int) < (l0_2.length : Int)) = true := decide_eq_true c11; have c11b1 : decide (l0_1.length < l0_2.length) = true := decide_eq_true (Int.ofNat_lt.mp c11); clear c11
        by_cases c12 : (rd l0_2 (l0_1.length : Int)) = (l0_3.length : Int)
        ·rw [if_pos c12] at H; have c12b0 : ((rd l0_2 (l0_1.length : Int)) == (l0_3.length : Int)) = true := beq_iff_eq.mpr c12; have c12b1 : ((rd l0_2 (l0_1.length : Int)) != (l0_3.length : Int)) = false := bne_eq_false_iff_eq.mpr c12; clear c12; replace H := Option.bind_eq_some_iff.mp H; obtain ⟨t179, A130, H⟩ := H; replace H : (table_Check.j0 k (l0_1.length : Int) (!t179) l0_0 l0_1 l0_2 l0_3) = some r := H; have A13 := Aside0.mk A130; clear A130; have H' := Aside0.mk H; clear H
         replace BK175 := kD BK175; replace HB := Aside0.mk (below_drew1 HB.out); have p177 : 0 ≤ (0 : Int) := (by omega); have q177 : 0 < (l0_2.length : Int) := of_decide_eq_true aO; obtain ⟨ad177, e177, hx177_0⟩ := Kd.at_int HR0_2.out 0 p177 q177; have hw177_0 := hx177_0
         (try rw [show ((0 : Int)).toNat = 0 from rfl] at hw177_0)
         (try rw [show 0 * 1 = 0 from rfl] at hw177_0)
         (try rw [Addr.add_zero'] at hw177_0)
         cases e177; have qi177 : (0 < l0_2.length) = True := eq_true (by omega)
         (try rw [show ((0 : Int)).toNat = 0 from rfl] at hx177_0)
         (try rw [Addr.add_zero'] at hx177_0)
         replace hx177_0 := (HB.out.cell (World.block_lt_of_cell? w _ hx177_0)).trans hx177_0; replace p177 := eq_true p177; replace q177 := eq_true q177; have p178 : 0 ≤ ((l0_1.length : Int) : Int) := of_decide_eq_true aO; have q178 : (l0_1.length : Int) < (l0_2.length : Int) := of_decide_eq_true aO; obtain ⟨ad178, e178, hx178_0⟩ := Kd.at_int HR0_2.out (l0_1.length : Int) p178 q178; have hw178_0 := hx178_0; have he_ : ad177 = ad178 := (by injection e178); subst he_; replace hx178_0 := (HB.out.cell (World.block_lt_of_cell? w _ hx178_0)).trans hx178_0
         (try simp only [Go.IntWalk.toNatUp] at hx178_0)
         replace p178 := eq_true p178; replace q178 := eq_true q178; refine start_ (n := 37) (S := fun w' => w'.cell? ⟨gb175, 0, none⟩ = some (.slice A0_0 l0_0.length c0_0) ∧ w'.cell? ⟨gb175, 1, none⟩ = some (.slice A0_1 l0_1.length c0_1) ∧ w'.cell? ⟨gb175, 2, none⟩ = some (.slice (some ad177) l0_2.length c0_2) ∧ w'.cell? ⟨gb175, 3, none⟩ = some (.slice A0_3 l0_3.length c0_3) ∧ w'.cell? ad177 = some (.int .i64 (rd l0_2 0)) ∧ w'.cell? (ad177.add l0_1.length) = some (.int .i64 (rd l0_2 (l0_1.length : Int)))) (ds := []) (bl 37 0) (by kernel_rfl) rfl rfl ⟨(blk_cell BK175.out 0).trans rfl, (blk_cell BK175.out 1).trans rfl, (blk_cell BK175.out 2).trans rfl, (blk_cell BK175.out 3).trans rfl, ((HB.out.cell (World.block_lt_of_cell? w _ hw177_0)).trans hw177_0), ((HB.out.cell (World.block_lt_of_cell? w _ hw178_0)).trans hw178_0)⟩ (fun hHeld => ?_); refine with_tabW table_Check.tab2 table_Check.bits2 (fun HT_ HW_ => ?_); generalize w3.drew = w14 at BK175 HB hx177_0 hx178_0 hHeld ⊢; refine pu_ 0 9 (bl 37 1) HT_ ?_; refine pu_ 2 11 (bl 37 5) HT_ ?_; refine tk6_ 1 10 (bl 37 7) HT_ HW_ hHeld ?_; refine one_ (i := 3) (N := some 12) (bl 37 15) rfl rfl (one_of HT_.out (by kernel_rfl)) (by decide) (fun K hK => ?_); refine goes_ Try.func38 (by kernel_rfl) rfl #[.slice A0_0 l0_0.length c0_0, .int .i64 (l0_1.length : Int)] (by rfl) rfl rfl mO ?_
         with_reducible refine (table_tracks.calls k _ _ l0_0 (l0_1.length : Int) true _ ?s1 ?s2 A5.out).mono ?_
         (case s1 => exact cB HR0_0 HB)
         (case s2 => exact HC0_0.out)
         rintro e w15 ⟨rfl, hb⟩; refine ⟨_, rfl, ?_⟩; replace BK175 := kB BK175 hb; replace HB := hS1 HB GE175 hb
         (try clear hb)
         (try clear hb2)
         (try clear hk)
         (try clear hi)
         refine hK.out _ _ ⟨(blk_cell BK175.out 0).trans rfl, (blk_cell BK175.out 1).trans rfl, (blk_cell BK175.out 2).trans rfl, (blk_cell BK175.out 3).trans rfl, ((HB.out.cell (World.block_lt_of_cell? w _ hw177_0)).trans hw177_0), ((HB.out.cell (World.block_lt_of_cell? w _ hw178_0)).trans hw178_0)⟩ (fun hHeld => ?_); clear hK K; refine nm_ 12 ?_; refine pu_ 4 13 (bl 37 31) HT_ ?_; refine pu_ 5 14 (bl 37 63) HT_ ?_; refine pu_ 6 15 (bl 37 127) HT_ ?_; refine pu_ 9 18 (bl 37 639) HT_ ?_; refine pu_ 10 19 (bl 37 1663) HT_ ?_; refine tk6_ 7 16 (bl 37 1791) HT_ HW_ hHeld ?_; refine pu_ 8 17 (bl 37 2047) HT_ ?_; refine pu_ 11 20 (bl 37 4095) HT_ ?_; refine pu_ 12 21 (bl 37 8191) HT_ ?_; refine pu_ 13 22 (bl 37 16383) HT_ ?_; refine pu_ 14 23 (bl 37 32767) HT_ ?_; refine tk6_ 15 24 (bl 37 65535) HT_ HW_ hHeld ?_; refine pu_ 16 25 (bl 37 131071) HT_ ?_; refine tk6_ 17 26 (bl 37 262143) HT_ HW_ hHeld ?_; refine pu_ 18 27 (bl 37 524287) HT_ ?_; refine pu_ 19 28 (bl 37 1048575) HT_ ?_; refine pu_ 20 29 (bl 37 2097151) HT_ ?_; refine pu_ 21 30 (bl 37 4194303) HT_ ?_; refine pu_ 23 32 (bl 37 12582911) HT_ ?_; refine pu_ 26 35 (bl 37 79691775) HT_ ?_; refine tk6_ 22 31 (bl 37 83886079) HT_ HW_ hHeld ?_; refine pu_ 24 33 (bl 37 100663295) HT_ ?_; refine tk6_ 25 34 (bl 37 134217727) HT_ HW_ hHeld ?_; refine tk6_ 27 36 (bl 37 268435455) HT_ HW_ hHeld ?_; refine pu_ 28 37 (bl 37 536870911) HT_ ?_; refine pu_ 29 38 (bl 37 1073741823) HT_ ?_; refine pu_ 30 39 (bl 37 2147483647) HT_ ?_; refine pu_ 31 40 (bl 37 4294967295) HT_ ?_; refine pu_ 32 41 (bl 37 8589934591) HT_ ?_; refine tk6_ 33 42 (bl 37 17179869183) HT_ HW_ hHeld ?_; refine one_ (i := 34) (N := some 43) (bl 37 34359738367) rfl rfl (one_of HT_.out (by kernel_rfl)) (by decide) (fun K hK => ?_); refine goes_ Try.func54 (by kernel_rfl) rfl #[.slice (some ad177) l0_2.length c0_2] (by rfl) rfl rfl mO ?_
         with_reducible refine (slices_IsSorted_int_int.calls k _ _ l0_2 t179 _ ?s1 ?s2 A13.out).mono ?_
         (case s1 => exact cB HR0_2 HB)
         (case s2 => exact HC0_2.out)
         rintro e w' ⟨rfl, ⟨nd, rfl⟩⟩; refine ⟨_, rfl, ?_⟩; refine hK.out _ _ ⟨(blk_cell BK175.out 0).trans rfl, (blk_cell BK175.out 1).trans rfl, (blk_cell BK175.out 2).trans rfl, (blk_cell BK175.out 3).trans rfl, ((HB.out.cell (World.block_lt_of_cell? w _ hw177_0)).trans hw177_0), ((HB.out.cell (World.block_lt_of_cell? w _ hw178_0)).trans hw178_0)⟩ (fun hHeld => ?_); clear hK K; refine nm_ 43 ?_; refine pu_ 35 44 (bl 37 68719476735) HT_ ?_; refine pu_ 36 45 (bl 37 137438953471) HT_ ?_; refine done_ (done_of HT_.out (by kernel_rfl)) ?_
         try go_wp2
         go_meet
         case rel => exact ⟨_, (!t179), (by first | rfl | (simp; done) | (simp [*]; done)), H', ⟨by first | omega | exact Nat.le_refl _⟩, ⟨kO BK175.out⟩, ⟨bS1 HB.out GE175.out⟩⟩
        ·rw [if_neg c12] at H; have c12b0 : ((rd l0_2 (l0_1.length : Int)) == (l0_3.length : Int)) = false := beq_eq_false_iff_ne.mpr c12; have c12b1 : ((rd l0_2 (l0_1.length : Int)) != (l0_3.length : Int)) = true := bne_iff_ne.mpr c12; have H' := Aside0.mk H; clear H
         replace BK175 := kD BK175; replace HB := Aside0.mk (below_drew1 HB.out); have p177 : 0 ≤ (0 : Int) := (by omega); have q177 : 0 < (l0_2.length : Int) := of_decide_eq_true aO; obtain ⟨ad177, e177, hx177_0⟩ := Kd.at_int HR0_2.out 0 p177 q177; have hw177_0 := hx177_0
         (try rw [show ((0 : Int)).toNat = 0 from rfl] at hw177_0)
         (try rw [show 0 * 1 = 0 from rfl] at hw177_0)
         (try rw [Addr.add_zero'] at hw177_0)
         cases e177; have qi177 : (0 < l0_2.length) = True := eq_true (by omega)
         (try rw [show ((0 : Int)).toNat = 0 from rfl] at hx177_0)
         (try rw [Addr.add_zero'] at hx177_0)
         replace hx177_0 := (HB.out.cell (World.block_lt_of_cell? w _ hx177_0)).trans hx177_0; replace p177 := eq_true p177; replace q177 := eq_true q177; have p178 : 0 ≤ ((l0_1.length : Int) : Int) := of_decide_eq_true aO; have q178 : (l0_1.length : Int) < (l0_2.length : Int) := of_decide_eq_true aO; obtain ⟨ad178, e178, hx178_0⟩ := Kd.at_int HR0_2.out (l0_1.length : Int) p178 q178; have hw178_0 := hx178_0; have he_ : ad177 = ad178 := (by injection e178); subst he_; replace hx178_0 := (HB.out.cell (World.block_lt_of_cell? w _ hx178_0)).trans hx178_0
         (try simp only [Go.IntWalk.toNatUp] at hx178_0)
         replace p178 := eq_true p178; replace q178 := eq_true q178; refine start_ (n := 37) (S := fun w' => w'.cell? ⟨gb175, 0, none⟩ = some (.slice A0_0 l0_0.length c0_0) ∧ w'.cell? ⟨gb175, 1, none⟩ = some (.slice A0_1 l0_1.length c0_1) ∧ w'.cell? ⟨gb175, 2, none⟩ = some (.slice (some ad177) l0_2.length c0_2) ∧ w'.cell? ⟨gb175, 3, none⟩ = some (.slice A0_3 l0_3.length c0_3) ∧ w'.cell? ad177 = some (.int .i64 (rd l0_2 0)) ∧ w'.cell? (ad177.add l0_1.length) = some (.int .i64 (rd l0_2 (l0_1.length : Int)))) (ds := []) (bl 37 0) (by kernel_rfl) rfl rfl ⟨(blk_cell BK175.out 0).trans rfl, (blk_cell BK175.out 1).trans rfl, (blk_cell BK175.out 2).trans rfl, (blk_cell BK175.out 3).trans rfl, ((HB.out.cell (World.block_lt_of_cell? w _ hw177_0)).trans hw177_0), ((HB.out.cell (World.block_lt_of_cell? w _ hw178_0)).trans hw178_0)⟩ (fun hHeld => ?_); refine with_tabW table_Check.tab2 table_Check.bits2 (fun HT_ HW_ => ?_); generalize w3.drew = w16 at BK175 HB hx177_0 hx178_0 hHeld ⊢; refine pu_ 0 9 (bl 37 1) HT_ ?_; refine pu_ 2 11 (bl 37 5) HT_ ?_; refine tk6_ 1 10 (bl 37 7) HT_ HW_ hHeld ?_; refine one_ (i := 3) (N := some 12) (bl 37 15) rfl rfl (one_of HT_.out (by kernel_rfl)) (by decide) (fun K hK => ?_); refine goes_ Try.func38 (by kernel_rfl) rfl #[.slice A0_0 l0_0.length c0_0, .int .i64 (l0_1.length : Int)] (by rfl) rfl rfl mO ?_
         with_reducible refine (table_tracks.calls k _ _ l0_0 (l0_1.length : Int) true _ ?s1 ?s2 A5.out).mono ?_
         (case s1 => exact cB HR0_0 HB)
         (case s2 => exact HC0_0.out)
         rintro e w17 ⟨rfl, hb⟩; refine ⟨_, rfl, ?_⟩; replace BK175 := kB BK175 hb; replace HB := hS1 HB GE175 hb
         (try clear hb)
         (try clear hb2)
         (try clear hk)
         (try clear hi)
         refine hK.out _ _ ⟨(blk_cell BK175.out 0).trans rfl, (blk_cell BK175.out 1).trans rfl, (blk_cell BK175.out 2).trans rfl, (blk_cell BK175.out 3).trans rfl, ((HB.out.cell (World.block_lt_of_cell? w _ hw177_0)).trans hw177_0), ((HB.out.cell (World.block_lt_of_cell? w _ hw178_0)).trans hw178_0)⟩ (fun hHeld => ?_); clear hK K; refine nm_ 12 ?_; refine pu_ 4 13 (bl 37 31) HT_ ?_; refine pu_ 5 14 (bl 37 63) HT_ ?_; refine pu_ 6 15 (bl 37 127) HT_ ?_; refine pu_ 9 18 (bl 37 639) HT_ ?_; refine pu_ 10 19 (bl 37 1663) HT_ ?_; refine tk6_ 7 16 (bl 37 1791) HT_ HW_ hHeld ?_; refine pu_ 8 17 (bl 37 2047) HT_ ?_; refine pu_ 11 20 (bl 37 4095) HT_ ?_; refine pu_ 12 21 (bl 37 8191) HT_ ?_; refine pu_ 13 22 (bl 37 16383) HT_ ?_; refine pu_ 14 23 (bl 37 32767) HT_ ?_; refine tk6_ 15 24 (bl 37 65535) HT_ HW_ hHeld ?_; refine pu_ 16 25 (bl 37 131071) HT_ ?_; refine tk6_ 17 26 (bl 37 262143) HT_ HW_ hHeld ?_; refine pu_ 18 27 (bl 37 524287) HT_ ?_; refine pu_ 19 28 (bl 37 1048575) HT_ ?_; refine pu_ 20 29 (bl 37 2097151) HT_ ?_; refine pu_ 21 30 (bl 37 4194303) HT_ ?_; refine pu_ 23 32 (bl 37 12582911) HT_ ?_; refine pu_ 26 35 (bl 37 79691775) HT_ ?_; refine tk6_ 22 31 (bl 37 83886079) HT_ HW_ hHeld ?_; refine pu_ 24 33 (bl 37 100663295) HT_ ?_; refine tk6_ 25 34 (bl 37 134217727) HT_ HW_ hHeld ?_; refine tk6_ 27 36 (bl 37 268435455) HT_ HW_ hHeld ?_; refine pu_ 28 37 (bl 37 536870911) HT_ ?_; refine pu_ 29 38 (bl 37 1073741823) HT_ ?_; refine pu_ 30 39 (bl 37 2147483647) HT_ ?_; refine pu_ 31 40 (bl 37 4294967295) HT_ ?_; refine pn_ 32 41 (bl 37 8589934591) HT_ ?_; refine pn_ 33 42 (bl 37 17179869183) HT_ ?_; refine pn_ 34 43 (bl 37 34359738367) HT_ ?_; refine pn_ 35 44 (bl 37 68719476735) HT_ ?_; refine pu_ 36 45 (bl 37 137438953471) HT_ ?_; refine done_ (done_of HT_.out (by kernel_rfl)) ?_
         try go_wp2
         go_meet
         case rel => exact ⟨_, (true), (by first | rfl | (simp; done) | (simp [*]; done)), H', ⟨by first | omega | exact Nat.le_refl _⟩, ⟨kO BK175.out⟩, ⟨bS1 HB.out GE175.out⟩⟩
       ·rw [if_neg c11] at H; exact absurd H (by simp)
      ·rw [if_neg c10] at H; exact absurd H (by simp)
     ·rw [if_neg c9] at H; have c9b0 : ((rd l0_2 0) == 0) = false := beq_eq_false_iff_ne.mpr c9; have c9b1 : ((rd l0_2 0) != 0) = true := bne_iff_ne.mpr c9; have H' := Aside0.mk H; clear H
      replace BK175 := kD BK175; replace HB := Aside0.mk (below_drew1 HB.out); have p177 : 0 ≤ (0 : Int) := (by omega); have q177 : 0 < (l0_2.length : Int) := of_decide_eq_true aO; obtain ⟨ad177, e177, hx177_0⟩ := Kd.at_int HR0_2.out 0 p177 q177; have hw177_0 := hx177_0
      (try rw [show ((0 : Int)).toNat = 0 from rfl] at hw177_0)
      (try rw [show 0 * 1 = 0 from rfl] at hw177_0)
      (try rw [Addr.add_zero'] at hw177_0)
      cases e177; have qi177 : (0 < l0_2.length) = True := eq_true (by omega)
      (try rw [show ((0 : Int)).toNat = 0 from rfl] at hx177_0)
      (try rw [Addr.add_zero'] at hx177_0)
      replace hx177_0 := (HB.out.cell (World.block_lt_of_cell? w _ hx177_0)).trans hx177_0; replace p177 := eq_true p177; replace q177 := eq_true q177; refine start_ (n := 37) (S := fun w' => w'.cell? ⟨gb175, 0, none⟩ = some (.slice A0_0 l0_0.length c0_0) ∧ w'.cell? ⟨gb175, 1, none⟩ = some (.slice A0_1 l0_1.length c0_1) ∧ w'.cell? ⟨gb175, 2, none⟩ = some (.slice (some ad177) l0_2.length c0_2) ∧ w'.cell? ⟨gb175, 3, none⟩ = some (.slice A0_3 l0_3.length c0_3) ∧ w'.cell? ad177 = some (.int .i64 (rd l0_2 0))) (ds := []) (bl 37 0) (by kernel_rfl) rfl rfl ⟨(blk_cell BK175.out 0).trans rfl, (blk_cell BK175.out 1).trans rfl, (blk_cell BK175.out 2).trans rfl, (blk_cell BK175.out 3).trans rfl, ((HB.out.cell (World.block_lt_of_cell? w _ hw177_0)).trans hw177_0)⟩ (fun hHeld => ?_); refine with_tabW table_Check.tab2 table_Check.bits2 (fun HT_ HW_ => ?_); generalize w3.drew = w18 at BK175 HB hx177_0 hHeld ⊢; refine pu_ 0 9 (bl 37 1) HT_ ?_; refine pu_ 2 11 (bl 37 5) HT_ ?_; refine tk5_ 1 10 (bl 37 7) HT_ HW_ hHeld ?_; refine one_ (i := 3) (N := some 12) (bl 37 15) rfl rfl (one_of HT_.out (by kernel_rfl)) (by decide) (fun K hK => ?_); refine goes_ Try.func38 (by kernel_rfl) rfl #[.slice A0_0 l0_0.length c0_0, .int .i64 (l0_1.length : Int)] (by rfl) rfl rfl mO ?_
      with_reducible refine (table_tracks.calls k _ _ l0_0 (l0_1.length : Int) true _ ?s1 ?s2 A5.out).mono ?_
      (case s1 => exact cB HR0_0 HB)
      (case s2 => exact HC0_0.out)
      rintro e w19 ⟨rfl, hb⟩; refine ⟨_, rfl, ?_⟩; replace BK175 := kB BK175 hb; replace HB := hS1 HB GE175 hb
      (try clear hb)
      (try clear hb2)
      (try clear hk)
      (try clear hi)
      refine hK.out _ _ ⟨(blk_cell BK175.out 0).trans rfl, (blk_cell BK175.out 1).trans rfl, (blk_cell BK175.out 2).trans rfl, (blk_cell BK175.out 3).trans rfl, ((HB.out.cell (World.block_lt_of_cell? w _ hw177_0)).trans hw177_0)⟩ (fun hHeld => ?_); clear hK K; refine nm_ 12 ?_; refine pu_ 4 13 (bl 37 31) HT_ ?_; refine pu_ 5 14 (bl 37 63) HT_ ?_; refine pu_ 6 15 (bl 37 127) HT_ ?_; refine pu_ 9 18 (bl 37 639) HT_ ?_; refine pu_ 10 19 (bl 37 1663) HT_ ?_; refine tk5_ 7 16 (bl 37 1791) HT_ HW_ hHeld ?_; refine pu_ 8 17 (bl 37 2047) HT_ ?_; refine pu_ 11 20 (bl 37 4095) HT_ ?_; refine pu_ 12 21 (bl 37 8191) HT_ ?_; refine pu_ 13 22 (bl 37 16383) HT_ ?_; refine pu_ 14 23 (bl 37 32767) HT_ ?_; refine tk5_ 15 24 (bl 37 65535) HT_ HW_ hHeld ?_; refine pu_ 16 25 (bl 37 131071) HT_ ?_; refine tk5_ 17 26 (bl 37 262143) HT_ HW_ hHeld ?_; refine pu_ 18 27 (bl 37 524287) HT_ ?_; refine pu_ 19 28 (bl 37 1048575) HT_ ?_; refine pu_ 20 29 (bl 37 2097151) HT_ ?_; refine pn_ 21 30 (bl 37 4194303) HT_ ?_; refine pn_ 22 31 (bl 37 8388607) HT_ ?_; refine pn_ 23 32 (bl 37 16777215) HT_ ?_; refine pn_ 24 33 (bl 37 33554431) HT_ ?_; refine pn_ 25 34 (bl 37 67108863) HT_ ?_; refine pn_ 26 35 (bl 37 134217727) HT_ ?_; refine pn_ 27 36 (bl 37 268435455) HT_ ?_; refine pn_ 28 37 (bl 37 536870911) HT_ ?_; refine pn_ 29 38 (bl 37 1073741823) HT_ ?_; refine pu_ 30 39 (bl 37 2147483647) HT_ ?_; refine pu_ 31 40 (bl 37 4294967295) HT_ ?_; refine pn_ 32 41 (bl 37 8589934591) HT_ ?_; refine pn_ 33 42 (bl 37 17179869183) HT_ ?_; refine pn_ 34 43 (bl 37 34359738367) HT_ ?_; refine pn_ 35 44 (bl 37 68719476735) HT_ ?_; refine pu_ 36 45 (bl 37 137438953471) HT_ ?_; refine done_ (done_of HT_.out (by kernel_rfl)) ?_
      try go_wp2
      go_meet
      case rel => exact ⟨_, (true), (by first | rfl | (simp; done) | (simp [*]; done)), H', ⟨by first | omega | exact Nat.le_refl _⟩, ⟨kO BK175.out⟩, ⟨bS1 HB.out GE175.out⟩⟩
    ·rw [if_neg c8] at H; exact absurd H (by simp)
   ·rw [if_neg c7] at H; have c7b0 : ((l0_2.length : Int) == (wrap64 ((l0_1.length : Int) + 1))) = false := beq_eq_false_iff_ne.mpr c7; have c7b1 : ((l0_2.length : Int) != (wrap64 ((l0_1.length : Int) + 1))) = true := bne_iff_ne.mpr c7
    (first | rw [c7b0] | (simp only [i64_w, i32_w]; rw [c7b0]) | skip)
    have H' := Aside0.mk H; clear H
    replace BK175 := kD BK175; replace HB := Aside0.mk (below_drew1 HB.out); refine start_ (n := 37) (S := fun w' => w'.cell? ⟨gb175, 0, none⟩ = some (.slice A0_0 l0_0.length c0_0) ∧ w'.cell? ⟨gb175, 1, none⟩ = some (.slice A0_1 l0_1.length c0_1) ∧ w'.cell? ⟨gb175, 2, none⟩ = some (.slice A0_2 l0_2.length c0_2) ∧ w'.cell? ⟨gb175, 3, none⟩ = some (.slice A0_3 l0_3.length c0_3)) (ds := []) (bl 37 0) (by kernel_rfl) rfl rfl (bC4 BK175.out) (fun hHeld => ?_); refine with_tabW table_Check.tab2 table_Check.bits2 (fun HT_ HW_ => ?_); generalize w3.drew = w20 at BK175 HB hHeld ⊢; refine pu_ 0 9 (bl 37 1) HT_ ?_; refine pu_ 2 11 (bl 37 5) HT_ ?_; refine tk4_ 1 10 (bl 37 7) HT_ HW_ hHeld ?_; refine one_ (i := 3) (N := some 12) (bl 37 15) rfl rfl (one_of HT_.out (by kernel_rfl)) (by decide) (fun K hK => ?_); refine goes_ Try.func38 (by kernel_rfl) rfl #[.slice A0_0 l0_0.length c0_0, .int .i64 (l0_1.length : Int)] (by rfl) rfl rfl mO ?_
    with_reducible refine (table_tracks.calls k _ _ l0_0 (l0_1.length : Int) true _ ?s1 ?s2 A5.out).mono ?_
    (case s1 => exact cB HR0_0 HB)
    (case s2 => exact HC0_0.out)
    rintro e w21 ⟨rfl, hb⟩; refine ⟨_, rfl, ?_⟩; replace BK175 := kB BK175 hb; replace HB := hS1 HB GE175 hb
    (try clear hb)
    (try clear hb2)
    (try clear hk)
    (try clear hi)
    refine hK.out _ _ (bC4 BK175.out) (fun hHeld => ?_); clear hK K; refine nm_ 12 ?_; refine pu_ 4 13 (bl 37 31) HT_ ?_; refine pu_ 5 14 (bl 37 63) HT_ ?_; refine pu_ 6 15 (bl 37 127) HT_ ?_; refine pu_ 9 18 (bl 37 639) HT_ ?_; refine pu_ 10 19 (bl 37 1663) HT_ ?_; refine tk4_ 7 16 (bl 37 1791) HT_ HW_ hHeld ?_; refine pu_ 8 17 (bl 37 2047) HT_ ?_; refine pu_ 11 20 (bl 37 4095) HT_ ?_; refine pu_ 12 21 (bl 37 8191) HT_ ?_; refine pu_ 13 22 (bl 37 16383) HT_ ?_; refine pn_ 14 23 (bl 37 32767) HT_ ?_; refine pn_ 15 24 (bl 37 65535) HT_ ?_; refine pn_ 16 25 (bl 37 131071) HT_ ?_; refine pn_ 17 26 (bl 37 262143) HT_ ?_; refine pn_ 18 27 (bl 37 524287) HT_ ?_; refine pu_ 19 28 (bl 37 1048575) HT_ ?_; refine pu_ 20 29 (bl 37 2097151) HT_ ?_; refine pn_ 21 30 (bl 37 4194303) HT_ ?_; refine pn_ 22 31 (bl 37 8388607) HT_ ?_; refine pn_ 23 32 (bl 37 16777215) HT_ ?_; refine pn_ 24 33 (bl 37 33554431) HT_ ?_; refine pn_ 25 34 (bl 37 67108863) HT_ ?_; refine pn_ 26 35 (bl 37 134217727) HT_ ?_; refine pn_ 27 36 (bl 37 268435455) HT_ ?_; refine pn_ 28 37 (bl 37 536870911) HT_ ?_; refine pn_ 29 38 (bl 37 1073741823) HT_ ?_; refine pu_ 30 39 (bl 37 2147483647) HT_ ?_; refine pu_ 31 40 (bl 37 4294967295) HT_ ?_; refine pn_ 32 41 (bl 37 8589934591) HT_ ?_; refine pn_ 33 42 (bl 37 17179869183) HT_ ?_; refine pn_ 34 43 (bl 37 34359738367) HT_ ?_; refine pn_ 35 44 (bl 37 68719476735) HT_ ?_; refine pu_ 36 45 (bl 37 137438953471) HT_ ?_; refine done_ (done_of HT_.out (by kernel_rfl)) ?_
    try go_wp2
    go_meet
    case rel => exact ⟨_, (true), (by first | rfl | (simp; done) | (simp [*]; done)), H', ⟨by first | omega | exact Nat.le_refl _⟩, ⟨kO BK175.out⟩, ⟨bS1 HB.out GE175.out⟩⟩
  ·replace c6 := Bool.eq_false_iff.mpr c6; subst c6
   have H1 : (table_Check.j0 k (l0_1.length : Int) true l0_0 l0_1 l0_2 l0_3) = some r := by rw [if_neg (show ¬ (false = true) by decide)] at H; exact H
   clear H; have H := H1; clear H1; have H' := Aside0.mk H; clear H
   replace BK175 := kD BK175; replace HB := Aside0.mk (below_drew1 HB.out); refine start_ (n := 37) (S := fun w' => w'.cell? ⟨gb175, 0, none⟩ = some (.slice A0_0 l0_0.length c0_0) ∧ w'.cell? ⟨gb175, 1, none⟩ = some (.slice A0_1 l0_1.length c0_1) ∧ w'.cell? ⟨gb175, 2, none⟩ = some (.slice A0_2 l0_2.length c0_2) ∧ w'.cell? ⟨gb175, 3, none⟩ = some (.slice A0_3 l0_3.length c0_3)) (ds := []) (bl 37 0) (by kernel_rfl) rfl rfl (bC4 BK175.out) (fun hHeld => ?_); refine with_tabW table_Check.tab2 table_Check.bits2 (fun HT_ HW_ => ?_); generalize w3.drew = w22 at BK175 HB hHeld ⊢; refine pu_ 0 9 (bl 37 1) HT_ ?_; refine pu_ 2 11 (bl 37 5) HT_ ?_; refine tk4_ 1 10 (bl 37 7) HT_ HW_ hHeld ?_; refine one_ (i := 3) (N := some 12) (bl 37 15) rfl rfl (one_of HT_.out (by kernel_rfl)) (by decide) (fun K hK => ?_); refine goes_ Try.func38 (by kernel_rfl) rfl #[.slice A0_0 l0_0.length c0_0, .int .i64 (l0_1.length : Int)] (by rfl) rfl rfl mO ?_
   with_reducible refine (table_tracks.calls k _ _ l0_0 (l0_1.length : Int) false _ ?s1 ?s2 A5.out).mono ?_
   (case s1 => exact cB HR0_0 HB)
   (case s2 => exact HC0_0.out)
   rintro e w23 ⟨rfl, hb⟩; refine ⟨_, rfl, ?_⟩; replace BK175 := kB BK175 hb; replace HB := hS1 HB GE175 hb
   (try clear hb)
   (try clear hb2)
   (try clear hk)
   (try clear hi)
   refine hK.out _ _ (bC4 BK175.out) (fun hHeld => ?_); clear hK K; refine nm_ 12 ?_; refine pu_ 4 13 (bl 37 31) HT_ ?_; refine pu_ 5 14 (bl 37 63) HT_ ?_; refine pn_ 6 15 (bl 37 127) HT_ ?_; refine pn_ 7 16 (bl 37 255) HT_ ?_; refine pn_ 8 17 (bl 37 511) HT_ ?_; refine pn_ 9 18 (bl 37 1023) HT_ ?_; refine pn_ 10 19 (bl 37 2047) HT_ ?_; refine pn_ 11 20 (bl 37 4095) HT_ ?_; refine pu_ 12 21 (bl 37 8191) HT_ ?_; refine pu_ 13 22 (bl 37 16383) HT_ ?_; refine pn_ 14 23 (bl 37 32767) HT_ ?_; refine pn_ 15 24 (bl 37 65535) HT_ ?_; refine pn_ 16 25 (bl 37 131071) HT_ ?_; refine pn_ 17 26 (bl 37 262143) HT_ ?_; refine pn_ 18 27 (bl 37 524287) HT_ ?_; refine pu_ 19 28 (bl 37 1048575) HT_ ?_; refine pu_ 20 29 (bl 37 2097151) HT_ ?_; refine pn_ 21 30 (bl 37 4194303) HT_ ?_; refine pn_ 22 31 (bl 37 8388607) HT_ ?_; refine pn_ 23 32 (bl 37 16777215) HT_ ?_; refine pn_ 24 33 (bl 37 33554431) HT_ ?_; refine pn_ 25 34 (bl 37 67108863) HT_ ?_; refine pn_ 26 35 (bl 37 134217727) HT_ ?_; refine pn_ 27 36 (bl 37 268435455) HT_ ?_; refine pn_ 28 37 (bl 37 536870911) HT_ ?_; refine pn_ 29 38 (bl 37 1073741823) HT_ ?_; refine pu_ 30 39 (bl 37 2147483647) HT_ ?_; refine pu_ 31 40 (bl 37 4294967295) HT_ ?_; refine pn_ 32 41 (bl 37 8589934591) HT_ ?_; refine pn_ 33 42 (bl 37 17179869183) HT_ ?_; refine pn_ 34 43 (bl 37 34359738367) HT_ ?_; refine pn_ 35 44 (bl 37 68719476735) HT_ ?_; refine pu_ 36 45 (bl 37 137438953471) HT_ ?_; refine done_ (done_of HT_.out (by kernel_rfl)) ?_
   try go_wp2
   go_meet
   case rel => exact ⟨_, (true), (by first | rfl | (simp; done) | (simp [*]; done)), H', ⟨by first | omega | exact Nat.le_refl _⟩, ⟨kO BK175.out⟩, ⟨bS1 HB.out GE175.out⟩⟩
 case rest =>
  clear HC2
  try clear p2
  try clear c3
  try clear c6
  try clear p6
  try clear c7
  try clear c7b0
  try clear c7b1
  try clear c8
  obtain ⟨kq, x45_1, rfl, HA, HJ1, BK175, HB⟩ := hcut; cases kq with
  | zero => exact absurd HA.out (by simp [table_Check.j0])
  | succ kj1 =>
   have H := HA.out; clear HA; simp only [table_Check.j0] at H
   by_cases c24 : x45_1 = true
   ·subst c24
    have H1 : (some 3) = some r := by rw [if_pos rfl] at H; exact H
    clear H; have H := H1; clear H1; obtain rfl := Option.some.inj H
    go_wp2
    go_ret
    exact ⟨eW, bS1 HB.out GE175.out⟩
   ·replace c24 := Bool.eq_false_iff.mpr c24; subst c24
    have H1 : (table_Check.l0 kj1 (l0_1.length : Int) (l0_1.length : Int) 0 l0_0 l0_1 l0_2 l0_3) = some r := by rw [if_neg (show ¬ (false = true) by decide)] at H; exact H
    clear H; have H := H1; clear H1; have H' := Aside0.mk H; clear H
    go_wp2
    go_loopg [47] kj1 (fun kq v47 w' => ∃ (x47_2 : Int), v47 = .int .i64 x47_2 ∧ Aside0 (table_Check.l0 kq (l0_1.length : Int) (l0_1.length : Int) x47_2 l0_0 l0_1 l0_2 l0_3 = some r) ∧ Aside0 (kq ≤ kj1) ∧ Aside0 (w'.heap[gb175]? = some (.cells #[(.slice A0_0 l0_0.length c0_0), (.slice A0_1 l0_1.length c0_1), (.slice A0_2 l0_2.length c0_2), (.slice A0_3 l0_3.length c0_3)] 32 (0, 0))) ∧ Aside0 (Below w.heap.size w w'))
    case atStart => exact ⟨(0), (by first | rfl | (simp; done) | (simp [*]; done)), H', ⟨Nat.le_refl _⟩, ⟨kO BK175.out⟩, ⟨bS1 HB.out GE175.out⟩⟩
    case round =>
     clear H'
     try clear c2
     try clear p2
     try clear c3
     try clear c6
     try clear p6
     try clear c7
     try clear c7b0
     try clear c7b1
     try clear c8
     try clear c24
     try clear p2
     try clear p6
     obtain ⟨x47_2, rfl, HA, HK2, BK175, HB⟩ := hrel; cases gk with
     | zero => exact absurd HA.out (by simp [table_Check.l0])
     | succ k2 =>
      have H := HA.out; clear HA; simp only [table_Check.l0] at H
      by_cases c25 : x47_2 < (l0_1.length : Int)
      ·rw [if_pos c25] at H; have c25b0 : decide (x47_2 < (l0_1.length : Int)) = true := decide_eq_true c25; clear c25; replace H := Option.bind_eq_some_iff.mp H; obtain ⟨t180, A260, H⟩ := H; replace H : (if (t180.length : Int) > 32 then (some 3) else ((row_Right.f k2 t180 (l0_0.length : Int) (l0_1.length : Int)).bind fun t183 => (if t183 = true then (table_Check.l0 k2 (l0_1.length : Int) (l0_1.length : Int) (wrap64 (x47_2 + 1)) l0_0 l0_1 l0_2 l0_3) else (some 3)))) = some r := H; have A26 := Aside0.mk A260; clear A260
       by_cases c27 : (t180.length : Int) > 32
       ·rw [if_pos c27] at H; have c27b0 : decide (32 < (t180.length : Int)) = true := decide_eq_true c27; have c27b1 : decide (32 < t180.length) = true := decide_eq_true (by omega); clear c27; obtain rfl := Option.some.inj H; obtain ⟨hcz28_0, hcz28_1, hcz28_2, hcz28_3, hfz28_0, hfz28_1, hfz28_2, hfz28_3⟩ := bF4 BK175.out
        go_wp2_with (first | ((with_reducible refine gate_callee (f := 48) rfl ?_); refine goesL_ (some 52) rfl rfl Try.func48 (by kernel_rfl) rfl #[.agg #[.slice A0_0 l0_0.length c0_0, .slice A0_1 l0_1.length c0_1, .slice A0_2 l0_2.length c0_2, .slice A0_3 l0_3.length c0_3], .int .i64 x47_2] rfl mO ?_; (with_reducible refine (table_rowOf.calls _ _ l0_0 _ _ l0_1 _ _ l0_2 (fun k_ => k_ < w.heap.size) _ _ l0_3 x47_2 t180 _ ?s1 ?s2 ?s3 ?s4 ?s5 ?s6 ?s7 A26.out).mono ?_); (case s1 => exact cB HR0_0 HB); (case s2 => exact HC0_0.out); (case s3 => exact cB HR0_1 HB); (case s4 => exact HC0_1.out); (case s5 => exact cB HR0_2 HB); (case s6 => exact HC0_2.out); (case s7 => exact Kd.V_mk HC0_3.out (Kd.F_below (Kd.C_F k58_heap HR0_3.out) (bS1 HB.out GE175.out))); rintro e w29 ⟨v181, rfl, ho0, hb⟩; refine ⟨_, rfl, ?_⟩; have HO182 := Aside0.mk (Kd.V_lower (Kd.V_mono (ok' := fun k_ => k_ ≠ gb175) ho0 (fun k_ hk_ => Or.elim hk_ (fun hs_ => fun e_ => Nat.not_le.2 hs_ (by rw [e_]; exact GW175.out)) (fun hn_ => (Kd.freshB (g := gb175) (o := .cells #[.slice A0_0 l0_0.length c0_0, .slice A0_1 l0_1.length c0_1, .slice A0_2 l0_2.length c0_2, .slice A0_3 l0_3.length c0_3] 32 (0, 0)) (kO BK175.out) k_ hn_)))) (below_size (bS1 HB.out GE175.out))); replace BK175 := kB BK175 hb; replace HB := hS1 HB GE175 hb; (try clear hb); (try clear hb2); (try clear hk); (try clear hi); (try clear ho0); obtain ⟨Ao30, co30, eo30⟩ := Kd.V_slice HO182.out; subst eo30))
        go_ret
        exact ⟨eW, bS1 HB.out GE175.out⟩
       ·rw [if_neg c27] at H; have c27b0 : decide (32 < (t180.length : Int)) = false := decide_eq_false c27; have c27b1 : decide (32 < t180.length) = false := decide_eq_false (by omega); clear c27; replace H := Option.bind_eq_some_iff.mp H; obtain ⟨t183, A310, H⟩ := H; replace H : (if t183 = true then (table_Check.l0 k2 (l0_1.length : Int) (l0_1.length : Int) (wrap64 (x47_2 + 1)) l0_0 l0_1 l0_2 l0_3) else (some 3)) = some r := H; have A31 := Aside0.mk A310; clear A310
        by_cases c32 : t183 = true
        ·subst c32
         have H1 : (table_Check.l0 k2 (l0_1.length : Int) (l0_1.length : Int) (wrap64 (x47_2 + 1)) l0_0 l0_1 l0_2 l0_3) = some r := by rw [if_pos rfl] at H; exact H
         clear H; have H := H1; clear H1; have H' := Aside0.mk H; clear H; obtain ⟨hcz33_0, hcz33_1, hcz33_2, hcz33_3, hfz33_0, hfz33_1, hfz33_2, hfz33_3⟩ := bF4 BK175.out
         go_wp2_with (first | ((with_reducible refine gate_callee (f := 48) rfl ?_); refine goesL_ (some 52) rfl rfl Try.func48 (by kernel_rfl) rfl #[.agg #[.slice A0_0 l0_0.length c0_0, .slice A0_1 l0_1.length c0_1, .slice A0_2 l0_2.length c0_2, .slice A0_3 l0_3.length c0_3], .int .i64 x47_2] rfl mO ?_; (with_reducible refine (table_rowOf.calls _ _ l0_0 _ _ l0_1 _ _ l0_2 (fun k_ => k_ < w.heap.size) _ _ l0_3 x47_2 t180 _ ?s1 ?s2 ?s3 ?s4 ?s5 ?s6 ?s7 A26.out).mono ?_); (case s1 => exact cB HR0_0 HB); (case s2 => exact HC0_0.out); (case s3 => exact cB HR0_1 HB); (case s4 => exact HC0_1.out); (case s5 => exact cB HR0_2 HB); (case s6 => exact HC0_2.out); (case s7 => exact Kd.V_mk HC0_3.out (Kd.F_below (Kd.C_F k58_heap HR0_3.out) (bS1 HB.out GE175.out))); rintro e w34 ⟨v181, rfl, ho0, hb⟩; refine ⟨_, rfl, ?_⟩; have HO182 := Aside0.mk (Kd.V_lower (Kd.V_mono (ok' := fun k_ => k_ ≠ gb175) ho0 (fun k_ hk_ => Or.elim hk_ (fun hs_ => fun e_ => Nat.not_le.2 hs_ (by rw [e_]; exact GW175.out)) (fun hn_ => (Kd.freshB (g := gb175) (o := .cells #[.slice A0_0 l0_0.length c0_0, .slice A0_1 l0_1.length c0_1, .slice A0_2 l0_2.length c0_2, .slice A0_3 l0_3.length c0_3] 32 (0, 0)) (kO BK175.out) k_ hn_)))) (below_size (bS1 HB.out GE175.out))); replace BK175 := kB BK175 hb; replace HB := hS1 HB GE175 hb; (try clear hb); (try clear hb2); (try clear hk); (try clear hi); (try clear ho0); obtain ⟨Ao35, co35, eo35⟩ := Kd.V_slice HO182.out; subst eo35; obtain ⟨hcz36_0, hcz36_1, hcz36_2, hcz36_3, hfz36_0, hfz36_1, hfz36_2, hfz36_3⟩ := bF4 BK175.out) | (go_at_call 55; (with_reducible refine (row_Right.calls k2 _ _ t180 (l0_0.length : Int) (l0_1.length : Int) true _ ?s1 ?s2 A31.out).mono ?_); (case s1 => exact cO (Kd.V_reads' HO182.out).2.2); (case s2 => exact (Kd.V_reads' HO182.out).2.1); rintro e w37 ⟨rfl, hb⟩; replace HO182 := Aside0.mk (Kd.V_below (vO HO182.out) hb); replace BK175 := kB BK175 hb; replace HB := hS1 HB GE175 hb; (try clear hb); (try clear hb2); (try clear hk); (try clear hi)))
         go_roundg k2
         case measure => have := HJ1.out; have := HK2.out; omega
         case rel => exact ⟨(wrap64 (x47_2 + 1)), (by first | rfl | (simp; done) | (simp [*]; done)), H', ⟨by have := HJ1.out; have := HK2.out; omega⟩, ⟨kO BK175.out⟩, ⟨bS1 HB.out GE175.out⟩⟩
        ·replace c32 := Bool.eq_false_iff.mpr c32; subst c32
         have H1 : (some 3) = some r := by rw [if_neg (show ¬ (false = true) by decide)] at H; exact H
         clear H; have H := H1; clear H1; obtain rfl := Option.some.inj H; obtain ⟨hcz38_0, hcz38_1, hcz38_2, hcz38_3, hfz38_0, hfz38_1, hfz38_2, hfz38_3⟩ := bF4 BK175.out
         go_wp2_with (first | ((with_reducible refine gate_callee (f := 48) rfl ?_); refine goesL_ (some 52) rfl rfl Try.func48 (by kernel_rfl) rfl #[.agg #[.slice A0_0 l0_0.length c0_0, .slice A0_1 l0_1.length c0_1, .slice A0_2 l0_2.length c0_2, .slice A0_3 l0_3.length c0_3], .int .i64 x47_2] rfl mO ?_; (with_reducible refine (table_rowOf.calls _ _ l0_0 _ _ l0_1 _ _ l0_2 (fun k_ => k_ < w.heap.size) _ _ l0_3 x47_2 t180 _ ?s1 ?s2 ?s3 ?s4 ?s5 ?s6 ?s7 A26.out).mono ?_); (case s1 => exact cB HR0_0 HB); (case s2 => exact HC0_0.out); (case s3 => exact cB HR0_1 HB); (case s4 => exact HC0_1.out); (case s5 => exact cB HR0_2 HB); (case s6 => exact HC0_2.out); (case s7 => exact Kd.V_mk HC0_3.out (Kd.F_below (Kd.C_F k58_heap HR0_3.out) (bS1 HB.out GE175.out))); rintro e w39 ⟨v181, rfl, ho0, hb⟩; refine ⟨_, rfl, ?_⟩; have HO182 := Aside0.mk (Kd.V_lower (Kd.V_mono (ok' := fun k_ => k_ ≠ gb175) ho0 (fun k_ hk_ => Or.elim hk_ (fun hs_ => fun e_ => Nat.not_le.2 hs_ (by rw [e_]; exact GW175.out)) (fun hn_ => (Kd.freshB (g := gb175) (o := .cells #[.slice A0_0 l0_0.length c0_0, .slice A0_1 l0_1.length c0_1, .slice A0_2 l0_2.length c0_2, .slice A0_3 l0_3.length c0_3] 32 (0, 0)) (kO BK175.out) k_ hn_)))) (below_size (bS1 HB.out GE175.out))); replace BK175 := kB BK175 hb; replace HB := hS1 HB GE175 hb; (try clear hb); (try clear hb2); (try clear hk); (try clear hi); (try clear ho0); obtain ⟨Ao40, co40, eo40⟩ := Kd.V_slice HO182.out; subst eo40; obtain ⟨hcz41_0, hcz41_1, hcz41_2, hcz41_3, hfz41_0, hfz41_1, hfz41_2, hfz41_3⟩ := bF4 BK175.out) | (go_at_call 55; (with_reducible refine (row_Right.calls k2 _ _ t180 (l0_0.length : Int) (l0_1.length : Int) false _ ?s1 ?s2 A31.out).mono ?_); (case s1 => exact cO (Kd.V_reads' HO182.out).2.2); (case s2 => exact (Kd.V_reads' HO182.out).2.1); rintro e w42 ⟨rfl, hb⟩; replace HO182 := Aside0.mk (Kd.V_below (vO HO182.out) hb); replace BK175 := kB BK175 hb; replace HB := hS1 HB GE175 hb; (try clear hb); (try clear hb2); (try clear hk); (try clear hi)))
         go_ret
         exact ⟨eW, bS1 HB.out GE175.out⟩
      ·rw [if_neg c25] at H; have c25b0 : decide (x47_2 < (l0_1.length : Int)) = false := decide_eq_false c25; clear c25; obtain rfl := Option.some.inj H
       go_wp2
       go_ret
       exact ⟨eW, bS1 HB.out GE175.out⟩

end Go.Proofs.Ytghfclgcgecgdaa.X

/- What the functions of this seat compute, and that the program's calls come to just that: written by this session's own program out of the translation; no condition. -/
import Derived.Test.YtghfclgcgecgdaaX0
import Derived.Test.YtghfclgcgecgdaaX1
import Derived.Test.YtghfclgcgecgdaaX11
namespace Go.Proofs.Ytghfclgcgecgdaa.X
open Go.RowKit Go.Proofs.YtghfclgcgecgdaaW.PrintWords Go.Proofs.YtghfclgcgecgdaaW.PrintLast Go.Proofs.YtghfclgcgecgdaaW.PrintMore
attribute [local go_sem] max2_int min2_int max_two min_two max_three min_three max_four min_four
set_option linter.unusedVariables false
set_option linter.unusedSimpArgs false

/-! ### table_Check: function 29 -/
mutual
def table_Check.j0 : Nat → Int → Bool → List ByteArray → List Bool → List Int → List (S58) → Option (Int)
 | 0, _, _, _, _, _, _ => none
 | k + 1, x3, x45, x176000, x176001, x176002, x176003 => if x45 = true then (some 3) else (table_Check.l0 k x3 x3 0 x176000 x176001 x176002 x176003)
def table_Check.l0 : Nat → Int → Int → Int → List ByteArray → List Bool → List Int → List (S58) → Option (Int)
 | 0, _, _, _, _, _, _, _ => none
 | k + 1, x3, x46, x47, x176000, x176001, x176002, x176003 => if x47 < x46 then ((table_rowOf.f x176000 x176001 x176002 x176003 x47).bind fun t180 => (if (t180.length : Int) > 32 then (some 3) else ((row_Right.f k t180 (x176000.length : Int) x3).bind fun t183 => (if t183 = true then (table_Check.l0 k x3 x46 (wrap64 (x47 + 1)) x176000 x176001 x176002 x176003) else (some 3))))) else (some 0)
end
def table_Check.f (k : Nat) (l0_0 : List ByteArray) (l0_1 : List Bool) (l0_2 : List Int) (l0_3 : List (S58)) : Option (Int) := (table_tracks.f k l0_0 (l0_1.length : Int)).bind fun t176 => (if t176 = true then (if (l0_2.length : Int) = (wrap64 ((l0_1.length : Int) + 1)) then (if 0 < (l0_2.length : Int) then (if (rd l0_2 0) = 0 then (if 0 ≤ (l0_1.length : Int) then (if (l0_1.length : Int) < (l0_2.length : Int) then (if (rd l0_2 (l0_1.length : Int)) = (l0_3.length : Int) then ((slices_IsSorted_int_int.f k l0_2).bind fun t179 => (table_Check.j0 k (l0_1.length : Int) (!t179) l0_0 l0_1 l0_2 l0_3)) else (table_Check.j0 k (l0_1.length : Int) true l0_0 l0_1 l0_2 l0_3)) else (none)) else (none)) else (table_Check.j0 k (l0_1.length : Int) true l0_0 l0_1 l0_2 l0_3)) else (none)) else (table_Check.j0 k (l0_1.length : Int) true l0_0 l0_1 l0_2 l0_3)) else (table_Check.j0 k (l0_1.length : Int) true l0_0 l0_1 l0_2 l0_3))
theorem table_Check.mono_l : ∀ k, (∀ y0 y1 y2 y3 y4 y5, LeO (table_Check.j0 k y0 y1 y2 y3 y4 y5) (table_Check.j0 (k + 1) y0 y1 y2 y3 y4 y5)) ∧ (∀ y0 y1 y2 y3 y4 y5 y6, LeO (table_Check.l0 k y0 y1 y2 y3 y4 y5 y6) (table_Check.l0 (k + 1) y0 y1 y2 y3 y4 y5 y6))
 | 0 => ⟨fun _ _ _ _ _ _ r h => by simp [table_Check.j0] at h, fun _ _ _ _ _ _ _ r h => by simp [table_Check.l0] at h⟩
 | k + 1 => by
  obtain ⟨ih0, ih1⟩ := table_Check.mono_l k; refine ⟨?_, ?_⟩
  ·intro y0 y1 y2 y3 y4 y5
   unfold table_Check.j0
   repeat' first | (with_reducible first | exact ih0 _ _ _ _ _ _ | exact ih1 _ _ _ _ _ _ _ | exact row_Right.mono _ _ _ _ | exact slices_IsSorted_int_int.mono _ _ | exact table_tracks.mono _ _ _ | exact lA | apply lI | refine lB ?_ fun _ => ?_) | exact lN _ | apply lI | refine lB ?_ fun _ => ?_
  ·intro y0 y1 y2 y3 y4 y5 y6
   unfold table_Check.l0
   repeat' first | (with_reducible first | exact ih0 _ _ _ _ _ _ | exact ih1 _ _ _ _ _ _ _ | exact row_Right.mono _ _ _ _ | exact slices_IsSorted_int_int.mono _ _ | exact table_tracks.mono _ _ _ | exact lA | apply lI | refine lB ?_ fun _ => ?_) | exact lN _ | apply lI | refine lB ?_ fun _ => ?_
theorem table_Check.mono : ∀ a0 a1 a2 a3 k, LeO (table_Check.f k a0 a1 a2 a3) (table_Check.f (k + 1) a0 a1 a2 a3) := by
 intro a0 a1 a2 a3 k; obtain ⟨ih0, ih1⟩ := table_Check.mono_l k
 unfold table_Check.f
 repeat' first | (with_reducible first | exact ih0 _ _ _ _ _ _ | exact ih1 _ _ _ _ _ _ _ | exact row_Right.mono _ _ _ _ | exact slices_IsSorted_int_int.mono _ _ | exact table_tracks.mono _ _ _ | exact lA | apply lI | refine lB ?_ fun _ => ?_) | exact lN _ | apply lI | refine lB ?_ fun _ => ?_
def table_Check.T2 : Bool × List (List Nat × List Nat) := (true, [([], []), ([0], [0]), ([], []), ([1, 2], [1, 2]), ([3], [3]), ([4, 3], [4]), ([5], [5]), ([6, 5], [5, 6]), ([7, 5], [5, 7]), ([5], [5]), ([9, 5], [5, 9]), ([8, 10, 5], [5, 8, 10]), ([5, 11], [5, 11]), ([12, 5], [12]), ([13], [13]), ([14, 13], [13, 14]), ([15, 13], [13, 15]), ([16, 13], [13, 16]), ([17, 13], [13, 17]), ([13, 18], [13, 18]), ([19, 13], [19]), ([20], [20]), ([21, 20], [20, 21]), ([20], [20]), ([22, 23, 20], [20, 22, 23]), ([24, 20], [20, 24]), ([20], [20]), ([26, 20], [20, 26]), ([27, 20], [20, 27]), ([25, 28, 20], [20, 25, 28]), ([20, 29], [20, 29]), ([30, 20], [30]), ([31], [31]), ([32, 31], [31, 32]), ([33, 31, 31], [31, 33]), ([34, 31], [31, 34]), ([31, 35], [31, 35])])
def table_Check.B2 : List Nat := [0, 1, 0, 7, 15, 31, 63, 127, 255, 63, 575, 2047, 4095, 8191, 16383, 32767, 65535, 131071, 262143, 524287, 1048575, 2097151, 4194303, 2097151, 16777215, 33554431, 2097151, 69206015, 203423743, 536870911, 1073741823, 2147483647, 4294967295, 8589934591, 17179869183, 34359738367, 68719476735]
theorem table_Check.tab2 : rtab .any (opsOf Try.f29 2) = table_Check.T2 := by kernel_rfl
theorem table_Check.bits2 : waitsOk table_Check.T2.2 table_Check.B2 = true := by kernel_rfl
set_option maxHeartbeats 8000000 in
set_option maxRecDepth 100000 in
theorem table_Check.calls (k : Nat) (A0_0 : Option Addr) (c0_0 : Nat) (l0_0 : List ByteArray) (A0_1 : Option Addr) (c0_1 : Nat) (l0_1 : List Bool) (A0_2 : Option Addr) (c0_2 : Nat) (l0_2 : List Int) (A0_3 : Option Addr) (c0_3 : Nat) (l0_3 : List (S58)) (r : Int) (w : World) (hr0_0 : Kd.C Kd.string w A0_0 l0_0.length l0_0) (hc0_0 : l0_0.length ≤ c0_0) (hr0_1 : Kd.C Kd.bool w A0_1 l0_1.length l0_1) (hc0_1 : l0_1.length ≤ c0_1) (hr0_2 : Kd.C (Kd.int .i64) w A0_2 l0_2.length l0_2) (hc0_2 : l0_2.length ≤ c0_2) (hr0_3 : Kd.C k58 w A0_3 l0_3.length l0_3) (hc0_3 : l0_3.length ≤ c0_3) (h : table_Check.f k l0_0 l0_1 l0_2 l0_3 = some r) :
  Calls Try.prog 29 #[.agg #[.slice A0_0 l0_0.length c0_0, .slice A0_1 l0_1.length c0_1, .slice A0_2 l0_2.length c0_2, .slice A0_3 l0_3.length c0_3]] w fun e w' => e = .returned (.int .i64 r) ∧ Below w.heap.size w w' := by
 have hu32 := Try.underlying32; have HR0_0 := Aside0.mk hr0_0; have HC0_0 := Aside0.mk hc0_0; clear hr0_0 hc0_0; have HR0_1 := Aside0.mk hr0_1; have HC0_1 := Aside0.mk hc0_1; clear hr0_1 hc0_1; have HR0_2 := Aside0.mk hr0_2; have HC0_2 := Aside0.mk hc0_2; clear hr0_2 hc0_2; have HR0_3 := Aside0.mk hr0_3; have HC0_3 := Aside0.mk hc0_3; clear hr0_3 hc0_3; have HB := Aside0.mk (Below.refl w.heap.size w); have H : ((table_tracks.f k l0_0 (l0_1.length : Int)).bind fun t176 => (if t176 = true then (if (l0_2.length : Int) = (wrap64 ((l0_1.length : Int) + 1)) then (if 0 < (l0_2.length : Int) then (if (rd l0_2 0) = 0 then (if 0 ≤ (l0_1.length : Int) then (if (l0_1.length : Int) < (l0_2.length : Int) then (if (rd l0_2 (l0_1.length : Int)) = (l0_3.length : Int) then ((slices_IsSorted_int_int.f k l0_2).bind fun t179 => (table_Check.j0 k (l0_1.length : Int) (!t179) l0_0 l0_1 l0_2 l0_3)) else (table_Check.j0 k (l0_1.length : Int) true l0_0 l0_1 l0_2 l0_3)) else (none)) else (none)) else (table_Check.j0 k (l0_1.length : Int) true l0_0 l0_1 l0_2 l0_3)) else (none)) else (table_Check.j0 k (l0_1.length : Int) true l0_0 l0_1 l0_2 l0_3)) else (table_Check.j0 k (l0_1.length : Int) true l0_0 l0_1 l0_2 l0_3))) = some r := h; clear h; have HC2 := Aside0.mk H; clear H
 go_enter Try.func29, Try.ntmps29
 go_upto_region 2 with (first | ((with_reducible refine gate_dst (N := 1) rfl ?_); (try (refine gate_guard (by rfl) ?_; dsimp only)); refine be_ (cs := #[.slice A0_0 l0_0.length c0_0, .slice A0_1 l0_1.length c0_1, .slice A0_2 l0_2.length c0_2, .slice A0_3 l0_3.length c0_3]) (t := 32) ?_; intro gb175 hg w3 hbox hb; have BK175 := Aside0.mk (hbox); have GW175 := gE hg (bO HB.out); have GE175 := gE hg (bO HB.out); replace HB := hS0 HB hb; clear hb hbox hg; obtain ⟨hcz4_0, hcz4_1, hcz4_2, hcz4_3, hfz4_0, hfz4_1, hfz4_2, hfz4_3⟩ := bF4 BK175.out))
 (try simp only [Act.put, sA, sB, sC])
 go_cut [45] (fun v45 wc => ∃ (kq : Nat) (x45_1 : Bool), v45 = .bool x45_1 ∧ Aside0 (table_Check.j0 kq (l0_1.length : Int) x45_1 l0_0 l0_1 l0_2 l0_3 = some r) ∧ Aside0 (kq ≤ k) ∧ Aside0 (wc.heap[gb175]? = some (.cells #[(.slice A0_0 l0_0.length c0_0), (.slice A0_1 l0_1.length c0_1), (.slice A0_2 l0_2.length c0_2), (.slice A0_3 l0_3.length c0_3)] 32 (0, 0))) ∧ Aside0 (Below w.heap.size w wc))
 case first =>
  have H := HC2.out; clear HC2; replace H := Option.bind_eq_some_iff.mp H; obtain ⟨t176, A50, H⟩ := H; replace H : (if t176 = true then (if (l0_2.length : Int) = (wrap64 ((l0_1.length : Int) + 1)) then (if 0 < (l0_2.length : Int) then (if (rd l0_2 0) = 0 then (if 0 ≤ (l0_1.length : Int) then (if (l0_1.length : Int) < (l0_2.length : Int) then (if (rd l0_2 (l0_1.length : Int)) = (l0_3.length : Int) then ((slices_IsSorted_int_int.f k l0_2).bind fun t179 => (table_Check.j0 k (l0_1.length : Int) (!t179) l0_0 l0_1 l0_2 l0_3)) else (table_Check.j0 k (l0_1.length : Int) true l0_0 l0_1 l0_2 l0_3)) else (none)) else (none)) else (table_Check.j0 k (l0_1.length : Int) true l0_0 l0_1 l0_2 l0_3)) else (none)) else (table_Check.j0 k (l0_1.length : Int) true l0_0 l0_1 l0_2 l0_3)) else (table_Check.j0 k (l0_1.length : Int) true l0_0 l0_1 l0_2 l0_3)) = some r := H; have A5 := Aside0.mk A50; clear A50
  by_cases c6 : t176 = true
  ·subst c6
   have H1 : (if (l0_2.length : Int) = (wrap64 ((l0_1.length : Int) + 1)) then (if 0 < (l0_2.length : Int) then (if (rd l0_2 0) = 0 then (if 0 ≤ (l0_1.length : Int) then (if (l0_1.length : Int) < (l0_2.length : Int) then (if (rd l0_2 (l0_1.length : Int)) = (l0_3.length : Int) then ((slices_IsSorted_int_int.f k l0_2).bind fun t179 => (table_Check.j0 k (l0_1.length : Int) (!t179) l0_0 l0_1 l0_2 l0_3)) else (table_Check.j0 k (l0_1.length : Int) true l0_0 l0_1 l0_2 l0_3)) else (none)) else (none)) else (table_Check.j0 k (l0_1.length : Int) true l0_0 l0_1 l0_2 l0_3)) else (none)) else (table_Check.j0 k (l0_1.length : Int) true l0_0 l0_1 l0_2 l0_3)) = some r := by rw [if_pos rfl] at H; exact H
   clear H; have H := H1; clear H1
   by_cases c7 : (l0_2.length : Int) = (wrap64 ((l0_1.length : Int) + 1))
   ·rw [if_pos c7] at H; obtain ⟨c7b0, c7b1⟩ := bq c7; clear c7
    (first | rw [c7b0] | (simp only [i64_w, i32_w]; rw [c7b0]) | skip)
    by_cases c8 : 0 < (l0_2.length : Int)
    ·rw [if_pos c8] at H; have c8b0 := decide_eq_true c8; have c8b1 : decide (0 < l0_2.length) = true := decide_eq_true (by omega); clear c8
     by_cases c9 : (rd l0_2 0) = 0
     ·rw [if_pos c9] at H; obtain ⟨c9b0, c9b1⟩ := bq c9; clear c9
      by_cases c10 : 0 ≤ (l0_1.length : Int)
      ·rw [if_pos c10] at H; have c10b0 := decide_eq_true c10; have c10b1 : decide (0 ≤ l0_1.length) = true := decide_eq_true (by omega); clear c10
       by_cases c11 : (l0_1.length : Int) < (l0_2.length : Int)
       ·rw [if_pos c11] at H; have c11b0 := decide_eq_true c11; have c11b1 : decide (l0_1.length < l0_2.length) = true := decide_eq_true (Int.ofNat_lt.mp c11); clear c11
        by_cases c12 : (rd l0_2 (l0_1.length : Int)) = (l0_3.length : Int)
        ·rw [if_pos c12] at H; obtain ⟨c12b0, c12b1⟩ := bq c12; clear c12; replace H := Option.bind_eq_some_iff.mp H; obtain ⟨t179, A130, H⟩ := H; replace H : (table_Check.j0 k (l0_1.length : Int) (!t179) l0_0 l0_1 l0_2 l0_3) = some r := H; have A13 := Aside0.mk A130; clear A130; have H' := Aside0.mk H; clear H
         replace BK175 := kD BK175; replace HB := Aside0.mk (below_drew1 HB.out); have p177 : 0 ≤ (0 : Int) := (by omega); have q177 : 0 < (l0_2.length : Int) := of_decide_eq_true aO; obtain ⟨ad177, e177, hx177_0⟩ := Kd.at_int HR0_2.out 0 p177 q177; have hw177_0 := hx177_0
         (try rw [show ((0 : Int)).toNat = 0 from rfl] at hw177_0)
         (try rw [show 0 * 1 = 0 from rfl] at hw177_0)
         (try rw [Addr.add_zero'] at hw177_0)
         cases e177; have qi177 : (0 < l0_2.length) = True := eq_true (by omega)
         (try rw [show ((0 : Int)).toNat = 0 from rfl] at hx177_0)
         (try rw [Addr.add_zero'] at hx177_0)
         replace hx177_0 := cX HB hx177_0; replace p177 := eq_true p177; replace q177 := eq_true q177; have p178 : 0 ≤ ((l0_1.length : Int) : Int) := of_decide_eq_true aO; have q178 : (l0_1.length : Int) < (l0_2.length : Int) := of_decide_eq_true aO; obtain ⟨ad178, e178, hx178_0⟩ := Kd.at_int HR0_2.out (l0_1.length : Int) p178 q178; have hw178_0 := hx178_0; have he_ : ad177 = ad178 := (by injection e178); subst he_; replace hx178_0 := cX HB hx178_0
         (try simp only [Go.IntWalk.toNatUp] at hx178_0)
         replace p178 := eq_true p178; replace q178 := eq_true q178; refine start_ (n := 37) (S := fun w' => w'.cell? ⟨gb175, 0, none⟩ = some (.slice A0_0 l0_0.length c0_0) ∧ w'.cell? ⟨gb175, 1, none⟩ = some (.slice A0_1 l0_1.length c0_1) ∧ w'.cell? ⟨gb175, 2, none⟩ = some (.slice (some ad177) l0_2.length c0_2) ∧ w'.cell? ⟨gb175, 3, none⟩ = some (.slice A0_3 l0_3.length c0_3) ∧ w'.cell? ad177 = some (.int .i64 (rd l0_2 0)) ∧ w'.cell? (ad177.add l0_1.length) = some (.int .i64 (rd l0_2 (l0_1.length : Int)))) (ds := []) (bl 37 0) (by kernel_rfl) rfl rfl ⟨(blk_cell BK175.out 0).trans rfl, (blk_cell BK175.out 1).trans rfl, (blk_cell BK175.out 2).trans rfl, (blk_cell BK175.out 3).trans rfl, ((HB.out.cell (World.block_lt_of_cell? w _ hw177_0)).trans hw177_0), ((HB.out.cell (World.block_lt_of_cell? w _ hw178_0)).trans hw178_0)⟩ (fun hHeld => ?_); refine with_tabW table_Check.tab2 table_Check.bits2 (fun HT_ HW_ => ?_); generalize w3.drew = w14 at BK175 HB hx177_0 hx178_0 hHeld ⊢; refine pu_ 0 9 (bl 37 1) HT_ ?_; refine pu_ 2 11 (bl 37 5) HT_ ?_; refine tk6_ 1 10 (bl 37 7) HT_ HW_ hHeld ?_; refine one_ (i := 3) (N := some 12) (bl 37 15) rfl rfl (one_of HT_.out (by kernel_rfl)) (by decide) (fun K hK => ?_); refine gS_ Try.func38 #[.slice A0_0 l0_0.length c0_0, .int .i64 (l0_1.length : Int)] ?_
         with_reducible refine (table_tracks.calls k _ _ l0_0 (l0_1.length : Int) true _ ?s1 ?s2 A5.out).mono ?_
         (case s1 => exact cB HR0_0 HB)
         (case s2 => exact HC0_0.out)
         rintro e w15 ⟨rfl, hb⟩; refine ⟨_, rfl, ?_⟩; replace BK175 := kB BK175 hb; replace HB := hS1 HB GE175 hb
         (try clear hb)
         (try clear hb2)
         (try clear hk)
         (try clear hi)
         refine hK.out _ _ ⟨(blk_cell BK175.out 0).trans rfl, (blk_cell BK175.out 1).trans rfl, (blk_cell BK175.out 2).trans rfl, (blk_cell BK175.out 3).trans rfl, ((HB.out.cell (World.block_lt_of_cell? w _ hw177_0)).trans hw177_0), ((HB.out.cell (World.block_lt_of_cell? w _ hw178_0)).trans hw178_0)⟩ (fun hHeld => ?_); clear hK K; refine nm_ 12 ?_; refine pu_ 4 13 (bl 37 31) HT_ ?_; refine pu_ 5 14 (bl 37 63) HT_ ?_; refine pu_ 6 15 (bl 37 127) HT_ ?_; refine pu_ 9 18 (bl 37 639) HT_ ?_; refine pu_ 10 19 (bl 37 1663) HT_ ?_; refine tk6_ 7 16 (bl 37 1791) HT_ HW_ hHeld ?_; refine pu_ 8 17 (bl 37 2047) HT_ ?_; refine pu_ 11 20 (bl 37 4095) HT_ ?_; refine pu_ 12 21 (bl 37 8191) HT_ ?_; refine pu_ 13 22 (bl 37 16383) HT_ ?_; refine pu_ 14 23 (bl 37 32767) HT_ ?_; refine tk6_ 15 24 (bl 37 65535) HT_ HW_ hHeld ?_; refine pu_ 16 25 (bl 37 131071) HT_ ?_; refine tk6_ 17 26 (bl 37 262143) HT_ HW_ hHeld ?_; refine pu_ 18 27 (bl 37 524287) HT_ ?_; refine pu_ 19 28 (bl 37 1048575) HT_ ?_; refine pu_ 20 29 (bl 37 2097151) HT_ ?_; refine pu_ 21 30 (bl 37 4194303) HT_ ?_; refine pu_ 23 32 (bl 37 12582911) HT_ ?_; refine pu_ 26 35 (bl 37 79691775) HT_ ?_; refine tk6_ 22 31 (bl 37 83886079) HT_ HW_ hHeld ?_; refine pu_ 24 33 (bl 37 100663295) HT_ ?_; refine tk6_ 25 34 (bl 37 134217727) HT_ HW_ hHeld ?_; refine tk6_ 27 36 (bl 37 268435455) HT_ HW_ hHeld ?_; refine pu_ 28 37 (bl 37 536870911) HT_ ?_; refine pu_ 29 38 (bl 37 1073741823) HT_ ?_; refine pu_ 30 39 (bl 37 2147483647) HT_ ?_; refine pu_ 31 40 (bl 37 4294967295) HT_ ?_; refine pu_ 32 41 (bl 37 8589934591) HT_ ?_; refine tk6_ 33 42 (bl 37 17179869183) HT_ HW_ hHeld ?_; refine one_ (i := 34) (N := some 43) (bl 37 34359738367) rfl rfl (one_of HT_.out (by kernel_rfl)) (by decide) (fun K hK => ?_); refine gS_ Try.func54 #[.slice (some ad177) l0_2.length c0_2] ?_
         with_reducible refine (slices_IsSorted_int_int.calls k _ _ l0_2 t179 _ ?s1 ?s2 A13.out).mono ?_
         (case s1 => exact cB HR0_2 HB)
         (case s2 => exact HC0_2.out)
         rintro e w' ⟨rfl, ⟨nd, rfl⟩⟩; refine ⟨_, rfl, ?_⟩; refine hK.out _ _ ⟨(blk_cell BK175.out 0).trans rfl, (blk_cell BK175.out 1).trans rfl, (blk_cell BK175.out 2).trans rfl, (blk_cell BK175.out 3).trans rfl, ((HB.out.cell (World.block_lt_of_cell? w _ hw177_0)).trans hw177_0), ((HB.out.cell (World.block_lt_of_cell? w _ hw178_0)).trans hw178_0)⟩ (fun hHeld => ?_); clear hK K; refine nm_ 43 ?_; refine pu_ 35 44 (bl 37 68719476735) HT_ ?_; refine pu_ 36 45 (bl 37 137438953471) HT_ ?_; refine done_ (done_of HT_.out (by kernel_rfl)) ?_
         try go_wp2
         go_meet
         case rel => exact ⟨_, (!t179), sI, H', ⟨by first | omega | exact Nat.le_refl _⟩, ⟨kO BK175.out⟩, ⟨bS1 HB.out GE175.out⟩⟩
        ·rw [if_neg c12] at H; obtain ⟨c12b0, c12b1⟩ := bn c12; have H' := Aside0.mk H; clear H
         replace BK175 := kD BK175; replace HB := Aside0.mk (below_drew1 HB.out); have p177 : 0 ≤ (0 : Int) := (by omega); have q177 : 0 < (l0_2.length : Int) := of_decide_eq_true aO; obtain ⟨ad177, e177, hx177_0⟩ := Kd.at_int HR0_2.out 0 p177 q177; have hw177_0 := hx177_0
         (try rw [show ((0 : Int)).toNat = 0 from rfl] at hw177_0)
         (try rw [show 0 * 1 = 0 from rfl] at hw177_0)
         (try rw [Addr.add_zero'] at hw177_0)
         cases e177; have qi177 : (0 < l0_2.length) = True := eq_true (by omega)
         (try rw [show ((0 : Int)).toNat = 0 from rfl] at hx177_0)
         (try rw [Addr.add_zero'] at hx177_0)
         replace hx177_0 := cX HB hx177_0; replace p177 := eq_true p177; replace q177 := eq_true q177; have p178 : 0 ≤ ((l0_1.length : Int) : Int) := of_decide_eq_true aO; have q178 : (l0_1.length : Int) < (l0_2.length : Int) := of_decide_eq_true aO; obtain ⟨ad178, e178, hx178_0⟩ := Kd.at_int HR0_2.out (l0_1.length : Int) p178 q178; have hw178_0 := hx178_0; have he_ : ad177 = ad178 := (by injection e178); subst he_; replace hx178_0 := cX HB hx178_0
         (try simp only [Go.IntWalk.toNatUp] at hx178_0)
         replace p178 := eq_true p178; replace q178 := eq_true q178; refine start_ (n := 37) (S := fun w' => w'.cell? ⟨gb175, 0, none⟩ = some (.slice A0_0 l0_0.length c0_0) ∧ w'.cell? ⟨gb175, 1, none⟩ = some (.slice A0_1 l0_1.length c0_1) ∧ w'.cell? ⟨gb175, 2, none⟩ = some (.slice (some ad177) l0_2.length c0_2) ∧ w'.cell? ⟨gb175, 3, none⟩ = some (.slice A0_3 l0_3.length c0_3) ∧ w'.cell? ad177 = some (.int .i64 (rd l0_2 0)) ∧ w'.cell? (ad177.add l0_1.length) = some (.int .i64 (rd l0_2 (l0_1.length : Int)))) (ds := []) (bl 37 0) (by kernel_rfl) rfl rfl ⟨(blk_cell BK175.out 0).trans rfl, (blk_cell BK175.out 1).trans rfl, (blk_cell BK175.out 2).trans rfl, (blk_cell BK175.out 3).trans rfl, ((HB.out.cell (World.block_lt_of_cell? w _ hw177_0)).trans hw177_0), ((HB.out.cell (World.block_lt_of_cell? w _ hw178_0)).trans hw178_0)⟩ (fun hHeld => ?_); refine with_tabW table_Check.tab2 table_Check.bits2 (fun HT_ HW_ => ?_); generalize w3.drew = w16 at BK175 HB hx177_0 hx178_0 hHeld ⊢; refine pu_ 0 9 (bl 37 1) HT_ ?_; refine pu_ 2 11 (bl 37 5) HT_ ?_; refine tk6_ 1 10 (bl 37 7) HT_ HW_ hHeld ?_; refine one_ (i := 3) (N := some 12) (bl 37 15) rfl rfl (one_of HT_.out (by kernel_rfl)) (by decide) (fun K hK => ?_); refine gS_ Try.func38 #[.slice A0_0 l0_0.length c0_0, .int .i64 (l0_1.length : Int)] ?_
         with_reducible refine (table_tracks.calls k _ _ l0_0 (l0_1.length : Int) true _ ?s1 ?s2 A5.out).mono ?_
         (case s1 => exact cB HR0_0 HB)
         (case s2 => exact HC0_0.out)
         rintro e w17 ⟨rfl, hb⟩; refine ⟨_, rfl, ?_⟩; replace BK175 := kB BK175 hb; replace HB := hS1 HB GE175 hb
         (try clear hb)
         (try clear hb2)
         (try clear hk)
         (try clear hi)
         refine hK.out _ _ ⟨(blk_cell BK175.out 0).trans rfl, (blk_cell BK175.out 1).trans rfl, (blk_cell BK175.out 2).trans rfl, (blk_cell BK175.out 3).trans rfl, ((HB.out.cell (World.block_lt_of_cell? w _ hw177_0)).trans hw177_0), ((HB.out.cell (World.block_lt_of_cell? w _ hw178_0)).trans hw178_0)⟩ (fun hHeld => ?_); clear hK K; refine nm_ 12 ?_; refine pu_ 4 13 (bl 37 31) HT_ ?_; refine pu_ 5 14 (bl 37 63) HT_ ?_; refine pu_ 6 15 (bl 37 127) HT_ ?_; refine pu_ 9 18 (bl 37 639) HT_ ?_; refine pu_ 10 19 (bl 37 1663) HT_ ?_; refine tk6_ 7 16 (bl 37 1791) HT_ HW_ hHeld ?_; refine pu_ 8 17 (bl 37 2047) HT_ ?_; refine pu_ 11 20 (bl 37 4095) HT_ ?_; refine pu_ 12 21 (bl 37 8191) HT_ ?_; refine pu_ 13 22 (bl 37 16383) HT_ ?_; refine pu_ 14 23 (bl 37 32767) HT_ ?_; refine tk6_ 15 24 (bl 37 65535) HT_ HW_ hHeld ?_; refine pu_ 16 25 (bl 37 131071) HT_ ?_; refine tk6_ 17 26 (bl 37 262143) HT_ HW_ hHeld ?_; refine pu_ 18 27 (bl 37 524287) HT_ ?_; refine pu_ 19 28 (bl 37 1048575) HT_ ?_; refine pu_ 20 29 (bl 37 2097151) HT_ ?_; refine pu_ 21 30 (bl 37 4194303) HT_ ?_; refine pu_ 23 32 (bl 37 12582911) HT_ ?_; refine pu_ 26 35 (bl 37 79691775) HT_ ?_; refine tk6_ 22 31 (bl 37 83886079) HT_ HW_ hHeld ?_; refine pu_ 24 33 (bl 37 100663295) HT_ ?_; refine tk6_ 25 34 (bl 37 134217727) HT_ HW_ hHeld ?_; refine tk6_ 27 36 (bl 37 268435455) HT_ HW_ hHeld ?_; refine pu_ 28 37 (bl 37 536870911) HT_ ?_; refine pu_ 29 38 (bl 37 1073741823) HT_ ?_; refine pu_ 30 39 (bl 37 2147483647) HT_ ?_; refine pu_ 31 40 (bl 37 4294967295) HT_ ?_; refine pn_ 32 41 (bl 37 8589934591) HT_ ?_; refine pn_ 33 42 (bl 37 17179869183) HT_ ?_; refine pn_ 34 43 (bl 37 34359738367) HT_ ?_; refine pn_ 35 44 (bl 37 68719476735) HT_ ?_; refine pu_ 36 45 (bl 37 137438953471) HT_ ?_; refine done_ (done_of HT_.out (by kernel_rfl)) ?_
         try go_wp2
         go_meet
         case rel => exact ⟨_, (true), sI, H', ⟨by first | omega | exact Nat.le_refl _⟩, ⟨kO BK175.out⟩, ⟨bS1 HB.out GE175.out⟩⟩
       ·rw [if_neg c11] at H; exact absurd H (by simp)
      ·rw [if_neg c10] at H; exact absurd H (by simp)
     ·rw [if_neg c9] at H; obtain ⟨c9b0, c9b1⟩ := bn c9; have H' := Aside0.mk H; clear H
      replace BK175 := kD BK175; replace HB := Aside0.mk (below_drew1 HB.out); have p177 : 0 ≤ (0 : Int) := (by omega); have q177 : 0 < (l0_2.length : Int) := of_decide_eq_true aO; obtain ⟨ad177, e177, hx177_0⟩ := Kd.at_int HR0_2.out 0 p177 q177; have hw177_0 := hx177_0
      (try rw [show ((0 : Int)).toNat = 0 from rfl] at hw177_0)
      (try rw [show 0 * 1 = 0 from rfl] at hw177_0)
      (try rw [Addr.add_zero'] at hw177_0)
      cases e177; have qi177 : (0 < l0_2.length) = True := eq_true (by omega)
      (try rw [show ((0 : Int)).toNat = 0 from rfl] at hx177_0)
      (try rw [Addr.add_zero'] at hx177_0)
      replace hx177_0 := cX HB hx177_0; replace p177 := eq_true p177; replace q177 := eq_true q177; refine start_ (n := 37) (S := fun w' => w'.cell? ⟨gb175, 0, none⟩ = some (.slice A0_0 l0_0.length c0_0) ∧ w'.cell? ⟨gb175, 1, none⟩ = some (.slice A0_1 l0_1.length c0_1) ∧ w'.cell? ⟨gb175, 2, none⟩ = some (.slice (some ad177) l0_2.length c0_2) ∧ w'.cell? ⟨gb175, 3, none⟩ = some (.slice A0_3 l0_3.length c0_3) ∧ w'.cell? ad177 = some (.int .i64 (rd l0_2 0))) (ds := []) (bl 37 0) (by kernel_rfl) rfl rfl ⟨(blk_cell BK175.out 0).trans rfl, (blk_cell BK175.out 1).trans rfl, (blk_cell BK175.out 2).trans rfl, (blk_cell BK175.out 3).trans rfl, ((HB.out.cell (World.block_lt_of_cell? w _ hw177_0)).trans hw177_0)⟩ (fun hHeld => ?_); refine with_tabW table_Check.tab2 table_Check.bits2 (fun HT_ HW_ => ?_); generalize w3.drew = w18 at BK175 HB hx177_0 hHeld ⊢; refine pu_ 0 9 (bl 37 1) HT_ ?_; refine pu_ 2 11 (bl 37 5) HT_ ?_; refine tk5_ 1 10 (bl 37 7) HT_ HW_ hHeld ?_; refine one_ (i := 3) (N := some 12) (bl 37 15) rfl rfl (one_of HT_.out (by kernel_rfl)) (by decide) (fun K hK => ?_); refine gS_ Try.func38 #[.slice A0_0 l0_0.length c0_0, .int .i64 (l0_1.length : Int)] ?_
      with_reducible refine (table_tracks.calls k _ _ l0_0 (l0_1.length : Int) true _ ?s1 ?s2 A5.out).mono ?_
      (case s1 => exact cB HR0_0 HB)
      (case s2 => exact HC0_0.out)
      rintro e w19 ⟨rfl, hb⟩; refine ⟨_, rfl, ?_⟩; replace BK175 := kB BK175 hb; replace HB := hS1 HB GE175 hb
      (try clear hb)
      (try clear hb2)
      (try clear hk)
      (try clear hi)
      refine hK.out _ _ ⟨(blk_cell BK175.out 0).trans rfl, (blk_cell BK175.out 1).trans rfl, (blk_cell BK175.out 2).trans rfl, (blk_cell BK175.out 3).trans rfl, ((HB.out.cell (World.block_lt_of_cell? w _ hw177_0)).trans hw177_0)⟩ (fun hHeld => ?_); clear hK K; refine nm_ 12 ?_; refine pu_ 4 13 (bl 37 31) HT_ ?_; refine pu_ 5 14 (bl 37 63) HT_ ?_; refine pu_ 6 15 (bl 37 127) HT_ ?_; refine pu_ 9 18 (bl 37 639) HT_ ?_; refine pu_ 10 19 (bl 37 1663) HT_ ?_; refine tk5_ 7 16 (bl 37 1791) HT_ HW_ hHeld ?_; refine pu_ 8 17 (bl 37 2047) HT_ ?_; refine pu_ 11 20 (bl 37 4095) HT_ ?_; refine pu_ 12 21 (bl 37 8191) HT_ ?_; refine pu_ 13 22 (bl 37 16383) HT_ ?_; refine pu_ 14 23 (bl 37 32767) HT_ ?_; refine tk5_ 15 24 (bl 37 65535) HT_ HW_ hHeld ?_; refine pu_ 16 25 (bl 37 131071) HT_ ?_; refine tk5_ 17 26 (bl 37 262143) HT_ HW_ hHeld ?_; refine pu_ 18 27 (bl 37 524287) HT_ ?_; refine pu_ 19 28 (bl 37 1048575) HT_ ?_; refine pu_ 20 29 (bl 37 2097151) HT_ ?_; refine pn_ 21 30 (bl 37 4194303) HT_ ?_; refine pn_ 22 31 (bl 37 8388607) HT_ ?_; refine pn_ 23 32 (bl 37 16777215) HT_ ?_; refine pn_ 24 33 (bl 37 33554431) HT_ ?_; refine pn_ 25 34 (bl 37 67108863) HT_ ?_; refine pn_ 26 35 (bl 37 134217727) HT_ ?_; refine pn_ 27 36 (bl 37 268435455) HT_ ?_; refine pn_ 28 37 (bl 37 536870911) HT_ ?_; refine pn_ 29 38 (bl 37 1073741823) HT_ ?_; refine pu_ 30 39 (bl 37 2147483647) HT_ ?_; refine pu_ 31 40 (bl 37 4294967295) HT_ ?_; refine pn_ 32 41 (bl 37 8589934591) HT_ ?_; refine pn_ 33 42 (bl 37 17179869183) HT_ ?_; refine pn_ 34 43 (bl 37 34359738367) HT_ ?_; refine pn_ 35 44 (bl 37 68719476735) HT_ ?_; refine pu_ 36 45 (bl 37 137438953471) HT_ ?_; refine done_ (done_of HT_.out (by kernel_rfl)) ?_
      try go_wp2
      go_meet
      case rel => exact ⟨_, (true), sI, H', ⟨by first | omega | exact Nat.le_refl _⟩, ⟨kO BK175.out⟩, ⟨bS1 HB.out GE175.out⟩⟩
    ·rw [if_neg c8] at H; exact absurd H (by simp)
   ·rw [if_neg c7] at H; obtain ⟨c7b0, c7b1⟩ := bn c7
    (first | rw [c7b0] | (simp only [i64_w, i32_w]; rw [c7b0]) | skip)
    have H' := Aside0.mk H; clear H
    replace BK175 := kD BK175; replace HB := Aside0.mk (below_drew1 HB.out); refine start_ (n := 37) (S := fun w' => w'.cell? ⟨gb175, 0, none⟩ = some (.slice A0_0 l0_0.length c0_0) ∧ w'.cell? ⟨gb175, 1, none⟩ = some (.slice A0_1 l0_1.length c0_1) ∧ w'.cell? ⟨gb175, 2, none⟩ = some (.slice A0_2 l0_2.length c0_2) ∧ w'.cell? ⟨gb175, 3, none⟩ = some (.slice A0_3 l0_3.length c0_3)) (ds := []) (bl 37 0) (by kernel_rfl) rfl rfl (bC4 BK175.out) (fun hHeld => ?_); refine with_tabW table_Check.tab2 table_Check.bits2 (fun HT_ HW_ => ?_); generalize w3.drew = w20 at BK175 HB hHeld ⊢; refine pu_ 0 9 (bl 37 1) HT_ ?_; refine pu_ 2 11 (bl 37 5) HT_ ?_; refine tk4_ 1 10 (bl 37 7) HT_ HW_ hHeld ?_; refine one_ (i := 3) (N := some 12) (bl 37 15) rfl rfl (one_of HT_.out (by kernel_rfl)) (by decide) (fun K hK => ?_); refine gS_ Try.func38 #[.slice A0_0 l0_0.length c0_0, .int .i64 (l0_1.length : Int)] ?_
    with_reducible refine (table_tracks.calls k _ _ l0_0 (l0_1.length : Int) true _ ?s1 ?s2 A5.out).mono ?_
    (case s1 => exact cB HR0_0 HB)
    (case s2 => exact HC0_0.out)
    rintro e w21 ⟨rfl, hb⟩; refine ⟨_, rfl, ?_⟩; replace BK175 := kB BK175 hb; replace HB := hS1 HB GE175 hb
    (try clear hb)
    (try clear hb2)
    (try clear hk)
    (try clear hi)
    refine hK.out _ _ (bC4 BK175.out) (fun hHeld => ?_); clear hK K; refine nm_ 12 ?_; refine pu_ 4 13 (bl 37 31) HT_ ?_; refine pu_ 5 14 (bl 37 63) HT_ ?_; refine pu_ 6 15 (bl 37 127) HT_ ?_; refine pu_ 9 18 (bl 37 639) HT_ ?_; refine pu_ 10 19 (bl 37 1663) HT_ ?_; refine tk4_ 7 16 (bl 37 1791) HT_ HW_ hHeld ?_; refine pu_ 8 17 (bl 37 2047) HT_ ?_; refine pu_ 11 20 (bl 37 4095) HT_ ?_; refine pu_ 12 21 (bl 37 8191) HT_ ?_; refine pu_ 13 22 (bl 37 16383) HT_ ?_; refine pn_ 14 23 (bl 37 32767) HT_ ?_; refine pn_ 15 24 (bl 37 65535) HT_ ?_; refine pn_ 16 25 (bl 37 131071) HT_ ?_; refine pn_ 17 26 (bl 37 262143) HT_ ?_; refine pn_ 18 27 (bl 37 524287) HT_ ?_; refine pu_ 19 28 (bl 37 1048575) HT_ ?_; refine pu_ 20 29 (bl 37 2097151) HT_ ?_; refine pn_ 21 30 (bl 37 4194303) HT_ ?_; refine pn_ 22 31 (bl 37 8388607) HT_ ?_; refine pn_ 23 32 (bl 37 16777215) HT_ ?_; refine pn_ 24 33 (bl 37 33554431) HT_ ?_; refine pn_ 25 34 (bl 37 67108863) HT_ ?_; refine pn_ 26 35 (bl 37 134217727) HT_ ?_; refine pn_ 27 36 (bl 37 268435455) HT_ ?_; refine pn_ 28 37 (bl 37 536870911) HT_ ?_; refine pn_ 29 38 (bl 37 1073741823) HT_ ?_; refine pu_ 30 39 (bl 37 2147483647) HT_ ?_; refine pu_ 31 40 (bl 37 4294967295) HT_ ?_; refine pn_ 32 41 (bl 37 8589934591) HT_ ?_; refine pn_ 33 42 (bl 37 17179869183) HT_ ?_; refine pn_ 34 43 (bl 37 34359738367) HT_ ?_; refine pn_ 35 44 (bl 37 68719476735) HT_ ?_; refine pu_ 36 45 (bl 37 137438953471) HT_ ?_; refine done_ (done_of HT_.out (by kernel_rfl)) ?_
    try go_wp2
    go_meet
    case rel => exact ⟨_, (true), sI, H', ⟨by first | omega | exact Nat.le_refl _⟩, ⟨kO BK175.out⟩, ⟨bS1 HB.out GE175.out⟩⟩
  ·replace c6 := Bool.eq_false_iff.mpr c6; subst c6
   have H1 : (table_Check.j0 k (l0_1.length : Int) true l0_0 l0_1 l0_2 l0_3) = some r := by rw [if_neg (show ¬ (false = true) by decide)] at H; exact H
   clear H; have H := H1; clear H1; have H' := Aside0.mk H; clear H
   replace BK175 := kD BK175; replace HB := Aside0.mk (below_drew1 HB.out); refine start_ (n := 37) (S := fun w' => w'.cell? ⟨gb175, 0, none⟩ = some (.slice A0_0 l0_0.length c0_0) ∧ w'.cell? ⟨gb175, 1, none⟩ = some (.slice A0_1 l0_1.length c0_1) ∧ w'.cell? ⟨gb175, 2, none⟩ = some (.slice A0_2 l0_2.length c0_2) ∧ w'.cell? ⟨gb175, 3, none⟩ = some (.slice A0_3 l0_3.length c0_3)) (ds := []) (bl 37 0) (by kernel_rfl) rfl rfl (bC4 BK175.out) (fun hHeld => ?_); refine with_tabW table_Check.tab2 table_Check.bits2 (fun HT_ HW_ => ?_); generalize w3.drew = w22 at BK175 HB hHeld ⊢; refine pu_ 0 9 (bl 37 1) HT_ ?_; refine pu_ 2 11 (bl 37 5) HT_ ?_; refine tk4_ 1 10 (bl 37 7) HT_ HW_ hHeld ?_; refine one_ (i := 3) (N := some 12) (bl 37 15) rfl rfl (one_of HT_.out (by kernel_rfl)) (by decide) (fun K hK => ?_); refine gS_ Try.func38 #[.slice A0_0 l0_0.length c0_0, .int .i64 (l0_1.length : Int)] ?_
   with_reducible refine (table_tracks.calls k _ _ l0_0 (l0_1.length : Int) false _ ?s1 ?s2 A5.out).mono ?_
   (case s1 => exact cB HR0_0 HB)
   (case s2 => exact HC0_0.out)
   rintro e w23 ⟨rfl, hb⟩; refine ⟨_, rfl, ?_⟩; replace BK175 := kB BK175 hb; replace HB := hS1 HB GE175 hb
   (try clear hb)
   (try clear hb2)
   (try clear hk)
   (try clear hi)
   refine hK.out _ _ (bC4 BK175.out) (fun hHeld => ?_); clear hK K; refine nm_ 12 ?_; refine pu_ 4 13 (bl 37 31) HT_ ?_; refine pu_ 5 14 (bl 37 63) HT_ ?_; refine pn_ 6 15 (bl 37 127) HT_ ?_; refine pn_ 7 16 (bl 37 255) HT_ ?_; refine pn_ 8 17 (bl 37 511) HT_ ?_; refine pn_ 9 18 (bl 37 1023) HT_ ?_; refine pn_ 10 19 (bl 37 2047) HT_ ?_; refine pn_ 11 20 (bl 37 4095) HT_ ?_; refine pu_ 12 21 (bl 37 8191) HT_ ?_; refine pu_ 13 22 (bl 37 16383) HT_ ?_; refine pn_ 14 23 (bl 37 32767) HT_ ?_; refine pn_ 15 24 (bl 37 65535) HT_ ?_; refine pn_ 16 25 (bl 37 131071) HT_ ?_; refine pn_ 17 26 (bl 37 262143) HT_ ?_; refine pn_ 18 27 (bl 37 524287) HT_ ?_; refine pu_ 19 28 (bl 37 1048575) HT_ ?_; refine pu_ 20 29 (bl 37 2097151) HT_ ?_; refine pn_ 21 30 (bl 37 4194303) HT_ ?_; refine pn_ 22 31 (bl 37 8388607) HT_ ?_; refine pn_ 23 32 (bl 37 16777215) HT_ ?_; refine pn_ 24 33 (bl 37 33554431) HT_ ?_; refine pn_ 25 34 (bl 37 67108863) HT_ ?_; refine pn_ 26 35 (bl 37 134217727) HT_ ?_; refine pn_ 27 36 (bl 37 268435455) HT_ ?_; refine pn_ 28 37 (bl 37 536870911) HT_ ?_; refine pn_ 29 38 (bl 37 1073741823) HT_ ?_; refine pu_ 30 39 (bl 37 2147483647) HT_ ?_; refine pu_ 31 40 (bl 37 4294967295) HT_ ?_; refine pn_ 32 41 (bl 37 8589934591) HT_ ?_; refine pn_ 33 42 (bl 37 17179869183) HT_ ?_; refine pn_ 34 43 (bl 37 34359738367) HT_ ?_; refine pn_ 35 44 (bl 37 68719476735) HT_ ?_; refine pu_ 36 45 (bl 37 137438953471) HT_ ?_; refine done_ (done_of HT_.out (by kernel_rfl)) ?_
   try go_wp2
   go_meet
   case rel => exact ⟨_, (true), sI, H', ⟨by first | omega | exact Nat.le_refl _⟩, ⟨kO BK175.out⟩, ⟨bS1 HB.out GE175.out⟩⟩
 case rest =>
  clear HC2
  try clear p2
  try clear c3
  try clear c6
  try clear p6
  try clear c7
  try clear c7b0
  try clear c7b1
  try clear c8
  obtain ⟨kq, x45_1, rfl, HA, HJ1, BK175, HB⟩ := hcut; cases kq with
  | zero => exact absurd HA.out (by simp [table_Check.j0])
  | succ kj1 =>
   have H := HA.out; clear HA; simp only [table_Check.j0] at H
   by_cases c24 : x45_1 = true
   ·subst c24
    have H1 : (some 3) = some r := by rw [if_pos rfl] at H; exact H
    clear H; have H := H1; clear H1; obtain rfl := Option.some.inj H
    go_wp2
    go_ret
    exact ⟨eW, bS1 HB.out GE175.out⟩
   ·replace c24 := Bool.eq_false_iff.mpr c24; subst c24
    have H1 : (table_Check.l0 kj1 (l0_1.length : Int) (l0_1.length : Int) 0 l0_0 l0_1 l0_2 l0_3) = some r := by rw [if_neg (show ¬ (false = true) by decide)] at H; exact H
    clear H; have H := H1; clear H1; have H' := Aside0.mk H; clear H
    go_wp2
    go_loopg [47] kj1 (fun kq v47 w' => ∃ (x47_2 : Int), v47 = .int .i64 x47_2 ∧ Aside0 (table_Check.l0 kq (l0_1.length : Int) (l0_1.length : Int) x47_2 l0_0 l0_1 l0_2 l0_3 = some r) ∧ Aside0 (kq ≤ kj1) ∧ Aside0 (w'.heap[gb175]? = some (.cells #[(.slice A0_0 l0_0.length c0_0), (.slice A0_1 l0_1.length c0_1), (.slice A0_2 l0_2.length c0_2), (.slice A0_3 l0_3.length c0_3)] 32 (0, 0))) ∧ Aside0 (Below w.heap.size w w'))
    case atStart => exact ⟨(0), sI, H', ⟨Nat.le_refl _⟩, ⟨kO BK175.out⟩, ⟨bS1 HB.out GE175.out⟩⟩
    case round =>
     clear H'
     try clear c2
     try clear p2
     try clear c3
     try clear c6
     try clear p6
     try clear c7
     try clear c7b0
     try clear c7b1
     try clear c8
     try clear c24
     try clear p2
     try clear p6
     obtain ⟨x47_2, rfl, HA, HK2, BK175, HB⟩ := hrel; cases gk with
     | zero => exact absurd HA.out (by simp [table_Check.l0])
     | succ k2 =>
      have H := HA.out; clear HA; simp only [table_Check.l0] at H
      by_cases c25 : x47_2 < (l0_1.length : Int)
      ·rw [if_pos c25] at H; have c25b0 := decide_eq_true c25; clear c25; replace H := Option.bind_eq_some_iff.mp H; obtain ⟨t180, A260, H⟩ := H; replace H : (if (t180.length : Int) > 32 then (some 3) else ((row_Right.f k2 t180 (l0_0.length : Int) (l0_1.length : Int)).bind fun t183 => (if t183 = true then (table_Check.l0 k2 (l0_1.length : Int) (l0_1.length : Int) (wrap64 (x47_2 + 1)) l0_0 l0_1 l0_2 l0_3) else (some 3)))) = some r := H; have A26 := Aside0.mk A260; clear A260
       by_cases c27 : (t180.length : Int) > 32
       ·rw [if_pos c27] at H; have c27b0 := decide_eq_true c27; have c27b1 : decide (32 < t180.length) = true := decide_eq_true (by omega); clear c27; obtain rfl := Option.some.inj H; obtain ⟨hcz28_0, hcz28_1, hcz28_2, hcz28_3, hfz28_0, hfz28_1, hfz28_2, hfz28_3⟩ := bF4 BK175.out
        go_wp2_with (first | ((with_reducible refine gate_callee (f := 48) rfl ?_); refine gL_ (some 52) Try.func48 #[.agg #[.slice A0_0 l0_0.length c0_0, .slice A0_1 l0_1.length c0_1, .slice A0_2 l0_2.length c0_2, .slice A0_3 l0_3.length c0_3], .int .i64 x47_2] ?_; (with_reducible refine (table_rowOf.calls _ _ l0_0 _ _ l0_1 _ _ l0_2 (fun k_ => k_ < w.heap.size) _ _ l0_3 x47_2 t180 _ ?s1 ?s2 ?s3 ?s4 ?s5 ?s6 ?s7 A26.out).mono ?_); (case s1 => exact cB HR0_0 HB); (case s2 => exact HC0_0.out); (case s3 => exact cB HR0_1 HB); (case s4 => exact HC0_1.out); (case s5 => exact cB HR0_2 HB); (case s6 => exact HC0_2.out); (case s7 => exact Kd.V_mk HC0_3.out (Kd.F_below (Kd.C_F k58_heap HR0_3.out) (bS1 HB.out GE175.out))); rintro e w29 ⟨v181, rfl, ho0, hb⟩; refine ⟨_, rfl, ?_⟩; have HO182 := Aside0.mk (Kd.V_lower (Kd.V_mono (ok' := fun k_ => k_ ≠ gb175) ho0 (fun k_ hk_ => Or.elim hk_ (fun hs_ => fun e_ => Nat.not_le.2 hs_ (by rw [e_]; exact GW175.out)) (fun hn_ => (Kd.freshB (g := gb175) (o := .cells #[.slice A0_0 l0_0.length c0_0, .slice A0_1 l0_1.length c0_1, .slice A0_2 l0_2.length c0_2, .slice A0_3 l0_3.length c0_3] 32 (0, 0)) (kO BK175.out) k_ hn_)))) (below_size (bS1 HB.out GE175.out))); replace BK175 := kB BK175 hb; replace HB := hS1 HB GE175 hb; (try clear hb); (try clear hb2); (try clear hk); (try clear hi); (try clear ho0); obtain ⟨Ao30, co30, eo30⟩ := Kd.V_slice HO182.out; subst eo30))
        go_ret
        exact ⟨eW, bS1 HB.out GE175.out⟩
       ·rw [if_neg c27] at H; have c27b0 := decide_eq_false c27; have c27b1 : decide (32 < t180.length) = false := decide_eq_false (by omega); clear c27; replace H := Option.bind_eq_some_iff.mp H; obtain ⟨t183, A310, H⟩ := H; replace H : (if t183 = true then (table_Check.l0 k2 (l0_1.length : Int) (l0_1.length : Int) (wrap64 (x47_2 + 1)) l0_0 l0_1 l0_2 l0_3) else (some 3)) = some r := H; have A31 := Aside0.mk A310; clear A310
        by_cases c32 : t183 = true
        ·subst c32
         have H1 : (table_Check.l0 k2 (l0_1.length : Int) (l0_1.length : Int) (wrap64 (x47_2 + 1)) l0_0 l0_1 l0_2 l0_3) = some r := by rw [if_pos rfl] at H; exact H
         clear H; have H := H1; clear H1; have H' := Aside0.mk H; clear H; obtain ⟨hcz33_0, hcz33_1, hcz33_2, hcz33_3, hfz33_0, hfz33_1, hfz33_2, hfz33_3⟩ := bF4 BK175.out
         go_wp2_with (first | ((with_reducible refine gate_callee (f := 48) rfl ?_); refine gL_ (some 52) Try.func48 #[.agg #[.slice A0_0 l0_0.length c0_0, .slice A0_1 l0_1.length c0_1, .slice A0_2 l0_2.length c0_2, .slice A0_3 l0_3.length c0_3], .int .i64 x47_2] ?_; (with_reducible refine (table_rowOf.calls _ _ l0_0 _ _ l0_1 _ _ l0_2 (fun k_ => k_ < w.heap.size) _ _ l0_3 x47_2 t180 _ ?s1 ?s2 ?s3 ?s4 ?s5 ?s6 ?s7 A26.out).mono ?_); (case s1 => exact cB HR0_0 HB); (case s2 => exact HC0_0.out); (case s3 => exact cB HR0_1 HB); (case s4 => exact HC0_1.out); (case s5 => exact cB HR0_2 HB); (case s6 => exact HC0_2.out); (case s7 => exact Kd.V_mk HC0_3.out (Kd.F_below (Kd.C_F k58_heap HR0_3.out) (bS1 HB.out GE175.out))); rintro e w34 ⟨v181, rfl, ho0, hb⟩; refine ⟨_, rfl, ?_⟩; have HO182 := Aside0.mk (Kd.V_lower (Kd.V_mono (ok' := fun k_ => k_ ≠ gb175) ho0 (fun k_ hk_ => Or.elim hk_ (fun hs_ => fun e_ => Nat.not_le.2 hs_ (by rw [e_]; exact GW175.out)) (fun hn_ => (Kd.freshB (g := gb175) (o := .cells #[.slice A0_0 l0_0.length c0_0, .slice A0_1 l0_1.length c0_1, .slice A0_2 l0_2.length c0_2, .slice A0_3 l0_3.length c0_3] 32 (0, 0)) (kO BK175.out) k_ hn_)))) (below_size (bS1 HB.out GE175.out))); replace BK175 := kB BK175 hb; replace HB := hS1 HB GE175 hb; (try clear hb); (try clear hb2); (try clear hk); (try clear hi); (try clear ho0); obtain ⟨Ao35, co35, eo35⟩ := Kd.V_slice HO182.out; subst eo35; obtain ⟨hcz36_0, hcz36_1, hcz36_2, hcz36_3, hfz36_0, hfz36_1, hfz36_2, hfz36_3⟩ := bF4 BK175.out) | (go_at_call 55; (with_reducible refine (row_Right.calls k2 _ _ t180 (l0_0.length : Int) (l0_1.length : Int) true _ ?s1 ?s2 A31.out).mono ?_); (case s1 => exact cO (Kd.V_reads' HO182.out).2.2); (case s2 => exact (Kd.V_reads' HO182.out).2.1); rintro e w37 ⟨rfl, hb⟩; replace HO182 := Aside0.mk (Kd.V_below (vO HO182.out) hb); replace BK175 := kB BK175 hb; replace HB := hS1 HB GE175 hb; (try clear hb); (try clear hb2); (try clear hk); (try clear hi)))
         go_roundg k2
         case measure => have := HJ1.out; have := HK2.out; omega
         case rel => exact ⟨(wrap64 (x47_2 + 1)), sI, H', ⟨by have := HJ1.out; have := HK2.out; omega⟩, ⟨kO BK175.out⟩, ⟨bS1 HB.out GE175.out⟩⟩
        ·replace c32 := Bool.eq_false_iff.mpr c32; subst c32
         have H1 : (some 3) = some r := by rw [if_neg (show ¬ (false = true) by decide)] at H; exact H
         clear H; have H := H1; clear H1; obtain rfl := Option.some.inj H; obtain ⟨hcz38_0, hcz38_1, hcz38_2, hcz38_3, hfz38_0, hfz38_1, hfz38_2, hfz38_3⟩ := bF4 BK175.out
         go_wp2_with (first | ((with_reducible refine gate_callee (f := 48) rfl ?_); refine gL_ (some 52) Try.func48 #[.agg #[.slice A0_0 l0_0.length c0_0, .slice A0_1 l0_1.length c0_1, .slice A0_2 l0_2.length c0_2, .slice A0_3 l0_3.length c0_3], .int .i64 x47_2] ?_; (with_reducible refine (table_rowOf.calls _ _ l0_0 _ _ l0_1 _ _ l0_2 (fun k_ => k_ < w.heap.size) _ _ l0_3 x47_2 t180 _ ?s1 ?s2 ?s3 ?s4 ?s5 ?s6 ?s7 A26.out).mono ?_); (case s1 => exact cB HR0_0 HB); (case s2 => exact HC0_0.out); (case s3 => exact cB HR0_1 HB); (case s4 => exact HC0_1.out); (case s5 => exact cB HR0_2 HB); (case s6 => exact HC0_2.out); (case s7 => exact Kd.V_mk HC0_3.out (Kd.F_below (Kd.C_F k58_heap HR0_3.out) (bS1 HB.out GE175.out))); rintro e w39 ⟨v181, rfl, ho0, hb⟩; refine ⟨_, rfl, ?_⟩; have HO182 := Aside0.mk (Kd.V_lower (Kd.V_mono (ok' := fun k_ => k_ ≠ gb175) ho0 (fun k_ hk_ => Or.elim hk_ (fun hs_ => fun e_ => Nat.not_le.2 hs_ (by rw [e_]; exact GW175.out)) (fun hn_ => (Kd.freshB (g := gb175) (o := .cells #[.slice A0_0 l0_0.length c0_0, .slice A0_1 l0_1.length c0_1, .slice A0_2 l0_2.length c0_2, .slice A0_3 l0_3.length c0_3] 32 (0, 0)) (kO BK175.out) k_ hn_)))) (below_size (bS1 HB.out GE175.out))); replace BK175 := kB BK175 hb; replace HB := hS1 HB GE175 hb; (try clear hb); (try clear hb2); (try clear hk); (try clear hi); (try clear ho0); obtain ⟨Ao40, co40, eo40⟩ := Kd.V_slice HO182.out; subst eo40; obtain ⟨hcz41_0, hcz41_1, hcz41_2, hcz41_3, hfz41_0, hfz41_1, hfz41_2, hfz41_3⟩ := bF4 BK175.out) | (go_at_call 55; (with_reducible refine (row_Right.calls k2 _ _ t180 (l0_0.length : Int) (l0_1.length : Int) false _ ?s1 ?s2 A31.out).mono ?_); (case s1 => exact cO (Kd.V_reads' HO182.out).2.2); (case s2 => exact (Kd.V_reads' HO182.out).2.1); rintro e w42 ⟨rfl, hb⟩; replace HO182 := Aside0.mk (Kd.V_below (vO HO182.out) hb); replace BK175 := kB BK175 hb; replace HB := hS1 HB GE175 hb; (try clear hb); (try clear hb2); (try clear hk); (try clear hi)))
         go_ret
         exact ⟨eW, bS1 HB.out GE175.out⟩
      ·rw [if_neg c25] at H; have c25b0 := decide_eq_false c25; clear c25; obtain rfl := Option.some.inj H
       go_wp2
       go_ret
       exact ⟨eW, bS1 HB.out GE175.out⟩

end Go.Proofs.Ytghfclgcgecgdaa.X
namespace Go.Proofs.Ytghfclgcgecgdaa.X
open Go.RowKit Go.Proofs.YtghfclgcgecgdaaW.PrintWords Go.Proofs.YtghfclgcgecgdaaW.PrintLast Go.Proofs.YtghfclgcgecgdaaW.PrintMore
attribute [local go_sem] max2_int min2_int max_two min_two max_three min_three max_four min_four
set_option linter.unusedVariables false
set_option linter.unusedSimpArgs false

/-! ### table_Run: function 21 -/
mutual
def table_Run.l0 : Nat → List Int → List Int → Int → Int → List ByteArray → List Bool → List Int → List (S58) → Option (Int × Int)
 | 0, _, _, _, _, _, _, _, _ => none
 | k + 1, x1, x17, x18, x19, x185000, x185001, x185002, x185003 => if x19 < x18 then (if 0 ≤ x19 then (if x19 < (x17.length : Int) then (if (rd x17 x19) < 0 then (some (0, 30)) else (if (rd x17 x19) ≥ (shl .i64 1 (x185000.length : Int)) then (some (0, 30)) else (table_Run.l0 k x1 x17 x18 (wrap64 (x19 + 1)) x185000 x185001 x185002 x185003))) else (none)) else (none)) else (table_Run.l1 k 0 x1 (x1.length : Int) 0 x185000 x185001 x185002 x185003)
def table_Run.l1 : Nat → Int → List Int → Int → Int → List ByteArray → List Bool → List Int → List (S58) → Option (Int × Int)
 | 0, _, _, _, _, _, _, _, _ => none
 | k + 1, x9, x34, x35, x36, x185000, x185001, x185002, x185003 => if x36 < x35 then (if 0 ≤ x36 then (if x36 < (x34.length : Int) then ((table_rowOf.f x185000 x185001 x185002 x185003 x9).bind fun t188 => ((row_At.f k t188 (rd x34 x36)).bind fun bt191 => (table_Run.l1 k bt191.1 x34 x35 (wrap64 (x36 + 1)) x185000 x185001 x185002 x185003))) else (none)) else (none)) else (some (x9, 0))
end
def table_Run.f (k : Nat) (l0_0 : List ByteArray) (l0_1 : List Bool) (l0_2 : List Int) (l0_3 : List (S58)) (l1 : List Int) : Option (Int × Int) := (table_Check.f k l0_0 l0_1 l0_2 l0_3).bind fun t185 => (if t185 = 0 then (table_Run.l0 k l1 l1 (l1.length : Int) 0 l0_0 l0_1 l0_2 l0_3) else (some (0, t185)))
theorem table_Run.mono_l : ∀ k, (∀ y0 y1 y2 y3 y4 y5 y6 y7, LeO (table_Run.l0 k y0 y1 y2 y3 y4 y5 y6 y7) (table_Run.l0 (k + 1) y0 y1 y2 y3 y4 y5 y6 y7)) ∧ (∀ y0 y1 y2 y3 y4 y5 y6 y7, LeO (table_Run.l1 k y0 y1 y2 y3 y4 y5 y6 y7) (table_Run.l1 (k + 1) y0 y1 y2 y3 y4 y5 y6 y7))
 | 0 => ⟨fun _ _ _ _ _ _ _ _ r h => by simp [table_Run.l0] at h, fun _ _ _ _ _ _ _ _ r h => by simp [table_Run.l1] at h⟩
 | k + 1 => by
  obtain ⟨ih0, ih1⟩ := table_Run.mono_l k; refine ⟨?_, ?_⟩
  ·intro y0 y1 y2 y3 y4 y5 y6 y7
   unfold table_Run.l0
   repeat' first | (with_reducible first | exact ih0 _ _ _ _ _ _ _ _ | exact ih1 _ _ _ _ _ _ _ _ | exact row_At.mono _ _ _ | exact table_Check.mono _ _ _ _ _ | exact lA | apply lI | refine lB ?_ fun _ => ?_) | exact lN _ | apply lI | refine lB ?_ fun _ => ?_
  ·intro y0 y1 y2 y3 y4 y5 y6 y7
   unfold table_Run.l1
   repeat' first | (with_reducible first | exact ih0 _ _ _ _ _ _ _ _ | exact ih1 _ _ _ _ _ _ _ _ | exact row_At.mono _ _ _ | exact table_Check.mono _ _ _ _ _ | exact lA | apply lI | refine lB ?_ fun _ => ?_) | exact lN _ | apply lI | refine lB ?_ fun _ => ?_
theorem table_Run.mono : ∀ a0 a1 a2 a3 a4 k, LeO (table_Run.f k a0 a1 a2 a3 a4) (table_Run.f (k + 1) a0 a1 a2 a3 a4) := by
 intro a0 a1 a2 a3 a4 k; obtain ⟨ih0, ih1⟩ := table_Run.mono_l k
 unfold table_Run.f
 repeat' first | (with_reducible first | exact ih0 _ _ _ _ _ _ _ _ | exact ih1 _ _ _ _ _ _ _ _ | exact row_At.mono _ _ _ | exact table_Check.mono _ _ _ _ _ | exact lA | apply lI | refine lB ?_ fun _ => ?_) | exact lN _ | apply lI | refine lB ?_ fun _ => ?_
set_option maxHeartbeats 8000000 in
set_option maxRecDepth 100000 in
theorem table_Run.calls (k : Nat) (A0_0 : Option Addr) (c0_0 : Nat) (l0_0 : List ByteArray) (A0_1 : Option Addr) (c0_1 : Nat) (l0_1 : List Bool) (A0_2 : Option Addr) (c0_2 : Nat) (l0_2 : List Int) (A0_3 : Option Addr) (c0_3 : Nat) (l0_3 : List (S58)) (A1 : Option Addr) (c1 : Nat) (l1 : List Int) (r1 : Int) (r2 : Int) (w : World) (hr0_0 : Kd.C Kd.string w A0_0 l0_0.length l0_0) (hc0_0 : l0_0.length ≤ c0_0) (hr0_1 : Kd.C Kd.bool w A0_1 l0_1.length l0_1) (hc0_1 : l0_1.length ≤ c0_1) (hr0_2 : Kd.C (Kd.int .i64) w A0_2 l0_2.length l0_2) (hc0_2 : l0_2.length ≤ c0_2) (hr0_3 : Kd.C k58 w A0_3 l0_3.length l0_3) (hc0_3 : l0_3.length ≤ c0_3) (hr1 : Kd.C (Kd.int .i64) w A1 l1.length l1) (hc1 : l1.length ≤ c1) (h : table_Run.f k l0_0 l0_1 l0_2 l0_3 l1 = some (r1, r2)) :
  Calls Try.prog 21 #[.agg #[.slice A0_0 l0_0.length c0_0, .slice A0_1 l0_1.length c0_1, .slice A0_2 l0_2.length c0_2, .slice A0_3 l0_3.length c0_3], .slice A1 l1.length c1] w fun e w' => e = .returned (.tuple #[.int .i64 r1, .int .i64 r2]) ∧ Below w.heap.size w w' := by
 have hu32 := Try.underlying32; have HR0_0 := Aside0.mk hr0_0; have HC0_0 := Aside0.mk hc0_0; clear hr0_0 hc0_0; have HR0_1 := Aside0.mk hr0_1; have HC0_1 := Aside0.mk hc0_1; clear hr0_1 hc0_1; have HR0_2 := Aside0.mk hr0_2; have HC0_2 := Aside0.mk hc0_2; clear hr0_2 hc0_2; have HR0_3 := Aside0.mk hr0_3; have HC0_3 := Aside0.mk hc0_3; clear hr0_3 hc0_3; have HR1 := Aside0.mk hr1; have HC1 := Aside0.mk hc1; clear hr1 hc1; have HB := Aside0.mk (Below.refl w.heap.size w); have H : ((table_Check.f k l0_0 l0_1 l0_2 l0_3).bind fun t185 => (if t185 = 0 then (table_Run.l0 k l1 l1 (l1.length : Int) 0 l0_0 l0_1 l0_2 l0_3) else (some (0, t185)))) = some (r1, r2) := h; clear h; replace H := Option.bind_eq_some_iff.mp H; obtain ⟨t185, A30, H⟩ := H; replace H : (if t185 = 0 then (table_Run.l0 k l1 l1 (l1.length : Int) 0 l0_0 l0_1 l0_2 l0_3) else (some (0, t185))) = some (r1, r2) := H; have A3 := Aside0.mk A30; clear A30
 by_cases c4 : t185 = 0
 ·rw [if_pos c4] at H; obtain ⟨c4b0, c4b1⟩ := bq c4; clear c4; have H' := Aside0.mk H; clear H
  go_enter Try.func21, Try.ntmps21
  go_wp2_with (first | ((with_reducible refine gate_dst (N := 2) rfl ?_); (try (refine gate_guard (by rfl) ?_; dsimp only)); refine be_ (cs := #[.slice A0_0 l0_0.length c0_0, .slice A0_1 l0_1.length c0_1, .slice A0_2 l0_2.length c0_2, .slice A0_3 l0_3.length c0_3]) (t := 32) ?_; intro gb184 hg w5 hbox hb; have BK184 := Aside0.mk (hbox); have GW184 := gE hg (bO HB.out); have GE184 := gE hg (bO HB.out); replace HB := hS0 HB hb; clear hb hbox hg; obtain ⟨hcz6_0, hcz6_1, hcz6_2, hcz6_3, hfz6_0, hfz6_1, hfz6_2, hfz6_3⟩ := bF4 BK184.out) | ((with_reducible refine gate_callee (f := 29) rfl ?_); refine gL_ (some 13) Try.func29 #[.agg #[.slice A0_0 l0_0.length c0_0, .slice A0_1 l0_1.length c0_1, .slice A0_2 l0_2.length c0_2, .slice A0_3 l0_3.length c0_3]] ?_; (with_reducible refine (table_Check.calls k _ _ l0_0 _ _ l0_1 _ _ l0_2 _ _ l0_3 t185 _ ?s1 ?s2 ?s3 ?s4 ?s5 ?s6 ?s7 ?s8 A3.out).mono ?_); (case s1 => exact cB HR0_0 HB); (case s2 => exact HC0_0.out); (case s3 => exact cB HR0_1 HB); (case s4 => exact HC0_1.out); (case s5 => exact cB HR0_2 HB); (case s6 => exact HC0_2.out); (case s7 => exact cB HR0_3 HB); (case s8 => exact HC0_3.out); rintro e w7 ⟨rfl, hb⟩; refine ⟨_, rfl, ?_⟩; replace BK184 := kB BK184 hb; replace HB := hS1 HB GE184 hb; (try clear hb); (try clear hb2); (try clear hk); (try clear hi)))
  go_loopg [19] k (fun kq v19 w' => ∃ (x19_1 : Int), v19 = .int .i64 x19_1 ∧ Aside0 (table_Run.l0 kq l1 l1 (l1.length : Int) x19_1 l0_0 l0_1 l0_2 l0_3 = some (r1, r2)) ∧ Aside0 (kq ≤ k) ∧ Aside0 (w'.heap[gb184]? = some (.cells #[(.slice A0_0 l0_0.length c0_0), (.slice A0_1 l0_1.length c0_1), (.slice A0_2 l0_2.length c0_2), (.slice A0_3 l0_3.length c0_3)] 32 (0, 0))) ∧ Aside0 (Below w.heap.size w w'))
  case atStart => exact ⟨(0), sI, H', ⟨Nat.le_refl _⟩, ⟨kO BK184.out⟩, ⟨bS1 HB.out GE184.out⟩⟩
  case round =>
   clear H'
   try clear c1
   try clear c2
   try clear p2
   try clear c4
   try clear c4b0
   try clear c4b1
   try clear hcz6_0
   try clear hcz6_1
   try clear hcz6_2
   try clear hcz6_3
   try clear hfz6_0
   try clear hfz6_1
   try clear hfz6_2
   try clear hfz6_3
   obtain ⟨x19_1, rfl, HA, HK1, BK184, HB⟩ := hrel; cases gk with
   | zero => exact absurd HA.out (by simp [table_Run.l0])
   | succ k1 =>
    have H := HA.out; clear HA; simp only [table_Run.l0] at H
    by_cases c8 : x19_1 < (l1.length : Int)
    ·rw [if_pos c8] at H; have c8b0 := decide_eq_true c8; clear c8
     by_cases c9 : 0 ≤ x19_1
     ·rw [if_pos c9] at H; have c9b0 := decide_eq_true c9; clear c9
      by_cases c10 : x19_1 < (l1.length : Int)
      ·rw [if_pos c10] at H; have c10b0 := decide_eq_true c10; clear c10
       by_cases c11 : (rd l1 x19_1) < 0
       ·rw [if_pos c11] at H; have c11b0 := decide_eq_true c11; clear c11; simp only [Option.some.injEq, Prod.mk.injEq] at H; obtain ⟨rfl, rfl⟩ := H; have p186 : 0 ≤ (x19_1 : Int) := of_decide_eq_true aO; have q186 : x19_1 < (l1.length : Int) := of_decide_eq_true aO; obtain ⟨ad186, e186, hx186_0⟩ := Kd.at_int HR1.out x19_1 p186 q186; cases e186; replace hx186_0 := cX HB hx186_0; replace p186 := eq_true p186; replace q186 := eq_true q186
        go_wp2
        go_ret2
        exact ⟨eW, bS1 HB.out GE184.out⟩
       ·rw [if_neg c11] at H; have c11b0 := decide_eq_false c11; clear c11; obtain ⟨ji12, hji12⟩ : ∃ j_ : Int, (shl .i64 1 (l0_0.length : Int)) = j_ := ⟨_, rfl⟩
        replace H : (if (rd l1 x19_1) ≥ (ji12) then (some (0, 30)) else (table_Run.l0 k1 l1 l1 (l1.length : Int) (wrap64 (x19_1 + 1)) l0_0 l0_1 l0_2 l0_3)) = some (r1, r2) := by first | (rw [hji12] at H; exact H) | (simp only [hji12] at H ⊢; exact H)
        have hji12_ : (IntKind.i64.wrap (1 * 2 ^ min (l0_0.length : Int).toNat 64)) = ji12 := hji12; have hji12z : (l0_0.length : Int) ≤ 64 → (IntKind.i64.wrap (1 * 2 ^ (l0_0.length : Int).toNat)) = ji12 := shl_small hji12; have hji12p : (IntKind.i64.wrap (1 * 2 ^ min l0_0.length 64)) = ji12 := hji12_; have hji12q : (l0_0.length : Int) ≤ 64 → (IntKind.i64.wrap (1 * 2 ^ l0_0.length)) = ji12 := hji12z
        have hji12r : (IntKind.i64.wrap (2 ^ min l0_0.length 64)) = ji12 := by have h_ := hji12p; rw [Int.one_mul] at h_; exact h_
        have hji12s : (l0_0.length : Int) ≤ 64 → (IntKind.i64.wrap (2 ^ l0_0.length)) = ji12 := fun hle_ => by have h_ := hji12q hle_; rw [Int.one_mul] at h_; exact h_
        have hji12u : (IntKind.i64.wrap (2 ^ min (l0_0.length : Int).toNat 64)) = ji12 := by have h_ := hji12_; rw [Int.one_mul] at h_; exact h_
        have hji12v : (l0_0.length : Int) ≤ 64 → (IntKind.i64.wrap (2 ^ (l0_0.length : Int).toNat)) = ji12 := fun hle_ => by have h_ := hji12z hle_; rw [Int.one_mul] at h_; exact h_
        have hji12y : (wrap64 (1 * 2 ^ min (l0_0.length : Int).toNat 64)) = ji12 := (i64_w _).symm.trans hji12_
        have hji12x : (l0_0.length : Int) ≤ 64 → (wrap64 (1 * 2 ^ (l0_0.length : Int).toNat)) = ji12 := fun h_ => (i64_w _).symm.trans (hji12z h_)
        by_cases c13 : (rd l1 x19_1) ≥ (ji12)
        ·rw [if_pos c13] at H; have c13b0 := decide_eq_true c13; clear c13; simp only [Option.some.injEq, Prod.mk.injEq] at H; obtain ⟨rfl, rfl⟩ := H; have p186 : 0 ≤ (x19_1 : Int) := of_decide_eq_true aO; have q186 : x19_1 < (l1.length : Int) := of_decide_eq_true aO; obtain ⟨ad186, e186, hx186_0⟩ := Kd.at_int HR1.out x19_1 p186 q186; cases e186; replace hx186_0 := cX HB hx186_0; replace p186 := eq_true p186; replace q186 := eq_true q186; obtain ⟨hcz14_0, hcz14_1, hcz14_2, hcz14_3, hfz14_0, hfz14_1, hfz14_2, hfz14_3⟩ := bF4 BK184.out
         go_wp2
         go_ret2
         exact ⟨by first | rfl | (simp [errW_none, errW_some] <;> rfl) | (simp only [← hji12]; first | rfl | (simp [errW_none, errW_some] <;> rfl)) | (simp [*, errW_none, errW_some] <;> rfl), bS1 HB.out GE184.out⟩
        ·rw [if_neg c13] at H; have c13b0 := decide_eq_false c13; clear c13; have H' := Aside0.mk H; clear H; have p186 : 0 ≤ (x19_1 : Int) := of_decide_eq_true aO; have q186 : x19_1 < (l1.length : Int) := of_decide_eq_true aO; obtain ⟨ad186, e186, hx186_0⟩ := Kd.at_int HR1.out x19_1 p186 q186; cases e186; replace hx186_0 := cX HB hx186_0; replace p186 := eq_true p186; replace q186 := eq_true q186; obtain ⟨hcz15_0, hcz15_1, hcz15_2, hcz15_3, hfz15_0, hfz15_1, hfz15_2, hfz15_3⟩ := bF4 BK184.out
         go_wp2
         go_roundg k1
         case measure => have := HK1.out; omega
         case rel => exact ⟨(wrap64 (x19_1 + 1)), sI, H', ⟨by have := HK1.out; omega⟩, ⟨kO BK184.out⟩, ⟨bS1 HB.out GE184.out⟩⟩
      ·rw [if_neg c10] at H; exact absurd H (by simp)
     ·rw [if_neg c9] at H; exact absurd H (by simp)
    ·rw [if_neg c8] at H; have c8b0 := decide_eq_false c8; clear c8; have H' := Aside0.mk H; clear H
     go_wp2
     go_loopg [9, 36] k1 (fun kq v9 v36 w' => ∃ (x9_2 : Int) (x36_2 : Int), v9 = .int .i64 x9_2 ∧ v36 = .int .i64 x36_2 ∧ Aside0 (table_Run.l1 kq x9_2 l1 (l1.length : Int) x36_2 l0_0 l0_1 l0_2 l0_3 = some (r1, r2)) ∧ Aside0 (kq ≤ k1) ∧ Aside0 (w'.heap[gb184]? = some (.cells #[(.slice A0_0 l0_0.length c0_0), (.slice A0_1 l0_1.length c0_1), (.slice A0_2 l0_2.length c0_2), (.slice A0_3 l0_3.length c0_3)] 32 (0, 0))) ∧ Aside0 (Below w.heap.size w w'))
     case atStart => exact ⟨(0), (0), sI, sI, H', ⟨Nat.le_refl _⟩, ⟨kO BK184.out⟩, ⟨bS1 HB.out GE184.out⟩⟩
     case round =>
      clear H'
      try clear c1
      try clear p1
      try clear q1
      try clear hx1
      try clear c2
      try clear p2
      try clear c4
      try clear c4b0
      try clear c4b1
      try clear p6
      try clear c8
      try clear c8b0
      try clear c9
      try clear c9b0
      try clear c10
      try clear c10b0
      try clear c11
      try clear c11b0
      try clear c13
      try clear c13b0
      try clear hcz14_0
      try clear hcz14_1
      try clear hcz14_2
      try clear hcz14_3
      try clear hcz15_0
      try clear hcz15_1
      try clear hcz15_2
      try clear hcz15_3
      try clear hcz6_0
      try clear hcz6_1
      try clear hcz6_2
      try clear hcz6_3
      try clear hfz14_0
      try clear hfz14_1
      try clear hfz14_2
      try clear hfz14_3
      try clear hfz15_0
      try clear hfz15_1
      try clear hfz15_2
      try clear hfz15_3
      try clear hfz6_0
      try clear hfz6_1
      try clear hfz6_2
      try clear hfz6_3
      try clear hx186_0
      try clear p186
      try clear p2
      try clear q186
      obtain ⟨x9_2, x36_2, rfl, rfl, HA, HK2, BK184, HB⟩ := hrel; cases gk with
      | zero => exact absurd HA.out (by simp [table_Run.l1])
      | succ k2 =>
       have H := HA.out; clear HA; simp only [table_Run.l1] at H
       by_cases c16 : x36_2 < (l1.length : Int)
       ·rw [if_pos c16] at H; have c16b0 := decide_eq_true c16; clear c16
        by_cases c17 : 0 ≤ x36_2
        ·rw [if_pos c17] at H; have c17b0 := decide_eq_true c17; clear c17
         by_cases c18 : x36_2 < (l1.length : Int)
         ·rw [if_pos c18] at H; have c18b0 := decide_eq_true c18; clear c18; replace H := Option.bind_eq_some_iff.mp H; obtain ⟨t188, A190, H⟩ := H; replace H : ((row_At.f k2 t188 (rd l1 x36_2)).bind fun bt191 => (table_Run.l1 k2 bt191.1 l1 (l1.length : Int) (wrap64 (x36_2 + 1)) l0_0 l0_1 l0_2 l0_3)) = some (r1, r2) := H; have A19 := Aside0.mk A190; clear A190; replace H := Option.bind_eq_some_iff.mp H; obtain ⟨⟨t191, t192⟩, A200, H⟩ := H; replace H : (table_Run.l1 k2 t191 l1 (l1.length : Int) (wrap64 (x36_2 + 1)) l0_0 l0_1 l0_2 l0_3) = some (r1, r2) := H; have A20 := Aside0.mk A200; clear A200; have H' := Aside0.mk H; clear H; have p187 : 0 ≤ (x36_2 : Int) := of_decide_eq_true aO; have q187 : x36_2 < (l1.length : Int) := of_decide_eq_true aO; obtain ⟨ad187, e187, hx187_0⟩ := Kd.at_int HR1.out x36_2 p187 q187; cases e187; replace hx187_0 := cX HB hx187_0; replace p187 := eq_true p187; replace q187 := eq_true q187; obtain ⟨hcz21_0, hcz21_1, hcz21_2, hcz21_3, hfz21_0, hfz21_1, hfz21_2, hfz21_3⟩ := bF4 BK184.out
          go_wp2_with (first | ((with_reducible refine gate_callee (f := 48) rfl ?_); refine gL_ (some 43) Try.func48 #[.agg #[.slice A0_0 l0_0.length c0_0, .slice A0_1 l0_1.length c0_1, .slice A0_2 l0_2.length c0_2, .slice A0_3 l0_3.length c0_3], .int .i64 x9_2] ?_; (with_reducible refine (table_rowOf.calls _ _ l0_0 _ _ l0_1 _ _ l0_2 (fun k_ => k_ < w.heap.size) _ _ l0_3 x9_2 t188 _ ?s1 ?s2 ?s3 ?s4 ?s5 ?s6 ?s7 A19.out).mono ?_); (case s1 => exact cB HR0_0 HB); (case s2 => exact HC0_0.out); (case s3 => exact cB HR0_1 HB); (case s4 => exact HC0_1.out); (case s5 => exact cB HR0_2 HB); (case s6 => exact HC0_2.out); (case s7 => exact Kd.V_mk HC0_3.out (Kd.F_below (Kd.C_F k58_heap HR0_3.out) (bS1 HB.out GE184.out))); rintro e w22 ⟨v189, rfl, ho0, hb⟩; refine ⟨_, rfl, ?_⟩; have HO190 := Aside0.mk (Kd.V_lower (Kd.V_mono (ok' := fun k_ => k_ ≠ gb184) ho0 (fun k_ hk_ => Or.elim hk_ (fun hs_ => fun e_ => Nat.not_le.2 hs_ (by rw [e_]; exact GW184.out)) (fun hn_ => (Kd.freshB (g := gb184) (o := .cells #[.slice A0_0 l0_0.length c0_0, .slice A0_1 l0_1.length c0_1, .slice A0_2 l0_2.length c0_2, .slice A0_3 l0_3.length c0_3] 32 (0, 0)) (kO BK184.out) k_ hn_)))) (below_size (bS1 HB.out GE184.out))); replace BK184 := kB BK184 hb; replace HB := hS1 HB GE184 hb; (try clear hb); (try clear hb2); (try clear hk); (try clear hi); (try clear ho0); obtain ⟨Ao23, co23, eo23⟩ := Kd.V_slice HO190.out; subst eo23) | ((with_reducible refine gate_callee (f := 47) rfl ?_); refine gL_ (some 45) Try.func47 #[.slice Ao23 t188.length co23, .int .i64 (rd l1 x36_2)] ?_; (with_reducible refine (row_At.calls k2 _ _ t188 (rd l1 x36_2) t191 t192 _ ?s1 ?s2 A20.out).mono ?_); (case s1 => exact cO (Kd.V_reads' HO190.out).2.2); (case s2 => exact (Kd.V_reads' HO190.out).2.1); rintro e w24 ⟨rfl, hb⟩; refine ⟨_, rfl, ?_⟩; replace HO190 := Aside0.mk (Kd.V_below (vO HO190.out) hb); replace BK184 := kB BK184 hb; replace HB := hS1 HB GE184 hb; (try clear hb); (try clear hb2); (try clear hk); (try clear hi)))
          go_roundg k2
          case measure => have := HK1.out; have := HK2.out; omega
          case rel => exact ⟨(t191), (wrap64 (x36_2 + 1)), sI, sI, H', ⟨by have := HK1.out; have := HK2.out; omega⟩, ⟨kO BK184.out⟩, ⟨bS1 HB.out GE184.out⟩⟩
         ·rw [if_neg c18] at H; exact absurd H (by simp)
        ·rw [if_neg c17] at H; exact absurd H (by simp)
       ·rw [if_neg c16] at H; have c16b0 := decide_eq_false c16; clear c16; simp only [Option.some.injEq, Prod.mk.injEq] at H; obtain ⟨rfl, rfl⟩ := H
        go_wp2
        go_ret2
        exact ⟨eW, bS1 HB.out GE184.out⟩
 ·rw [if_neg c4] at H; obtain ⟨c4b0, c4b1⟩ := bn c4; simp only [Option.some.injEq, Prod.mk.injEq] at H; obtain ⟨rfl, rfl⟩ := H
  go_enter Try.func21, Try.ntmps21
  go_wp2_with (first | ((with_reducible refine gate_dst (N := 2) rfl ?_); (try (refine gate_guard (by rfl) ?_; dsimp only)); refine be_ (cs := #[.slice A0_0 l0_0.length c0_0, .slice A0_1 l0_1.length c0_1, .slice A0_2 l0_2.length c0_2, .slice A0_3 l0_3.length c0_3]) (t := 32) ?_; intro gb184 hg w25 hbox hb; have BK184 := Aside0.mk (hbox); have GW184 := gE hg (bO HB.out); have GE184 := gE hg (bO HB.out); replace HB := hS0 HB hb; clear hb hbox hg; obtain ⟨hcz26_0, hcz26_1, hcz26_2, hcz26_3, hfz26_0, hfz26_1, hfz26_2, hfz26_3⟩ := bF4 BK184.out) | ((with_reducible refine gate_callee (f := 29) rfl ?_); refine gL_ (some 13) Try.func29 #[.agg #[.slice A0_0 l0_0.length c0_0, .slice A0_1 l0_1.length c0_1, .slice A0_2 l0_2.length c0_2, .slice A0_3 l0_3.length c0_3]] ?_; (with_reducible refine (table_Check.calls k _ _ l0_0 _ _ l0_1 _ _ l0_2 _ _ l0_3 t185 _ ?s1 ?s2 ?s3 ?s4 ?s5 ?s6 ?s7 ?s8 A3.out).mono ?_); (case s1 => exact cB HR0_0 HB); (case s2 => exact HC0_0.out); (case s3 => exact cB HR0_1 HB); (case s4 => exact HC0_1.out); (case s5 => exact cB HR0_2 HB); (case s6 => exact HC0_2.out); (case s7 => exact cB HR0_3 HB); (case s8 => exact HC0_3.out); rintro e w27 ⟨rfl, hb⟩; refine ⟨_, rfl, ?_⟩; replace BK184 := kB BK184 hb; replace HB := hS1 HB GE184 hb; (try clear hb); (try clear hb2); (try clear hk); (try clear hi)))
  go_ret2
  exact ⟨eW, bS1 HB.out GE184.out⟩

end Go.Proofs.Ytghfclgcgecgdaa.X

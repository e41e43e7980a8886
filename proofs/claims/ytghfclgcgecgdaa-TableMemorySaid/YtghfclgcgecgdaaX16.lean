/- What the functions of this seat compute, and that the program's calls come to just that: written by this session's own program out of the translation; no condition. -/
import Derived.Test.YtghfclgcgecgdaaX0
import Derived.Test.YtghfclgcgecgdaaX6
import Derived.Test.YtghfclgcgecgdaaX12
import Derived.Test.YtghfclgcgecgdaaX15
namespace Go.Proofs.Ytghfclgcgecgdaa.X
open Go.RowKit Go.Proofs.YtghfclgcgecgdaaW.PrintWords Go.Proofs.YtghfclgcgecgdaaW.PrintLast Go.Proofs.YtghfclgcgecgdaaW.PrintMore
attribute [local go_sem] max2_int min2_int max_two min_two max_three min_three max_four min_four
set_option linter.unusedVariables false
set_option linter.unusedSimpArgs false
set_option maxHeartbeats 8000000
set_option maxRecDepth 100000

/-! ### table_Check: function 29 -/
mutual
def table_Check.j0 : Nat → Int → Bool → List ByteArray → List Bool → List Int → List (S58) → Option (Int)
 | 0, _, _, _, _, _, _ => none
 | k + 1, x3, x45, x201000, x201001, x201002, x201003 => if x45 = true then (some 3) else (table_Check.l0 k x3 x3 0 x201000 x201001 x201002 x201003)
def table_Check.l0 : Nat → Int → Int → Int → List ByteArray → List Bool → List Int → List (S58) → Option (Int)
 | 0, _, _, _, _, _, _, _ => none
 | k + 1, x3, x46, x47, x201000, x201001, x201002, x201003 => if x47 < x46 then ((table_rowOf.f x201000 x201001 x201002 x201003 x47).bind fun t205 => (if (t205.length : Int) > 32 then (some 3) else ((row_Right.f k t205 (x201000.length : Int) x3).bind fun t208 => (if t208 = true then (table_Check.l0 k x3 x46 (wrap64 (x47 + 1)) x201000 x201001 x201002 x201003) else (some 3))))) else (some 0)
end
def table_Check.f (k : Nat) (l0_0 : List ByteArray) (l0_1 : List Bool) (l0_2 : List Int) (l0_3 : List (S58)) : Option (Int) := (table_tracks.f k l0_0 (l0_1.length : Int)).bind fun t201 => (if t201 = true then (if (l0_2.length : Int) = (wrap64 ((l0_1.length : Int) + 1)) then (if 0 < (l0_2.length : Int) then (if (rd l0_2 0) = 0 then (if 0 ≤ (l0_1.length : Int) then (if (l0_1.length : Int) < (l0_2.length : Int) then (if (rd l0_2 (l0_1.length : Int)) = (l0_3.length : Int) then ((slices_IsSorted_int_int.f k l0_2).bind fun t204 => (table_Check.j0 k (l0_1.length : Int) (!t204) l0_0 l0_1 l0_2 l0_3)) else (table_Check.j0 k (l0_1.length : Int) true l0_0 l0_1 l0_2 l0_3)) else (none)) else (none)) else (table_Check.j0 k (l0_1.length : Int) true l0_0 l0_1 l0_2 l0_3)) else (none)) else (table_Check.j0 k (l0_1.length : Int) true l0_0 l0_1 l0_2 l0_3)) else (table_Check.j0 k (l0_1.length : Int) true l0_0 l0_1 l0_2 l0_3))
theorem table_Check.mono_l : ∀ k, (∀ y0 y1 y2 y3 y4 y5, LeO (table_Check.j0 k y0 y1 y2 y3 y4 y5) (table_Check.j0 (k + 1) y0 y1 y2 y3 y4 y5)) ∧ (∀ y0 y1 y2 y3 y4 y5 y6, LeO (table_Check.l0 k y0 y1 y2 y3 y4 y5 y6) (table_Check.l0 (k + 1) y0 y1 y2 y3 y4 y5 y6))
 | 0 => ⟨fun _ _ _ _ _ _ r h => by simp [table_Check.j0] at h, fun _ _ _ _ _ _ _ r h => by simp [table_Check.l0] at h⟩
 | k + 1 => by
  obtain ⟨ih0, ih1⟩ := table_Check.mono_l k; refine ⟨?_, ?_⟩
  ·intro y0 y1 y2 y3 y4 y5
   unfold table_Check.j0
   repeat' first | (with_reducible first | exact ih0 _ _ _ _ _ _ | exact ih1 _ _ _ _ _ _ _ | exact row_Right.mono _ _ _ _ | exact slices_IsSorted_int_int.mono _ _ | exact table_tracks.mono _ _ _ | exact lA | apply lI | refine lB ?_ fun _ => ?_) | exact lN _ | apply lI | refine lB ?_ fun _ => ?_
  ·intro y0 y1 y2 y3 y4 y5 y6
   unfold table_Check.l0
   repeat' first | (with_reducible first | exact ih0 _ _ _ _ _ _ | exact ih1 _ _ _ _ _ _ _ | exact row_Right.mono _ _ _ _ | exact slices_IsSorted_int_int.mono _ _ | exact table_tracks.mono _ _ _ | exact lA | apply lI | refine lB ?_ fun _ => ?_) | exact lN _ | apply lI | refine lB ?_ fun _ => ?_
theorem table_Check.mono : ∀ a0 a1 a2 a3 k, LeO (table_Check.f k a0 a1 a2 a3) (table_Check.f (k + 1) a0 a1 a2 a3) := by
 intro a0 a1 a2 a3 k; obtain ⟨ih0, ih1⟩ := table_Check.mono_l k
 unfold table_Check.f
 repeat' first | (with_reducible first | exact ih0 _ _ _ _ _ _ | exact ih1 _ _ _ _ _ _ _ | exact row_Right.mono _ _ _ _ | exact slices_IsSorted_int_int.mono _ _ | exact table_tracks.mono _ _ _ | exact lA | apply lI | refine lB ?_ fun _ => ?_) | exact lN _ | apply lI | refine lB ?_ fun _ => ?_
def table_Check.T2 : Bool × List (List Nat × List Nat) := (true, [([], []), ([0], [0]), ([], []), ([1, 2], [1, 2]), ([3], [3]), ([4, 3], [4]), ([5], [5]), ([6, 5], [5, 6]), ([7, 5], [5, 7]), ([5], [5]), ([9, 5], [5, 9]), ([8, 10, 5], [5, 8, 10]), ([5, 11], [5, 11]), ([12, 5], [12]), ([13], [13]), ([14, 13], [13, 14]), ([15, 13], [13, 15]), ([16, 13], [13, 16]), ([17, 13], [13, 17]), ([13, 18], [13, 18]), ([19, 13], [19]), ([20], [20]), ([21, 20], [20, 21]), ([20], [20]), ([22, 23, 20], [20, 22, 23]), ([24, 20], [20, 24]), ([20], [20]), ([26, 20], [20, 26]), ([27, 20], [20, 27]), ([25, 28, 20], [20, 25, 28]), ([20, 29], [20, 29]), ([30, 20], [30]), ([31], [31]), ([32, 31], [31, 32]), ([33, 31, 31], [31, 33]), ([34, 31], [31, 34]), ([31, 35], [31, 35])])
def table_Check.B2 : List Nat := [0, 1, 0, 7, 15, 31, 63, 127, 255, 63, 575, 2047, 4095, 8191, 16383, 32767, 65535, 131071, 262143, 524287, 1048575, 2097151, 4194303, 2097151, 16777215, 33554431, 2097151, 69206015, 203423743, 536870911, 1073741823, 2147483647, 4294967295, 8589934591, 17179869183, 34359738367, 68719476735]
theorem table_Check.tab2 : rtab .any (opsOf Try.f29 2) = table_Check.T2 := by kernel_rfl
theorem table_Check.bits2 : waitsOk table_Check.T2.2 table_Check.B2 = true := by kernel_rfl
theorem table_Check.calls (k : Nat) (L : Option Addr) (M : Nat) (E : List ByteArray) (V : Option Addr) (W : Nat) (A : List Bool) (ab : Option Addr) (Q : Nat) (B : List Int) (Y : Option Addr) (Z : Nat) (J : List (S58)) (r : Int) (w : World) (aC : Kd.C Kd.string w L E.length E) (aD : E.length ≤ M) (aE : Kd.C Kd.bool w V A.length A) (aF : A.length ≤ W) (aG : Kd.C (Kd.int .i64) w ab B.length B) (aH : B.length ≤ Q) (aI : Kd.C k58 w Y J.length J) (aJ : J.length ≤ Z) (h : table_Check.f k E A B J = some r) :
  Calls Try.prog 29 #[.agg #[.slice L E.length M, .slice V A.length W, .slice ab B.length Q, .slice Y J.length Z]] w fun e w' => e = .returned (.int .i64 r) ∧ Below w.heap.size w w' := by
 have hu32 := Try.underlying32; have af := aM aC; have ag := aM aD; clear aC aD; have ar := aM aE; have au := aM aF; clear aE aF; have ac := aM aG; have al := aM aH; clear aG aH; have av := aM aI; have aw := aM aJ; clear aI aJ; have HB := aM (Below.refl w.heap.size w); rw [table_Check.f] at h; have H := h; clear h; have aQ := aM H; clear H
 go_enter Try.func29, Try.ntmps29
 go_upto_region 2 with (first | ((with_reducible refine gate_dst (N := 1) rfl ?_); (try (refine gate_guard (by rfl) ?_; dsimp only)); refine be_ (cs := #[.slice L E.length M, .slice V A.length W, .slice ab B.length Q, .slice Y J.length Z]) (t := 32) ?_; intro G hg w3 a6 hb; have z := aM (a6); have ax := gE hg (bP0 HB); have I := gE hg (bP0 HB); replace HB := hS0 HB hb; clear hb a6 hg; obtain ⟨b5, b6, b7, b8, b9, ca, cb, cc⟩ := bG4 z))
 (try simp only [Act.put, sA, sB, sC])
 go_cut [45] (fun cd wc => ∃ (kq : Nat) (am : Bool), cd = .bool am ∧ Aside0 (table_Check.j0 kq (A.length : Int) am E A B J = some r) ∧ Aside0 (kq ≤ k) ∧ Aside0 (wc.heap[G]? = some (.cells #[(.slice L E.length M), (.slice V A.length W), (.slice ab B.length Q), (.slice Y J.length Z)] 32 (0, 0))) ∧ BA w wc)
 case first =>
  have H := aQ.out; clear aQ; apply bSx H; clear H; intro bf A5 H
  by_cases c6 : bf = true
  ·subst c6
   rw [if_pos rfl] at H
   apply iB H <;> clear H <;> intro c7 H
   ·obtain ⟨an, bg⟩ := bq c7; clear c7
    (first | rw [an] | (simp only [i64_w, i32_w]; rw [an]) | skip)
    apply iN H; clear H; intro c8 H; have ck := dT c8; have cl : decide (0 < B.length) = true := dT (by omega); clear c8
    apply iB H <;> clear H <;> intro c9 H
    ·obtain ⟨bh, bi⟩ := bq c9; clear c9
     apply iN H; clear H; intro aK H; have cg := dT aK; have ch : decide (0 ≤ A.length) = true := dT (by omega); clear aK
     apply iN H; clear H; intro az H; have ci := dT az; have cj : decide (A.length < B.length) = true := dT (Int.ofNat_lt.mp az); clear az
     apply iB H <;> clear H <;> intro aA H
     ·obtain ⟨a7, a8⟩ := bq aA; clear aA; apply bSx H; clear H; intro aV ce H; have H' := aM H; clear H
      replace z := kD z; replace HB := aM (below_drew1 HB.out); have ad : 0 ≤ (0 : Int) := (by omega); have ae : 0 < (B.length : Int) := oT aO; obtain ⟨R, ao, F⟩ := Kd.at_int ac.out 0 ad ae; have D := F
      (try rw [show ((0 : Int)).toNat = 0 from rfl] at D)
      (try rw [show 0 * 1 = 0 from rfl] at D)
      (try rw [Addr.add_zero'] at D)
      cases ao; have qi202 : (0 < B.length) = True := eq_true (by omega)
      (try rw [show ((0 : Int)).toNat = 0 from rfl] at F)
      (try rw [Addr.add_zero'] at F)
      replace F := cX HB F; replace ad := eq_true ad; replace ae := eq_true ae; have ai : 0 ≤ ((A.length : Int) : Int) := oT aO; have aj : (A.length : Int) < (B.length : Int) := oT aO; obtain ⟨ay, aB, O⟩ := Kd.at_int ac.out (A.length : Int) ai aj; have P := O; obtain rfl := sJJ aB; replace O := cX HB O
      (try simp only [Go.IntWalk.toNatUp] at O)
      replace ai := eq_true ai; replace aj := eq_true aj; refine start_ (n := 37) (S := fun w' => w'.cell? ⟨G, 0, none⟩ = some (.slice L E.length M) ∧ w'.cell? ⟨G, 1, none⟩ = some (.slice V A.length W) ∧ w'.cell? ⟨G, 2, none⟩ = some (.slice (some R) B.length Q) ∧ w'.cell? ⟨G, 3, none⟩ = some (.slice Y J.length Z) ∧ w'.cell? R = some (.int .i64 (rd B 0)) ∧ w'.cell? (R.add A.length) = some (.int .i64 (rd B (A.length : Int)))) (ds := []) (bl 37 0) (by kernel_rfl) rfl rfl ⟨(blk_cell z.out 0).trans rfl, (blk_cell z.out 1).trans rfl, (blk_cell z.out 2).trans rfl, (blk_cell z.out 3).trans rfl, ((HB.out.cell (World.block_lt_of_cell? w _ D)).trans D), ((HB.out.cell (World.block_lt_of_cell? w _ P)).trans P)⟩ (fun aS => ?_); refine with_tabW table_Check.tab2 table_Check.bits2 (fun aR aT => ?_); generalize w3.drew = ct at z HB F O aS ⊢; refine pu_ 0 9 (bl 37 1) aR ?_; refine pu_ 2 11 (bl 37 5) aR ?_; refine tk6_ 1 10 (bl 37 7) aR aT aS ?_; refine one_ (i := 3) (N := some 12) (bl 37 15) rfl rfl (one_of aR.out (by kernel_rfl)) (by decide) (fun K hK => ?_); refine gS_ Try.func38 #[.slice L E.length M, .int .i64 (A.length : Int)] ?_
      with_reducible refine (table_tracks.calls k _ _ E (A.length : Int) true _ ?s1 ?s2 A5.out).mono ?_
      (case s1 => exact cB af HB)
      (case s2 => exact ag.out)
      rintro e cu ⟨rfl, hb⟩; refine ⟨_, rfl, ?_⟩; replace z := kB z hb; replace HB := hS1 HB I hb
      (try clear hb)
      (try clear aL)
      (try clear hk)
      (try clear hi)
      refine hK.out _ _ ⟨(blk_cell z.out 0).trans rfl, (blk_cell z.out 1).trans rfl, (blk_cell z.out 2).trans rfl, (blk_cell z.out 3).trans rfl, ((HB.out.cell (World.block_lt_of_cell? w _ D)).trans D), ((HB.out.cell (World.block_lt_of_cell? w _ P)).trans P)⟩ (fun aS => ?_); clear hK K; refine nm_ 12 ?_; refine pu_ 4 13 (bl 37 31) aR ?_; refine pu_ 5 14 (bl 37 63) aR ?_; refine pu_ 6 15 (bl 37 127) aR ?_; refine pu_ 9 18 (bl 37 639) aR ?_; refine pu_ 10 19 (bl 37 1663) aR ?_; refine tk6_ 7 16 (bl 37 1791) aR aT aS ?_; refine pu_ 8 17 (bl 37 2047) aR ?_; refine pu_ 11 20 (bl 37 4095) aR ?_; refine pu_ 12 21 (bl 37 8191) aR ?_; refine pu_ 13 22 (bl 37 16383) aR ?_; refine pu_ 14 23 (bl 37 32767) aR ?_; refine tk6_ 15 24 (bl 37 65535) aR aT aS ?_; refine pu_ 16 25 (bl 37 131071) aR ?_; refine tk6_ 17 26 (bl 37 262143) aR aT aS ?_; refine pu_ 18 27 (bl 37 524287) aR ?_; refine pu_ 19 28 (bl 37 1048575) aR ?_; refine pu_ 20 29 (bl 37 2097151) aR ?_; refine pu_ 21 30 (bl 37 4194303) aR ?_; refine pu_ 23 32 (bl 37 12582911) aR ?_; refine pu_ 26 35 (bl 37 79691775) aR ?_; refine tk6_ 22 31 (bl 37 83886079) aR aT aS ?_; refine pu_ 24 33 (bl 37 100663295) aR ?_; refine tk6_ 25 34 (bl 37 134217727) aR aT aS ?_; refine tk6_ 27 36 (bl 37 268435455) aR aT aS ?_; refine pu_ 28 37 (bl 37 536870911) aR ?_; refine pu_ 29 38 (bl 37 1073741823) aR ?_; refine pu_ 30 39 (bl 37 2147483647) aR ?_; refine pu_ 31 40 (bl 37 4294967295) aR ?_; refine pu_ 32 41 (bl 37 8589934591) aR ?_; refine tk6_ 33 42 (bl 37 17179869183) aR aT aS ?_; refine one_ (i := 34) (N := some 43) (bl 37 34359738367) rfl rfl (one_of aR.out (by kernel_rfl)) (by decide) (fun K hK => ?_); refine gS_ Try.func54 #[.slice (some R) B.length Q] ?_
      with_reducible refine (slices_IsSorted_int_int.calls k _ _ B aV _ ?s1 ?s2 ce.out).mono ?_
      (case s1 => exact cB ac HB)
      (case s2 => exact al.out)
      rintro e w' ⟨rfl, ⟨nd, rfl⟩⟩; refine ⟨_, rfl, ?_⟩; refine hK.out _ _ ⟨(blk_cell z.out 0).trans rfl, (blk_cell z.out 1).trans rfl, (blk_cell z.out 2).trans rfl, (blk_cell z.out 3).trans rfl, ((HB.out.cell (World.block_lt_of_cell? w _ D)).trans D), ((HB.out.cell (World.block_lt_of_cell? w _ P)).trans P)⟩ (fun aS => ?_); clear hK K; refine nm_ 43 ?_; refine pu_ 35 44 (bl 37 68719476735) aR ?_; refine pu_ 36 45 (bl 37 137438953471) aR ?_; refine done_ (done_of aR.out (by kernel_rfl)) ?_
      try go_wp2
      go_meet
      case rel => exact ⟨_, (!aV), sI, H', lE, kQ z, bT1 HB I⟩
     ·obtain ⟨a7, a8⟩ := bn aA; have H' := aM H; clear H
      replace z := kD z; replace HB := aM (below_drew1 HB.out); have ad : 0 ≤ (0 : Int) := (by omega); have ae : 0 < (B.length : Int) := oT aO; obtain ⟨R, ao, F⟩ := Kd.at_int ac.out 0 ad ae; have D := F
      (try rw [show ((0 : Int)).toNat = 0 from rfl] at D)
      (try rw [show 0 * 1 = 0 from rfl] at D)
      (try rw [Addr.add_zero'] at D)
      cases ao; have qi202 : (0 < B.length) = True := eq_true (by omega)
      (try rw [show ((0 : Int)).toNat = 0 from rfl] at F)
      (try rw [Addr.add_zero'] at F)
      replace F := cX HB F; replace ad := eq_true ad; replace ae := eq_true ae; have ai : 0 ≤ ((A.length : Int) : Int) := oT aO; have aj : (A.length : Int) < (B.length : Int) := oT aO; obtain ⟨ay, aB, O⟩ := Kd.at_int ac.out (A.length : Int) ai aj; have P := O; obtain rfl := sJJ aB; replace O := cX HB O
      (try simp only [Go.IntWalk.toNatUp] at O)
      replace ai := eq_true ai; replace aj := eq_true aj; refine start_ (n := 37) (S := fun w' => w'.cell? ⟨G, 0, none⟩ = some (.slice L E.length M) ∧ w'.cell? ⟨G, 1, none⟩ = some (.slice V A.length W) ∧ w'.cell? ⟨G, 2, none⟩ = some (.slice (some R) B.length Q) ∧ w'.cell? ⟨G, 3, none⟩ = some (.slice Y J.length Z) ∧ w'.cell? R = some (.int .i64 (rd B 0)) ∧ w'.cell? (R.add A.length) = some (.int .i64 (rd B (A.length : Int)))) (ds := []) (bl 37 0) (by kernel_rfl) rfl rfl ⟨(blk_cell z.out 0).trans rfl, (blk_cell z.out 1).trans rfl, (blk_cell z.out 2).trans rfl, (blk_cell z.out 3).trans rfl, ((HB.out.cell (World.block_lt_of_cell? w _ D)).trans D), ((HB.out.cell (World.block_lt_of_cell? w _ P)).trans P)⟩ (fun aS => ?_); refine with_tabW table_Check.tab2 table_Check.bits2 (fun aR aT => ?_); generalize w3.drew = cv at z HB F O aS ⊢; refine pu_ 0 9 (bl 37 1) aR ?_; refine pu_ 2 11 (bl 37 5) aR ?_; refine tk6_ 1 10 (bl 37 7) aR aT aS ?_; refine one_ (i := 3) (N := some 12) (bl 37 15) rfl rfl (one_of aR.out (by kernel_rfl)) (by decide) (fun K hK => ?_); refine gS_ Try.func38 #[.slice L E.length M, .int .i64 (A.length : Int)] ?_
      with_reducible refine (table_tracks.calls k _ _ E (A.length : Int) true _ ?s1 ?s2 A5.out).mono ?_
      (case s1 => exact cB af HB)
      (case s2 => exact ag.out)
      rintro e cw ⟨rfl, hb⟩; refine ⟨_, rfl, ?_⟩; replace z := kB z hb; replace HB := hS1 HB I hb
      (try clear hb)
      (try clear aL)
      (try clear hk)
      (try clear hi)
      refine hK.out _ _ ⟨(blk_cell z.out 0).trans rfl, (blk_cell z.out 1).trans rfl, (blk_cell z.out 2).trans rfl, (blk_cell z.out 3).trans rfl, ((HB.out.cell (World.block_lt_of_cell? w _ D)).trans D), ((HB.out.cell (World.block_lt_of_cell? w _ P)).trans P)⟩ (fun aS => ?_); clear hK K; refine nm_ 12 ?_; refine pu_ 4 13 (bl 37 31) aR ?_; refine pu_ 5 14 (bl 37 63) aR ?_; refine pu_ 6 15 (bl 37 127) aR ?_; refine pu_ 9 18 (bl 37 639) aR ?_; refine pu_ 10 19 (bl 37 1663) aR ?_; refine tk6_ 7 16 (bl 37 1791) aR aT aS ?_; refine pu_ 8 17 (bl 37 2047) aR ?_; refine pu_ 11 20 (bl 37 4095) aR ?_; refine pu_ 12 21 (bl 37 8191) aR ?_; refine pu_ 13 22 (bl 37 16383) aR ?_; refine pu_ 14 23 (bl 37 32767) aR ?_; refine tk6_ 15 24 (bl 37 65535) aR aT aS ?_; refine pu_ 16 25 (bl 37 131071) aR ?_; refine tk6_ 17 26 (bl 37 262143) aR aT aS ?_; refine pu_ 18 27 (bl 37 524287) aR ?_; refine pu_ 19 28 (bl 37 1048575) aR ?_; refine pu_ 20 29 (bl 37 2097151) aR ?_; refine pu_ 21 30 (bl 37 4194303) aR ?_; refine pu_ 23 32 (bl 37 12582911) aR ?_; refine pu_ 26 35 (bl 37 79691775) aR ?_; refine tk6_ 22 31 (bl 37 83886079) aR aT aS ?_; refine pu_ 24 33 (bl 37 100663295) aR ?_; refine tk6_ 25 34 (bl 37 134217727) aR aT aS ?_; refine tk6_ 27 36 (bl 37 268435455) aR aT aS ?_; refine pu_ 28 37 (bl 37 536870911) aR ?_; refine pu_ 29 38 (bl 37 1073741823) aR ?_; refine pu_ 30 39 (bl 37 2147483647) aR ?_; refine pu_ 31 40 (bl 37 4294967295) aR ?_; refine pn_ 32 41 (bl 37 8589934591) aR ?_; refine pn_ 33 42 (bl 37 17179869183) aR ?_; refine pn_ 34 43 (bl 37 34359738367) aR ?_; refine pn_ 35 44 (bl 37 68719476735) aR ?_; refine pu_ 36 45 (bl 37 137438953471) aR ?_; refine done_ (done_of aR.out (by kernel_rfl)) ?_
      try go_wp2
      go_meet
      case rel => exact ⟨_, (true), sI, H', lE, kQ z, bT1 HB I⟩
    ·obtain ⟨bh, bi⟩ := bn c9; have H' := aM H; clear H
     replace z := kD z; replace HB := aM (below_drew1 HB.out); have ad : 0 ≤ (0 : Int) := (by omega); have ae : 0 < (B.length : Int) := oT aO; obtain ⟨R, ao, F⟩ := Kd.at_int ac.out 0 ad ae; have D := F
     (try rw [show ((0 : Int)).toNat = 0 from rfl] at D)
     (try rw [show 0 * 1 = 0 from rfl] at D)
     (try rw [Addr.add_zero'] at D)
     cases ao; have qi202 : (0 < B.length) = True := eq_true (by omega)
     (try rw [show ((0 : Int)).toNat = 0 from rfl] at F)
     (try rw [Addr.add_zero'] at F)
     replace F := cX HB F; replace ad := eq_true ad; replace ae := eq_true ae; refine start_ (n := 37) (S := fun w' => w'.cell? ⟨G, 0, none⟩ = some (.slice L E.length M) ∧ w'.cell? ⟨G, 1, none⟩ = some (.slice V A.length W) ∧ w'.cell? ⟨G, 2, none⟩ = some (.slice (some R) B.length Q) ∧ w'.cell? ⟨G, 3, none⟩ = some (.slice Y J.length Z) ∧ w'.cell? R = some (.int .i64 (rd B 0))) (ds := []) (bl 37 0) (by kernel_rfl) rfl rfl ⟨(blk_cell z.out 0).trans rfl, (blk_cell z.out 1).trans rfl, (blk_cell z.out 2).trans rfl, (blk_cell z.out 3).trans rfl, ((HB.out.cell (World.block_lt_of_cell? w _ D)).trans D)⟩ (fun aS => ?_); refine with_tabW table_Check.tab2 table_Check.bits2 (fun aR aT => ?_); generalize w3.drew = cx at z HB F aS ⊢; refine pu_ 0 9 (bl 37 1) aR ?_; refine pu_ 2 11 (bl 37 5) aR ?_; refine tk5_ 1 10 (bl 37 7) aR aT aS ?_; refine one_ (i := 3) (N := some 12) (bl 37 15) rfl rfl (one_of aR.out (by kernel_rfl)) (by decide) (fun K hK => ?_); refine gS_ Try.func38 #[.slice L E.length M, .int .i64 (A.length : Int)] ?_
     with_reducible refine (table_tracks.calls k _ _ E (A.length : Int) true _ ?s1 ?s2 A5.out).mono ?_
     (case s1 => exact cB af HB)
     (case s2 => exact ag.out)
     rintro e cy ⟨rfl, hb⟩; refine ⟨_, rfl, ?_⟩; replace z := kB z hb; replace HB := hS1 HB I hb
     (try clear hb)
     (try clear aL)
     (try clear hk)
     (try clear hi)
     refine hK.out _ _ ⟨(blk_cell z.out 0).trans rfl, (blk_cell z.out 1).trans rfl, (blk_cell z.out 2).trans rfl, (blk_cell z.out 3).trans rfl, ((HB.out.cell (World.block_lt_of_cell? w _ D)).trans D)⟩ (fun aS => ?_); clear hK K; refine nm_ 12 ?_; refine pu_ 4 13 (bl 37 31) aR ?_; refine pu_ 5 14 (bl 37 63) aR ?_; refine pu_ 6 15 (bl 37 127) aR ?_; refine pu_ 9 18 (bl 37 639) aR ?_; refine pu_ 10 19 (bl 37 1663) aR ?_; refine tk5_ 7 16 (bl 37 1791) aR aT aS ?_; refine pu_ 8 17 (bl 37 2047) aR ?_; refine pu_ 11 20 (bl 37 4095) aR ?_; refine pu_ 12 21 (bl 37 8191) aR ?_; refine pu_ 13 22 (bl 37 16383) aR ?_; refine pu_ 14 23 (bl 37 32767) aR ?_; refine tk5_ 15 24 (bl 37 65535) aR aT aS ?_; refine pu_ 16 25 (bl 37 131071) aR ?_; refine tk5_ 17 26 (bl 37 262143) aR aT aS ?_; refine pu_ 18 27 (bl 37 524287) aR ?_; refine pu_ 19 28 (bl 37 1048575) aR ?_; refine pu_ 20 29 (bl 37 2097151) aR ?_; refine pn_ 21 30 (bl 37 4194303) aR ?_; refine pn_ 22 31 (bl 37 8388607) aR ?_; refine pn_ 23 32 (bl 37 16777215) aR ?_; refine pn_ 24 33 (bl 37 33554431) aR ?_; refine pn_ 25 34 (bl 37 67108863) aR ?_; refine pn_ 26 35 (bl 37 134217727) aR ?_; refine pn_ 27 36 (bl 37 268435455) aR ?_; refine pn_ 28 37 (bl 37 536870911) aR ?_; refine pn_ 29 38 (bl 37 1073741823) aR ?_; refine pu_ 30 39 (bl 37 2147483647) aR ?_; refine pu_ 31 40 (bl 37 4294967295) aR ?_; refine pn_ 32 41 (bl 37 8589934591) aR ?_; refine pn_ 33 42 (bl 37 17179869183) aR ?_; refine pn_ 34 43 (bl 37 34359738367) aR ?_; refine pn_ 35 44 (bl 37 68719476735) aR ?_; refine pu_ 36 45 (bl 37 137438953471) aR ?_; refine done_ (done_of aR.out (by kernel_rfl)) ?_
     try go_wp2
     go_meet
     case rel => exact ⟨_, (true), sI, H', lE, kQ z, bT1 HB I⟩
   ·obtain ⟨an, bg⟩ := bn c7
    (first | rw [an] | (simp only [i64_w, i32_w]; rw [an]) | skip)
    have H' := aM H; clear H
    replace z := kD z; replace HB := aM (below_drew1 HB.out); refine start_ (n := 37) (S := fun w' => w'.cell? ⟨G, 0, none⟩ = some (.slice L E.length M) ∧ w'.cell? ⟨G, 1, none⟩ = some (.slice V A.length W) ∧ w'.cell? ⟨G, 2, none⟩ = some (.slice ab B.length Q) ∧ w'.cell? ⟨G, 3, none⟩ = some (.slice Y J.length Z)) (ds := []) (bl 37 0) (by kernel_rfl) rfl rfl (bD4 z) (fun aS => ?_); refine with_tabW table_Check.tab2 table_Check.bits2 (fun aR aT => ?_); generalize w3.drew = cz at z HB aS ⊢; refine pu_ 0 9 (bl 37 1) aR ?_; refine pu_ 2 11 (bl 37 5) aR ?_; refine tk4_ 1 10 (bl 37 7) aR aT aS ?_; refine one_ (i := 3) (N := some 12) (bl 37 15) rfl rfl (one_of aR.out (by kernel_rfl)) (by decide) (fun K hK => ?_); refine gS_ Try.func38 #[.slice L E.length M, .int .i64 (A.length : Int)] ?_
    with_reducible refine (table_tracks.calls k _ _ E (A.length : Int) true _ ?s1 ?s2 A5.out).mono ?_
    (case s1 => exact cB af HB)
    (case s2 => exact ag.out)
    rintro e cA ⟨rfl, hb⟩; refine ⟨_, rfl, ?_⟩; replace z := kB z hb; replace HB := hS1 HB I hb
    (try clear hb)
    (try clear aL)
    (try clear hk)
    (try clear hi)
    refine hK.out _ _ (bD4 z) (fun aS => ?_); clear hK K; refine nm_ 12 ?_; refine pu_ 4 13 (bl 37 31) aR ?_; refine pu_ 5 14 (bl 37 63) aR ?_; refine pu_ 6 15 (bl 37 127) aR ?_; refine pu_ 9 18 (bl 37 639) aR ?_; refine pu_ 10 19 (bl 37 1663) aR ?_; refine tk4_ 7 16 (bl 37 1791) aR aT aS ?_; refine pu_ 8 17 (bl 37 2047) aR ?_; refine pu_ 11 20 (bl 37 4095) aR ?_; refine pu_ 12 21 (bl 37 8191) aR ?_; refine pu_ 13 22 (bl 37 16383) aR ?_; refine pn_ 14 23 (bl 37 32767) aR ?_; refine pn_ 15 24 (bl 37 65535) aR ?_; refine pn_ 16 25 (bl 37 131071) aR ?_; refine pn_ 17 26 (bl 37 262143) aR ?_; refine pn_ 18 27 (bl 37 524287) aR ?_; refine pu_ 19 28 (bl 37 1048575) aR ?_; refine pu_ 20 29 (bl 37 2097151) aR ?_; refine pn_ 21 30 (bl 37 4194303) aR ?_; refine pn_ 22 31 (bl 37 8388607) aR ?_; refine pn_ 23 32 (bl 37 16777215) aR ?_; refine pn_ 24 33 (bl 37 33554431) aR ?_; refine pn_ 25 34 (bl 37 67108863) aR ?_; refine pn_ 26 35 (bl 37 134217727) aR ?_; refine pn_ 27 36 (bl 37 268435455) aR ?_; refine pn_ 28 37 (bl 37 536870911) aR ?_; refine pn_ 29 38 (bl 37 1073741823) aR ?_; refine pu_ 30 39 (bl 37 2147483647) aR ?_; refine pu_ 31 40 (bl 37 4294967295) aR ?_; refine pn_ 32 41 (bl 37 8589934591) aR ?_; refine pn_ 33 42 (bl 37 17179869183) aR ?_; refine pn_ 34 43 (bl 37 34359738367) aR ?_; refine pn_ 35 44 (bl 37 68719476735) aR ?_; refine pu_ 36 45 (bl 37 137438953471) aR ?_; refine done_ (done_of aR.out (by kernel_rfl)) ?_
    try go_wp2
    go_meet
    case rel => exact ⟨_, (true), sI, H', lE, kQ z, bT1 HB I⟩
  ·replace c6 := Bool.eq_false_iff.mpr c6; subst c6
   rw [if_neg nF] at H; have H' := aM H; clear H
   replace z := kD z; replace HB := aM (below_drew1 HB.out); refine start_ (n := 37) (S := fun w' => w'.cell? ⟨G, 0, none⟩ = some (.slice L E.length M) ∧ w'.cell? ⟨G, 1, none⟩ = some (.slice V A.length W) ∧ w'.cell? ⟨G, 2, none⟩ = some (.slice ab B.length Q) ∧ w'.cell? ⟨G, 3, none⟩ = some (.slice Y J.length Z)) (ds := []) (bl 37 0) (by kernel_rfl) rfl rfl (bD4 z) (fun aS => ?_); refine with_tabW table_Check.tab2 table_Check.bits2 (fun aR aT => ?_); generalize w3.drew = cC at z HB aS ⊢; refine pu_ 0 9 (bl 37 1) aR ?_; refine pu_ 2 11 (bl 37 5) aR ?_; refine tk4_ 1 10 (bl 37 7) aR aT aS ?_; refine one_ (i := 3) (N := some 12) (bl 37 15) rfl rfl (one_of aR.out (by kernel_rfl)) (by decide) (fun K hK => ?_); refine gS_ Try.func38 #[.slice L E.length M, .int .i64 (A.length : Int)] ?_
   with_reducible refine (table_tracks.calls k _ _ E (A.length : Int) false _ ?s1 ?s2 A5.out).mono ?_
   (case s1 => exact cB af HB)
   (case s2 => exact ag.out)
   rintro e cD ⟨rfl, hb⟩; refine ⟨_, rfl, ?_⟩; replace z := kB z hb; replace HB := hS1 HB I hb
   (try clear hb)
   (try clear aL)
   (try clear hk)
   (try clear hi)
   refine hK.out _ _ (bD4 z) (fun aS => ?_); clear hK K; refine nm_ 12 ?_; refine pu_ 4 13 (bl 37 31) aR ?_; refine pu_ 5 14 (bl 37 63) aR ?_; refine pn_ 6 15 (bl 37 127) aR ?_; refine pn_ 7 16 (bl 37 255) aR ?_; refine pn_ 8 17 (bl 37 511) aR ?_; refine pn_ 9 18 (bl 37 1023) aR ?_; refine pn_ 10 19 (bl 37 2047) aR ?_; refine pn_ 11 20 (bl 37 4095) aR ?_; refine pu_ 12 21 (bl 37 8191) aR ?_; refine pu_ 13 22 (bl 37 16383) aR ?_; refine pn_ 14 23 (bl 37 32767) aR ?_; refine pn_ 15 24 (bl 37 65535) aR ?_; refine pn_ 16 25 (bl 37 131071) aR ?_; refine pn_ 17 26 (bl 37 262143) aR ?_; refine pn_ 18 27 (bl 37 524287) aR ?_; refine pu_ 19 28 (bl 37 1048575) aR ?_; refine pu_ 20 29 (bl 37 2097151) aR ?_; refine pn_ 21 30 (bl 37 4194303) aR ?_; refine pn_ 22 31 (bl 37 8388607) aR ?_; refine pn_ 23 32 (bl 37 16777215) aR ?_; refine pn_ 24 33 (bl 37 33554431) aR ?_; refine pn_ 25 34 (bl 37 67108863) aR ?_; refine pn_ 26 35 (bl 37 134217727) aR ?_; refine pn_ 27 36 (bl 37 268435455) aR ?_; refine pn_ 28 37 (bl 37 536870911) aR ?_; refine pn_ 29 38 (bl 37 1073741823) aR ?_; refine pu_ 30 39 (bl 37 2147483647) aR ?_; refine pu_ 31 40 (bl 37 4294967295) aR ?_; refine pn_ 32 41 (bl 37 8589934591) aR ?_; refine pn_ 33 42 (bl 37 17179869183) aR ?_; refine pn_ 34 43 (bl 37 34359738367) aR ?_; refine pn_ 35 44 (bl 37 68719476735) aR ?_; refine pu_ 36 45 (bl 37 137438953471) aR ?_; refine done_ (done_of aR.out (by kernel_rfl)) ?_
   try go_wp2
   go_meet
   case rel => exact ⟨_, (true), sI, H', lE, kQ z, bT1 HB I⟩
 case rest =>
  clear aQ
  obtain ⟨kq, am, rfl, HA, HJ1, z, HB⟩ := hcut; cases kq with
  | zero => exact absurd HA.out (by simp [table_Check.j0])
  | succ bd =>
   have H := HA.out; clear HA; simp only [table_Check.j0] at H
   by_cases aN : am = true
   ·subst aN
    rw [if_pos rfl] at H; obtain rfl := Option.some.inj H
    go_wp2
    go_ret
    exact ⟨eW, bS1 HB.out I.out⟩
   ·replace aN := Bool.eq_false_iff.mpr aN; subst aN
    rw [if_neg nF] at H; have H' := aM H; clear H
    go_wp2
    go_loopg [47] bd (fun kq cf w' => ∃ (aa : Int), cf = .int .i64 aa ∧ Aside0 (table_Check.l0 kq (A.length : Int) (A.length : Int) aa E A B J = some r) ∧ Aside0 (kq ≤ bd) ∧ Aside0 (w'.heap[G]? = some (.cells #[(.slice L E.length M), (.slice V A.length W), (.slice ab B.length Q), (.slice Y J.length Z)] 32 (0, 0))) ∧ BA w w')
    case atStart => exact ⟨(0), sI, H', ⟨Nat.le_refl _⟩, kQ z, bT1 HB I⟩
    case round =>
     clear H'
     obtain ⟨aa, rfl, HA, cJ, z, HB⟩ := hrel; cases gk with
     | zero => exact absurd HA.out (by simp [table_Check.l0])
     | succ k2 =>
      have H := HA.out; clear HA; simp only [table_Check.l0] at H
      apply iB H <;> clear H <;> intro ap H
      ·have a9 := dT ap; clear ap; apply bSx H; clear H; intro ah aY H
       apply iB H <;> clear H <;> intro aq H
       ·have ba := dT aq; have bb : decide (32 < ah.length) = true := dT (by omega); clear aq; obtain rfl := Option.some.inj H; obtain ⟨bp, br, bs, bt, bu, bv, bw, bx⟩ := bG4 z
        go_wp2_with (first | ((with_reducible refine gate_callee (f := 48) rfl ?_); refine gL_ (some 52) Try.func48 #[.agg #[.slice L E.length M, .slice V A.length W, .slice ab B.length Q, .slice Y J.length Z], .int .i64 aa] ?_; (with_reducible refine (table_rowOf.calls _ _ E _ _ A _ _ B (fun k_ => k_ < w.heap.size) _ _ J aa ah _ ?s1 ag.out ?s3 au.out ?s5 al.out ?s7 aY.out).mono ?_); (case s1 => exact cB af HB); (case s3 => exact cB ar HB); (case s5 => exact cB ac HB); (case s7 => exact Kd.V_mk aw.out (Kd.F_below (Kd.C_F k58_heap av.out) (bP1 HB I))); rintro e cE ⟨aZ, rfl, ak, hb⟩; refine ⟨_, rfl, ?_⟩; have U := aM (Kd.V_lower (Kd.V_mono (ok' := fun k_ => k_ ≠ G) ak (fun k_ hk_ => Or.elim hk_ (fun hs_ => fun e_ => Nat.not_le.2 hs_ (by rw [e_]; exact ax.out)) (fun hn_ => (Kd.freshB (g := G) (o := .cells #[.slice L E.length M, .slice V A.length W, .slice ab B.length Q, .slice Y J.length Z] 32 (0, 0)) (kO z.out) k_ hn_)))) (below_size (bP1 HB I))); replace z := kB z hb; replace HB := hS1 HB I hb; (try clear hb); (try clear ak); obtain ⟨cm, cn, bj⟩ := Kd.V_slice U.out; subst bj))
        go_ret
        exact ⟨eW, bS1 HB.out I.out⟩
       ·have ba := decide_eq_false aq; have bb : decide (32 < ah.length) = false := decide_eq_false (by omega); clear aq; apply bSx H; clear H; intro bk be H
        by_cases aP : bk = true
        ·subst aP
         rw [if_pos rfl] at H; have H' := aM H; clear H; obtain ⟨bz, bA, bB, bC, bD, bE, bF, bG⟩ := bG4 z
         go_wp2_with (first | ((with_reducible refine gate_callee (f := 48) rfl ?_); refine gL_ (some 52) Try.func48 #[.agg #[.slice L E.length M, .slice V A.length W, .slice ab B.length Q, .slice Y J.length Z], .int .i64 aa] ?_; (with_reducible refine (table_rowOf.calls _ _ E _ _ A _ _ B (fun k_ => k_ < w.heap.size) _ _ J aa ah _ ?s1 ag.out ?s3 au.out ?s5 al.out ?s7 aY.out).mono ?_); (case s1 => exact cB af HB); (case s3 => exact cB ar HB); (case s5 => exact cB ac HB); (case s7 => exact Kd.V_mk aw.out (Kd.F_below (Kd.C_F k58_heap av.out) (bP1 HB I))); rintro e cF ⟨aZ, rfl, ak, hb⟩; refine ⟨_, rfl, ?_⟩; have U := aM (Kd.V_lower (Kd.V_mono (ok' := fun k_ => k_ ≠ G) ak (fun k_ hk_ => Or.elim hk_ (fun hs_ => fun e_ => Nat.not_le.2 hs_ (by rw [e_]; exact ax.out)) (fun hn_ => (Kd.freshB (g := G) (o := .cells #[.slice L E.length M, .slice V A.length W, .slice ab B.length Q, .slice Y J.length Z] 32 (0, 0)) (kO z.out) k_ hn_)))) (below_size (bP1 HB I))); replace z := kB z hb; replace HB := hS1 HB I hb; (try clear hb); (try clear ak); obtain ⟨co, cp, bm⟩ := Kd.V_slice U.out; subst bm; obtain ⟨bH, bI, bJ, bK, bL, bM, bN, bO⟩ := bG4 z) | (go_at_call 55; (with_reducible refine (row_Right.calls k2 _ _ ah (E.length : Int) (A.length : Int) true _ ?s1 ?s2 be.out).mono ?_); (case s1 => exact cO (Kd.V_reads' U.out).2.2); (case s2 => exact (Kd.V_reads' U.out).2.1); rintro e cG ⟨rfl, hb⟩; replace U := aM (Kd.V_below (vO U.out) hb); replace z := kB z hb; replace HB := hS1 HB I hb; (try clear hb)))
         go_roundg k2
         case measure => have := HJ1.out; have := cJ.out; omega
         case rel => exact ⟨(wrap64 (aa + 1)), sI, H', ⟨by have := HJ1.out; have := cJ.out; omega⟩, kQ z, bT1 HB I⟩
        ·replace aP := Bool.eq_false_iff.mpr aP; subst aP
         rw [if_neg nF] at H; obtain rfl := Option.some.inj H; obtain ⟨bP, bQ, bR, bS, bT, bU, bV, bW⟩ := bG4 z
         go_wp2_with (first | ((with_reducible refine gate_callee (f := 48) rfl ?_); refine gL_ (some 52) Try.func48 #[.agg #[.slice L E.length M, .slice V A.length W, .slice ab B.length Q, .slice Y J.length Z], .int .i64 aa] ?_; (with_reducible refine (table_rowOf.calls _ _ E _ _ A _ _ B (fun k_ => k_ < w.heap.size) _ _ J aa ah _ ?s1 ag.out ?s3 au.out ?s5 al.out ?s7 aY.out).mono ?_); (case s1 => exact cB af HB); (case s3 => exact cB ar HB); (case s5 => exact cB ac HB); (case s7 => exact Kd.V_mk aw.out (Kd.F_below (Kd.C_F k58_heap av.out) (bP1 HB I))); rintro e cH ⟨aZ, rfl, ak, hb⟩; refine ⟨_, rfl, ?_⟩; have U := aM (Kd.V_lower (Kd.V_mono (ok' := fun k_ => k_ ≠ G) ak (fun k_ hk_ => Or.elim hk_ (fun hs_ => fun e_ => Nat.not_le.2 hs_ (by rw [e_]; exact ax.out)) (fun hn_ => (Kd.freshB (g := G) (o := .cells #[.slice L E.length M, .slice V A.length W, .slice ab B.length Q, .slice Y J.length Z] 32 (0, 0)) (kO z.out) k_ hn_)))) (below_size (bP1 HB I))); replace z := kB z hb; replace HB := hS1 HB I hb; (try clear hb); (try clear ak); obtain ⟨cq, cr, bo⟩ := Kd.V_slice U.out; subst bo; obtain ⟨bX, bY, bZ, b0, b1, b2, b3, b4⟩ := bG4 z) | (go_at_call 55; (with_reducible refine (row_Right.calls k2 _ _ ah (E.length : Int) (A.length : Int) false _ ?s1 ?s2 be.out).mono ?_); (case s1 => exact cO (Kd.V_reads' U.out).2.2); (case s2 => exact (Kd.V_reads' U.out).2.1); rintro e cI ⟨rfl, hb⟩; replace U := aM (Kd.V_below (vO U.out) hb); replace z := kB z hb; replace HB := hS1 HB I hb; (try clear hb)))
         go_ret
         exact ⟨eW, bS1 HB.out I.out⟩
      ·have a9 := decide_eq_false ap; clear ap; obtain rfl := Option.some.inj H
       go_wp2
       go_ret
       exact ⟨eW, bS1 HB.out I.out⟩

end Go.Proofs.Ytghfclgcgecgdaa.X

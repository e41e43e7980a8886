/- What the functions of this seat compute, and that the program's calls come to just that: written by this session's own program out of the translation; no condition. -/
import Derived.Test.YtninoenmhcbonaaX0
import Derived.Test.YtninoenmhcbonaaX36
namespace Go.Proofs.Ytninoenmhcbonaa.X
open Go.RowKit Go.Proofs.YtninoenmhcbonaaW.PrintWords Go.Proofs.YtninoenmhcbonaaW.PrintLast Go.Proofs.YtninoenmhcbonaaW.PrintMore
attribute [local go_sem] max2_int min2_int max_two min_two max_three min_three max_four min_four
set_option linter.unusedVariables false
set_option linter.unusedSimpArgs false
set_option maxHeartbeats 8000000
set_option maxRecDepth 100000

/-! ### tabardref12_Unpack: function 16 -/
mutual
def tabardref12_Unpack.j0 : Nat → Int → Bool → List ByteArray → List Bool → List Int → List (S73) → Option (List ByteArray × List Bool × (List (List Int)) × Bool)
 | 0, _, _, _, _, _, _ => none
 | k + 1, x4, x44, x500000, x500001, x500002, x500003 => if x44 = true then (some (([] : List ByteArray), ([] : List Bool), ([] : List (List Int)), false)) else (tabardref12_Unpack.l0 k x4 0 x500000 x500001 x500002 x500003)
def tabardref12_Unpack.l0 : Nat → Int → Int → List ByteArray → List Bool → List Int → List (S73) → Option (List ByteArray × List Bool × (List (List Int)) × Bool)
 | 0, _, _, _, _, _, _ => none
 | k + 1, x4, x5, x500000, x500001, x500002, x500003 => if x5 < x4 then (if 0 ≤ x5 then (if x5 < (x500002.length : Int) then (if 0 ≤ (wrap64 (x5 + 1)) then (if (wrap64 (x5 + 1)) < (x500002.length : Int) then (if (rd x500002 x5) > (rd x500002 (wrap64 (x5 + 1))) then (some (([] : List ByteArray), ([] : List Bool), ([] : List (List Int)), false)) else (tabardref12_Unpack.l0 k x4 (wrap64 (x5 + 1)) x500000 x500001 x500002 x500003)) else (none)) else (none)) else (none)) else (none)) else ((some (([] : List ByteArray) : List ByteArray)).bind fun y506 => (if y506.length + x500000.length < 8796093022208 then ((some (([] : List Bool) : List Bool)).bind fun y512 => (if y512.length + x500001.length < 140737488355328 then (tabardref12_Unpack.l1 k x4 0 x500000 x500001 x500002 x500003 (y506 ++ x500000) (y512 ++ x500001) ([] : List (List Int))) else (none))) else (none)))
def tabardref12_Unpack.l1 : Nat → Int → Int → List ByteArray → List Bool → List Int → List (S73) → List ByteArray → List Bool → List (List Int) → Option (List ByteArray × List Bool × (List (List Int)) × Bool)
 | 0, _, _, _, _, _, _, _, _, _ => none
 | k + 1, x4, x7, x500000, x500001, x500002, x500003, x519000, x519001, x519002 => if x7 < x4 then (if 0 ≤ x7 then (if x7 < (x500002.length : Int) then (if 0 ≤ (wrap64 (x7 + 1)) then (if (wrap64 (x7 + 1)) < (x500002.length : Int) then (if 0 ≤ (rd x500002 x7) then (if (rd x500002 x7) ≤ (rd x500002 (wrap64 (x7 + 1))) then (if (rd x500002 (wrap64 (x7 + 1))) ≤ (x500003.length : Int) then ((some ((x500003.take ((rd x500002 (wrap64 (x7 + 1))) : Int).toNat).drop ((rd x500002 x7) : Int).toNat : List (S73))).bind fun y521 => (if (y521.length : Int) > 32 then (some (([] : List ByteArray), ([] : List Bool), ([] : List (List Int)), false)) else ((tabardref11_Right.f k y521 (x500000.length : Int) x4).bind fun t525 => (if t525 = true then ((tabardref11_Unpack.f k y521 (x500000.length : Int)).bind fun bt526 => (if x519002.length < 5864062014805 then (tabardref12_Unpack.l1 k x4 (wrap64 (x7 + 1)) x500000 x500001 x500002 x500003 x519000 x519001 (x519002 ++ [bt526.1])) else (none))) else (some (([] : List ByteArray), ([] : List Bool), ([] : List (List Int)), false)))))) else (none)) else (none)) else (none)) else (none)) else (none)) else (none)) else (none)) else (some (x519000, x519001, x519002, true))
end
def tabardref12_Unpack.f (k : Nat) (l0_0 : List ByteArray) (l0_1 : List Bool) (l0_2 : List Int) (l0_3 : List (S73)) : Option (List ByteArray × List Bool × (List (List Int)) × Bool) := (tabardref12_Frame.f k l0_0 (l0_1.length : Int)).bind fun t501 => (if t501 = true then (if (l0_2.length : Int) = (wrap64 ((l0_1.length : Int) + 1)) then (if 0 < (l0_2.length : Int) then (if (rd l0_2 0) = 0 then (if 0 ≤ (l0_1.length : Int) then (if (l0_1.length : Int) < (l0_2.length : Int) then (tabardref12_Unpack.j0 k (l0_1.length : Int) ((rd l0_2 (l0_1.length : Int)) != (l0_3.length : Int)) l0_0 l0_1 l0_2 l0_3) else (none)) else (none)) else (tabardref12_Unpack.j0 k (l0_1.length : Int) true l0_0 l0_1 l0_2 l0_3)) else (none)) else (tabardref12_Unpack.j0 k (l0_1.length : Int) true l0_0 l0_1 l0_2 l0_3)) else (tabardref12_Unpack.j0 k (l0_1.length : Int) true l0_0 l0_1 l0_2 l0_3))
theorem tabardref12_Unpack.mono_l : ∀ k, (∀ y0 y1 y2 y3 y4 y5, LeO (tabardref12_Unpack.j0 k y0 y1 y2 y3 y4 y5) (tabardref12_Unpack.j0 (k + 1) y0 y1 y2 y3 y4 y5)) ∧ (∀ y0 y1 y2 y3 y4 y5, LeO (tabardref12_Unpack.l0 k y0 y1 y2 y3 y4 y5) (tabardref12_Unpack.l0 (k + 1) y0 y1 y2 y3 y4 y5)) ∧ (∀ y0 y1 y2 y3 y4 y5 y6 y7 y8, LeO (tabardref12_Unpack.l1 k y0 y1 y2 y3 y4 y5 y6 y7 y8) (tabardref12_Unpack.l1 (k + 1) y0 y1 y2 y3 y4 y5 y6 y7 y8))
 | 0 => ⟨fun _ _ _ _ _ _ r h => by simp [tabardref12_Unpack.j0] at h, fun _ _ _ _ _ _ r h => by simp [tabardref12_Unpack.l0] at h, fun _ _ _ _ _ _ _ _ _ r h => by simp [tabardref12_Unpack.l1] at h⟩
 | k + 1 => by
  obtain ⟨ih0, ih1, ih2⟩ := tabardref12_Unpack.mono_l k; refine ⟨?_, ?_, ?_⟩
  ·intro y0 y1 y2 y3 y4 y5
   unfold tabardref12_Unpack.j0
   repeat' first | (with_reducible first | exact ih0 _ _ _ _ _ _ | exact ih1 _ _ _ _ _ _ | exact ih2 _ _ _ _ _ _ _ _ _ | exact tabardref11_Right.mono _ _ _ _ | exact tabardref11_Unpack.mono _ _ _ | exact tabardref12_Frame.mono _ _ _ | exact lA | apply lI | refine lB ?_ fun _ => ?_) | exact lN _ | apply lI | refine lB ?_ fun _ => ?_
  ·intro y0 y1 y2 y3 y4 y5
   unfold tabardref12_Unpack.l0
   repeat' first | (with_reducible first | exact ih0 _ _ _ _ _ _ | exact ih1 _ _ _ _ _ _ | exact ih2 _ _ _ _ _ _ _ _ _ | exact tabardref11_Right.mono _ _ _ _ | exact tabardref11_Unpack.mono _ _ _ | exact tabardref12_Frame.mono _ _ _ | exact lA | apply lI | refine lB ?_ fun _ => ?_) | exact lN _ | apply lI | refine lB ?_ fun _ => ?_
  ·intro y0 y1 y2 y3 y4 y5 y6 y7 y8
   unfold tabardref12_Unpack.l1
   repeat' first | (with_reducible first | exact ih0 _ _ _ _ _ _ | exact ih1 _ _ _ _ _ _ | exact ih2 _ _ _ _ _ _ _ _ _ | exact tabardref11_Right.mono _ _ _ _ | exact tabardref11_Unpack.mono _ _ _ | exact tabardref12_Frame.mono _ _ _ | exact lA | apply lI | refine lB ?_ fun _ => ?_) | exact lN _ | apply lI | refine lB ?_ fun _ => ?_
theorem tabardref12_Unpack.mono : ∀ a0 a1 a2 a3 k, LeO (tabardref12_Unpack.f k a0 a1 a2 a3) (tabardref12_Unpack.f (k + 1) a0 a1 a2 a3) := by
 intro a0 a1 a2 a3 k; obtain ⟨ih0, ih1, ih2⟩ := tabardref12_Unpack.mono_l k
 unfold tabardref12_Unpack.f
 repeat' first | (with_reducible first | exact ih0 _ _ _ _ _ _ | exact ih1 _ _ _ _ _ _ | exact ih2 _ _ _ _ _ _ _ _ _ | exact tabardref11_Right.mono _ _ _ _ | exact tabardref11_Unpack.mono _ _ _ | exact tabardref12_Frame.mono _ _ _ | exact lA | apply lI | refine lB ?_ fun _ => ?_) | exact lN _ | apply lI | refine lB ?_ fun _ => ?_
def tabardref12_Unpack.T2 : Bool × List (List Nat × List Nat) := (true, [([], []), ([0], [0]), ([], []), ([1, 2], [1, 2]), ([3], [3]), ([4, 3], [4]), ([5], [5]), ([6, 5], [5, 6]), ([7, 5], [5, 7]), ([5], [5]), ([9, 5], [5, 9]), ([8, 10, 5], [5, 8, 10]), ([5, 11], [5, 11]), ([12, 5], [12]), ([13], [13]), ([14, 13], [13, 14]), ([15, 13], [13, 15]), ([16, 13], [13, 16]), ([17, 13], [13, 17]), ([13, 18], [13, 18]), ([19, 13], [19]), ([20], [20]), ([21, 20], [20, 21]), ([20], [20]), ([22, 23, 20], [20, 22, 23]), ([24, 20], [20, 24]), ([20], [20]), ([26, 20], [20, 26]), ([27, 20], [20, 27]), ([25, 28, 20], [20, 25, 28]), ([20, 29], [20, 29])])
def tabardref12_Unpack.B2 : List Nat := [0, 1, 0, 7, 15, 31, 63, 127, 255, 63, 575, 2047, 4095, 8191, 16383, 32767, 65535, 131071, 262143, 524287, 1048575, 2097151, 4194303, 2097151, 16777215, 33554431, 2097151, 69206015, 203423743, 536870911, 1073741823]
theorem tabardref12_Unpack.tab2 : rtab .any (opsOf Try.f16 2) = tabardref12_Unpack.T2 := by kernel_rfl
theorem tabardref12_Unpack.bits2 : waitsOk tabardref12_Unpack.T2.2 tabardref12_Unpack.B2 = true := by kernel_rfl
def tabardref12_Unpack.T7 : Bool × List (List Nat × List Nat) := (true, [([], []), ([0], [0]), ([], []), ([1, 2], [1, 2]), ([3], [3]), ([], []), ([5], [5]), ([], []), ([7], [7]), ([6, 8], [6, 8]), ([9], [9]), ([4, 10], [4, 10])])
def tabardref12_Unpack.B7 : List Nat := [0, 1, 0, 7, 15, 0, 32, 0, 128, 480, 992, 2047]
theorem tabardref12_Unpack.tab7 : rtab .any (opsOf Try.f16 7) = tabardref12_Unpack.T7 := by kernel_rfl
theorem tabardref12_Unpack.bits7 : waitsOk tabardref12_Unpack.T7.2 tabardref12_Unpack.B7 = true := by kernel_rfl
def tabardref12_Unpack.T9 : Bool × List (List Nat × List Nat) := (true, [([], []), ([], []), ([1], [1]), ([0, 2], [0, 2]), ([], []), ([], []), ([5], [5]), ([4, 6, 3], [4, 6]), ([3, 7], [3, 7]), ([], []), ([9, 8, 7, 0, 1, 2, 3, 4, 5, 6, 7, 8, 9], [8, 9])])
def tabardref12_Unpack.B9 : List Nat := [0, 0, 2, 7, 0, 0, 32, 127, 255, 0, 1023]
theorem tabardref12_Unpack.tab9 : rtab .any (opsOf Try.f16 9) = tabardref12_Unpack.T9 := by kernel_rfl
theorem tabardref12_Unpack.bits9 : waitsOk tabardref12_Unpack.T9.2 tabardref12_Unpack.B9 = true := by kernel_rfl
def tabardref12_Unpack.T13 : Bool × List (List Nat × List Nat) := (true, [([], []), ([0], [0]), ([], []), ([2], [2]), ([], []), ([3, 4], [3, 4]), ([5], [5]), ([], []), ([7], [7]), ([], []), ([9], [9]), ([8, 10], [8, 10]), ([11], [11]), ([1, 6, 12], [1, 6, 12]), ([13, 0, 1, 2, 3, 4, 5, 6, 7, 8, 9, 10, 11, 12, 13], [13])])
def tabardref12_Unpack.B13 : List Nat := [0, 1, 0, 4, 0, 28, 60, 0, 128, 0, 512, 1920, 3968, 8191, 16383]
theorem tabardref12_Unpack.tab13 : rtab .any (opsOf Try.f16 13) = tabardref12_Unpack.T13 := by kernel_rfl
theorem tabardref12_Unpack.bits13 : waitsOk tabardref12_Unpack.T13.2 tabardref12_Unpack.B13 = true := by kernel_rfl
theorem tabardref12_Unpack.calls (k : Nat) (aq : Option Addr) (ar : Nat) (ac : List ByteArray) (aw : Option Addr) (ax : Nat) (U : List Bool) (a6 : Option Addr) (ay : Nat) (F : List Int) (aj : Option Addr) (ai : Nat) (ab : List (S73)) (r1 : List ByteArray) (r2 : List Bool) (r3 : List (List Int)) (r4 : Bool) (w : World) (cS : Kd.C Kd.string w aq ac.length ac) (cT : ac.length ≤ ar) (cU : Kd.C Kd.bool w aw U.length U) (cV : U.length ≤ ax) (cW : Kd.C (Kd.int .i64) w a6 F.length F) (cY : F.length ≤ ay) (cZ : Kd.C k73 w aj ab.length ab) (c0 : ab.length ≤ ai) (h : tabardref12_Unpack.f k ac U F ab = some (r1, r2, r3, r4)) :
  Calls Try.prog 16 #[.agg #[.slice aq ac.length ar, .slice aw U.length ax, .slice a6 F.length ay, .slice aj ab.length ai]] w fun e w' => ∃ d7 d8 d9 : Value, e = .returned (.tuple #[.agg #[d7, d8, d9], .bool r4]) ∧ Kd.R Kd.string 9 w' w.heap.size (fun _ => True) d7 r1 ∧ Kd.R Kd.bool 4 w' w.heap.size (fun _ => True) d8 r2 ∧ Kd.S (Kd.slice 3 (Kd.int .i64)) 24 w' w.heap.size (fun _ => True) d9 r3 ∧ Below w.heap.size w w' := by
 have hu27 := Try.underlying27; have hu45 := Try.underlying45; have be := aM cS; have bN := aM cT; clear cS cT; have c2 := aM cU; have fX := aM cV; clear cU cV; have aK := aM cW; have fY := aM cY; clear cW cY; have ce := aM cZ; have cf := aM c0; clear cZ c0; have HB := aM (Below.refl w.heap.size w); rw [tabardref12_Unpack.f] at h; have H := h; clear h; have dw := aM H; clear H
 go_enter Try.func16, Try.ntmps16
 go_upto_region 2 with (first | ((with_reducible refine gate_dst (N := 1) rfl ?_); (try (refine gate_guard (by rfl) ?_; dsimp only)); refine be_ (cs := #[.slice aq ac.length ar, .slice aw U.length ax, .slice a6 F.length ay, .slice aj ab.length ai]) (t := 27) ?_; intro O hg w3 hbox hb; have z := aM (hbox); have fZ := gE hg (bP0 HB); have B := gE hg (bP0 HB); replace HB := hS0 HB hb; clear hb hbox hg) | ((with_reducible refine gate_dst (N := 2) rfl ?_); (try (refine gate_guard (by rfl) ?_; dsimp only)); refine be_ (cs := #[.slice none 0 0, .slice none 0 0, .slice none 0 0]) (t := 45) ?_; intro al hg w4 hbox hb; have A := aM (hbox); have f0 := gE hg (bP1 HB B); have E := gE hg (bP1 HB B); replace HB := hS1 HB B hb; have aD := nL hg z; have aE := nG hg z; replace z := kB z hb; clear hb hbox hg; have gN := aD.out; have gO := aE.out; obtain ⟨fG, fH, fI, fJ, fK, fL, fM, fN⟩ := bG4 z))
 (try simp only [Act.put, sA, sB, sC])
 go_cut [44] (fun fO wc => ∃ (kq : Nat) (bO : Bool), fO = .bool bO ∧ Aside0 (tabardref12_Unpack.j0 kq (U.length : Int) bO ac U F ab = some (r1, r2, r3, r4)) ∧ Aside0 (kq ≤ k) ∧ Aside0 (wc.heap[O]? = some (.cells #[(.slice aq ac.length ar), (.slice aw U.length ax), (.slice a6 F.length ay), (.slice aj ab.length ai)] 27 (0, 0))) ∧ Aside0 (wc.heap[al]? = some (.cells #[(.slice none 0 0), (.slice none 0 0), (.slice none 0 0)] 45 (0, 0))) ∧ BA w wc)
 case first =>
  have H := dw.out; clear dw; replace H := Option.bind_eq_some_iff.mp H; obtain ⟨eg, ea, H⟩ := H; have A7 := aM ea; clear ea
  by_cases c8 : eg = true
  ·subst c8
   rw [if_pos rfl] at H
   by_cases c9 : (F.length : Int) = (wrap64 ((U.length : Int) + 1))
   ·rw [if_pos c9] at H; obtain ⟨bX, eh⟩ := bq c9; clear c9
    (first | rw [bX] | (simp only [i64_w, i32_w]; rw [bX]) | skip)
    by_cases c3 : 0 < (F.length : Int)
    ·rw [if_pos c3] at H; have f1 := dT c3; have f2 : decide (0 < F.length) = true := dT (by omega); clear c3
     by_cases cx : (rd F 0) = 0
     ·rw [if_pos cx] at H; obtain ⟨dS, dU⟩ := bq cx; clear cx
      by_cases c4 : 0 ≤ (U.length : Int)
      ·rw [if_pos c4] at H; have f3 := dT c4; have f4 : decide (0 ≤ U.length) = true := dT (by omega); clear c4
       by_cases cy : (U.length : Int) < (F.length : Int)
       ·rw [if_pos cy] at H; have f5 := dT cy; have f6 : decide (U.length < F.length) = true := dT (Int.ofNat_lt.mp cy); clear cy; have H' := aM H; clear H
        replace z := kD z; replace A := kD A; replace HB := aM (below_drew1 HB.out); have bA : 0 ≤ (0 : Int) := (by omega); have bB : 0 < (F.length : Int) := oT aO; obtain ⟨bj, cE, ap⟩ := Kd.at_int aK.out 0 bA bB; have am := ap
        (try rw [show ((0 : Int)).toNat = 0 from rfl] at am)
        (try rw [show 0 * 1 = 0 from rfl] at am)
        (try rw [Addr.add_zero'] at am)
        cases cE; have qi502 : (0 < F.length) = True := eq_true (by omega)
        (try rw [show ((0 : Int)).toNat = 0 from rfl] at ap)
        (try rw [Addr.add_zero'] at ap)
        replace ap := cX HB ap; replace bA := eq_true bA; replace bB := eq_true bB; have cF : 0 ≤ ((U.length : Int) : Int) := oT aO; have cG : (U.length : Int) < (F.length : Int) := oT aO; obtain ⟨dV, ei, bg⟩ := Kd.at_int aK.out (U.length : Int) cF cG; have br := bg; have he_ : bj = dV := (by injection ei); subst he_; replace bg := cX HB bg
        (try simp only [Go.IntWalk.toNatUp] at bg)
        replace cF := eq_true cF; replace cG := eq_true cG; refine start_ (n := 31) (S := fun w' => w'.cell? ⟨O, 0, none⟩ = some (.slice aq ac.length ar) ∧ w'.cell? ⟨O, 1, none⟩ = some (.slice aw U.length ax) ∧ w'.cell? ⟨O, 2, none⟩ = some (.slice (some bj) F.length ay) ∧ w'.cell? ⟨O, 3, none⟩ = some (.slice aj ab.length ai) ∧ w'.cell? bj = some (.int .i64 (rd F 0)) ∧ w'.cell? (bj.add U.length) = some (.int .i64 (rd F (U.length : Int)))) (ds := []) (bl 31 0) (by kernel_rfl) rfl rfl ⟨(blk_cell z.out 0).trans rfl, (blk_cell z.out 1).trans rfl, (blk_cell z.out 2).trans rfl, (blk_cell z.out 3).trans rfl, ((HB.out.cell (World.block_lt_of_cell? w _ am)).trans am), ((HB.out.cell (World.block_lt_of_cell? w _ br)).trans br)⟩ (fun hHeld => ?_); refine with_tabW tabardref12_Unpack.tab2 tabardref12_Unpack.bits2 (fun HT_ HW_ => ?_); generalize w4.drew = gT at z A HB ap bg hHeld ⊢; refine pu_ 0 14 (bl 31 1) HT_ ?_; refine pu_ 2 16 (bl 31 5) HT_ ?_; refine tk6_ 1 15 (bl 31 7) HT_ HW_ hHeld ?_; refine one_ (i := 3) (N := some 17) (bl 31 15) rfl rfl (one_of HT_.out (by kernel_rfl)) (by decide) (fun K hK => ?_); refine gS_ Try.func34 #[.slice aq ac.length ar, .int .i64 (U.length : Int)] ?_
        with_reducible refine (tabardref12_Frame.calls k _ _ ac (U.length : Int) true _ ?s1 ?s2 A7.out).mono ?_
        (case s1 => exact cB be HB)
        (case s2 => exact bN.out)
        rintro e gU ⟨rfl, hb⟩; refine ⟨_, rfl, ?_⟩; replace z := kB z hb; replace A := kB A hb; replace HB := hS2 HB B E hb
        (try clear hb)
        (try clear dy)
        (try clear hk)
        (try clear hi)
        refine hK.out _ _ ⟨(blk_cell z.out 0).trans rfl, (blk_cell z.out 1).trans rfl, (blk_cell z.out 2).trans rfl, (blk_cell z.out 3).trans rfl, ((HB.out.cell (World.block_lt_of_cell? w _ am)).trans am), ((HB.out.cell (World.block_lt_of_cell? w _ br)).trans br)⟩ (fun hHeld => ?_); clear hK K; refine nm_ 17 ?_; refine pu_ 4 18 (bl 31 31) HT_ ?_; refine pu_ 5 19 (bl 31 63) HT_ ?_; refine pu_ 6 20 (bl 31 127) HT_ ?_; refine pu_ 9 23 (bl 31 639) HT_ ?_; refine pu_ 10 24 (bl 31 1663) HT_ ?_; refine tk6_ 7 21 (bl 31 1791) HT_ HW_ hHeld ?_; refine pu_ 8 22 (bl 31 2047) HT_ ?_; refine pu_ 11 25 (bl 31 4095) HT_ ?_; refine pu_ 12 26 (bl 31 8191) HT_ ?_; refine pu_ 13 27 (bl 31 16383) HT_ ?_; refine pu_ 14 28 (bl 31 32767) HT_ ?_; refine tk6_ 15 29 (bl 31 65535) HT_ HW_ hHeld ?_; refine pu_ 16 30 (bl 31 131071) HT_ ?_; refine tk6_ 17 31 (bl 31 262143) HT_ HW_ hHeld ?_; refine pu_ 18 32 (bl 31 524287) HT_ ?_; refine pu_ 19 33 (bl 31 1048575) HT_ ?_; refine pu_ 20 34 (bl 31 2097151) HT_ ?_; refine pu_ 21 35 (bl 31 4194303) HT_ ?_; refine pu_ 23 37 (bl 31 12582911) HT_ ?_; refine pu_ 26 40 (bl 31 79691775) HT_ ?_; refine tk6_ 22 36 (bl 31 83886079) HT_ HW_ hHeld ?_; refine pu_ 24 38 (bl 31 100663295) HT_ ?_; refine tk6_ 25 39 (bl 31 134217727) HT_ HW_ hHeld ?_; refine tk6_ 27 41 (bl 31 268435455) HT_ HW_ hHeld ?_; refine pu_ 28 42 (bl 31 536870911) HT_ ?_; refine pu_ 29 43 (bl 31 1073741823) HT_ ?_; refine pu_ 30 44 (bl 31 2147483647) HT_ ?_; refine done_ (done_of HT_.out (by kernel_rfl)) ?_
        try go_wp2
        go_meet
        case rel => exact ⟨_, (((rd F (U.length : Int)) != (ab.length : Int))), sI, H', ⟨by first | omega | exact Nat.le_refl _⟩, kQ z, kQ A, bT2 HB B E⟩
       ·exact nX cy H
      ·exact nX c4 H
     ·rw [if_neg cx] at H; obtain ⟨dS, dU⟩ := bn cx; have H' := aM H; clear H
      replace z := kD z; replace A := kD A; replace HB := aM (below_drew1 HB.out); have bA : 0 ≤ (0 : Int) := (by omega); have bB : 0 < (F.length : Int) := oT aO; obtain ⟨bj, cE, ap⟩ := Kd.at_int aK.out 0 bA bB; have am := ap
      (try rw [show ((0 : Int)).toNat = 0 from rfl] at am)
      (try rw [show 0 * 1 = 0 from rfl] at am)
      (try rw [Addr.add_zero'] at am)
      cases cE; have qi502 : (0 < F.length) = True := eq_true (by omega)
      (try rw [show ((0 : Int)).toNat = 0 from rfl] at ap)
      (try rw [Addr.add_zero'] at ap)
      replace ap := cX HB ap; replace bA := eq_true bA; replace bB := eq_true bB; refine start_ (n := 31) (S := fun w' => w'.cell? ⟨O, 0, none⟩ = some (.slice aq ac.length ar) ∧ w'.cell? ⟨O, 1, none⟩ = some (.slice aw U.length ax) ∧ w'.cell? ⟨O, 2, none⟩ = some (.slice (some bj) F.length ay) ∧ w'.cell? ⟨O, 3, none⟩ = some (.slice aj ab.length ai) ∧ w'.cell? bj = some (.int .i64 (rd F 0))) (ds := []) (bl 31 0) (by kernel_rfl) rfl rfl ⟨(blk_cell z.out 0).trans rfl, (blk_cell z.out 1).trans rfl, (blk_cell z.out 2).trans rfl, (blk_cell z.out 3).trans rfl, ((HB.out.cell (World.block_lt_of_cell? w _ am)).trans am)⟩ (fun hHeld => ?_); refine with_tabW tabardref12_Unpack.tab2 tabardref12_Unpack.bits2 (fun HT_ HW_ => ?_); generalize w4.drew = gV at z A HB ap hHeld ⊢; refine pu_ 0 14 (bl 31 1) HT_ ?_; refine pu_ 2 16 (bl 31 5) HT_ ?_; refine tk5_ 1 15 (bl 31 7) HT_ HW_ hHeld ?_; refine one_ (i := 3) (N := some 17) (bl 31 15) rfl rfl (one_of HT_.out (by kernel_rfl)) (by decide) (fun K hK => ?_); refine gS_ Try.func34 #[.slice aq ac.length ar, .int .i64 (U.length : Int)] ?_
      with_reducible refine (tabardref12_Frame.calls k _ _ ac (U.length : Int) true _ ?s1 ?s2 A7.out).mono ?_
      (case s1 => exact cB be HB)
      (case s2 => exact bN.out)
      rintro e gW ⟨rfl, hb⟩; refine ⟨_, rfl, ?_⟩; replace z := kB z hb; replace A := kB A hb; replace HB := hS2 HB B E hb
      (try clear hb)
      (try clear dy)
      (try clear hk)
      (try clear hi)
      refine hK.out _ _ ⟨(blk_cell z.out 0).trans rfl, (blk_cell z.out 1).trans rfl, (blk_cell z.out 2).trans rfl, (blk_cell z.out 3).trans rfl, ((HB.out.cell (World.block_lt_of_cell? w _ am)).trans am)⟩ (fun hHeld => ?_); clear hK K; refine nm_ 17 ?_; refine pu_ 4 18 (bl 31 31) HT_ ?_; refine pu_ 5 19 (bl 31 63) HT_ ?_; refine pu_ 6 20 (bl 31 127) HT_ ?_; refine pu_ 9 23 (bl 31 639) HT_ ?_; refine pu_ 10 24 (bl 31 1663) HT_ ?_; refine tk5_ 7 21 (bl 31 1791) HT_ HW_ hHeld ?_; refine pu_ 8 22 (bl 31 2047) HT_ ?_; refine pu_ 11 25 (bl 31 4095) HT_ ?_; refine pu_ 12 26 (bl 31 8191) HT_ ?_; refine pu_ 13 27 (bl 31 16383) HT_ ?_; refine pu_ 14 28 (bl 31 32767) HT_ ?_; refine tk5_ 15 29 (bl 31 65535) HT_ HW_ hHeld ?_; refine pu_ 16 30 (bl 31 131071) HT_ ?_; refine tk5_ 17 31 (bl 31 262143) HT_ HW_ hHeld ?_; refine pu_ 18 32 (bl 31 524287) HT_ ?_; refine pu_ 19 33 (bl 31 1048575) HT_ ?_; refine pu_ 20 34 (bl 31 2097151) HT_ ?_; refine pn_ 21 35 (bl 31 4194303) HT_ ?_; refine pn_ 22 36 (bl 31 8388607) HT_ ?_; refine pn_ 23 37 (bl 31 16777215) HT_ ?_; refine pn_ 24 38 (bl 31 33554431) HT_ ?_; refine pn_ 25 39 (bl 31 67108863) HT_ ?_; refine pn_ 26 40 (bl 31 134217727) HT_ ?_; refine pn_ 27 41 (bl 31 268435455) HT_ ?_; refine pn_ 28 42 (bl 31 536870911) HT_ ?_; refine pn_ 29 43 (bl 31 1073741823) HT_ ?_; refine pu_ 30 44 (bl 31 2147483647) HT_ ?_; refine done_ (done_of HT_.out (by kernel_rfl)) ?_
      try go_wp2
      go_meet
      case rel => exact ⟨_, (true), sI, H', ⟨by first | omega | exact Nat.le_refl _⟩, kQ z, kQ A, bT2 HB B E⟩
    ·exact nX c3 H
   ·rw [if_neg c9] at H; obtain ⟨bX, eh⟩ := bn c9
    (first | rw [bX] | (simp only [i64_w, i32_w]; rw [bX]) | skip)
    have H' := aM H; clear H
    try go_wp2
    replace z := kD z; replace A := kD A; replace HB := aM (below_drew1 HB.out); refine start_ (n := 31) (S := fun w' => w'.cell? ⟨O, 0, none⟩ = some (.slice aq ac.length ar) ∧ w'.cell? ⟨O, 1, none⟩ = some (.slice aw U.length ax) ∧ w'.cell? ⟨O, 2, none⟩ = some (.slice a6 F.length ay) ∧ w'.cell? ⟨O, 3, none⟩ = some (.slice aj ab.length ai)) (ds := []) (bl 31 0) (by kernel_rfl) rfl rfl (bD4 z) (fun hHeld => ?_); refine with_tabW tabardref12_Unpack.tab2 tabardref12_Unpack.bits2 (fun HT_ HW_ => ?_); generalize w4.drew = gX at z A HB hHeld ⊢; refine pu_ 0 14 (bl 31 1) HT_ ?_; refine pu_ 2 16 (bl 31 5) HT_ ?_; refine tk4_ 1 15 (bl 31 7) HT_ HW_ hHeld ?_; refine one_ (i := 3) (N := some 17) (bl 31 15) rfl rfl (one_of HT_.out (by kernel_rfl)) (by decide) (fun K hK => ?_); refine gS_ Try.func34 #[.slice aq ac.length ar, .int .i64 (U.length : Int)] ?_
    with_reducible refine (tabardref12_Frame.calls k _ _ ac (U.length : Int) true _ ?s1 ?s2 A7.out).mono ?_
    (case s1 => exact cB be HB)
    (case s2 => exact bN.out)
    rintro e gY ⟨rfl, hb⟩; refine ⟨_, rfl, ?_⟩; replace z := kB z hb; replace A := kB A hb; replace HB := hS2 HB B E hb
    (try clear hb)
    (try clear dy)
    (try clear hk)
    (try clear hi)
    refine hK.out _ _ (bD4 z) (fun hHeld => ?_); clear hK K; refine nm_ 17 ?_; refine pu_ 4 18 (bl 31 31) HT_ ?_; refine pu_ 5 19 (bl 31 63) HT_ ?_; refine pu_ 6 20 (bl 31 127) HT_ ?_; refine pu_ 9 23 (bl 31 639) HT_ ?_; refine pu_ 10 24 (bl 31 1663) HT_ ?_; refine tk4_ 7 21 (bl 31 1791) HT_ HW_ hHeld ?_; refine pu_ 8 22 (bl 31 2047) HT_ ?_; refine pu_ 11 25 (bl 31 4095) HT_ ?_; refine pu_ 12 26 (bl 31 8191) HT_ ?_; refine pu_ 13 27 (bl 31 16383) HT_ ?_; refine pn_ 14 28 (bl 31 32767) HT_ ?_; refine pn_ 15 29 (bl 31 65535) HT_ ?_; refine pn_ 16 30 (bl 31 131071) HT_ ?_; refine pn_ 17 31 (bl 31 262143) HT_ ?_; refine pn_ 18 32 (bl 31 524287) HT_ ?_; refine pu_ 19 33 (bl 31 1048575) HT_ ?_; refine pu_ 20 34 (bl 31 2097151) HT_ ?_; refine pn_ 21 35 (bl 31 4194303) HT_ ?_; refine pn_ 22 36 (bl 31 8388607) HT_ ?_; refine pn_ 23 37 (bl 31 16777215) HT_ ?_; refine pn_ 24 38 (bl 31 33554431) HT_ ?_; refine pn_ 25 39 (bl 31 67108863) HT_ ?_; refine pn_ 26 40 (bl 31 134217727) HT_ ?_; refine pn_ 27 41 (bl 31 268435455) HT_ ?_; refine pn_ 28 42 (bl 31 536870911) HT_ ?_; refine pn_ 29 43 (bl 31 1073741823) HT_ ?_; refine pu_ 30 44 (bl 31 2147483647) HT_ ?_; refine done_ (done_of HT_.out (by kernel_rfl)) ?_
    try go_wp2
    go_meet
    case rel => exact ⟨_, (true), sI, H', ⟨by first | omega | exact Nat.le_refl _⟩, kQ z, kQ A, bT2 HB B E⟩
  ·replace c8 := Bool.eq_false_iff.mpr c8; subst c8
   rw [if_neg nF] at H; have H' := aM H; clear H
   try go_wp2
   replace z := kD z; replace A := kD A; replace HB := aM (below_drew1 HB.out); refine start_ (n := 31) (S := fun w' => w'.cell? ⟨O, 0, none⟩ = some (.slice aq ac.length ar) ∧ w'.cell? ⟨O, 1, none⟩ = some (.slice aw U.length ax) ∧ w'.cell? ⟨O, 2, none⟩ = some (.slice a6 F.length ay) ∧ w'.cell? ⟨O, 3, none⟩ = some (.slice aj ab.length ai)) (ds := []) (bl 31 0) (by kernel_rfl) rfl rfl (bD4 z) (fun hHeld => ?_); refine with_tabW tabardref12_Unpack.tab2 tabardref12_Unpack.bits2 (fun HT_ HW_ => ?_); generalize w4.drew = gZ at z A HB hHeld ⊢; refine pu_ 0 14 (bl 31 1) HT_ ?_; refine pu_ 2 16 (bl 31 5) HT_ ?_; refine tk4_ 1 15 (bl 31 7) HT_ HW_ hHeld ?_; refine one_ (i := 3) (N := some 17) (bl 31 15) rfl rfl (one_of HT_.out (by kernel_rfl)) (by decide) (fun K hK => ?_); refine gS_ Try.func34 #[.slice aq ac.length ar, .int .i64 (U.length : Int)] ?_
   with_reducible refine (tabardref12_Frame.calls k _ _ ac (U.length : Int) false _ ?s1 ?s2 A7.out).mono ?_
   (case s1 => exact cB be HB)
   (case s2 => exact bN.out)
   rintro e g0 ⟨rfl, hb⟩; refine ⟨_, rfl, ?_⟩; replace z := kB z hb; replace A := kB A hb; replace HB := hS2 HB B E hb
   (try clear hb)
   (try clear dy)
   (try clear hk)
   (try clear hi)
   refine hK.out _ _ (bD4 z) (fun hHeld => ?_); clear hK K; refine nm_ 17 ?_; refine pu_ 4 18 (bl 31 31) HT_ ?_; refine pu_ 5 19 (bl 31 63) HT_ ?_; refine pn_ 6 20 (bl 31 127) HT_ ?_; refine pn_ 7 21 (bl 31 255) HT_ ?_; refine pn_ 8 22 (bl 31 511) HT_ ?_; refine pn_ 9 23 (bl 31 1023) HT_ ?_; refine pn_ 10 24 (bl 31 2047) HT_ ?_; refine pn_ 11 25 (bl 31 4095) HT_ ?_; refine pu_ 12 26 (bl 31 8191) HT_ ?_; refine pu_ 13 27 (bl 31 16383) HT_ ?_; refine pn_ 14 28 (bl 31 32767) HT_ ?_; refine pn_ 15 29 (bl 31 65535) HT_ ?_; refine pn_ 16 30 (bl 31 131071) HT_ ?_; refine pn_ 17 31 (bl 31 262143) HT_ ?_; refine pn_ 18 32 (bl 31 524287) HT_ ?_; refine pu_ 19 33 (bl 31 1048575) HT_ ?_; refine pu_ 20 34 (bl 31 2097151) HT_ ?_; refine pn_ 21 35 (bl 31 4194303) HT_ ?_; refine pn_ 22 36 (bl 31 8388607) HT_ ?_; refine pn_ 23 37 (bl 31 16777215) HT_ ?_; refine pn_ 24 38 (bl 31 33554431) HT_ ?_; refine pn_ 25 39 (bl 31 67108863) HT_ ?_; refine pn_ 26 40 (bl 31 134217727) HT_ ?_; refine pn_ 27 41 (bl 31 268435455) HT_ ?_; refine pn_ 28 42 (bl 31 536870911) HT_ ?_; refine pn_ 29 43 (bl 31 1073741823) HT_ ?_; refine pu_ 30 44 (bl 31 2147483647) HT_ ?_; refine done_ (done_of HT_.out (by kernel_rfl)) ?_
   try go_wp2
   go_meet
   case rel => exact ⟨_, (true), sI, H', ⟨by first | omega | exact Nat.le_refl _⟩, kQ z, kQ A, bT2 HB B E⟩
 case rest =>
  clear dw
  obtain ⟨kq, bO, rfl, HA, HJ1, z, A, HB⟩ := hcut; cases kq with
  | zero => exact absurd HA.out (by simp [tabardref12_Unpack.j0])
  | succ eb =>
   have H := HA.out; clear HA; simp only [tabardref12_Unpack.j0] at H
   by_cases c5 : bO = true
   ·subst c5
    rw [if_pos rfl] at H; simp only [Option.some.injEq, Prod.mk.injEq] at H; obtain ⟨rfl, rfl, rfl, rfl⟩ := H; have f7 := aE.out; have f8 := aD.out; obtain ⟨ev, ew, ex, ey, ez, eA⟩ := bG3 A
    go_wp2
    refine bodyPost_ret (results_ct rfl _ _ al 45 #[.slice none 0 0, .slice none 0 0, .slice none 0 0] (0, 0) _ rfl (by (with_reducible repeat (first | refine blk_drewN ?_ _ | refine blk_drew ?_ | refine blk_alloc ?_ _)); exact blk_put (blk_put (blk_put A.out 0 _ rfl) 1 _ rfl) 2 _ rfl) Try.underlying45 rfl (by kernel_rfl)) rfl ?_; exact ⟨_, _, _, eW, by first | exact Kd.R_nil _ _ _ _ _ | exact Kd.N_nil _ _ _ _ _ | exact Kd.V_nil _ _ _ _ _ | exact Kd.Q_nil _ _ _ _ _ | exact Kd.S_nil _ _ _ _ _, by first | exact Kd.R_nil _ _ _ _ _ | exact Kd.N_nil _ _ _ _ _ | exact Kd.V_nil _ _ _ _ _ | exact Kd.Q_nil _ _ _ _ _ | exact Kd.S_nil _ _ _ _ _, by first | exact Kd.S_nil _ _ _ _ _ | exact Kd.N_nil _ _ _ _ _ | exact Kd.V_nil _ _ _ _ _ | exact Kd.Q_nil _ _ _ _ _ | exact Kd.R_nil _ _ _ _ _, bS2 HB.out B.out E.out⟩
   ·replace c5 := Bool.eq_false_iff.mpr c5; subst c5
    rw [if_neg nF] at H; have H' := aM H; clear H
    go_wp2
    go_loopg [5] eb (fun kq v5 w' => ∃ (az : Int), v5 = .int .i64 az ∧ Aside0 (tabardref12_Unpack.l0 kq (U.length : Int) az ac U F ab = some (r1, r2, r3, r4)) ∧ Aside0 (kq ≤ eb) ∧ Aside0 (w'.heap[O]? = some (.cells #[(.slice aq ac.length ar), (.slice aw U.length ax), (.slice a6 F.length ay), (.slice aj ab.length ai)] 27 (0, 0))) ∧ Aside0 (w'.heap[al]? = some (.cells #[(.slice none 0 0), (.slice none 0 0), (.slice none 0 0)] 45 (0, 0))) ∧ BA w w')
    case atStart => exact ⟨(0), sI, H', ⟨Nat.le_refl _⟩, kQ z, kQ A, bT2 HB B E⟩
    case round =>
     clear H'
     obtain ⟨az, rfl, HA, HK2, z, A, HB⟩ := hrel; cases gk with
     | zero => exact absurd HA.out (by simp [tabardref12_Unpack.l0])
     | succ k2 =>
      have H := HA.out; clear HA; simp only [tabardref12_Unpack.l0] at H
      by_cases b7 : az < (U.length : Int)
      ·rw [if_pos b7] at H; have dW := dT b7; clear b7
       by_cases c6 : 0 ≤ az
       ·rw [if_pos c6] at H; have f9 := dT c6; clear c6
        by_cases c7 : az < (F.length : Int)
        ·rw [if_pos c7] at H; have ga := dT c7; clear c7; obtain ⟨aT, bG⟩ : ∃ j_ : Int, (wrap64 (az + 1)) = j_ := ⟨_, rfl⟩
         first | rw [bG] at H | simp only [bG] at H
         have hji28w : (IntKind.i64.wrap (az + 1)) = aT := (i64_w _).trans bG
         by_cases da : 0 ≤ (aT)
         ·rw [if_pos da] at H; have gb := dT da; clear da
          by_cases db : (aT) < (F.length : Int)
          ·rw [if_pos db] at H; have gc := dT db; clear db
           by_cases b8 : (rd F az) > (rd F (aT))
           ·rw [if_pos b8] at H; have dX := dT b8; clear b8; simp only [Option.some.injEq, Prod.mk.injEq] at H; obtain ⟨rfl, rfl, rfl, rfl⟩ := H
            try go_wp2
            replace z := kD z; replace A := kD A; replace HB := aM (below_drew1 HB.out); have bC : 0 ≤ (az : Int) := oT aO; have bD : az < (F.length : Int) := oT aO; obtain ⟨a5, cH, aN⟩ := Kd.at_int aK.out az bC bD; have bh := aN; cases cH; replace aN := cX HB aN; replace bC := eq_true bC; replace bD := eq_true bD; have bE : 0 ≤ ((aT) : Int) := oT aO; have bF : (aT) < (F.length : Int) := oT aO; obtain ⟨cg, cI, aQ⟩ := Kd.at_int aK.out (aT) bE bF; have bi := aQ; have he_ : a5 = cg := (by injection cI); subst he_; replace aQ := cX HB aQ; replace bE := eq_true bE; replace bF := eq_true bF; refine start_ (n := 12) (S := fun w' => w'.cell? ⟨O, 0, none⟩ = some (.slice aq ac.length ar) ∧ w'.cell? ⟨O, 1, none⟩ = some (.slice aw U.length ax) ∧ w'.cell? ⟨O, 2, none⟩ = some (.slice (some a5) F.length ay) ∧ w'.cell? ⟨O, 3, none⟩ = some (.slice aj ab.length ai) ∧ w'.cell? (a5.add (az).toNat) = some (.int .i64 (rd F az)) ∧ w'.cell? (a5.add ((aT)).toNat) = some (.int .i64 (rd F (aT)))) (ds := []) (bl 12 0) (by kernel_rfl) rfl rfl ⟨(blk_cell z.out 0).trans rfl, (blk_cell z.out 1).trans rfl, (blk_cell z.out 2).trans rfl, (blk_cell z.out 3).trans rfl, ((HB.out.cell (World.block_lt_of_cell? w _ bh)).trans bh), ((HB.out.cell (World.block_lt_of_cell? w _ bi)).trans bi)⟩ (fun hHeld => ?_); refine with_tabW tabardref12_Unpack.tab7 tabardref12_Unpack.bits7 (fun HT_ HW_ => ?_); generalize wr.drew = g1 at z A HB aN aQ hHeld ⊢; refine pu_ 0 51 (bl 12 1) HT_ ?_; refine pu_ 2 53 (bl 12 5) HT_ ?_; refine pu_ 5 56 (bl 12 37) HT_ ?_; refine pu_ 7 58 (bl 12 165) HT_ ?_; refine pu_ 8 59 (bl 12 421) HT_ ?_; refine tk6_ 1 52 (bl 12 423) HT_ HW_ hHeld ?_; refine pu_ 3 54 (bl 12 431) HT_ ?_; refine tk6_ 4 55 (bl 12 447) HT_ HW_ hHeld ?_; refine tk6_ 6 57 (bl 12 511) HT_ HW_ hHeld ?_; refine pu_ 9 60 (bl 12 1023) HT_ ?_; refine tk6_ 10 61 (bl 12 2047) HT_ HW_ hHeld ?_; refine pu_ 11 62 (bl 12 4095) HT_ ?_; refine done_ (done_of HT_.out (by kernel_rfl)) ?_; have gd := aE.out; have ge := aD.out; obtain ⟨eB, eC, eD, eE, eF, eG⟩ := bG3 A
            try go_wp2
            refine bodyPost_ret (results_ct rfl _ _ al 45 #[.slice none 0 0, .slice none 0 0, .slice none 0 0] (0, 0) _ rfl (by (with_reducible repeat (first | refine blk_drewN ?_ _ | refine blk_drew ?_ | refine blk_alloc ?_ _)); exact blk_put (blk_put (blk_put A.out 0 _ rfl) 1 _ rfl) 2 _ rfl) Try.underlying45 rfl (by kernel_rfl)) rfl ?_; exact ⟨_, _, _, by first | rfl | (simp [errW_none, errW_some] <;> rfl) | (simp only [← bG]; first | rfl | (simp [errW_none, errW_some] <;> rfl)) | (simp [*, errW_none, errW_some] <;> rfl), by first | exact Kd.R_nil _ _ _ _ _ | exact Kd.N_nil _ _ _ _ _ | exact Kd.V_nil _ _ _ _ _ | exact Kd.Q_nil _ _ _ _ _ | exact Kd.S_nil _ _ _ _ _, by first | exact Kd.R_nil _ _ _ _ _ | exact Kd.N_nil _ _ _ _ _ | exact Kd.V_nil _ _ _ _ _ | exact Kd.Q_nil _ _ _ _ _ | exact Kd.S_nil _ _ _ _ _, by first | exact Kd.S_nil _ _ _ _ _ | exact Kd.N_nil _ _ _ _ _ | exact Kd.V_nil _ _ _ _ _ | exact Kd.Q_nil _ _ _ _ _ | exact Kd.R_nil _ _ _ _ _, bS2 HB.out B.out E.out⟩
           ·rw [if_neg b8] at H; have dX := decide_eq_false b8; clear b8; have H' := aM H; clear H
            try go_wp2
            replace z := kD z; replace A := kD A; replace HB := aM (below_drew1 HB.out); have bC : 0 ≤ (az : Int) := oT aO; have bD : az < (F.length : Int) := oT aO; obtain ⟨a5, cH, aN⟩ := Kd.at_int aK.out az bC bD; have bh := aN; cases cH; replace aN := cX HB aN; replace bC := eq_true bC; replace bD := eq_true bD; have bE : 0 ≤ ((aT) : Int) := oT aO; have bF : (aT) < (F.length : Int) := oT aO; obtain ⟨cg, cI, aQ⟩ := Kd.at_int aK.out (aT) bE bF; have bi := aQ; have he_ : a5 = cg := (by injection cI); subst he_; replace aQ := cX HB aQ; replace bE := eq_true bE; replace bF := eq_true bF; refine start_ (n := 12) (S := fun w' => w'.cell? ⟨O, 0, none⟩ = some (.slice aq ac.length ar) ∧ w'.cell? ⟨O, 1, none⟩ = some (.slice aw U.length ax) ∧ w'.cell? ⟨O, 2, none⟩ = some (.slice (some a5) F.length ay) ∧ w'.cell? ⟨O, 3, none⟩ = some (.slice aj ab.length ai) ∧ w'.cell? (a5.add (az).toNat) = some (.int .i64 (rd F az)) ∧ w'.cell? (a5.add ((aT)).toNat) = some (.int .i64 (rd F (aT)))) (ds := []) (bl 12 0) (by kernel_rfl) rfl rfl ⟨(blk_cell z.out 0).trans rfl, (blk_cell z.out 1).trans rfl, (blk_cell z.out 2).trans rfl, (blk_cell z.out 3).trans rfl, ((HB.out.cell (World.block_lt_of_cell? w _ bh)).trans bh), ((HB.out.cell (World.block_lt_of_cell? w _ bi)).trans bi)⟩ (fun hHeld => ?_); refine with_tabW tabardref12_Unpack.tab7 tabardref12_Unpack.bits7 (fun HT_ HW_ => ?_); generalize wr.drew = g2 at z A HB aN aQ hHeld ⊢; refine pu_ 0 51 (bl 12 1) HT_ ?_; refine pu_ 2 53 (bl 12 5) HT_ ?_; refine pu_ 5 56 (bl 12 37) HT_ ?_; refine pu_ 7 58 (bl 12 165) HT_ ?_; refine pu_ 8 59 (bl 12 421) HT_ ?_; refine tk6_ 1 52 (bl 12 423) HT_ HW_ hHeld ?_; refine pu_ 3 54 (bl 12 431) HT_ ?_; refine tk6_ 4 55 (bl 12 447) HT_ HW_ hHeld ?_; refine tk6_ 6 57 (bl 12 511) HT_ HW_ hHeld ?_; refine pu_ 9 60 (bl 12 1023) HT_ ?_; refine tk6_ 10 61 (bl 12 2047) HT_ HW_ hHeld ?_; refine pu_ 11 62 (bl 12 4095) HT_ ?_; refine done_ (done_of HT_.out (by kernel_rfl)) ?_
            try go_wp2
            go_roundg k2
            case measure => have := HJ1.out; have := HK2.out; omega
            case rel => exact ⟨(aT), (by first | rfl | (simp; done) | (simp only [← bG] <;> (first | rfl | simp)) | (simp [*]; done)), H', ⟨by have := HJ1.out; have := HK2.out; omega⟩, kQ z, kQ A, bT2 HB B E⟩
          ·exact nX db H
         ·exact nX da H
        ·exact nX c7 H
       ·exact nX c6 H
      ·rw [if_neg b7] at H; have dW := decide_eq_false b7; clear b7; obtain ⟨aZ, ch⟩ : ∃ y_ : List ByteArray, y_ = (([] : List ByteArray)) := ⟨_, rfl⟩
       replace H : (if aZ.length + ac.length < 8796093022208 then ((some (([] : List Bool) : List Bool)).bind fun aU => (if aU.length + U.length < 140737488355328 then (tabardref12_Unpack.l1 k2 (U.length : Int) 0 ac U F ab (aZ ++ ac) (aU ++ U) ([] : List (List Int))) else (none))) else (none)) = some (r1, r2, r3, r4) := rH ch H
       have bP := aM ch; clear ch
       by_cases dc : aZ.length + ac.length < 8796093022208
       ·rw [if_pos dc] at H; have bQ := aM dc; clear dc; obtain ⟨aG, bR⟩ : ∃ y_ : List ByteArray, y_ = (aZ ++ ac) := ⟨_, rfl⟩
        first | replace H := rI bR H | rw [← bR] at H
        have bS := aM bR; clear bR; obtain ⟨aU, ci⟩ : ∃ y_ : List Bool, y_ = (([] : List Bool)) := ⟨_, rfl⟩
        replace H : (if aU.length + U.length < 140737488355328 then (tabardref12_Unpack.l1 k2 (U.length : Int) 0 ac U F ab aG (aU ++ U) ([] : List (List Int))) else (none)) = some (r1, r2, r3, r4) := rH ci H
        have bs := aM ci; clear ci
        by_cases dd : aU.length + U.length < 140737488355328
        ·rw [if_pos dd] at H; have de := aM dd; clear dd; obtain ⟨a4, bT⟩ : ∃ y_ : List Bool, y_ = (aU ++ U) := ⟨_, rfl⟩
         first | replace H := rI bT H | rw [← bT] at H
         have df := aM bT; clear bT; have H' := aM H; clear H
         try go_wp2
         replace z := kD z; replace A := kD A; replace HB := aM (below_drew1 HB.out); refine start_ (n := 11) (S := fun w' => w'.cell? ⟨O, 0, none⟩ = some (.slice aq ac.length ar) ∧ w'.cell? ⟨O, 1, none⟩ = some (.slice aw U.length ax) ∧ w'.cell? ⟨O, 2, none⟩ = some (.slice a6 F.length ay) ∧ w'.cell? ⟨O, 3, none⟩ = some (.slice aj ab.length ai)) (ds := []) (bl 11 0) (by kernel_rfl) rfl rfl (bD4 z) (fun hHeld => ?_); refine with_tabW tabardref12_Unpack.tab9 tabardref12_Unpack.bits9 (fun HT_ HW_ => ?_); generalize wr.drew = g3 at z A HB hHeld ⊢; refine pu_ 1 65 (bl 11 2) HT_ ?_; refine pu_ 5 69 (bl 11 34) HT_ ?_; refine tk4_ 2 66 (bl 11 38) HT_ HW_ hHeld ?_; refine tk4_ 6 70 (bl 11 102) HT_ HW_ hHeld ?_; let q_1 : World → Prop := fun w' => w'.cell? ⟨O, 0, none⟩ = some (.slice aq ac.length ar) ∧ w'.cell? ⟨O, 1, none⟩ = some (.slice aw U.length ax) ∧ w'.cell? ⟨O, 2, none⟩ = some (.slice a6 F.length ay) ∧ w'.cell? ⟨O, 3, none⟩ = some (.slice aj ab.length ai); let q_2 : World → Prop := fun w' => Aside0 (w'.heap[O]? = some (.cells #[.slice aq ac.length ar, .slice aw U.length ax, .slice a6 F.length ay, .slice aj ab.length ai] 27 (0, 0))); let q_3 : World → Prop := fun w' => Aside0 (w'.heap[al]? = some (.cells #[.slice none 0 0, .slice none 0 0, .slice none 0 0] 45 (0, 0))); refine join_ (σ := Value × Value × Value × Value × Nat) 1 (bl 11 1023) (fun s_ => [(64, s_.1), (67, s_.2.1), (68, s_.2.2.1), (71, s_.2.2.2.1), (6, .pointer (some ⟨s_.2.2.2.2, 0, none⟩)), (72, .agg #[s_.2.1, s_.2.2.2.1, .slice none 0 0])]) (fun s_ w' => (q_1 w') ∧ (RA Kd.string 9 w' w s_.2.1 aG) ∧ (RA Kd.bool 4 w' w s_.2.2.2.1 a4) ∧ (q_2 w') ∧ (q_3 w') ∧ (Aside0 (w'.heap[s_.2.2.2.2]? = some (.cells #[.slice none 0 0, .slice none 0 0, .slice none 0 0] 45 (0, 0)))) ∧ (Aside0 (w.heap.size ≤ s_.2.2.2.2)) ∧ (Aside0 (w.heap.size ≤ s_.2.2.2.2)) ∧ (Aside0 (O ≠ s_.2.2.2.2)) ∧ (Aside0 (s_.2.2.2.2 ≠ O)) ∧ (Aside0 (al ≠ s_.2.2.2.2)) ∧ (Aside0 (s_.2.2.2.2 ≠ al)) ∧ BA w w') ?_ ?_
         ·clear z A HB; rintro ⟨ah, aH, ak, cJ, Y⟩ dz ⟨hHeld, Z, aA, z, A, G, ad, J, D, M, I, L, HB⟩; (try dsimp only at hHeld Z aA z A G ad J D M I L HB); obtain ⟨bJ, bK, bY⟩ := sL aA
          (first | subst bY | (injection bY with aI a7 aJ; have a8 := aI.symm; have a9 := aJ.symm; clear aI a7 aJ; subst a8; subst a9))
          obtain ⟨cj, ck, dA⟩ := sL Z
          (first | subst dA | (injection dA with aI a7 aJ; have a8 := aI.symm; have a9 := aJ.symm; clear aI a7 aJ; subst a8; subst a9))
          refine norm_ (a' := ?_) ?_ ?_; rotate_left
          ·simp only [putAll, Act.put, sA, sB, sC]
           rfl
          refine one_ (i := 10) (N := none) (bl 11 2047) rfl rfl (one_of HT_.out (by kernel_rfl)) (by decide) (fun K hK => ?_); have hs51 : dz.cell? ⟨Y, 0, none⟩ = some (.slice none 0 0) := (blk_cell G.out 0).trans rfl; have hfs51 := blk_frozen G.out 0; have hns51_0 := D.out; have hns51_1 := I.out; have hms51_0 := M.out; have hms51_1 := L.out; have hs52 : dz.cell? ⟨Y, 1, none⟩ = some (.slice none 0 0) := (blk_cell G.out 1).trans rfl; have hfs52 := blk_frozen G.out 1; have hns52_0 := D.out; have hns52_1 := I.out; have hms52_0 := M.out; have hms52_1 := L.out; have hs53 : dz.cell? ⟨Y, 2, none⟩ = some (.slice none 0 0) := (blk_cell G.out 2).trans rfl; have hfs53 := blk_frozen G.out 2; have hns53_0 := D.out; have hns53_1 := I.out; have hms53_0 := M.out; have hms53_1 := L.out; refine skip_ (w1 := ?_) (by rfl) rfl ?_ ?_; rotate_left
          ·go_simp
           rfl
          refine hK.out _ _ ⟨((cell_far (p := ⟨Y, _, none⟩) D.out _).trans (((cell_far (p := ⟨Y, _, none⟩) D.out _).trans (((cell_far (p := ⟨Y, _, none⟩) D.out _).trans (hHeld.1)))))), ((cell_far (p := ⟨Y, _, none⟩) D.out _).trans (((cell_far (p := ⟨Y, _, none⟩) D.out _).trans (((cell_far (p := ⟨Y, _, none⟩) D.out _).trans (hHeld.2.1)))))), ((cell_far (p := ⟨Y, _, none⟩) D.out _).trans (((cell_far (p := ⟨Y, _, none⟩) D.out _).trans (((cell_far (p := ⟨Y, _, none⟩) D.out _).trans (hHeld.2.2.1)))))), ((cell_far (p := ⟨Y, _, none⟩) D.out _).trans (((cell_far (p := ⟨Y, _, none⟩) D.out _).trans (((cell_far (p := ⟨Y, _, none⟩) D.out _).trans (hHeld.2.2.2))))))⟩ (fun hHeld => ?_); clear hK K; refine done_ (done_of HT_.out (by kernel_rfl)) ?_
          try go_wp2
          go_loopg [7] k2 (fun kq v7 w' => ∃ (aa : Int) (av : List (List Int)) (aY : Value), v7 = .int .i64 aa ∧ Aside0 (tabardref12_Unpack.l1 kq (U.length : Int) aa ac U F ab aG a4 av = some (r1, r2, r3, r4)) ∧ Aside0 (kq ≤ k2) ∧ RA Kd.string 9 w' w (.slice cj aG.length ck) aG ∧ RA Kd.bool 4 w' w (.slice bJ a4.length bK) a4 ∧ Aside0 (Kd.S (Kd.slice 3 (Kd.int .i64)) 24 w' w.heap.size (fun _ => True) aY av) ∧ Aside0 (w'.heap[O]? = some (.cells #[(.slice aq ac.length ar), (.slice aw U.length ax), (.slice a6 F.length ay), (.slice aj ab.length ai)] 27 (0, 0))) ∧ Aside0 (w'.heap[al]? = some (.cells #[(.slice none 0 0), (.slice none 0 0), (.slice none 0 0)] 45 (0, 0))) ∧ Aside0 (w'.heap[Y]? = some (.cells #[(.slice cj aG.length ck), (.slice bJ a4.length bK), aY] 45 (0, 0))) ∧ BA w w')
          case atStart => exact ⟨(0), (([] : List (List Int))), (.slice none 0 0), sI, H', ⟨Nat.le_refl _⟩, ⟨rZ Z G⟩, ⟨rZ aA G⟩, ⟨by first | exact Kd.S_nil _ _ _ _ _ | exact Kd.N_nil _ _ _ _ _ | exact Kd.V_nil _ _ _ _ _ | exact Kd.Q_nil _ _ _ _ _ | exact Kd.R_nil _ _ _ _ _⟩, ⟨kN z D⟩, ⟨kN A I⟩, ⟨by (with_reducible repeat (first | refine blk_drewN ?_ _ | refine blk_drew ?_ | refine blk_alloc ?_ _)); exact blk_put (blk_put (blk_put G.out 0 _ rfl) 1 _ rfl) 2 _ rfl⟩, bT3 HB B E J⟩
          case round =>
           clear H'
           obtain ⟨aa, av, aY, rfl, HA, HK3, ae, af, V, z, A, G, HB⟩ := hrel; cases gk with
           | zero => exact absurd HA.out (by simp [tabardref12_Unpack.l1])
           | succ k3 =>
            have H := HA.out; clear HA; simp only [tabardref12_Unpack.l1] at H
            by_cases b9 : aa < (U.length : Int)
            ·rw [if_pos b9] at H; have dY := dT b9; clear b9
             by_cases dg : 0 ≤ aa
             ·rw [if_pos dg] at H; have gf := dT dg; clear dg
              by_cases dh : aa < (F.length : Int)
              ·rw [if_pos dh] at H; have gg := dT dh; clear dh; obtain ⟨ag, bt⟩ : ∃ j_ : Int, (wrap64 (aa + 1)) = j_ := ⟨_, rfl⟩
               first | rw [bt] at H | simp only [bt] at H
               have hji57w : (IntKind.i64.wrap (aa + 1)) = ag := (i64_w _).trans bt
               by_cases di : 0 ≤ (ag)
               ·rw [if_pos di] at H; have gh := dT di; clear di
                by_cases dj : (ag) < (F.length : Int)
                ·rw [if_pos dj] at H; have gi := dT dj; clear dj
                 by_cases cz : 0 ≤ (rd F aa)
                 ·rw [if_pos cz] at H; have gj := eq_true cz; have gl := dT cz; clear cz
                  by_cases cA : (rd F aa) ≤ (rd F (ag))
                  ·rw [if_pos cA] at H; have gm := eq_true cA; have gn := dT cA; clear cA
                   by_cases cC : (rd F (ag)) ≤ (ab.length : Int)
                   ·rw [if_pos cC] at H; have go := eq_true cC; have gp := dT cC; clear cC; obtain ⟨au, bU⟩ : ∃ y_ : List (S73), y_ = ((ab.take ((rd F (ag)) : Int).toNat).drop ((rd F aa) : Int).toNat) := ⟨_, rfl⟩
                    first | replace H := rI bU H | rw [← bU] at H
                    have bu := aM bU; clear bU
                    by_cases ca : (au.length : Int) > 32
                    ·rw [if_pos ca] at H; have dZ := dT ca; have d0 : decide (32 < au.length) = true := dT (by omega); clear ca; simp only [Option.some.injEq, Prod.mk.injEq] at H; obtain ⟨rfl, rfl, rfl, rfl⟩ := H
                     try go_wp2
                     replace ae := aM (Kd.R_drew ae.out); replace af := aM (Kd.R_drew af.out); replace V := aM (Kd.S_drew V.out); replace z := kD z; replace A := kD A; replace G := kD G; replace HB := aM (below_drew1 HB.out); have ba : 0 ≤ (aa : Int) := oT aO; have bb : aa < (F.length : Int) := oT aO; obtain ⟨aC, bZ, an⟩ := Kd.at_int aK.out aa ba bb; have aV := an; cases bZ; replace an := cX HB an; replace ba := eq_true ba; replace bb := eq_true bb; have bc : 0 ≤ ((ag) : Int) := oT aO; have bd : (ag) < (F.length : Int) := oT aO; obtain ⟨bH, b0, ao⟩ := Kd.at_int aK.out (ag) bc bd; have aW := ao; have he_ : aC = bH := (by injection b0); subst he_; replace ao := cX HB ao; replace bc := eq_true bc; replace bd := eq_true bd; have dB : ((rd F (ag)) : Int) ≤ ((ab.length : Int) : Int) := oT aO; obtain ⟨i065, dk, _, hsz65, _⟩ := info_parts info73; have bv : ab.length ≤ ai := cf.out; have hC65 : Kd.C k73 _ aj ab.length ab := ce.out; have ql65 : ((rd F aa) : Int) ≤ ((rd F (ag)) : Int) := oT aO; have ej : (0 : Int) ≤ ((rd F aa) : Int) := oT aO; have hcut65 := cut_mid (P := Try.prog) 25 73 .i64 .i64 Try.underlying25 dk 3 hsz65 aj ab.length ai (rd F aa) (rd F (ag)) ej ql65 dB bv; have b1 := Kd.C_mid (lo := ((rd F aa) : Int).toNat) (hi := ((rd F (ag)) : Int).toNat) (c := ai) hC65 (by omega) (by omega) bv; obtain ⟨fP, cl⟩ : ∃ A1, A1 = (if ai = ((rd F aa) : Int).toNat then aj else (aj : Option Addr).map (·.add (((rd F aa) : Int).toNat * 3))) := ⟨_, rfl⟩; obtain ⟨fQ, cK⟩ : ∃ c1, c1 = ai - ((rd F aa) : Int).toNat := ⟨_, rfl⟩; have cm : au.length = ((rd F (ag)) : Int).toNat - ((rd F aa) : Int).toNat := (by rw [bu.out, List.length_drop, List.length_take] <;> omega); rw [show ((ab).take ((rd F (ag)) : Int).toNat).drop ((rd F aa) : Int).toNat = au from bu.out.symm] at b1; replace b1 : Kd.C k73 _ fP au.length au := (by rw [cl]; exact b1); rw [← cm, ← cl, ← cK] at hcut65; have bf := aM b1; have bI := aM (show au.length ≤ fQ from by rw [cm, cK]; exact Nat.sub_le_sub_right (Nat.le_trans (by omega) bv) _); clear b1 hC65 bv dk hsz65 cK; have KY65 := aM cm; have KA65 := aM cl; clear cm cl; replace dB := eq_true dB; refine start_ (n := 15) (S := fun w' => w'.cell? ⟨O, 0, none⟩ = some (.slice aq ac.length ar) ∧ w'.cell? ⟨O, 1, none⟩ = some (.slice aw U.length ax) ∧ w'.cell? ⟨O, 2, none⟩ = some (.slice (some aC) F.length ay) ∧ w'.cell? ⟨O, 3, none⟩ = some (.slice aj ab.length ai) ∧ w'.cell? (aC.add (aa).toNat) = some (.int .i64 (rd F aa)) ∧ w'.cell? (aC.add ((ag)).toNat) = some (.int .i64 (rd F (ag)))) (ds := []) (bl 15 0) (by kernel_rfl) rfl rfl ⟨(blk_cell z.out 0).trans rfl, (blk_cell z.out 1).trans rfl, (blk_cell z.out 2).trans rfl, (blk_cell z.out 3).trans rfl, ((HB.out.cell (World.block_lt_of_cell? w _ aV)).trans aV), ((HB.out.cell (World.block_lt_of_cell? w _ aW)).trans aW)⟩ (fun hHeld => ?_); refine with_tabW tabardref12_Unpack.tab13 tabardref12_Unpack.bits13 (fun HT_ HW_ => ?_); generalize wr.drew = g4 at ae af V z A G HB bf an ao hHeld ⊢; refine pu_ 0 78 (bl 15 1) HT_ ?_; refine pu_ 2 80 (bl 15 5) HT_ ?_; refine pu_ 4 82 (bl 15 21) HT_ ?_; refine pu_ 7 85 (bl 15 149) HT_ ?_; refine pu_ 9 87 (bl 15 661) HT_ ?_; refine pu_ 10 88 (bl 15 1685) HT_ ?_; refine tk6_ 1 79 (bl 15 1687) HT_ HW_ hHeld ?_; refine tk6_ 3 81 (bl 15 1695) HT_ HW_ hHeld ?_; refine pu_ 5 83 (bl 15 1727) HT_ ?_; refine tk6_ 6 84 (bl 15 1791) HT_ HW_ hHeld ?_; refine tk6_ 8 86 (bl 15 2047) HT_ HW_ hHeld ?_; refine pu_ 11 89 (bl 15 4095) HT_ ?_; refine tk6_ 12 90 (bl 15 8191) HT_ HW_ hHeld ?_; refine pu_ 13 91 (bl 15 16383) HT_ ?_; refine pu_ 14 8 (bl 15 32767) HT_ ?_; refine done_ (done_of HT_.out (by kernel_rfl)) ?_; have gq := aE.out; have gr := aD.out; have gs := I.out; have gt := L.out; obtain ⟨eH, eI, eJ, eK, eL, eM⟩ := bG3 A
                     try go_wp2
                     refine bodyPost_ret (results_ct rfl _ _ al 45 #[.slice none 0 0, .slice none 0 0, .slice none 0 0] (0, 0) _ rfl (by (with_reducible repeat (first | refine blk_drewN ?_ _ | refine blk_drew ?_ | refine blk_alloc ?_ _)); exact blk_put (blk_put (blk_put A.out 0 _ rfl) 1 _ rfl) 2 _ rfl) Try.underlying45 rfl (by kernel_rfl)) rfl ?_; exact ⟨_, _, _, by first | rfl | (simp [errW_none, errW_some] <;> rfl) | (simp only [← bt]; first | rfl | (simp [errW_none, errW_some] <;> rfl)) | (simp [*, errW_none, errW_some] <;> rfl), by first | exact Kd.R_nil _ _ _ _ _ | exact Kd.N_nil _ _ _ _ _ | exact Kd.V_nil _ _ _ _ _ | exact Kd.Q_nil _ _ _ _ _ | exact Kd.S_nil _ _ _ _ _, by first | exact Kd.R_nil _ _ _ _ _ | exact Kd.N_nil _ _ _ _ _ | exact Kd.V_nil _ _ _ _ _ | exact Kd.Q_nil _ _ _ _ _ | exact Kd.S_nil _ _ _ _ _, by first | exact Kd.S_nil _ _ _ _ _ | exact Kd.N_nil _ _ _ _ _ | exact Kd.V_nil _ _ _ _ _ | exact Kd.Q_nil _ _ _ _ _ | exact Kd.R_nil _ _ _ _ _, bS3 HB.out B.out E.out J.out⟩
                    ·rw [if_neg ca] at H; have dZ := decide_eq_false ca; have d0 : decide (32 < au.length) = false := decide_eq_false (by omega); clear ca; replace H := Option.bind_eq_some_iff.mp H; obtain ⟨ek, dE, H⟩ := H; have ec := aM dE; clear dE
                     by_cases dl : ek = true
                     ·subst dl
                      rw [if_pos rfl] at H; replace H := Option.bind_eq_some_iff.mp H; obtain ⟨⟨bL, el⟩, dF, H⟩ := H; replace H : (if av.length < 5864062014805 then (tabardref12_Unpack.l1 k3 (U.length : Int) ag ac U F ab aG a4 (av ++ [bL])) else (none)) = some (r1, r2, r3, r4) := H; have fR := aM dF; clear dF
                      by_cases dm : av.length < 5864062014805
                      ·rw [if_pos dm] at H; have d1 := aM dm; clear dm; obtain ⟨dG, bV⟩ : ∃ y_ : List (List Int), y_ = (av ++ [bL]) := ⟨_, rfl⟩
                       first | replace H := rI bV H | rw [← bV] at H
                       have d2 := aM bV; clear bV; have H' := aM H; clear H
                       try go_wp2
                       replace ae := aM (Kd.R_drew ae.out); replace af := aM (Kd.R_drew af.out); replace V := aM (Kd.S_drew V.out); replace z := kD z; replace A := kD A; replace G := kD G; replace HB := aM (below_drew1 HB.out); have ba : 0 ≤ (aa : Int) := oT aO; have bb : aa < (F.length : Int) := oT aO; obtain ⟨aC, bZ, an⟩ := Kd.at_int aK.out aa ba bb; have aV := an; cases bZ; replace an := cX HB an; replace ba := eq_true ba; replace bb := eq_true bb; have bc : 0 ≤ ((ag) : Int) := oT aO; have bd : (ag) < (F.length : Int) := oT aO; obtain ⟨bH, b0, ao⟩ := Kd.at_int aK.out (ag) bc bd; have aW := ao; have he_ : aC = bH := (by injection b0); subst he_; replace ao := cX HB ao; replace bc := eq_true bc; replace bd := eq_true bd; have dH : ((rd F (ag)) : Int) ≤ ((ab.length : Int) : Int) := oT aO; obtain ⟨i074, dn, _, hsz74, _⟩ := info_parts info73; have bw : ab.length ≤ ai := cf.out; have hC74 : Kd.C k73 _ aj ab.length ab := ce.out; have ql74 : ((rd F aa) : Int) ≤ ((rd F (ag)) : Int) := oT aO; have em : (0 : Int) ≤ ((rd F aa) : Int) := oT aO; have hcut74 := cut_mid (P := Try.prog) 25 73 .i64 .i64 Try.underlying25 dn 3 hsz74 aj ab.length ai (rd F aa) (rd F (ag)) em ql74 dH bw; have b2 := Kd.C_mid (lo := ((rd F aa) : Int).toNat) (hi := ((rd F (ag)) : Int).toNat) (c := ai) hC74 (by omega) (by omega) bw; obtain ⟨ed, cn⟩ : ∃ A1, A1 = (if ai = ((rd F aa) : Int).toNat then aj else (aj : Option Addr).map (·.add (((rd F aa) : Int).toNat * 3))) := ⟨_, rfl⟩; obtain ⟨ee, cL⟩ : ∃ c1, c1 = ai - ((rd F aa) : Int).toNat := ⟨_, rfl⟩; have co : au.length = ((rd F (ag)) : Int).toNat - ((rd F aa) : Int).toNat := (by rw [bu.out, List.length_drop, List.length_take] <;> omega); rw [show ((ab).take ((rd F (ag)) : Int).toNat).drop ((rd F aa) : Int).toNat = au from bu.out.symm] at b2; replace b2 : Kd.C k73 _ ed au.length au := (by rw [cn]; exact b2); rw [← co, ← cn, ← cL] at hcut74; have bf := aM b2; have bI := aM (show au.length ≤ ee from by rw [co, cL]; exact Nat.sub_le_sub_right (Nat.le_trans (by omega) bw) _); clear b2 hC74 bw dn hsz74 cL; have KY74 := aM co; have KA74 := aM cn; clear co cn; replace dH := eq_true dH; refine start_ (n := 15) (S := fun w' => w'.cell? ⟨O, 0, none⟩ = some (.slice aq ac.length ar) ∧ w'.cell? ⟨O, 1, none⟩ = some (.slice aw U.length ax) ∧ w'.cell? ⟨O, 2, none⟩ = some (.slice (some aC) F.length ay) ∧ w'.cell? ⟨O, 3, none⟩ = some (.slice aj ab.length ai) ∧ w'.cell? (aC.add (aa).toNat) = some (.int .i64 (rd F aa)) ∧ w'.cell? (aC.add ((ag)).toNat) = some (.int .i64 (rd F (ag)))) (ds := []) (bl 15 0) (by kernel_rfl) rfl rfl ⟨(blk_cell z.out 0).trans rfl, (blk_cell z.out 1).trans rfl, (blk_cell z.out 2).trans rfl, (blk_cell z.out 3).trans rfl, ((HB.out.cell (World.block_lt_of_cell? w _ aV)).trans aV), ((HB.out.cell (World.block_lt_of_cell? w _ aW)).trans aW)⟩ (fun hHeld => ?_); refine with_tabW tabardref12_Unpack.tab13 tabardref12_Unpack.bits13 (fun HT_ HW_ => ?_); generalize wr.drew = g5 at ae af V z A G HB bf an ao hHeld ⊢; refine pu_ 0 78 (bl 15 1) HT_ ?_; refine pu_ 2 80 (bl 15 5) HT_ ?_; refine pu_ 4 82 (bl 15 21) HT_ ?_; refine pu_ 7 85 (bl 15 149) HT_ ?_; refine pu_ 9 87 (bl 15 661) HT_ ?_; refine pu_ 10 88 (bl 15 1685) HT_ ?_; refine tk6_ 1 79 (bl 15 1687) HT_ HW_ hHeld ?_; refine tk6_ 3 81 (bl 15 1695) HT_ HW_ hHeld ?_; refine pu_ 5 83 (bl 15 1727) HT_ ?_; refine tk6_ 6 84 (bl 15 1791) HT_ HW_ hHeld ?_; refine tk6_ 8 86 (bl 15 2047) HT_ HW_ hHeld ?_; refine pu_ 11 89 (bl 15 4095) HT_ ?_; refine tk6_ 12 90 (bl 15 8191) HT_ HW_ hHeld ?_; refine pu_ 13 91 (bl 15 16383) HT_ ?_; refine pu_ 14 8 (bl 15 32767) HT_ ?_; refine done_ (done_of HT_.out (by kernel_rfl)) ?_; have gu := aD.out; have gv := aE.out; have gw := D.out; have gx := M.out; obtain ⟨eN, eO, eP, eQ, eR, eS, eT, eU⟩ := bG4 z
                       try go_wp2_with (first | (go_at_call 35; (with_reducible refine (tabardref11_Right.calls k3 _ _ au (ac.length : Int) (U.length : Int) true _ ?s1 bI.out ec.out).mono ?_); (case s1 => exact cB bf HB); rintro e g6 ⟨rfl, hb⟩; replace ae := rB ae hb; replace af := rB af hb; replace V := aM (Kd.S_below (by (with_reducible repeat (first | apply Kd.S_alloc | apply Kd.S_drewN | apply Kd.S_drew)); exact V.out) hb); replace z := kB z hb; replace A := kB A hb; replace G := kB G hb; replace HB := hS3 HB B E J hb; (try clear hb); (try clear hk); obtain ⟨eV, eX, eY, eZ, e0, e1, e2, e3⟩ := bG4 z) | ((with_reducible refine gate_callee (f := 36) rfl ?_); refine gL_ (some 110) Try.func36 #[.slice ed au.length ee, .int .i64 (ac.length : Int)] ?_; (with_reducible refine (tabardref11_Unpack.calls k3 _ _ au (ac.length : Int) bL el _ ?s1 bI.out fR.out).mono ?_); (case s1 => exact cB bf HB); rintro e g7 ⟨gR, rfl, dI, hb⟩; refine ⟨_, rfl, ?_⟩; replace ae := rB ae hb; replace af := rB af hb; replace V := aM (Kd.S_elder' (by (with_reducible repeat (first | apply Kd.S_alloc | apply Kd.S_drewN | apply Kd.S_drew)); exact V.out) (Kd.R_base dI) hb); have bW := rW dI (bP3 HB B E J); replace z := kB z hb; replace A := kB A hb; replace G := kB G hb; replace HB := hS3 HB B E J hb; (try clear hb); (try clear hk); (try clear dI); have gy := L.out; have gz := I.out; obtain ⟨e4, e5, e6, e7, e8, e9⟩ := bG3 G; obtain ⟨dJ, dK, en⟩ := sL bW; subst en) | ((with_reducible refine gate_builtin (b := .append) (xs := #[.tmp 114, .tmp 116]) rfl ?_); (try (refine gate_guard (by rfl) ?_; dsimp only)); at_builtin; refine Kd.S_append (Kd.slice 3 (Kd.int .i64)) (w0 := w) w.heap.size rfl (.tmp 114) (.tmp 116) 43 24 (.slice none 0 0) 24 rfl Try.underlying43 info24 rfl (by decide) (by omega) aY av bL [.slice dJ bL.length dK] (fun _ => True) (fun k_ => some k_ = (.slice dJ bL.length dK : Value).ownBlock) rfl rfl ?aP (fun k_ hk_ => ((Kd.R_mono (ok' := fun k_ => ((fun _ => True)) k_ ∧ some k_ ≠ (aY : Value).ownBlock) (Kd.R_apart' (bW.out) (Kd.S_typed V.out) (by decide)) (fun k_ hk => ⟨trivial, hk.2⟩))).1 k_ hk_.symm) ?aF ?aO ?aB ?aS ?aL ?_; (case aP => exact Kd.M_row (Kd.R_mono (Kd.R_tight rfl (Kd.R_mono (ok' := fun k_ => ((fun _ => True)) k_ ∧ some k_ ≠ (aY : Value).ownBlock) (Kd.R_apart' (bW.out) (Kd.S_typed V.out) (by decide)) (fun k_ hk => ⟨trivial, hk.2⟩))) (fun _ h_ => h_))); (case aB => exact (bP3 HB B E J)); (case aF => exact (fun _ _ => trivial)); (case aO => exact (by (with_reducible repeat (first | apply Kd.S_alloc | apply Kd.S_drewN | apply Kd.S_drew)); exact Kd.S_mono V.out (fun k_ hk => ⟨trivial, fun e_ => hk.2 e_⟩))); (case aS => exact (below_size (bP3 HB B E J))); (case aL => have := d1.out; omega); intro gS g8 ho hb hg hat; rw [← d2.out] at ho; replace ae := aM (Kd.R_over' (rP ae) (Kd.S_typed (by (with_reducible repeat (first | apply Kd.S_alloc | apply Kd.S_drewN | apply Kd.S_drew)); exact V.out)) (by decide) hg); replace af := aM (Kd.R_over' (rP af) (Kd.S_typed (by (with_reducible repeat (first | apply Kd.S_alloc | apply Kd.S_drewN | apply Kd.S_drew)); exact V.out)) (by decide) hg); replace z := aM (blk_grown (g := O) (o := .cells #[.slice aq ac.length ar, .slice aw U.length ax, .slice (some aC) F.length ay, .slice aj ab.length ai] 27 (0, 0)) (kO z.out) hg (Kd.S_ne V.out z.out (by decide))); replace A := aM (blk_grown (g := al) (o := .cells #[.slice none 0 0, .slice none 0 0, .slice none 0 0] 45 (0, 0)) (kO A.out) hg (Kd.S_ne V.out A.out (by decide))); replace G := aM (blk_grown (g := Y) (o := .cells #[.slice cj aG.length ck, .slice bJ a4.length bK, aY] 45 (0, 0)) (kO G.out) hg (Kd.S_ne V.out G.out (by decide))); replace HB := aM (hb); have dp := aM (ho); clear V; clear bW; clear ho hb hg hat; obtain ⟨eo, ep, er⟩ := Kd.S_slice dp.out; subst er; obtain ⟨fa, fb, fc, fd, fe, ff⟩ := bG3 G))
                       go_roundg k3
                       case measure => have := HJ1.out; have := HK2.out; have := HK3.out; omega
                       case rel => exact ⟨(ag), (dG), (.slice eo dG.length ep), (by first | rfl | (simp; done) | (simp only [← bt] <;> (first | rfl | simp)) | (simp [*]; done)), H', ⟨by have := HJ1.out; have := HK2.out; have := HK3.out; omega⟩, ⟨rZ ae G⟩, ⟨rZ af G⟩, ⟨sZ dp G⟩, ⟨kN z D⟩, ⟨kN A I⟩, ⟨by (with_reducible repeat (first | refine blk_drewN ?_ _ | refine blk_drew ?_ | refine blk_alloc ?_ _)); exact blk_put G.out 2 _ rfl⟩, bT3 HB B E J⟩
                      ·exact nX dm H
                     ·replace dl := Bool.eq_false_iff.mpr dl; subst dl
                      rw [if_neg nF] at H; simp only [Option.some.injEq, Prod.mk.injEq] at H; obtain ⟨rfl, rfl, rfl, rfl⟩ := H
                      try go_wp2
                      replace ae := aM (Kd.R_drew ae.out); replace af := aM (Kd.R_drew af.out); replace V := aM (Kd.S_drew V.out); replace z := kD z; replace A := kD A; replace G := kD G; replace HB := aM (below_drew1 HB.out); have ba : 0 ≤ (aa : Int) := oT aO; have bb : aa < (F.length : Int) := oT aO; obtain ⟨aC, bZ, an⟩ := Kd.at_int aK.out aa ba bb; have aV := an; cases bZ; replace an := cX HB an; replace ba := eq_true ba; replace bb := eq_true bb; have bc : 0 ≤ ((ag) : Int) := oT aO; have bd : (ag) < (F.length : Int) := oT aO; obtain ⟨bH, b0, ao⟩ := Kd.at_int aK.out (ag) bc bd; have aW := ao; have he_ : aC = bH := (by injection b0); subst he_; replace ao := cX HB ao; replace bc := eq_true bc; replace bd := eq_true bd; have dL : ((rd F (ag)) : Int) ≤ ((ab.length : Int) : Int) := oT aO; obtain ⟨i088, dq, _, hsz88, _⟩ := info_parts info73; have bx : ab.length ≤ ai := cf.out; have hC88 : Kd.C k73 _ aj ab.length ab := ce.out; have ql88 : ((rd F aa) : Int) ≤ ((rd F (ag)) : Int) := oT aO; have es : (0 : Int) ≤ ((rd F aa) : Int) := oT aO; have hcut88 := cut_mid (P := Try.prog) 25 73 .i64 .i64 Try.underlying25 dq 3 hsz88 aj ab.length ai (rd F aa) (rd F (ag)) es ql88 dL bx; have b3 := Kd.C_mid (lo := ((rd F aa) : Int).toNat) (hi := ((rd F (ag)) : Int).toNat) (c := ai) hC88 (by omega) (by omega) bx; obtain ⟨fS, cp⟩ : ∃ A1, A1 = (if ai = ((rd F aa) : Int).toNat then aj else (aj : Option Addr).map (·.add (((rd F aa) : Int).toNat * 3))) := ⟨_, rfl⟩; obtain ⟨fT, cM⟩ : ∃ c1, c1 = ai - ((rd F aa) : Int).toNat := ⟨_, rfl⟩; have cq : au.length = ((rd F (ag)) : Int).toNat - ((rd F aa) : Int).toNat := (by rw [bu.out, List.length_drop, List.length_take] <;> omega); rw [show ((ab).take ((rd F (ag)) : Int).toNat).drop ((rd F aa) : Int).toNat = au from bu.out.symm] at b3; replace b3 : Kd.C k73 _ fS au.length au := (by rw [cp]; exact b3); rw [← cq, ← cp, ← cM] at hcut88; have bf := aM b3; have bI := aM (show au.length ≤ fT from by rw [cq, cM]; exact Nat.sub_le_sub_right (Nat.le_trans (by omega) bx) _); clear b3 hC88 bx dq hsz88 cM; have KY88 := aM cq; have KA88 := aM cp; clear cq cp; replace dL := eq_true dL; refine start_ (n := 15) (S := fun w' => w'.cell? ⟨O, 0, none⟩ = some (.slice aq ac.length ar) ∧ w'.cell? ⟨O, 1, none⟩ = some (.slice aw U.length ax) ∧ w'.cell? ⟨O, 2, none⟩ = some (.slice (some aC) F.length ay) ∧ w'.cell? ⟨O, 3, none⟩ = some (.slice aj ab.length ai) ∧ w'.cell? (aC.add (aa).toNat) = some (.int .i64 (rd F aa)) ∧ w'.cell? (aC.add ((ag)).toNat) = some (.int .i64 (rd F (ag)))) (ds := []) (bl 15 0) (by kernel_rfl) rfl rfl ⟨(blk_cell z.out 0).trans rfl, (blk_cell z.out 1).trans rfl, (blk_cell z.out 2).trans rfl, (blk_cell z.out 3).trans rfl, ((HB.out.cell (World.block_lt_of_cell? w _ aV)).trans aV), ((HB.out.cell (World.block_lt_of_cell? w _ aW)).trans aW)⟩ (fun hHeld => ?_); refine with_tabW tabardref12_Unpack.tab13 tabardref12_Unpack.bits13 (fun HT_ HW_ => ?_); generalize wr.drew = g9 at ae af V z A G HB bf an ao hHeld ⊢; refine pu_ 0 78 (bl 15 1) HT_ ?_; refine pu_ 2 80 (bl 15 5) HT_ ?_; refine pu_ 4 82 (bl 15 21) HT_ ?_; refine pu_ 7 85 (bl 15 149) HT_ ?_; refine pu_ 9 87 (bl 15 661) HT_ ?_; refine pu_ 10 88 (bl 15 1685) HT_ ?_; refine tk6_ 1 79 (bl 15 1687) HT_ HW_ hHeld ?_; refine tk6_ 3 81 (bl 15 1695) HT_ HW_ hHeld ?_; refine pu_ 5 83 (bl 15 1727) HT_ ?_; refine tk6_ 6 84 (bl 15 1791) HT_ HW_ hHeld ?_; refine tk6_ 8 86 (bl 15 2047) HT_ HW_ hHeld ?_; refine pu_ 11 89 (bl 15 4095) HT_ ?_; refine tk6_ 12 90 (bl 15 8191) HT_ HW_ hHeld ?_; refine pu_ 13 91 (bl 15 16383) HT_ ?_; refine pu_ 14 8 (bl 15 32767) HT_ ?_; refine done_ (done_of HT_.out (by kernel_rfl)) ?_; have gA := aD.out; have gB := aE.out; have gC := D.out; have gD := M.out; obtain ⟨fg, fh, fi, fj, fk, fl, fm, fn⟩ := bG4 z
                      try go_wp2_with (first | (go_at_call 35; (with_reducible refine (tabardref11_Right.calls k3 _ _ au (ac.length : Int) (U.length : Int) false _ ?s1 bI.out ec.out).mono ?_); (case s1 => exact cB bf HB); rintro e ha ⟨rfl, hb⟩; replace ae := rB ae hb; replace af := rB af hb; replace V := aM (Kd.S_below (by (with_reducible repeat (first | apply Kd.S_alloc | apply Kd.S_drewN | apply Kd.S_drew)); exact V.out) hb); replace z := kB z hb; replace A := kB A hb; replace G := kB G hb; replace HB := hS3 HB B E J hb; (try clear hb); have gF := I.out; have gG := L.out; obtain ⟨fo, fp, fq, fr, fs, ft⟩ := bG3 A))
                      refine bodyPost_ret (results_ct rfl _ _ al 45 #[.slice none 0 0, .slice none 0 0, .slice none 0 0] (0, 0) _ rfl (by (with_reducible repeat (first | refine blk_drewN ?_ _ | refine blk_drew ?_ | refine blk_alloc ?_ _)); exact blk_put (blk_put (blk_put A.out 0 _ rfl) 1 _ rfl) 2 _ rfl) Try.underlying45 rfl (by kernel_rfl)) rfl ?_; exact ⟨_, _, _, by first | rfl | (simp [errW_none, errW_some] <;> rfl) | (simp only [← bt]; first | rfl | (simp [errW_none, errW_some] <;> rfl)) | (simp [*, errW_none, errW_some] <;> rfl), by first | exact Kd.R_nil _ _ _ _ _ | exact Kd.N_nil _ _ _ _ _ | exact Kd.V_nil _ _ _ _ _ | exact Kd.Q_nil _ _ _ _ _ | exact Kd.S_nil _ _ _ _ _, by first | exact Kd.R_nil _ _ _ _ _ | exact Kd.N_nil _ _ _ _ _ | exact Kd.V_nil _ _ _ _ _ | exact Kd.Q_nil _ _ _ _ _ | exact Kd.S_nil _ _ _ _ _, by first | exact Kd.S_nil _ _ _ _ _ | exact Kd.N_nil _ _ _ _ _ | exact Kd.V_nil _ _ _ _ _ | exact Kd.Q_nil _ _ _ _ _ | exact Kd.R_nil _ _ _ _ _, bS3 HB.out B.out E.out J.out⟩
                   ·exact nX cC H
                  ·exact nX cA H
                 ·exact nX cz H
                ·exact nX dj H
               ·exact nX di H
              ·exact nX dh H
             ·exact nX dg H
            ·rw [if_neg b9] at H; have dY := decide_eq_false b9; clear b9; simp only [Option.some.injEq, Prod.mk.injEq] at H; obtain ⟨rfl, rfl, rfl, rfl⟩ := H; have gH := M.out; have gI := D.out; have gJ := L.out; have gK := I.out; obtain ⟨fu, fv, fw, fx, fy, fz⟩ := bG3 G; have gL := aE.out; have gM := aD.out; obtain ⟨fA, fB, fC, fD, fE, fF⟩ := bG3 A; obtain ⟨d3, d4, d5⟩ := Kd.S_slice V.out; subst d5
             go_wp2
             refine bodyPost_ret (results_ct rfl _ _ al 45 #[.slice cj aG.length ck, .slice bJ a4.length bK, .slice d3 av.length d4] (0, 0) _ rfl (by (with_reducible repeat (first | refine blk_drewN ?_ _ | refine blk_drew ?_ | refine blk_alloc ?_ _)); exact blk_put (blk_put (blk_put A.out 0 _ rfl) 1 _ rfl) 2 _ rfl) Try.underlying45 rfl (by kernel_rfl)) rfl ?_; exact ⟨_, _, _, eW, rZ ae A, rZ af A, sZ V A, bS3 HB.out B.out E.out J.out⟩
         intro bz; refine join_ (σ := Value × Value × Value × Value) 2 (bl 11 511) (fun s_ => [(64, s_.1), (67, s_.2.1), (68, s_.2.2.1), (71, s_.2.2.2), (72, .agg #[s_.2.1, s_.2.2.2, .slice none 0 0])]) (fun s_ w' => (q_1 w') ∧ (RA Kd.string 9 w' w s_.2.1 aG) ∧ (RA Kd.bool 4 w' w s_.2.2.2 a4) ∧ (q_2 w') ∧ (q_3 w') ∧ BA w w') ?_ ?_
         ·clear z A HB; rintro ⟨ah, aH, ak, cJ⟩ hc ⟨hHeld, Z, aA, z, A, HB⟩; (try dsimp only at hHeld Z aA z A HB); obtain ⟨cN, cP, b4⟩ := sL aA
          (first | subst b4 | (injection b4 with aI a7 aJ; have a8 := aI.symm; have a9 := aJ.symm; clear aI a7 aJ; subst a8; subst a9))
          obtain ⟨bJ, bK, bY⟩ := sL Z
          (first | subst bY | (injection bY with aI a7 aJ; have a8 := aI.symm; have a9 := aJ.symm; clear aI a7 aJ; subst a8; subst a9))
          refine norm_ (a' := ?_) ?_ ?_; rotate_left
          ·simp only [putAll, Act.put, sA, sB, sC]
           rfl
          refine one_ (i := 9) (N := some 6) (bl 11 1023) rfl rfl (one_of HT_.out (by kernel_rfl)) (by decide) (fun K hK => ?_); refine bs_ (cs := #[.slice none 0 0, .slice none 0 0, .slice none 0 0]) (t := 45) ?_; intro Y hg hd hbox hb; replace Z := rB Z hb; replace aA := rB aA hb; have G := aM (hbox); have ad := gE hg (bP2 HB B E); have J := gE hg (bP2 HB B E); replace HB := hS2 HB B E hb; have D := nL hg z; have M := nG hg z; replace z := kB z hb; have I := nL hg A; have L := nG hg A; replace A := kB A hb; clear hb hbox hg; refine hK.out _ _ (bD4 z) (fun hHeld => ?_); clear hK K; refine nm_ 6 ?_; exact norm_ pO (bz (ah, .slice bJ aG.length bK, ak, .slice cN a4.length cP, Y) _ ⟨hHeld, rQ Z, rQ aA, kQ z, kQ A, kQ G, ad, J, D, M, I, L, bT3 HB B E J⟩)
         intro cD; refine join_ (σ := Value × Value × Value × Nat) 3 (bl 11 639) (fun s_ => [(64, s_.1), (67, s_.2.1), (68, s_.2.2.1), (6, .pointer (some ⟨s_.2.2.2, 0, none⟩))]) (fun s_ w' => (q_1 w') ∧ (RA Kd.string 9 w' w s_.2.1 aG) ∧ (RA Kd.bool 4 w' w s_.2.2.1 aU) ∧ (q_2 w') ∧ (q_3 w') ∧ (Aside0 (w'.heap[s_.2.2.2]? = some (.cells #[.slice none 0 0, .slice none 0 0, .slice none 0 0] 45 (0, 0)))) ∧ (Aside0 (w.heap.size ≤ s_.2.2.2)) ∧ (Aside0 (w.heap.size ≤ s_.2.2.2)) ∧ (Aside0 (O ≠ s_.2.2.2)) ∧ (Aside0 (s_.2.2.2 ≠ O)) ∧ (Aside0 (al ≠ s_.2.2.2)) ∧ (Aside0 (s_.2.2.2 ≠ al)) ∧ BA w w') ?_ ?_
         ·clear z A HB; rintro ⟨ah, aH, ak, Y⟩ dM ⟨hHeld, Z, Q, z, A, G, ad, J, D, M, I, L, HB⟩; (try dsimp only at hHeld Z Q z A G ad J D M I L HB); refine norm_ (a' := ?_) ?_ ?_; rotate_left
          ·simp only [putAll, Act.put, sA, sB, sC]
           rfl
          refine one_ (i := 7) (N := some 71) (bl 11 767) rfl rfl (one_of HT_.out (by kernel_rfl)) (by decide) (fun K hK => ?_); refine Kd.R_append_rows_step Kd.bool (w0 := w) w.heap.size (by rfl) (.tmp 68) (.tmp 70) 23 4 (.bool false) 1 rfl Try.underlying23 info4 rfl (by decide) (by omega) ak aU U _ _ _ (fun _ => True) (fun _ => False) rfl rfl ?aO ?aR (fun _ _ h => h) (fun _ h => h.elim) ?aF ?aB ?aS ?aL ?_
          (case aR => exact cO (Kd.C_below c2.out HB.out))
          (case aB => exact (bP3 HB B E J))
          (case aF => exact (fun _ _ => trivial))
          (case aO => exact (rP Q))
          (case aS => exact (below_size (bP3 HB B E J)))
          (case aL => have := de.out; omega)
          intro cJ he ho hb hg hat; rw [← df.out] at ho; replace z := kG z hg Q; replace A := kG A hg Q; replace Z := aM (Kd.R_over' (rP Z) (Kd.R_typed (rP Q)) (by decide) hg); replace G := kG G hg Q; replace HB := aM (hb); have aA := aM (ho); clear Q; clear ho hb hg hat; obtain ⟨cQ, cR, b5⟩ := sL aA
          (first | subst b5 | (injection b5 with aI a7 aJ; have a8 := aI.symm; have a9 := aJ.symm; clear aI a7 aJ; subst a8; subst a9))
          obtain ⟨cN, cP, b4⟩ := sL Z
          (first | subst b4 | (injection b4 with aI a7 aJ; have a8 := aI.symm; have a9 := aJ.symm; clear aI a7 aJ; subst a8; subst a9))
          refine hK.out _ _ (bD4 z) (fun hHeld => ?_); clear hK K; refine nm_ 71 ?_; refine pu_ 8 72 (bl 11 1023) HT_ ?_; exact norm_ pO (bz (ah, .slice cN aG.length cP, ak, .slice cQ a4.length cR, Y) _ ⟨hHeld, rQ Z, rQ aA, kQ z, kQ A, kQ G, ad, J, D, M, I, L, bT3 HB B E J⟩)
         intro bp; refine join_ (σ := Value × Value × Value) 4 (bl 11 127) (fun s_ => [(64, s_.1), (67, s_.2.1), (68, s_.2.2)]) (fun s_ w' => (q_1 w') ∧ (RA Kd.string 9 w' w s_.2.1 aG) ∧ (RA Kd.bool 4 w' w s_.2.2 aU) ∧ (q_2 w') ∧ (q_3 w') ∧ BA w w') ?_ ?_
         ·clear z A HB; rintro ⟨ah, aH, ak⟩ dr ⟨hHeld, Z, Q, z, A, HB⟩; (try dsimp only at hHeld Z Q z A HB); refine norm_ (a' := ?_) ?_ ?_; rotate_left
          ·simp only [putAll, Act.put, sA, sB, sC]
           rfl
          refine two_ (i := 7) (j := 9) (Ni := some 71) (Nj := some 6) (bl 11 255) (bl 11 639) rfl rfl rfl rfl (two_of HT_.out (by kernel_rfl)) (by decide) (by decide) (fun K hK => ?_) (fun K hK => ?_)
          ·refine Kd.R_append_rows_step Kd.bool (w0 := w) w.heap.size (by rfl) (.tmp 68) (.tmp 70) 23 4 (.bool false) 1 rfl Try.underlying23 info4 rfl (by decide) (by omega) ak aU U _ _ _ (fun _ => True) (fun _ => False) rfl rfl ?aO ?aR (fun _ _ h => h) (fun _ h => h.elim) ?aF ?aB ?aS ?aL ?_
           (case aR => exact cO (Kd.C_below c2.out HB.out))
           (case aB => exact (bP2 HB B E))
           (case aF => exact (fun _ _ => trivial))
           (case aO => exact (rP Q))
           (case aS => exact (below_size (bP2 HB B E)))
           (case aL => have := de.out; omega)
           intro cJ dM ho hb hg hat; rw [← df.out] at ho; replace z := kG z hg Q; replace A := kG A hg Q; replace Z := aM (Kd.R_over' (rP Z) (Kd.R_typed (rP Q)) (by decide) hg); replace HB := aM (hb); have aA := aM (ho); clear Q; clear ho hb hg hat; obtain ⟨et, eu, dN⟩ := sL aA
           (first | subst dN | (injection dN with aI a7 aJ; have a8 := aI.symm; have a9 := aJ.symm; clear aI a7 aJ; subst a8; subst a9))
           obtain ⟨cQ, cR, b5⟩ := sL Z
           (first | subst b5 | (injection b5 with aI a7 aJ; have a8 := aI.symm; have a9 := aJ.symm; clear aI a7 aJ; subst a8; subst a9))
           refine hK.out _ _ (bD4 z) (fun hHeld => ?_); clear hK K; refine nm_ 71 ?_; refine pu_ 8 72 (bl 11 511) HT_ ?_; exact norm_ pO (cD (ah, .slice cQ aG.length cR, ak, .slice et a4.length eu) _ ⟨hHeld, rQ Z, rQ aA, kQ z, kQ A, bT2 HB B E⟩)
          ·refine bs_ (cs := #[.slice none 0 0, .slice none 0 0, .slice none 0 0]) (t := 45) ?_; intro Y hg dM hbox hb; replace Z := rB Z hb; replace Q := rB Q hb; have G := aM (hbox); have ad := gE hg (bP2 HB B E); have J := gE hg (bP2 HB B E); replace HB := hS2 HB B E hb; have D := nL hg z; have M := nG hg z; replace z := kB z hb; have I := nL hg A; have L := nG hg A; replace A := kB A hb; clear hb hbox hg; refine hK.out _ _ (bD4 z) (fun hHeld => ?_); clear hK K; refine nm_ 6 ?_; exact norm_ pO (bp (ah, aH, ak, Y) _ ⟨hHeld, rQ Z, rQ Q, kQ z, kQ A, kQ G, ad, J, D, M, I, L, bT3 HB B E J⟩)
         intro cb; refine join_ (σ := Value × Value × Nat) 4 (bl 11 623) (fun s_ => [(64, s_.1), (67, s_.2.1), (6, .pointer (some ⟨s_.2.2, 0, none⟩))]) (fun s_ w' => (q_1 w') ∧ (RA Kd.string 9 w' w s_.2.1 aG) ∧ (q_2 w') ∧ (q_3 w') ∧ (Aside0 (w'.heap[s_.2.2]? = some (.cells #[.slice none 0 0, .slice none 0 0, .slice none 0 0] 45 (0, 0)))) ∧ (Aside0 (w.heap.size ≤ s_.2.2)) ∧ (Aside0 (w.heap.size ≤ s_.2.2)) ∧ (Aside0 (O ≠ s_.2.2)) ∧ (Aside0 (s_.2.2 ≠ O)) ∧ (Aside0 (al ≠ s_.2.2)) ∧ (Aside0 (s_.2.2 ≠ al)) ∧ BA w w') ?_ ?_
         ·clear z A HB; rintro ⟨ah, aH, Y⟩ cc ⟨hHeld, Z, z, A, G, ad, J, D, M, I, L, HB⟩; (try dsimp only at hHeld Z z A G ad J D M I L HB); refine norm_ (a' := ?_) ?_ ?_; rotate_left
          ·simp only [putAll, Act.put, sA, sB, sC]
           rfl
          refine one_ (i := 4) (N := some 68) (bl 11 639) rfl rfl (one_of HT_.out (by kernel_rfl)) (by decide) (fun K hK => ?_); refine lt_ Kd.bool 4 68 ([] : List Bool) [] (Reps.none _ _) ?_; intro ak dr cr hb
          replace cr := nW bs cr
          replace Z := rB Z hb; have Q := rW cr (bP3 HB B E J); replace z := kB z hb; replace A := kB A hb; replace G := kB G hb; replace HB := hS3 HB B E J hb; clear hb cr; refine hK.out _ _ (bD4 z) (fun hHeld => ?_); clear hK K; refine nm_ 68 ?_; exact norm_ pO (bp (ah, aH, ak, Y) _ ⟨hHeld, rQ Z, rQ Q, kQ z, kQ A, kQ G, ad, J, D, M, I, L, bT3 HB B E J⟩)
         intro cd; refine join_ (σ := Value × Value × Nat) 4 (bl 11 631) (fun s_ => [(64, s_.1), (68, s_.2.1), (6, .pointer (some ⟨s_.2.2, 0, none⟩))]) (fun s_ w' => (q_1 w') ∧ (RA Kd.string 9 w' w s_.1 aZ) ∧ (RA Kd.bool 4 w' w s_.2.1 aU) ∧ (q_2 w') ∧ (q_3 w') ∧ (Aside0 (w'.heap[s_.2.2]? = some (.cells #[.slice none 0 0, .slice none 0 0, .slice none 0 0] 45 (0, 0)))) ∧ (Aside0 (w.heap.size ≤ s_.2.2)) ∧ (Aside0 (w.heap.size ≤ s_.2.2)) ∧ (Aside0 (O ≠ s_.2.2)) ∧ (Aside0 (s_.2.2 ≠ O)) ∧ (Aside0 (al ≠ s_.2.2)) ∧ (Aside0 (s_.2.2 ≠ al)) ∧ BA w w') ?_ ?_
         ·clear z A HB; rintro ⟨ah, ak, Y⟩ dr ⟨hHeld, W, Q, z, A, G, ad, J, D, M, I, L, HB⟩; (try dsimp only at hHeld W Q z A G ad J D M I L HB); refine norm_ (a' := ?_) ?_ ?_; rotate_left
          ·simp only [putAll, Act.put, sA, sB, sC]
           rfl
          refine one_ (i := 3) (N := some 67) (bl 11 639) rfl rfl (one_of HT_.out (by kernel_rfl)) (by decide) (fun K hK => ?_); refine Kd.R_append_rows_step Kd.string (w0 := w) w.heap.size (by rfl) (.tmp 64) (.tmp 66) 22 9 (.string ⟨#[]⟩) 16 rfl Try.underlying22 info9 rfl (by decide) (by omega) ah aZ ac _ _ _ (fun _ => True) (fun _ => False) rfl rfl ?aO ?aR (fun _ _ h => h) (fun _ h => h.elim) ?aF ?aB ?aS ?aL ?_
          (case aR => exact cO (Kd.C_below be.out HB.out))
          (case aB => exact (bP3 HB B E J))
          (case aF => exact (fun _ _ => trivial))
          (case aO => exact (rP W))
          (case aS => exact (below_size (bP3 HB B E J)))
          (case aL => have := bQ.out; omega)
          intro aH dM ho hb hg hat; rw [← bS.out] at ho; replace z := kG z hg W; replace A := kG A hg W; replace Q := aM (Kd.R_over' (rP Q) (Kd.R_typed (rP W)) (by decide) hg); replace G := kG G hg W; replace HB := aM (hb); have Z := aM (ho); clear W; clear ho hb hg hat; refine hK.out _ _ (bD4 z) (fun hHeld => ?_); clear hK K; refine nm_ 67 ?_; exact norm_ pO (bp (ah, aH, ak, Y) _ ⟨hHeld, rQ Z, rQ Q, kQ z, kQ A, kQ G, ad, J, D, M, I, L, bT3 HB B E J⟩)
         intro bM; refine join_ (σ := Value × Value) 5 (bl 11 111) (fun s_ => [(64, s_.1), (67, s_.2)]) (fun s_ w' => (q_1 w') ∧ (RA Kd.string 9 w' w s_.2 aG) ∧ (q_2 w') ∧ (q_3 w') ∧ BA w w') ?_ ?_
         ·clear z A HB; rintro ⟨ah, aH⟩ b6 ⟨hHeld, Z, z, A, HB⟩; (try dsimp only at hHeld Z z A HB); refine norm_ (a' := ?_) ?_ ?_; rotate_left
          ·simp only [putAll, Act.put, sA, sB, sC]
           rfl
          refine two_ (i := 4) (j := 9) (Ni := some 68) (Nj := some 6) (bl 11 127) (bl 11 623) rfl rfl rfl rfl (two_of HT_.out (by kernel_rfl)) (by decide) (by decide) (fun K hK => ?_) (fun K hK => ?_)
          ·refine lt_ Kd.bool 4 68 ([] : List Bool) [] (Reps.none _ _) ?_; intro ak cc aX hb
           replace aX := nW bs aX
           replace Z := rB Z hb; have Q := rW aX (bP2 HB B E); replace z := kB z hb; replace A := kB A hb; replace HB := hS2 HB B E hb; clear hb aX; refine hK.out _ _ (bD4 z) (fun hHeld => ?_); clear hK K; refine nm_ 68 ?_; exact norm_ pO (cb (ah, aH, ak) _ ⟨hHeld, rQ Z, rQ Q, kQ z, kQ A, bT2 HB B E⟩)
          ·refine bs_ (cs := #[.slice none 0 0, .slice none 0 0, .slice none 0 0]) (t := 45) ?_; intro Y hg cc hbox hb; replace Z := rB Z hb; have G := aM (hbox); have ad := gE hg (bP2 HB B E); have J := gE hg (bP2 HB B E); replace HB := hS2 HB B E hb; have D := nL hg z; have M := nG hg z; replace z := kB z hb; have I := nL hg A; have L := nG hg A; replace A := kB A hb; clear hb hbox hg; refine hK.out _ _ (bD4 z) (fun hHeld => ?_); clear hK K; refine nm_ 6 ?_; exact norm_ pO (cd (ah, aH, Y) _ ⟨hHeld, rQ Z, kQ z, kQ A, kQ G, ad, J, D, M, I, L, bT3 HB B E J⟩)
         intro d6; refine join_ (σ := Value × Value) 5 (bl 11 119) (fun s_ => [(64, s_.1), (68, s_.2)]) (fun s_ w' => (q_1 w') ∧ (RA Kd.string 9 w' w s_.1 aZ) ∧ (RA Kd.bool 4 w' w s_.2 aU) ∧ (q_2 w') ∧ (q_3 w') ∧ BA w w') ?_ ?_
         ·clear z A HB; rintro ⟨ah, ak⟩ cc ⟨hHeld, W, Q, z, A, HB⟩; (try dsimp only at hHeld W Q z A HB); refine norm_ (a' := ?_) ?_ ?_; rotate_left
          ·simp only [putAll, Act.put, sA, sB, sC]
           rfl
          refine two_ (i := 3) (j := 9) (Ni := some 67) (Nj := some 6) (bl 11 127) (bl 11 631) rfl rfl rfl rfl (two_of HT_.out (by kernel_rfl)) (by decide) (by decide) (fun K hK => ?_) (fun K hK => ?_)
          ·refine Kd.R_append_rows_step Kd.string (w0 := w) w.heap.size (by rfl) (.tmp 64) (.tmp 66) 22 9 (.string ⟨#[]⟩) 16 rfl Try.underlying22 info9 rfl (by decide) (by omega) ah aZ ac _ _ _ (fun _ => True) (fun _ => False) rfl rfl ?aO ?aR (fun _ _ h => h) (fun _ h => h.elim) ?aF ?aB ?aS ?aL ?_
           (case aR => exact cO (Kd.C_below be.out HB.out))
           (case aB => exact (bP2 HB B E))
           (case aF => exact (fun _ _ => trivial))
           (case aO => exact (rP W))
           (case aS => exact (below_size (bP2 HB B E)))
           (case aL => have := bQ.out; omega)
           intro aH dr ho hb hg hat; rw [← bS.out] at ho; replace z := kG z hg W; replace A := kG A hg W; replace Q := aM (Kd.R_over' (rP Q) (Kd.R_typed (rP W)) (by decide) hg); replace HB := aM (hb); have Z := aM (ho); clear W; clear ho hb hg hat; refine hK.out _ _ (bD4 z) (fun hHeld => ?_); clear hK K; refine nm_ 67 ?_; exact norm_ pO (cb (ah, aH, ak) _ ⟨hHeld, rQ Z, rQ Q, kQ z, kQ A, bT2 HB B E⟩)
          ·refine bs_ (cs := #[.slice none 0 0, .slice none 0 0, .slice none 0 0]) (t := 45) ?_; intro Y hg dr hbox hb; replace W := rB W hb; replace Q := rB Q hb; have G := aM (hbox); have ad := gE hg (bP2 HB B E); have J := gE hg (bP2 HB B E); replace HB := hS2 HB B E hb; have D := nL hg z; have M := nG hg z; replace z := kB z hb; have I := nL hg A; have L := nG hg A; replace A := kB A hb; clear hb hbox hg; refine hK.out _ _ (bD4 z) (fun hHeld => ?_); clear hK K; refine nm_ 6 ?_; exact norm_ pO (bM (ah, ak, Y) _ ⟨hHeld, rQ W, rQ Q, kQ z, kQ A, kQ G, ad, J, D, M, I, L, bT3 HB B E J⟩)
         intro dt; refine join_ (σ := Value × Nat) 5 (bl 11 615) (fun s_ => [(64, s_.1), (6, .pointer (some ⟨s_.2, 0, none⟩))]) (fun s_ w' => (q_1 w') ∧ (RA Kd.string 9 w' w s_.1 aZ) ∧ (q_2 w') ∧ (q_3 w') ∧ (Aside0 (w'.heap[s_.2]? = some (.cells #[.slice none 0 0, .slice none 0 0, .slice none 0 0] 45 (0, 0)))) ∧ (Aside0 (w.heap.size ≤ s_.2)) ∧ (Aside0 (w.heap.size ≤ s_.2)) ∧ (Aside0 (O ≠ s_.2)) ∧ (Aside0 (s_.2 ≠ O)) ∧ (Aside0 (al ≠ s_.2)) ∧ (Aside0 (s_.2 ≠ al)) ∧ BA w w') ?_ ?_
         ·clear z A HB; rintro ⟨ah, Y⟩ b6 ⟨hHeld, W, z, A, G, ad, J, D, M, I, L, HB⟩; (try dsimp only at hHeld W z A G ad J D M I L HB); refine norm_ (a' := ?_) ?_ ?_; rotate_left
          ·simp only [putAll, Act.put, sA, sB, sC]
           rfl
          refine two_ (i := 3) (j := 4) (Ni := some 67) (Nj := some 68) (bl 11 623) (bl 11 631) rfl rfl rfl rfl (two_of HT_.out (by kernel_rfl)) (by decide) (by decide) (fun K hK => ?_) (fun K hK => ?_)
          ·refine Kd.R_append_rows_step Kd.string (w0 := w) w.heap.size (by rfl) (.tmp 64) (.tmp 66) 22 9 (.string ⟨#[]⟩) 16 rfl Try.underlying22 info9 rfl (by decide) (by omega) ah aZ ac _ _ _ (fun _ => True) (fun _ => False) rfl rfl ?aO ?aR (fun _ _ h => h) (fun _ h => h.elim) ?aF ?aB ?aS ?aL ?_
           (case aR => exact cO (Kd.C_below be.out HB.out))
           (case aB => exact (bP3 HB B E J))
           (case aF => exact (fun _ _ => trivial))
           (case aO => exact (rP W))
           (case aS => exact (below_size (bP3 HB B E J)))
           (case aL => have := bQ.out; omega)
           intro aH cc ho hb hg hat; rw [← bS.out] at ho; replace z := kG z hg W; replace A := kG A hg W; replace G := kG G hg W; replace HB := aM (hb); have Z := aM (ho); clear W; clear ho hb hg hat; refine hK.out _ _ (bD4 z) (fun hHeld => ?_); clear hK K; refine nm_ 67 ?_; exact norm_ pO (cd (ah, aH, Y) _ ⟨hHeld, rQ Z, kQ z, kQ A, kQ G, ad, J, D, M, I, L, bT3 HB B E J⟩)
          ·refine lt_ Kd.bool 4 68 ([] : List Bool) [] (Reps.none _ _) ?_; intro ak cc aX hb
           replace aX := nW bs aX
           replace W := rB W hb; have Q := rW aX (bP3 HB B E J); replace z := kB z hb; replace A := kB A hb; replace G := kB G hb; replace HB := hS3 HB B E J hb; clear hb aX; refine hK.out _ _ (bD4 z) (fun hHeld => ?_); clear hK K; refine nm_ 68 ?_; exact norm_ pO (bM (ah, ak, Y) _ ⟨hHeld, rQ W, rQ Q, kQ z, kQ A, kQ G, ad, J, D, M, I, L, bT3 HB B E J⟩)
         intro du; refine join_ (σ := Value × Nat) 5 (bl 11 630) (fun s_ => [(68, s_.1), (6, .pointer (some ⟨s_.2, 0, none⟩))]) (fun s_ w' => (q_1 w') ∧ (RA Kd.bool 4 w' w s_.1 aU) ∧ (q_2 w') ∧ (q_3 w') ∧ (Aside0 (w'.heap[s_.2]? = some (.cells #[.slice none 0 0, .slice none 0 0, .slice none 0 0] 45 (0, 0)))) ∧ (Aside0 (w.heap.size ≤ s_.2)) ∧ (Aside0 (w.heap.size ≤ s_.2)) ∧ (Aside0 (O ≠ s_.2)) ∧ (Aside0 (s_.2 ≠ O)) ∧ (Aside0 (al ≠ s_.2)) ∧ (Aside0 (s_.2 ≠ al)) ∧ BA w w') ?_ ?_
         ·clear z A HB; rintro ⟨ak, Y⟩ b6 ⟨hHeld, Q, z, A, G, ad, J, D, M, I, L, HB⟩; (try dsimp only at hHeld Q z A G ad J D M I L HB); refine norm_ (a' := ?_) ?_ ?_; rotate_left
          ·simp only [putAll, Act.put, sA, sB, sC]
           rfl
          refine one_ (i := 0) (N := some 64) (bl 11 631) rfl rfl (one_of HT_.out (by kernel_rfl)) (by decide) (fun K hK => ?_); refine lt_ Kd.string 9 64 ([] : List ByteArray) [] (Reps.none _ _) ?_; intro ah cc aX hb
          replace aX := nW bP aX
          replace Q := rB Q hb; have W := rW aX (bP3 HB B E J); replace z := kB z hb; replace A := kB A hb; replace G := kB G hb; replace HB := hS3 HB B E J hb; clear hb aX; refine hK.out _ _ (bD4 z) (fun hHeld => ?_); clear hK K; refine nm_ 64 ?_; exact norm_ pO (bM (ah, ak, Y) _ ⟨hHeld, rQ W, rQ Q, kQ z, kQ A, kQ G, ad, J, D, M, I, L, bT3 HB B E J⟩)
         intro dv; refine join_ (σ := Value) 6 (bl 11 103) (fun s_ => [(64, s_)]) (fun s_ w' => (q_1 w') ∧ (RA Kd.string 9 w' w s_ aZ) ∧ (q_2 w') ∧ (q_3 w') ∧ BA w w') ?_ ?_
         ·clear z A HB; rintro ah dO ⟨hHeld, W, z, A, HB⟩; (try dsimp only at hHeld W z A HB); refine norm_ (a' := ?_) ?_ ?_; rotate_left
          ·simp only [putAll, Act.put, sA, sB, sC]
           rfl
          refine three_ (i := 3) (j := 4) (k := 9) (Ni := some 67) (Nj := some 68) (Nk := some 6) (bl 11 111) (bl 11 119) (bl 11 615) rfl rfl rfl rfl rfl rfl (three_of HT_.out (by kernel_rfl)) (by decide) (by decide) (by decide) (fun K hK => ?_) (fun K hK => ?_) (fun K hK => ?_)
          ·refine Kd.R_append_rows_step Kd.string (w0 := w) w.heap.size (by rfl) (.tmp 64) (.tmp 66) 22 9 (.string ⟨#[]⟩) 16 rfl Try.underlying22 info9 rfl (by decide) (by omega) ah aZ ac _ _ _ (fun _ => True) (fun _ => False) rfl rfl ?aO ?aR (fun _ _ h => h) (fun _ h => h.elim) ?aF ?aB ?aS ?aL ?_
           (case aR => exact cO (Kd.C_below be.out HB.out))
           (case aB => exact (bP2 HB B E))
           (case aF => exact (fun _ _ => trivial))
           (case aO => exact (rP W))
           (case aS => exact (below_size (bP2 HB B E)))
           (case aL => have := bQ.out; omega)
           intro aH b6 ho hb hg hat; rw [← bS.out] at ho; replace z := kG z hg W; replace A := kG A hg W; replace HB := aM (hb); have Z := aM (ho); clear W; clear ho hb hg hat; refine hK.out _ _ (bD4 z) (fun hHeld => ?_); clear hK K; refine nm_ 67 ?_; exact norm_ pO (d6 (ah, aH) _ ⟨hHeld, rQ Z, kQ z, kQ A, bT2 HB B E⟩)
          ·refine lt_ Kd.bool 4 68 ([] : List Bool) [] (Reps.none _ _) ?_; intro ak b6 bk hb
           replace bk := nW bs bk
           replace W := rB W hb; have Q := rW bk (bP2 HB B E); replace z := kB z hb; replace A := kB A hb; replace HB := hS2 HB B E hb; clear hb bk; refine hK.out _ _ (bD4 z) (fun hHeld => ?_); clear hK K; refine nm_ 68 ?_; exact norm_ pO (dt (ah, ak) _ ⟨hHeld, rQ W, rQ Q, kQ z, kQ A, bT2 HB B E⟩)
          ·refine bs_ (cs := #[.slice none 0 0, .slice none 0 0, .slice none 0 0]) (t := 45) ?_; intro Y hg b6 hbox hb; replace W := rB W hb; have G := aM (hbox); have ad := gE hg (bP2 HB B E); have J := gE hg (bP2 HB B E); replace HB := hS2 HB B E hb; have D := nL hg z; have M := nG hg z; replace z := kB z hb; have I := nL hg A; have L := nG hg A; replace A := kB A hb; clear hb hbox hg; refine hK.out _ _ (bD4 z) (fun hHeld => ?_); clear hK K; refine nm_ 6 ?_; exact norm_ pO (du (ah, Y) _ ⟨hHeld, rQ W, kQ z, kQ A, kQ G, ad, J, D, M, I, L, bT3 HB B E J⟩)
         intro fU; refine join_ (σ := Value) 6 (bl 11 118) (fun s_ => [(68, s_)]) (fun s_ w' => (q_1 w') ∧ (RA Kd.bool 4 w' w s_ aU) ∧ (q_2 w') ∧ (q_3 w') ∧ BA w w') ?_ ?_
         ·clear z A HB; rintro ak dO ⟨hHeld, Q, z, A, HB⟩; (try dsimp only at hHeld Q z A HB); refine norm_ (a' := ?_) ?_ ?_; rotate_left
          ·simp only [putAll, Act.put, sA, sB, sC]
           rfl
          refine two_ (i := 0) (j := 9) (Ni := some 64) (Nj := some 6) (bl 11 119) (bl 11 630) rfl rfl rfl rfl (two_of HT_.out (by kernel_rfl)) (by decide) (by decide) (fun K hK => ?_) (fun K hK => ?_)
          ·refine lt_ Kd.string 9 64 ([] : List ByteArray) [] (Reps.none _ _) ?_; intro ah b6 bk hb
           replace bk := nW bP bk
           replace Q := rB Q hb; have W := rW bk (bP2 HB B E); replace z := kB z hb; replace A := kB A hb; replace HB := hS2 HB B E hb; clear hb bk; refine hK.out _ _ (bD4 z) (fun hHeld => ?_); clear hK K; refine nm_ 64 ?_; exact norm_ pO (dt (ah, ak) _ ⟨hHeld, rQ W, rQ Q, kQ z, kQ A, bT2 HB B E⟩)
          ·refine bs_ (cs := #[.slice none 0 0, .slice none 0 0, .slice none 0 0]) (t := 45) ?_; intro Y hg b6 hbox hb; replace Q := rB Q hb; have G := aM (hbox); have ad := gE hg (bP2 HB B E); have J := gE hg (bP2 HB B E); replace HB := hS2 HB B E hb; have D := nL hg z; have M := nG hg z; replace z := kB z hb; have I := nL hg A; have L := nG hg A; replace A := kB A hb; clear hb hbox hg; refine hK.out _ _ (bD4 z) (fun hHeld => ?_); clear hK K; refine nm_ 6 ?_; exact norm_ pO (dv (ak, Y) _ ⟨hHeld, rQ Q, kQ z, kQ A, kQ G, ad, J, D, M, I, L, bT3 HB B E J⟩)
         intro fV; refine join_ (σ := Nat) 6 (bl 11 614) (fun s_ => [(6, .pointer (some ⟨s_, 0, none⟩))]) (fun s_ w' => (q_1 w') ∧ (q_2 w') ∧ (q_3 w') ∧ (Aside0 (w'.heap[s_]? = some (.cells #[.slice none 0 0, .slice none 0 0, .slice none 0 0] 45 (0, 0)))) ∧ (Aside0 (w.heap.size ≤ s_)) ∧ (Aside0 (w.heap.size ≤ s_)) ∧ (Aside0 (O ≠ s_)) ∧ (Aside0 (s_ ≠ O)) ∧ (Aside0 (al ≠ s_)) ∧ (Aside0 (s_ ≠ al)) ∧ BA w w') ?_ ?_
         ·clear z A HB; rintro Y hf ⟨hHeld, z, A, G, ad, J, D, M, I, L, HB⟩; (try dsimp only at hHeld z A G ad J D M I L HB); refine norm_ (a' := ?_) ?_ ?_; rotate_left
          ·simp only [putAll, Act.put, sA, sB, sC]
           rfl
          refine two_ (i := 0) (j := 4) (Ni := some 64) (Nj := some 68) (bl 11 615) (bl 11 630) rfl rfl rfl rfl (two_of HT_.out (by kernel_rfl)) (by decide) (by decide) (fun K hK => ?_) (fun K hK => ?_)
          ·refine lt_ Kd.string 9 64 ([] : List ByteArray) [] (Reps.none _ _) ?_; intro ah dO bm hb
           replace bm := nW bP bm
           have W := rW bm (bP3 HB B E J); replace z := kB z hb; replace A := kB A hb; replace G := kB G hb; replace HB := hS3 HB B E J hb; clear hb bm; refine hK.out _ _ (bD4 z) (fun hHeld => ?_); clear hK K; refine nm_ 64 ?_; exact norm_ pO (du (ah, Y) _ ⟨hHeld, rQ W, kQ z, kQ A, kQ G, ad, J, D, M, I, L, bT3 HB B E J⟩)
          ·refine lt_ Kd.bool 4 68 ([] : List Bool) [] (Reps.none _ _) ?_; intro ak dO bm hb
           replace bm := nW bs bm
           have Q := rW bm (bP3 HB B E J); replace z := kB z hb; replace A := kB A hb; replace G := kB G hb; replace HB := hS3 HB B E J hb; clear hb bm; refine hK.out _ _ (bD4 z) (fun hHeld => ?_); clear hK K; refine nm_ 68 ?_; exact norm_ pO (dv (ak, Y) _ ⟨hHeld, rQ Q, kQ z, kQ A, kQ G, ad, J, D, M, I, L, bT3 HB B E J⟩)
         intro fW; refine three_ (i := 0) (j := 4) (k := 9) (Ni := some 64) (Nj := some 68) (Nk := some 6) (bl 11 103) (bl 11 118) (bl 11 614) rfl rfl rfl rfl rfl rfl (three_of HT_.out (by kernel_rfl)) (by decide) (by decide) (by decide) (fun K hK => ?_) (fun K hK => ?_) (fun K hK => ?_)
         ·refine lt_ Kd.string 9 64 ([] : List ByteArray) [] (Reps.none _ _) ?_; intro ah ef bo hb
          replace bo := nW bP bo
          have W := rW bo (bP2 HB B E); replace z := kB z hb; replace A := kB A hb; replace HB := hS2 HB B E hb; clear hb bo; refine hK.out _ _ (bD4 z) (fun hHeld => ?_); clear hK K; refine nm_ 64 ?_; exact norm_ pO (fU (ah) _ ⟨hHeld, rQ W, kQ z, kQ A, bT2 HB B E⟩)
         ·refine lt_ Kd.bool 4 68 ([] : List Bool) [] (Reps.none _ _) ?_; intro ak ef bo hb
          replace bo := nW bs bo
          have Q := rW bo (bP2 HB B E); replace z := kB z hb; replace A := kB A hb; replace HB := hS2 HB B E hb; clear hb bo; refine hK.out _ _ (bD4 z) (fun hHeld => ?_); clear hK K; refine nm_ 68 ?_; exact norm_ pO (fV (ak) _ ⟨hHeld, rQ Q, kQ z, kQ A, bT2 HB B E⟩)
         ·refine bs_ (cs := #[.slice none 0 0, .slice none 0 0, .slice none 0 0]) (t := 45) ?_; intro Y hg ef hbox hb; have G := aM (hbox); have ad := gE hg (bP2 HB B E); have J := gE hg (bP2 HB B E); replace HB := hS2 HB B E hb; have D := nL hg z; have M := nG hg z; replace z := kB z hb; have I := nL hg A; have L := nG hg A; replace A := kB A hb; clear hb hbox hg; refine hK.out _ _ (bD4 z) (fun hHeld => ?_); clear hK K; refine nm_ 6 ?_; exact norm_ pO (fW (Y) _ ⟨hHeld, kQ z, kQ A, kQ G, ad, J, D, M, I, L, bT3 HB B E J⟩)
        ·exact nX dd H
       ·exact nX dc H

end Go.Proofs.Ytninoenmhcbonaa.X

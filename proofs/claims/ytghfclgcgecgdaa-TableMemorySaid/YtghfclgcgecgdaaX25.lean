/- What the functions of this seat compute, and that the program's calls come to just that: written by this session's own program out of the translation; no condition. -/
import Derived.Test.YtghfclgcgecgdaaX0
import Derived.Test.YtghfclgcgecgdaaX9
import Derived.Test.YtghfclgcgecgdaaX12
import Derived.Test.YtghfclgcgecgdaaX14
import Derived.Test.YtghfclgcgecgdaaX16
namespace Go.Proofs.Ytghfclgcgecgdaa.X
open Go.RowKit Go.Proofs.YtghfclgcgecgdaaW.PrintWords Go.Proofs.YtghfclgcgecgdaaW.PrintLast Go.Proofs.YtghfclgcgecgdaaW.PrintMore
attribute [local go_sem] max2_int min2_int max_two min_two max_three min_three max_four min_four
set_option linter.unusedVariables false
set_option linter.unusedSimpArgs false
set_option maxHeartbeats 8000000
set_option maxRecDepth 100000

/-! ### table_Unpack: function 27 -/
def table_Unpack.l0 : Nat → Int → Int → List ByteArray → List Bool → List Int → List (S58) → List ByteArray → List Bool → List (List Int) → Option (List ByteArray × List Bool × (List (List Int)) × Int)
 | 0, _, _, _, _, _, _, _, _, _ => none
 | k + 1, x24, x25, x321000, x321001, x321002, x321003, x330000, x330001, x330002 => if x25 < x24 then ((table_rowOf.f x321000 x321001 x321002 x321003 x25).bind fun t330 => ((row_Unpack.f k t330 (x321000.length : Int)).bind fun bt333 => (if bt333.2 = 0 then (if x330002.length < 5864062014805 then (table_Unpack.l0 k x24 (wrap64 (x25 + 1)) x321000 x321001 x321002 x321003 x330000 x330001 (x330002 ++ [bt333.1])) else (none)) else (some (([] : List ByteArray), ([] : List Bool), ([] : List (List Int)), bt333.2))))) else (some (x330000, x330001, x330002, 0))
def table_Unpack.f (k : Nat) (l0_0 : List ByteArray) (l0_1 : List Bool) (l0_2 : List Int) (l0_3 : List (S58)) : Option (List ByteArray × List Bool × (List (List Int)) × Int) := (table_Check.f k l0_0 l0_1 l0_2 l0_3).bind fun t322 => (if t322 = 0 then ((slices_Clone_string_string.f l0_0).bind fun t323 => ((slices_Clone_bool_bool.f l0_1).bind fun t326 => (table_Unpack.l0 k (l0_1.length : Int) 0 l0_0 l0_1 l0_2 l0_3 t323 t326 ([] : List (List Int))))) else (some (([] : List ByteArray), ([] : List Bool), ([] : List (List Int)), t322)))
theorem table_Unpack.mono_l : ∀ k, (∀ y0 y1 y2 y3 y4 y5 y6 y7 y8, LeO (table_Unpack.l0 k y0 y1 y2 y3 y4 y5 y6 y7 y8) (table_Unpack.l0 (k + 1) y0 y1 y2 y3 y4 y5 y6 y7 y8))
 | 0 => fun _ _ _ _ _ _ _ _ _ r h => by simp [table_Unpack.l0] at h
 | k + 1 => by
  have ih0 := table_Unpack.mono_l k
  ·intro y0 y1 y2 y3 y4 y5 y6 y7 y8
   unfold table_Unpack.l0
   repeat' first | (with_reducible first | exact ih0 _ _ _ _ _ _ _ _ _ | exact row_Unpack.mono _ _ _ | exact table_Check.mono _ _ _ _ _ | exact lA | apply lI | refine lB ?_ fun _ => ?_) | exact lN _ | apply lI | refine lB ?_ fun _ => ?_
theorem table_Unpack.mono : ∀ a0 a1 a2 a3 k, LeO (table_Unpack.f k a0 a1 a2 a3) (table_Unpack.f (k + 1) a0 a1 a2 a3) := by
 intro a0 a1 a2 a3 k; have ih0 := table_Unpack.mono_l k
 unfold table_Unpack.f
 repeat' first | (with_reducible first | exact ih0 _ _ _ _ _ _ _ _ _ | exact row_Unpack.mono _ _ _ | exact table_Check.mono _ _ _ _ _ | exact lA | apply lI | refine lB ?_ fun _ => ?_) | exact lN _ | apply lI | refine lB ?_ fun _ => ?_
def table_Unpack.T4 : Bool × List (List Nat × List Nat) := (true, [([], []), ([0], [0]), ([1], [1]), ([], []), ([3], [3]), ([4, 2], [4]), ([2, 5], [2, 5]), ([], []), ([7, 6, 5, 0, 1, 2, 3, 4, 5, 6, 7], [6, 7])])
def table_Unpack.B4 : List Nat := [0, 1, 3, 0, 8, 31, 63, 0, 255]
theorem table_Unpack.tab4 : rtab .any (opsOf Try.f27 4) = table_Unpack.T4 := by kernel_rfl
theorem table_Unpack.bits4 : waitsOk table_Unpack.T4.2 table_Unpack.B4 = true := by kernel_rfl
def table_Unpack.T8 : Bool × List (List Nat × List Nat) := (true, [([], []), ([], []), ([0, 1], [0, 1]), ([], []), ([3], [3]), ([4], [4]), ([2, 5, 2], [2, 5]), ([6], [6]), ([7], [7]), ([7], [7]), ([8, 6, 0, 1, 2, 3, 4, 5, 6, 7, 8], [8]), ([9, 10, 0, 1, 2, 3, 4, 5, 6, 7, 8, 9, 10], [9])])
def table_Unpack.B8 : List Nat := [0, 0, 3, 0, 8, 24, 63, 127, 255, 255, 511, 2047]
theorem table_Unpack.tab8 : rtab .any (opsOf Try.f27 8) = table_Unpack.T8 := by kernel_rfl
theorem table_Unpack.bits8 : waitsOk table_Unpack.T8.2 table_Unpack.B8 = true := by kernel_rfl
theorem table_Unpack.calls (k : Nat) (ai : Option Addr) (aj : Nat) (Q : List ByteArray) (af : Option Addr) (ag : Nat) (O : List Bool) (ao : Option Addr) (ap : Nat) (Z : List Int) (aq : Option Addr) (ar : Nat) (aa : List (S58)) (r1 : List ByteArray) (r2 : List Bool) (r3 : List (List Int)) (r4 : Int) (w : World) (bj : Kd.C Kd.string w ai Q.length Q) (bk : Q.length ≤ aj) (bm : Kd.C Kd.bool w af O.length O) (bo : O.length ≤ ag) (bp : Kd.C (Kd.int .i64) w ao Z.length Z) (br : Z.length ≤ ap) (bs : Kd.C k58 w aq aa.length aa) (bt : aa.length ≤ ar) (h : table_Unpack.f k Q O Z aa = some (r1, r2, r3, r4)) :
  Calls Try.prog 27 #[.agg #[.slice ai Q.length aj, .slice af O.length ag, .slice ao Z.length ap, .slice aq aa.length ar]] w fun e w' => ∃ bR bS bT : Value, e = .returned (.tuple #[.agg #[bR, bS, bT], .int .i64 r4]) ∧ Kd.R Kd.string 9 w' w.heap.size (fun _ => True) bR r1 ∧ Kd.R Kd.bool 4 w' w.heap.size (fun _ => True) bS r2 ∧ Kd.S (Kd.slice 3 (Kd.int .i64)) 29 w' w.heap.size (fun _ => True) bT r3 ∧ Below w.heap.size w w' := by
 have hu32 := Try.underlying32; have hu26 := Try.underlying26; have aQ := aM bj; have aR := aM bk; clear bj bk; have aD := aM bm; have aE := aM bo; clear bm bo; have aW := aM bp; have aX := aM br; clear bp br; have aY := aM bs; have aZ := aM bt; clear bs bt; have HB := aM (Below.refl w.heap.size w); rw [table_Unpack.f] at h; have H := h; clear h; apply bSx H; clear H; intro bd A2 H
 apply iB H <;> clear H <;> intro c3 H
 ·obtain ⟨b0, b1⟩ := bq c3; clear c3; apply bSx H; clear H; intro al A4 H; apply bSx H; clear H; intro ak A5 H; have H' := aM H; clear H
  go_enter Try.func27, Try.ntmps27
  try go_wp2_with (first | ((with_reducible refine gate_dst (N := 1) rfl ?_); refine be_ (cs := #[.slice ai Q.length aj, .slice af O.length ag, .slice ao Z.length ap, .slice aq aa.length ar]) (t := 32) ?_; intro U hg w6 av hb; have z := aM (av); have ba := gE hg (bP0 HB); have F := gE hg (bP0 HB); replace HB := hS0 HB hb; clear hb av hg) | ((with_reducible refine gate_dst (N := 2) rfl ?_); refine be_ (cs := #[.slice none 0 0, .slice none 0 0, .slice none 0 0]) (t := 26) ?_; intro am hg w7 av hb; have A := aM (av); have bb := gE hg (bP1 HB F); have G := gE hg (bP1 HB F); replace HB := hS1 HB F hb; have az := nL hg z; have aA := nG hg z; replace z := kB z hb; clear hb av hg; have dK := az.out; have dL := aA.out; obtain ⟨de, df, dg, dh, di, dj, dk, dl⟩ := bG4 z) | ((with_reducible refine gate_callee (f := 29) rfl ?_); refine gL_ (some 10) Try.func29 #[.agg #[.slice ai Q.length aj, .slice af O.length ag, .slice ao Z.length ap, .slice aq aa.length ar]] ?_; (with_reducible refine (table_Check.calls k _ _ Q _ _ O _ _ Z _ _ aa bd _ ?s1 aR.out ?s3 aE.out ?s5 aX.out ?s7 aZ.out A2.out).mono ?_); (case s1 => exact cB aQ HB); (case s3 => exact cB aD HB); (case s5 => exact cB aW HB); (case s7 => exact cB aY HB); rintro e dm ⟨rfl, hb⟩; refine ⟨_, rfl, ?_⟩; replace z := kB z hb; replace A := kB A hb; replace HB := hS2 HB F G hb; (try clear hb)))
  replace z := kD z; replace A := kD A; replace HB := aM (below_drew1 HB.out); refine start_ (n := 9) (S := fun w' => w'.cell? ⟨U, 0, none⟩ = some (.slice ai Q.length aj) ∧ w'.cell? ⟨U, 1, none⟩ = some (.slice af O.length ag) ∧ w'.cell? ⟨U, 2, none⟩ = some (.slice ao Z.length ap) ∧ w'.cell? ⟨U, 3, none⟩ = some (.slice aq aa.length ar)) (ds := []) (bl 9 0) (by kernel_rfl) rfl rfl (bD4 z) (fun ac => ?_); refine with_tabW table_Unpack.tab4 table_Unpack.bits4 (fun ad aw => ?_); generalize dm.drew = dN at z A HB ac ⊢; refine pu_ 0 15 (bl 9 1) ad ?_; refine pu_ 3 18 (bl 9 9) ad ?_; refine tk4_ 1 16 (bl 9 11) ad aw ac ?_; refine tk4_ 4 19 (bl 9 27) ad aw ac ?_; refine join_ (σ := Value × Value × Nat) 1 (bl 9 255) (fun s_ => [(17, s_.1), (20, s_.2.1), (5, .pointer (some ⟨s_.2.2, 0, none⟩)), (21, .agg #[s_.1, s_.2.1, .slice none 0 0])]) (fun s_ w' => (w'.cell? ⟨U, 0, none⟩ = some (.slice ai Q.length aj) ∧ w'.cell? ⟨U, 1, none⟩ = some (.slice af O.length ag) ∧ w'.cell? ⟨U, 2, none⟩ = some (.slice ao Z.length ap) ∧ w'.cell? ⟨U, 3, none⟩ = some (.slice aq aa.length ar)) ∧ (RA Kd.string 9 w' w s_.1 al) ∧ (RA Kd.bool 4 w' w s_.2.1 ak) ∧ (Aside0 (w'.heap[U]? = some (.cells #[.slice ai Q.length aj, .slice af O.length ag, .slice ao Z.length ap, .slice aq aa.length ar] 32 (0, 0)))) ∧ (Aside0 (w'.heap[am]? = some (.cells #[.slice none 0 0, .slice none 0 0, .slice none 0 0] 26 (0, 0)))) ∧ (Aside0 (w'.heap[s_.2.2]? = some (.cells #[.slice none 0 0, .slice none 0 0, .slice none 0 0] 26 (0, 0)))) ∧ (Aside0 (w.heap.size ≤ s_.2.2)) ∧ (Aside0 (w.heap.size ≤ s_.2.2)) ∧ (Aside0 (U ≠ s_.2.2)) ∧ (Aside0 (s_.2.2 ≠ U)) ∧ (Aside0 (am ≠ s_.2.2)) ∧ (Aside0 (s_.2.2 ≠ am)) ∧ BA w w') ?_ ?_
  ·clear z A HB; rintro ⟨bx, be, M⟩ bz ⟨ac, Y, an, z, A, E, aC, L, D, V, P, W, HB⟩; (try dsimp only at ac Y an z A E aC L D V P W HB); obtain ⟨aG, aH, bA⟩ := sL an
   (first | subst bA | obtain ⟨rfl, rfl⟩ := iS bA)
   obtain ⟨aI, aJ, bB⟩ := sL Y
   (first | subst bB | obtain ⟨rfl, rfl⟩ := iS bB)
   refine norm_ (a' := ?_) ?_ ?_; rotate_left
   ·simp only [putAll, Act.put, sA, sB, sC]
    rfl
   refine one_ (i := 8) (N := none) (bl 9 511) rfl rfl (one_of ad.out (by kernel_rfl)) (by decide) (fun K hK => ?_); have hs20 : bz.cell? ⟨M, 0, none⟩ = some (.slice none 0 0) := (blk_cell E.out 0).trans rfl; have hfs20 := blk_frozen E.out 0; have hns20_0 := D.out; have hns20_1 := P.out; have hms20_0 := V.out; have hms20_1 := W.out; have hs21 : bz.cell? ⟨M, 1, none⟩ = some (.slice none 0 0) := (blk_cell E.out 1).trans rfl; have hfs21 := blk_frozen E.out 1; have hns21_0 := D.out; have hns21_1 := P.out; have hms21_0 := V.out; have hms21_1 := W.out; have hs22 : bz.cell? ⟨M, 2, none⟩ = some (.slice none 0 0) := (blk_cell E.out 2).trans rfl; have hfs22 := blk_frozen E.out 2; have hns22_0 := D.out; have hns22_1 := P.out; have hms22_0 := V.out; have hms22_1 := W.out; refine skip_ (w1 := ?_) (by rfl) rfl ?_ ?_; rotate_left
   ·go_simp
    rfl
   refine hK.out _ _ ⟨((cell_far (p := ⟨M, _, none⟩) D.out _).trans (((cell_far (p := ⟨M, _, none⟩) D.out _).trans (((cell_far (p := ⟨M, _, none⟩) D.out _).trans (ac.1)))))), ((cell_far (p := ⟨M, _, none⟩) D.out _).trans (((cell_far (p := ⟨M, _, none⟩) D.out _).trans (((cell_far (p := ⟨M, _, none⟩) D.out _).trans (ac.2.1)))))), ((cell_far (p := ⟨M, _, none⟩) D.out _).trans (((cell_far (p := ⟨M, _, none⟩) D.out _).trans (((cell_far (p := ⟨M, _, none⟩) D.out _).trans (ac.2.2.1)))))), ((cell_far (p := ⟨M, _, none⟩) D.out _).trans (((cell_far (p := ⟨M, _, none⟩) D.out _).trans (((cell_far (p := ⟨M, _, none⟩) D.out _).trans (ac.2.2.2))))))⟩ (fun ac => ?_); clear hK K; refine done_ (done_of ad.out (by kernel_rfl)) ?_; have dr := D.out; have dt := V.out; obtain ⟨ci, cj, ck, cl, cm, cn, co, cp⟩ := bG4 z
   try go_wp2
   go_loopg [25] k (fun kq dn w' => ∃ (ay : Int) (ae : List (List Int)) (ah : Value), dn = .int .i64 ay ∧ Aside0 (table_Unpack.l0 kq (O.length : Int) ay Q O Z aa al ak ae = some (r1, r2, r3, r4)) ∧ Aside0 (kq ≤ k) ∧ RA Kd.string 9 w' w (.slice aI al.length aJ) al ∧ RA Kd.bool 4 w' w (.slice aG ak.length aH) ak ∧ Aside0 (Kd.S (Kd.slice 3 (Kd.int .i64)) 29 w' w.heap.size (fun _ => True) ah ae) ∧ Aside0 (w'.heap[U]? = some (.cells #[(.slice ai Q.length aj), (.slice af O.length ag), (.slice ao Z.length ap), (.slice aq aa.length ar)] 32 (0, 0))) ∧ Aside0 (w'.heap[am]? = some (.cells #[(.slice none 0 0), (.slice none 0 0), (.slice none 0 0)] 26 (0, 0))) ∧ Aside0 (w'.heap[M]? = some (.cells #[(.slice aI al.length aJ), (.slice aG ak.length aH), ah] 26 (0, 0))) ∧ BA w w')
   case atStart => exact ⟨(0), (([] : List (List Int))), (.slice none 0 0), sI, H', ⟨Nat.le_refl _⟩, ⟨rZ Y E⟩, ⟨rZ an E⟩, ⟨by first | exact Kd.S_nil _ _ _ _ _ | exact Kd.N_nil _ _ _ _ _ | exact Kd.V_nil _ _ _ _ _ | exact Kd.Q_nil _ _ _ _ _ | exact Kd.R_nil _ _ _ _ _⟩, ⟨kN z D⟩, ⟨kN A P⟩, ⟨by (with_reducible repeat (first | refine blk_drewN ?_ _ | refine blk_drew ?_ | refine blk_alloc ?_ _)); exact blk_put (blk_put (blk_put E.out 0 _ rfl) 1 _ rfl) 2 _ rfl⟩, bT3 HB F G L⟩
   case round =>
    clear H'
    obtain ⟨ay, ae, ah, rfl, HA, bI, I, J, B, z, A, E, HB⟩ := hrel; cases gk with
    | zero => exact absurd HA.out (by simp [table_Unpack.l0])
    | succ k1 =>
     have H := HA.out; clear HA; simp only [table_Unpack.l0] at H
     apply iB H <;> clear H <;> intro a9 H
     ·have bM := dT a9; clear a9; apply bSx H; clear H; intro aU bX H; replace H := Option.bind_eq_some_iff.mp H; obtain ⟨⟨aK, a5⟩, bD, H⟩ := H; replace H : (if a5 = 0 then (if ae.length < 5864062014805 then (table_Unpack.l0 k1 (O.length : Int) (wrap64 (ay + 1)) Q O Z aa al ak (ae ++ [aK])) else (none)) else (some (([] : List ByteArray), ([] : List Bool), ([] : List (List Int)), a5))) = some (r1, r2, r3, r4) := H; have bY := aM bD; clear bD
      apply iB H <;> clear H <;> intro bc H
      ·obtain ⟨bN, bO⟩ := bq bc; clear bc
       apply iN H; clear H; intro bu H; have bP := aM bu; clear bu; obtain ⟨bE, a4⟩ : ∃ y_ : List (List Int), y_ = (ae ++ [aK]) := ⟨_, rfl⟩
       first | replace H := rI a4 H | rw [← a4] at H
       have bQ := aM a4; clear a4; have H' := aM H; clear H
       try go_wp2
       replace I := aM (Kd.R_drew I.out); replace J := aM (Kd.R_drew J.out); replace B := aM (Kd.S_drew B.out); replace z := kD z; replace A := kD A; replace E := kD E; replace HB := aM (below_drew1 HB.out); refine start_ (n := 12) (S := fun w' => w'.cell? ⟨U, 0, none⟩ = some (.slice ai Q.length aj) ∧ w'.cell? ⟨U, 1, none⟩ = some (.slice af O.length ag) ∧ w'.cell? ⟨U, 2, none⟩ = some (.slice ao Z.length ap) ∧ w'.cell? ⟨U, 3, none⟩ = some (.slice aq aa.length ar)) (ds := []) (bl 12 0) (by kernel_rfl) rfl rfl (bD4 z) (fun ac => ?_); refine with_tabW table_Unpack.tab8 table_Unpack.bits8 (fun ad aw => ?_); generalize wr.drew = dO at I J B z A E HB ac ⊢; refine pu_ 1 30 (bl 12 2) ad ?_; refine pu_ 3 32 (bl 12 10) ad ?_; refine tk4_ 0 29 (bl 12 11) ad aw ac ?_; refine tk4_ 4 33 (bl 12 27) ad aw ac ?_; refine pu_ 5 34 (bl 12 59) ad ?_; refine one_ (i := 2) (N := some 31) (bl 12 63) rfl rfl (one_of ad.out (by kernel_rfl)) (by decide) (fun K hK => ?_); refine gS_ Try.func48 #[.agg #[.slice ai Q.length aj, .slice af O.length ag, .slice ao Z.length ap, .slice aq aa.length ar], .int .i64 ay] ?_
       with_reducible refine (table_rowOf.calls _ _ Q _ _ O _ _ Z (fun k_ => k_ < w.heap.size) _ _ aa ay aU _ ?s1 ?s2 ?s3 ?s4 ?s5 ?s6 ?s7 bX.out).mono ?_
       (case s1 => exact cB aQ HB)
       (case s2 => exact aR.out)
       (case s3 => exact cB aD HB)
       (case s4 => exact aE.out)
       (case s5 => exact cB aW HB)
       (case s6 => exact aX.out)
       (case s7 => exact Kd.V_mk aZ.out (Kd.F_below (Kd.C_F k58_heap aY.out) (bP3 HB F G L)))
       rintro e dP ⟨b3, rfl, ab, hb⟩; refine ⟨_, rfl, ?_⟩; have au := aM (Kd.V_lower (Kd.V_mono (ok' := fun k_ => some k_ ≠ (.slice aI al.length aJ : Value).ownBlock ∧ some k_ ≠ (.slice aG ak.length aH : Value).ownBlock ∧ some k_ ≠ (ah : Value).ownBlock ∧ k_ ≠ U ∧ k_ ≠ am ∧ k_ ≠ M) ab (fun k_ hk_ => ⟨Or.elim hk_ (fun hs_ => fun e_ => Nat.not_le.2 hs_ (Kd.R_base I.out k_ e_.symm)) (fun hn_ => (Kd.fresh' (Kd.R_lt (rP I)) k_ hn_)), Or.elim hk_ (fun hs_ => fun e_ => Nat.not_le.2 hs_ (Kd.R_base J.out k_ e_.symm)) (fun hn_ => (Kd.fresh' (Kd.R_lt (rP J)) k_ hn_)), Or.elim hk_ (fun hs_ => fun e_ => Nat.not_le.2 hs_ (Kd.S_base B.out k_ e_.symm)) (fun hn_ => (Kd.fresh' (Kd.S_lt (by (with_reducible repeat (first | apply Kd.S_alloc | apply Kd.S_drewN | apply Kd.S_drew)); exact B.out)) k_ hn_)), Or.elim hk_ (fun hs_ => fun e_ => Nat.not_le.2 hs_ (by rw [e_]; exact ba.out)) (fun hn_ => (Kd.freshB (g := U) (o := .cells #[.slice ai Q.length aj, .slice af O.length ag, .slice ao Z.length ap, .slice aq aa.length ar] 32 (0, 0)) (kO z.out) k_ hn_)), Or.elim hk_ (fun hs_ => fun e_ => Nat.not_le.2 hs_ (by rw [e_]; exact bb.out)) (fun hn_ => (Kd.freshB (g := am) (o := .cells #[.slice none 0 0, .slice none 0 0, .slice none 0 0] 26 (0, 0)) (kO A.out) k_ hn_)), Or.elim hk_ (fun hs_ => fun e_ => Nat.not_le.2 hs_ (by rw [e_]; exact aC.out)) (fun hn_ => (Kd.freshB (g := M) (o := .cells #[.slice aI al.length aJ, .slice aG ak.length aH, ah] 26 (0, 0)) (kO E.out) k_ hn_))⟩)) (below_size (bP3 HB F G L))); replace I := rB I hb; replace J := rB J hb; replace B := aM (Kd.S_below (by (with_reducible repeat (first | apply Kd.S_alloc | apply Kd.S_drewN | apply Kd.S_drew)); exact B.out) hb); replace z := kB z hb; replace A := kB A hb; replace E := kB E hb; replace HB := hS3 HB F G L hb
       (try clear hb)
       (try clear aV)
       (try clear hk)
       (try clear hi)
       (try clear ab)
       obtain ⟨b4, b5, bF⟩ := Kd.V_slice au.out
       (first | subst bF | obtain ⟨rfl, rfl⟩ := iS bF)
       refine hK.out _ _ (bD4 z) (fun ac => ?_); clear hK K; refine nm_ 31 ?_; refine one_ (i := 6) (N := some 35) (bl 12 127) rfl rfl (one_of ad.out (by kernel_rfl)) (by decide) (fun K hK => ?_); refine gS_ Try.func53 #[.slice b4 aU.length b5, .int .i64 (Q.length : Int)] ?_
       with_reducible refine (row_Unpack.calls k1 _ _ aU (Q.length : Int) aK a5 _ ?s1 ?s2 bY.out).mono ?_
       (case s1 => exact cO (Kd.V_reads' au.out).2.2)
       (case s2 => exact (Kd.V_reads' au.out).2.1)
       rintro e dQ ⟨b6, rfl, ab, hb⟩; refine ⟨_, rfl, ?_⟩; replace I := rB I hb; replace J := rB J hb; replace B := aM (Kd.S_elder' (by (with_reducible repeat (first | apply Kd.S_alloc | apply Kd.S_drewN | apply Kd.S_drew)); exact B.out) (Kd.R_base ab) hb); replace au := aM (Kd.V_elder' (vO au.out) (Kd.R_base ab) hb); have aT := rW ab (bP3 HB F G L); replace z := kB z hb; replace A := kB A hb; replace E := kB E hb; replace HB := hS3 HB F G L hb
       (try clear hb)
       (try clear aV)
       (try clear hk)
       (try clear hi)
       (try clear ab)
       refine hK.out _ _ (bD4 z) (fun ac => ?_); clear hK K; refine nm_ 35 ?_; refine pu_ 7 28 (bl 12 255) ad ?_; refine pu_ 8 36 (bl 12 511) ad ?_; refine pu_ 9 37 (bl 12 1023) ad ?_; refine pu_ 10 7 (bl 12 2047) ad ?_; refine pu_ 11 8 (bl 12 4095) ad ?_; refine done_ (done_of ad.out (by kernel_rfl)) ?_; have du := V.out; have dv := D.out; have dw := W.out; have dx := P.out; obtain ⟨cq, cr, ct, cu, cv, cw⟩ := bG3 E; obtain ⟨bf, bg, rfl⟩ := sL aT
       try go_wp2_with (first | ((with_reducible refine gate_builtin (b := .append) (xs := #[.tmp 43, .tmp 45]) rfl ?_); at_builtin; refine Kd.S_append (Kd.slice 3 (Kd.int .i64)) (w0 := w) w.heap.size rfl (.tmp 43) (.tmp 45) 24 29 (.slice none 0 0) 24 rfl Try.underlying24 info29 rfl (by decide) (by omega) ah ae aK [.slice bf aK.length bg] (fun _ => True) (fun k_ => some k_ = (.slice bf aK.length bg : Value).ownBlock) rfl rfl ?aP (fun k_ hk_ => ((Kd.R_mono (ok' := fun k_ => ((fun _ => True)) k_ ∧ some k_ ≠ (ah : Value).ownBlock) (Kd.R_apart' (aT.out) (Kd.S_typed B.out) (by decide)) (fun k_ hk => ⟨trivial, hk.2⟩))).1 k_ hk_.symm) ?aF ?aO ?aB ?aS ?aL ?_; (case aP => exact Kd.M_row (Kd.R_mono (Kd.R_tight rfl (Kd.R_mono (ok' := fun k_ => ((fun _ => True)) k_ ∧ some k_ ≠ (ah : Value).ownBlock) (Kd.R_apart' (aT.out) (Kd.S_typed B.out) (by decide)) (fun k_ hk => ⟨trivial, hk.2⟩))) (fun _ h_ => h_))); (case aB => exact (bP3 HB F G L)); (case aF => exact (fun _ _ => trivial)); (case aO => exact (by (with_reducible repeat (first | apply Kd.S_alloc | apply Kd.S_drewN | apply Kd.S_drew)); exact Kd.S_mono B.out (fun k_ hk => ⟨trivial, fun e_ => hk.2 e_⟩))); (case aS => exact (below_size (bP3 HB F G L))); (case aL => have := bP.out; omega); intro dM dR ho hb hg hat; rw [← bQ.out] at ho; replace I := aM (Kd.R_over' (rP I) (Kd.S_typed (by (with_reducible repeat (first | apply Kd.S_alloc | apply Kd.S_drewN | apply Kd.S_drew)); exact B.out)) (by decide) hg); replace J := aM (Kd.R_over' (rP J) (Kd.S_typed (by (with_reducible repeat (first | apply Kd.S_alloc | apply Kd.S_drewN | apply Kd.S_drew)); exact B.out)) (by decide) hg); replace z := aM (blk_grown (g := U) (o := .cells #[.slice ai Q.length aj, .slice af O.length ag, .slice ao Z.length ap, .slice aq aa.length ar] 32 (0, 0)) (kO z.out) hg (Kd.S_ne B.out z.out (by decide))); replace A := aM (blk_grown (g := am) (o := .cells #[.slice none 0 0, .slice none 0 0, .slice none 0 0] 26 (0, 0)) (kO A.out) hg (Kd.S_ne B.out A.out (by decide))); replace E := aM (blk_grown (g := M) (o := .cells #[.slice aI al.length aJ, .slice aG ak.length aH, ah] 26 (0, 0)) (kO E.out) hg (Kd.S_ne B.out E.out (by decide))); replace au := aM (Kd.V_afterv (ok := (fun k_ => some k_ ≠ (.slice aI al.length aJ : Value).ownBlock ∧ some k_ ≠ (.slice aG ak.length aH : Value).ownBlock ∧ some k_ ≠ (.slice bf aK.length bg : Value).ownBlock ∧ k_ ≠ U ∧ k_ ≠ am ∧ k_ ≠ M)) (by (with_reducible repeat (first | apply Kd.V_alloc | apply Kd.V_drewN | apply Kd.V_drew)); exact Kd.V_mono au.out (fun _ hk => ⟨⟨hk.1.1, ⟨hk.1.2.1, ⟨hk.2, ⟨hk.1.2.2.2.1, ⟨hk.1.2.2.2.2.1, hk.1.2.2.2.2.2⟩⟩⟩⟩⟩, hk.1.2.2.1⟩)) hg hat); replace HB := aM (hb); have bv := aM (ho); clear B; clear aT; clear ho hb hg hat; obtain ⟨b8, b9, ca⟩ := Kd.S_slice bv.out; subst ca; obtain ⟨cx, cy, cz, cA, cC, cD⟩ := bG3 E))
       go_roundg k1
       case measure => have := bI.out; omega
       case rel => exact ⟨(wrap64 (ay + 1)), (bE), (.slice b8 bE.length b9), sI, H', ⟨by have := bI.out; omega⟩, ⟨rZ I E⟩, ⟨rZ J E⟩, ⟨sZ bv E⟩, ⟨kN z D⟩, ⟨kN A P⟩, ⟨by (with_reducible repeat (first | refine blk_drewN ?_ _ | refine blk_drew ?_ | refine blk_alloc ?_ _)); exact blk_put E.out 2 _ rfl⟩, bT3 HB F G L⟩
      ·obtain ⟨bN, bO⟩ := bn bc; obtain ⟨rfl, rfl, rfl, rfl⟩ := pE4 H
       try go_wp2
       replace I := aM (Kd.R_drew I.out); replace J := aM (Kd.R_drew J.out); replace B := aM (Kd.S_drew B.out); replace z := kD z; replace A := kD A; replace E := kD E; replace HB := aM (below_drew1 HB.out); refine start_ (n := 12) (S := fun w' => w'.cell? ⟨U, 0, none⟩ = some (.slice ai Q.length aj) ∧ w'.cell? ⟨U, 1, none⟩ = some (.slice af O.length ag) ∧ w'.cell? ⟨U, 2, none⟩ = some (.slice ao Z.length ap) ∧ w'.cell? ⟨U, 3, none⟩ = some (.slice aq aa.length ar)) (ds := []) (bl 12 0) (by kernel_rfl) rfl rfl (bD4 z) (fun ac => ?_); refine with_tabW table_Unpack.tab8 table_Unpack.bits8 (fun ad aw => ?_); generalize wr.drew = dS at I J B z A E HB ac ⊢; refine pu_ 1 30 (bl 12 2) ad ?_; refine pu_ 3 32 (bl 12 10) ad ?_; refine tk4_ 0 29 (bl 12 11) ad aw ac ?_; refine tk4_ 4 33 (bl 12 27) ad aw ac ?_; refine pu_ 5 34 (bl 12 59) ad ?_; refine one_ (i := 2) (N := some 31) (bl 12 63) rfl rfl (one_of ad.out (by kernel_rfl)) (by decide) (fun K hK => ?_); refine gS_ Try.func48 #[.agg #[.slice ai Q.length aj, .slice af O.length ag, .slice ao Z.length ap, .slice aq aa.length ar], .int .i64 ay] ?_
       with_reducible refine (table_rowOf.calls _ _ Q _ _ O _ _ Z (fun k_ => k_ < w.heap.size) _ _ aa ay aU _ ?s1 ?s2 ?s3 ?s4 ?s5 ?s6 ?s7 bX.out).mono ?_
       (case s1 => exact cB aQ HB)
       (case s2 => exact aR.out)
       (case s3 => exact cB aD HB)
       (case s4 => exact aE.out)
       (case s5 => exact cB aW HB)
       (case s6 => exact aX.out)
       (case s7 => exact Kd.V_mk aZ.out (Kd.F_below (Kd.C_F k58_heap aY.out) (bP3 HB F G L)))
       rintro e dU ⟨b3, rfl, ab, hb⟩; refine ⟨_, rfl, ?_⟩; have au := aM (Kd.V_lower (Kd.V_mono (ok' := fun k_ => some k_ ≠ (.slice aI al.length aJ : Value).ownBlock ∧ some k_ ≠ (.slice aG ak.length aH : Value).ownBlock ∧ some k_ ≠ (ah : Value).ownBlock ∧ k_ ≠ U ∧ k_ ≠ am ∧ k_ ≠ M) ab (fun k_ hk_ => ⟨Or.elim hk_ (fun hs_ => fun e_ => Nat.not_le.2 hs_ (Kd.R_base I.out k_ e_.symm)) (fun hn_ => (Kd.fresh' (Kd.R_lt (rP I)) k_ hn_)), Or.elim hk_ (fun hs_ => fun e_ => Nat.not_le.2 hs_ (Kd.R_base J.out k_ e_.symm)) (fun hn_ => (Kd.fresh' (Kd.R_lt (rP J)) k_ hn_)), Or.elim hk_ (fun hs_ => fun e_ => Nat.not_le.2 hs_ (Kd.S_base B.out k_ e_.symm)) (fun hn_ => (Kd.fresh' (Kd.S_lt (by (with_reducible repeat (first | apply Kd.S_alloc | apply Kd.S_drewN | apply Kd.S_drew)); exact B.out)) k_ hn_)), Or.elim hk_ (fun hs_ => fun e_ => Nat.not_le.2 hs_ (by rw [e_]; exact ba.out)) (fun hn_ => (Kd.freshB (g := U) (o := .cells #[.slice ai Q.length aj, .slice af O.length ag, .slice ao Z.length ap, .slice aq aa.length ar] 32 (0, 0)) (kO z.out) k_ hn_)), Or.elim hk_ (fun hs_ => fun e_ => Nat.not_le.2 hs_ (by rw [e_]; exact bb.out)) (fun hn_ => (Kd.freshB (g := am) (o := .cells #[.slice none 0 0, .slice none 0 0, .slice none 0 0] 26 (0, 0)) (kO A.out) k_ hn_)), Or.elim hk_ (fun hs_ => fun e_ => Nat.not_le.2 hs_ (by rw [e_]; exact aC.out)) (fun hn_ => (Kd.freshB (g := M) (o := .cells #[.slice aI al.length aJ, .slice aG ak.length aH, ah] 26 (0, 0)) (kO E.out) k_ hn_))⟩)) (below_size (bP3 HB F G L))); replace I := rB I hb; replace J := rB J hb; replace B := aM (Kd.S_below (by (with_reducible repeat (first | apply Kd.S_alloc | apply Kd.S_drewN | apply Kd.S_drew)); exact B.out) hb); replace z := kB z hb; replace A := kB A hb; replace E := kB E hb; replace HB := hS3 HB F G L hb
       (try clear hb)
       (try clear aV)
       (try clear hk)
       (try clear hi)
       (try clear ab)
       obtain ⟨cb, cc, bG⟩ := Kd.V_slice au.out
       (first | subst bG | obtain ⟨rfl, rfl⟩ := iS bG)
       refine hK.out _ _ (bD4 z) (fun ac => ?_); clear hK K; refine nm_ 31 ?_; refine one_ (i := 6) (N := some 35) (bl 12 127) rfl rfl (one_of ad.out (by kernel_rfl)) (by decide) (fun K hK => ?_); refine gS_ Try.func53 #[.slice cb aU.length cc, .int .i64 (Q.length : Int)] ?_
       with_reducible refine (row_Unpack.calls k1 _ _ aU (Q.length : Int) aK a5 _ ?s1 ?s2 bY.out).mono ?_
       (case s1 => exact cO (Kd.V_reads' au.out).2.2)
       (case s2 => exact (Kd.V_reads' au.out).2.1)
       rintro e dV ⟨b6, rfl, ab, hb⟩; refine ⟨_, rfl, ?_⟩; replace I := rB I hb; replace J := rB J hb; replace B := aM (Kd.S_elder' (by (with_reducible repeat (first | apply Kd.S_alloc | apply Kd.S_drewN | apply Kd.S_drew)); exact B.out) (Kd.R_base ab) hb); replace au := aM (Kd.V_elder' (vO au.out) (Kd.R_base ab) hb); have aT := rW ab (bP3 HB F G L); replace z := kB z hb; replace A := kB A hb; replace E := kB E hb; replace HB := hS3 HB F G L hb
       (try clear hb)
       (try clear aV)
       (try clear hk)
       (try clear hi)
       (try clear ab)
       refine hK.out _ _ (bD4 z) (fun ac => ?_); clear hK K; refine nm_ 35 ?_; refine pu_ 7 28 (bl 12 255) ad ?_; refine pu_ 8 36 (bl 12 511) ad ?_; refine pu_ 9 37 (bl 12 1023) ad ?_; refine pu_ 10 7 (bl 12 2047) ad ?_; refine pu_ 11 8 (bl 12 4095) ad ?_; refine done_ (done_of ad.out (by kernel_rfl)) ?_; have dy := aA.out; have dz := az.out; have dA := P.out; have dB := W.out; obtain ⟨cE, cF, cG, cH, cI, cJ⟩ := bG3 A
       try go_wp2
       refine bodyPost_ret (results_ct rfl _ _ am 26 #[.slice none 0 0, .slice none 0 0, .slice none 0 0] (0, 0) _ rfl (by (with_reducible repeat (first | refine blk_drewN ?_ _ | refine blk_drew ?_ | refine blk_alloc ?_ _)); exact blk_put (blk_put (blk_put A.out 0 _ rfl) 1 _ rfl) 2 _ rfl) Try.underlying26 rfl (by kernel_rfl)) rfl ?_; exact ⟨_, _, _, eW, by first | exact Kd.R_nil _ _ _ _ _ | exact Kd.N_nil _ _ _ _ _ | exact Kd.V_nil _ _ _ _ _ | exact Kd.Q_nil _ _ _ _ _ | exact Kd.S_nil _ _ _ _ _, by first | exact Kd.R_nil _ _ _ _ _ | exact Kd.N_nil _ _ _ _ _ | exact Kd.V_nil _ _ _ _ _ | exact Kd.Q_nil _ _ _ _ _ | exact Kd.S_nil _ _ _ _ _, by first | exact Kd.S_nil _ _ _ _ _ | exact Kd.N_nil _ _ _ _ _ | exact Kd.V_nil _ _ _ _ _ | exact Kd.Q_nil _ _ _ _ _ | exact Kd.R_nil _ _ _ _ _, bS3 HB.out F.out G.out L.out⟩
     ·have bM := decide_eq_false a9; clear a9; obtain ⟨rfl, rfl, rfl, rfl⟩ := pE4 H; have dC := V.out; have dD := D.out; have dE := W.out; have dF := P.out; obtain ⟨cK, cL, cM, cN, cP, cQ⟩ := bG3 E; have dG := aA.out; have dH := az.out; obtain ⟨cR, cS, cT, cU, cV, cW⟩ := bG3 A; obtain ⟨cd, ce, cf⟩ := Kd.S_slice B.out; subst cf
      go_wp2
      refine bodyPost_ret (results_ct rfl _ _ am 26 #[.slice aI al.length aJ, .slice aG ak.length aH, .slice cd ae.length ce] (0, 0) _ rfl (by (with_reducible repeat (first | refine blk_drewN ?_ _ | refine blk_drew ?_ | refine blk_alloc ?_ _)); exact blk_put (blk_put (blk_put A.out 0 _ rfl) 1 _ rfl) 2 _ rfl) Try.underlying26 rfl (by kernel_rfl)) rfl ?_; exact ⟨_, _, _, eW, rZ I A, rZ J A, sZ B A, bS3 HB.out F.out G.out L.out⟩
  intro ax; refine two_ (i := 2) (j := 7) (Ni := some 17) (Nj := some 5) (bl 9 31) (bl 9 155) rfl rfl rfl rfl (two_of ad.out (by kernel_rfl)) (by decide) (by decide) (fun K hK => ?_) (fun K hK => ?_)
  ·refine gS_ Try.func34 #[.slice ai Q.length aj] ?_
   with_reducible refine (slices_Clone_string_string.calls _ _ Q al _ ?s1 ?s2 A4.out).mono ?_
   (case s1 => exact cB aQ HB)
   (case s2 => exact aR.out)
   rintro e dp ⟨bx, rfl, ab, hb⟩; refine ⟨_, rfl, ?_⟩; have Y := rW ab (bP2 HB F G); replace z := kB z hb; replace A := kB A hb; replace HB := hS2 HB F G hb
   (try clear hb)
   (try clear aV)
   (try clear hk)
   (try clear hi)
   (try clear ab)
   refine hK.out _ _ (bD4 z) (fun ac => ?_); clear hK K; refine nm_ 17 ?_; refine two_ (i := 5) (j := 7) (Ni := some 20) (Nj := some 5) (bl 9 63) (bl 9 159) rfl rfl rfl rfl (two_of ad.out (by kernel_rfl)) (by decide) (by decide) (fun K hK => ?_) (fun K hK => ?_)
   ·refine gS_ Try.func35 #[.slice af O.length ag] ?_
    with_reducible refine (slices_Clone_bool_bool.calls _ _ O ak _ ?s1 ?s2 A5.out).mono ?_
    (case s1 => exact cB aD HB)
    (case s2 => exact aE.out)
    rintro e bZ ⟨be, rfl, ab, hb⟩; refine ⟨_, rfl, ?_⟩; replace Y := rB Y hb; have an := rW ab (bP2 HB F G); replace z := kB z hb; replace A := kB A hb; replace HB := hS2 HB F G hb
    (try clear hb)
    (try clear aV)
    (try clear hk)
    (try clear hi)
    (try clear ab)
    obtain ⟨cg, ch, bH⟩ := sL an
    (first | subst bH | obtain ⟨rfl, rfl⟩ := iS bH)
    obtain ⟨a6, a7, aN⟩ := sL Y
    (first | subst aN | obtain ⟨rfl, rfl⟩ := iS aN)
    refine hK.out _ _ (bD4 z) (fun ac => ?_); clear hK K; refine nm_ 20 ?_; refine pu_ 6 21 (bl 9 127) ad ?_; refine one_ (i := 7) (N := some 5) (bl 9 255) rfl rfl (one_of ad.out (by kernel_rfl)) (by decide) (fun K hK => ?_); refine bs_ (cs := #[.slice none 0 0, .slice none 0 0, .slice none 0 0]) (t := 26) ?_; intro M hg dW av hb; replace Y := rB Y hb; replace an := rB an hb; have E := aM (av); have aC := gE hg (bP2 HB F G); have L := gE hg (bP2 HB F G); replace HB := hS2 HB F G hb; have D := nL hg z; have V := nG hg z; replace z := kB z hb; have P := nL hg A; have W := nG hg A; replace A := kB A hb; clear hb av hg; refine hK.out _ _ (bD4 z) (fun ac => ?_); clear hK K; refine nm_ 5 ?_; exact norm_ (by simp only [putAll, Act.put, sA, sB, sC]) (ax (.slice a6 al.length a7, .slice cg ak.length ch, M) _ ⟨ac, rQ Y, rQ an, kQ z, kQ A, kQ E, aC, L, D, V, P, W, bT3 HB F G L⟩)
   ·refine bs_ (cs := #[.slice none 0 0, .slice none 0 0, .slice none 0 0]) (t := 26) ?_; intro M hg bZ av hb; replace Y := rB Y hb; have E := aM (av); have aC := gE hg (bP2 HB F G); have L := gE hg (bP2 HB F G); replace HB := hS2 HB F G hb; have D := nL hg z; have V := nG hg z; replace z := kB z hb; have P := nL hg A; have W := nG hg A; replace A := kB A hb; clear hb av hg; refine hK.out _ _ (bD4 z) (fun ac => ?_); clear hK K; refine nm_ 5 ?_; refine one_ (i := 5) (N := some 20) (bl 9 191) rfl rfl (one_of ad.out (by kernel_rfl)) (by decide) (fun K hK => ?_); refine gS_ Try.func35 #[.slice af O.length ag] ?_
    with_reducible refine (slices_Clone_bool_bool.calls _ _ O ak _ ?s1 ?s2 A5.out).mono ?_
    (case s1 => exact cB aD HB)
    (case s2 => exact aE.out)
    rintro e dq ⟨be, rfl, ab, hb⟩; refine ⟨_, rfl, ?_⟩; replace Y := rB Y hb; have an := rW ab (bP3 HB F G L); replace z := kB z hb; replace A := kB A hb; replace E := kB E hb; replace HB := hS3 HB F G L hb
    (try clear hb)
    (try clear aV)
    (try clear hk)
    (try clear hi)
    (try clear ab)
    obtain ⟨a6, a7, aN⟩ := sL an
    (first | subst aN | obtain ⟨rfl, rfl⟩ := iS aN)
    obtain ⟨bh, bi, a8⟩ := sL Y
    (first | subst a8 | obtain ⟨rfl, rfl⟩ := iS a8)
    refine hK.out _ _ (bD4 z) (fun ac => ?_); clear hK K; refine nm_ 20 ?_; refine pu_ 6 21 (bl 9 255) ad ?_; exact norm_ (by simp only [putAll, Act.put, sA, sB, sC]) (ax (.slice bh al.length bi, .slice a6 ak.length a7, M) _ ⟨ac, rQ Y, rQ an, kQ z, kQ A, kQ E, aC, L, D, V, P, W, bT3 HB F G L⟩)
  ·refine bs_ (cs := #[.slice none 0 0, .slice none 0 0, .slice none 0 0]) (t := 26) ?_; intro M hg dp av hb; have E := aM (av); have aC := gE hg (bP2 HB F G); have L := gE hg (bP2 HB F G); replace HB := hS2 HB F G hb; have D := nL hg z; have V := nG hg z; replace z := kB z hb; have P := nL hg A; have W := nG hg A; replace A := kB A hb; clear hb av hg; refine hK.out _ _ (bD4 z) (fun ac => ?_); clear hK K; refine nm_ 5 ?_; refine one_ (i := 2) (N := some 17) (bl 9 159) rfl rfl (one_of ad.out (by kernel_rfl)) (by decide) (fun K hK => ?_); refine gS_ Try.func34 #[.slice ai Q.length aj] ?_
   with_reducible refine (slices_Clone_string_string.calls _ _ Q al _ ?s1 ?s2 A4.out).mono ?_
   (case s1 => exact cB aQ HB)
   (case s2 => exact aR.out)
   rintro e bZ ⟨bx, rfl, ab, hb⟩; refine ⟨_, rfl, ?_⟩; have Y := rW ab (bP3 HB F G L); replace z := kB z hb; replace A := kB A hb; replace E := kB E hb; replace HB := hS3 HB F G L hb
   (try clear hb)
   (try clear aV)
   (try clear hk)
   (try clear hi)
   (try clear ab)
   refine hK.out _ _ (bD4 z) (fun ac => ?_); clear hK K; refine nm_ 17 ?_; refine one_ (i := 5) (N := some 20) (bl 9 191) rfl rfl (one_of ad.out (by kernel_rfl)) (by decide) (fun K hK => ?_); refine gS_ Try.func35 #[.slice af O.length ag] ?_
   with_reducible refine (slices_Clone_bool_bool.calls _ _ O ak _ ?s1 ?s2 A5.out).mono ?_
   (case s1 => exact cB aD HB)
   (case s2 => exact aE.out)
   rintro e dq ⟨be, rfl, ab, hb⟩; refine ⟨_, rfl, ?_⟩; replace Y := rB Y hb; have an := rW ab (bP3 HB F G L); replace z := kB z hb; replace A := kB A hb; replace E := kB E hb; replace HB := hS3 HB F G L hb
   (try clear hb)
   (try clear aV)
   (try clear hk)
   (try clear hi)
   (try clear ab)
   obtain ⟨a6, a7, aN⟩ := sL an
   (first | subst aN | obtain ⟨rfl, rfl⟩ := iS aN)
   obtain ⟨bh, bi, a8⟩ := sL Y
   (first | subst a8 | obtain ⟨rfl, rfl⟩ := iS a8)
   refine hK.out _ _ (bD4 z) (fun ac => ?_); clear hK K; refine nm_ 20 ?_; refine pu_ 6 21 (bl 9 255) ad ?_; exact norm_ (by simp only [putAll, Act.put, sA, sB, sC]) (ax (.slice bh al.length bi, .slice a6 ak.length a7, M) _ ⟨ac, rQ Y, rQ an, kQ z, kQ A, kQ E, aC, L, D, V, P, W, bT3 HB F G L⟩)
 ·obtain ⟨b0, b1⟩ := bn c3; obtain ⟨rfl, rfl, rfl, rfl⟩ := pE4 H
  go_enter Try.func27, Try.ntmps27
  go_wp2_with (first | ((with_reducible refine gate_dst (N := 1) rfl ?_); refine be_ (cs := #[.slice ai Q.length aj, .slice af O.length ag, .slice ao Z.length ap, .slice aq aa.length ar]) (t := 32) ?_; intro U hg dX av hb; have z := aM (av); have ba := gE hg (bP0 HB); have F := gE hg (bP0 HB); replace HB := hS0 HB hb; clear hb av hg) | ((with_reducible refine gate_dst (N := 2) rfl ?_); refine be_ (cs := #[.slice none 0 0, .slice none 0 0, .slice none 0 0]) (t := 26) ?_; intro am hg dY av hb; have A := aM (av); have bb := gE hg (bP1 HB F); have G := gE hg (bP1 HB F); replace HB := hS1 HB F hb; have az := nL hg z; have aA := nG hg z; replace z := kB z hb; clear hb av hg; have dI := az.out; have dJ := aA.out; obtain ⟨cX, cY, cZ, c0, c1, c2, c4, c5⟩ := bG4 z) | ((with_reducible refine gate_callee (f := 29) rfl ?_); refine gL_ (some 10) Try.func29 #[.agg #[.slice ai Q.length aj, .slice af O.length ag, .slice ao Z.length ap, .slice aq aa.length ar]] ?_; (with_reducible refine (table_Check.calls k _ _ Q _ _ O _ _ Z _ _ aa bd _ ?s1 aR.out ?s3 aE.out ?s5 aX.out ?s7 aZ.out A2.out).mono ?_); (case s1 => exact cB aQ HB); (case s3 => exact cB aD HB); (case s5 => exact cB aW HB); (case s7 => exact cB aY HB); rintro e dZ ⟨rfl, hb⟩; refine ⟨_, rfl, ?_⟩; replace z := kB z hb; replace A := kB A hb; replace HB := hS2 HB F G hb; (try clear hb); obtain ⟨c6, c7, c8, c9, da, db⟩ := bG3 A))
  refine bodyPost_ret (results_ct rfl _ _ am 26 #[.slice none 0 0, .slice none 0 0, .slice none 0 0] (0, 0) _ rfl (by (with_reducible repeat (first | refine blk_drewN ?_ _ | refine blk_drew ?_ | refine blk_alloc ?_ _)); exact blk_put (blk_put (blk_put A.out 0 _ rfl) 1 _ rfl) 2 _ rfl) Try.underlying26 rfl (by kernel_rfl)) rfl ?_; exact ⟨_, _, _, eW, by first | exact Kd.R_nil _ _ _ _ _ | exact Kd.N_nil _ _ _ _ _ | exact Kd.V_nil _ _ _ _ _ | exact Kd.Q_nil _ _ _ _ _ | exact Kd.S_nil _ _ _ _ _, by first | exact Kd.R_nil _ _ _ _ _ | exact Kd.N_nil _ _ _ _ _ | exact Kd.V_nil _ _ _ _ _ | exact Kd.Q_nil _ _ _ _ _ | exact Kd.S_nil _ _ _ _ _, by first | exact Kd.S_nil _ _ _ _ _ | exact Kd.N_nil _ _ _ _ _ | exact Kd.V_nil _ _ _ _ _ | exact Kd.Q_nil _ _ _ _ _ | exact Kd.R_nil _ _ _ _ _, bS2 HB.out F.out G.out⟩

end Go.Proofs.Ytghfclgcgecgdaa.X

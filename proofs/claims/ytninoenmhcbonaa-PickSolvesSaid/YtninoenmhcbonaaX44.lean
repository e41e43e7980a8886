/- Functions of the seat, printed, and that the program's calls come to them; no condition. -/
import Derived.Test.YtninoenmhcbonaaX0
import Derived.Test.YtninoenmhcbonaaX39
import Derived.Test.YtninoenmhcbonaaX34
import Derived.Test.YtninoenmhcbonaaX31
import Derived.Test.YtninoenmhcbonaaX24
namespace Go.Proofs.Ytninoenmhcbonaa.X
open Go.RowKit Go.Proofs.YtninoenmhcbonaaW.PrintWords Go.Proofs.YtninoenmhcbonaaW.PrintLast Go.Proofs.YtninoenmhcbonaaW.PrintMore
attribute [local go_sem] max2_int min2_int max_two min_two max_three min_three max_four min_four
set_option linter.unusedVariables false
set_option linter.unusedSimpArgs false
set_option maxHeartbeats 8000000
set_option maxRecDepth 100000

def Flb.l0 : Nat → List Int → Int → Bool → List Int → Option (Bool × List Int)
 | 0, _, _, _, _ => none
 | k + 1, x0, x5, x546000, x546001 => if x5 ≥ 0 then ((Fj.f k x546000 x546001 x546000 x546001).bind fun bt546 => (if 0 ≤ x5 then (if x5 < (x0.length : Int) then ((Fic.f k (rd x0 x5)).bind fun bt551 => ((Fj.f k bt546.1 bt546.2 bt551.1 bt551.2).bind fun bt555 => (Flb.l0 k x0 (wrap64 (x5 - 1)) bt555.1 bt555.2))) else (none)) else (none))) else (some (x546000, x546001))
def Flb.f (k : Nat) (l0 : List Int) : Option (Bool × List Int) := if 0 ≤ (wrap64 ((l0.length : Int) - 1)) then (if (wrap64 ((l0.length : Int) - 1)) < (l0.length : Int) then ((Fic.f k (wrap64 (-(rd l0 (wrap64 ((l0.length : Int) - 1)))))).bind fun bt541 => (Flb.l0 k l0 (wrap64 ((l0.length : Int) - 2)) bt541.1 bt541.2)) else (none)) else (none)
theorem Flb.mono_l : ∀ k, (∀ y0 y1 y2 y3, LeO (Flb.l0 k y0 y1 y2 y3) (Flb.l0 (k + 1) y0 y1 y2 y3))
 | 0 => fun _ _ _ _ r h => by simp [Flb.l0] at h
 | k + 1 => by
  have ih0 := Flb.mono_l k
  ·intro y0 y1 y2 y3
   unfold Flb.l0
   repeat' first | (with_reducible first | exact ih0 _ _ _ _ | exact Fic.mono _ _ | exact Fj.mono _ _ _ _ _ | exact lA | apply lI | refine lB ?_ fun _ => ?_) | exact lN _ | apply lI | refine lB ?_ fun _ => ?_
theorem Flb.mono : ∀ a0 k, LeO (Flb.f k a0) (Flb.f (k + 1) a0) := by
 intro a0 k; have ih0 := Flb.mono_l k
 unfold Flb.f
 repeat' first | (with_reducible first | exact ih0 _ _ _ _ | exact Fic.mono _ _ | exact Fj.mono _ _ _ _ _ | exact lA | apply lI | refine lB ?_ fun _ => ?_) | exact lN _ | apply lI | refine lB ?_ fun _ => ?_
def Flb.T6 : Bool × List (List Nat × List Nat) := (true, [([], []), ([], []), ([0, 1], [0, 1]), ([], []), ([], []), ([3, 4], [3, 4]), ([5], [5]), ([6, 2], [6]), ([2, 7, 7], [2, 7]), ([8, 8, 0, 1, 2, 3, 4, 5, 6, 7, 8], [8])])
def Flb.B6 : List Nat := [0, 0, 3, 0, 0, 24, 56, 127, 255, 511]
theorem Flb.tab6 : rtab .any (opsOf Try.f77 6) = Flb.T6 := by kernel_rfl
theorem Flb.bits6 : waitsOk Flb.T6.2 Flb.B6 = true := by kernel_rfl
theorem Flb.calls (k : Nat) (A0 : Option Addr) (c0 : Nat) (P : List Int) (r1 : Bool) (r2 : List Int) (w : World) (a2 : Kd.C (Kd.int .i64) w A0 P.length P) (a3 : P.length ≤ c0) (h : Flb.f k P = some (r1, r2)) :
  Calls Try.prog 77 #[.slice A0 P.length c0] w fun e w' => ∃ a4 : Value, e = .returned (.agg #[.bool r1, a4]) ∧ Kd.V (Kd.int .u64) 137 w' w.heap.size (fun k_ => (w.heap.size ≤ k_)) a4 r2 ∧ Below w.heap.size w w' := by
 have hu127 := Try.underlying127; have a5 := aM a2; have bQ := aM a3; clear a2 a3; have HB := aM (Below.refl w.heap.size w); rw [Flb.f] at h; have H := h; clear h; obtain ⟨af, ah⟩ : ∃ j_ : Int, (wrap64 ((P.length : Int) - 1)) = j_ := ⟨_, rfl⟩
 first | rw [ah] at H | simp only [ah] at H
 have hji2w : (IntKind.i64.wrap ((P.length : Int) - 1)) = af := (i64_w _).trans ah
 apply iN H; clear H; intro c3 H; have bG := dT c3; clear c3
 apply iN H; clear H; intro c4 H; have bH := dT c4; clear c4; replace H := Option.bind_eq_some_iff.mp H; obtain ⟨⟨ar, ai⟩, a6, H⟩ := H; replace H : (Flb.l0 k P (wrap64 ((P.length : Int) - 2)) ar ai) = some (r1, r2) := H; have A5 := aM a6; clear a6; have H' := aM H; clear H
 go_enter Try.func77, Try.ntmps77
 go_wp2_with (first | ((with_reducible refine gate_dst (N := 2) rfl ?_); refine be_ (cs := #[.bool false, .slice none 0 0]) (t := 127) ?_; intro J hg w6 am hb; have E := aM (am); have bA := gE hg (bP0 HB); have G := gE hg (bP0 HB); replace HB := hS0 HB hb; clear hb am hg; obtain ⟨⟨aD, a9, ap⟩, az, aA⟩ := xAt (Kd.at_int a5.out) (af); cases a9; replace ap := cX HB ap; ) | ((with_reducible refine gate_callee (f := 89) rfl ?_); refine goesL_ (some 14) rfl rfl Try.func89 (by kernel_rfl) rfl #[.int .i64 (wrap64 (-(rd P (af))))] rfl (by (try simp only [List.map_toArray, List.map_cons, List.map_nil]); first | done | (simp only [ah]; rfl) | rfl | (simp only [List.length_drop, List.length_take]; rfl)) ?_; (with_reducible refine (Fic.calls k (wrap64 (-(rd P (af)))) ar ai _ A5.out).mono ?_); rintro e w7 ⟨bJ, rfl, U, hb⟩; refine ⟨_, rfl, ?_⟩; have ag := aM (Kd.V_lower (Kd.V_mono (ok' := fun k_ => (w.heap.size ≤ k_) ∧ k_ ≠ J) U (fun k_ hk_ => ⟨(Nat.le_trans (below_size (bP1 HB G)) hk_), (Kd.freshB (g := J) (o := .cells #[.bool false, .slice none 0 0] 127 (0, 0)) (kO E.out) k_ hk_)⟩)) (below_size (bP1 HB G))); replace E := kB E hb; replace HB := hS1 HB G hb) | ((with_reducible refine gate_dst (N := 4) rfl ?_); refine be_ (cs := #[.bool false, .slice none 0 0]) (t := 127) ?_; intro F hg w8 am hb; replace ag := aM (Kd.V_below (Kd.V_elderB (vO ag.out) F (Nat.le_of_eq hg.symm)) hb); have A := aM (am); have bB := gE hg (bP1 HB G); have L := gE hg (bP1 HB G); replace HB := hS1 HB G hb; have M := nL hg E; have Q := nG hg E; replace E := kB E hb; clear hb am hg; have bK := Q.out; have bL := M.out; obtain ⟨bh, bi, bj, bk⟩ := bG2 A; obtain ⟨aI, aJ, ba⟩ := Kd.V_slice ag.out; subst ba))
 go_loopg [5] k (fun kq v5 w' => ∃ (I : Int) (B : Bool) (D : List Int) (ae : Value), v5 = .int .i64 I ∧ Aside0 (Flb.l0 kq P I B D = some (r1, r2)) ∧ Aside0 (kq ≤ k) ∧ Aside0 (Kd.V (Kd.int .u64) 137 w' w.heap.size (fun k_ => (w.heap.size ≤ k_) ∧ k_ ≠ J ∧ k_ ≠ F) ae D) ∧ Aside0 (w'.heap[J]? = some (.cells #[.bool false, (.slice none 0 0)] 127 (0, 0))) ∧ Aside0 (w'.heap[F]? = some (.cells #[.bool B, ae] 127 (0, 0))) ∧ BA w w')
 case atStart => exact ⟨(wrap64 ((P.length : Int) - 2)), (ar), (ai), (.slice aI ai.length aJ), sI, H', ⟨Nat.le_refl _⟩, ⟨by (with_reducible repeat (first | apply Kd.V_alloc | apply Kd.V_drewN | apply Kd.V_drew)); exact Kd.V_mono (Kd.V_far (p := ⟨F, 1, none⟩) (Kd.V_far (p := ⟨F, 0, none⟩) (Kd.V_mono ag.out (fun k_ hk => (⟨hk, hk.2⟩ : _ ∧ k_ ≠ F))) (fun _ hk => hk.2) (.bool ar)) (fun _ hk => hk.2) (.slice aI ai.length aJ)) (fun _ hk => ⟨hk.1.1.1, ⟨hk.1.1.2, hk.1.2⟩⟩)⟩, ⟨kN E M⟩, ⟨by (with_reducible repeat (first | refine blk_drewN ?_ _ | refine blk_drew ?_ | refine blk_alloc ?_ _)); exact blk_put (blk_put A.out 0 _ rfl) 1 _ rfl⟩, bT2 HB G L⟩
 case round =>
  clear H'
  obtain ⟨I, B, D, ae, rfl, HA, ax, z, E, A, HB⟩ := hrel; cases gk with
  | zero => exact absurd HA.out (by simp [Flb.l0])
  | succ k1 =>
   have H := HA.out; clear HA; simp only [Flb.l0] at H
   apply iB H <;> clear H <;> intro aq H
   ·have aZ := dT aq; clear aq; replace H := Option.bind_eq_some_iff.mp H; obtain ⟨⟨aj, ak⟩, aK, H⟩ := H; replace H : (if 0 ≤ I then (if I < (P.length : Int) then ((Fic.f k1 (rd P I)).bind fun aE => ((Fj.f k1 aj ak aE.1 aE.2).bind fun ac => (Flb.l0 k1 P (wrap64 (I - 1)) ac.1 ac.2))) else (none)) else (none)) = some (r1, r2) := H; have bw := aM aK; clear aK
    apply iN H; clear H; intro aF H; have bC := dT aF; clear aF
    apply iN H; clear H; intro aG H; have bD := dT aG; clear aG; replace H := Option.bind_eq_some_iff.mp H; obtain ⟨⟨au, av⟩, aL, H⟩ := H; replace H : ((Fj.f k1 aj ak au av).bind fun ac => (Flb.l0 k1 P (wrap64 (I - 1)) ac.1 ac.2)) = some (r1, r2) := H; have bx := aM aL; clear aL; replace H := Option.bind_eq_some_iff.mp H; obtain ⟨⟨aw, al⟩, aN, H⟩ := H; replace H : (Flb.l0 k1 P (wrap64 (I - 1)) aw al) = some (r1, r2) := H; have bz := aM aN; clear aN; have H' := aM H; clear H
    try go_wp2
    replace z := aM (Kd.V_drew z.out); replace E := kD E; replace A := kD A; replace HB := aM (below_drew1 HB.out); have aB : 0 ≤ (I : Int) := oT aO; have aC : I < (P.length : Int) := oT aO; obtain ⟨a1, bb, Z⟩ := Kd.at_int a5.out I aB aC; have O := Z; obtain rfl := sJJ bb; replace Z := cX HB Z; replace aB := eq_true aB; replace aC := eq_true aC; obtain ⟨aa, ab, aP⟩ := Kd.V_slice z.out
    (first | subst aP | obtain ⟨rfl, rfl⟩ := iS aP)
    refine start_ (n := 10) (S := fun w' => w'.cell? ⟨F, 0, none⟩ = some (.bool B) ∧ w'.cell? ⟨F, 1, none⟩ = some (.slice aa D.length ab) ∧ w'.cell? (aD.add (I).toNat) = some (.int .i64 (rd P I))) (ds := [9]) (bl 10 0) (by kernel_rfl) rfl rfl ⟨(blk_cell A.out 0).trans rfl, (blk_cell A.out 1).trans rfl, ((HB.out.cell (World.block_lt_of_cell? w _ O)).trans O)⟩ (fun W => ?_); refine with_tabW Flb.tab6 Flb.bits6 (fun Y an => ?_); generalize wr.drew = bR at z E A HB Z W ⊢; refine pu_ 3 24 (bl 10 8) Y ?_; refine pu_ 4 25 (bl 10 24) Y ?_; refine pu_ 5 26 (bl 10 56) Y ?_; refine tk3_ 0 21 (bl 10 57) Y an W ?_; refine tk3_ 1 22 (bl 10 59) Y an W ?_; refine tk3_ 6 27 (bl 10 123) Y an W ?_; refine one_ (i := 2) (N := some 23) (bl 10 127) rfl rfl (one_of Y.out (by kernel_rfl)) (by decide) (fun K hK => ?_); refine gS_ Try.func90 #[.agg #[.bool B, .slice aa D.length ab], .agg #[.bool B, .slice aa D.length ab]] ?_
    with_reducible refine (Fj.calls k1 B _ _ D B _ _ D aj ak _ ?s1 ?s2 ?s3 ?s4 bw.out).mono ?_
    (case s1 => exact cO (Kd.V_reads' z.out).2.2)
    (case s2 => exact (Kd.V_reads' z.out).2.1)
    (case s3 => exact cO (Kd.V_reads' z.out).2.2)
    (case s4 => exact (Kd.V_reads' z.out).2.1)
    rintro e bS ⟨bN, rfl, U, hb⟩; refine ⟨_, rfl, ?_⟩; replace z := aM (Kd.V_below (vO z.out) hb); have R := aM (Kd.V_lower (Kd.V_mono (ok' := fun k_ => (w.heap.size ≤ k_) ∧ k_ ≠ J ∧ k_ ≠ F) U (fun k_ hk_ => ⟨(Nat.le_trans (below_size (bP2 HB G L)) hk_), (Kd.freshB (g := J) (o := .cells #[.bool false, .slice none 0 0] 127 (0, 0)) (kO E.out) k_ hk_), (Kd.freshB (g := F) (o := .cells #[.bool B, .slice aa D.length ab] 127 (0, 0)) (kO A.out) k_ hk_)⟩)) (below_size (bP2 HB G L))); replace E := kB E hb; replace A := kB A hb; replace HB := hS2 HB G L hb
    refine hK.out _ _ ⟨(blk_cell A.out 0).trans rfl, (blk_cell A.out 1).trans rfl, ((HB.out.cell (World.block_lt_of_cell? w _ O)).trans O)⟩ (fun W => ?_); clear hK K; refine nm_ 23 ?_; refine one_ (i := 7) (N := some 28) (bl 10 255) rfl rfl (one_of Y.out (by kernel_rfl)) (by decide) (fun K hK => ?_); refine gS_ Try.func89 #[.int .i64 (rd P I)] ?_
    with_reducible refine (Fic.calls k1 (rd P I) au av _ bx.out).mono ?_
    rintro e bT ⟨bO, rfl, U, hb⟩; refine ⟨_, rfl, ?_⟩; replace z := aM (Kd.V_below (vO z.out) hb); replace R := aM (Kd.V_below (vO R.out) hb); have ad := aM (Kd.V_lower (Kd.V_mono (ok' := fun k_ => (w.heap.size ≤ k_) ∧ k_ ≠ J ∧ k_ ≠ F) U (fun k_ hk_ => ⟨(Nat.le_trans (below_size (bP2 HB G L)) hk_), (Kd.freshB (g := J) (o := .cells #[.bool false, .slice none 0 0] 127 (0, 0)) (kO E.out) k_ hk_), (Kd.freshB (g := F) (o := .cells #[.bool B, .slice aa D.length ab] 127 (0, 0)) (kO A.out) k_ hk_)⟩)) (below_size (bP2 HB G L))); replace E := kB E hb; replace A := kB A hb; replace HB := hS2 HB G L hb
    obtain ⟨bc, bd, aQ⟩ := Kd.V_slice R.out
    (first | subst aQ | obtain ⟨rfl, rfl⟩ := iS aQ)
    obtain ⟨be, bf, aR⟩ := Kd.V_slice ad.out
    (first | subst aR | obtain ⟨rfl, rfl⟩ := iS aR)
    refine hK.out _ _ ⟨(blk_cell A.out 0).trans rfl, (blk_cell A.out 1).trans rfl, ((HB.out.cell (World.block_lt_of_cell? w _ O)).trans O)⟩ (fun W => ?_); clear hK K; refine nm_ 28 ?_; refine one_ (i := 8) (N := some 29) (bl 10 511) rfl rfl (one_of Y.out (by kernel_rfl)) (by decide) (fun K hK => ?_); refine gS_ Try.func90 #[.agg #[.bool aj, .slice bc ak.length bd], .agg #[.bool au, .slice be av.length bf]] ?_
    with_reducible refine (Fj.calls k1 aj _ _ ak au _ _ av aw al _ ?s1 ?s2 ?s3 ?s4 bz.out).mono ?_
    (case s1 => exact cO (Kd.V_reads' R.out).2.2)
    (case s2 => exact (Kd.V_reads' R.out).2.1)
    (case s3 => exact cO (Kd.V_reads' ad.out).2.2)
    (case s4 => exact (Kd.V_reads' ad.out).2.1)
    rintro e a8 ⟨bP, rfl, U, hb⟩; refine ⟨_, rfl, ?_⟩; replace z := aM (Kd.V_below (vO z.out) hb); replace R := aM (Kd.V_below (vO R.out) hb); replace ad := aM (Kd.V_below (vO ad.out) hb); have aH := aM (Kd.V_lower (Kd.V_mono (ok' := fun k_ => (w.heap.size ≤ k_) ∧ k_ ≠ J ∧ k_ ≠ F) U (fun k_ hk_ => ⟨(Nat.le_trans (below_size (bP2 HB G L)) hk_), (Kd.freshB (g := J) (o := .cells #[.bool false, .slice none 0 0] 127 (0, 0)) (kO E.out) k_ hk_), (Kd.freshB (g := F) (o := .cells #[.bool B, .slice aa D.length ab] 127 (0, 0)) (kO A.out) k_ hk_)⟩)) (below_size (bP2 HB G L))); replace E := kB E hb; replace A := kB A hb; replace HB := hS2 HB G L hb
    obtain ⟨aS, aT, aU⟩ := Kd.V_slice aH.out
    (first | subst aU | obtain ⟨rfl, rfl⟩ := iS aU)
    refine hK.out _ _ ⟨(blk_cell A.out 0).trans rfl, (blk_cell A.out 1).trans rfl, ((HB.out.cell (World.block_lt_of_cell? w _ O)).trans O)⟩ (fun W => ?_); clear hK K; refine nm_ 29 ?_; refine last_ (i := 9) (N := none) (bl 10 1023) rfl rfl (one_of Y.out (by kernel_rfl)) (by decide) (fun K hK => ?_); have hs25 : a8.cell? ⟨F, 0, none⟩ = some (.bool B) := (blk_cell A.out 0).trans rfl; have hfs25 := blk_frozen A.out 0; have hns25_0 := M.out; have hms25_0 := Q.out; have hs27 : a8.cell? ⟨F, 1, none⟩ = some (.slice aa D.length ab) := (blk_cell A.out 1).trans rfl; have hfs27 := blk_frozen A.out 1; have hns27_0 := M.out; have hms27_0 := Q.out; refine skip_ (w1 := ?_) (by rfl) rfl ?_ ?_; rotate_left
    ·go_simp
     rfl
    refine hK.out _ _ ?_; clear hK K; refine done_ (done_of Y.out (by kernel_rfl)) ?_
    try go_wp2
    go_roundg k1
    case measure => have := ax.out; omega
    case rel => exact ⟨(wrap64 (I - 1)), (aw), (al), (.slice aS al.length aT), sI, H', ⟨by have := ax.out; omega⟩, ⟨by (with_reducible repeat (first | apply Kd.V_alloc | apply Kd.V_drewN | apply Kd.V_drew)); exact Kd.V_mono (Kd.V_far (p := ⟨F, 1, none⟩) (Kd.V_far (p := ⟨F, 0, none⟩) (Kd.V_mono aH.out (fun k_ hk => (⟨hk, hk.2.2⟩ : _ ∧ k_ ≠ F))) (fun _ hk => hk.2) (.bool aw)) (fun _ hk => hk.2) (.slice aS al.length aT)) (fun _ hk => ⟨hk.1.1, ⟨hk.1.2.1, hk.1.2.2⟩⟩)⟩, ⟨kN E M⟩, ⟨by (with_reducible repeat (first | refine blk_drewN ?_ _ | refine blk_drew ?_ | refine blk_alloc ?_ _)); exact blk_put (blk_put A.out 0 _ rfl) 1 _ rfl⟩, bT2 HB G L⟩
   ·have aZ := decide_eq_false aq; clear aq; obtain ⟨rfl, rfl⟩ := pE2 H; have bE := Q.out; have bF := M.out; obtain ⟨bm, bn, bo, bp⟩ := bG2 A; obtain ⟨bq, br, bs, bt⟩ := bG2 E; obtain ⟨aV, aW, bg⟩ := Kd.V_slice z.out; subst bg
    go_wp2
    refine bodyPost_ret (results_cell_row rfl _ _ J 127 #[.bool B, .slice aV D.length aW] (0, 0) _ rfl (by (with_reducible repeat (first | refine blk_drewN ?_ _ | refine blk_drew ?_ | refine blk_alloc ?_ _)); exact blk_put (blk_put E.out 0 _ rfl) 1 _ rfl) Try.underlying127 rfl (by kernel_rfl)) rfl ?_; exact ⟨_, by first | rfl | (simp [errW_none, errW_some] <;> rfl) | (simp only [← ah]; first | rfl | (simp [errW_none, errW_some] <;> rfl)) | (simp [*, errW_none, errW_some] <;> rfl), by (with_reducible repeat (first | apply Kd.V_alloc | apply Kd.V_drewN | apply Kd.V_drew)); exact Kd.V_mono (Kd.V_far (p := ⟨J, 1, none⟩) (Kd.V_far (p := ⟨J, 0, none⟩) (Kd.V_mono z.out (fun k_ hk => (⟨hk, hk.2.1⟩ : _ ∧ k_ ≠ J))) (fun _ hk => hk.2) (.bool B)) (fun _ hk => hk.2) (.slice aV D.length aW)) (fun _ hk => hk.1.1), bS2 HB.out G.out L.out⟩
def Fkc.l0 : Nat → List Int → Int → Option (Int × Int)
 | 0, _, _ => none
 | k + 1, x0, x4 => if x4 < (x0.length : Int) then (if 0 ≤ x4 then (if (rd x0 x4) = 0 then (Fkc.l0 k x0 (wrap64 (x4 + 1))) else (if (rd x0 x4) = 1 then (Fkc.l0 k x0 (wrap64 (x4 + 1))) else (some (0, 3)))) else (none)) else (if (x0.length : Int) > 64 then (some (0, 31)) else ((Flb.f k x0).bind fun bt561 => ((Fi.f k bt561.1 bt561.2).bind fun bt565 => (some (bt565.1, 0)))))
def Fkc.f (k : Nat) (l0 : List Int) : Option (Int × Int) := if (l0.length : Int) = 0 then (some (0, 3)) else (Fkc.l0 k l0 0)
theorem Fkc.mono_l : ∀ k, (∀ y0 y1, LeO (Fkc.l0 k y0 y1) (Fkc.l0 (k + 1) y0 y1))
 | 0 => fun _ _ r h => by simp [Fkc.l0] at h
 | k + 1 => by
  have ih0 := Fkc.mono_l k
  ·intro y0 y1
   unfold Fkc.l0
   repeat' first | (with_reducible first | exact ih0 _ _ | exact Fi.mono _ _ _ | exact Flb.mono _ _ | exact lA | apply lI | refine lB ?_ fun _ => ?_) | exact lN _ | apply lI | refine lB ?_ fun _ => ?_
theorem Fkc.mono : ∀ a0 k, LeO (Fkc.f k a0) (Fkc.f (k + 1) a0) := by
 intro a0 k; have ih0 := Fkc.mono_l k
 unfold Fkc.f
 repeat' first | (with_reducible first | exact ih0 _ _ | exact Fi.mono _ _ _ | exact Flb.mono _ _ | exact lA | apply lI | refine lB ?_ fun _ => ?_) | exact lN _ | apply lI | refine lB ?_ fun _ => ?_
theorem Fkc.calls (k : Nat) (A0 : Option Addr) (c0 : Nat) (E : List Int) (Y : Int) (Z : Int) (w : World) (af : Kd.C (Kd.int .i64) w A0 E.length E) (ag : E.length ≤ c0) (h : Fkc.f k E = some (Y, Z)) :
  Calls Try.prog 55 #[.slice A0 E.length c0] w fun e w' => e = .returned (.tuple #[.int .i64 Y, .int .i64 Z]) ∧ Below w.heap.size w w' := by
 have N := aM af; have aB := aM ag; clear af ag; have HB := aM (Below.refl w.heap.size w); rw [Fkc.f] at h; have H := h; clear h
 apply iB H <;> clear H <;> intro U H
 ·obtain ⟨am, an⟩ := bq U; clear U; obtain ⟨rfl, rfl⟩ := pE2 H
  go_enter Try.func55, Try.ntmps55
  go_wp2
  go_ret2
  exact ⟨eW, bO HB.out⟩
 ·obtain ⟨am, an⟩ := bn U
  have aC : ¬ (E = []) := fun h_ => U (by rw [h_]; rfl)
  have H' := aM H; clear H
  go_enter Try.func55, Try.ntmps55
  go_wp2
  go_loopg [4] k (fun kq v4 w' => ∃ (z : Int), v4 = .int .i64 z ∧ Aside0 (Fkc.l0 kq E z = some (Y, Z)) ∧ Aside0 (kq ≤ k) ∧ BA w w')
  case atStart => exact ⟨(0), sI, H', ⟨Nat.le_refl _⟩, bT0 HB⟩
  case round =>
   clear H'
   obtain ⟨z, rfl, HA, aa, HB⟩ := hrel; cases gk with
   | zero => exact absurd HA.out (by simp [Fkc.l0])
   | succ k1 =>
    have H := HA.out; clear HA; simp only [Fkc.l0] at H
    apply iB H <;> clear H <;> intro V H
    ·have ao := dT V; clear V
     apply iN H; clear H; intro c4 H; have aE := dT c4; clear c4
     apply iB H <;> clear H <;> intro c5 H
     ·obtain ⟨ap, aq⟩ := bq c5; clear c5; have H' := aM H; clear H; obtain ⟨⟨L, M, A⟩, B, D⟩ := xAt (Kd.at_int N.out) z; cases M; replace A := cX HB A
      go_wp2
      go_roundg k1
      case measure => have := aa.out; omega
      case rel => exact ⟨(wrap64 (z + 1)), sI, H', ⟨by have := aa.out; omega⟩, bT0 HB⟩
     ·obtain ⟨ap, aq⟩ := bn c5
      apply iB H <;> clear H <;> intro c6 H
      ·obtain ⟨ar, au⟩ := bq c6; clear c6; have H' := aM H; clear H; obtain ⟨⟨L, M, A⟩, B, D⟩ := xAt (Kd.at_int N.out) z; cases M; replace A := cX HB A; obtain ⟨⟨O, R, F⟩, G, I⟩ := xAt (Kd.at_int N.out) z; obtain rfl := sJJ R; replace F := cX HB F
       go_wp2
       go_roundg k1
       case measure => have := aa.out; omega
       case rel => exact ⟨(wrap64 (z + 1)), sI, H', ⟨by have := aa.out; omega⟩, bT0 HB⟩
      ·obtain ⟨ar, au⟩ := bn c6; obtain ⟨rfl, rfl⟩ := pE2 H; obtain ⟨⟨L, M, A⟩, B, D⟩ := xAt (Kd.at_int N.out) z; cases M; replace A := cX HB A; obtain ⟨⟨O, R, F⟩, G, I⟩ := xAt (Kd.at_int N.out) z; obtain rfl := sJJ R; replace F := cX HB F
       go_wp2
       go_ret2
       exact ⟨eW, bO HB.out⟩
    ·have ao := decide_eq_false V; clear V
     apply iB H <;> clear H <;> intro W H
     ·have av := dT W; have aw : decide (64 < E.length) = true := dT (by omega); clear W; obtain ⟨rfl, rfl⟩ := pE2 H
      go_wp2
      go_ret2
      exact ⟨eW, bO HB.out⟩
     ·have av := decide_eq_false W; have aw : decide (64 < E.length) = false := decide_eq_false (by omega); clear W; replace H := Option.bind_eq_some_iff.mp H; obtain ⟨⟨P, Q⟩, ah, H⟩ := H; replace H : ((Fi.f k1 P Q).bind fun ae => (some (ae.1, 0))) = some (Y, Z) := H; have A8 := aM ah; clear ah; replace H := Option.bind_eq_some_iff.mp H; obtain ⟨⟨ac, ax⟩, ai, H⟩ := H; replace H : (some (ac, 0)) = some (Y, Z) := H; have A9 := aM ai; clear ai; obtain ⟨rfl, rfl⟩ := pE2 H
      go_wp2_with (first | ((with_reducible refine gate_callee (f := 77) rfl ?_); refine gL_ (some 33) Try.func77 #[.slice A0 E.length c0] ?_; (with_reducible refine (Flb.calls k1 _ _ E P Q _ ?s1 aB.out A8.out).mono ?_); (case s1 => exact cB N HB); rintro e aI ⟨aH, rfl, aj, hb⟩; refine ⟨_, rfl, ?_⟩; have J := aM (Kd.V_lower (Kd.V_mono (ok' := fun k_ => True) aj (fun k_ hk_ => trivial)) (below_size (bP0 HB))); replace HB := hS0 HB hb; obtain ⟨ay, az, aA⟩ := Kd.V_slice J.out; subst aA) | ((with_reducible refine gate_callee (f := 76) rfl ?_); refine gL_ (some 34) Try.func76 #[.agg #[.bool P, .slice ay Q.length az]] ?_; (with_reducible refine (Fi.calls k1 P _ _ Q ac ax _ ?s1 ?s2 A9.out).mono ?_); (case s1 => exact cO (Kd.V_reads' J.out).2.2); (case s2 => exact (Kd.V_reads' J.out).2.1); rintro e aJ ⟨rfl, hb⟩; refine ⟨_, rfl, ?_⟩; replace J := aM (Kd.V_below (vO J.out) hb); replace HB := hS0 HB hb))
      go_ret2
      exact ⟨eW, bO HB.out⟩
def Fla.l0 : Nat → List Int → Int → List Int → Int → Option (List Int)
 | 0, _, _, _, _ => none
 | k + 1, x0, x1, x5, x6 => if x6 < (x0.length : Int) then (if 0 ≤ x6 then ((Fl.f k x1).bind fun t568 => (if t568 = 0 then (none) else (if x5.length < 17592186044416 then (Fla.l0 k x0 x1 (x5 ++ [Int.tmod (wrap64 (Int.tdiv (rd x0 x6) t568)) 2]) (wrap64 (x6 + 1))) else (none)))) else (none)) else (some x5)
def Fla.f (k : Nat) (l0 : List Int) (a1 : Int) : Option (List Int) := Fla.l0 k l0 a1 ([] : List Int) 0
theorem Fla.mono_l : ∀ k, (∀ y0 y1 y2 y3, LeO (Fla.l0 k y0 y1 y2 y3) (Fla.l0 (k + 1) y0 y1 y2 y3))
 | 0 => fun _ _ _ _ r h => by simp [Fla.l0] at h
 | k + 1 => by
  have ih0 := Fla.mono_l k
  ·intro y0 y1 y2 y3
   unfold Fla.l0
   repeat' first | (with_reducible first | exact ih0 _ _ _ _ | exact Fl.mono _ _ | exact lA | apply lI | refine lB ?_ fun _ => ?_) | exact lN _ | apply lI | refine lB ?_ fun _ => ?_
theorem Fla.mono : ∀ a0 a1 k, LeO (Fla.f k a0 a1) (Fla.f (k + 1) a0 a1) := by
 intro a0 a1 k; have ih0 := Fla.mono_l k
 unfold Fla.f
 repeat' first | (with_reducible first | exact ih0 _ _ _ _ | exact Fl.mono _ _ | exact lA | apply lI | refine lB ?_ fun _ => ?_) | exact lN _ | apply lI | refine lB ?_ fun _ => ?_
def Fla.T5 : Bool × List (List Nat × List Nat) := (true, [([], []), ([], []), ([], []), ([1, 2], [1, 2]), ([3], [3]), ([], []), ([5], [5]), ([4, 6], [4, 6]), ([7], [7]), ([8], [8]), ([0, 9, 6], [0, 9]), ([10, 10, 0, 1, 2, 3, 4, 5, 6, 7, 8, 9, 10], [0, 10])])
def Fla.B5 : List Nat := [0, 0, 0, 6, 14, 0, 32, 126, 254, 510, 1023, 2047]
theorem Fla.tab5 : rtab .any (opsOf Try.f56 5) = Fla.T5 := by kernel_rfl
theorem Fla.bits5 : waitsOk Fla.T5.2 Fla.B5 = true := by kernel_rfl
theorem Fla.calls (k : Nat) (A0 : Option Addr) (c0 : Nat) (F : List Int) (O : Int) (r : List Int) (w : World) (Y : Kd.C (Kd.int .i64) w A0 F.length F) (Z : F.length ≤ c0) (h : Fla.f k F O = some r) :
  Calls Try.prog 56 #[.slice A0 F.length c0, .int .i64 O] w fun e w' => ∃ aa : Value, e = .returned (aa) ∧ Kd.R (Kd.int .i64) 3 w' w.heap.size (fun _ => True) aa r ∧ Below w.heap.size w w' := by
 have aj := aM Y; have ar := aM Z; clear Y Z; have HB := aM (Below.refl w.heap.size w); rw [Fla.f] at h; have H := h; clear h; have H' := aM H; clear H
 go_enter Try.func56, Try.ntmps56
 go_wp2
 go_loopg [5, 6] k (fun kq v5 v6 w' => ∃ (D : List Int) (A : Int), v6 = .int .i64 A ∧ Aside0 (Fla.l0 kq F O D A = some r) ∧ Aside0 (kq ≤ k) ∧ RA (Kd.int .i64) 3 w' w v5 D ∧ BA w w')
 case atStart => exact ⟨(([] : List Int)), (0), sI, H', ⟨Nat.le_refl _⟩, ⟨by first | exact Kd.R_nil _ _ _ _ _ | exact Kd.N_nil _ _ _ _ _ | exact Kd.V_nil _ _ _ _ _ | exact Kd.Q_nil _ _ _ _ _ | exact Kd.S_nil _ _ _ _ _⟩, bT0 HB⟩
 case round =>
  clear H'
  obtain ⟨D, A, rfl, HA, ak, E, HB⟩ := hrel; cases gk with
  | zero => exact absurd HA.out (by simp [Fla.l0])
  | succ k1 =>
   have H := HA.out; clear HA; simp only [Fla.l0] at H
   apply iB H <;> clear H <;> intro M H
   ·have ac := dT M; clear M
    apply iN H; clear H; intro P H; have am := dT P; clear P; apply bSx H; clear H; intro I A5 H
    apply iB H <;> clear H <;> intro c6 H
    ·exact absurd H (by simp)
    ·obtain ⟨ao, ap⟩ := bn c6
     apply iN H; clear H; intro Q H; have ae := aM Q; clear Q; obtain ⟨af, G⟩ : ∃ y_ : List Int, y_ = (D ++ [Int.tmod (wrap64 (Int.tdiv (rd F A) I)) 2]) := ⟨_, rfl⟩
     first | replace H := rI G H | rw [← G] at H
     have U := aM G; clear G; have H' := aM H; clear H
     try go_wp2
     replace E := aM (Kd.R_drew E.out); replace HB := aM (below_drew1 HB.out); have J : 0 ≤ (A : Int) := oT aO; have L : A < (F.length : Int) := oT aO; obtain ⟨V, ag, B⟩ := Kd.at_int aj.out A J L; have z := B; cases ag; replace B := cX HB B; replace J := eq_true J; replace L := eq_true L; refine start_ (n := 12) (S := fun w' => w'.cell? (V.add (A).toNat) = some (.int .i64 (rd F A))) (ds := []) (bl 12 0) (by kernel_rfl) rfl rfl (((HB.out.cell (World.block_lt_of_cell? w _ z)).trans z)) (fun ah => ?_); refine with_tabW Fla.tab5 Fla.bits5 (fun ad HW_ => ?_); generalize wr.drew = w8 at E HB B ah ⊢; refine pu_ 0 13 (bl 12 1) ad ?_; refine pu_ 1 14 (bl 12 3) ad ?_; refine pu_ 2 15 (bl 12 7) ad ?_; refine pu_ 3 16 (bl 12 15) ad ?_; refine pu_ 5 18 (bl 12 47) ad ?_; refine take_ (i := 4) (N := some 17) (v := ?_) (a' := ?_) (bl 12 63) rfl rfl (take_ofW ad.out HW_.out (by kernel_rfl)) (fun _ _ _ h => h) (Or.inl ⟨by rfl, ?_⟩) ah ?_ ?_; rotate_left
     ·intro w' s0
      go_simp
      with_reducible rfl
     rotate_left
     ·simp only [Act.put, sA, sB, sC, i64_w, i32_w]
      rfl
     refine one_ (i := 6) (N := some 19) (bl 12 127) rfl rfl (one_of ad.out (by kernel_rfl)) (by decide) (fun K hK => ?_); refine gS_ Try.func54 #[.int .i64 O] ?_
     with_reducible refine (Fl.calls k1 O I _ A5.out).mono ?_
     rintro e w' ⟨rfl, ⟨nd, rfl⟩⟩; refine ⟨_, rfl, ?_⟩; refine hK.out _ _ (((HB.out.cell (World.block_lt_of_cell? w _ z)).trans z)) (fun ah => ?_); clear hK K; refine nm_ 19 ?_; refine pu_ 7 20 (bl 12 255) ad ?_; refine pu_ 8 21 (bl 12 511) ad ?_; refine one_ (i := 9) (N := some 22) (bl 12 1023) rfl rfl (one_of ad.out (by kernel_rfl)) (by decide) (fun K hK => ?_); refine value_ (w1 := ?_) (v := ?_) (by rfl) rfl ?_ ?_; rotate_left 2
     ·go_simp
      constructor
      ·rfl
      ·rfl
     refine hK.out _ _ ((World.cell?_alloc_lt _ _ _ (World.block_lt_of_cell? _ _ (((HB.out.cell (World.block_lt_of_cell? w _ z)).trans z)))).trans (((HB.out.cell (World.block_lt_of_cell? w _ z)).trans z))) (fun ah => ?_); clear hK K; refine nm_ 22 ?_; refine one_ (i := 10) (N := some 23) (bl 12 2047) rfl rfl (one_of ad.out (by kernel_rfl)) (by decide) (fun K hK => ?_); refine Kd.R_append_step (Kd.int .i64) (w0 := w) w.heap.size (by rfl) (.tmp 13) (.tmp 22) 24 3 (.int .i64 0) 8 rfl Try.underlying24 info3 rfl (by decide) (by omega) u5 D (Int.tmod (wrap64 (Int.tdiv (rd F A) I)) 2) [.int .i64 (Int.tmod (wrap64 (Int.tdiv (rd F A) I)) 2)] (fun _ => True) (fun _ => False) rfl rfl ?aP (fun _ hk => hk.elim) ?aF ?aO ?aB ?aS ?aL ?_
     (case aP => exact rfl)
     (case aB => exact (bP0 HB))
     (case aF => exact (fun _ _ => trivial))
     (case aO => exact (rP E))
     (case aS => exact (below_size (bP0 HB)))
     (case aL => have := ae.out; omega)
     intro aq w9 ho hb hg hat; rw [← U.out] at ho; replace HB := aM (hb); have W := aM (ho); clear E; clear ho hb hg hat; refine hK.out _ _ (((HB.out.cell (World.block_lt_of_cell? w _ z)).trans z)) (fun ah => ?_); clear hK K; refine nm_ 23 ?_; refine pu_ 11 5 (bl 12 4095) ad ?_; refine done_ (done_of ad.out (by kernel_rfl)) ?_
     try go_wp2
     go_roundg k1
     case measure => have := ak.out; omega
     case rel => exact ⟨(af), (wrap64 (A + 1)), sI, H', ⟨by have := ak.out; omega⟩, rQ W, bT0 HB⟩
   ·have ac := decide_eq_false M; clear M; obtain rfl := Option.some.inj H
    go_wp2
    go_ret
    exact ⟨_, eW, rO E.out, bO HB.out⟩
mutual
def Fkb.j0 : Nat → List Int → Int → Bool → Option (List Int × Int)
 | 0, _, _, _ => none
 | k + 1, x0, x1, x11 => if x11 = true then (some (([] : List Int), 150)) else (if (x0.length : Int) = 0 then (some (([] : List Int), 3)) else (if (x0.length : Int) > 64 then (some (([] : List Int), 31)) else (Fkb.l0 k x0 x1 0)))
def Fkb.l0 : Nat → List Int → Int → Int → Option (List Int × Int)
 | 0, _, _, _ => none
 | k + 1, x0, x1, x6 => if x6 < (x0.length : Int) then (if 0 ≤ x6 then (if (rd x0 x6) < 0 then (some (([] : List Int), 30)) else ((Fl.f k x1).bind fun t574 => (if (rd x0 x6) ≥ t574 then (some (([] : List Int), 30)) else (Fkb.l0 k x0 x1 (wrap64 (x6 + 1)))))) else (none)) else (Fkb.l1 k x0 x1 ([] : List Int) 0)
def Fkb.l1 : Nat → List Int → Int → List Int → Int → Option (List Int × Int)
 | 0, _, _, _, _ => none
 | k + 1, x0, x1, x7, x8 => if x8 < x1 then ((Fla.f k x0 x8).bind fun t575 => ((Fkc.f k t575).bind fun bt578 => (if x7.length < 17592186044416 then (Fkb.l1 k x0 x1 (x7 ++ [bt578.1]) (wrap64 (x8 + 1))) else (none)))) else (some (x7, 0))
end
def Fkb.f (k : Nat) (l0 : List Int) (a1 : Int) : Option (List Int × Int) := if a1 < 0 then (Fkb.j0 k l0 a1 true) else (Fkb.j0 k l0 a1 (decide (a1 > 6)))
theorem Fkb.mono_l : ∀ k, (∀ y0 y1 y2, LeO (Fkb.j0 k y0 y1 y2) (Fkb.j0 (k + 1) y0 y1 y2)) ∧ (∀ y0 y1 y2, LeO (Fkb.l0 k y0 y1 y2) (Fkb.l0 (k + 1) y0 y1 y2)) ∧ (∀ y0 y1 y2 y3, LeO (Fkb.l1 k y0 y1 y2 y3) (Fkb.l1 (k + 1) y0 y1 y2 y3))
 | 0 => ⟨fun _ _ _ r h => by simp [Fkb.j0] at h, fun _ _ _ r h => by simp [Fkb.l0] at h, fun _ _ _ _ r h => by simp [Fkb.l1] at h⟩
 | k + 1 => by
  obtain ⟨ih0, ih1, ih2⟩ := Fkb.mono_l k; refine ⟨?_, ?_, ?_⟩
  ·intro y0 y1 y2
   unfold Fkb.j0
   repeat' first | (with_reducible first | exact ih0 _ _ _ | exact ih1 _ _ _ | exact ih2 _ _ _ _ | exact Fkc.mono _ _ | exact Fl.mono _ _ | exact Fla.mono _ _ _ | exact lA | apply lI | refine lB ?_ fun _ => ?_) | exact lN _ | apply lI | refine lB ?_ fun _ => ?_
  ·intro y0 y1 y2
   unfold Fkb.l0
   repeat' first | (with_reducible first | exact ih0 _ _ _ | exact ih1 _ _ _ | exact ih2 _ _ _ _ | exact Fkc.mono _ _ | exact Fl.mono _ _ | exact Fla.mono _ _ _ | exact lA | apply lI | refine lB ?_ fun _ => ?_) | exact lN _ | apply lI | refine lB ?_ fun _ => ?_
  ·intro y0 y1 y2 y3
   unfold Fkb.l1
   repeat' first | (with_reducible first | exact ih0 _ _ _ | exact ih1 _ _ _ | exact ih2 _ _ _ _ | exact Fkc.mono _ _ | exact Fl.mono _ _ | exact Fla.mono _ _ _ | exact lA | apply lI | refine lB ?_ fun _ => ?_) | exact lN _ | apply lI | refine lB ?_ fun _ => ?_
theorem Fkb.mono : ∀ a0 a1 k, LeO (Fkb.f k a0 a1) (Fkb.f (k + 1) a0 a1) := by
 intro a0 a1 k; obtain ⟨ih0, ih1, ih2⟩ := Fkb.mono_l k
 unfold Fkb.f
 repeat' first | (with_reducible first | exact ih0 _ _ _ | exact ih1 _ _ _ | exact ih2 _ _ _ _ | exact Fkc.mono _ _ | exact Fl.mono _ _ | exact Fla.mono _ _ _ | exact lA | apply lI | refine lB ?_ fun _ => ?_) | exact lN _ | apply lI | refine lB ?_ fun _ => ?_
theorem Fkb.calls (k : Nat) (A0 : Option Addr) (c0 : Nat) (E : List Int) (N : Int) (r1 : List Int) (r2 : Int) (w : World) (aU : Kd.C (Kd.int .i64) w A0 E.length E) (aV : E.length ≤ c0) (h : Fkb.f k E N = some (r1, r2)) :
  Calls Try.prog 27 #[.slice A0 E.length c0, .int .i64 N] w fun e w' => ∃ aW : Value, e = .returned (.tuple #[aW, .int .i64 r2]) ∧ Kd.R (Kd.int .i64) 2 w' w.heap.size (fun _ => True) aW r1 ∧ Below w.heap.size w w' := by
 have V := aM aU; have ax := aM aV; clear aU aV; have HB := aM (Below.refl w.heap.size w); rw [Fkb.f] at h; have H := h; clear h; have ay := aM H; clear H
 go_enter Try.func27, Try.ntmps27
 go_upto_region 1 with (fail)
 repeat (go_quiet (fail); go_upto_region 1 with (fail))
 go_cut [11] (fun bb wc => ∃ (kq : Nat) (Y : Bool), bb = .bool Y ∧ Aside0 (Fkb.j0 kq E N Y = some (r1, r2)) ∧ Aside0 (kq ≤ k) ∧ BA w wc)
 case first =>
  have H := ay.out; clear ay
  apply iB H <;> clear H <;> intro c4 H
  ·have ab := dT c4; clear c4
   (first | rw [ab] | (simp only [i64_w, i32_w]; rw [ab]) | skip)
   have H' := aM H; clear H
   go_wp2
   repeat (go_quiet (fail); try go_wp2)
   go_meet
   case rel => exact ⟨_, (true), sI, H', lE, bT0 HB⟩
  ·have ab := decide_eq_false c4; clear c4
   (first | rw [ab] | (simp only [i64_w, i32_w]; rw [ab]) | skip)
   have H' := aM H; clear H
   go_wp2
   repeat (go_quiet (fail); try go_wp2)
   go_meet
   case rel => exact ⟨_, (decide (N > 6)), sI, H', lE, bT0 HB⟩
 case rest =>
  clear ay
  obtain ⟨kq, Y, rfl, HA, HJ2, HB⟩ := hcut; cases kq with
  | zero => exact absurd HA.out (by simp [Fkb.j0])
  | succ aX =>
   have H := HA.out; clear HA; simp only [Fkb.j0] at H
   by_cases c5 : Y = true
   ·subst c5
    rw [if_pos rfl] at H; obtain ⟨rfl, rfl⟩ := pE2 H
    go_wp2
    repeat (go_quiet (fail); try go_wp2)
    go_ret2
    exact ⟨_, eW, by first | exact Kd.R_nil _ _ _ _ _ | exact Kd.N_nil _ _ _ _ _ | exact Kd.V_nil _ _ _ _ _ | exact Kd.Q_nil _ _ _ _ _ | exact Kd.S_nil _ _ _ _ _, bO HB.out⟩
   ·replace c5 := Bool.eq_false_iff.mpr c5; subst c5
    rw [if_neg nF] at H
    apply iB H <;> clear H <;> intro c6 H
    ·obtain ⟨a3, a4⟩ := bq c6; clear c6; obtain ⟨rfl, rfl⟩ := pE2 H
     go_wp2
     repeat (go_quiet (fail); try go_wp2)
     go_ret2
     exact ⟨_, eW, by first | exact Kd.R_nil _ _ _ _ _ | exact Kd.N_nil _ _ _ _ _ | exact Kd.V_nil _ _ _ _ _ | exact Kd.Q_nil _ _ _ _ _ | exact Kd.S_nil _ _ _ _ _, bO HB.out⟩
    ·obtain ⟨a3, a4⟩ := bn c6
     have bd : ¬ (E = []) := fun h_ => c6 (by rw [h_]; rfl)
     apply iB H <;> clear H <;> intro c7 H
     ·have a5 := dT c7; have a6 : decide (64 < E.length) = true := dT (by omega); clear c7; obtain ⟨rfl, rfl⟩ := pE2 H
      go_wp2
      repeat (go_quiet (fail); try go_wp2)
      go_ret2
      exact ⟨_, eW, by first | exact Kd.R_nil _ _ _ _ _ | exact Kd.N_nil _ _ _ _ _ | exact Kd.V_nil _ _ _ _ _ | exact Kd.Q_nil _ _ _ _ _ | exact Kd.S_nil _ _ _ _ _, bO HB.out⟩
     ·have a5 := decide_eq_false c7; have a6 : decide (64 < E.length) = false := decide_eq_false (by omega); clear c7; have H' := aM H; clear H
      go_wp2
      repeat (go_quiet (fail); try go_wp2)
      go_loopg [6] aX (fun kq v6 w' => ∃ (A : Int), v6 = .int .i64 A ∧ Aside0 (Fkb.l0 kq E N A = some (r1, r2)) ∧ Aside0 (kq ≤ aX) ∧ BA w w')
      case atStart => exact ⟨(0), sI, H', ⟨Nat.le_refl _⟩, bT0 HB⟩
      case round =>
       clear H'
       obtain ⟨A, rfl, HA, aq, HB⟩ := hrel; cases gk with
       | zero => exact absurd HA.out (by simp [Fkb.l0])
       | succ k2 =>
        have H := HA.out; clear HA; simp only [Fkb.l0] at H
        apply iB H <;> clear H <;> intro c8 H
        ·have a7 := dT c8; clear c8
         apply iN H; clear H; intro c9 H; have bf := dT c9; clear c9
         apply iB H <;> clear H <;> intro ae H
         ·have aQ := dT ae; clear ae; obtain ⟨rfl, rfl⟩ := pE2 H; obtain ⟨⟨Z, ac, D⟩, F, G⟩ := xAt (Kd.at_int V.out) A; cases ac; replace D := cX HB D
          go_wp2
          repeat (go_quiet (fail); try go_wp2)
          go_ret2
          exact ⟨_, eW, by first | exact Kd.R_nil _ _ _ _ _ | exact Kd.N_nil _ _ _ _ _ | exact Kd.V_nil _ _ _ _ _ | exact Kd.Q_nil _ _ _ _ _ | exact Kd.S_nil _ _ _ _ _, bO HB.out⟩
         ·have aQ := decide_eq_false ae; clear ae; apply bSx H; clear H; intro O af H
          apply iB H <;> clear H <;> intro ag H
          ·have aR := dT ag; clear ag; obtain ⟨rfl, rfl⟩ := pE2 H; obtain ⟨⟨Z, ac, D⟩, F, G⟩ := xAt (Kd.at_int V.out) A; cases ac; replace D := cX HB D; obtain ⟨⟨ai, am, L⟩, P, Q⟩ := xAt (Kd.at_int V.out) A; obtain rfl := sJJ am; replace L := cX HB L
           go_wp2_with (first | (go_at_call 54; (with_reducible refine (Fl.calls k2 N O _ af.out).mono ?_); rintro e w' ⟨rfl, ⟨nd, rfl⟩⟩; (try exact dN)))
           repeat (go_quiet (first | (go_at_call 54; (with_reducible refine (Fl.calls k2 N O _ af.out).mono ?_); rintro e w' ⟨rfl, ⟨nd, rfl⟩⟩; (try exact dN))); try go_wp2_with (first | (go_at_call 54; (with_reducible refine (Fl.calls k2 N O _ af.out).mono ?_); rintro e w' ⟨rfl, ⟨nd, rfl⟩⟩; (try exact dN))))
           go_ret2
           exact ⟨_, eW, by first | exact Kd.R_nil _ _ _ _ _ | exact Kd.N_nil _ _ _ _ _ | exact Kd.V_nil _ _ _ _ _ | exact Kd.Q_nil _ _ _ _ _ | exact Kd.S_nil _ _ _ _ _, bO HB.out⟩
          ·have aR := decide_eq_false ag; clear ag; have H' := aM H; clear H; obtain ⟨⟨Z, ac, D⟩, F, G⟩ := xAt (Kd.at_int V.out) A; cases ac; replace D := cX HB D; obtain ⟨⟨ai, am, L⟩, P, Q⟩ := xAt (Kd.at_int V.out) A; obtain rfl := sJJ am; replace L := cX HB L
           go_wp2_with (first | (go_at_call 54; (with_reducible refine (Fl.calls k2 N O _ af.out).mono ?_); rintro e w' ⟨rfl, ⟨nd, rfl⟩⟩; (try exact dN)))
           repeat (go_quiet (first | (go_at_call 54; (with_reducible refine (Fl.calls k2 N O _ af.out).mono ?_); rintro e w' ⟨rfl, ⟨nd, rfl⟩⟩; (try exact dN))); try go_wp2_with (first | (go_at_call 54; (with_reducible refine (Fl.calls k2 N O _ af.out).mono ?_); rintro e w' ⟨rfl, ⟨nd, rfl⟩⟩; (try exact dN))))
           go_roundg k2
           case measure => have := HJ2.out; have := aq.out; omega
           case rel => exact ⟨(wrap64 (A + 1)), sI, H', ⟨by have := HJ2.out; have := aq.out; omega⟩, bT0 HB⟩
        ·have a7 := decide_eq_false c8; clear c8; have H' := aM H; clear H
         go_wp2
         repeat (go_quiet (fail); try go_wp2)
         go_loopg [7, 8] k2 (fun kq v7 v8 w' => ∃ (J : List Int) (M : Int), v8 = .int .i64 M ∧ Aside0 (Fkb.l1 kq E N J M = some (r1, r2)) ∧ Aside0 (kq ≤ k2) ∧ RA (Kd.int .i64) 2 w' w v7 J ∧ BA w w')
         case atStart => exact ⟨(([] : List Int)), (0), sI, H', ⟨Nat.le_refl _⟩, ⟨by first | exact Kd.R_nil _ _ _ _ _ | exact Kd.N_nil _ _ _ _ _ | exact Kd.V_nil _ _ _ _ _ | exact Kd.Q_nil _ _ _ _ _ | exact Kd.S_nil _ _ _ _ _⟩, bT0 HB⟩
         case round =>
          clear H'
          obtain ⟨J, M, rfl, HA, ar, B, HB⟩ := hrel; cases gk with
          | zero => exact absurd HA.out (by simp [Fkb.l1])
          | succ k3 =>
           have H := HA.out; clear HA; simp only [Fkb.l1] at H
           apply iB H <;> clear H <;> intro ah H
           ·have aT := dT ah; clear ah; apply bSx H; clear H; intro U aC H; replace H := Option.bind_eq_some_iff.mp H; obtain ⟨⟨I, an⟩, aD, H⟩ := H; replace H : (if J.length < 17592186044416 then (Fkb.l1 k3 E N (J ++ [I]) (wrap64 (M + 1))) else (none)) = some (r1, r2) := H; have aE := aM aD; clear aD
            apply iN H; clear H; intro ao H; have aj := aM ao; clear ao; obtain ⟨a8, aa⟩ : ∃ y_ : List Int, y_ = (J ++ [I]) := ⟨_, rfl⟩
            first | replace H := rI aa H | rw [← aa] at H
            have ak := aM aa; clear aa; have H' := aM H; clear H
            go_wp2_with (first | (go_at_call 56; (with_reducible refine (Fla.calls k3 _ _ E M U _ ?s1 ax.out aC.out).mono ?_); (case s1 => exact cB V HB); rintro e aY ⟨aG, rfl, W, hb⟩; replace B := rB B hb; have z := rW W (bP0 HB); replace HB := hS0 HB hb; obtain ⟨aH, aI, rfl⟩ := sL z) | (go_at_call 55; (with_reducible refine (Fkc.calls k3 _ _ U I an _ ?s1 (rR z).2.1 aE.out).mono ?_); (case s1 => exact cO (rR z).2.2); rintro e aZ ⟨rfl, hb⟩; replace B := rB B hb; replace z := rB z hb; replace HB := hS0 HB hb) | ((with_reducible refine gate_builtin (b := .append) (xs := #[.tmp 58, .tmp 60]) rfl ?_); at_builtin; refine Kd.R_append (Kd.int .i64) (w0 := w) w.heap.size rfl (.tmp 58) (.tmp 60) 28 2 (.int .i64 0) 8 rfl Try.underlying28 info2 rfl (by decide) (by omega) u7 J I [.int .i64 I] (fun _ => True) (fun _ => False) rfl rfl ?aP (fun _ hk => hk.elim) ?aF ?aO ?aB ?aS ?aL ?_; (case aP => exact rfl); (case aB => exact (bP0 HB)); (case aF => exact (fun _ _ => trivial)); (case aO => exact (rP B)); (case aS => exact (below_size (bP0 HB))); (case aL => have := aj.out; omega); intro aJ a2 ho hb hg hat; rw [← ak.out] at ho; replace z := aM (Kd.R_over' (rP z) (Kd.R_typed (rP B)) (by decide) hg); replace HB := aM (hb); have al := aM (ho); clear B; clear ho hb hg hat))
            repeat (go_quiet (first | (go_at_call 56; (with_reducible refine (Fla.calls k3 _ _ E M U _ ?s1 ax.out aC.out).mono ?_); (case s1 => exact cB V HB); rintro e aY ⟨aG, rfl, W, hb⟩; replace B := rB B hb; have z := rW W (bP0 HB); replace HB := hS0 HB hb; obtain ⟨aH, aI, rfl⟩ := sL z) | (go_at_call 55; (with_reducible refine (Fkc.calls k3 _ _ U I an _ ?s1 (rR z).2.1 aE.out).mono ?_); (case s1 => exact cO (rR z).2.2); rintro e aZ ⟨rfl, hb⟩; replace B := rB B hb; replace z := rB z hb; replace HB := hS0 HB hb) | ((with_reducible refine gate_builtin (b := .append) (xs := #[.tmp 58, .tmp 60]) rfl ?_); at_builtin; refine Kd.R_append (Kd.int .i64) (w0 := w) w.heap.size rfl (.tmp 58) (.tmp 60) 28 2 (.int .i64 0) 8 rfl Try.underlying28 info2 rfl (by decide) (by omega) u7 J I [.int .i64 I] (fun _ => True) (fun _ => False) rfl rfl ?aP (fun _ hk => hk.elim) ?aF ?aO ?aB ?aS ?aL ?_; (case aP => exact rfl); (case aB => exact (bP0 HB)); (case aF => exact (fun _ _ => trivial)); (case aO => exact (rP B)); (case aS => exact (below_size (bP0 HB))); (case aL => have := aj.out; omega); intro aJ a2 ho hb hg hat; rw [← ak.out] at ho; replace z := aM (Kd.R_over' (rP z) (Kd.R_typed (rP B)) (by decide) hg); replace HB := aM (hb); have al := aM (ho); clear B; clear ho hb hg hat)); try go_wp2_with (first | (go_at_call 56; (with_reducible refine (Fla.calls k3 _ _ E M U _ ?s1 ax.out aC.out).mono ?_); (case s1 => exact cB V HB); rintro e aY ⟨aG, rfl, W, hb⟩; replace B := rB B hb; have z := rW W (bP0 HB); replace HB := hS0 HB hb; obtain ⟨aH, aI, rfl⟩ := sL z) | (go_at_call 55; (with_reducible refine (Fkc.calls k3 _ _ U I an _ ?s1 (rR z).2.1 aE.out).mono ?_); (case s1 => exact cO (rR z).2.2); rintro e aZ ⟨rfl, hb⟩; replace B := rB B hb; replace z := rB z hb; replace HB := hS0 HB hb) | ((with_reducible refine gate_builtin (b := .append) (xs := #[.tmp 58, .tmp 60]) rfl ?_); at_builtin; refine Kd.R_append (Kd.int .i64) (w0 := w) w.heap.size rfl (.tmp 58) (.tmp 60) 28 2 (.int .i64 0) 8 rfl Try.underlying28 info2 rfl (by decide) (by omega) u7 J I [.int .i64 I] (fun _ => True) (fun _ => False) rfl rfl ?aP (fun _ hk => hk.elim) ?aF ?aO ?aB ?aS ?aL ?_; (case aP => exact rfl); (case aB => exact (bP0 HB)); (case aF => exact (fun _ _ => trivial)); (case aO => exact (rP B)); (case aS => exact (below_size (bP0 HB))); (case aL => have := aj.out; omega); intro aJ a2 ho hb hg hat; rw [← ak.out] at ho; replace z := aM (Kd.R_over' (rP z) (Kd.R_typed (rP B)) (by decide) hg); replace HB := aM (hb); have al := aM (ho); clear B; clear ho hb hg hat)))
            go_roundg k3
            case measure => have := HJ2.out; have := aq.out; have := ar.out; omega
            case rel => exact ⟨(a8), (wrap64 (M + 1)), sI, H', ⟨by have := HJ2.out; have := aq.out; have := ar.out; omega⟩, rQ al, bT0 HB⟩
           ·have aT := decide_eq_false ah; clear ah; obtain ⟨rfl, rfl⟩ := pE2 H
            go_wp2
            repeat (go_quiet (fail); try go_wp2)
            go_ret2
            exact ⟨_, eW, rO B.out, bO HB.out⟩
def Frc.f (k : Nat) (l0_0 : List ByteArray) (l0_1 : List Bool) (l0_2 : List Int) (l0_3 : List (S73)) : Option (List Int × Int) := (Fra.f k l0_0 l0_1 l0_2 l0_3).bind fun bt584 => (if bt584.2.2.2 = true then ((Frb.f k bt584.1 bt584.2.1 bt584.2.2.1).bind fun t595 => (if (t595.length : Int) = 0 then (some (([] : List Int), 190)) else ((Fkb.f k t595 (l0_0.length : Int)).bind fun bt598 => (some (bt598.1, bt598.2))))) else (some (([] : List Int), 3)))
theorem Frc.mono : ∀ a0 a1 a2 a3 k, LeO (Frc.f k a0 a1 a2 a3) (Frc.f (k + 1) a0 a1 a2 a3) := by
 intro a0 a1 a2 a3 k
 unfold Frc.f
 repeat' first | (with_reducible first | exact Fkb.mono _ _ _ | exact Fra.mono _ _ _ _ _ | exact Frb.mono _ _ _ _ | exact lA | apply lI | refine lB ?_ fun _ => ?_) | exact lN _ | apply lI | refine lB ?_ fun _ => ?_
theorem Frc.calls (k : Nat) (Z : Option Addr) (aa : Nat) (G : List ByteArray) (ab : Option Addr) (ac : Nat) (M : List Bool) (ad : Option Addr) (ae : Nat) (O : List Int) (af : Option Addr) (ag : Nat) (P : List (S73)) (r1 : List Int) (r2 : Int) (w : World) (aS : Kd.C Kd.string w Z G.length G) (aT : G.length ≤ aa) (aU : Kd.C Kd.bool w ab M.length M) (aV : M.length ≤ ac) (aW : Kd.C (Kd.int .i64) w ad O.length O) (aX : O.length ≤ ae) (aY : Kd.C k73 w af P.length P) (aZ : P.length ≤ ag) (h : Frc.f k G M O P = some (r1, r2)) :
  Calls Try.prog 10 #[.agg #[.slice Z G.length aa, .slice ab M.length ac, .slice ad O.length ae, .slice af P.length ag]] w fun e w' => ∃ bj : Value, e = .returned (.tuple #[bj, .int .i64 r2]) ∧ Kd.R (Kd.int .i64) 2 w' w.heap.size (fun _ => True) bj r1 ∧ Below w.heap.size w w' := by
 have hu27 := Try.underlying27; have hu45 := Try.underlying45; have au := aM aS; have av := aM aT; clear aS aT; have aw := aM aU; have ax := aM aV; clear aU aV; have ay := aM aW; have az := aM aX; clear aW aX; have aA := aM aY; have aB := aM aZ; clear aY aZ; have HB := aM (Below.refl w.heap.size w); rw [Frc.f] at h; have H := h; clear h; replace H := Option.bind_eq_some_iff.mp H; obtain ⟨⟨Q, I, U, a8⟩, bk, H⟩ := H; replace H : (if a8 = true then ((Frb.f k Q I U).bind fun ah => (if (ah.length : Int) = 0 then (some (([] : List Int), 190)) else ((Fkb.f k ah (G.length : Int)).bind fun a4 => (some (a4.1, a4.2))))) else (some (([] : List Int), 3))) = some (r1, r2) := H; have A2 := aM bk; clear bk
 by_cases c3 : a8 = true
 ·subst c3
  rw [if_pos rfl] at H; apply bSx H; clear H; intro ah A4 H
  apply iB H <;> clear H <;> intro c5 H
  ·obtain ⟨bo, bp⟩ := bq c5; clear c5; obtain ⟨rfl, rfl⟩ := pE2 H
   go_enter Try.func10, Try.ntmps10
   go_wp2_with (first | ((with_reducible refine gate_dst (N := 1) rfl ?_); refine be_ (cs := #[.slice Z G.length aa, .slice ab M.length ac, .slice ad O.length ae, .slice af P.length ag]) (t := 27) ?_; intro al hg w6 a7 hb; have z := aM (a7); have a5 := gE hg (bP0 HB); have A := gE hg (bP0 HB); replace HB := hS0 HB hb; clear hb a7 hg; obtain ⟨cA, cC, cD, cE, cF, cG, cH, cI⟩ := bG4 z) | ((with_reducible refine gate_callee (f := 16) rfl ?_); refine gL_ (some 9) Try.func16 #[.agg #[.slice Z G.length aa, .slice ab M.length ac, .slice ad O.length ae, .slice af P.length ag]] ?_; (with_reducible refine (Fra.calls k _ _ G _ _ M _ _ O _ _ P Q I U true _ ?s1 av.out ?s3 ax.out ?s5 az.out ?s7 aB.out A2.out).mono ?_); (case s1 => exact cB au HB); (case s3 => exact cB aw HB); (case s5 => exact cB ay HB); (case s7 => exact cB aA HB); rintro e w8 ⟨a9, ba, bb, rfl, V, aj, ak, hb⟩; refine ⟨_, rfl, ?_⟩; have B := rW V (bP1 HB A); have F := rW aj (bP1 HB A); have D := aM (Kd.S_lower ak (below_size (bP1 HB A))); replace z := kB z hb; replace HB := hS1 HB A hb) | ((with_reducible refine gate_dst (N := 4) rfl ?_); refine be_ (cs := #[.slice none 0 0, .slice none 0 0, .slice none 0 0]) (t := 45) ?_; intro W hg w9 a7 hb; replace B := rB B hb; replace F := rB F hb; replace D := aM (Kd.S_below (by (with_reducible repeat (first | apply Kd.S_alloc | apply Kd.S_drewN | apply Kd.S_drew)); exact D.out) hb); have E := aM (a7); have a6 := gE hg (bP1 HB A); have L := gE hg (bP1 HB A); replace HB := hS1 HB A hb; have J := nL hg z; have Y := nG hg z; replace z := kB z hb; clear hb a7 hg; obtain ⟨aC, aD, rfl⟩ := sL B; have cL := Y.out; have cM := J.out; obtain ⟨bG, bH, bI, bJ, bK, bL⟩ := bG3 E; obtain ⟨am, an, rfl⟩ := sL F; obtain ⟨aE, aF, bt⟩ := Kd.S_slice D.out; subst bt) | ((with_reducible refine gate_store (t := 45) (p := 4) rfl ?_); refine store_event (t := 45) (p := 4) (v := ?vo_w15) (w1 := (((w9.setCell ⟨W, 0, none⟩ (.slice aC Q.length aD)).setCell ⟨W, 1, none⟩ (.slice am I.length an)).setCell ⟨W, 2, none⟩ (.slice aE U.length aF))) ?hg ?ho ?hn ?hr ?_; (case ho => rfl); (case hg => rfl); (case hn => rfl); (case hr => first | (go_simp; done) | (go_simp; rfl)); intro aq hw; have aK : RA Kd.string 9 aq w (.slice aC Q.length aD) Q := ⟨(by rw [hw]; exact (rZ B E))⟩; have aL : RA Kd.bool 4 aq w (.slice am I.length an) I := ⟨(by rw [hw]; exact (rZ F E))⟩; have aN : Aside0 (Kd.S (Kd.slice 3 (Kd.int .i64)) 24 aq w.heap.size (fun _ => True) (.slice aE U.length aF) U) := ⟨(by rw [hw]; exact (sZ D E))⟩; have aP : Aside0 (aq.heap[al]? = some (.cells #[.slice Z G.length aa, .slice ab M.length ac, .slice ad O.length ae, .slice af P.length ag] 27 (0, 0))) := ⟨(by rw [hw]; exact (kN z J))⟩; have aQ : Aside0 (aq.heap[W]? = some (.cells #[.slice aC Q.length aD, .slice am I.length an, .slice aE U.length aF] 45 (0, 0))) := ⟨(by rw [hw]; exact (by (with_reducible repeat (first | refine blk_drewN ?_ _ | refine blk_drew ?_ | refine blk_alloc ?_ _)); exact blk_put (blk_put (blk_put E.out 0 _ rfl) 1 _ rfl) 2 _ rfl))⟩; have aR : BA w aq := ⟨(by rw [hw]; exact (bP2 HB A L))⟩; clear hw; clear B; clear F; clear D; clear z; clear E; clear HB; have B := aK; have F := aL; have D := aN; have z := aP; have E := aQ; have HB := aR; clear aK aL aN aP aQ aR; obtain ⟨bM, bN, bO, bP, bQ, bR⟩ := bG3 E) | ((with_reducible refine gate_callee (f := 17) rfl ?_); refine gL_ (some 15) Try.func17 #[.agg #[.slice aC Q.length aD, .slice am I.length an, .slice aE U.length aF]] ?_; (with_reducible refine (Frb.calls k _ _ Q (fun k_ => some k_ = (.slice am I.length an : Value).ownBlock) _ _ I _ _ U ah _ ?s1 (rR B).2.1 ?s3 ?s4 ?s5 A4.out).mono ?_); (case s1 => exact cO (rR B).2.2); (case s3 => exact Kd.R_V (Kd.R_tight rfl (Kd.R_types (Kd.R_types (Kd.R_apart' (Kd.R_apart' (F.out) (Kd.R_typed B.out) (by decide)) (Kd.S_typed D.out) (by decide)) z.out (by decide)) E.out (by decide)))); (case s4 => exact cO (Kd.S_reads' D.out).2.2); (case s5 => exact (Kd.S_reads' D.out).2.1); rintro e db ⟨bu, rfl, V, hb⟩; refine ⟨_, rfl, ?_⟩; replace B := rB B hb; replace F := rB F hb; replace D := aM (Kd.S_elder' (by (with_reducible repeat (first | apply Kd.S_alloc | apply Kd.S_drewN | apply Kd.S_drew)); exact D.out) (Kd.R_base V) hb); have ai := rW (Kd.R_mono (ok' := fun k_ => True) V (fun _ hk_ => trivial)) (bP2 HB A L); replace z := kB z hb; replace E := kB E hb; replace HB := hS2 HB A L hb; obtain ⟨cT, cU, rfl⟩ := sL ai))
   go_ret2
   exact ⟨_, eW, by first | exact Kd.R_nil _ _ _ _ _ | exact Kd.N_nil _ _ _ _ _ | exact Kd.V_nil _ _ _ _ _ | exact Kd.Q_nil _ _ _ _ _ | exact Kd.S_nil _ _ _ _ _, bS2 HB.out A.out L.out⟩
  ·obtain ⟨bo, bp⟩ := bn c5
   have cV : ¬ (ah = []) := fun h_ => c5 (by rw [h_]; rfl)
   replace H := Option.bind_eq_some_iff.mp H; obtain ⟨⟨bc, bd⟩, be, H⟩ := H; replace H : (some (bc, bd)) = some (r1, r2) := H; have cJ := aM be; clear be; obtain ⟨rfl, rfl⟩ := pE2 H
   go_enter Try.func10, Try.ntmps10
   go_wp2_with (first | ((with_reducible refine gate_dst (N := 1) rfl ?_); refine be_ (cs := #[.slice Z G.length aa, .slice ab M.length ac, .slice ad O.length ae, .slice af P.length ag]) (t := 27) ?_; intro al hg dc a7 hb; have z := aM (a7); have a5 := gE hg (bP0 HB); have A := gE hg (bP0 HB); replace HB := hS0 HB hb; clear hb a7 hg; obtain ⟨bS, bT, bU, bV, bW, bX, bY, bZ⟩ := bG4 z) | ((with_reducible refine gate_callee (f := 16) rfl ?_); refine gL_ (some 9) Try.func16 #[.agg #[.slice Z G.length aa, .slice ab M.length ac, .slice ad O.length ae, .slice af P.length ag]] ?_; (with_reducible refine (Fra.calls k _ _ G _ _ M _ _ O _ _ P Q I U true _ ?s1 av.out ?s3 ax.out ?s5 az.out ?s7 aB.out A2.out).mono ?_); (case s1 => exact cB au HB); (case s3 => exact cB aw HB); (case s5 => exact cB ay HB); (case s7 => exact cB aA HB); rintro e dd ⟨a9, ba, bb, rfl, V, aj, ak, hb⟩; refine ⟨_, rfl, ?_⟩; have B := rW V (bP1 HB A); have F := rW aj (bP1 HB A); have D := aM (Kd.S_lower ak (below_size (bP1 HB A))); replace z := kB z hb; replace HB := hS1 HB A hb) | ((with_reducible refine gate_dst (N := 4) rfl ?_); refine be_ (cs := #[.slice none 0 0, .slice none 0 0, .slice none 0 0]) (t := 45) ?_; intro W hg cK a7 hb; replace B := rB B hb; replace F := rB F hb; replace D := aM (Kd.S_below (by (with_reducible repeat (first | apply Kd.S_alloc | apply Kd.S_drewN | apply Kd.S_drew)); exact D.out) hb); have E := aM (a7); have a6 := gE hg (bP1 HB A); have L := gE hg (bP1 HB A); replace HB := hS1 HB A hb; have J := nL hg z; have Y := nG hg z; replace z := kB z hb; clear hb a7 hg; obtain ⟨aG, aH, rfl⟩ := sL B; have cN := Y.out; have cP := J.out; obtain ⟨b0, b1, b2, b3, b4, b5⟩ := bG3 E; obtain ⟨ao, ap, rfl⟩ := sL F; obtain ⟨aI, aJ, bz⟩ := Kd.S_slice D.out; subst bz) | ((with_reducible refine gate_store (t := 45) (p := 4) rfl ?_); refine store_event (t := 45) (p := 4) (v := ?vo_w29) (w1 := (((cK.setCell ⟨W, 0, none⟩ (.slice aG Q.length aH)).setCell ⟨W, 1, none⟩ (.slice ao I.length ap)).setCell ⟨W, 2, none⟩ (.slice aI U.length aJ))) ?hg ?ho ?hn ?hr ?_; (case ho => rfl); (case hg => rfl); (case hn => rfl); (case hr => first | (go_simp; done) | (go_simp; rfl)); intro ar hw; have aK : RA Kd.string 9 ar w (.slice aG Q.length aH) Q := ⟨(by rw [hw]; exact (rZ B E))⟩; have aL : RA Kd.bool 4 ar w (.slice ao I.length ap) I := ⟨(by rw [hw]; exact (rZ F E))⟩; have aN : Aside0 (Kd.S (Kd.slice 3 (Kd.int .i64)) 24 ar w.heap.size (fun _ => True) (.slice aI U.length aJ) U) := ⟨(by rw [hw]; exact (sZ D E))⟩; have aP : Aside0 (ar.heap[al]? = some (.cells #[.slice Z G.length aa, .slice ab M.length ac, .slice ad O.length ae, .slice af P.length ag] 27 (0, 0))) := ⟨(by rw [hw]; exact (kN z J))⟩; have aQ : Aside0 (ar.heap[W]? = some (.cells #[.slice aG Q.length aH, .slice ao I.length ap, .slice aI U.length aJ] 45 (0, 0))) := ⟨(by rw [hw]; exact (by (with_reducible repeat (first | refine blk_drewN ?_ _ | refine blk_drew ?_ | refine blk_alloc ?_ _)); exact blk_put (blk_put (blk_put E.out 0 _ rfl) 1 _ rfl) 2 _ rfl))⟩; have aR : BA w ar := ⟨(by rw [hw]; exact (bP2 HB A L))⟩; clear hw; clear B; clear F; clear D; clear z; clear E; clear HB; have B := aK; have F := aL; have D := aN; have z := aP; have E := aQ; have HB := aR; clear aK aL aN aP aQ aR; obtain ⟨b6, b7, b8, b9, ca, cb⟩ := bG3 E) | ((with_reducible refine gate_callee (f := 17) rfl ?_); refine gL_ (some 15) Try.func17 #[.agg #[.slice aG Q.length aH, .slice ao I.length ap, .slice aI U.length aJ]] ?_; (with_reducible refine (Frb.calls k _ _ Q (fun k_ => some k_ = (.slice ao I.length ap : Value).ownBlock) _ _ I _ _ U ah _ ?s1 (rR B).2.1 ?s3 ?s4 ?s5 A4.out).mono ?_); (case s1 => exact cO (rR B).2.2); (case s3 => exact Kd.R_V (Kd.R_tight rfl (Kd.R_types (Kd.R_types (Kd.R_apart' (Kd.R_apart' (F.out) (Kd.R_typed B.out) (by decide)) (Kd.S_typed D.out) (by decide)) z.out (by decide)) E.out (by decide)))); (case s4 => exact cO (Kd.S_reads' D.out).2.2); (case s5 => exact (Kd.S_reads' D.out).2.1); rintro e de ⟨bu, rfl, V, hb⟩; refine ⟨_, rfl, ?_⟩; replace B := rB B hb; replace F := rB F hb; replace D := aM (Kd.S_elder' (by (with_reducible repeat (first | apply Kd.S_alloc | apply Kd.S_drewN | apply Kd.S_drew)); exact D.out) (Kd.R_base V) hb); have ai := rW (Kd.R_mono (ok' := fun k_ => True) V (fun _ hk_ => trivial)) (bP2 HB A L); replace z := kB z hb; replace E := kB E hb; replace HB := hS2 HB A L hb; obtain ⟨bA, bB, rfl⟩ := sL ai; obtain ⟨cc, cd, ce, cf, cg, ch, ci, cj⟩ := bG4 z) | ((with_reducible refine gate_callee (f := 27) rfl ?_); refine gL_ (some 23) Try.func27 #[.slice bA ah.length bB, .int .i64 (G.length : Int)] ?_; (with_reducible refine (Fkb.calls k _ _ ah (G.length : Int) bc bd _ ?s1 (rR ai).2.1 cJ.out).mono ?_); (case s1 => exact cO (rR ai).2.2); rintro e df ⟨cW, rfl, V, hb⟩; refine ⟨_, rfl, ?_⟩; replace B := rB B hb; replace F := rB F hb; replace D := aM (Kd.S_below (by (with_reducible repeat (first | apply Kd.S_alloc | apply Kd.S_drewN | apply Kd.S_drew)); exact D.out) hb); replace ai := rB ai hb; have bi := rW V (bP2 HB A L); replace z := kB z hb; replace E := kB E hb; replace HB := hS2 HB A L hb))
   go_ret2
   exact ⟨_, eW, rO bi.out, bS2 HB.out A.out L.out⟩
 ·replace c3 := Bool.eq_false_iff.mpr c3; subst c3
  rw [if_neg nF] at H; obtain ⟨rfl, rfl⟩ := pE2 H
  go_enter Try.func10, Try.ntmps10
  go_wp2_with (first | ((with_reducible refine gate_dst (N := 1) rfl ?_); refine be_ (cs := #[.slice Z G.length aa, .slice ab M.length ac, .slice ad O.length ae, .slice af P.length ag]) (t := 27) ?_; intro al hg dg a7 hb; have z := aM (a7); have a5 := gE hg (bP0 HB); have A := gE hg (bP0 HB); replace HB := hS0 HB hb; clear hb a7 hg; obtain ⟨ck, cl, cm, cn, co, cp, cq, cr⟩ := bG4 z) | ((with_reducible refine gate_callee (f := 16) rfl ?_); refine gL_ (some 9) Try.func16 #[.agg #[.slice Z G.length aa, .slice ab M.length ac, .slice ad O.length ae, .slice af P.length ag]] ?_; (with_reducible refine (Fra.calls k _ _ G _ _ M _ _ O _ _ P Q I U false _ ?s1 av.out ?s3 ax.out ?s5 az.out ?s7 aB.out A2.out).mono ?_); (case s1 => exact cB au HB); (case s3 => exact cB aw HB); (case s5 => exact cB ay HB); (case s7 => exact cB aA HB); rintro e dh ⟨a9, ba, bb, rfl, V, aj, ak, hb⟩; refine ⟨_, rfl, ?_⟩; have B := rW V (bP1 HB A); have F := rW aj (bP1 HB A); have D := aM (Kd.S_lower ak (below_size (bP1 HB A))); replace z := kB z hb; replace HB := hS1 HB A hb) | ((with_reducible refine gate_dst (N := 4) rfl ?_); refine be_ (cs := #[.slice none 0 0, .slice none 0 0, .slice none 0 0]) (t := 45) ?_; intro W hg di a7 hb; replace B := rB B hb; replace F := rB F hb; replace D := aM (Kd.S_below (by (with_reducible repeat (first | apply Kd.S_alloc | apply Kd.S_drewN | apply Kd.S_drew)); exact D.out) hb); have E := aM (a7); have a6 := gE hg (bP1 HB A); have L := gE hg (bP1 HB A); replace HB := hS1 HB A hb; have J := nL hg z; have Y := nG hg z; replace z := kB z hb; clear hb a7 hg; obtain ⟨cX, cY, rfl⟩ := sL B; have cQ := Y.out; have cR := J.out; obtain ⟨ct, cu, cv, cw, cx, cy⟩ := bG3 E; obtain ⟨cZ, c2, rfl⟩ := sL F; obtain ⟨c9, da, bF⟩ := Kd.S_slice D.out; subst bF))
  go_ret2
  exact ⟨_, eW, by first | exact Kd.R_nil _ _ _ _ _ | exact Kd.N_nil _ _ _ _ _ | exact Kd.V_nil _ _ _ _ _ | exact Kd.Q_nil _ _ _ _ _ | exact Kd.S_nil _ _ _ _ _, bS2 HB.out A.out L.out⟩
def Fha.l0 : Nat → List Int → List Int → Int → Int → Option (Bool)
 | 0, _, _, _, _ => none
 | k + 1, x0, x1, x12, x13 => if x13 < x12 then (if 0 ≤ x13 then (if x13 < (x0.length : Int) then (if x13 < (x1.length : Int) then (if (rd x0 x13) = (rd x1 x13) then (Fha.l0 k x0 x1 x12 (wrap64 (x13 + 1))) else (some false)) else (none)) else (none)) else (none)) else (some true)
def Fha.f (k : Nat) (l0 : List Int) (l1 : List Int) : Option (Bool) := if (l0.length : Int) = (l1.length : Int) then (Fha.l0 k l0 l1 (l0.length : Int) 0) else (some false)
theorem Fha.mono_l : ∀ k, (∀ y0 y1 y2 y3, LeO (Fha.l0 k y0 y1 y2 y3) (Fha.l0 (k + 1) y0 y1 y2 y3))
 | 0 => fun _ _ _ _ r h => by simp [Fha.l0] at h
 | k + 1 => by
  have ih0 := Fha.mono_l k
  ·intro y0 y1 y2 y3
   unfold Fha.l0
   repeat' first | (with_reducible first | exact ih0 _ _ _ _ | exact lA | apply lI | refine lB ?_ fun _ => ?_) | exact lN _ | apply lI | refine lB ?_ fun _ => ?_
theorem Fha.mono : ∀ a0 a1 k, LeO (Fha.f k a0 a1) (Fha.f (k + 1) a0 a1) := by
 intro a0 a1 k; have ih0 := Fha.mono_l k
 unfold Fha.f
 repeat' first | (with_reducible first | exact ih0 _ _ _ _ | exact lA | apply lI | refine lB ?_ fun _ => ?_) | exact lN _ | apply lI | refine lB ?_ fun _ => ?_
theorem Fha.calls (k : Nat) (A0 : Option Addr) (c0 : Nat) (A : List Int) (A1 : Option Addr) (c1 : Nat) (G : List Int) (r : Bool) (w : World) (aa : Kd.C (Kd.int .i64) w A0 A.length A) (ab : A.length ≤ c0) (ac : Kd.C (Kd.int .i64) w A1 G.length G) (ad : G.length ≤ c1) (h : Fha.f k A G = some r) :
  Calls Try.prog 18 #[.slice A0 A.length c0, .slice A1 G.length c1] w fun e w' => e = .returned (.bool r) ∧ Drawn0 w w' := by
 have ae := aM aa; have aw := aM ab; clear aa ab; have af := aM ac; have ax := aM ad; clear ac ad; rw [Fha.f] at h; have H := h; clear h
 apply iB H <;> clear H <;> intro I H
 ·obtain ⟨ag, ah⟩ := bq I
  have ai : (A.length == G.length) = true := by first | simpa using I | (simp at I ⊢; omega)
  clear I; have H' := aM H; clear H
  go_enter Try.func18, Try.ntmps18
  go_wp2
  repeat (go_quiet (fail); try go_wp2)
  go_loopg [13] k (fun kq aq w' => ∃ (z : Int), aq = .int .i64 z ∧ Aside0 (Fha.l0 kq A G (A.length : Int) z = some r) ∧ Aside0 (kq ≤ k) ∧ Drawn0 w w')
  case atStart => exact ⟨(0), sI, H', ⟨Nat.le_refl _⟩, dRw⟩
  case round =>
   clear H'
   obtain ⟨z, rfl, HA, bf, ⟨m1, rfl⟩⟩ := hrel; cases gk with
   | zero => exact absurd HA.out (by simp [Fha.l0])
   | succ k1 =>
    have H := HA.out; clear HA; simp only [Fha.l0] at H
    apply iB H <;> clear H <;> intro M H
    ·have aj := dT M; clear M
     apply iN H; clear H; intro U H; have ar := dT U; clear U
     apply iN H; clear H; intro V H; have au := dT V; clear V
     apply iN H; clear H; intro W H; have av := dT W; clear W
     apply iB H <;> clear H <;> intro Q H
     ·obtain ⟨ak, al⟩ := bq Q; clear Q; have H' := aM H; clear H; obtain ⟨⟨Y, J, O⟩, B, D⟩ := xAt (Kd.at_int ae.out) z; cases J; obtain ⟨⟨Z, L, P⟩, E, F⟩ := xAt (Kd.at_int af.out) z; cases L
      go_wp2
      repeat (go_quiet (fail); try go_wp2)
      go_roundg k1
      case measure => have := bf.out; omega
      case rel => exact ⟨(wrap64 (z + 1)), sI, H', ⟨by have := bf.out; omega⟩, dRw⟩
     ·obtain ⟨ak, al⟩ := bn Q; obtain rfl := Option.some.inj H; obtain ⟨⟨Y, J, O⟩, B, D⟩ := xAt (Kd.at_int ae.out) z; cases J; obtain ⟨⟨Z, L, P⟩, E, F⟩ := xAt (Kd.at_int af.out) z; cases L
      go_wp2
      repeat (go_quiet (fail); try go_wp2)
      go_ret
      exact ⟨eVl, dRw⟩
    ·have aj := decide_eq_false M; clear M; obtain rfl := Option.some.inj H
     go_wp2
     repeat (go_quiet (fail); try go_wp2)
     go_ret
     exact ⟨eVl, dRw⟩
 ·obtain ⟨ag, ah⟩ := bn I
  have ai : (A.length == G.length) = false := by first | simpa using I | (simp at I ⊢; omega)
  obtain rfl := Option.some.inj H
  go_enter Try.func18, Try.ntmps18
  go_wp2
  repeat (go_quiet (fail); try go_wp2)
  go_ret
  exact ⟨eVl, dRw⟩
def Fpa.l0 : Nat → Int → Int → Int → Option (Int)
 | 0, _, _, _ => none
 | k + 1, x0, x3, x4 => if x4 ≤ 6 then (if x3 = x0 then (some x4) else (Fpa.l0 k x0 (wrap64 (x3 * 2)) (wrap64 (x4 + 1)))) else (some (-1))
def Fpa.f (k : Nat) (a0 : Int) : Option (Int) := Fpa.l0 k a0 1 0
theorem Fpa.mono_l : ∀ k, (∀ y0 y1 y2, LeO (Fpa.l0 k y0 y1 y2) (Fpa.l0 (k + 1) y0 y1 y2))
 | 0 => fun _ _ _ r h => by simp [Fpa.l0] at h
 | k + 1 => by
  have ih0 := Fpa.mono_l k
  ·intro y0 y1 y2
   unfold Fpa.l0
   repeat' first | (with_reducible first | exact ih0 _ _ _ | exact lA | apply lI | refine lB ?_ fun _ => ?_) | exact lN _ | apply lI | refine lB ?_ fun _ => ?_
theorem Fpa.mono : ∀ a0 k, LeO (Fpa.f k a0) (Fpa.f (k + 1) a0) := by
 intro a0 k; have ih0 := Fpa.mono_l k
 unfold Fpa.f
 repeat' first | (with_reducible first | exact ih0 _ _ _ | exact lA | apply lI | refine lB ?_ fun _ => ?_) | exact lN _ | apply lI | refine lB ?_ fun _ => ?_
theorem Fpa.calls (k : Nat) (E : Int) (r : Int) (w : World) (h : Fpa.f k E = some r) :
  Calls Try.prog 107 #[.int .i64 E] w fun e w' => e = .returned (.int .i64 r) ∧ Drawn0 w w' := by
 rw [Fpa.f] at h; have H := h; clear h; have H' := aM H; clear H
 go_enter Try.func107, Try.ntmps107
 go_wp2
 go_loopg [3, 4] k (fun kq J L w' => ∃ (z : Int) (A : Int), J = .int .i64 z ∧ L = .int .i64 A ∧ Aside0 (Fpa.l0 kq E z A = some r) ∧ Aside0 (kq ≤ k) ∧ Drawn0 w w')
 case atStart => exact ⟨(1), (0), sI, sI, H', ⟨Nat.le_refl _⟩, dRw⟩
 case round =>
  clear H'
  obtain ⟨z, A, rfl, rfl, HA, ab, ⟨m1, rfl⟩⟩ := hrel; cases gk with
  | zero => exact absurd HA.out (by simp [Fpa.l0])
  | succ k1 =>
   have H := HA.out; clear HA; simp only [Fpa.l0] at H
   apply iB H <;> clear H <;> intro B H
   ·have F := dT B; clear B
    apply iB H <;> clear H <;> intro D H
    ·obtain ⟨G, I⟩ := bq D; clear D; obtain rfl := Option.some.inj H
     go_wp2
     go_ret
     exact ⟨eVl, dRw⟩
    ·obtain ⟨G, I⟩ := bn D; have H' := aM H; clear H
     go_wp2
     go_roundg k1
     case measure => have := ab.out; omega
     case rel => exact ⟨(wrap64 (z * 2)), (wrap64 (A + 1)), sI, sI, H', ⟨by have := ab.out; omega⟩, dRw⟩
   ·have F := decide_eq_false B; clear B; obtain rfl := Option.some.inj H
    go_wp2
    go_ret
    exact ⟨eVl, dRw⟩
def Fp.l0 : Nat → List Int → Int → Option (Bool)
 | 0, _, _ => none
 | k + 1, x0, x3 => if x3 < (x0.length : Int) then (if 0 ≤ x3 then (if (rd x0 x3) < 0 then (some false) else (Fp.l0 k x0 (wrap64 (x3 + 1)))) else (none)) else (some true)
def Fp.f (k : Nat) (l0 : List Int) : Option (Bool) := (Fpa.f k (l0.length : Int)).bind fun t604 => (if t604 < 0 then (some false) else (Fp.l0 k l0 0))
theorem Fp.mono_l : ∀ k, (∀ y0 y1, LeO (Fp.l0 k y0 y1) (Fp.l0 (k + 1) y0 y1))
 | 0 => fun _ _ r h => by simp [Fp.l0] at h
 | k + 1 => by
  have ih0 := Fp.mono_l k
  ·intro y0 y1
   unfold Fp.l0
   repeat' first | (with_reducible first | exact ih0 _ _ | exact Fpa.mono _ _ | exact lA | apply lI | refine lB ?_ fun _ => ?_) | exact lN _ | apply lI | refine lB ?_ fun _ => ?_
theorem Fp.mono : ∀ a0 k, LeO (Fp.f k a0) (Fp.f (k + 1) a0) := by
 intro a0 k; have ih0 := Fp.mono_l k
 unfold Fp.f
 repeat' first | (with_reducible first | exact ih0 _ _ | exact Fpa.mono _ _ | exact lA | apply lI | refine lB ?_ fun _ => ?_) | exact lN _ | apply lI | refine lB ?_ fun _ => ?_
theorem Fp.calls (k : Nat) (Z : Option Addr) (c0 : Nat) (D : List Int) (r : Bool) (w : World) (O : Kd.C (Kd.int .i64) w Z D.length D) (P : D.length ≤ c0) (h : Fp.f k D = some r) :
  Calls Try.prog 91 #[.slice Z D.length c0] w fun e w' => e = .returned (.bool r) ∧ Drawn0 w w' := by
 have Q := aM O; have ae := aM P; clear O P; rw [Fp.f] at h; have H := h; clear h; apply bSx H; clear H; intro E A2 H
 apply iB H <;> clear H <;> intro G H
 ·have V := dT G; clear G; obtain rfl := Option.some.inj H
  go_enter Try.func91, Try.ntmps91
  go_wp2_with (first | ((with_reducible refine gate_callee (f := 107) rfl ?_); refine gL_ (some 6) Try.func107 #[.int .i64 (D.length : Int)] ?_; (with_reducible refine (Fpa.calls k (D.length : Int) E _ A2.out).mono ?_); rintro e w' ⟨rfl, ⟨nd, rfl⟩⟩; refine ⟨_, rfl, ?_⟩))
  go_ret
  exact ⟨eVl, dRw⟩
 ·have V := decide_eq_false G; clear G; have H' := aM H; clear H
  go_enter Try.func91, Try.ntmps91
  go_wp2_with (first | ((with_reducible refine gate_callee (f := 107) rfl ?_); refine gL_ (some 6) Try.func107 #[.int .i64 (D.length : Int)] ?_; (with_reducible refine (Fpa.calls k (D.length : Int) E _ A2.out).mono ?_); rintro e w' ⟨rfl, ⟨nd, rfl⟩⟩; refine ⟨_, rfl, ?_⟩))
  go_loopg [3] k (fun kq v3 w' => ∃ (z : Int), v3 = .int .i64 z ∧ Aside0 (Fp.l0 kq D z = some r) ∧ Aside0 (kq ≤ k) ∧ Drawn0 w w')
  case atStart => exact ⟨(0), sI, H', ⟨Nat.le_refl _⟩, dRw⟩
  case round =>
   clear H'
   obtain ⟨z, rfl, HA, ab, ⟨m1, rfl⟩⟩ := hrel; cases gk with
   | zero => exact absurd HA.out (by simp [Fp.l0])
   | succ k1 =>
    have H := HA.out; clear HA; simp only [Fp.l0] at H
    apply iB H <;> clear H <;> intro I H
    ·have W := dT I; clear I
     apply iN H; clear H; intro M H; have ad := dT M; clear M
     apply iB H <;> clear H <;> intro J H
     ·have Y := dT J; clear J; obtain rfl := Option.some.inj H; obtain ⟨⟨N, F, L⟩, A, B⟩ := xAt (Kd.at_int Q.out) z; cases F
      go_wp2
      go_ret
      exact ⟨eVl, dRw⟩
     ·have Y := decide_eq_false J; clear J; have H' := aM H; clear H; obtain ⟨⟨N, F, L⟩, A, B⟩ := xAt (Kd.at_int Q.out) z; cases F
      go_wp2
      go_roundg k1
      case measure => have := ab.out; omega
      case rel => exact ⟨(wrap64 (z + 1)), sI, H', ⟨by have := ab.out; omega⟩, dRw⟩
    ·have W := decide_eq_false I; clear I; obtain rfl := Option.some.inj H
     go_wp2
     go_ret
     exact ⟨eVl, dRw⟩
def Fob.f (k : Nat) (l0 : List Int) : Option ((List (S73)) × Int) := (Fp.f k l0).bind fun t606 => (if t606 = true then ((Foa.f k l0 0 0).bind fun t607 => (some (t607, 0))) else (some (([] : List (S73)), 3)))
theorem Fob.mono : ∀ a0 k, LeO (Fob.f k a0) (Fob.f (k + 1) a0) := by
 intro a0 k
 unfold Fob.f
 repeat' first | (with_reducible first | exact Foa.mono _ _ _ _ | exact Fp.mono _ _ | exact lA | apply lI | refine lB ?_ fun _ => ?_) | exact lN _ | apply lI | refine lB ?_ fun _ => ?_
theorem Fob.calls (k : Nat) (A : Option Addr) (B : Nat) (z : List Int) (U : List (S73)) (V : Int) (w : World) (I : Kd.C (Kd.int .i64) w A z.length z) (J : z.length ≤ B) (h : Fob.f k z = some (U, V)) :
  Calls Try.prog 78 #[.slice A z.length B] w fun e w' => ∃ L : Value, e = .returned (.tuple #[L, .int .i64 V]) ∧ Kd.R k73 73 w' w.heap.size (fun _ => True) L U ∧ Below w.heap.size w w' := by
 have D := aM I; have E := aM J; clear I J; have HB := aM (Below.refl w.heap.size w); rw [Fob.f] at h; have H := h; clear h; apply bSx H; clear H; intro P W H
 by_cases F : P = true
 ·subst F
  rw [if_pos rfl] at H; apply bSx H; clear H; intro Q Y H; obtain ⟨rfl, rfl⟩ := pE2 H
  go_enter Try.func78, Try.ntmps78
  go_wp2_with (first | ((with_reducible refine gate_callee (f := 91) rfl ?_); refine gL_ (some 5) Try.func91 #[.slice A z.length B] ?_; (with_reducible refine (Fp.calls k _ _ z true _ ?s1 E.out W.out).mono ?_); (case s1 => exact cO D.out); rintro e w' ⟨rfl, ⟨nd, rfl⟩⟩; refine ⟨_, rfl, ?_⟩) | ((with_reducible refine gate_callee (f := 64) rfl ?_); refine gL_ (some 8) Try.func64 #[.slice A z.length B, .int .i64 0, .int .i64 0] ?_; (with_reducible refine (Foa.calls k _ _ z 0 0 Q _ ?s1 E.out Y.out).mono ?_); (case s1 => exact cO D.out); rintro e w5 ⟨Z, rfl, O, hb⟩; refine ⟨_, rfl, ?_⟩; have G := rW O (bP0 HB); replace HB := hS0 HB hb))
  go_ret2
  exact ⟨_, eW, rO G.out, bO HB.out⟩
 ·replace F := Bool.eq_false_iff.mpr F; subst F
  rw [if_neg nF] at H; obtain ⟨rfl, rfl⟩ := pE2 H
  go_enter Try.func78, Try.ntmps78
  go_wp2_with (first | ((with_reducible refine gate_callee (f := 91) rfl ?_); refine gL_ (some 5) Try.func91 #[.slice A z.length B] ?_; (with_reducible refine (Fp.calls k _ _ z false _ ?s1 E.out W.out).mono ?_); (case s1 => exact cO D.out); rintro e w' ⟨rfl, ⟨nd, rfl⟩⟩; refine ⟨_, rfl, ?_⟩))
  go_ret2
  exact ⟨_, eW, by first | exact Kd.R_nil _ _ _ _ _ | exact Kd.N_nil _ _ _ _ _ | exact Kd.V_nil _ _ _ _ _ | exact Kd.Q_nil _ _ _ _ _ | exact Kd.S_nil _ _ _ _ _, bO HB.out⟩
end Go.Proofs.Ytninoenmhcbonaa.X

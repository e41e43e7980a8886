/- Functions of the seat, printed, and that the program's calls come to them; no condition. -/
import Derived.Test.YthgoonohpfoagaaX0
import Derived.Test.YthgoonohpfoagaaX76
import Derived.Test.YthgoonohpfoagaaX82
namespace Go.Proofs.Ythgoonohpfoagaa.X
open Go.RowKit Go.Proofs.YthgoonohpfoagaaW.PrintWords Go.Proofs.YthgoonohpfoagaaW.PrintLast Go.Proofs.YthgoonohpfoagaaW.PrintMore
attribute [local go_sem] max2_int min2_int max_two min_two max_three min_three max_four min_four
set_option linter.unusedVariables false
set_option linter.unusedSimpArgs false
set_option maxHeartbeats 8000000
set_option maxRecDepth 100000

def Fob.l0 : Nat → List Int → Int → Int → Bool → List Int → Option (Bool × List Int)
 | 0, _, _, _, _, _ => none
 | k + 1, x0, x1, x6, x332000, x332001 => if x6 < (x0.length : Int) then (if (Int.tmod x1 2) = 1 then (if 0 ≤ x6 then ((Fh.f k (rd x0 x6)).bind fun bt333 => ((Fha.f k x332000 x332001 bt333.1 bt333.2).bind fun bt337 => (Fob.l0 k x0 (wrap64 (Int.tdiv x1 2)) (wrap64 (x6 + 1)) bt337.1 bt337.2))) else (none)) else (Fob.l0 k x0 (wrap64 (Int.tdiv x1 2)) (wrap64 (x6 + 1)) x332000 x332001)) else (some (x332000, x332001))
def Fob.f (k : Nat) (l0 : List Int) (a1 : Int) : Option (Bool × List Int) := (Fh.f k 0).bind fun bt327 => (Fob.l0 k l0 a1 0 bt327.1 bt327.2)
theorem Fob.mono_l : ∀ k, (∀ y0 y1 y2 y3 y4, LeO (Fob.l0 k y0 y1 y2 y3 y4) (Fob.l0 (k + 1) y0 y1 y2 y3 y4))
 | 0 => fun _ _ _ _ _ r h => by simp [Fob.l0] at h
 | k + 1 => by
  have ih0 := Fob.mono_l k
  ·intro y0 y1 y2 y3 y4
   unfold Fob.l0
   repeat' first | (with_reducible first | exact ih0 _ _ _ _ _ | exact Fh.mono _ _ | exact Fha.mono _ _ _ _ _ | exact lA | apply lI | refine lB ?_ fun _ => ?_) | exact lN _ | apply lI | refine lB ?_ fun _ => ?_
theorem Fob.mono : ∀ a0 a1 k, LeO (Fob.f k a0 a1) (Fob.f (k + 1) a0 a1) := by
 intro a0 a1 k; have ih0 := Fob.mono_l k
 unfold Fob.f
 repeat' first | (with_reducible first | exact ih0 _ _ _ _ _ | exact Fh.mono _ _ | exact Fha.mono _ _ _ _ _ | exact lA | apply lI | refine lB ?_ fun _ => ?_) | exact lN _ | apply lI | refine lB ?_ fun _ => ?_
def Fob.T6 : Bool × List (List Nat × List Nat) := (true, [([], []), ([], []), ([], []), ([1, 2], [1, 2]), ([3], [3]), ([4], [4]), ([0, 5, 5], [0, 5]), ([6, 6, 0, 1, 2, 3, 4, 5, 6], [6])])
def Fob.B6 : List Nat := [0, 0, 0, 6, 14, 30, 63, 127]
theorem Fob.tab6 : rtab .any (opsOf Try.f30 6) = Fob.T6 := by kernel_rfl
theorem Fob.bits6 : waitsOk Fob.T6.2 Fob.B6 = true := by kernel_rfl
theorem Fob.calls (k : Nat) (A0 : Option Addr) (c0 : Nat) (W : List Int) (a1 : Int) (r1 : Bool) (r2 : List Int) (w : World) (aP : Kd.C (Kd.int .i64) w A0 W.length W) (aQ : W.length ≤ c0) (h : Fob.f k W a1 = some (r1, r2)) :
  Calls Try.prog 30 #[.slice A0 W.length c0, .int .i64 a1] w fun e w' => ∃ aR : Value, e = .returned (.agg #[.bool r1, aR]) ∧ Kd.V (Kd.int .u64) 115 w' w.heap.size (fun k_ => (w.heap.size ≤ k_)) aR r2 ∧ Below w.heap.size w w' := by
 have hu73 := Try.underlying73; have bc := aM aP; have bC := aM aQ; clear aP aQ; have HB := aM (Qg w.heap.size w); rw [Fob.f] at h; have H := h; clear h; replace H := QZ H; obtain ⟨⟨ag, ad⟩, aS, H⟩ := H; replace H : (Fob.l0 k W a1 0 ag ad) = some (r1, r2) := H; have A3 := aM aS; clear aS; have H' := aM H; clear H
 go_enter Try.func30, Try.ntmps30
 go_wp2_with (first | ((with_reducible refine Qa (N := 4) rfl ?_); refine be_ (cs := #[.bool false, .slice none 0 0]) (t := 73) ?_; intro J hg w4 al hb; have D := aM (al); have bm := gE hg (bP0 HB); have G := gE hg (bP0 HB); replace HB := hS0 HB hb; clear hb al hg) | ((with_reducible refine Qb (f := 53) rfl ?_); refine gL_ (some 7) Try.func53 #[.int .i64 0] ?_; (with_reducible refine (Fh.calls k 0 ag ad _ A3.out).mono ?_); rintro e w5 ⟨bu, rfl, Z, hb⟩; refine ⟨_, rfl, ?_⟩; have ac := aM (Qp (QQ (ok' := fun k_ => (w.heap.size ≤ k_) ∧ k_ ≠ J) Z (fun k_ hk_ => ⟨(Nat.le_trans (Qv (bP1 HB G)) hk_), (Qq (g := J) (o := .cells #[.bool false, .slice none 0 0] 73 (0, 0)) (kO D.out) k_ hk_)⟩)) (Qv (bP1 HB G))); replace D := kB D hb; replace HB := hS1 HB G hb; (try clear hb); (try clear Z)) | ((with_reducible refine Qa (N := 5) rfl ?_); refine be_ (cs := #[.bool false, .slice none 0 0]) (t := 73) ?_; intro F hg w6 al hb; replace ac := aM (QX (Qr (vO ac.out) F (Qd hg.symm)) hb); have z := aM (al); have bo := gE hg (bP1 HB G); have M := gE hg (bP1 HB G); replace HB := hS1 HB G hb; have L := nL hg D; have Q := nG hg D; replace D := kB D hb; clear hb al hg; have bv := Q.out; have bw := L.out; obtain ⟨bd, be, bf, bg⟩ := bG2 z; obtain ⟨aT, aU, bh⟩ := Qh ac.out; subst bh))
 go_loopg [1, 6] k (fun kq v1 v6 w' => ∃ (R : Int) (I : Int) (A : Bool) (E : List Int) (O : Value), v1 = .int .i64 R ∧ v6 = .int .i64 I ∧ Aside0 (Fob.l0 kq W R I A E = some (r1, r2)) ∧ Aside0 (kq ≤ k) ∧ Aside0 (Kd.V (Kd.int .u64) 115 w' w.heap.size (fun k_ => (w.heap.size ≤ k_) ∧ k_ ≠ J ∧ k_ ≠ F) O E) ∧ Aside0 (w'.heap[J]? = some (.cells #[.bool false, (.slice none 0 0)] 73 (0, 0))) ∧ Aside0 (w'.heap[F]? = some (.cells #[.bool A, O] 73 (0, 0))) ∧ BA w w')
 case atStart => exact ⟨(a1), (0), (ag), (ad), (.slice aT ad.length aU), sI, sI, H', ⟨Nat.le_refl _⟩, ⟨by (with_reducible repeat (first | apply QV | apply QU | apply QJ)); exact QQ (QY (p := ⟨F, 1, none⟩) (QY (p := ⟨F, 0, none⟩) (QQ ac.out (fun k_ hk => (⟨hk, hk.2⟩ : _ ∧ k_ ≠ F))) (fun _ hk => hk.2) (.bool ag)) (fun _ hk => hk.2) (.slice aT ad.length aU)) (fun _ hk => ⟨hk.1.1.1, ⟨hk.1.1.2, hk.1.2⟩⟩)⟩, ⟨kN D L⟩, ⟨by (with_reducible repeat (first | refine Qj ?_ _ | refine Qu ?_ | refine Qz ?_ _)); exact Qy (Qy z.out 0 _ rfl) 1 _ rfl⟩, bT2 HB G M⟩
 case round =>
  clear H'
  obtain ⟨R, I, A, E, O, rfl, rfl, HA, am, B, D, z, HB⟩ := hrel; cases gk with
  | zero => exact absurd HA.out (by simp [Fob.l0])
  | succ k1 =>
   have H := HA.out; clear HA; simp only [Fob.l0] at H
   apply iB H <;> clear H <;> intro af H
   ·have aJ := dT af; clear af
    apply iB H <;> clear H <;> intro ak H
    ·obtain ⟨aK, aL⟩ := bq ak; clear ak
     apply iN H; clear H; intro au H; have bp := dT au; clear au; replace H := QZ H; obtain ⟨⟨ah, ai⟩, az, H⟩ := H; replace H : ((Fha.f k1 A E ah ai).bind fun av => (Fob.l0 k1 W (wrap64 (Int.tdiv R 2)) (wrap64 (I + 1)) av.1 av.2)) = some (r1, r2) := H; have bi := aM az; clear az; replace H := QZ H; obtain ⟨⟨aj, ae⟩, aA, H⟩ := H; replace H : (Fob.l0 k1 W (wrap64 (Int.tdiv R 2)) (wrap64 (I + 1)) aj ae) = some (r1, r2) := H; have bj := aM aA; clear aA; have H' := aM H; clear H
     try go_wp2
     replace B := aM (QJ B.out); replace D := kD D; replace z := kD z; replace HB := aM (below_drew1 HB.out); have ao : 0 ≤ (I : Int) := oT aO; have ap : I < (W.length : Int) := oT aO; obtain ⟨aN, aW, U⟩ := Kd.at_int bc.out I ao ap; have P := U; cases aW; replace U := cX HB U; replace ao := eq_true ao; replace ap := eq_true ap; refine start_ (n := 8) (S := fun w' => w'.cell? ⟨F, 0, none⟩ = some (.bool A) ∧ w'.cell? ⟨F, 1, none⟩ = some (O) ∧ w'.cell? (aN.add (I).toNat) = some (.int .i64 (rd W I))) (ds := [7]) (bl 8 0) (by kernel_rfl) rfl rfl ⟨(QW z.out 0).trans rfl, (QW z.out 1).trans rfl, ((HB.out.cell (World.block_lt_of_cell? w _ P)).trans P)⟩ (fun aa => ?_); refine with_tabW Fob.tab6 Fob.bits6 (fun ab ax => ?_); generalize wr.drew = bD at B D z HB U aa ⊢; refine pu_ 1 18 (bl 8 2) ab ?_; refine pu_ 2 19 (bl 8 6) ab ?_; refine pu_ 3 20 (bl 8 14) ab ?_; refine tk3_ 0 17 (bl 8 15) ab ax aa ?_; refine tk3_ 4 21 (bl 8 31) ab ax aa ?_; refine one_ (i := 5) (N := some 22) (bl 8 63) rfl rfl (one_of ab.out (by kernel_rfl)) (by decide) (fun K hK => ?_); refine gS_ Try.func53 #[.int .i64 (rd W I)] ?_
     with_reducible refine (Fh.calls k1 (rd W I) ah ai _ bi.out).mono ?_
     rintro e bE ⟨bA, rfl, Z, hb⟩; refine ⟨_, rfl, ?_⟩; replace B := aM (QX (vO B.out) hb); have Y := aM (Qp (QQ (ok' := fun k_ => (w.heap.size ≤ k_) ∧ k_ ≠ J ∧ k_ ≠ F) Z (fun k_ hk_ => ⟨(Nat.le_trans (Qv (bP2 HB G M)) hk_), (Qq (g := J) (o := .cells #[.bool false, .slice none 0 0] 73 (0, 0)) (kO D.out) k_ hk_), (Qq (g := F) (o := .cells #[.bool A, O] 73 (0, 0)) (kO z.out) k_ hk_)⟩)) (Qv (bP2 HB G M))); replace D := kB D hb; replace z := kB z hb; replace HB := hS2 HB G M hb
     (try clear hb)
     (try clear bk)
     (try clear hk)
     (try clear hi)
     (try clear Z)
     obtain ⟨aq, ar, aB⟩ := Qh B.out
     (first | subst aB | obtain ⟨rfl, rfl⟩ := iS aB)
     obtain ⟨aX, aY, aC⟩ := Qh Y.out
     (first | subst aC | obtain ⟨rfl, rfl⟩ := iS aC)
     refine hK.out _ _ ⟨(QW z.out 0).trans rfl, (QW z.out 1).trans rfl, ((HB.out.cell (World.block_lt_of_cell? w _ P)).trans P)⟩ (fun aa => ?_); clear hK K; refine nm_ 22 ?_; refine one_ (i := 6) (N := some 23) (bl 8 127) rfl rfl (one_of ab.out (by kernel_rfl)) (by decide) (fun K hK => ?_); refine gS_ Try.func54 #[.agg #[.bool A, .slice aq E.length ar], .agg #[.bool ah, .slice aX ai.length aY]] ?_
     with_reducible refine (Fha.calls k1 A _ _ E ah _ _ ai aj ae _ ?s1 ?s2 ?s3 ?s4 bj.out).mono ?_
     (case s1 => exact cO (QP B.out).2.2)
     (case s2 => exact (QP B.out).2.1)
     (case s3 => exact cO (QP Y.out).2.2)
     (case s4 => exact (QP Y.out).2.1)
     rintro e aV ⟨bB, rfl, Z, hb⟩; refine ⟨_, rfl, ?_⟩; replace B := aM (QX (vO B.out) hb); replace Y := aM (QX (vO Y.out) hb); have aw := aM (Qp (QQ (ok' := fun k_ => (w.heap.size ≤ k_) ∧ k_ ≠ J ∧ k_ ≠ F) Z (fun k_ hk_ => ⟨(Nat.le_trans (Qv (bP2 HB G M)) hk_), (Qq (g := J) (o := .cells #[.bool false, .slice none 0 0] 73 (0, 0)) (kO D.out) k_ hk_), (Qq (g := F) (o := .cells #[.bool A, .slice aq E.length ar] 73 (0, 0)) (kO z.out) k_ hk_)⟩)) (Qv (bP2 HB G M))); replace D := kB D hb; replace z := kB z hb; replace HB := hS2 HB G M hb
     (try clear hb)
     (try clear bk)
     (try clear hk)
     (try clear hi)
     (try clear Z)
     obtain ⟨aD, aE, aF⟩ := Qh aw.out
     (first | subst aF | obtain ⟨rfl, rfl⟩ := iS aF)
     refine hK.out _ _ ⟨(QW z.out 0).trans rfl, (QW z.out 1).trans rfl, ((HB.out.cell (World.block_lt_of_cell? w _ P)).trans P)⟩ (fun aa => ?_); clear hK K; refine nm_ 23 ?_; refine last_ (i := 7) (N := none) (bl 8 255) rfl rfl (one_of ab.out (by kernel_rfl)) (by decide) (fun K hK => ?_); have hs20 : aV.cell? ⟨F, 0, none⟩ = some (.bool A) := (QW z.out 0).trans rfl; have hfs20 := Qt z.out 0; have hns20_0 := L.out; have hms20_0 := Q.out; have hs22 : aV.cell? ⟨F, 1, none⟩ = some (.slice aq E.length ar) := (QW z.out 1).trans rfl; have hfs22 := Qt z.out 1; have hns22_0 := L.out; have hms22_0 := Q.out; refine skip_ (w1 := ?_) (by rfl) rfl ?_ ?_; rotate_left
     ·go_simp
      rfl
     refine hK.out _ _ ?_; clear hK K; refine done_ (done_of ab.out (by kernel_rfl)) ?_
     try go_wp2
     go_roundg k1
     case measure => have := am.out; omega
     case rel => exact ⟨(wrap64 (Int.tdiv R 2)), (wrap64 (I + 1)), (aj), (ae), (.slice aD ae.length aE), sI, sI, H', ⟨by have := am.out; omega⟩, ⟨by (with_reducible repeat (first | apply QV | apply QU | apply QJ)); exact QQ (QY (p := ⟨F, 1, none⟩) (QY (p := ⟨F, 0, none⟩) (QQ aw.out (fun k_ hk => (⟨hk, hk.2.2⟩ : _ ∧ k_ ≠ F))) (fun _ hk => hk.2) (.bool aj)) (fun _ hk => hk.2) (.slice aD ae.length aE)) (fun _ hk => ⟨hk.1.1, ⟨hk.1.2.1, hk.1.2.2⟩⟩)⟩, ⟨kN D L⟩, ⟨by (with_reducible repeat (first | refine Qj ?_ _ | refine Qu ?_ | refine Qz ?_ _)); exact Qy (Qy z.out 0 _ rfl) 1 _ rfl⟩, bT2 HB G M⟩
    ·obtain ⟨aK, aL⟩ := bn ak; have H' := aM H; clear H
     go_wp2
     go_roundg k1
     case measure => have := am.out; omega
     case rel => exact ⟨(wrap64 (Int.tdiv R 2)), (wrap64 (I + 1)), (A), (E), (O), sI, sI, H', ⟨by have := am.out; omega⟩, ⟨vO B.out⟩, kQ D, kQ z, bT2 HB G M⟩
   ·have aJ := decide_eq_false af; clear af; obtain ⟨rfl, rfl⟩ := pE2 H; have br := Q.out; have bs := L.out; obtain ⟨a2, a3, a4, a5⟩ := bG2 z; obtain ⟨a6, a7, a8, a9⟩ := bG2 D; obtain ⟨aG, aH, aZ⟩ := Qh B.out; subst aZ
    go_wp2
    refine bodyPost_ret (results_cell_row rfl _ _ J 73 #[.bool A, .slice aG E.length aH] (0, 0) _ rfl (by (with_reducible repeat (first | refine Qj ?_ _ | refine Qu ?_ | refine Qz ?_ _)); exact Qy (Qy D.out 0 _ rfl) 1 _ rfl) Try.underlying73 rfl (by kernel_rfl)) rfl ?_; exact ⟨_, eW, by (with_reducible repeat (first | apply QV | apply QU | apply QJ)); exact QQ (QY (p := ⟨J, 1, none⟩) (QY (p := ⟨J, 0, none⟩) (QQ B.out (fun k_ hk => (⟨hk, hk.2.1⟩ : _ ∧ k_ ≠ J))) (fun _ hk => hk.2) (.bool A)) (fun _ hk => hk.2) (.slice aG E.length aH)) (fun _ hk => hk.1.1), bS2 HB.out G.out M.out⟩
def Foa.f (a0_0 : Bool) (l0_1 : List Int) : Option (Bool) := if (l0_1.length : Int) > 0 then (if 0 < (l0_1.length : Int) then (some ((Int.tmod (rd l0_1 0) 2) == 1)) else (none)) else (some false)
theorem Foa.calls (B : Bool) (D : Option Addr) (E : Nat) (z : List Int) (r : Bool) (w : World) (L : Kd.C (Kd.int .u64) w D z.length z) (M : z.length ≤ E) (h : Foa.f B z = some r) :
  Calls Try.prog 57 #[.agg #[.bool B, .slice D z.length E]] w fun e w' => e = .returned (.bool r) ∧ Below w.heap.size w w' := by
 have hu73 := Try.underlying73; have P := aM L; have ah := aM M; clear L M; have HB := aM (Qg w.heap.size w); rw [Foa.f] at h; have H := h; clear h
 apply iB H <;> clear H <;> intro O H
 ·have V := dT O; have W : decide (0 < z.length) = true := dT (by omega); clear O
  apply iN H; clear H; intro Q H; have aj := dT Q; have ak : decide (0 < z.length) = true := dT (by omega); clear Q; obtain rfl := Qx H
  go_enter Try.func57, Try.ntmps57
  go_wp2_with (first | ((with_reducible refine Qa (N := 1) rfl ?_); refine be_ (cs := #[.bool B, .slice D z.length E]) (t := 73) ?_; intro R hg w4 al hb; have F := aM (al); have U := gE hg (bP0 HB); have G := gE hg (bP0 HB); replace HB := hS0 HB hb; clear hb al hg; obtain ⟨Z, aa, ab, ac⟩ := bG2 F; have I : 0 ≤ (0 : Int) := (by omega); have J : 0 < (z.length : Int) := oT aO; obtain ⟨ai, Y, A⟩ := Kd.at_int P.out 0 I J; cases Y; have qi342 : (0 < z.length) = True := eq_true (by omega); (try rw [show ((0 : Int)).toNat = 0 from rfl] at A); (try rw [Addr.add_zero'] at A); replace A := cX HB A; replace I := eq_true I; replace J := eq_true J))
  go_ret
  exact ⟨eW, bS1 HB.out G.out⟩
 ·have V := decide_eq_false O; have W : decide (0 < z.length) = false := decide_eq_false (by omega); clear O; obtain rfl := Qx H
  go_enter Try.func57, Try.ntmps57
  go_wp2_with (first | ((with_reducible refine Qa (N := 1) rfl ?_); refine be_ (cs := #[.bool B, .slice D z.length E]) (t := 73) ?_; intro R hg w6 al hb; have F := aM (al); have U := gE hg (bP0 HB); have G := gE hg (bP0 HB); replace HB := hS0 HB hb; clear hb al hg; obtain ⟨ad, ae, af, ag⟩ := bG2 F))
  go_ret
  exact ⟨eW, bS1 HB.out G.out⟩
def Fo.l0 : Nat → List Int → Int → Int → Bool → List Int → Option (Int)
 | 0, _, _, _, _, _ => none
 | k + 1, x3, x4, x5, x344000, x344001 => if x5 ≥ 0 then (if 0 ≤ x5 then (if x5 < (x344001.length : Int) then (if x5 < (x3.length : Int) then (Fo.l0 k (x3.set (x5 : Int).toNat (IntKind.u64.wrap (Int.tdiv (Go.bits .or .u64 (IntKind.u64.wrap (x4 * 65536)) (rd x344001 x5)) 2))) (Int.tmod (Go.bits .or .u64 (IntKind.u64.wrap (x4 * 65536)) (rd x344001 x5)) 2) (wrap64 (x5 - 1)) x344000 x344001) else (none)) else (none)) else (none)) else ((Fh.f k 0).bind fun bt349 => ((Fha.f k x344000 x3 bt349.1 bt349.2).bind fun bt353 => ((Fg.f k bt353.1 bt353.2).bind fun bt357 => (some bt357.1))))
def Fo.f (k : Nat) (a0_0 : Bool) (l0_1 : List Int) : Option (Int) := if 0 ≤ (l0_1.length : Int) then (if ((l0_1.length : Int) : Int).toNat ≤ 35184372088832 then (Fo.l0 k (List.replicate ((l0_1.length : Int) : Int).toNat 0) 0 (wrap64 ((l0_1.length : Int) - 1)) a0_0 l0_1) else (none)) else (none)
theorem Fo.mono_l : ∀ k, (∀ y0 y1 y2 y3 y4, LeO (Fo.l0 k y0 y1 y2 y3 y4) (Fo.l0 (k + 1) y0 y1 y2 y3 y4))
 | 0 => fun _ _ _ _ _ r h => by simp [Fo.l0] at h
 | k + 1 => by
  have ih0 := Fo.mono_l k
  ·intro y0 y1 y2 y3 y4
   unfold Fo.l0
   repeat' first | (with_reducible first | exact ih0 _ _ _ _ _ | exact Fg.mono _ _ _ | exact Fh.mono _ _ | exact Fha.mono _ _ _ _ _ | exact lA | apply lI | refine lB ?_ fun _ => ?_) | exact lN _ | apply lI | refine lB ?_ fun _ => ?_
theorem Fo.mono : ∀ a0 a1 k, LeO (Fo.f k a0 a1) (Fo.f (k + 1) a0 a1) := by
 intro a0 a1 k; have ih0 := Fo.mono_l k
 unfold Fo.f
 repeat' first | (with_reducible first | exact ih0 _ _ _ _ _ | exact Fg.mono _ _ _ | exact Fh.mono _ _ | exact Fha.mono _ _ _ _ _ | exact lA | apply lI | refine lB ?_ fun _ => ?_) | exact lN _ | apply lI | refine lB ?_ fun _ => ?_
def Fo.T9 : Bool × List (List Nat × List Nat) := (true, [([], []), ([0], [0]), ([], []), ([1, 2], [1, 2]), ([], []), ([3, 4, 4], [3, 4]), ([5, 5], [5]), ([6], [6]), ([7], [7]), ([7], [7]), ([8, 6, 0, 1, 2, 3, 4, 5, 6, 7, 8], [8]), ([9, 10, 0, 1, 2, 3, 4, 5, 6, 7, 8, 9, 10], [9])])
def Fo.B9 : List Nat := [0, 1, 0, 7, 0, 31, 63, 127, 255, 255, 511, 2047]
theorem Fo.tab9 : rtab .any (opsOf Try.f58 9) = Fo.T9 := by kernel_rfl
theorem Fo.bits9 : waitsOk Fo.T9.2 Fo.B9 = true := by kernel_rfl
theorem Fo.calls (k : Nat) (G : Bool) (L : Option Addr) (M : Nat) (A : List Int) (r : Int) (w : World) (am : Kd.C (Kd.int .u64) w L A.length A) (an : A.length ≤ M) (h : Fo.f k G A = some r) :
  Calls Try.prog 58 #[.agg #[.bool G, .slice L A.length M]] w fun e w' => e = .returned (.int .i64 r) ∧ Below w.heap.size w w' := by
 have hu73 := Try.underlying73; have aL := aM am; have bk := aM an; clear am an; have HB := aM (Qg w.heap.size w); rw [Fo.f] at h; have H := h; clear h
 apply iN H; clear H; intro c2 H; have br := eq_true c2; have bs := dT c2; clear c2
 apply iN H; clear H; intro c3 H; have bt := eq_true c3; have bu := dT c3; clear c3; obtain ⟨aS, V⟩ : ∃ y_ : List Int, y_ = (List.replicate ((A.length : Int) : Int).toNat 0) := ⟨_, rfl⟩; first | replace H := rI V H | rw [← V] at H; have aN := aM V; clear V; have H' := aM H; clear H
 go_enter Try.func58, Try.ntmps58
 go_wp2_with (first | ((with_reducible refine Qa (N := 1) rfl ?_); refine be_ (cs := #[.bool G, .slice L A.length M]) (t := 73) ?_; intro I hg w4 ae hb; have z := aM (ae); have bm := gE hg (bP0 HB); have E := gE hg (bP0 HB); replace HB := hS0 HB hb; clear hb ae hg; obtain ⟨a8, a9, ba, bb⟩ := bG2 z) | ((with_reducible refine Qa (N := 12) rfl ?_); refine Kd.R_make (Kd.int .u64) _ 115 rfl (N := 12) rfl 71 _ _ rfl (A.length : Int) rfl rfl Try.underlying71 (.int .u64 0) 8 info115 rfl (by decide) (by omega) 0 (ok := fun _ => True) (okp := fun _ => True) rfl (fun _ hk => hk) trivial (oT aO) (Nat.le_trans (Nat.mul_le_mul_right _ (oT aO : (A.length : Int).toNat ≤ 35184372088832)) (by omega)) (Qg _ _) (Nat.le_refl _) ?_; intro aT w6 ao hb hg_ hnew_; clear hg_ hnew_; replace ao := nW aN ao; have aP := rW ao (bP1 HB E); replace z := kB z hb; replace HB := hS1 HB E hb; clear hb ao; obtain ⟨bc, bd, be, bf⟩ := bG2 z))
 go_loopg [4, 5] k (fun kq v4 v5 w' => ∃ (F : List Int) (O : Int) (B : Int), v4 = .int .u64 O ∧ v5 = .int .i64 B ∧ Aside0 (Fo.l0 kq F O B G A = some r) ∧ Aside0 (kq ≤ k) ∧ RA (Kd.int .u64) 115 w' w aT F ∧ Aside0 (w'.heap[I]? = some (.cells #[.bool G, (.slice L A.length M)] 73 (0, 0))) ∧ BA w w')
 case atStart => exact ⟨(aS), (0), (wrap64 ((A.length : Int) - 1)), sI, sI, H', ⟨Nat.le_refl _⟩, rQ aP, kQ z, bT1 HB E⟩
 case round =>
  clear H'
  obtain ⟨F, O, B, rfl, rfl, HA, ag, D, z, HB⟩ := hrel; cases gk with
  | zero => exact absurd HA.out (by simp [Fo.l0])
  | succ k1 =>
   have H := HA.out; clear HA; simp only [Fo.l0] at H
   apply iB H <;> clear H <;> intro c9 H
   ·have aU := dT c9; clear c9
    apply iN H; clear H; intro ap H; have bn := dT ap; clear ap
    apply iN H; clear H; intro aq H; have bo := dT aq; clear aq
    apply iN H; clear H; intro ar H; have bp := dT ar; clear ar; obtain ⟨ay, W⟩ : ∃ y_ : List Int, y_ = (F.set (B : Int).toNat (IntKind.u64.wrap (Int.tdiv (Go.bits .or .u64 (IntKind.u64.wrap (O * 65536)) (rd A B)) 2))) := ⟨_, rfl⟩; first | replace H := rI W H | rw [← W] at H; have aQ := aM W; clear W; have H' := aM H; clear H; obtain ⟨a4, a5, a6, a7⟩ := bG2 z; obtain ⟨⟨bq, aV, Y⟩, ai, aj⟩ := xAt (Kd.at_int aL.out) B; cases aV; replace Y := cX HB Y; have az : 0 ≤ (B : Int) := oT aO; have aA : (B : Int) < ((F.length : Int) : Int) := oT aO; obtain ⟨go13, aW, aB, aC, gl13, cl13, HG13⟩ := Kd.R_form D.out (by omega)
    (first | cases aB | (injection aB with ea_ en_ ec_; (first | subst ea_ | (injection ea_ with ea_; subst ea_)); subst ec_; clear en_))
    have GB13 := aM aC; have GG13 := aM HG13; clear aC gl13 HG13; obtain ⟨bg, hf13_0⟩ := Wm 0 D.out (B : Int) az aA; replace az := eq_true az; replace aA := eq_true aA; have HP15 := Kd.R_putg D.out (B : Int) (IntKind.u64.wrap (Int.tdiv (Go.bits .or .u64 (IntKind.u64.wrap (O * 65536)) (rd A B)) 2))
    go_wp2_with (first | ((with_reducible refine gate_store (t := 115) (p := 33) rfl ?_); refine store_event (t := 115) (p := 33) (v := ?vo_w16) (w1 := (wr.setCell ⟨go13, (B : Int).toNat, none⟩ (.int .u64 (IntKind.u64.wrap (Int.tdiv (Go.bits .or .u64 (IntKind.u64.wrap (O * 65536)) (rd A B)) 2))))) ?hg ?ho ?hn ?hr ?_; (case ho => rfl); (case hg => rfl); (case hn => rfl); (case hr => first | (go_simp; done) | (go_simp; rfl)); intro aD hw; have hg : wr.grownBy aD (some go13) := (by rw [hw]; exact HP15.2); have hp_ : Kd.R (Kd.int .u64) 115 aD w.heap.size (fun _ => True) (.slice (some ⟨go13, 0, none⟩) F.length aW) ay := (by rw [hw, aQ.out]; exact HP15.1); clear HP15; replace z := kG z hg D; replace D := aM (hp_); replace HB := aM ((by rw [hw]; exact below_set (HB.out) GB13.out : Below w.heap.size w aD)); clear hg hw hp_))
    go_roundg k1
    case measure => have := ag.out; omega
    case rel => exact ⟨(ay), (Int.tmod (Go.bits .or .u64 (IntKind.u64.wrap (O * 65536)) (rd A B)) 2), (wrap64 (B - 1)), sI, sI, H', ⟨by have := ag.out; omega⟩, rQ D, kQ z, bT1 HB E⟩
   ·have aU := decide_eq_false c9; clear c9; replace H := QZ H; obtain ⟨⟨Z, aa⟩, aE, H⟩ := H; replace H : ((Fha.f k1 G F Z aa).bind fun au => ((Fg.f k1 au.1 au.2).bind fun ab => (some ab.1))) = some r := H; have bh := aM aE; clear aE; replace H := QZ H; obtain ⟨⟨ac, ad⟩, aF, H⟩ := H; replace H : ((Fg.f k1 ac ad).bind fun ab => (some ab.1)) = some r := H; have bi := aM aF; clear aF; replace H := QZ H; obtain ⟨⟨aG, aX⟩, aH, H⟩ := H; replace H : (some aG) = some r := H; have bj := aM aH; clear aH; obtain rfl := Qx H
    try go_wp2
    replace D := aM (Q4 D.out); replace z := kD z; replace HB := aM (below_drew1 HB.out); obtain ⟨ak, al, aI⟩ := sL D
    (first | subst aI | obtain ⟨rfl, rfl⟩ := iS aI)
    refine start_ (n := 12) (S := fun w' => w'.cell? ⟨I, 0, none⟩ = some (.bool G) ∧ w'.cell? ⟨I, 1, none⟩ = some (.slice L A.length M)) (ds := []) (bl 12 0) (by kernel_rfl) rfl rfl (bD2 z) (fun U => ?_); refine with_tabW Fo.tab9 Fo.bits9 (fun Q HW_ => ?_); generalize wr.drew = bA at D z HB U ⊢; refine pu_ 0 37 (bl 12 1) Q ?_; refine pu_ 2 39 (bl 12 5) Q ?_; refine tk2_ 1 38 (bl 12 7) Q HW_ U ?_; refine pu_ 3 40 (bl 12 15) Q ?_; refine one_ (i := 4) (N := some 41) (bl 12 31) rfl rfl (one_of Q.out (by kernel_rfl)) (by decide) (fun K hK => ?_); refine gS_ Try.func53 #[.int .i64 0] ?_
    with_reducible refine (Fh.calls k1 0 Z aa _ bh.out).mono ?_
    rintro e bB ⟨bx, rfl, ah, hb⟩; refine ⟨_, rfl, ?_⟩; have J := aM (Qp (QQ (ok' := fun k_ => some k_ ≠ (.slice ak F.length al : Value).ownBlock ∧ k_ ≠ I) ah (fun k_ hk_ => ⟨(Kd.fresh' (WQ (rP D)) k_ hk_), (Qq (g := I) (o := .cells #[.bool G, .slice L A.length M] 73 (0, 0)) (kO z.out) k_ hk_)⟩)) (Qv (bP1 HB E))); replace D := rB D hb; replace z := kB z hb; replace HB := hS1 HB E hb
    (try clear hb)
    (try clear aR)
    (try clear hk)
    (try clear hi)
    (try clear ah)
    obtain ⟨aY, aZ, aJ⟩ := Qh J.out
    (first | subst aJ | obtain ⟨rfl, rfl⟩ := iS aJ)
    refine hK.out _ _ (bD2 z) (fun U => ?_); clear hK K; refine nm_ 41 ?_; refine one_ (i := 5) (N := some 42) (bl 12 63) rfl rfl (one_of Q.out (by kernel_rfl)) (by decide) (fun K hK => ?_); refine gS_ Try.func54 #[.agg #[.bool G, .slice ak F.length al], .agg #[.bool Z, .slice aY aa.length aZ]] ?_
    with_reducible refine (Fha.calls k1 G _ _ F Z _ _ aa ac ad _ ?s1 ?s2 ?s3 ?s4 bi.out).mono ?_
    (case s1 => exact cO (rR D).2.2)
    (case s2 => exact (rR D).2.1)
    (case s3 => exact cO (QP J.out).2.2)
    (case s4 => exact (QP J.out).2.1)
    rintro e bC ⟨bz, rfl, ah, hb⟩; refine ⟨_, rfl, ?_⟩; replace J := aM (QX (vO J.out) hb); have P := aM (Qp (QQ (ok' := fun k_ => some k_ ≠ (.slice ak F.length al : Value).ownBlock ∧ k_ ≠ I) ah (fun k_ hk_ => ⟨(Kd.fresh' (WQ (rP D)) k_ hk_), (Qq (g := I) (o := .cells #[.bool G, .slice L A.length M] 73 (0, 0)) (kO z.out) k_ hk_)⟩)) (Qv (bP1 HB E))); replace D := rB D hb; replace z := kB z hb; replace HB := hS1 HB E hb
    (try clear hb)
    (try clear aR)
    (try clear hk)
    (try clear hi)
    (try clear ah)
    obtain ⟨a2, a3, aK⟩ := Qh P.out
    (first | subst aK | obtain ⟨rfl, rfl⟩ := iS aK)
    refine hK.out _ _ (bD2 z) (fun U => ?_); clear hK K; refine nm_ 42 ?_; refine one_ (i := 6) (N := some 43) (bl 12 127) rfl rfl (one_of Q.out (by kernel_rfl)) (by decide) (fun K hK => ?_); refine gS_ Try.func81 #[.agg #[.bool ac, .slice a2 ad.length a3]] ?_
    with_reducible refine (Fg.calls k1 ac _ _ ad aG aX _ ?s1 ?s2 bj.out).mono ?_
    (case s1 => exact cO (QP P.out).2.2)
    (case s2 => exact (QP P.out).2.1)
    rintro e bD ⟨rfl, hb⟩; refine ⟨_, rfl, ?_⟩; replace D := rB D hb; replace J := aM (QX (vO J.out) hb); replace P := aM (QX (vO P.out) hb); replace z := kB z hb; replace HB := hS1 HB E hb
    (try clear hb)
    (try clear aR)
    (try clear hk)
    (try clear hi)
    refine hK.out _ _ (bD2 z) (fun U => ?_); clear hK K; refine nm_ 43 ?_; refine pu_ 7 36 (bl 12 255) Q ?_; refine pu_ 8 44 (bl 12 511) Q ?_; refine pu_ 9 45 (bl 12 1023) Q ?_; refine pu_ 10 7 (bl 12 2047) Q ?_; refine pu_ 11 8 (bl 12 4095) Q ?_; refine done_ (done_of Q.out (by kernel_rfl)) ?_
    try go_wp2
    go_ret
    exact ⟨eW, bS1 HB.out E.out⟩
def Fnc.f (k : Nat) (a0_0 : Bool) (l0_1 : List Int) : Option (Int) := (Foa.f a0_0 l0_1).bind fun t360 => (if t360 = true then ((Fh.f k (-1)).bind fun bt361 => ((Fha.f k a0_0 l0_1 bt361.1 bt361.2).bind fun bt365 => ((Fo.f k bt365.1 bt365.2).bind fun t369 => (some t369)))) else ((Fo.f k a0_0 l0_1).bind fun t370 => (some t370)))
theorem Fnc.mono : ∀ a0 a1 k, LeO (Fnc.f k a0 a1) (Fnc.f (k + 1) a0 a1) := by
 intro a0 a1 k
 unfold Fnc.f
 repeat' first | (with_reducible first | exact Fh.mono _ _ | exact Fha.mono _ _ _ _ _ | exact Fo.mono _ _ _ | exact lA | apply lI | refine lB ?_ fun _ => ?_) | exact lN _ | apply lI | refine lB ?_ fun _ => ?_
theorem Fnc.calls (k : Nat) (D : Bool) (F : Option Addr) (G : Nat) (B : List Int) (r : Int) (w : World) (ab : Kd.C (Kd.int .u64) w F B.length B) (ac : B.length ≤ G) (h : Fnc.f k D B = some r) :
  Calls Try.prog 56 #[.agg #[.bool D, .slice F B.length G]] w fun e w' => e = .returned (.int .i64 r) ∧ Below w.heap.size w w' := by
 have hu73 := Try.underlying73; have O := aM ab; have P := aM ac; clear ab ac; have HB := aM (Qg w.heap.size w); rw [Fnc.f] at h; have H := h; clear h; apply bSx H; clear H; intro ar A2 H
 by_cases c3 : ar = true
 ·subst c3
  rw [if_pos rfl] at H; replace H := QZ H; obtain ⟨⟨U, V⟩, an, H⟩ := H; replace H : ((Fha.f k D B U V).bind fun ad => ((Fo.f k ad.1 ad.2).bind fun Q => (some Q))) = some r := H; have A4 := aM an; clear an; replace H := QZ H; obtain ⟨⟨L, J⟩, ao, H⟩ := H; replace H : ((Fo.f k L J).bind fun Q => (some Q)) = some r := H; have A5 := aM ao; clear ao; apply bSx H; clear H; intro Q A6 H; obtain rfl := Qx H
  go_enter Try.func56, Try.ntmps56
  try go_wp2_with (first | ((with_reducible refine Qa (N := 1) rfl ?_); refine be_ (cs := #[.bool D, .slice F B.length G]) (t := 73) ?_; intro A hg w7 aa hb; have z := aM (aa); have al := gE hg (bP0 HB); have E := gE hg (bP0 HB); replace HB := hS0 HB hb; clear hb aa hg; obtain ⟨aK, aL, aN, aP⟩ := bG2 z) | ((with_reducible refine Qb (f := 57) rfl ?_); refine gL_ (some 4) Try.func57 #[.agg #[.bool D, .slice F B.length G]] ?_; (with_reducible refine (Foa.calls D _ _ B true _ ?s1 P.out A2.out).mono ?_); (case s1 => exact cB O HB); rintro e w9 ⟨rfl, hb⟩; refine ⟨_, rfl, ?_⟩; replace z := kB z hb; replace HB := hS1 HB E hb; (try clear hb)))
  replace z := kD z; replace HB := aM (below_drew1 HB.out); refine start_ (n := 4) (S := fun w' => w'.cell? ⟨A, 0, none⟩ = some (.bool D) ∧ w'.cell? ⟨A, 1, none⟩ = some (.slice F B.length G)) (ds := [3]) (bl 4 0) (by kernel_rfl) rfl rfl (bD2 z) (fun Z => ?_); generalize w9.drew = aY at z HB Z ⊢; refine take_ (i := 0) (N := some 5) (v := ?_) (a' := ?_) (bl 4 1) rfl rfl (by kernel_rfl) (fun _ _ _ h => h) (Or.inl ⟨by rfl, ?_⟩) Z ?_ ?_; rotate_left
  ·rintro w' ⟨s0, s1⟩
   go_simp
   with_reducible rfl
  rotate_left
  ·simp only [Act.put, sA, sB, sC, i64_w, i32_w]
   rfl
  refine one_ (i := 1) (N := some 6) (bl 4 3) rfl rfl (by kernel_rfl) (by decide) (fun K hK => ?_); refine gS_ Try.func53 #[.int .i64 (-1)] ?_
  with_reducible refine (Fh.calls k (-1) U V _ A4.out).mono ?_
  rintro e aZ ⟨aW, rfl, Y, hb⟩; refine ⟨_, rfl, ?_⟩; have I := aM (Qp (QQ (ok' := fun k_ => k_ ≠ A) Y (fun k_ hk_ => (Qq (g := A) (o := .cells #[.bool D, .slice F B.length G] 73 (0, 0)) (kO z.out) k_ hk_))) (Qv (bP1 HB E))); replace z := kB z hb; replace HB := hS1 HB E hb
  (try clear hb)
  (try clear aQ)
  (try clear hk)
  (try clear hi)
  (try clear Y)
  obtain ⟨au, av, ae⟩ := Qh I.out
  (first | subst ae | obtain ⟨rfl, rfl⟩ := iS ae)
  refine hK.out _ _ (bD2 z) (fun Z => ?_); clear hK K; refine nm_ 6 ?_; refine one_ (i := 2) (N := some 7) (bl 4 7) rfl rfl (by kernel_rfl) (by decide) (fun K hK => ?_); refine gS_ Try.func54 #[.agg #[.bool D, .slice F B.length G], .agg #[.bool U, .slice au V.length av]] ?_
  with_reducible refine (Fha.calls k D _ _ B U _ _ V L J _ ?s1 ?s2 ?s3 ?s4 A5.out).mono ?_
  (case s1 => exact cB O HB)
  (case s2 => exact P.out)
  (case s3 => exact cO (QP I.out).2.2)
  (case s4 => exact (QP I.out).2.1)
  rintro e aq ⟨aX, rfl, Y, hb⟩; refine ⟨_, rfl, ?_⟩; replace I := aM (QX (vO I.out) hb); have M := aM (Qp (QQ (ok' := fun k_ => k_ ≠ A) Y (fun k_ hk_ => (Qq (g := A) (o := .cells #[.bool D, .slice F B.length G] 73 (0, 0)) (kO z.out) k_ hk_))) (Qv (bP1 HB E))); replace z := kB z hb; replace HB := hS1 HB E hb
  (try clear hb)
  (try clear aQ)
  (try clear hk)
  (try clear hi)
  (try clear Y)
  obtain ⟨W, R, ai⟩ := Qh M.out
  (first | subst ai | obtain ⟨rfl, rfl⟩ := iS ai)
  refine hK.out _ _ (bD2 z) (fun Z => ?_); clear hK K; refine nm_ 7 ?_; refine last_ (i := 3) (N := none) (bl 4 15) rfl rfl (by kernel_rfl) (by decide) (fun K hK => ?_); have hs14 : aq.cell? ⟨A, 0, none⟩ = some (.bool D) := (QW z.out 0).trans rfl; have hfs14 := Qt z.out 0; have hs16 : aq.cell? ⟨A, 1, none⟩ = some (.slice F B.length G) := (QW z.out 1).trans rfl; have hfs16 := Qt z.out 1; refine skip_ (w1 := ?_) (by rfl) rfl ?_ ?_; rotate_left
  ·go_simp
   rfl
  refine hK.out _ _ ?_; clear hK K; refine done_ (by kernel_rfl) ?_; obtain ⟨ax, ay, az, aA⟩ := bG2 z
  try go_wp2_with (first | ((with_reducible refine Qb (f := 58) rfl ?_); refine gL_ (some 9) Try.func58 #[.agg #[.bool L, .slice W J.length R]] ?_; (with_reducible refine (Fo.calls k L _ _ J Q _ ?s1 ?s2 A6.out).mono ?_); (case s1 => refine (QP (e := 115) (base := w.heap.size) (ok := fun k_ => k_ ≠ A) (n := J.length) (c := R) ?_).2.2; exact (by (with_reducible repeat (first | apply QV | apply QU | apply QJ)); exact (QQ (QY (p := ⟨A, 1, none⟩) (QY (p := ⟨A, 0, none⟩) (QQ M.out (fun k_ hk => (⟨hk, hk⟩ : _ ∧ k_ ≠ A))) (fun _ hk => hk.2) (.bool L)) (fun _ hk => hk.2) (.slice W J.length R)) (fun _ h_ => h_.1)))); (case s2 => exact (QP M.out).2.1); rintro e a2 ⟨rfl, hb⟩; refine ⟨_, rfl, ?_⟩; replace I := aM (QX (by (with_reducible repeat (first | apply QV | apply QU | apply QJ)); exact (QQ (QY (p := ⟨A, 1, none⟩) (QY (p := ⟨A, 0, none⟩) (QQ I.out (fun k_ hk => (⟨hk, hk⟩ : _ ∧ k_ ≠ A))) (fun _ hk => hk.2) (.bool L)) (fun _ hk => hk.2) (.slice W J.length R)) (fun _ h_ => h_.1))) hb); replace M := aM (QX (by (with_reducible repeat (first | apply QV | apply QU | apply QJ)); exact (QQ (QY (p := ⟨A, 1, none⟩) (QY (p := ⟨A, 0, none⟩) (QQ M.out (fun k_ hk => (⟨hk, hk⟩ : _ ∧ k_ ≠ A))) (fun _ hk => hk.2) (.bool L)) (fun _ hk => hk.2) (.slice W J.length R)) (fun _ h_ => h_.1))) hb); replace z := kP2 z hb; replace HB := hS1 HB E hb; (try clear hb); (try clear hk)))
  go_ret
  exact ⟨eW, bS1 HB.out E.out⟩
 ·replace c3 := Qc c3; subst c3
  rw [if_neg nF] at H; apply bSx H; clear H; intro aw aR H; obtain rfl := Qx H
  go_enter Try.func56, Try.ntmps56
  go_wp2_with (first | ((with_reducible refine Qa (N := 1) rfl ?_); refine be_ (cs := #[.bool D, .slice F B.length G]) (t := 73) ?_; intro A hg a3 aa hb; have z := aM (aa); have al := gE hg (bP0 HB); have E := gE hg (bP0 HB); replace HB := hS0 HB hb; clear hb aa hg; obtain ⟨aB, aC, aD, aE⟩ := bG2 z) | ((with_reducible refine Qb (f := 57) rfl ?_); refine gL_ (some 4) Try.func57 #[.agg #[.bool D, .slice F B.length G]] ?_; (with_reducible refine (Foa.calls D _ _ B false _ ?s1 P.out A2.out).mono ?_); (case s1 => exact cB O HB); rintro e a4 ⟨rfl, hb⟩; refine ⟨_, rfl, ?_⟩; replace z := kB z hb; replace HB := hS1 HB E hb; (try clear hb); obtain ⟨aF, aG, aH, aI⟩ := bG2 z) | ((with_reducible refine Qb (f := 58) rfl ?_); refine gL_ (some 9) Try.func58 #[.agg #[.bool D, .slice F B.length G]] ?_; (with_reducible refine (Fo.calls k D _ _ B aw _ ?s1 P.out aR.out).mono ?_); (case s1 => exact cB O HB); rintro e a5 ⟨rfl, hb⟩; refine ⟨_, rfl, ?_⟩; replace z := kB z hb; replace HB := hS1 HB E hb; (try clear hb)))
  go_ret
  exact ⟨eW, bS1 HB.out E.out⟩
def Flc.l0 : Nat → Int → Bool → List Int → Bool → List Int → Bool → List Int → Option (Bool)
 | 0, _, _, _, _, _, _, _ => none
 | k + 1, x7, x372000, x372001, x377000, x377001, x382000, x382001 => if x7 ≥ 0 then ((Fha.f k x377000 x377001 x377000 x377001).bind fun bt382 => (if 0 ≤ (wrap64 (Int.tdiv x7 16)) then (if (wrap64 (Int.tdiv x7 16)) < (x372001.length : Int) then (if 0 ≤ (IntKind.u64.wrap (Int.tmod x7 16)) then ((Fh.f k (wrap64 (Go.bits .and .u64 (shr .u64 (rd x372001 (wrap64 (Int.tdiv x7 16))) (IntKind.u64.wrap (Int.tmod x7 16))) 1))).bind fun bt387 => ((Fha.f k bt382.1 bt382.2 bt387.1 bt387.2).bind fun bt391 => ((Fhc.f k bt391.1 bt391.2 x382000 x382001).bind fun t395 => (if t395 ≥ 0 then ((Fgc.f k x382000 x382001).bind fun bt396 => ((Fha.f k bt391.1 bt391.2 bt396.1 bt396.2).bind fun bt400 => (Flc.l0 k (wrap64 (x7 - 1)) x372000 x372001 bt400.1 bt400.2 x382000 x382001))) else (Flc.l0 k (wrap64 (x7 - 1)) x372000 x372001 bt391.1 bt391.2 x382000 x382001))))) else (none)) else (none)) else (none))) else (some ((x377001.length : Int) == 0))
def Flc.f (k : Nat) (a0_0 : Bool) (l0_1 : List Int) (a1 : Int) : Option (Bool) := (Fh.f k 0).bind fun bt372 => ((Fh.f k a1).bind fun bt377 => (Flc.l0 k (wrap64 ((wrap64 ((l0_1.length : Int) * 16)) - 1)) a0_0 l0_1 bt372.1 bt372.2 bt377.1 bt377.2))
theorem Flc.mono_l : ∀ k, (∀ y0 y1 y2 y3 y4 y5 y6, LeO (Flc.l0 k y0 y1 y2 y3 y4 y5 y6) (Flc.l0 (k + 1) y0 y1 y2 y3 y4 y5 y6))
 | 0 => fun _ _ _ _ _ _ _ r h => by simp [Flc.l0] at h
 | k + 1 => by
  have ih0 := Flc.mono_l k
  ·intro y0 y1 y2 y3 y4 y5 y6
   unfold Flc.l0
   repeat' first | (with_reducible first | exact ih0 _ _ _ _ _ _ _ | exact Fgc.mono _ _ _ | exact Fh.mono _ _ | exact Fha.mono _ _ _ _ _ | exact Fhc.mono _ _ _ _ _ | exact lA | apply lI | refine lB ?_ fun _ => ?_) | exact lN _ | apply lI | refine lB ?_ fun _ => ?_
theorem Flc.mono : ∀ a0 a1 a2 k, LeO (Flc.f k a0 a1 a2) (Flc.f (k + 1) a0 a1 a2) := by
 intro a0 a1 a2 k; have ih0 := Flc.mono_l k
 unfold Flc.f
 repeat' first | (with_reducible first | exact ih0 _ _ _ _ _ _ _ | exact Fgc.mono _ _ _ | exact Fh.mono _ _ | exact Fha.mono _ _ _ _ _ | exact Fhc.mono _ _ _ _ _ | exact lA | apply lI | refine lB ?_ fun _ => ?_) | exact lN _ | apply lI | refine lB ?_ fun _ => ?_
def Flc.T7 : Bool × List (List Nat × List Nat) := (true, [([], []), ([], []), ([1], [1]), ([], []), ([3], [3]), ([2, 4], [2, 4]), ([5], [5]), ([], []), ([7], [7]), ([8], [8]), ([6, 9], [6, 9]), ([10], [10]), ([11], [11]), ([12], [12]), ([0, 13, 13], [0, 13]), ([14, 14, 0, 1, 2, 3, 4, 5, 6, 7, 8, 9, 10, 11, 12, 13, 14], [14])])
def Flc.B7 : List Nat := [0, 0, 2, 0, 8, 30, 62, 0, 128, 384, 1022, 2046, 4094, 8190, 16383, 32767]
theorem Flc.tab7 : rtab .any (opsOf Try.f59 7) = Flc.T7 := by kernel_rfl
theorem Flc.bits7 : waitsOk Flc.T7.2 Flc.B7 = true := by kernel_rfl
theorem Flc.calls (k : Nat) (ae : Bool) (aH : Option Addr) (ao : Nat) (L : List Int) (a1 : Int) (r : Bool) (w : World) (bB : Kd.C (Kd.int .u64) w aH L.length L) (bC : L.length ≤ ao) (h : Flc.f k ae L a1 = some r) :
  Calls Try.prog 59 #[.agg #[.bool ae, .slice aH L.length ao], .int .i64 a1] w fun e w' => e = .returned (.bool r) ∧ Below w.heap.size w w' := by
 have hu73 := Try.underlying73; have bD := aM bB; have dg := aM bC; clear bB bC; have HB := aM (Qg w.heap.size w); rw [Flc.f] at h; have H := h; clear h; replace H := QZ H; obtain ⟨⟨aY, aS⟩, bE, H⟩ := H; replace H : ((Fh.f k a1).bind fun bF => (Flc.l0 k (wrap64 ((wrap64 ((L.length : Int) * 16)) - 1)) ae L aY aS bF.1 bF.2)) = some r := H; have A3 := aM bE; clear bE; replace H := QZ H; obtain ⟨⟨W, M⟩, bZ, H⟩ := H; replace H : (Flc.l0 k (wrap64 ((wrap64 ((L.length : Int) * 16)) - 1)) ae L aY aS W M) = some r := H; have A4 := aM bZ; clear bZ; have H' := aM H; clear H
 go_enter Try.func59, Try.ntmps59
 go_wp2_with (first | ((with_reducible refine Qa (N := 2) rfl ?_); refine be_ (cs := #[.bool ae, .slice aH L.length ao]) (t := 73) ?_; intro I hg w5 aP hb; have E := aM (aP); have dh := gE hg (bP0 HB); have P := gE hg (bP0 HB); replace HB := hS0 HB hb; clear hb aP hg) | ((with_reducible refine Qb (f := 53) rfl ?_); refine gL_ (some 8) Try.func53 #[.int .i64 0] ?_; (with_reducible refine (Fh.calls k 0 aY aS _ A3.out).mono ?_); rintro e w6 ⟨dM, rfl, am, hb⟩; refine ⟨_, rfl, ?_⟩; have aE := aM (Qp (QQ (ok' := fun k_ => k_ ≠ I) am (fun k_ hk_ => (Qq (g := I) (o := .cells #[.bool ae, .slice aH L.length ao] 73 (0, 0)) (kO E.out) k_ hk_))) (Qv (bP1 HB P))); replace E := kB E hb; replace HB := hS1 HB P hb; (try clear hb); (try clear hk); (try clear am)) | ((with_reducible refine Qa (N := 5) rfl ?_); refine be_ (cs := #[.bool false, .slice none 0 0]) (t := 73) ?_; intro z hg w7 aP hb; replace aE := aM (QX (Qr (vO aE.out) z (Qd hg.symm)) hb); have A := aM (aP); have di := gE hg (bP1 HB P); have Y := gE hg (bP1 HB P); replace HB := hS1 HB P hb; have R := nL hg E; have ai := nG hg E; replace E := kB E hb; clear hb aP hg; have dN := ai.out; have dO := R.out; obtain ⟨c7, c8, c9, da⟩ := bG2 A; obtain ⟨bv, bw, b6⟩ := Qh aE.out; subst b6) | ((with_reducible refine Qb (f := 53) rfl ?_); refine gL_ (some 10) Try.func53 #[.int .i64 a1] ?_; (with_reducible refine (Fh.calls k a1 W M _ A4.out).mono ?_); rintro e dW ⟨dP, rfl, am, hb⟩; refine ⟨_, rfl, ?_⟩; replace aE := aM (QX (by (with_reducible repeat (first | apply QV | apply QU | apply QJ)); exact (QQ (QY (p := ⟨z, 1, none⟩) (QY (p := ⟨z, 0, none⟩) (QQ aE.out (fun k_ hk => (⟨hk, hk.2⟩ : _ ∧ k_ ≠ z))) (fun _ hk => hk.2) (.bool aY)) (fun _ hk => hk.2) (.slice bv aS.length bw)) (fun _ h_ => h_.1))) hb); have a7 := aM (Qp (QQ (ok' := fun k_ => k_ ≠ I ∧ k_ ≠ z) am (fun k_ hk_ => ⟨(Qq (g := I) (o := .cells #[.bool ae, .slice aH L.length ao] 73 (0, 0)) (kN E R) k_ hk_), (Qq (g := z) (o := .cells #[.bool aY, .slice bv aS.length bw] 73 (0, 0)) (by (with_reducible repeat (first | refine Qj ?_ _ | refine Qu ?_ | refine Qz ?_ _)); exact Qy (Qy A.out 0 _ rfl) 1 _ rfl) k_ hk_)⟩)) (Qv (bP2 HB P Y))); replace E := kX1 E R hb; replace A := kP2 A hb; replace HB := hS2 HB P Y hb; (try clear hb); (try clear hk); (try clear am)) | ((with_reducible refine Qa (N := 6) rfl ?_); refine be_ (cs := #[.bool false, .slice none 0 0]) (t := 73) ?_; intro G hg dX aP hb; replace aE := aM (QX (Qr (vO aE.out) G (Qd hg.symm)) hb); replace a7 := aM (QX (Qr (vO a7.out) G (Qd hg.symm)) hb); have F := aM (aP); have dj := gE hg (bP2 HB P Y); have ad := gE hg (bP2 HB P Y); replace HB := hS2 HB P Y hb; have aF := nL hg E; have aN := nG hg E; replace E := kB E hb; have ah := nL hg A; have Z := nG hg A; replace A := kB A hb; clear hb aP hg; have dk := aN.out; have dl := aF.out; have dm := Z.out; have dn := ah.out; obtain ⟨cm, cn, co, cp⟩ := bG2 F; obtain ⟨an, ak, b7⟩ := Qh a7.out; subst b7; obtain ⟨cq, cr, ct, cu⟩ := bG2 E))
 go_loopg [7] k (fun kq v7 w' => ∃ (al : Int) (ac : Bool) (U : List Int) (aZ : Value), v7 = .int .i64 al ∧ Aside0 (Flc.l0 kq al ae L ac U W M = some r) ∧ Aside0 (kq ≤ k) ∧ Aside0 (Kd.V (Kd.int .u64) 115 w' w.heap.size (fun k_ => k_ ≠ I ∧ k_ ≠ z ∧ k_ ≠ G) aZ U) ∧ Aside0 (Kd.V (Kd.int .u64) 115 w' w.heap.size (fun k_ => k_ ≠ I ∧ k_ ≠ z ∧ k_ ≠ G) (.slice an M.length ak) M) ∧ Aside0 (w'.heap[I]? = some (.cells #[.bool ae, (.slice aH L.length ao)] 73 (0, 0))) ∧ Aside0 (w'.heap[z]? = some (.cells #[.bool ac, aZ] 73 (0, 0))) ∧ Aside0 (w'.heap[G]? = some (.cells #[.bool W, (.slice an M.length ak)] 73 (0, 0))) ∧ BA w w')
 case atStart => exact ⟨(wrap64 ((wrap64 ((L.length : Int) * 16)) - 1)), (aY), (aS), (.slice bv aS.length bw), sI, H', ⟨Nat.le_refl _⟩, ⟨by (with_reducible repeat (first | apply QV | apply QU | apply QJ)); exact QQ (QY (p := ⟨G, 1, none⟩) (QY (p := ⟨G, 0, none⟩) (QQ aE.out (fun k_ hk => (⟨hk, hk.2⟩ : _ ∧ k_ ≠ G))) (fun _ hk => hk.2) (.bool W)) (fun _ hk => hk.2) (.slice an M.length ak)) (fun _ hk => ⟨hk.1.1.1, ⟨hk.1.1.2, hk.1.2⟩⟩)⟩, ⟨by (with_reducible repeat (first | apply QV | apply QU | apply QJ)); exact QQ (QY (p := ⟨G, 1, none⟩) (QY (p := ⟨G, 0, none⟩) (QQ a7.out (fun k_ hk => (⟨hk, hk.2⟩ : _ ∧ k_ ≠ G))) (fun _ hk => hk.2) (.bool W)) (fun _ hk => hk.2) (.slice an M.length ak)) (fun _ hk => ⟨hk.1.1.1, ⟨hk.1.1.2, hk.1.2⟩⟩)⟩, ⟨kN E aF⟩, ⟨kN A ah⟩, ⟨by (with_reducible repeat (first | refine Qj ?_ _ | refine Qu ?_ | refine Qz ?_ _)); exact Qy (Qy F.out 0 _ rfl) 1 _ rfl⟩, bT3 HB P Y ad⟩
 case round =>
  clear H'
  obtain ⟨al, ac, U, aZ, rfl, HA, aR, B, D, E, A, F, HB⟩ := hrel; cases gk with
  | zero => exact absurd HA.out (by simp [Flc.l0])
  | succ k1 =>
   have H := HA.out; clear HA; simp only [Flc.l0] at H
   apply iB H <;> clear H <;> intro bi H
   ·have bX := dT bi; clear bi; replace H := QZ H; obtain ⟨⟨Q, O⟩, bL, H⟩ := H; replace H : (if 0 ≤ (wrap64 (Int.tdiv al 16)) then (if (wrap64 (Int.tdiv al 16)) < (L.length : Int) then (if 0 ≤ (IntKind.u64.wrap (Int.tmod al 16)) then ((Fh.f k1 (wrap64 (Go.bits .and .u64 (shr .u64 (rd L (wrap64 (Int.tdiv al 16))) (IntKind.u64.wrap (Int.tmod al 16))) 1))).bind fun bG => ((Fha.f k1 Q O bG.1 bG.2).bind fun av => ((Fhc.f k1 av.1 av.2 W M).bind fun aJ => (if aJ ≥ 0 then ((Fgc.f k1 W M).bind fun aG => ((Fha.f k1 av.1 av.2 aG.1 aG.2).bind fun ay => (Flc.l0 k1 (wrap64 (al - 1)) ae L ay.1 ay.2 W M))) else (Flc.l0 k1 (wrap64 (al - 1)) ae L av.1 av.2 W M))))) else (none)) else (none)) else (none)) = some r := H; have bs := aM bL; clear bL; obtain ⟨ax, a8⟩ : ∃ j_ : Int, (wrap64 (Int.tdiv al 16)) = j_ := ⟨_, rfl⟩
    first | rw [a8] at H | simp only [a8] at H
    (try rw [a8] at bs)
    have hji20w : (IntKind.i64.wrap (Int.tdiv al 16)) = ax := (i64_w _).trans a8
    apply iN H; clear H; intro bH H; have dp := dT bH; clear bH
    apply iN H; clear H; intro bI H; have dq := dT bI; clear bI; obtain ⟨a9, bk⟩ : ∃ j_ : Int, (IntKind.u64.wrap (Int.tmod al 16)) = j_ := ⟨_, rfl⟩
    first | rw [bk] at H | simp only [bk] at H
    (try rw [bk] at bs)
    apply iN H; clear H; intro bt H; have dr := eq_true bt; have dt := dT bt; clear bt; obtain ⟨a3, aK⟩ : ∃ j_ : Int, (shr .u64 (rd L (ax)) (a9)) = j_ := ⟨_, rfl⟩
    first | rw [aK] at H | simp only [aK] at H
    (try rw [aK] at bs)
    have db : ((rd L (ax)) / 2 ^ min (a9).toNat 64) = a3 := aK; have hji25z : (a9) ≤ 64 → ((rd L (ax)) / 2 ^ (a9).toNat) = a3 := shr_small aK; replace H := QZ H; obtain ⟨⟨aT, aU⟩, bM, H⟩ := H; replace H : ((Fha.f k1 Q O aT aU).bind fun av => ((Fhc.f k1 av.1 av.2 W M).bind fun aJ => (if aJ ≥ 0 then ((Fgc.f k1 W M).bind fun aG => ((Fha.f k1 av.1 av.2 aG.1 aG.2).bind fun ay => (Flc.l0 k1 (wrap64 (al - 1)) ae L ay.1 ay.2 W M))) else (Flc.l0 k1 (wrap64 (al - 1)) ae L av.1 av.2 W M)))) = some r := H; have b0 := aM bM; clear bM; replace H := QZ H; obtain ⟨⟨ab, aa⟩, bN, H⟩ := H; replace H : ((Fhc.f k1 ab aa W M).bind fun aJ => (if aJ ≥ 0 then ((Fgc.f k1 W M).bind fun aG => ((Fha.f k1 ab aa aG.1 aG.2).bind fun ay => (Flc.l0 k1 (wrap64 (al - 1)) ae L ay.1 ay.2 W M))) else (Flc.l0 k1 (wrap64 (al - 1)) ae L ab aa W M))) = some r := H; have b1 := aM bN; clear bN; apply bSx H; clear H; intro aJ b2 H
    apply iB H <;> clear H <;> intro bj H
    ·have bY := dT bj; clear bj; replace H := QZ H; obtain ⟨⟨bm, bn⟩, bP, H⟩ := H; replace H : ((Fha.f k1 ab aa bm bn).bind fun ay => (Flc.l0 k1 (wrap64 (al - 1)) ae L ay.1 ay.2 W M)) = some r := H; have bE := aM bP; clear bP; replace H := QZ H; obtain ⟨⟨ba, a4⟩, bQ, H⟩ := H; replace H : (Flc.l0 k1 (wrap64 (al - 1)) ae L ba a4 W M) = some r := H; have dc := aM bQ; clear bQ; have H' := aM H; clear H; have du := ai.out; have dv := R.out; have dw := ah.out; have dx := Z.out; obtain ⟨cv, cw, cx, cy⟩ := bG2 A; obtain ⟨bo, bp, b8⟩ := Qh B.out; subst b8
     try go_wp2_with (first | ((with_reducible refine Qb (f := 54) rfl ?_); refine gL_ (some 22) Try.func54 #[.agg #[.bool ac, .slice bo U.length bp], .agg #[.bool ac, .slice bo U.length bp]] ?_; (with_reducible refine (Fha.calls k1 ac _ _ U ac _ _ U Q O _ ?s1 ?s2 ?s3 ?s4 bs.out).mono ?_); (case s1 => exact cO (QP B.out).2.2); (case s2 => exact (QP B.out).2.1); (case s3 => exact cO (QP B.out).2.2); (case s4 => exact (QP B.out).2.1); rintro e a5 ⟨b9, rfl, am, hb⟩; refine ⟨_, rfl, ?_⟩; replace B := aM (QX (vO B.out) hb); replace D := aM (QX (vO D.out) hb); have J := aM (Qp (QQ (ok' := fun k_ => k_ ≠ I ∧ k_ ≠ z ∧ k_ ≠ G) am (fun k_ hk_ => ⟨(Qq (g := I) (o := .cells #[.bool ae, .slice aH L.length ao] 73 (0, 0)) (kO E.out) k_ hk_), (Qq (g := z) (o := .cells #[.bool ac, .slice bo U.length bp] 73 (0, 0)) (kO A.out) k_ hk_), (Qq (g := G) (o := .cells #[.bool W, .slice an M.length ak] 73 (0, 0)) (kO F.out) k_ hk_)⟩)) (Qv (bP3 HB P Y ad))); replace E := kB E hb; replace A := kB A hb; replace F := kB F hb; replace HB := hS3 HB P Y ad hb; (try clear hb); (try clear am); obtain ⟨cz, cA, cB, cC⟩ := bG2 A; obtain ⟨ap, aq, ca⟩ := Qh J.out; subst ca))
     have bb : Aside0 (Kd.V (Kd.int .u64) 115 ((a5.setCell ⟨z, 0, none⟩ (.bool Q)).setCell ⟨z, 1, none⟩ (.slice ap O.length aq)) w.heap.size (fun k_ => k_ ≠ I ∧ k_ ≠ z ∧ k_ ≠ G) (.slice bo U.length bp) U) := ⟨by (with_reducible repeat (first | apply QV | apply QU | apply QJ)); exact QQ (QY (p := ⟨z, 1, none⟩) (QY (p := ⟨z, 0, none⟩) (QQ B.out (fun k_ hk => (⟨hk, hk.2.1⟩ : _ ∧ k_ ≠ z))) (fun _ hk => hk.2) (.bool Q)) (fun _ hk => hk.2) (.slice ap O.length aq)) (fun _ hk => ⟨hk.1.1, ⟨hk.1.2.1, hk.1.2.2⟩⟩)⟩; have bc : Aside0 (Kd.V (Kd.int .u64) 115 ((a5.setCell ⟨z, 0, none⟩ (.bool Q)).setCell ⟨z, 1, none⟩ (.slice ap O.length aq)) w.heap.size (fun k_ => k_ ≠ I ∧ k_ ≠ z ∧ k_ ≠ G) (.slice an M.length ak) M) := ⟨by (with_reducible repeat (first | apply QV | apply QU | apply QJ)); exact QQ (QY (p := ⟨z, 1, none⟩) (QY (p := ⟨z, 0, none⟩) (QQ D.out (fun k_ hk => (⟨hk, hk.2.1⟩ : _ ∧ k_ ≠ z))) (fun _ hk => hk.2) (.bool Q)) (fun _ hk => hk.2) (.slice ap O.length aq)) (fun _ hk => ⟨hk.1.1, ⟨hk.1.2.1, hk.1.2.2⟩⟩)⟩; have bd : Aside0 (Kd.V (Kd.int .u64) 115 ((a5.setCell ⟨z, 0, none⟩ (.bool Q)).setCell ⟨z, 1, none⟩ (.slice ap O.length aq)) w.heap.size (fun k_ => k_ ≠ I ∧ k_ ≠ z ∧ k_ ≠ G) (.slice ap O.length aq) O) := ⟨by (with_reducible repeat (first | apply QV | apply QU | apply QJ)); exact QQ (QY (p := ⟨z, 1, none⟩) (QY (p := ⟨z, 0, none⟩) (QQ J.out (fun k_ hk => (⟨hk, hk.2.1⟩ : _ ∧ k_ ≠ z))) (fun _ hk => hk.2) (.bool Q)) (fun _ hk => hk.2) (.slice ap O.length aq)) (fun _ hk => ⟨hk.1.1, ⟨hk.1.2.1, hk.1.2.2⟩⟩)⟩; have be : Aside0 (((a5.setCell ⟨z, 0, none⟩ (.bool Q)).setCell ⟨z, 1, none⟩ (.slice ap O.length aq)).heap[I]? = some (.cells #[.bool ae, .slice aH L.length ao] 73 (0, 0))) := ⟨kN E R⟩; have bf : Aside0 (((a5.setCell ⟨z, 0, none⟩ (.bool Q)).setCell ⟨z, 1, none⟩ (.slice ap O.length aq)).heap[z]? = some (.cells #[.bool Q, .slice ap O.length aq] 73 (0, 0))) := ⟨by (with_reducible repeat (first | refine Qj ?_ _ | refine Qu ?_ | refine Qz ?_ _)); exact Qy (Qy A.out 0 _ rfl) 1 _ rfl⟩; have bg : Aside0 (((a5.setCell ⟨z, 0, none⟩ (.bool Q)).setCell ⟨z, 1, none⟩ (.slice ap O.length aq)).heap[G]? = some (.cells #[.bool W, .slice an M.length ak] 73 (0, 0))) := ⟨kN F Z⟩; have bh : Aside0 (Below w.heap.size w ((a5.setCell ⟨z, 0, none⟩ (.bool Q)).setCell ⟨z, 1, none⟩ (.slice ap O.length aq))) := bT3 HB P Y ad
     (try clear B)
     (try clear D)
     (try clear J)
     (try clear E)
     (try clear A)
     (try clear F)
     (try clear HB)
     generalize ((a5.setCell ⟨z, 0, none⟩ (.bool Q)).setCell ⟨z, 1, none⟩ (.slice ap O.length aq)) = dd at bb bc bd be bf bg bh ⊢; have B := bb; have D := bc; have J := bd; have E := be; have A := bf; have F := bg; have HB := bh; clear bb bc bd be bf bg bh; replace B := aM (QJ B.out); replace D := aM (QJ D.out); replace J := aM (QJ J.out); replace E := kD E; replace A := kD A; replace F := kD F; replace HB := aM (below_drew1 HB.out); have aV : 0 ≤ ((ax) : Int) := oT aO; have aW : (ax) < (L.length : Int) := oT aO; obtain ⟨az, bx, aw⟩ := Kd.at_int bD.out (ax) aV aW; have aj := aw; cases bx; replace aw := cX HB aw; replace aV := eq_true aV; replace aW := eq_true aW; refine start_ (n := 16) (S := fun w' => w'.cell? ⟨z, 0, none⟩ = some (.bool Q) ∧ w'.cell? ⟨z, 1, none⟩ = some (.slice ap O.length aq) ∧ w'.cell? ⟨I, 0, none⟩ = some (.bool ae) ∧ w'.cell? ⟨I, 1, none⟩ = some (.slice (some az) L.length ao) ∧ w'.cell? (az.add ((ax)).toNat) = some (.int .u64 (rd L (ax)))) (ds := [15]) (bl 16 0) (by kernel_rfl) rfl rfl ⟨(QW A.out 0).trans rfl, (QW A.out 1).trans rfl, (QW E.out 0).trans rfl, (QW E.out 1).trans rfl, ((HB.out.cell (World.block_lt_of_cell? w _ aj)).trans aj)⟩ (fun aD => ?_); refine with_tabW Flc.tab7 Flc.bits7 (fun aC aQ => ?_); generalize dd.drew = dY at B D J E A F HB aw aD ⊢; refine pu_ 1 24 (bl 16 2) aC ?_; refine pu_ 3 26 (bl 16 10) aC ?_; refine pu_ 4 27 (bl 16 26) aC ?_; refine pu_ 7 30 (bl 16 154) aC ?_; refine pu_ 8 31 (bl 16 410) aC ?_; refine pu_ 9 32 (bl 16 922) aC ?_; refine tk5_ 0 23 (bl 16 923) aC aQ aD ?_; refine tk5_ 2 25 (bl 16 927) aC aQ aD ?_; refine pu_ 5 28 (bl 16 959) aC ?_; refine tk5_ 6 29 (bl 16 1023) aC aQ aD ?_; refine pu_ 10 33 (bl 16 2047) aC ?_; refine pu_ 11 34 (bl 16 4095) aC ?_; refine pu_ 12 35 (bl 16 8191) aC ?_; refine one_ (i := 13) (N := some 36) (bl 16 16383) rfl rfl (one_of aC.out (by kernel_rfl)) (by decide) (fun K hK => ?_); refine goes_ Try.func53 (by kernel_rfl) rfl #[.int .i64 (wrap64 (Go.bits .and .u64 (a3) 1))] (by rfl) rfl rfl (by (try simp only [List.map_toArray, List.map_cons, List.map_nil]); first | done | (simp only [aK]; rfl) | rfl | (simp only [List.length_drop, List.length_take]; rfl)) ?_
     with_reducible refine (Fh.calls k1 (wrap64 (Go.bits .and .u64 (a3) 1)) aT aU _ b0.out).mono ?_
     rintro e dZ ⟨cb, rfl, am, hb⟩; refine ⟨_, rfl, ?_⟩; replace B := aM (QX (vO B.out) hb); replace D := aM (QX (vO D.out) hb); replace J := aM (QX (vO J.out) hb); have af := aM (Qp (QQ (ok' := fun k_ => k_ ≠ I ∧ k_ ≠ z ∧ k_ ≠ G) am (fun k_ hk_ => ⟨(Qq (g := I) (o := .cells #[.bool ae, .slice (some az) L.length ao] 73 (0, 0)) (kO E.out) k_ hk_), (Qq (g := z) (o := .cells #[.bool Q, .slice ap O.length aq] 73 (0, 0)) (kO A.out) k_ hk_), (Qq (g := G) (o := .cells #[.bool W, .slice an M.length ak] 73 (0, 0)) (kO F.out) k_ hk_)⟩)) (Qv (bP3 HB P Y ad))); replace E := kB E hb; replace A := kB A hb; replace F := kB F hb; replace HB := hS3 HB P Y ad hb
     (try clear hb)
     (try clear bu)
     (try clear hk)
     (try clear hi)
     (try clear am)
     obtain ⟨cc, cd, bR⟩ := Qh af.out
     (first | subst bR | obtain ⟨rfl, rfl⟩ := iS bR)
     refine hK.out _ _ ⟨(QW A.out 0).trans rfl, (QW A.out 1).trans rfl, (QW E.out 0).trans rfl, (QW E.out 1).trans rfl, ((HB.out.cell (World.block_lt_of_cell? w _ aj)).trans aj)⟩ (fun aD => ?_); clear hK K; refine nm_ 36 ?_; refine one_ (i := 14) (N := some 37) (bl 16 32767) rfl rfl (one_of aC.out (by kernel_rfl)) (by decide) (fun K hK => ?_); refine gS_ Try.func54 #[.agg #[.bool Q, .slice ap O.length aq], .agg #[.bool aT, .slice cc aU.length cd]] ?_
     with_reducible refine (Fha.calls k1 Q _ _ O aT _ _ aU ab aa _ ?s1 ?s2 ?s3 ?s4 b1.out).mono ?_
     (case s1 => exact cO (QP J.out).2.2)
     (case s2 => exact (QP J.out).2.1)
     (case s3 => exact cO (QP af.out).2.2)
     (case s4 => exact (QP af.out).2.1)
     rintro e b3 ⟨ce, rfl, am, hb⟩; refine ⟨_, rfl, ?_⟩; replace B := aM (QX (vO B.out) hb); replace D := aM (QX (vO D.out) hb); replace J := aM (QX (vO J.out) hb); replace af := aM (QX (vO af.out) hb); have ag := aM (Qp (QQ (ok' := fun k_ => k_ ≠ I ∧ k_ ≠ z ∧ k_ ≠ G) am (fun k_ hk_ => ⟨(Qq (g := I) (o := .cells #[.bool ae, .slice (some az) L.length ao] 73 (0, 0)) (kO E.out) k_ hk_), (Qq (g := z) (o := .cells #[.bool Q, .slice ap O.length aq] 73 (0, 0)) (kO A.out) k_ hk_), (Qq (g := G) (o := .cells #[.bool W, .slice an M.length ak] 73 (0, 0)) (kO F.out) k_ hk_)⟩)) (Qv (bP3 HB P Y ad))); replace E := kB E hb; replace A := kB A hb; replace F := kB F hb; replace HB := hS3 HB P Y ad hb
     (try clear hb)
     (try clear bu)
     (try clear hk)
     (try clear hi)
     (try clear am)
     obtain ⟨aB, aA, bS⟩ := Qh ag.out
     (first | subst bS | obtain ⟨rfl, rfl⟩ := iS bS)
     refine hK.out _ _ ⟨(QW A.out 0).trans rfl, (QW A.out 1).trans rfl, (QW E.out 0).trans rfl, (QW E.out 1).trans rfl, ((HB.out.cell (World.block_lt_of_cell? w _ aj)).trans aj)⟩ (fun aD => ?_); clear hK K; refine nm_ 37 ?_; refine last_ (i := 15) (N := none) (bl 16 65535) rfl rfl (one_of aC.out (by kernel_rfl)) (by decide) (fun K hK => ?_); have hs44 : b3.cell? ⟨z, 0, none⟩ = some (.bool Q) := (QW A.out 0).trans rfl; have hfs44 := Qt A.out 0; have hns44_0 := R.out; have hns44_2 := Z.out; have hms44_0 := ai.out; have hms44_2 := ah.out; have hs46 : b3.cell? ⟨z, 1, none⟩ = some (.slice ap O.length aq) := (QW A.out 1).trans rfl; have hfs46 := Qt A.out 1; have hns46_0 := R.out; have hns46_2 := Z.out; have hms46_0 := ai.out; have hms46_2 := ah.out; refine skip_ (w1 := ?_) (by rfl) rfl ?_ ?_; rotate_left
     ·go_simp
      rfl
     refine hK.out _ _ ?_; clear hK K; refine done_ (done_of aC.out (by kernel_rfl)) ?_; obtain ⟨cD, cE, cF, cG⟩ := bG2 A; have dy := aN.out; have dz := aF.out; obtain ⟨cH, cI, cJ, cK⟩ := bG2 F
     try go_wp2_with (first | ((with_reducible refine Qb (f := 79) rfl ?_); refine gL_ (some 40) Try.func79 #[.agg #[.bool ab, .slice aB aa.length aA], .agg #[.bool W, .slice an M.length ak]] ?_; (with_reducible refine (Fhc.calls k1 ab _ _ aa W _ _ M aJ _ ?s1 ?s2 ?s3 ?s4 b2.out).mono ?_); (case s1 => refine (QP (e := 115) (base := w.heap.size) (ok := fun k_ => (k_ ≠ I ∧ (k_ ≠ z ∧ k_ ≠ G))) (n := aa.length) (c := aA) ?_).2.2; exact (by (with_reducible repeat (first | apply QV | apply QU | apply QJ)); exact (QQ (QY (p := ⟨z, 1, none⟩) (QY (p := ⟨z, 0, none⟩) (QQ ag.out (fun k_ hk => (⟨hk, hk.2.1⟩ : _ ∧ k_ ≠ z))) (fun _ hk => hk.2) (.bool ab)) (fun _ hk => hk.2) (.slice aB aa.length aA)) (fun _ h_ => h_.1)))); (case s2 => exact (QP ag.out).2.1); (case s3 => refine (QP (e := 115) (base := w.heap.size) (ok := fun k_ => (k_ ≠ I ∧ (k_ ≠ z ∧ k_ ≠ G))) (n := M.length) (c := ak) ?_).2.2; exact (by (with_reducible repeat (first | apply QV | apply QU | apply QJ)); exact (QQ (QY (p := ⟨z, 1, none⟩) (QY (p := ⟨z, 0, none⟩) (QQ D.out (fun k_ hk => (⟨hk, hk.2.1⟩ : _ ∧ k_ ≠ z))) (fun _ hk => hk.2) (.bool ab)) (fun _ hk => hk.2) (.slice aB aa.length aA)) (fun _ h_ => h_.1)))); (case s4 => exact (QP D.out).2.1); rintro e de ⟨rfl, hb⟩; refine ⟨_, rfl, ?_⟩; replace B := aM (QX (by (with_reducible repeat (first | apply QV | apply QU | apply QJ)); exact (QQ (QY (p := ⟨z, 1, none⟩) (QY (p := ⟨z, 0, none⟩) (QQ B.out (fun k_ hk => (⟨hk, hk.2.1⟩ : _ ∧ k_ ≠ z))) (fun _ hk => hk.2) (.bool ab)) (fun _ hk => hk.2) (.slice aB aa.length aA)) (fun _ h_ => h_.1))) hb); replace D := aM (QX (by (with_reducible repeat (first | apply QV | apply QU | apply QJ)); exact (QQ (QY (p := ⟨z, 1, none⟩) (QY (p := ⟨z, 0, none⟩) (QQ D.out (fun k_ hk => (⟨hk, hk.2.1⟩ : _ ∧ k_ ≠ z))) (fun _ hk => hk.2) (.bool ab)) (fun _ hk => hk.2) (.slice aB aa.length aA)) (fun _ h_ => h_.1))) hb); replace J := aM (QX (by (with_reducible repeat (first | apply QV | apply QU | apply QJ)); exact (QQ (QY (p := ⟨z, 1, none⟩) (QY (p := ⟨z, 0, none⟩) (QQ J.out (fun k_ hk => (⟨hk, hk.2.1⟩ : _ ∧ k_ ≠ z))) (fun _ hk => hk.2) (.bool ab)) (fun _ hk => hk.2) (.slice aB aa.length aA)) (fun _ h_ => h_.1))) hb); replace af := aM (QX (by (with_reducible repeat (first | apply QV | apply QU | apply QJ)); exact (QQ (QY (p := ⟨z, 1, none⟩) (QY (p := ⟨z, 0, none⟩) (QQ af.out (fun k_ hk => (⟨hk, hk.2.1⟩ : _ ∧ k_ ≠ z))) (fun _ hk => hk.2) (.bool ab)) (fun _ hk => hk.2) (.slice aB aa.length aA)) (fun _ h_ => h_.1))) hb); replace ag := aM (QX (by (with_reducible repeat (first | apply QV | apply QU | apply QJ)); exact (QQ (QY (p := ⟨z, 1, none⟩) (QY (p := ⟨z, 0, none⟩) (QQ ag.out (fun k_ hk => (⟨hk, hk.2.1⟩ : _ ∧ k_ ≠ z))) (fun _ hk => hk.2) (.bool ab)) (fun _ hk => hk.2) (.slice aB aa.length aA)) (fun _ h_ => h_.1))) hb); replace E := kX1 E R hb; replace A := kP2 A hb; replace F := kX1 F Z hb; replace HB := hS3 HB P Y ad hb; (try clear hb); (try clear hk)))
     replace B := aM (QJ B.out); replace D := aM (QJ D.out); replace J := aM (QJ J.out); replace af := aM (QJ af.out); replace ag := aM (QJ ag.out); replace E := kD E; replace A := kD A; replace F := kD F; replace HB := aM (below_drew1 HB.out); refine start_ (n := 5) (S := fun w' => w'.cell? ⟨z, 0, none⟩ = some (.bool ab) ∧ w'.cell? ⟨z, 1, none⟩ = some (.slice aB aa.length aA) ∧ w'.cell? ⟨G, 0, none⟩ = some (.bool W) ∧ w'.cell? ⟨G, 1, none⟩ = some (.slice an M.length ak)) (ds := [4]) (bl 5 0) (by kernel_rfl) rfl rfl ⟨(QW A.out 0).trans rfl, (QW A.out 1).trans rfl, (QW F.out 0).trans rfl, (QW F.out 1).trans rfl⟩ (fun aD => ?_); generalize de.drew = d0 at B D J af ag E A F HB aD ⊢; refine take_ (i := 0) (N := some 42) (v := ?_) (a' := ?_) (bl 5 1) rfl rfl (by kernel_rfl) (fun _ _ _ h => h) (Or.inl ⟨by rfl, ?_⟩) aD ?_ ?_; rotate_left
     ·rintro w' ⟨s0, s1, s2, s3⟩
      go_simp
      with_reducible rfl
     rotate_left
     ·simp only [Act.put, sA, sB, sC, i64_w, i32_w]
      rfl
     refine take_ (i := 1) (N := some 43) (v := ?_) (a' := ?_) (bl 5 3) rfl rfl (by kernel_rfl) (fun _ _ _ h => h) (Or.inl ⟨by rfl, ?_⟩) aD ?_ ?_; rotate_left
     ·rintro w' ⟨s0, s1, s2, s3⟩
      go_simp
      with_reducible rfl
     rotate_left
     ·simp only [Act.put, sA, sB, sC, i64_w, i32_w]
      rfl
     refine one_ (i := 2) (N := some 44) (bl 5 7) rfl rfl (by kernel_rfl) (by decide) (fun K hK => ?_); refine gS_ Try.func55 #[.agg #[.bool W, .slice an M.length ak]] ?_
     with_reducible refine (Fgc.calls k1 W (fun k_ => (k_ ≠ I ∧ (k_ ≠ z ∧ k_ ≠ G))) _ _ M bm bn _ ?s1 bE.out).mono ?_
     (case s1 => exact D.out)
     rintro e d1 ⟨dR, rfl, am, hb⟩; refine ⟨_, rfl, ?_⟩; replace B := aM (QX (vO B.out) hb); replace D := aM (QX (vO D.out) hb); replace J := aM (QX (vO J.out) hb); replace af := aM (QX (vO af.out) hb); replace ag := aM (QX (vO ag.out) hb); have aX := aM (Qp (QQ (ok' := fun k_ => k_ ≠ I ∧ k_ ≠ z ∧ k_ ≠ G) am (fun k_ hk_ => ⟨Or.elim hk_ (fun hs_ => hs_.1) (fun hn_ => (Qq (g := I) (o := .cells #[.bool ae, .slice (some az) L.length ao] 73 (0, 0)) (kO E.out) k_ hn_)), Or.elim hk_ (fun hs_ => hs_.2.1) (fun hn_ => (Qq (g := z) (o := .cells #[.bool ab, .slice aB aa.length aA] 73 (0, 0)) (kO A.out) k_ hn_)), Or.elim hk_ (fun hs_ => hs_.2.2) (fun hn_ => (Qq (g := G) (o := .cells #[.bool W, .slice an M.length ak] 73 (0, 0)) (kO F.out) k_ hn_))⟩)) (Qv (bP3 HB P Y ad))); replace E := kB E hb; replace A := kB A hb; replace F := kB F hb; replace HB := hS3 HB P Y ad hb
     (try clear hb)
     (try clear bu)
     (try clear hk)
     (try clear hi)
     (try clear am)
     obtain ⟨cf, cg, bT⟩ := Qh aX.out
     (first | subst bT | obtain ⟨rfl, rfl⟩ := iS bT)
     refine hK.out _ _ ⟨(QW A.out 0).trans rfl, (QW A.out 1).trans rfl, (QW F.out 0).trans rfl, (QW F.out 1).trans rfl⟩ (fun aD => ?_); clear hK K; refine nm_ 44 ?_; refine one_ (i := 3) (N := some 45) (bl 5 15) rfl rfl (by kernel_rfl) (by decide) (fun K hK => ?_); refine gS_ Try.func54 #[.agg #[.bool ab, .slice aB aa.length aA], .agg #[.bool bm, .slice cf bn.length cg]] ?_
     with_reducible refine (Fha.calls k1 ab _ _ aa bm _ _ bn ba a4 _ ?s1 ?s2 ?s3 ?s4 dc.out).mono ?_
     (case s1 => exact cO (QP ag.out).2.2)
     (case s2 => exact (QP ag.out).2.1)
     (case s3 => exact cO (QP aX.out).2.2)
     (case s4 => exact (QP aX.out).2.1)
     rintro e b4 ⟨dS, rfl, am, hb⟩; refine ⟨_, rfl, ?_⟩; replace B := aM (QX (vO B.out) hb); replace D := aM (QX (vO D.out) hb); replace J := aM (QX (vO J.out) hb); replace af := aM (QX (vO af.out) hb); replace ag := aM (QX (vO ag.out) hb); replace aX := aM (QX (vO aX.out) hb); have bJ := aM (Qp (QQ (ok' := fun k_ => k_ ≠ I ∧ k_ ≠ z ∧ k_ ≠ G) am (fun k_ hk_ => ⟨(Qq (g := I) (o := .cells #[.bool ae, .slice (some az) L.length ao] 73 (0, 0)) (kO E.out) k_ hk_), (Qq (g := z) (o := .cells #[.bool ab, .slice aB aa.length aA] 73 (0, 0)) (kO A.out) k_ hk_), (Qq (g := G) (o := .cells #[.bool W, .slice an M.length ak] 73 (0, 0)) (kO F.out) k_ hk_)⟩)) (Qv (bP3 HB P Y ad))); replace E := kB E hb; replace A := kB A hb; replace F := kB F hb; replace HB := hS3 HB P Y ad hb
     (try clear hb)
     (try clear bu)
     (try clear hk)
     (try clear hi)
     (try clear am)
     obtain ⟨bz, bA, bU⟩ := Qh bJ.out
     (first | subst bU | obtain ⟨rfl, rfl⟩ := iS bU)
     refine hK.out _ _ ⟨(QW A.out 0).trans rfl, (QW A.out 1).trans rfl, (QW F.out 0).trans rfl, (QW F.out 1).trans rfl⟩ (fun aD => ?_); clear hK K; refine nm_ 45 ?_; refine last_ (i := 4) (N := none) (bl 5 31) rfl rfl (by kernel_rfl) (by decide) (fun K hK => ?_); have hs55 : b4.cell? ⟨z, 0, none⟩ = some (.bool ab) := (QW A.out 0).trans rfl; have hfs55 := Qt A.out 0; have hns55_0 := R.out; have hns55_2 := Z.out; have hms55_0 := ai.out; have hms55_2 := ah.out; have hs57 : b4.cell? ⟨z, 1, none⟩ = some (.slice aB aa.length aA) := (QW A.out 1).trans rfl; have hfs57 := Qt A.out 1; have hns57_0 := R.out; have hns57_2 := Z.out; have hms57_0 := ai.out; have hms57_2 := ah.out; refine skip_ (w1 := ?_) (by rfl) rfl ?_ ?_; rotate_left
     ·go_simp
      rfl
     refine hK.out _ _ ?_; clear hK K; refine done_ (by kernel_rfl) ?_
     try go_wp2
     go_roundg k1
     case measure => have := aR.out; omega
     case rel => exact ⟨(wrap64 (al - 1)), (ba), (a4), (.slice bz a4.length bA), sI, H', ⟨by have := aR.out; omega⟩, ⟨by (with_reducible repeat (first | apply QV | apply QU | apply QJ)); exact QQ (QY (p := ⟨z, 1, none⟩) (QY (p := ⟨z, 0, none⟩) (QQ bJ.out (fun k_ hk => (⟨hk, hk.2.1⟩ : _ ∧ k_ ≠ z))) (fun _ hk => hk.2) (.bool ba)) (fun _ hk => hk.2) (.slice bz a4.length bA)) (fun _ hk => ⟨hk.1.1, ⟨hk.1.2.1, hk.1.2.2⟩⟩)⟩, ⟨by (with_reducible repeat (first | apply QV | apply QU | apply QJ)); exact QQ (QY (p := ⟨z, 1, none⟩) (QY (p := ⟨z, 0, none⟩) (QQ D.out (fun k_ hk => (⟨hk, hk.2.1⟩ : _ ∧ k_ ≠ z))) (fun _ hk => hk.2) (.bool ba)) (fun _ hk => hk.2) (.slice bz a4.length bA)) (fun _ hk => ⟨hk.1.1, ⟨hk.1.2.1, hk.1.2.2⟩⟩)⟩, ⟨kN E R⟩, ⟨by (with_reducible repeat (first | refine Qj ?_ _ | refine Qu ?_ | refine Qz ?_ _)); exact Qy (Qy A.out 0 _ rfl) 1 _ rfl⟩, ⟨kN F Z⟩, bT3 HB P Y ad⟩
    ·have bY := decide_eq_false bj; clear bj; have H' := aM H; clear H; have dA := ai.out; have dB := R.out; have dC := ah.out; have dD := Z.out; obtain ⟨cL, cM, cN, cP⟩ := bG2 A; obtain ⟨bq, br, ch⟩ := Qh B.out; subst ch
     try go_wp2_with (first | ((with_reducible refine Qb (f := 54) rfl ?_); refine gL_ (some 22) Try.func54 #[.agg #[.bool ac, .slice bq U.length br], .agg #[.bool ac, .slice bq U.length br]] ?_; (with_reducible refine (Fha.calls k1 ac _ _ U ac _ _ U Q O _ ?s1 ?s2 ?s3 ?s4 bs.out).mono ?_); (case s1 => exact cO (QP B.out).2.2); (case s2 => exact (QP B.out).2.1); (case s3 => exact cO (QP B.out).2.2); (case s4 => exact (QP B.out).2.1); rintro e a6 ⟨b9, rfl, am, hb⟩; refine ⟨_, rfl, ?_⟩; replace B := aM (QX (vO B.out) hb); replace D := aM (QX (vO D.out) hb); have J := aM (Qp (QQ (ok' := fun k_ => k_ ≠ I ∧ k_ ≠ z ∧ k_ ≠ G) am (fun k_ hk_ => ⟨(Qq (g := I) (o := .cells #[.bool ae, .slice aH L.length ao] 73 (0, 0)) (kO E.out) k_ hk_), (Qq (g := z) (o := .cells #[.bool ac, .slice bq U.length br] 73 (0, 0)) (kO A.out) k_ hk_), (Qq (g := G) (o := .cells #[.bool W, .slice an M.length ak] 73 (0, 0)) (kO F.out) k_ hk_)⟩)) (Qv (bP3 HB P Y ad))); replace E := kB E hb; replace A := kB A hb; replace F := kB F hb; replace HB := hS3 HB P Y ad hb; (try clear hb); (try clear am); obtain ⟨cQ, cR, cS, cT⟩ := bG2 A; obtain ⟨ar, au, ci⟩ := Qh J.out; subst ci))
     have bb : Aside0 (Kd.V (Kd.int .u64) 115 ((a6.setCell ⟨z, 0, none⟩ (.bool Q)).setCell ⟨z, 1, none⟩ (.slice ar O.length au)) w.heap.size (fun k_ => k_ ≠ I ∧ k_ ≠ z ∧ k_ ≠ G) (.slice bq U.length br) U) := ⟨by (with_reducible repeat (first | apply QV | apply QU | apply QJ)); exact QQ (QY (p := ⟨z, 1, none⟩) (QY (p := ⟨z, 0, none⟩) (QQ B.out (fun k_ hk => (⟨hk, hk.2.1⟩ : _ ∧ k_ ≠ z))) (fun _ hk => hk.2) (.bool Q)) (fun _ hk => hk.2) (.slice ar O.length au)) (fun _ hk => ⟨hk.1.1, ⟨hk.1.2.1, hk.1.2.2⟩⟩)⟩; have bc : Aside0 (Kd.V (Kd.int .u64) 115 ((a6.setCell ⟨z, 0, none⟩ (.bool Q)).setCell ⟨z, 1, none⟩ (.slice ar O.length au)) w.heap.size (fun k_ => k_ ≠ I ∧ k_ ≠ z ∧ k_ ≠ G) (.slice an M.length ak) M) := ⟨by (with_reducible repeat (first | apply QV | apply QU | apply QJ)); exact QQ (QY (p := ⟨z, 1, none⟩) (QY (p := ⟨z, 0, none⟩) (QQ D.out (fun k_ hk => (⟨hk, hk.2.1⟩ : _ ∧ k_ ≠ z))) (fun _ hk => hk.2) (.bool Q)) (fun _ hk => hk.2) (.slice ar O.length au)) (fun _ hk => ⟨hk.1.1, ⟨hk.1.2.1, hk.1.2.2⟩⟩)⟩; have bd : Aside0 (Kd.V (Kd.int .u64) 115 ((a6.setCell ⟨z, 0, none⟩ (.bool Q)).setCell ⟨z, 1, none⟩ (.slice ar O.length au)) w.heap.size (fun k_ => k_ ≠ I ∧ k_ ≠ z ∧ k_ ≠ G) (.slice ar O.length au) O) := ⟨by (with_reducible repeat (first | apply QV | apply QU | apply QJ)); exact QQ (QY (p := ⟨z, 1, none⟩) (QY (p := ⟨z, 0, none⟩) (QQ J.out (fun k_ hk => (⟨hk, hk.2.1⟩ : _ ∧ k_ ≠ z))) (fun _ hk => hk.2) (.bool Q)) (fun _ hk => hk.2) (.slice ar O.length au)) (fun _ hk => ⟨hk.1.1, ⟨hk.1.2.1, hk.1.2.2⟩⟩)⟩; have be : Aside0 (((a6.setCell ⟨z, 0, none⟩ (.bool Q)).setCell ⟨z, 1, none⟩ (.slice ar O.length au)).heap[I]? = some (.cells #[.bool ae, .slice aH L.length ao] 73 (0, 0))) := ⟨kN E R⟩; have bf : Aside0 (((a6.setCell ⟨z, 0, none⟩ (.bool Q)).setCell ⟨z, 1, none⟩ (.slice ar O.length au)).heap[z]? = some (.cells #[.bool Q, .slice ar O.length au] 73 (0, 0))) := ⟨by (with_reducible repeat (first | refine Qj ?_ _ | refine Qu ?_ | refine Qz ?_ _)); exact Qy (Qy A.out 0 _ rfl) 1 _ rfl⟩; have bg : Aside0 (((a6.setCell ⟨z, 0, none⟩ (.bool Q)).setCell ⟨z, 1, none⟩ (.slice ar O.length au)).heap[G]? = some (.cells #[.bool W, .slice an M.length ak] 73 (0, 0))) := ⟨kN F Z⟩; have bh : Aside0 (Below w.heap.size w ((a6.setCell ⟨z, 0, none⟩ (.bool Q)).setCell ⟨z, 1, none⟩ (.slice ar O.length au))) := bT3 HB P Y ad
     (try clear B)
     (try clear D)
     (try clear J)
     (try clear E)
     (try clear A)
     (try clear F)
     (try clear HB)
     generalize ((a6.setCell ⟨z, 0, none⟩ (.bool Q)).setCell ⟨z, 1, none⟩ (.slice ar O.length au)) = df at bb bc bd be bf bg bh ⊢; have B := bb; have D := bc; have J := bd; have E := be; have A := bf; have F := bg; have HB := bh; clear bb bc bd be bf bg bh; replace B := aM (QJ B.out); replace D := aM (QJ D.out); replace J := aM (QJ J.out); replace E := kD E; replace A := kD A; replace F := kD F; replace HB := aM (below_drew1 HB.out); have aV : 0 ≤ ((ax) : Int) := oT aO; have aW : (ax) < (L.length : Int) := oT aO; obtain ⟨az, bx, aw⟩ := Kd.at_int bD.out (ax) aV aW; have aj := aw; cases bx; replace aw := cX HB aw; replace aV := eq_true aV; replace aW := eq_true aW; refine start_ (n := 16) (S := fun w' => w'.cell? ⟨z, 0, none⟩ = some (.bool Q) ∧ w'.cell? ⟨z, 1, none⟩ = some (.slice ar O.length au) ∧ w'.cell? ⟨I, 0, none⟩ = some (.bool ae) ∧ w'.cell? ⟨I, 1, none⟩ = some (.slice (some az) L.length ao) ∧ w'.cell? (az.add ((ax)).toNat) = some (.int .u64 (rd L (ax)))) (ds := [15]) (bl 16 0) (by kernel_rfl) rfl rfl ⟨(QW A.out 0).trans rfl, (QW A.out 1).trans rfl, (QW E.out 0).trans rfl, (QW E.out 1).trans rfl, ((HB.out.cell (World.block_lt_of_cell? w _ aj)).trans aj)⟩ (fun aD => ?_); refine with_tabW Flc.tab7 Flc.bits7 (fun aC aQ => ?_); generalize df.drew = d2 at B D J E A F HB aw aD ⊢; refine pu_ 1 24 (bl 16 2) aC ?_; refine pu_ 3 26 (bl 16 10) aC ?_; refine pu_ 4 27 (bl 16 26) aC ?_; refine pu_ 7 30 (bl 16 154) aC ?_; refine pu_ 8 31 (bl 16 410) aC ?_; refine pu_ 9 32 (bl 16 922) aC ?_; refine tk5_ 0 23 (bl 16 923) aC aQ aD ?_; refine tk5_ 2 25 (bl 16 927) aC aQ aD ?_; refine pu_ 5 28 (bl 16 959) aC ?_; refine tk5_ 6 29 (bl 16 1023) aC aQ aD ?_; refine pu_ 10 33 (bl 16 2047) aC ?_; refine pu_ 11 34 (bl 16 4095) aC ?_; refine pu_ 12 35 (bl 16 8191) aC ?_; refine one_ (i := 13) (N := some 36) (bl 16 16383) rfl rfl (one_of aC.out (by kernel_rfl)) (by decide) (fun K hK => ?_); refine goes_ Try.func53 (by kernel_rfl) rfl #[.int .i64 (wrap64 (Go.bits .and .u64 (a3) 1))] (by rfl) rfl rfl (by (try simp only [List.map_toArray, List.map_cons, List.map_nil]); first | done | (simp only [aK]; rfl) | rfl | (simp only [List.length_drop, List.length_take]; rfl)) ?_
     with_reducible refine (Fh.calls k1 (wrap64 (Go.bits .and .u64 (a3) 1)) aT aU _ b0.out).mono ?_
     rintro e d3 ⟨cb, rfl, am, hb⟩; refine ⟨_, rfl, ?_⟩; replace B := aM (QX (vO B.out) hb); replace D := aM (QX (vO D.out) hb); replace J := aM (QX (vO J.out) hb); have af := aM (Qp (QQ (ok' := fun k_ => k_ ≠ I ∧ k_ ≠ z ∧ k_ ≠ G) am (fun k_ hk_ => ⟨(Qq (g := I) (o := .cells #[.bool ae, .slice (some az) L.length ao] 73 (0, 0)) (kO E.out) k_ hk_), (Qq (g := z) (o := .cells #[.bool Q, .slice ar O.length au] 73 (0, 0)) (kO A.out) k_ hk_), (Qq (g := G) (o := .cells #[.bool W, .slice an M.length ak] 73 (0, 0)) (kO F.out) k_ hk_)⟩)) (Qv (bP3 HB P Y ad))); replace E := kB E hb; replace A := kB A hb; replace F := kB F hb; replace HB := hS3 HB P Y ad hb
     (try clear hb)
     (try clear bu)
     (try clear hk)
     (try clear hi)
     (try clear am)
     obtain ⟨cj, ck, bV⟩ := Qh af.out
     (first | subst bV | obtain ⟨rfl, rfl⟩ := iS bV)
     refine hK.out _ _ ⟨(QW A.out 0).trans rfl, (QW A.out 1).trans rfl, (QW E.out 0).trans rfl, (QW E.out 1).trans rfl, ((HB.out.cell (World.block_lt_of_cell? w _ aj)).trans aj)⟩ (fun aD => ?_); clear hK K; refine nm_ 36 ?_; refine one_ (i := 14) (N := some 37) (bl 16 32767) rfl rfl (one_of aC.out (by kernel_rfl)) (by decide) (fun K hK => ?_); refine gS_ Try.func54 #[.agg #[.bool Q, .slice ar O.length au], .agg #[.bool aT, .slice cj aU.length ck]] ?_
     with_reducible refine (Fha.calls k1 Q _ _ O aT _ _ aU ab aa _ ?s1 ?s2 ?s3 ?s4 b1.out).mono ?_
     (case s1 => exact cO (QP J.out).2.2)
     (case s2 => exact (QP J.out).2.1)
     (case s3 => exact cO (QP af.out).2.2)
     (case s4 => exact (QP af.out).2.1)
     rintro e b5 ⟨ce, rfl, am, hb⟩; refine ⟨_, rfl, ?_⟩; replace B := aM (QX (vO B.out) hb); replace D := aM (QX (vO D.out) hb); replace J := aM (QX (vO J.out) hb); replace af := aM (QX (vO af.out) hb); have ag := aM (Qp (QQ (ok' := fun k_ => k_ ≠ I ∧ k_ ≠ z ∧ k_ ≠ G) am (fun k_ hk_ => ⟨(Qq (g := I) (o := .cells #[.bool ae, .slice (some az) L.length ao] 73 (0, 0)) (kO E.out) k_ hk_), (Qq (g := z) (o := .cells #[.bool Q, .slice ar O.length au] 73 (0, 0)) (kO A.out) k_ hk_), (Qq (g := G) (o := .cells #[.bool W, .slice an M.length ak] 73 (0, 0)) (kO F.out) k_ hk_)⟩)) (Qv (bP3 HB P Y ad))); replace E := kB E hb; replace A := kB A hb; replace F := kB F hb; replace HB := hS3 HB P Y ad hb
     (try clear hb)
     (try clear bu)
     (try clear hk)
     (try clear hi)
     (try clear am)
     obtain ⟨aL, aI, bW⟩ := Qh ag.out
     (first | subst bW | obtain ⟨rfl, rfl⟩ := iS bW)
     refine hK.out _ _ ⟨(QW A.out 0).trans rfl, (QW A.out 1).trans rfl, (QW E.out 0).trans rfl, (QW E.out 1).trans rfl, ((HB.out.cell (World.block_lt_of_cell? w _ aj)).trans aj)⟩ (fun aD => ?_); clear hK K; refine nm_ 37 ?_; refine last_ (i := 15) (N := none) (bl 16 65535) rfl rfl (one_of aC.out (by kernel_rfl)) (by decide) (fun K hK => ?_); have hs70 : b5.cell? ⟨z, 0, none⟩ = some (.bool Q) := (QW A.out 0).trans rfl; have hfs70 := Qt A.out 0; have hns70_0 := R.out; have hns70_2 := Z.out; have hms70_0 := ai.out; have hms70_2 := ah.out; have hs72 : b5.cell? ⟨z, 1, none⟩ = some (.slice ar O.length au) := (QW A.out 1).trans rfl; have hfs72 := Qt A.out 1; have hns72_0 := R.out; have hns72_2 := Z.out; have hms72_0 := ai.out; have hms72_2 := ah.out; refine skip_ (w1 := ?_) (by rfl) rfl ?_ ?_; rotate_left
     ·go_simp
      rfl
     refine hK.out _ _ ?_; clear hK K; refine done_ (done_of aC.out (by kernel_rfl)) ?_; obtain ⟨cU, cV, cW, cY⟩ := bG2 A; have dE := aN.out; have dF := aF.out; obtain ⟨cZ, c0, c1, c2⟩ := bG2 F
     try go_wp2_with (first | ((with_reducible refine Qb (f := 79) rfl ?_); refine gL_ (some 40) Try.func79 #[.agg #[.bool ab, .slice aL aa.length aI], .agg #[.bool W, .slice an M.length ak]] ?_; (with_reducible refine (Fhc.calls k1 ab _ _ aa W _ _ M aJ _ ?s1 ?s2 ?s3 ?s4 b2.out).mono ?_); (case s1 => refine (QP (e := 115) (base := w.heap.size) (ok := fun k_ => (k_ ≠ I ∧ (k_ ≠ z ∧ k_ ≠ G))) (n := aa.length) (c := aI) ?_).2.2; exact (by (with_reducible repeat (first | apply QV | apply QU | apply QJ)); exact (QQ (QY (p := ⟨z, 1, none⟩) (QY (p := ⟨z, 0, none⟩) (QQ ag.out (fun k_ hk => (⟨hk, hk.2.1⟩ : _ ∧ k_ ≠ z))) (fun _ hk => hk.2) (.bool ab)) (fun _ hk => hk.2) (.slice aL aa.length aI)) (fun _ h_ => h_.1)))); (case s2 => exact (QP ag.out).2.1); (case s3 => refine (QP (e := 115) (base := w.heap.size) (ok := fun k_ => (k_ ≠ I ∧ (k_ ≠ z ∧ k_ ≠ G))) (n := M.length) (c := ak) ?_).2.2; exact (by (with_reducible repeat (first | apply QV | apply QU | apply QJ)); exact (QQ (QY (p := ⟨z, 1, none⟩) (QY (p := ⟨z, 0, none⟩) (QQ D.out (fun k_ hk => (⟨hk, hk.2.1⟩ : _ ∧ k_ ≠ z))) (fun _ hk => hk.2) (.bool ab)) (fun _ hk => hk.2) (.slice aL aa.length aI)) (fun _ h_ => h_.1)))); (case s4 => exact (QP D.out).2.1); rintro e d4 ⟨rfl, hb⟩; refine ⟨_, rfl, ?_⟩; replace B := aM (QX (by (with_reducible repeat (first | apply QV | apply QU | apply QJ)); exact (QQ (QY (p := ⟨z, 1, none⟩) (QY (p := ⟨z, 0, none⟩) (QQ B.out (fun k_ hk => (⟨hk, hk.2.1⟩ : _ ∧ k_ ≠ z))) (fun _ hk => hk.2) (.bool ab)) (fun _ hk => hk.2) (.slice aL aa.length aI)) (fun _ h_ => h_.1))) hb); replace D := aM (QX (by (with_reducible repeat (first | apply QV | apply QU | apply QJ)); exact (QQ (QY (p := ⟨z, 1, none⟩) (QY (p := ⟨z, 0, none⟩) (QQ D.out (fun k_ hk => (⟨hk, hk.2.1⟩ : _ ∧ k_ ≠ z))) (fun _ hk => hk.2) (.bool ab)) (fun _ hk => hk.2) (.slice aL aa.length aI)) (fun _ h_ => h_.1))) hb); replace J := aM (QX (by (with_reducible repeat (first | apply QV | apply QU | apply QJ)); exact (QQ (QY (p := ⟨z, 1, none⟩) (QY (p := ⟨z, 0, none⟩) (QQ J.out (fun k_ hk => (⟨hk, hk.2.1⟩ : _ ∧ k_ ≠ z))) (fun _ hk => hk.2) (.bool ab)) (fun _ hk => hk.2) (.slice aL aa.length aI)) (fun _ h_ => h_.1))) hb); replace af := aM (QX (by (with_reducible repeat (first | apply QV | apply QU | apply QJ)); exact (QQ (QY (p := ⟨z, 1, none⟩) (QY (p := ⟨z, 0, none⟩) (QQ af.out (fun k_ hk => (⟨hk, hk.2.1⟩ : _ ∧ k_ ≠ z))) (fun _ hk => hk.2) (.bool ab)) (fun _ hk => hk.2) (.slice aL aa.length aI)) (fun _ h_ => h_.1))) hb); replace ag := aM (QX (by (with_reducible repeat (first | apply QV | apply QU | apply QJ)); exact (QQ (QY (p := ⟨z, 1, none⟩) (QY (p := ⟨z, 0, none⟩) (QQ ag.out (fun k_ hk => (⟨hk, hk.2.1⟩ : _ ∧ k_ ≠ z))) (fun _ hk => hk.2) (.bool ab)) (fun _ hk => hk.2) (.slice aL aa.length aI)) (fun _ h_ => h_.1))) hb); replace E := kX1 E R hb; replace A := kP2 A hb; replace F := kX1 F Z hb; replace HB := hS3 HB P Y ad hb; (try clear hb); (try clear hk)))
     go_roundg k1
     case measure => have := aR.out; omega
     case rel => exact ⟨(wrap64 (al - 1)), (ab), (aa), (.slice aL aa.length aI), sI, H', ⟨by have := aR.out; omega⟩, ⟨vO ag.out⟩, ⟨vO D.out⟩, kQ E, kQ A, kQ F, bT3 HB P Y ad⟩
   ·have bX := decide_eq_false bi; clear bi; obtain rfl := Qx H; have dG := ai.out; have dH := R.out; have dI := ah.out; have dJ := Z.out; obtain ⟨c3, c4, c5, c6⟩ := bG2 A; obtain ⟨dU, dV, cl⟩ := Qh B.out; subst cl
    go_wp2
    go_ret
    exact ⟨eW, bS3 HB.out P.out Y.out ad.out⟩
end Go.Proofs.Ythgoonohpfoagaa.X

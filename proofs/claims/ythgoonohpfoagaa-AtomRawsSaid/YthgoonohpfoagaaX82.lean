/- Functions of the seat, printed, and that the program's calls come to them; no condition. -/
import Derived.Test.YthgoonohpfoagaaX0
import Derived.Test.YthgoonohpfoagaaX76
import Derived.Test.YthgoonohpfoagaaX17
namespace Go.Proofs.Ythgoonohpfoagaa.X
open Go.RowKit Go.Proofs.YthgoonohpfoagaaW.PrintWords Go.Proofs.YthgoonohpfoagaaW.PrintLast Go.Proofs.YthgoonohpfoagaaW.PrintMore
attribute [local go_sem] max2_int min2_int max_two min_two max_three min_three max_four min_four
set_option linter.unusedVariables false
set_option linter.unusedSimpArgs false
set_option maxHeartbeats 8000000
set_option maxRecDepth 100000

def Fha.f (k : Nat) (a0_0 : Bool) (l0_1 : List Int) (a1_0 : Bool) (l1_1 : List Int) : Option (Bool × List Int) := if (a0_0 == a1_0) = true then ((Fja.f k a0_0 l0_1 a1_0 l1_1).bind fun t245 => ((Fic.f k a0_0 t245).bind fun bt248 => (some (bt248.1, bt248.2)))) else ((Fhc.f k a0_0 l0_1 a1_0 l1_1).bind fun t252 => (if t252 ≥ 0 then ((Fj.f k a0_0 l0_1 a1_0 l1_1).bind fun t253 => ((Fic.f k a0_0 t253).bind fun bt256 => (some (bt256.1, bt256.2)))) else ((Fj.f k a1_0 l1_1 a0_0 l0_1).bind fun t260 => ((Fic.f k a1_0 t260).bind fun bt263 => (some (bt263.1, bt263.2))))))
theorem Fha.mono : ∀ a0 a1 a2 a3 k, LeO (Fha.f k a0 a1 a2 a3) (Fha.f (k + 1) a0 a1 a2 a3) := by
 intro a0 a1 a2 a3 k
 unfold Fha.f
 repeat' first | (with_reducible first | exact Fhc.mono _ _ _ _ _ | exact Fic.mono _ _ _ | exact Fj.mono _ _ _ _ _ | exact Fja.mono _ _ _ _ _ | exact lA | apply lI | refine lB ?_ fun _ => ?_) | exact lN _ | apply lI | refine lB ?_ fun _ => ?_
def Fha.T2 : Bool × List (List Nat × List Nat) := (true, [([], []), ([0], [0]), ([], []), ([], []), ([2, 3], [2, 3]), ([1, 4], [1, 4]), ([5, 4], [5]), ([6, 6, 0, 1, 2, 3, 4, 5, 6], [6])])
def Fha.B2 : List Nat := [0, 1, 0, 0, 12, 31, 63, 127]
theorem Fha.tab2 : rtab .any (opsOf Try.f54 2) = Fha.T2 := by kernel_rfl
theorem Fha.bits2 : waitsOk Fha.T2.2 Fha.B2 = true := by kernel_rfl
def Fha.T4 : Bool × List (List Nat × List Nat) := (true, [([], []), ([0], [0]), ([], []), ([], []), ([2, 3], [2, 3]), ([1, 4], [1, 4]), ([5, 4], [5]), ([6, 6, 0, 1, 2, 3, 4, 5, 6], [6])])
def Fha.B4 : List Nat := [0, 1, 0, 0, 12, 31, 63, 127]
theorem Fha.tab4 : rtab .any (opsOf Try.f54 4) = Fha.T4 := by kernel_rfl
theorem Fha.bits4 : waitsOk Fha.T4.2 Fha.B4 = true := by kernel_rfl
def Fha.T5 : Bool × List (List Nat × List Nat) := (true, [([], []), ([0], [0]), ([], []), ([], []), ([2, 3], [2, 3]), ([1, 4], [1, 4]), ([5, 4], [5]), ([6, 6, 0, 1, 2, 3, 4, 5, 6], [6])])
def Fha.B5 : List Nat := [0, 1, 0, 0, 12, 31, 63, 127]
theorem Fha.tab5 : rtab .any (opsOf Try.f54 5) = Fha.T5 := by kernel_rfl
theorem Fha.bits5 : waitsOk Fha.T5.2 Fha.B5 = true := by kernel_rfl
theorem Fha.calls (k : Nat) (J : Bool) (Z : Option Addr) (aa : Nat) (R : List Int) (O : Bool) (ab : Option Addr) (ac : Nat) (U : List Int) (r1 : Bool) (r2 : List Int) (w : World) (aH : Kd.C (Kd.int .u64) w Z R.length R) (aI : R.length ≤ aa) (aJ : Kd.C (Kd.int .u64) w ab U.length U) (aK : U.length ≤ ac) (h : Fha.f k J R O U = some (r1, r2)) :
  Calls Try.prog 54 #[.agg #[.bool J, .slice Z R.length aa], .agg #[.bool O, .slice ab U.length ac]] w fun e w' => ∃ bo : Value, e = .returned (.agg #[.bool r1, bo]) ∧ Kd.V (Kd.int .u64) 115 w' w.heap.size (fun k_ => (w.heap.size ≤ k_)) bo r2 ∧ Below w.heap.size w w' := by
 have hu73 := Try.underlying73; have ao := aM aH; have ap := aM aI; clear aH aI; have aq := aM aJ; have ar := aM aK; clear aJ aK; have HB := aM (Qg w.heap.size w); rw [Fha.f] at h; have H := h; clear h
 apply iB H <;> clear H <;> intro c3 H
 ·have bv : (J == O) = true := c3
  (try (have bw : decide (J = O) = true := by simpa using c3))
  (try (have bx : (J == O) = true := by simpa using c3))
  clear c3; apply bSx H; clear H; intro aw A4 H; replace H := QZ H; obtain ⟨⟨ax, ay⟩, bq, H⟩ := H; replace H : (some (ax, ay)) = some (r1, r2) := H; have A5 := aM bq; clear bq; obtain ⟨rfl, rfl⟩ := pE2 H
  go_enter Try.func54, Try.ntmps54
  try go_wp2_with (first | ((with_reducible refine Qa (N := 2) rfl ?_); refine be_ (cs := #[.bool J, .slice Z R.length aa]) (t := 73) ?_; intro W hg w6 ah hb; have z := aM (ah); have aL := gE hg (bP0 HB); have E := gE hg (bP0 HB); replace HB := hS0 HB hb; clear hb ah hg) | ((with_reducible refine Qa (N := 3) rfl ?_); refine be_ (cs := #[.bool O, .slice ab U.length ac]) (t := 73) ?_; intro Y hg w7 ah hb; have A := aM (ah); have aN := gE hg (bP1 HB E); have I := gE hg (bP1 HB E); replace HB := hS1 HB E hb; have ad := nL hg z; have ae := nG hg z; replace z := kB z hb; clear hb ah hg) | ((with_reducible refine Qa (N := 4) rfl ?_); refine be_ (cs := #[.bool false, .slice none 0 0]) (t := 73) ?_; intro D hg w8 ah hb; have B := aM (ah); have aP := gE hg (bP2 HB E I); have L := gE hg (bP2 HB E I); replace HB := hS2 HB E I hb; have F := nL hg z; have P := nG hg z; replace z := kB z hb; have G := nL hg A; have Q := nG hg A; replace A := kB A hb; clear hb ah hg; have cm := ad.out; have cn := ae.out; have b3 := F.out; have b4 := P.out; obtain ⟨bz, bA, bB, bC⟩ := bG2 z; have b5 := G.out; have b6 := Q.out; obtain ⟨bD, bE, bF, bG⟩ := bG2 A))
  replace z := kD z; replace A := kD A; replace B := kD B; replace HB := aM (below_drew1 HB.out); refine start_ (n := 8) (S := fun w' => w'.cell? ⟨W, 0, none⟩ = some (.bool J) ∧ w'.cell? ⟨W, 1, none⟩ = some (.slice Z R.length aa) ∧ w'.cell? ⟨Y, 0, none⟩ = some (.bool O) ∧ w'.cell? ⟨Y, 1, none⟩ = some (.slice ab U.length ac)) (ds := []) (bl 8 0) (by kernel_rfl) rfl rfl ⟨(QW z.out 0).trans rfl, (QW z.out 1).trans rfl, (QW A.out 0).trans rfl, (QW A.out 1).trans rfl⟩ (fun ag => ?_); refine with_tabW Fha.tab2 Fha.bits2 (fun al am => ?_); generalize w8.drew = cw at z A B HB ag ⊢; refine pu_ 0 10 (bl 8 1) al ?_; refine tk4_ 1 11 (bl 8 3) al am ag ?_; refine tk4_ 2 12 (bl 8 7) al am ag ?_; refine tk4_ 3 13 (bl 8 15) al am ag ?_; refine one_ (i := 4) (N := some 14) (bl 8 31) rfl rfl (one_of al.out (by kernel_rfl)) (by decide) (fun K hK => ?_); refine gS_ Try.func78 #[.agg #[.bool J, .slice Z R.length aa], .agg #[.bool O, .slice ab U.length ac]] ?_
  with_reducible refine (Fja.calls k J _ _ R O _ _ U aw _ ?s1 ?s2 ?s3 ?s4 A4.out).mono ?_
  (case s1 => exact cB ao HB)
  (case s2 => exact ap.out)
  (case s3 => exact cB aq HB)
  (case s4 => exact ar.out)
  rintro e cx ⟨co, rfl, af, hb⟩; refine ⟨_, rfl, ?_⟩; have ai := rW (Wn (M := fun k_ => (w.heap.size ≤ k_)) af (Qv (bP3 HB E I L)) (fun k_ h_ => h_)) (bP3 HB E I L); replace z := kB z hb; replace A := kB A hb; replace B := kB B hb; replace HB := hS3 HB E I L hb
  (try clear hb)
  (try clear aF)
  (try clear hk)
  (try clear hi)
  (try clear af)
  obtain ⟨aV, aW, aX⟩ := sL ai
  (first | subst aX | obtain ⟨rfl, rfl⟩ := iS aX)
  refine hK.out _ _ ⟨(QW z.out 0).trans rfl, (QW z.out 1).trans rfl, (QW A.out 0).trans rfl, (QW A.out 1).trans rfl⟩ (fun ag => ?_); clear hK K; refine nm_ 14 ?_; refine pu_ 5 15 (bl 8 63) al ?_; refine one_ (i := 6) (N := some 16) (bl 8 127) rfl rfl (one_of al.out (by kernel_rfl)) (by decide) (fun K hK => ?_); refine gS_ Try.func77 #[.agg #[.bool J, .slice aV aw.length aW]] ?_
  with_reducible refine (Fic.calls k J (fun k_ => some k_ = (.slice aV aw.length aW : Value).ownBlock) _ _ aw ax ay _ ?s1 A5.out).mono ?_
  (case s1 => exact Kd.R_V (Kd.R_tight rfl (Qe (Qe (Qe (ai.out) z.out (by decide)) A.out (by decide)) B.out (by decide))))
  rintro e br ⟨cp, rfl, af, hb⟩; refine ⟨_, rfl, ?_⟩; have aQ := aM (Qp (QQ (ok' := fun k_ => (w.heap.size ≤ k_) ∧ k_ ≠ W ∧ k_ ≠ Y ∧ k_ ≠ D) af (fun k_ hk_ => ⟨Or.elim hk_ (fun hs_ => ((Qe (Qe (Qe (ai.out) z.out (by decide)) A.out (by decide)) B.out (by decide)).1 k_ hs_.symm).1.1.1.1) (fun hn_ => (Nat.le_trans (Qv (bP3 HB E I L)) hn_)), Or.elim hk_ (fun hs_ => ((Qe (Qe (Qe (ai.out) z.out (by decide)) A.out (by decide)) B.out (by decide)).1 k_ hs_.symm).1.1.2) (fun hn_ => (Qq (g := W) (o := .cells #[.bool J, .slice Z R.length aa] 73 (0, 0)) (kO z.out) k_ hn_)), Or.elim hk_ (fun hs_ => ((Qe (Qe (Qe (ai.out) z.out (by decide)) A.out (by decide)) B.out (by decide)).1 k_ hs_.symm).1.2) (fun hn_ => (Qq (g := Y) (o := .cells #[.bool O, .slice ab U.length ac] 73 (0, 0)) (kO A.out) k_ hn_)), Or.elim hk_ (fun hs_ => ((Qe (Qe (Qe (ai.out) z.out (by decide)) A.out (by decide)) B.out (by decide)).1 k_ hs_.symm).2) (fun hn_ => (Qq (g := D) (o := .cells #[.bool false, .slice none 0 0] 73 (0, 0)) (kO B.out) k_ hn_))⟩)) (Qv (bP3 HB E I L))); replace ai := rB ai hb; replace z := kB z hb; replace A := kB A hb; replace B := kB B hb; replace HB := hS3 HB E I L hb
  (try clear hb)
  (try clear aF)
  (try clear hk)
  (try clear hi)
  (try clear af)
  obtain ⟨aY, aZ, a4⟩ := Qh aQ.out
  (first | subst a4 | obtain ⟨rfl, rfl⟩ := iS a4)
  refine hK.out _ _ ⟨(QW z.out 0).trans rfl, (QW z.out 1).trans rfl, (QW A.out 0).trans rfl, (QW A.out 1).trans rfl⟩ (fun ag => ?_); clear hK K; refine nm_ 16 ?_; refine one_ (i := 7) (N := none) (bl 8 255) rfl rfl (one_of al.out (by kernel_rfl)) (by decide) (fun K hK => ?_); have hs18 : br.cell? ⟨D, 0, none⟩ = some (.bool false) := (QW B.out 0).trans rfl; have hfs18 := Qt B.out 0; have hns18_0 := F.out; have hns18_1 := G.out; have hms18_0 := P.out; have hms18_1 := Q.out; have hs20 : br.cell? ⟨D, 1, none⟩ = some (.slice none 0 0) := (QW B.out 1).trans rfl; have hfs20 := Qt B.out 1; have hns20_0 := F.out; have hns20_1 := G.out; have hms20_0 := P.out; have hms20_1 := Q.out; refine skip_ (w1 := ?_) (by rfl) rfl ?_ ?_; rotate_left
  ·go_simp
   rfl
  refine hK.out _ _ ⟨((QK (p := ⟨D, _, none⟩) F.out _).trans (((QK (p := ⟨D, _, none⟩) F.out _).trans (ag.1)))), ((QK (p := ⟨D, _, none⟩) F.out _).trans (((QK (p := ⟨D, _, none⟩) F.out _).trans (ag.2.1)))), ((QK (p := ⟨D, _, none⟩) G.out _).trans (((QK (p := ⟨D, _, none⟩) G.out _).trans (ag.2.2.1)))), ((QK (p := ⟨D, _, none⟩) G.out _).trans (((QK (p := ⟨D, _, none⟩) G.out _).trans (ag.2.2.2))))⟩ (fun ag => ?_); clear hK K; refine done_ (done_of al.out (by kernel_rfl)) ?_
  try go_wp2
  refine bodyPost_ret (results_cell_row rfl _ _ D 73 #[.bool ax, .slice aY ay.length aZ] (0, 0) _ rfl (by (with_reducible repeat (first | refine Qj ?_ _ | refine Qu ?_ | refine Qz ?_ _)); exact Qy (Qy B.out 0 _ rfl) 1 _ rfl) Try.underlying73 rfl (by kernel_rfl)) rfl ?_; exact ⟨_, eW, by (with_reducible repeat (first | apply QV | apply QU | apply QJ)); exact QQ (QY (p := ⟨D, 1, none⟩) (QY (p := ⟨D, 0, none⟩) (QQ aQ.out (fun k_ hk => (⟨hk, hk.2.2.2⟩ : _ ∧ k_ ≠ D))) (fun _ hk => hk.2) (.bool ax)) (fun _ hk => hk.2) (.slice aY ay.length aZ)) (fun _ hk => hk.1.1), bS3 HB.out E.out I.out L.out⟩
 ·have bv : (J == O) = false := by simpa using c3
  (try (have bw : decide (J = O) = false := by simpa using c3))
  (try (have bx : (J == O) = false := by simpa using c3))
  (try (have cq : ¬ (J = O) := by simpa using c3))
  clear c3; apply bSx H; clear H; intro aG bs H
  apply iB H <;> clear H <;> intro av H
  ·have bn := dT av; clear av; apply bSx H; clear H; intro az bX H; replace H := QZ H; obtain ⟨⟨aA, aB⟩, a7, H⟩ := H; replace H : (some (aA, aB)) = some (r1, r2) := H; have bY := aM a7; clear a7; obtain ⟨rfl, rfl⟩ := pE2 H
   go_enter Try.func54, Try.ntmps54
   try go_wp2_with (first | ((with_reducible refine Qa (N := 2) rfl ?_); refine be_ (cs := #[.bool J, .slice Z R.length aa]) (t := 73) ?_; intro W hg cy ah hb; have z := aM (ah); have aL := gE hg (bP0 HB); have E := gE hg (bP0 HB); replace HB := hS0 HB hb; clear hb ah hg) | ((with_reducible refine Qa (N := 3) rfl ?_); refine be_ (cs := #[.bool O, .slice ab U.length ac]) (t := 73) ?_; intro Y hg cz ah hb; have A := aM (ah); have aN := gE hg (bP1 HB E); have I := gE hg (bP1 HB E); replace HB := hS1 HB E hb; have ad := nL hg z; have ae := nG hg z; replace z := kB z hb; clear hb ah hg) | ((with_reducible refine Qa (N := 4) rfl ?_); refine be_ (cs := #[.bool false, .slice none 0 0]) (t := 73) ?_; intro D hg cA ah hb; have B := aM (ah); have aP := gE hg (bP2 HB E I); have L := gE hg (bP2 HB E I); replace HB := hS2 HB E I hb; have F := nL hg z; have P := nG hg z; replace z := kB z hb; have G := nL hg A; have Q := nG hg A; replace A := kB A hb; clear hb ah hg; have b7 := ad.out; have b8 := ae.out; have b9 := F.out; have ca := P.out; obtain ⟨bH, bI, bJ, bK⟩ := bG2 z; have cb := G.out; have cc := Q.out; obtain ⟨bL, bM, bN, bO⟩ := bG2 A) | ((with_reducible refine Qb (f := 79) rfl ?_); refine gL_ (some 19) Try.func79 #[.agg #[.bool J, .slice Z R.length aa], .agg #[.bool O, .slice ab U.length ac]] ?_; (with_reducible refine (Fhc.calls k J _ _ R O _ _ U aG _ ?s1 ap.out ?s3 ar.out bs.out).mono ?_); (case s1 => exact cB ao HB); (case s3 => exact cB aq HB); rintro e bZ ⟨rfl, hb⟩; refine ⟨_, rfl, ?_⟩; replace z := kB z hb; replace A := kB A hb; replace B := kB B hb; replace HB := hS3 HB E I L hb; (try clear hb)))
   replace z := kD z; replace A := kD A; replace B := kD B; replace HB := aM (below_drew1 HB.out); refine start_ (n := 8) (S := fun w' => w'.cell? ⟨W, 0, none⟩ = some (.bool J) ∧ w'.cell? ⟨W, 1, none⟩ = some (.slice Z R.length aa) ∧ w'.cell? ⟨Y, 0, none⟩ = some (.bool O) ∧ w'.cell? ⟨Y, 1, none⟩ = some (.slice ab U.length ac)) (ds := []) (bl 8 0) (by kernel_rfl) rfl rfl ⟨(QW z.out 0).trans rfl, (QW z.out 1).trans rfl, (QW A.out 0).trans rfl, (QW A.out 1).trans rfl⟩ (fun ag => ?_); refine with_tabW Fha.tab4 Fha.bits4 (fun al am => ?_); generalize bZ.drew = cC at z A B HB ag ⊢; refine pu_ 0 21 (bl 8 1) al ?_; refine tk4_ 1 22 (bl 8 3) al am ag ?_; refine tk4_ 2 23 (bl 8 7) al am ag ?_; refine tk4_ 3 24 (bl 8 15) al am ag ?_; refine one_ (i := 4) (N := some 25) (bl 8 31) rfl rfl (one_of al.out (by kernel_rfl)) (by decide) (fun K hK => ?_); refine gS_ Try.func80 #[.agg #[.bool J, .slice Z R.length aa], .agg #[.bool O, .slice ab U.length ac]] ?_
   with_reducible refine (Fj.calls k J _ _ R O _ _ U az _ ?s1 ?s2 ?s3 ?s4 bX.out).mono ?_
   (case s1 => exact cB ao HB)
   (case s2 => exact ap.out)
   (case s3 => exact cB aq HB)
   (case s4 => exact ar.out)
   rintro e cD ⟨cr, rfl, af, hb⟩; refine ⟨_, rfl, ?_⟩; have aj := rW (Wn (M := fun k_ => (w.heap.size ≤ k_)) af (Qv (bP3 HB E I L)) (fun k_ h_ => h_)) (bP3 HB E I L); replace z := kB z hb; replace A := kB A hb; replace B := kB B hb; replace HB := hS3 HB E I L hb
   (try clear hb)
   (try clear aF)
   (try clear hk)
   (try clear hi)
   (try clear af)
   obtain ⟨a8, a9, ba⟩ := sL aj
   (first | subst ba | obtain ⟨rfl, rfl⟩ := iS ba)
   refine hK.out _ _ ⟨(QW z.out 0).trans rfl, (QW z.out 1).trans rfl, (QW A.out 0).trans rfl, (QW A.out 1).trans rfl⟩ (fun ag => ?_); clear hK K; refine nm_ 25 ?_; refine pu_ 5 26 (bl 8 63) al ?_; refine one_ (i := 6) (N := some 27) (bl 8 127) rfl rfl (one_of al.out (by kernel_rfl)) (by decide) (fun K hK => ?_); refine gS_ Try.func77 #[.agg #[.bool J, .slice a8 az.length a9]] ?_
   with_reducible refine (Fic.calls k J (fun k_ => some k_ = (.slice a8 az.length a9 : Value).ownBlock) _ _ az aA aB _ ?s1 bY.out).mono ?_
   (case s1 => exact Kd.R_V (Kd.R_tight rfl (Qe (Qe (Qe (aj.out) z.out (by decide)) A.out (by decide)) B.out (by decide))))
   rintro e bt ⟨ct, rfl, af, hb⟩; refine ⟨_, rfl, ?_⟩; have aR := aM (Qp (QQ (ok' := fun k_ => (w.heap.size ≤ k_) ∧ k_ ≠ W ∧ k_ ≠ Y ∧ k_ ≠ D) af (fun k_ hk_ => ⟨Or.elim hk_ (fun hs_ => ((Qe (Qe (Qe (aj.out) z.out (by decide)) A.out (by decide)) B.out (by decide)).1 k_ hs_.symm).1.1.1.1) (fun hn_ => (Nat.le_trans (Qv (bP3 HB E I L)) hn_)), Or.elim hk_ (fun hs_ => ((Qe (Qe (Qe (aj.out) z.out (by decide)) A.out (by decide)) B.out (by decide)).1 k_ hs_.symm).1.1.2) (fun hn_ => (Qq (g := W) (o := .cells #[.bool J, .slice Z R.length aa] 73 (0, 0)) (kO z.out) k_ hn_)), Or.elim hk_ (fun hs_ => ((Qe (Qe (Qe (aj.out) z.out (by decide)) A.out (by decide)) B.out (by decide)).1 k_ hs_.symm).1.2) (fun hn_ => (Qq (g := Y) (o := .cells #[.bool O, .slice ab U.length ac] 73 (0, 0)) (kO A.out) k_ hn_)), Or.elim hk_ (fun hs_ => ((Qe (Qe (Qe (aj.out) z.out (by decide)) A.out (by decide)) B.out (by decide)).1 k_ hs_.symm).2) (fun hn_ => (Qq (g := D) (o := .cells #[.bool false, .slice none 0 0] 73 (0, 0)) (kO B.out) k_ hn_))⟩)) (Qv (bP3 HB E I L))); replace aj := rB aj hb; replace z := kB z hb; replace A := kB A hb; replace B := kB B hb; replace HB := hS3 HB E I L hb
   (try clear hb)
   (try clear aF)
   (try clear hk)
   (try clear hi)
   (try clear af)
   obtain ⟨bb, bc, bd⟩ := Qh aR.out
   (first | subst bd | obtain ⟨rfl, rfl⟩ := iS bd)
   refine hK.out _ _ ⟨(QW z.out 0).trans rfl, (QW z.out 1).trans rfl, (QW A.out 0).trans rfl, (QW A.out 1).trans rfl⟩ (fun ag => ?_); clear hK K; refine nm_ 27 ?_; refine one_ (i := 7) (N := none) (bl 8 255) rfl rfl (one_of al.out (by kernel_rfl)) (by decide) (fun K hK => ?_); have hs38 : bt.cell? ⟨D, 0, none⟩ = some (.bool false) := (QW B.out 0).trans rfl; have hfs38 := Qt B.out 0; have hns38_0 := F.out; have hns38_1 := G.out; have hms38_0 := P.out; have hms38_1 := Q.out; have hs40 : bt.cell? ⟨D, 1, none⟩ = some (.slice none 0 0) := (QW B.out 1).trans rfl; have hfs40 := Qt B.out 1; have hns40_0 := F.out; have hns40_1 := G.out; have hms40_0 := P.out; have hms40_1 := Q.out; refine skip_ (w1 := ?_) (by rfl) rfl ?_ ?_; rotate_left
   ·go_simp
    rfl
   refine hK.out _ _ ⟨((QK (p := ⟨D, _, none⟩) F.out _).trans (((QK (p := ⟨D, _, none⟩) F.out _).trans (ag.1)))), ((QK (p := ⟨D, _, none⟩) F.out _).trans (((QK (p := ⟨D, _, none⟩) F.out _).trans (ag.2.1)))), ((QK (p := ⟨D, _, none⟩) G.out _).trans (((QK (p := ⟨D, _, none⟩) G.out _).trans (ag.2.2.1)))), ((QK (p := ⟨D, _, none⟩) G.out _).trans (((QK (p := ⟨D, _, none⟩) G.out _).trans (ag.2.2.2))))⟩ (fun ag => ?_); clear hK K; refine done_ (done_of al.out (by kernel_rfl)) ?_
   try go_wp2
   refine bodyPost_ret (results_cell_row rfl _ _ D 73 #[.bool aA, .slice bb aB.length bc] (0, 0) _ rfl (by (with_reducible repeat (first | refine Qj ?_ _ | refine Qu ?_ | refine Qz ?_ _)); exact Qy (Qy B.out 0 _ rfl) 1 _ rfl) Try.underlying73 rfl (by kernel_rfl)) rfl ?_; exact ⟨_, eW, by (with_reducible repeat (first | apply QV | apply QU | apply QJ)); exact QQ (QY (p := ⟨D, 1, none⟩) (QY (p := ⟨D, 0, none⟩) (QQ aR.out (fun k_ hk => (⟨hk, hk.2.2.2⟩ : _ ∧ k_ ≠ D))) (fun _ hk => hk.2) (.bool aA)) (fun _ hk => hk.2) (.slice bb aB.length bc)) (fun _ hk => hk.1.1), bS3 HB.out E.out I.out L.out⟩
  ·have bn := decide_eq_false av; clear av; apply bSx H; clear H; intro aC b0 H; replace H := QZ H; obtain ⟨⟨aD, aE⟩, bf, H⟩ := H; replace H : (some (aD, aE)) = some (r1, r2) := H; have b1 := aM bf; clear bf; obtain ⟨rfl, rfl⟩ := pE2 H
   go_enter Try.func54, Try.ntmps54
   try go_wp2_with (first | ((with_reducible refine Qa (N := 2) rfl ?_); refine be_ (cs := #[.bool J, .slice Z R.length aa]) (t := 73) ?_; intro W hg cE ah hb; have z := aM (ah); have aL := gE hg (bP0 HB); have E := gE hg (bP0 HB); replace HB := hS0 HB hb; clear hb ah hg) | ((with_reducible refine Qa (N := 3) rfl ?_); refine be_ (cs := #[.bool O, .slice ab U.length ac]) (t := 73) ?_; intro Y hg cF ah hb; have A := aM (ah); have aN := gE hg (bP1 HB E); have I := gE hg (bP1 HB E); replace HB := hS1 HB E hb; have ad := nL hg z; have ae := nG hg z; replace z := kB z hb; clear hb ah hg) | ((with_reducible refine Qa (N := 4) rfl ?_); refine be_ (cs := #[.bool false, .slice none 0 0]) (t := 73) ?_; intro D hg cG ah hb; have B := aM (ah); have aP := gE hg (bP2 HB E I); have L := gE hg (bP2 HB E I); replace HB := hS2 HB E I hb; have F := nL hg z; have P := nG hg z; replace z := kB z hb; have G := nL hg A; have Q := nG hg A; replace A := kB A hb; clear hb ah hg; have cd := ad.out; have ce := ae.out; have cf := F.out; have cg := P.out; obtain ⟨bP, bQ, bR, bS⟩ := bG2 z; have ch := G.out; have ci := Q.out; obtain ⟨bT, bU, bV, bW⟩ := bG2 A) | ((with_reducible refine Qb (f := 79) rfl ?_); refine gL_ (some 19) Try.func79 #[.agg #[.bool J, .slice Z R.length aa], .agg #[.bool O, .slice ab U.length ac]] ?_; (with_reducible refine (Fhc.calls k J _ _ R O _ _ U aG _ ?s1 ap.out ?s3 ar.out bs.out).mono ?_); (case s1 => exact cB ao HB); (case s3 => exact cB aq HB); rintro e b2 ⟨rfl, hb⟩; refine ⟨_, rfl, ?_⟩; replace z := kB z hb; replace A := kB A hb; replace B := kB B hb; replace HB := hS3 HB E I L hb; (try clear hb)))
   replace z := kD z; replace A := kD A; replace B := kD B; replace HB := aM (below_drew1 HB.out); refine start_ (n := 8) (S := fun w' => w'.cell? ⟨Y, 0, none⟩ = some (.bool O) ∧ w'.cell? ⟨Y, 1, none⟩ = some (.slice ab U.length ac) ∧ w'.cell? ⟨W, 0, none⟩ = some (.bool J) ∧ w'.cell? ⟨W, 1, none⟩ = some (.slice Z R.length aa)) (ds := []) (bl 8 0) (by kernel_rfl) rfl rfl ⟨(QW A.out 0).trans rfl, (QW A.out 1).trans rfl, (QW z.out 0).trans rfl, (QW z.out 1).trans rfl⟩ (fun ag => ?_); refine with_tabW Fha.tab5 Fha.bits5 (fun al am => ?_); generalize b2.drew = cH at z A B HB ag ⊢; refine pu_ 0 28 (bl 8 1) al ?_; refine tk4_ 1 29 (bl 8 3) al am ag ?_; refine tk4_ 2 30 (bl 8 7) al am ag ?_; refine tk4_ 3 31 (bl 8 15) al am ag ?_; refine one_ (i := 4) (N := some 32) (bl 8 31) rfl rfl (one_of al.out (by kernel_rfl)) (by decide) (fun K hK => ?_); refine gS_ Try.func80 #[.agg #[.bool O, .slice ab U.length ac], .agg #[.bool J, .slice Z R.length aa]] ?_
   with_reducible refine (Fj.calls k O _ _ U J _ _ R aC _ ?s1 ?s2 ?s3 ?s4 b0.out).mono ?_
   (case s1 => exact cB aq HB)
   (case s2 => exact ar.out)
   (case s3 => exact cB ao HB)
   (case s4 => exact ap.out)
   rintro e cI ⟨cu, rfl, af, hb⟩; refine ⟨_, rfl, ?_⟩; have ak := rW (Wn (M := fun k_ => (w.heap.size ≤ k_)) af (Qv (bP3 HB E I L)) (fun k_ h_ => h_)) (bP3 HB E I L); replace z := kB z hb; replace A := kB A hb; replace B := kB B hb; replace HB := hS3 HB E I L hb
   (try clear hb)
   (try clear aF)
   (try clear hk)
   (try clear hi)
   (try clear af)
   obtain ⟨bg, bh, bi⟩ := sL ak
   (first | subst bi | obtain ⟨rfl, rfl⟩ := iS bi)
   refine hK.out _ _ ⟨(QW A.out 0).trans rfl, (QW A.out 1).trans rfl, (QW z.out 0).trans rfl, (QW z.out 1).trans rfl⟩ (fun ag => ?_); clear hK K; refine nm_ 32 ?_; refine pu_ 5 33 (bl 8 63) al ?_; refine one_ (i := 6) (N := some 34) (bl 8 127) rfl rfl (one_of al.out (by kernel_rfl)) (by decide) (fun K hK => ?_); refine gS_ Try.func77 #[.agg #[.bool O, .slice bg aC.length bh]] ?_
   with_reducible refine (Fic.calls k O (fun k_ => some k_ = (.slice bg aC.length bh : Value).ownBlock) _ _ aC aD aE _ ?s1 b1.out).mono ?_
   (case s1 => exact Kd.R_V (Kd.R_tight rfl (Qe (Qe (Qe (ak.out) z.out (by decide)) A.out (by decide)) B.out (by decide))))
   rintro e bu ⟨cv, rfl, af, hb⟩; refine ⟨_, rfl, ?_⟩; have aS := aM (Qp (QQ (ok' := fun k_ => (w.heap.size ≤ k_) ∧ k_ ≠ W ∧ k_ ≠ Y ∧ k_ ≠ D) af (fun k_ hk_ => ⟨Or.elim hk_ (fun hs_ => ((Qe (Qe (Qe (ak.out) z.out (by decide)) A.out (by decide)) B.out (by decide)).1 k_ hs_.symm).1.1.1.1) (fun hn_ => (Nat.le_trans (Qv (bP3 HB E I L)) hn_)), Or.elim hk_ (fun hs_ => ((Qe (Qe (Qe (ak.out) z.out (by decide)) A.out (by decide)) B.out (by decide)).1 k_ hs_.symm).1.1.2) (fun hn_ => (Qq (g := W) (o := .cells #[.bool J, .slice Z R.length aa] 73 (0, 0)) (kO z.out) k_ hn_)), Or.elim hk_ (fun hs_ => ((Qe (Qe (Qe (ak.out) z.out (by decide)) A.out (by decide)) B.out (by decide)).1 k_ hs_.symm).1.2) (fun hn_ => (Qq (g := Y) (o := .cells #[.bool O, .slice ab U.length ac] 73 (0, 0)) (kO A.out) k_ hn_)), Or.elim hk_ (fun hs_ => ((Qe (Qe (Qe (ak.out) z.out (by decide)) A.out (by decide)) B.out (by decide)).1 k_ hs_.symm).2) (fun hn_ => (Qq (g := D) (o := .cells #[.bool false, .slice none 0 0] 73 (0, 0)) (kO B.out) k_ hn_))⟩)) (Qv (bP3 HB E I L))); replace ak := rB ak hb; replace z := kB z hb; replace A := kB A hb; replace B := kB B hb; replace HB := hS3 HB E I L hb
   (try clear hb)
   (try clear aF)
   (try clear hk)
   (try clear hi)
   (try clear af)
   obtain ⟨bj, bk, bm⟩ := Qh aS.out
   (first | subst bm | obtain ⟨rfl, rfl⟩ := iS bm)
   refine hK.out _ _ ⟨(QW A.out 0).trans rfl, (QW A.out 1).trans rfl, (QW z.out 0).trans rfl, (QW z.out 1).trans rfl⟩ (fun ag => ?_); clear hK K; refine nm_ 34 ?_; refine one_ (i := 7) (N := none) (bl 8 255) rfl rfl (one_of al.out (by kernel_rfl)) (by decide) (fun K hK => ?_); have hs56 : bu.cell? ⟨D, 0, none⟩ = some (.bool false) := (QW B.out 0).trans rfl; have hfs56 := Qt B.out 0; have hns56_0 := F.out; have hns56_1 := G.out; have hms56_0 := P.out; have hms56_1 := Q.out; have hs58 : bu.cell? ⟨D, 1, none⟩ = some (.slice none 0 0) := (QW B.out 1).trans rfl; have hfs58 := Qt B.out 1; have hns58_0 := F.out; have hns58_1 := G.out; have hms58_0 := P.out; have hms58_1 := Q.out; refine skip_ (w1 := ?_) (by rfl) rfl ?_ ?_; rotate_left
   ·go_simp
    rfl
   refine hK.out _ _ ⟨((QK (p := ⟨D, _, none⟩) G.out _).trans (((QK (p := ⟨D, _, none⟩) G.out _).trans (ag.1)))), ((QK (p := ⟨D, _, none⟩) G.out _).trans (((QK (p := ⟨D, _, none⟩) G.out _).trans (ag.2.1)))), ((QK (p := ⟨D, _, none⟩) F.out _).trans (((QK (p := ⟨D, _, none⟩) F.out _).trans (ag.2.2.1)))), ((QK (p := ⟨D, _, none⟩) F.out _).trans (((QK (p := ⟨D, _, none⟩) F.out _).trans (ag.2.2.2))))⟩ (fun ag => ?_); clear hK K; refine done_ (done_of al.out (by kernel_rfl)) ?_
   try go_wp2
   refine bodyPost_ret (results_cell_row rfl _ _ D 73 #[.bool aD, .slice bj aE.length bk] (0, 0) _ rfl (by (with_reducible repeat (first | refine Qj ?_ _ | refine Qu ?_ | refine Qz ?_ _)); exact Qy (Qy B.out 0 _ rfl) 1 _ rfl) Try.underlying73 rfl (by kernel_rfl)) rfl ?_; exact ⟨_, eW, by (with_reducible repeat (first | apply QV | apply QU | apply QJ)); exact QQ (QY (p := ⟨D, 1, none⟩) (QY (p := ⟨D, 0, none⟩) (QQ aS.out (fun k_ hk => (⟨hk, hk.2.2.2⟩ : _ ∧ k_ ≠ D))) (fun _ hk => hk.2) (.bool aD)) (fun _ hk => hk.2) (.slice bj aE.length bk)) (fun _ hk => hk.1.1), bS3 HB.out E.out I.out L.out⟩
def Fgc.f (k : Nat) (a0_0 : Bool) (l0_1 : List Int) : Option (Bool × List Int) := (Fic.f k (!a0_0) l0_1).bind fun bt269 => (some (bt269.1, bt269.2))
theorem Fgc.mono : ∀ a0 a1 k, LeO (Fgc.f k a0 a1) (Fgc.f (k + 1) a0 a1) := by
 intro a0 a1 k
 unfold Fgc.f
 repeat' first | (with_reducible first | exact Fic.mono _ _ _ | exact lA | apply lI | refine lB ?_ fun _ => ?_) | exact lN _ | apply lI | refine lB ?_ fun _ => ?_
theorem Fgc.calls (k : Nat) (G : Bool) (P0_1_ : Nat → Prop) (I : Option Addr) (J : Nat) (B : List Int) (r1 : Bool) (r2 : List Int) (w : World) (hs0_1 : Kd.V (Kd.int .u64) 115 w w.heap.size (fun k_ => P0_1_ k_) (.slice I B.length J) B) (h : Fgc.f k G B = some (r1, r2)) :
  Calls Try.prog 55 #[.agg #[.bool G, .slice I B.length J]] w fun e w' => ∃ Y : Value, e = .returned (.agg #[.bool r1, Y]) ∧ Kd.V (Kd.int .u64) 115 w' w.heap.size (fun k_ => (P0_1_ k_ ∨ w.heap.size ≤ k_)) Y r2 ∧ Below w.heap.size w w' := by
 have hu73 := Try.underlying73; have D := aM (show Kd.V (Kd.int .u64) 115 w w.heap.size (fun k_ => (P0_1_ k_ ∨ w.heap.size ≤ k_)) (.slice I B.length J) B from QQ hs0_1 (fun k_ hk => .inl hk)); have HB := aM (Qg w.heap.size w); rw [Fgc.f] at h; have H := h; clear h; replace H := QZ H; obtain ⟨⟨O, P⟩, Z, H⟩ := H; replace H : (some (O, P)) = some (r1, r2) := H; have A2 := aM Z; clear Z; obtain ⟨rfl, rfl⟩ := pE2 H
 go_enter Try.func55, Try.ntmps55
 go_wp2_with (first | ((with_reducible refine Qa (N := 1) rfl ?_); refine be_ (cs := #[.bool G, .slice I B.length J]) (t := 73) ?_; intro L hg w3 az hb; replace D := aM (QX (Qr (vO D.out) L (Qd hg.symm)) hb); have z := aM (az); have ao := gE hg (bP0 HB); have E := gE hg (bP0 HB); replace HB := hS0 HB hb; clear hb az hg) | ((with_reducible refine Qa (N := 2) rfl ?_); refine be_ (cs := #[.bool false, .slice none 0 0]) (t := 73) ?_; intro A hg w4 az hb; replace D := aM (QX (Qr (vO D.out) A (Qd hg.symm)) hb); have F := aM (az); have ap := gE hg (bP1 HB E); have M := gE hg (bP1 HB E); replace HB := hS1 HB E hb; have Q := nL hg z; have R := nG hg z; replace z := kB z hb; clear hb az hg; have ar := Q.out; have au := R.out; obtain ⟨af, ag, ah, ai⟩ := bG2 z) | ((with_reducible refine Qb (f := 77) rfl ?_); refine gL_ (some 9) Try.func77 #[.agg #[.bool (!G), .slice I B.length J]] ?_; (with_reducible refine (Fic.calls k (!G) (fun k_ => (((P0_1_ k_ ∨ w.heap.size ≤ k_) ∧ k_ ≠ L) ∧ k_ ≠ A)) _ _ B O P _ ?s1 A2.out).mono ?_); (case s1 => exact D.out); rintro e w7 ⟨av, rfl, aa, hb⟩; refine ⟨_, rfl, ?_⟩; replace D := aM (QX (vO D.out) hb); have U := aM (Qp (QQ (ok' := fun k_ => (P0_1_ k_ ∨ w.heap.size ≤ k_) ∧ k_ ≠ L ∧ k_ ≠ A) aa (fun k_ hk_ => ⟨Or.elim hk_ (fun hs_ => hs_.1.1) (fun hn_ => (.inr (Nat.le_trans (Qv (bP2 HB E M)) hn_))), Or.elim hk_ (fun hs_ => hs_.1.2) (fun hn_ => (Qq (g := L) (o := .cells #[.bool G, .slice I B.length J] 73 (0, 0)) (kO z.out) k_ hn_)), Or.elim hk_ (fun hs_ => hs_.2) (fun hn_ => (Qq (g := A) (o := .cells #[.bool false, .slice none 0 0] 73 (0, 0)) (kO F.out) k_ hn_))⟩)) (Qv (bP2 HB E M))); replace z := kB z hb; replace F := kB F hb; replace HB := hS2 HB E M hb; (try clear hb); (try clear aa); obtain ⟨aj, ak, al, am⟩ := bG2 F; obtain ⟨ab, ac, an⟩ := Qh U.out; subst an))
 refine bodyPost_ret (results_cell_row rfl _ _ A 73 #[.bool O, .slice ab P.length ac] (0, 0) _ rfl (by (with_reducible repeat (first | refine Qj ?_ _ | refine Qu ?_ | refine Qz ?_ _)); exact Qy (Qy F.out 0 _ rfl) 1 _ rfl) Try.underlying73 rfl (by kernel_rfl)) rfl ?_; exact ⟨_, eW, by (with_reducible repeat (first | apply QV | apply QU | apply QJ)); exact QQ (QY (p := ⟨A, 1, none⟩) (QY (p := ⟨A, 0, none⟩) (QQ U.out (fun k_ hk => (⟨hk, hk.2.2⟩ : _ ∧ k_ ≠ A))) (fun _ hk => hk.2) (.bool O)) (fun _ hk => hk.2) (.slice ab P.length ac)) (fun _ hk => hk.1.1), bS2 HB.out E.out M.out⟩
def Fgb.f (k : Nat) (a0_0 : Bool) (l0_1 : List Int) (a1_0 : Bool) (l1_1 : List Int) : Option (Bool) := (Fgc.f k a1_0 l1_1).bind fun bt275 => ((Fha.f k a0_0 l0_1 bt275.1 bt275.2).bind fun bt279 => (some bt279.1))
theorem Fgb.mono : ∀ a0 a1 a2 a3 k, LeO (Fgb.f k a0 a1 a2 a3) (Fgb.f (k + 1) a0 a1 a2 a3) := by
 intro a0 a1 a2 a3 k
 unfold Fgb.f
 repeat' first | (with_reducible first | exact Fgc.mono _ _ _ | exact Fha.mono _ _ _ _ _ | exact lA | apply lI | refine lB ?_ fun _ => ?_) | exact lN _ | apply lI | refine lB ?_ fun _ => ?_
theorem Fgb.calls (k : Nat) (F : Bool) (M : Option Addr) (O : Nat) (B : List Int) (G : Bool) (P : Option Addr) (Q : Nat) (E : List Int) (r : Bool) (w : World) (aa : Kd.C (Kd.int .u64) w M B.length B) (ab : B.length ≤ O) (ac : Kd.C (Kd.int .u64) w P E.length E) (ad : E.length ≤ Q) (h : Fgb.f k F B G E = some r) :
  Calls Try.prog 99 #[.agg #[.bool F, .slice M B.length O], .agg #[.bool G, .slice P E.length Q]] w fun e w' => e = .returned (.bool r) ∧ Below w.heap.size w w' := by
 have hu73 := Try.underlying73
 have hfd73_0 : ∀ (z0 z1 : Value) (W : World), (Instr.field 73 (.agg #[z0, z1]) 0).run Try.prog W = .ok z0 W := fun z0 z1 W => by kernel_rfl
 have af := aM aa; have ag := aM ab; clear aa ab; have ah := aM ac; have ai := aM ad; clear ac ad; have HB := aM (Qg w.heap.size w); rw [Fgb.f] at h; have H := h; clear h; replace H := QZ H; obtain ⟨⟨U, Y⟩, am, H⟩ := H; replace H : ((Fha.f k F B U Y).bind fun aj => (some aj.1)) = some r := H; have A3 := aM am; clear am; replace H := QZ H; obtain ⟨⟨ae, av⟩, an, H⟩ := H; replace H : (some ae) = some r := H; have A4 := aM an; clear an; obtain rfl := Qx H
 go_enter Try.func99, Try.ntmps99
 try go_wp2_with (first | ((with_reducible refine Qa (N := 2) rfl ?_); refine be_ (cs := #[.bool F, .slice M B.length O]) (t := 73) ?_; intro I hg w5 aA hb; have z := aM (aA); have ak := gE hg (bP0 HB); have D := gE hg (bP0 HB); replace HB := hS0 HB hb; clear hb aA hg) | ((with_reducible refine Qa (N := 3) rfl ?_); refine be_ (cs := #[.bool G, .slice P E.length Q]) (t := 73) ?_; intro J hg w6 aA hb; have A := aM (aA); have al := gE hg (bP1 HB D); have L := gE hg (bP1 HB D); replace HB := hS1 HB D hb; have ao := nL hg z; have ap := nG hg z; replace z := kB z hb; clear hb aA hg))
 replace z := kD z; replace A := kD A; replace HB := aM (below_drew1 HB.out); refine start_ (n := 6) (S := fun w' => w'.cell? ⟨I, 0, none⟩ = some (.bool F) ∧ w'.cell? ⟨I, 1, none⟩ = some (.slice M B.length O) ∧ w'.cell? ⟨J, 0, none⟩ = some (.bool G) ∧ w'.cell? ⟨J, 1, none⟩ = some (.slice P E.length Q)) (ds := []) (bl 6 0) (by kernel_rfl) rfl rfl ⟨(QW z.out 0).trans rfl, (QW z.out 1).trans rfl, (QW A.out 0).trans rfl, (QW A.out 1).trans rfl⟩ (fun az => ?_); generalize w6.drew = w7 at z A HB az ⊢; refine take_ (i := 0) (N := some 5) (v := ?_) (a' := ?_) (bl 6 1) rfl rfl (by kernel_rfl) (fun _ _ _ h => h) (Or.inl ⟨by rfl, ?_⟩) az ?_ ?_; rotate_left
 ·rintro w' ⟨s0, s1, s2, s3⟩
  go_simp
  with_reducible rfl
 rotate_left
 ·simp only [Act.put, sA, sB, sC, i64_w, i32_w]
  rfl
 refine take_ (i := 1) (N := some 6) (v := ?_) (a' := ?_) (bl 6 3) rfl rfl (by kernel_rfl) (fun _ _ _ h => h) (Or.inl ⟨by rfl, ?_⟩) az ?_ ?_; rotate_left
 ·rintro w' ⟨s0, s1, s2, s3⟩
  go_simp
  with_reducible rfl
 rotate_left
 ·simp only [Act.put, sA, sB, sC, i64_w, i32_w]
  rfl
 refine one_ (i := 2) (N := some 7) (bl 6 7) rfl rfl (by kernel_rfl) (by decide) (fun K hK => ?_); refine gS_ Try.func55 #[.agg #[.bool G, .slice P E.length Q]] ?_
 with_reducible refine (Fgc.calls k G (fun k_ => k_ < w.heap.size) _ _ E U Y _ ?s1 A3.out).mono ?_
 (case s1 => exact Wp ai.out (Kd.F_below (Kd.C_F (Kd.heap_int .u64) ah.out) (bP2 HB D L)))
 rintro e w8 ⟨aG, rfl, Z, hb⟩; refine ⟨_, rfl, ?_⟩; have R := aM (Qp (QQ (ok' := fun k_ => k_ ≠ I ∧ k_ ≠ J) Z (fun k_ hk_ => ⟨Or.elim hk_ (fun hs_ => fun e_ => Nat.not_le.2 hs_ (by rw [e_]; exact ak.out)) (fun hn_ => (Qq (g := I) (o := .cells #[.bool F, .slice M B.length O] 73 (0, 0)) (kO z.out) k_ hn_)), Or.elim hk_ (fun hs_ => fun e_ => Nat.not_le.2 hs_ (by rw [e_]; exact al.out)) (fun hn_ => (Qq (g := J) (o := .cells #[.bool G, .slice P E.length Q] 73 (0, 0)) (kO A.out) k_ hn_))⟩)) (Qv (bP2 HB D L))); replace z := kB z hb; replace A := kB A hb; replace HB := hS2 HB D L hb
 (try clear hb)
 (try clear aw)
 (try clear hk)
 (try clear hi)
 (try clear Z)
 obtain ⟨ax, ay, aq⟩ := Qh R.out
 (first | subst aq | obtain ⟨rfl, rfl⟩ := iS aq)
 refine hK.out _ _ ⟨(QW z.out 0).trans rfl, (QW z.out 1).trans rfl, (QW A.out 0).trans rfl, (QW A.out 1).trans rfl⟩ (fun az => ?_); clear hK K; refine nm_ 7 ?_; refine one_ (i := 3) (N := some 8) (bl 6 15) rfl rfl (by kernel_rfl) (by decide) (fun K hK => ?_); refine gS_ Try.func54 #[.agg #[.bool F, .slice M B.length O], .agg #[.bool U, .slice ax Y.length ay]] ?_
 with_reducible refine (Fha.calls k F _ _ B U _ _ Y ae av _ ?s1 ?s2 ?s3 ?s4 A4.out).mono ?_
 (case s1 => exact cB af HB)
 (case s2 => exact ag.out)
 (case s3 => exact cO (QP R.out).2.2)
 (case s4 => exact (QP R.out).2.1)
 rintro e aI ⟨aH, rfl, Z, hb⟩; refine ⟨_, rfl, ?_⟩; replace R := aM (QX (vO R.out) hb); have aC := aM (Qp (QQ (ok' := fun k_ => k_ ≠ I ∧ k_ ≠ J) Z (fun k_ hk_ => ⟨(Qq (g := I) (o := .cells #[.bool F, .slice M B.length O] 73 (0, 0)) (kO z.out) k_ hk_), (Qq (g := J) (o := .cells #[.bool G, .slice P E.length Q] 73 (0, 0)) (kO A.out) k_ hk_)⟩)) (Qv (bP2 HB D L))); replace z := kB z hb; replace A := kB A hb; replace HB := hS2 HB D L hb
 (try clear hb)
 (try clear aw)
 (try clear hk)
 (try clear hi)
 (try clear Z)
 refine hK.out _ _ ⟨(QW z.out 0).trans rfl, (QW z.out 1).trans rfl, (QW A.out 0).trans rfl, (QW A.out 1).trans rfl⟩ (fun az => ?_); clear hK K; refine nm_ 8 ?_; refine pure_ (i := 4) (N := some 9) (v := ?_) (a' := ?_) (bl 6 31) rfl rfl (by kernel_rfl) (fun _ _ _ h => h) (Or.inl ⟨by rfl, ?_⟩) ?_ ?_; rotate_left
 ·intro w'
  go_simp
  with_reducible rfl
 rotate_left
 ·simp only [Act.put, sA, sB, sC, i64_w, i32_w]
  rfl
 refine pure_ (i := 5) (N := some 4) (v := ?_) (a' := ?_) (bl 6 63) rfl rfl (by kernel_rfl) (fun _ _ _ h => h) (Or.inl ⟨by rfl, ?_⟩) ?_ ?_; rotate_left
 ·intro w'
  go_simp
  with_reducible rfl
 rotate_left
 ·simp only [Act.put, sA, sB, sC, i64_w, i32_w]
  rfl
 refine done_ (by kernel_rfl) ?_
 try go_wp2
 go_ret
 exact ⟨eW, bS2 HB.out D.out L.out⟩
mutual
def Fg.j0 : Nat → Bool → Bool → List Int → Option (Int × Bool)
 | 0, _, _, _ => none
 | k + 1, x13, x284000, x284001 => if x13 = true then (some (0, false)) else (Fg.l0 k 0 (wrap64 ((x284001.length : Int) - 1)) x284000 x284001)
def Fg.l0 : Nat → Int → Int → Bool → List Int → Option (Int × Bool)
 | 0, _, _, _, _ => none
 | k + 1, x4, x5, x284000, x284001 => if x5 ≥ 0 then (if 0 ≤ x5 then (if x5 < (x284001.length : Int) then (Fg.l0 k (Go.bits .or .u64 (IntKind.u64.wrap (x4 * 65536)) (rd x284001 x5)) (wrap64 (x5 - 1)) x284000 x284001) else (none)) else (none)) else (if x284000 = true then (some (wrap64 (IntKind.u64.wrap (-x4)), true)) else (some (wrap64 (x4), true)))
end
def Fg.f (k : Nat) (a0_0 : Bool) (l0_1 : List Int) : Option (Int × Bool) := (Fh.f k (-9223372036854775808)).bind fun bt284 => ((Fgb.f k a0_0 l0_1 bt284.1 bt284.2).bind fun t288 => (if t288 = true then (Fg.j0 k true a0_0 l0_1) else ((Fh.f k 9223372036854775807).bind fun bt289 => ((Fgb.f k bt289.1 bt289.2 a0_0 l0_1).bind fun t293 => (Fg.j0 k t293 a0_0 l0_1)))))
theorem Fg.mono_l : ∀ k, (∀ y0 y1 y2, LeO (Fg.j0 k y0 y1 y2) (Fg.j0 (k + 1) y0 y1 y2)) ∧ (∀ y0 y1 y2 y3, LeO (Fg.l0 k y0 y1 y2 y3) (Fg.l0 (k + 1) y0 y1 y2 y3))
 | 0 => ⟨fun _ _ _ r h => by simp [Fg.j0] at h, fun _ _ _ _ r h => by simp [Fg.l0] at h⟩
 | k + 1 => by
  obtain ⟨ih0, ih1⟩ := Fg.mono_l k; refine ⟨?_, ?_⟩
  ·intro y0 y1 y2
   unfold Fg.j0
   repeat' first | (with_reducible first | exact ih0 _ _ _ | exact ih1 _ _ _ _ | exact Fgb.mono _ _ _ _ _ | exact Fh.mono _ _ | exact lA | apply lI | refine lB ?_ fun _ => ?_) | exact lN _ | apply lI | refine lB ?_ fun _ => ?_
  ·intro y0 y1 y2 y3
   unfold Fg.l0
   repeat' first | (with_reducible first | exact ih0 _ _ _ | exact ih1 _ _ _ _ | exact Fgb.mono _ _ _ _ _ | exact Fh.mono _ _ | exact lA | apply lI | refine lB ?_ fun _ => ?_) | exact lN _ | apply lI | refine lB ?_ fun _ => ?_
theorem Fg.mono : ∀ a0 a1 k, LeO (Fg.f k a0 a1) (Fg.f (k + 1) a0 a1) := by
 intro a0 a1 k; obtain ⟨ih0, ih1⟩ := Fg.mono_l k
 unfold Fg.f
 repeat' first | (with_reducible first | exact ih0 _ _ _ | exact ih1 _ _ _ _ | exact Fgb.mono _ _ _ _ _ | exact Fh.mono _ _ | exact lA | apply lI | refine lB ?_ fun _ => ?_) | exact lN _ | apply lI | refine lB ?_ fun _ => ?_
def Fg.T1 : Bool × List (List Nat × List Nat) := (true, [([], []), ([], []), ([0, 1, 1], [0, 1]), ([2, 2], [2]), ([3, 3], [3]), ([3], [3]), ([4, 5, 4, 3], [3, 4, 5]), ([3, 6], [3, 6])])
def Fg.B1 : List Nat := [0, 0, 3, 7, 15, 15, 63, 127]
theorem Fg.tab1 : rtab .any (opsOf Try.f81 1) = Fg.T1 := by kernel_rfl
theorem Fg.bits1 : waitsOk Fg.T1.2 Fg.B1 = true := by kernel_rfl
theorem Fg.calls (k : Nat) (B : Bool) (G : Option Addr) (I : Nat) (A : List Int) (r1 : Int) (r2 : Bool) (w : World) (al : Kd.C (Kd.int .u64) w G A.length A) (am : A.length ≤ I) (h : Fg.f k B A = some (r1, r2)) :
  Calls Try.prog 81 #[.agg #[.bool B, .slice G A.length I]] w fun e w' => e = .returned (.tuple #[.int .i64 r1, .bool r2]) ∧ Below w.heap.size w w' := by
 have hu73 := Try.underlying73; have V := aM al; have aa := aM am; clear al am; have HB := aM (Qg w.heap.size w); rw [Fg.f] at h; have H := h; clear h; have aw := aM H; clear H
 go_enter Try.func81, Try.ntmps81
 go_upto_region 1 with (first | ((with_reducible refine Qa (N := 1) rfl ?_); refine be_ (cs := #[.bool B, .slice G A.length I]) (t := 73) ?_; intro F hg w3 au hb; have z := aM (au); have bf := gE hg (bP0 HB); have D := gE hg (bP0 HB); replace HB := hS0 HB hb; clear hb au hg))
 (try simp only [Act.put, sA, sB, sC])
 go_cut [13] (fun a8 wc => ∃ (kq : Nat) (W : Bool), a8 = .bool W ∧ Aside0 (Fg.j0 kq W B A = some (r1, r2)) ∧ Aside0 (kq ≤ k) ∧ Aside0 (wc.heap[F]? = some (.cells #[.bool B, (.slice G A.length I)] 73 (0, 0))) ∧ BA w wc)
 case first =>
  have H := aw.out; clear aw; replace H := QZ H; obtain ⟨⟨L, M⟩, aD, H⟩ := H; replace H : ((Fgb.f k B A L M).bind fun ai => (if ai = true then (Fg.j0 k true B A) else ((Fh.f k 9223372036854775807).bind fun an => ((Fgb.f k an.1 an.2 B A).bind fun P => (Fg.j0 k P B A))))) = some (r1, r2) := H; have A4 := aM aD; clear aD; apply bSx H; clear H; intro ai A5 H
  by_cases c6 : ai = true
  ·subst c6
   rw [if_pos rfl] at H; have H' := aM H; clear H
   try go_wp2
   replace z := kD z; replace HB := aM (below_drew1 HB.out); refine start_ (n := 8) (S := fun w' => w'.cell? ⟨F, 0, none⟩ = some (.bool B) ∧ w'.cell? ⟨F, 1, none⟩ = some (.slice G A.length I)) (ds := []) (bl 8 0) (by kernel_rfl) rfl rfl (bD2 z) (fun R => ?_); refine with_tabW Fg.tab1 Fg.bits1 (fun U ah => ?_); generalize w3.drew = w7 at z HB R ⊢; refine tk2_ 0 6 (bl 8 1) U ah R ?_; refine one_ (i := 1) (N := some 7) (bl 8 3) rfl rfl (one_of U.out (by kernel_rfl)) (by decide) (fun K hK => ?_); refine gS_ Try.func53 #[.int .i64 (-9223372036854775808)] ?_
   with_reducible refine (Fh.calls k (-9223372036854775808) L M _ A4.out).mono ?_
   rintro e w8 ⟨aH, rfl, Q, hb⟩; refine ⟨_, rfl, ?_⟩; have E := aM (Qp (QQ (ok' := fun k_ => k_ ≠ F) Q (fun k_ hk_ => (Qq (g := F) (o := .cells #[.bool B, .slice G A.length I] 73 (0, 0)) (kO z.out) k_ hk_))) (Qv (bP1 HB D))); replace z := kB z hb; replace HB := hS1 HB D hb
   (try clear hb)
   (try clear ae)
   (try clear hk)
   (try clear hi)
   (try clear Q)
   obtain ⟨bb, bc, aF⟩ := Qh E.out
   (first | subst aF | obtain ⟨rfl, rfl⟩ := iS aF)
   refine hK.out _ _ (bD2 z) (fun R => ?_); clear hK K; refine nm_ 7 ?_; refine one_ (i := 2) (N := some 8) (bl 8 7) rfl rfl (one_of U.out (by kernel_rfl)) (by decide) (fun K hK => ?_); refine gS_ Try.func99 #[.agg #[.bool B, .slice G A.length I], .agg #[.bool L, .slice bb M.length bc]] ?_
   with_reducible refine (Fgb.calls k B _ _ A L _ _ M true _ ?s1 ?s2 ?s3 ?s4 A5.out).mono ?_
   (case s1 => exact cB V HB)
   (case s2 => exact aa.out)
   (case s3 => exact cO (QP E.out).2.2)
   (case s4 => exact (QP E.out).2.1)
   rintro e bn ⟨rfl, hb⟩; refine ⟨_, rfl, ?_⟩; replace E := aM (QX (vO E.out) hb); replace z := kB z hb; replace HB := hS1 HB D hb
   (try clear hb)
   (try clear ae)
   (try clear hk)
   (try clear hi)
   refine hK.out _ _ (bD2 z) (fun R => ?_); clear hK K; refine nm_ 8 ?_; refine pu_ 3 9 (bl 8 15) U ?_; refine pn_ 4 10 (bl 8 31) U ?_; refine pn_ 5 11 (bl 8 63) U ?_; refine pn_ 6 12 (bl 8 127) U ?_; refine pu_ 7 13 (bl 8 255) U ?_; refine done_ (done_of U.out (by kernel_rfl)) ?_
   try go_wp2
   go_meet
   case rel => exact ⟨_, (true), sI, H', lE, kQ z, bT1 HB D⟩
  ·replace c6 := Qc c6; subst c6
   rw [if_neg nF] at H; replace H := QZ H; obtain ⟨⟨ab, ac⟩, ax, H⟩ := H; replace H : ((Fgb.f k ab ac B A).bind fun P => (Fg.j0 k P B A)) = some (r1, r2) := H; have bd := aM ax; clear ax; apply bSx H; clear H; intro P be H; have H' := aM H; clear H
   try go_wp2
   replace z := kD z; replace HB := aM (below_drew1 HB.out); refine start_ (n := 8) (S := fun w' => w'.cell? ⟨F, 0, none⟩ = some (.bool B) ∧ w'.cell? ⟨F, 1, none⟩ = some (.slice G A.length I)) (ds := []) (bl 8 0) (by kernel_rfl) rfl rfl (bD2 z) (fun R => ?_); refine with_tabW Fg.tab1 Fg.bits1 (fun U ah => ?_); generalize w3.drew = bo at z HB R ⊢; refine tk2_ 0 6 (bl 8 1) U ah R ?_; refine one_ (i := 1) (N := some 7) (bl 8 3) rfl rfl (one_of U.out (by kernel_rfl)) (by decide) (fun K hK => ?_); refine gS_ Try.func53 #[.int .i64 (-9223372036854775808)] ?_
   with_reducible refine (Fh.calls k (-9223372036854775808) L M _ A4.out).mono ?_
   rintro e bp ⟨aH, rfl, Q, hb⟩; refine ⟨_, rfl, ?_⟩; have E := aM (Qp (QQ (ok' := fun k_ => k_ ≠ F) Q (fun k_ hk_ => (Qq (g := F) (o := .cells #[.bool B, .slice G A.length I] 73 (0, 0)) (kO z.out) k_ hk_))) (Qv (bP1 HB D))); replace z := kB z hb; replace HB := hS1 HB D hb
   (try clear hb)
   (try clear ae)
   (try clear hk)
   (try clear hi)
   (try clear Q)
   obtain ⟨aI, aJ, az⟩ := Qh E.out
   (first | subst az | obtain ⟨rfl, rfl⟩ := iS az)
   refine hK.out _ _ (bD2 z) (fun R => ?_); clear hK K; refine nm_ 7 ?_; refine one_ (i := 2) (N := some 8) (bl 8 7) rfl rfl (one_of U.out (by kernel_rfl)) (by decide) (fun K hK => ?_); refine gS_ Try.func99 #[.agg #[.bool B, .slice G A.length I], .agg #[.bool L, .slice aI M.length aJ]] ?_
   with_reducible refine (Fgb.calls k B _ _ A L _ _ M false _ ?s1 ?s2 ?s3 ?s4 A5.out).mono ?_
   (case s1 => exact cB V HB)
   (case s2 => exact aa.out)
   (case s3 => exact cO (QP E.out).2.2)
   (case s4 => exact (QP E.out).2.1)
   rintro e bq ⟨rfl, hb⟩; refine ⟨_, rfl, ?_⟩; replace E := aM (QX (vO E.out) hb); replace z := kB z hb; replace HB := hS1 HB D hb
   (try clear hb)
   (try clear ae)
   (try clear hk)
   (try clear hi)
   refine hK.out _ _ (bD2 z) (fun R => ?_); clear hK K; refine nm_ 8 ?_; refine pu_ 3 9 (bl 8 15) U ?_; refine tk2_ 5 11 (bl 8 47) U ah R ?_; refine one_ (i := 4) (N := some 10) (bl 8 63) rfl rfl (one_of U.out (by kernel_rfl)) (by decide) (fun K hK => ?_); refine gS_ Try.func53 #[.int .i64 9223372036854775807] ?_
   with_reducible refine (Fh.calls k 9223372036854775807 ab ac _ bd.out).mono ?_
   rintro e br ⟨bj, rfl, Q, hb⟩; refine ⟨_, rfl, ?_⟩; replace E := aM (QX (vO E.out) hb); have O := aM (Qp (QQ (ok' := fun k_ => k_ ≠ F) Q (fun k_ hk_ => (Qq (g := F) (o := .cells #[.bool B, .slice G A.length I] 73 (0, 0)) (kO z.out) k_ hk_))) (Qv (bP1 HB D))); replace z := kB z hb; replace HB := hS1 HB D hb
   (try clear hb)
   (try clear ae)
   (try clear hk)
   (try clear hi)
   (try clear Q)
   obtain ⟨aK, aL, aA⟩ := Qh O.out
   (first | subst aA | obtain ⟨rfl, rfl⟩ := iS aA)
   refine hK.out _ _ (bD2 z) (fun R => ?_); clear hK K; refine nm_ 10 ?_; refine one_ (i := 6) (N := some 12) (bl 8 127) rfl rfl (one_of U.out (by kernel_rfl)) (by decide) (fun K hK => ?_); refine gS_ Try.func99 #[.agg #[.bool ab, .slice aK ac.length aL], .agg #[.bool B, .slice G A.length I]] ?_
   with_reducible refine (Fgb.calls k ab _ _ ac B _ _ A P _ ?s1 ?s2 ?s3 ?s4 be.out).mono ?_
   (case s1 => exact cO (QP O.out).2.2)
   (case s2 => exact (QP O.out).2.1)
   (case s3 => exact cB V HB)
   (case s4 => exact aa.out)
   rintro e bs ⟨rfl, hb⟩; refine ⟨_, rfl, ?_⟩; replace E := aM (QX (vO E.out) hb); replace O := aM (QX (vO O.out) hb); replace z := kB z hb; replace HB := hS1 HB D hb
   (try clear hb)
   (try clear ae)
   (try clear hk)
   (try clear hi)
   refine hK.out _ _ (bD2 z) (fun R => ?_); clear hK K; refine nm_ 12 ?_; refine pu_ 7 13 (bl 8 255) U ?_; refine done_ (done_of U.out (by kernel_rfl)) ?_
   try go_wp2
   go_meet
   case rel => exact ⟨_, (P), sI, H', lE, kQ z, bT1 HB D⟩
 case rest =>
  clear aw
  obtain ⟨kq, W, rfl, HA, HJ1, z, HB⟩ := hcut; cases kq with
  | zero => exact absurd HA.out (by simp [Fg.j0])
  | succ aG =>
   have H := HA.out; clear HA; simp only [Fg.j0] at H
   by_cases ao : W = true
   ·subst ao
    rw [if_pos rfl] at H; obtain ⟨rfl, rfl⟩ := pE2 H
    go_wp2
    go_ret2
    exact ⟨eW, bS1 HB.out D.out⟩
   ·replace ao := Qc ao; subst ao
    rw [if_neg nF] at H; have H' := aM H; clear H; obtain ⟨aP, aQ, aR, aS⟩ := bG2 z
    go_wp2
    go_loopg [4, 5] aG (fun kq v4 v5 w' => ∃ (ad : Int) (J : Int), v4 = .int .u64 ad ∧ v5 = .int .i64 J ∧ Aside0 (Fg.l0 kq ad J B A = some (r1, r2)) ∧ Aside0 (kq ≤ aG) ∧ Aside0 (w'.heap[F]? = some (.cells #[.bool B, (.slice G A.length I)] 73 (0, 0))) ∧ BA w w')
    case atStart => exact ⟨(0), (wrap64 ((A.length : Int) - 1)), sI, sI, H', ⟨Nat.le_refl _⟩, kQ z, bT1 HB D⟩
    case round =>
     clear H'
     obtain ⟨ad, J, rfl, rfl, HA, av, z, HB⟩ := hrel; cases gk with
     | zero => exact absurd HA.out (by simp [Fg.l0])
     | succ k2 =>
      have H := HA.out; clear HA; simp only [Fg.l0] at H
      apply iB H <;> clear H <;> intro Y H
      ·have aC := dT Y; clear Y
       apply iN H; clear H; intro ap H; have bg := dT ap; clear ap
       apply iN H; clear H; intro aq H; have bh := dT aq; clear aq; have H' := aM H; clear H; obtain ⟨aT, aU, aV, aW⟩ := bG2 z; obtain ⟨⟨bi, aN, Z⟩, aj, ak⟩ := xAt (Kd.at_int V.out) J; cases aN; replace Z := cX HB Z
       go_wp2
       go_roundg k2
       case measure => have := HJ1.out; have := av.out; omega
       case rel => exact ⟨(Go.bits .or .u64 (IntKind.u64.wrap (ad * 65536)) (rd A J)), (wrap64 (J - 1)), sI, sI, H', ⟨by have := HJ1.out; have := av.out; omega⟩, kQ z, bT1 HB D⟩
      ·have aC := decide_eq_false Y; clear Y
       by_cases ar : B = true
       ·subst ar
        rw [if_pos rfl] at H; obtain ⟨rfl, rfl⟩ := pE2 H; obtain ⟨aX, aY, aZ, a2⟩ := bG2 z
        go_wp2
        go_ret2
        exact ⟨eW, bS1 HB.out D.out⟩
       ·replace ar := Qc ar; subst ar
        rw [if_neg nF] at H; obtain ⟨rfl, rfl⟩ := pE2 H; obtain ⟨a3, a4, a5, a6⟩ := bG2 z
        go_wp2
        go_ret2
        exact ⟨eW, bS1 HB.out D.out⟩
def Fjb.f (k : Nat) (a0_0 : Bool) (l0_1 : List Int) : Option (Int × Int) := (Fg.f k a0_0 l0_1).bind fun bt296 => (if bt296.2 = true then (some (bt296.1, 0)) else (some (0, 10)))
theorem Fjb.mono : ∀ a0 a1 k, LeO (Fjb.f k a0 a1) (Fjb.f (k + 1) a0 a1) := by
 intro a0 a1 k
 unfold Fjb.f
 repeat' first | (with_reducible first | exact Fg.mono _ _ _ | exact lA | apply lI | refine lB ?_ fun _ => ?_) | exact lN _ | apply lI | refine lB ?_ fun _ => ?_
theorem Fjb.calls (k : Nat) (B : Bool) (E : Option Addr) (F : Nat) (z : List Int) (V : Int) (W : Int) (w : World) (I : Kd.C (Kd.int .u64) w E z.length z) (J : z.length ≤ F) (h : Fjb.f k B z = some (V, W)) :
  Calls Try.prog 76 #[.agg #[.bool B, .slice E z.length F]] w fun e w' => e = .returned (.tuple #[.int .i64 V, .int .i64 W]) ∧ Below w.heap.size w w' := by
 have hu73 := Try.underlying73; have L := aM I; have M := aM J; clear I J; have HB := aM (Qg w.heap.size w); rw [Fjb.f] at h; have H := h; clear h; replace H := QZ H; obtain ⟨⟨G, O⟩, U, H⟩ := H; replace H : (if O = true then (some (G, 0)) else (some (0, 10))) = some (V, W) := H; have Y := aM U; clear U
 by_cases P : O = true
 ·subst P
  rw [if_pos rfl] at H; obtain ⟨rfl, rfl⟩ := pE2 H
  go_enter Try.func76, Try.ntmps76
  go_wp2_with (first | ((with_reducible refine Qa (N := 1) rfl ?_); refine be_ (cs := #[.bool B, .slice E z.length F]) (t := 73) ?_; intro Q hg w4 ah hb; have A := aM (ah); have R := gE hg (bP0 HB); have D := gE hg (bP0 HB); replace HB := hS0 HB hb; clear hb ah hg; obtain ⟨Z, aa, ab, ac⟩ := bG2 A) | ((with_reducible refine Qb (f := 81) rfl ?_); refine gL_ (some 8) Try.func81 #[.agg #[.bool B, .slice E z.length F]] ?_; (with_reducible refine (Fg.calls k B _ _ z G true _ ?s1 M.out Y.out).mono ?_); (case s1 => exact cB L HB); rintro e w6 ⟨rfl, hb⟩; refine ⟨_, rfl, ?_⟩; replace A := kB A hb; replace HB := hS1 HB D hb; (try clear hb)))
  go_ret2
  exact ⟨eW, bS1 HB.out D.out⟩
 ·replace P := Qc P; subst P
  rw [if_neg nF] at H; obtain ⟨rfl, rfl⟩ := pE2 H
  go_enter Try.func76, Try.ntmps76
  go_wp2_with (first | ((with_reducible refine Qa (N := 1) rfl ?_); refine be_ (cs := #[.bool B, .slice E z.length F]) (t := 73) ?_; intro Q hg w7 ah hb; have A := aM (ah); have R := gE hg (bP0 HB); have D := gE hg (bP0 HB); replace HB := hS0 HB hb; clear hb ah hg; obtain ⟨ad, ae, af, ag⟩ := bG2 A) | ((with_reducible refine Qb (f := 81) rfl ?_); refine gL_ (some 8) Try.func81 #[.agg #[.bool B, .slice E z.length F]] ?_; (with_reducible refine (Fg.calls k B _ _ z G false _ ?s1 M.out Y.out).mono ?_); (case s1 => exact cB L HB); rintro e w9 ⟨rfl, hb⟩; refine ⟨_, rfl, ?_⟩; replace A := kB A hb; replace HB := hS1 HB D hb; (try clear hb)))
  go_ret2
  exact ⟨eW, bS1 HB.out D.out⟩
def Fia.l0 : Nat → List Int → Int → Bool → List Int → Option (Int × Int)
 | 0, _, _, _, _ => none
 | k + 1, x0, x5, x303000, x303001 => if x5 < (x0.length : Int) then (if 0 ≤ x5 then ((Fh.f k (rd x0 x5)).bind fun bt304 => ((Fha.f k x303000 x303001 false bt304.2).bind fun bt308 => (Fia.l0 k x0 (wrap64 (x5 + 1)) bt308.1 bt308.2))) else (none)) else ((Fjb.f k x303000 x303001).bind fun bt312 => (some (bt312.1, bt312.2)))
def Fia.f (k : Nat) (l0 : List Int) : Option (Int × Int) := (Fh.f k 0).bind fun bt298 => (Fia.l0 k l0 0 bt298.1 bt298.2)
theorem Fia.mono_l : ∀ k, (∀ y0 y1 y2 y3, LeO (Fia.l0 k y0 y1 y2 y3) (Fia.l0 (k + 1) y0 y1 y2 y3))
 | 0 => fun _ _ _ _ r h => by simp [Fia.l0] at h
 | k + 1 => by
  have ih0 := Fia.mono_l k
  ·intro y0 y1 y2 y3
   unfold Fia.l0
   repeat' first | (with_reducible first | exact ih0 _ _ _ _ | exact Fh.mono _ _ | exact Fha.mono _ _ _ _ _ | exact Fjb.mono _ _ _ | exact lA | apply lI | refine lB ?_ fun _ => ?_) | exact lN _ | apply lI | refine lB ?_ fun _ => ?_
theorem Fia.mono : ∀ a0 k, LeO (Fia.f k a0) (Fia.f (k + 1) a0) := by
 intro a0 k; have ih0 := Fia.mono_l k
 unfold Fia.f
 repeat' first | (with_reducible first | exact ih0 _ _ _ _ | exact Fh.mono _ _ | exact Fha.mono _ _ _ _ _ | exact Fjb.mono _ _ _ | exact lA | apply lI | refine lB ?_ fun _ => ?_) | exact lN _ | apply lI | refine lB ?_ fun _ => ?_
def Fia.T5 : Bool × List (List Nat × List Nat) := (true, [([], []), ([], []), ([], []), ([1, 2], [1, 2]), ([3], [3]), ([4], [4]), ([5], [5]), ([6], [6]), ([0, 7, 5], [0, 7]), ([8, 8, 0, 1, 2, 3, 4, 5, 6, 7, 8], [8])])
def Fia.B5 : List Nat := [0, 0, 0, 6, 14, 30, 62, 126, 255, 511]
theorem Fia.tab5 : rtab .any (opsOf Try.f52 5) = Fia.T5 := by kernel_rfl
theorem Fia.bits5 : waitsOk Fia.T5.2 Fia.B5 = true := by kernel_rfl
theorem Fia.calls (k : Nat) (A0 : Option Addr) (c0 : Nat) (M : List Int) (r1 : Int) (r2 : Int) (w : World) (aC : Kd.C (Kd.int .i64) w A0 M.length M) (aD : M.length ≤ c0) (h : Fia.f k M = some (r1, r2)) :
  Calls Try.prog 52 #[.slice A0 M.length c0] w fun e w' => e = .returned (.tuple #[.int .i64 r1, .int .i64 r2]) ∧ Below w.heap.size w w' := by
 have hu73 := Try.underlying73
 have hfd73_1 : ∀ (z0 z1 : Value) (W : World), (Instr.field 73 (.agg #[z0, z1]) 1).run Try.prog W = .ok z1 W := fun z0 z1 W => by kernel_rfl
 have aZ := aM aC; have bh := aM aD; clear aC aD; have HB := aM (Qg w.heap.size w); rw [Fia.f] at h; have H := h; clear h; replace H := QZ H; obtain ⟨⟨aa, Y⟩, aE, H⟩ := H; replace H : (Fia.l0 k M 0 aa Y) = some (r1, r2) := H; have A2 := aM aE; clear aE; have H' := aM H; clear H
 go_enter Try.func52, Try.ntmps52
 go_wp2_with (first | ((with_reducible refine Qb (f := 53) rfl ?_); refine gL_ (some 8) Try.func53 #[.int .i64 0] ?_; (with_reducible refine (Fh.calls k 0 aa Y _ A2.out).mono ?_); rintro e w3 ⟨bb, rfl, P, hb⟩; refine ⟨_, rfl, ?_⟩; have U := aM (Qp (QQ (ok' := fun k_ => True) P (fun k_ hk_ => trivial)) (Qv (bP0 HB))); replace HB := hS0 HB hb; (try clear hb); (try clear P)) | ((with_reducible refine Qa (N := 4) rfl ?_); refine be_ (cs := #[.bool false, .slice none 0 0]) (t := 73) ?_; intro E hg w4 ad hb; replace U := aM (QX (Qr (vO U.out) E (Qd hg.symm)) hb); have A := aM (ad); have a9 := gE hg (bP0 HB); have I := gE hg (bP0 HB); replace HB := hS0 HB hb; clear hb ad hg; obtain ⟨a1, a2, a3, a4⟩ := bG2 A; obtain ⟨aF, aG, a5⟩ := Qh U.out; subst a5))
 go_loopg [5] k (fun kq v5 w' => ∃ (F : Int) (B : Bool) (D : List Int) (J : Value), v5 = .int .i64 F ∧ Aside0 (Fia.l0 kq M F B D = some (r1, r2)) ∧ Aside0 (kq ≤ k) ∧ Aside0 (Kd.V (Kd.int .u64) 115 w' w.heap.size (fun k_ => k_ ≠ E) J D) ∧ Aside0 (w'.heap[E]? = some (.cells #[.bool B, J] 73 (0, 0))) ∧ BA w w')
 case atStart => exact ⟨(0), (aa), (Y), (.slice aF Y.length aG), sI, H', ⟨Nat.le_refl _⟩, ⟨by (with_reducible repeat (first | apply QV | apply QU | apply QJ)); exact QQ (QY (p := ⟨E, 1, none⟩) (QY (p := ⟨E, 0, none⟩) (QQ U.out (fun k_ hk => (⟨hk, hk.2⟩ : _ ∧ k_ ≠ E))) (fun _ hk => hk.2) (.bool aa)) (fun _ hk => hk.2) (.slice aF Y.length aG)) (fun _ hk => hk.1.2)⟩, ⟨by (with_reducible repeat (first | refine Qj ?_ _ | refine Qu ?_ | refine Qz ?_ _)); exact Qy (Qy A.out 0 _ rfl) 1 _ rfl⟩, bT1 HB I⟩
 case round =>
  clear H'
  obtain ⟨F, B, D, J, rfl, HA, ag, z, A, HB⟩ := hrel; cases gk with
  | zero => exact absurd HA.out (by simp [Fia.l0])
  | succ k1 =>
   have H := HA.out; clear HA; simp only [Fia.l0] at H
   apply iB H <;> clear H <;> intro c7 H
   ·have aJ := dT c7; clear c7
    apply iN H; clear H; intro c8 H; have bd := dT c8; clear c8; replace H := QZ H; obtain ⟨⟨aK, ab⟩, aH, H⟩ := H; replace H : ((Fha.f k1 B D false ab).bind fun am => (Fia.l0 k1 M (wrap64 (F + 1)) am.1 am.2)) = some (r1, r2) := H; have A9 := aM aH; clear aH; replace H := QZ H; obtain ⟨⟨ac, Z⟩, ap, H⟩ := H; replace H : (Fia.l0 k1 M (wrap64 (F + 1)) ac Z) = some (r1, r2) := H; have a6 := aM ap; clear ap; have H' := aM H; clear H
    try go_wp2
    replace z := aM (QJ z.out); replace A := kD A; replace HB := aM (below_drew1 HB.out); have ai : 0 ≤ (F : Int) := oT aO; have aj : F < (M.length : Int) := oT aO; obtain ⟨aB, aL, L⟩ := Kd.at_int aZ.out F ai aj; have G := L; cases aL; replace L := cX HB L; replace ai := eq_true ai; replace aj := eq_true aj; refine start_ (n := 10) (S := fun w' => w'.cell? ⟨E, 0, none⟩ = some (.bool B) ∧ w'.cell? ⟨E, 1, none⟩ = some (J) ∧ w'.cell? (aB.add (F).toNat) = some (.int .i64 (rd M F))) (ds := [9]) (bl 10 0) (by kernel_rfl) rfl rfl ⟨(QW A.out 0).trans rfl, (QW A.out 1).trans rfl, ((HB.out.cell (World.block_lt_of_cell? w _ G)).trans G)⟩ (fun R => ?_); refine with_tabW Fia.tab5 Fia.bits5 (fun Q af => ?_); generalize wr.drew = bi at z A HB L R ⊢; refine pu_ 1 16 (bl 10 2) Q ?_; refine pu_ 2 17 (bl 10 6) Q ?_; refine pu_ 3 18 (bl 10 14) Q ?_; refine tk3_ 0 15 (bl 10 15) Q af R ?_; refine tk3_ 4 19 (bl 10 31) Q af R ?_; refine one_ (i := 5) (N := some 20) (bl 10 63) rfl rfl (one_of Q.out (by kernel_rfl)) (by decide) (fun K hK => ?_); refine gS_ Try.func53 #[.int .i64 (rd M F)] ?_
    with_reducible refine (Fh.calls k1 (rd M F) aK ab _ A9.out).mono ?_
    rintro e bj ⟨bf, rfl, P, hb⟩; refine ⟨_, rfl, ?_⟩; replace z := aM (QX (vO z.out) hb); have O := aM (Qp (QQ (ok' := fun k_ => k_ ≠ E) P (fun k_ hk_ => (Qq (g := E) (o := .cells #[.bool B, J] 73 (0, 0)) (kO A.out) k_ hk_))) (Qv (bP1 HB I))); replace A := kB A hb; replace HB := hS1 HB I hb
    (try clear hb)
    (try clear a7)
    (try clear hk)
    (try clear hi)
    (try clear P)
    obtain ⟨aN, aP, aq⟩ := Qh O.out
    (first | subst aq | obtain ⟨rfl, rfl⟩ := iS aq)
    obtain ⟨ak, al, ar⟩ := Qh z.out
    (first | subst ar | obtain ⟨rfl, rfl⟩ := iS ar)
    refine hK.out _ _ ⟨(QW A.out 0).trans rfl, (QW A.out 1).trans rfl, ((HB.out.cell (World.block_lt_of_cell? w _ G)).trans G)⟩ (fun R => ?_); clear hK K; refine nm_ 20 ?_; refine pu_ 6 21 (bl 10 127) Q ?_; refine pu_ 7 22 (bl 10 255) Q ?_; refine one_ (i := 8) (N := some 23) (bl 10 511) rfl rfl (one_of Q.out (by kernel_rfl)) (by decide) (fun K hK => ?_); refine gS_ Try.func54 #[.agg #[.bool B, .slice ak D.length al], .agg #[.bool false, .slice aN ab.length aP]] ?_
    with_reducible refine (Fha.calls k1 B _ _ D false _ _ ab ac Z _ ?s1 ?s2 ?s3 ?s4 a6.out).mono ?_
    (case s1 => exact cO (QP z.out).2.2)
    (case s2 => exact (QP z.out).2.1)
    (case s3 => exact cO (QP O.out).2.2)
    (case s4 => exact (QP O.out).2.1)
    rintro e aI ⟨bg, rfl, P, hb⟩; refine ⟨_, rfl, ?_⟩; replace z := aM (QX (vO z.out) hb); replace O := aM (QX (vO O.out) hb); have an := aM (Qp (QQ (ok' := fun k_ => k_ ≠ E) P (fun k_ hk_ => (Qq (g := E) (o := .cells #[.bool B, .slice ak D.length al] 73 (0, 0)) (kO A.out) k_ hk_))) (Qv (bP1 HB I))); replace A := kB A hb; replace HB := hS1 HB I hb
    (try clear hb)
    (try clear a7)
    (try clear hk)
    (try clear hi)
    (try clear P)
    obtain ⟨au, av, aw⟩ := Qh an.out
    (first | subst aw | obtain ⟨rfl, rfl⟩ := iS aw)
    refine hK.out _ _ ⟨(QW A.out 0).trans rfl, (QW A.out 1).trans rfl, ((HB.out.cell (World.block_lt_of_cell? w _ G)).trans G)⟩ (fun R => ?_); clear hK K; refine nm_ 23 ?_; refine last_ (i := 9) (N := none) (bl 10 1023) rfl rfl (one_of Q.out (by kernel_rfl)) (by decide) (fun K hK => ?_); have hs16 : aI.cell? ⟨E, 0, none⟩ = some (.bool B) := (QW A.out 0).trans rfl; have hfs16 := Qt A.out 0; have hs18 : aI.cell? ⟨E, 1, none⟩ = some (.slice ak D.length al) := (QW A.out 1).trans rfl; have hfs18 := Qt A.out 1; refine skip_ (w1 := ?_) (by rfl) rfl ?_ ?_; rotate_left
    ·go_simp
     rfl
    refine hK.out _ _ ?_; clear hK K; refine done_ (done_of Q.out (by kernel_rfl)) ?_
    try go_wp2
    go_roundg k1
    case measure => have := ag.out; omega
    case rel => exact ⟨(wrap64 (F + 1)), (ac), (Z), (.slice au Z.length av), sI, H', ⟨by have := ag.out; omega⟩, ⟨by (with_reducible repeat (first | apply QV | apply QU | apply QJ)); exact QQ (QY (p := ⟨E, 1, none⟩) (QY (p := ⟨E, 0, none⟩) (QQ an.out (fun k_ hk => (⟨hk, hk⟩ : _ ∧ k_ ≠ E))) (fun _ hk => hk.2) (.bool ac)) (fun _ hk => hk.2) (.slice au Z.length av)) (fun _ hk => hk.1)⟩, ⟨by (with_reducible repeat (first | refine Qj ?_ _ | refine Qu ?_ | refine Qz ?_ _)); exact Qy (Qy A.out 0 _ rfl) 1 _ rfl⟩, bT1 HB I⟩
   ·have aJ := decide_eq_false c7; clear c7; replace H := QZ H; obtain ⟨⟨ax, ay⟩, az, H⟩ := H; replace H : (some (ax, ay)) = some (r1, r2) := H; have a8 := aM az; clear az; obtain ⟨rfl, rfl⟩ := pE2 H; obtain ⟨aT, aU, aV, aW⟩ := bG2 A; obtain ⟨aQ, aR, aS⟩ := Qh z.out; subst aS
    go_wp2_with (first | ((with_reducible refine Qb (f := 76) rfl ?_); refine gL_ (some 26) Try.func76 #[.agg #[.bool B, .slice aQ D.length aR]] ?_; (with_reducible refine (Fjb.calls k1 B _ _ D ax ay _ ?s1 ?s2 a8.out).mono ?_); (case s1 => exact cO (QP z.out).2.2); (case s2 => exact (QP z.out).2.1); rintro e bk ⟨rfl, hb⟩; refine ⟨_, rfl, ?_⟩; replace z := aM (QX (vO z.out) hb); replace A := kB A hb; replace HB := hS1 HB I hb; (try clear hb)))
    go_ret2
    exact ⟨eW, bS1 HB.out I.out⟩
mutual
def Flb.j0 : Nat → Int → Bool → Int → List ByteArray → List Int → Int → Int → Option (Bool)
 | 0, _, _, _, _, _, _, _ => none
 | k + 1, x3, x29, x315000, x315001, x315002, x315003, x315004 => if x29 = true then (some false) else ((some (([x315003] : List Int) : List Int)).bind fun y316 => (if y316.length + x315002.length < 17592186044416 then ((Fia.f k (y316 ++ x315002)).bind fun bt322 => (if bt322.2 = 0 then (if x3 = 2 then (if x315004 < 1 then (Flb.j1 k x3 true x315000 x315001 x315002 x315003 x315004) else (if x315003 < 0 then (Flb.j1 k x3 true x315000 x315001 x315002 x315003 x315004) else (Flb.j1 k x3 (decide (x315003 ≥ x315004)) x315000 x315001 x315002 x315003 x315004))) else (if x315004 = 0 then (Flb.j1 k x3 false x315000 x315001 x315002 x315003 x315004) else (Flb.j1 k x3 true x315000 x315001 x315002 x315003 x315004))) else (Flb.j1 k x3 true x315000 x315001 x315002 x315003 x315004))) else (none)))
def Flb.j1 : Nat → Int → Bool → Int → List ByteArray → List Int → Int → Int → Option (Bool)
 | 0, _, _, _, _, _, _, _ => none
 | k + 1, x3, x71, x315000, x315001, x315002, x315003, x315004 => if x71 = true then (some false) else (Flb.l0 k x3 0 x315000 x315001 x315002 x315003 x315004)
def Flb.l0 : Nat → Int → Int → Int → List ByteArray → List Int → Int → Int → Option (Bool)
 | 0, _, _, _, _, _, _, _ => none
 | k + 1, x3, x6, x315000, x315001, x315002, x315003, x315004 => if x6 < (x315002.length : Int) then (Flb.j3 k x3 x6 (x3 == 2) x315000 x315001 x315002 x315003 x315004) else (Flb.j3 k x3 x6 false x315000 x315001 x315002 x315003 x315004)
def Flb.j3 : Nat → Int → Int → Bool → Int → List ByteArray → List Int → Int → Int → Option (Bool)
 | 0, _, _, _, _, _, _, _, _ => none
 | k + 1, x3, x6, x80, x315000, x315001, x315002, x315003, x315004 => if x80 = true then (if 0 ≤ x6 then (if x6 < (x315002.length : Int) then (if (rd x315002 x6) < 0 then (some false) else (if (rd x315002 x6) ≥ x315004 then (some false) else (Flb.l0 k x3 (wrap64 (x6 + 1)) x315000 x315001 x315002 x315003 x315004))) else (none)) else (none)) else (some true)
end
def Flb.f (k : Nat) (a0_0 : Int) (l0_1 : List ByteArray) (l0_2 : List Int) (a0_3 : Int) (a0_4 : Int) : Option (Bool) := if a0_0 < 0 then (Flb.j0 k a0_0 true a0_0 l0_1 l0_2 a0_3 a0_4) else (if a0_0 > 2 then (Flb.j0 k a0_0 true a0_0 l0_1 l0_2 a0_3 a0_4) else ((Fkc.f k l0_1).bind fun t315 => (if t315 = true then (Flb.j0 k a0_0 ((l0_1.length : Int) != (l0_2.length : Int)) a0_0 l0_1 l0_2 a0_3 a0_4) else (Flb.j0 k a0_0 true a0_0 l0_1 l0_2 a0_3 a0_4))))
theorem Flb.mono_l : ∀ k, (∀ y0 y1 y2 y3 y4 y5 y6, LeO (Flb.j0 k y0 y1 y2 y3 y4 y5 y6) (Flb.j0 (k + 1) y0 y1 y2 y3 y4 y5 y6)) ∧ (∀ y0 y1 y2 y3 y4 y5 y6, LeO (Flb.j1 k y0 y1 y2 y3 y4 y5 y6) (Flb.j1 (k + 1) y0 y1 y2 y3 y4 y5 y6)) ∧ (∀ y0 y1 y2 y3 y4 y5 y6, LeO (Flb.l0 k y0 y1 y2 y3 y4 y5 y6) (Flb.l0 (k + 1) y0 y1 y2 y3 y4 y5 y6)) ∧ (∀ y0 y1 y2 y3 y4 y5 y6 y7, LeO (Flb.j3 k y0 y1 y2 y3 y4 y5 y6 y7) (Flb.j3 (k + 1) y0 y1 y2 y3 y4 y5 y6 y7))
 | 0 => ⟨fun _ _ _ _ _ _ _ r h => by simp [Flb.j0] at h, fun _ _ _ _ _ _ _ r h => by simp [Flb.j1] at h, fun _ _ _ _ _ _ _ r h => by simp [Flb.l0] at h, fun _ _ _ _ _ _ _ _ r h => by simp [Flb.j3] at h⟩
 | k + 1 => by
  obtain ⟨ih0, ih1, ih2, ih3⟩ := Flb.mono_l k; refine ⟨?_, ?_, ?_, ?_⟩
  ·intro y0 y1 y2 y3 y4 y5 y6
   unfold Flb.j0
   repeat' first | (with_reducible first | exact ih0 _ _ _ _ _ _ _ | exact ih1 _ _ _ _ _ _ _ | exact ih2 _ _ _ _ _ _ _ | exact ih3 _ _ _ _ _ _ _ _ | exact Fia.mono _ _ | exact Fkc.mono _ _ | exact lA | apply lI | refine lB ?_ fun _ => ?_) | exact lN _ | apply lI | refine lB ?_ fun _ => ?_
  ·intro y0 y1 y2 y3 y4 y5 y6
   unfold Flb.j1
   repeat' first | (with_reducible first | exact ih0 _ _ _ _ _ _ _ | exact ih1 _ _ _ _ _ _ _ | exact ih2 _ _ _ _ _ _ _ | exact ih3 _ _ _ _ _ _ _ _ | exact Fia.mono _ _ | exact Fkc.mono _ _ | exact lA | apply lI | refine lB ?_ fun _ => ?_) | exact lN _ | apply lI | refine lB ?_ fun _ => ?_
  ·intro y0 y1 y2 y3 y4 y5 y6
   unfold Flb.l0
   repeat' first | (with_reducible first | exact ih0 _ _ _ _ _ _ _ | exact ih1 _ _ _ _ _ _ _ | exact ih2 _ _ _ _ _ _ _ | exact ih3 _ _ _ _ _ _ _ _ | exact Fia.mono _ _ | exact Fkc.mono _ _ | exact lA | apply lI | refine lB ?_ fun _ => ?_) | exact lN _ | apply lI | refine lB ?_ fun _ => ?_
  ·intro y0 y1 y2 y3 y4 y5 y6 y7
   unfold Flb.j3
   repeat' first | (with_reducible first | exact ih0 _ _ _ _ _ _ _ | exact ih1 _ _ _ _ _ _ _ | exact ih2 _ _ _ _ _ _ _ | exact ih3 _ _ _ _ _ _ _ _ | exact Fia.mono _ _ | exact Fkc.mono _ _ | exact lA | apply lI | refine lB ?_ fun _ => ?_) | exact lN _ | apply lI | refine lB ?_ fun _ => ?_
theorem Flb.mono : ∀ a0 a1 a2 a3 a4 k, LeO (Flb.f k a0 a1 a2 a3 a4) (Flb.f (k + 1) a0 a1 a2 a3 a4) := by
 intro a0 a1 a2 a3 a4 k; obtain ⟨ih0, ih1, ih2, ih3⟩ := Flb.mono_l k
 unfold Flb.f
 repeat' first | (with_reducible first | exact ih0 _ _ _ _ _ _ _ | exact ih1 _ _ _ _ _ _ _ | exact ih2 _ _ _ _ _ _ _ | exact ih3 _ _ _ _ _ _ _ _ | exact Fia.mono _ _ | exact Fkc.mono _ _ | exact lA | apply lI | refine lB ?_ fun _ => ?_) | exact lN _ | apply lI | refine lB ?_ fun _ => ?_
theorem Flb.calls (k : Nat) (E : Int) (W : Option Addr) (Y : Nat) (F : List ByteArray) (Z : Option Addr) (aa : Nat) (B : List Int) (D : Int) (G : Int) (r : Bool) (w : World) (bw : Kd.C Kd.string w W F.length F) (bx : F.length ≤ Y) (bz : Kd.C (Kd.int .i64) w Z B.length B) (bA : B.length ≤ aa) (h : Flb.f k E F B D G = some r) :
  Calls Try.prog 28 #[.agg #[.int .i64 E, .slice W F.length Y, .slice Z B.length aa, .int .i64 D, .int .i64 G]] w fun e w' => e = .returned (.bool r) ∧ Below w.heap.size w w' := by
 have hu26 := Try.underlying26; have ab := aM bw; have ac := aM bx; clear bw bx; have U := aM bz; have ev := aM bA; clear bz bA; have HB := aM (Qg w.heap.size w); rw [Flb.f] at h; have H := h; clear h; have bL := aM H; clear H
 go_enter Try.func28, Try.ntmps28
 go_upto_region 2 with (first | ((with_reducible refine Qa (N := 1) rfl ?_); (try (refine gate_guard (by rfl) ?_; dsimp only)); refine be_ (cs := #[.int .i64 E, .slice W F.length Y, .slice Z B.length aa, .int .i64 D, .int .i64 G]) (t := 26) ?_; intro ad hg w3 bI hb; have z := aM (bI); have bB := gE hg (bP0 HB); have A := gE hg (bP0 HB); replace HB := hS0 HB hb; clear hb bI hg; obtain ⟨bc, bd, be, bf, bg, bh, bi, bj, bk, bl⟩ := bG5 z))
 repeat (go_quiet (first | ((with_reducible refine Qa (N := 1) rfl ?_); (try (refine gate_guard (by rfl) ?_; dsimp only)); refine be_ (cs := #[.int .i64 E, .slice W F.length Y, .slice Z B.length aa, .int .i64 D, .int .i64 G]) (t := 26) ?_; intro ad hg w3 bI hb; have z := aM (bI); have bB := gE hg (bP0 HB); have A := gE hg (bP0 HB); replace HB := hS0 HB hb; clear hb bI hg; obtain ⟨bc, bd, be, bf, bg, bh, bi, bj, bk, bl⟩ := bG5 z)); go_upto_region 2 with (first | ((with_reducible refine Qa (N := 1) rfl ?_); (try (refine gate_guard (by rfl) ?_; dsimp only)); refine be_ (cs := #[.int .i64 E, .slice W F.length Y, .slice Z B.length aa, .int .i64 D, .int .i64 G]) (t := 26) ?_; intro ad hg w3 bI hb; have z := aM (bI); have bB := gE hg (bP0 HB); have A := gE hg (bP0 HB); replace HB := hS0 HB hb; clear hb bI hg; obtain ⟨bc, bd, be, bf, bg, bh, bi, bj, bk, bl⟩ := bG5 z)))
 (try simp only [Act.put, sA, sB, sC])
 go_cut [29] (fun eh wc => ∃ (kq : Nat) (al : Bool), eh = .bool al ∧ Aside0 (Flb.j0 kq E al E F B D G = some r) ∧ Aside0 (kq ≤ k) ∧ Aside0 (wc.heap[ad]? = some (.cells #[.int .i64 E, (.slice W F.length Y), (.slice Z B.length aa), .int .i64 D, .int .i64 G] 26 (0, 0))) ∧ BA w wc)
 case first =>
  have H := bL.out; clear bL
  apply iB H <;> clear H <;> intro c5 H
  ·have ap := dT c5; clear c5
   (first | rw [ap] | (simp only [i64_w, i32_w]; rw [ap]) | skip)
   have H' := aM H; clear H
   go_wp2
   repeat (go_quiet (fail); try go_wp2)
   go_meet
   case rel => exact ⟨_, (true), sI, H', lE, kQ z, bT1 HB A⟩
  ·have ap := decide_eq_false c5; clear c5
   (first | rw [ap] | (simp only [i64_w, i32_w]; rw [ap]) | skip)
   apply iB H <;> clear H <;> intro c6 H
   ·have b8 := dT c6; clear c6; have H' := aM H; clear H
    go_wp2
    repeat (go_quiet (fail); try go_wp2)
    go_meet
    case rel => exact ⟨_, (true), sI, H', lE, kQ z, bT1 HB A⟩
   ·have b8 := decide_eq_false c6; clear c6; apply bSx H; clear H; intro b9 A7 H
    by_cases c8 : b9 = true
    ·subst c8
     rw [if_pos rfl] at H; have H' := aM H; clear H; obtain ⟨ei, ej, ek, el, em, en, eo, ep, er, es⟩ := bG5 z
     go_wp2_with (first | (go_at_call 51; (with_reducible refine (Fkc.calls k _ _ F true _ ?s1 ac.out A7.out).mono ?_); (case s1 => exact cB ab HB); rintro e b3 ⟨rfl, hb⟩; replace z := kB z hb; replace HB := hS1 HB A hb; (try clear hb); obtain ⟨ax, ay, az, aA, aC, aD, aE, aG, aH, aI⟩ := bG5 z))
     repeat (go_quiet (first | (go_at_call 51; (with_reducible refine (Fkc.calls k _ _ F true _ ?s1 ac.out A7.out).mono ?_); (case s1 => exact cB ab HB); rintro e b3 ⟨rfl, hb⟩; replace z := kB z hb; replace HB := hS1 HB A hb; (try clear hb); obtain ⟨ax, ay, az, aA, aC, aD, aE, aG, aH, aI⟩ := bG5 z)); try go_wp2_with (first | (go_at_call 51; (with_reducible refine (Fkc.calls k _ _ F true _ ?s1 ac.out A7.out).mono ?_); (case s1 => exact cB ab HB); rintro e b3 ⟨rfl, hb⟩; replace z := kB z hb; replace HB := hS1 HB A hb; (try clear hb); obtain ⟨ax, ay, az, aA, aC, aD, aE, aG, aH, aI⟩ := bG5 z)))
     go_meet
     case rel => exact ⟨_, (((F.length : Int) != (B.length : Int))), sI, H', lE, kQ z, bT1 HB A⟩
    ·replace c8 := Qc c8; subst c8
     rw [if_neg nF] at H; have H' := aM H; clear H; obtain ⟨cb, cc, cd, ce, cf, cg, ch, ci, cj, ck⟩ := bG5 z
     go_wp2_with (first | (go_at_call 51; (with_reducible refine (Fkc.calls k _ _ F false _ ?s1 ac.out A7.out).mono ?_); (case s1 => exact cB ab HB); rintro e b4 ⟨rfl, hb⟩; replace z := kB z hb; replace HB := hS1 HB A hb; (try clear hb)))
     repeat (go_quiet (first | (go_at_call 51; (with_reducible refine (Fkc.calls k _ _ F false _ ?s1 ac.out A7.out).mono ?_); (case s1 => exact cB ab HB); rintro e b4 ⟨rfl, hb⟩; replace z := kB z hb; replace HB := hS1 HB A hb; (try clear hb))); try go_wp2_with (first | (go_at_call 51; (with_reducible refine (Fkc.calls k _ _ F false _ ?s1 ac.out A7.out).mono ?_); (case s1 => exact cB ab HB); rintro e b4 ⟨rfl, hb⟩; replace z := kB z hb; replace HB := hS1 HB A hb; (try clear hb))))
     go_meet
     case rel => exact ⟨_, (true), sI, H', lE, kQ z, bT1 HB A⟩
 case rest =>
  clear bL
  obtain ⟨kq, al, rfl, HA, HJ1, z, HB⟩ := hcut; cases kq with
  | zero => exact absurd HA.out (by simp [Flb.j0])
  | succ ae =>
   have H := HA.out; clear HA; simp only [Flb.j0] at H
   by_cases bC : al = true
   ·subst bC
    rw [if_pos rfl] at H; obtain rfl := Qx H
    go_wp2
    repeat (go_quiet (fail); try go_wp2)
    go_ret
    exact ⟨eW, bS1 HB.out A.out⟩
   ·replace bC := Qc bC; subst bC
    rw [if_neg nF] at H; obtain ⟨aq, am⟩ : ∃ y_ : List Int, y_ = (([D] : List Int)) := ⟨_, rfl⟩
    first | replace H := rI am H | rw [← am] at H
    have a8 := aM am; clear am
    apply iN H; clear H; intro bD H; have a9 := aM bD; clear bD; obtain ⟨br, an⟩ : ∃ y_ : List Int, y_ = (aq ++ B) := ⟨_, rfl⟩
    first | replace H := rI an H | rw [← an] at H
    have ba := aM an; clear an; replace H := QZ H; obtain ⟨⟨bs, ar⟩, bM, H⟩ := H; replace H : (if ar = 0 then (if E = 2 then (if G < 1 then (Flb.j1 ae E true E F B D G) else (if D < 0 then (Flb.j1 ae E true E F B D G) else (Flb.j1 ae E (decide (D ≥ G)) E F B D G))) else (if G = 0 then (Flb.j1 ae E false E F B D G) else (Flb.j1 ae E true E F B D G))) else (Flb.j1 ae E true E F B D G)) = some r := H; have bN := aM bM; clear bM; have bt := aM H; clear H; obtain ⟨cl, cm, cn, co, cp, cq, cr, ct, cu, cv⟩ := bG5 z
    go_upto_region 5 with (first | ((with_reducible refine Qa (N := 33) rfl ?_); (try (refine gate_guard (by rfl) ?_; dsimp only)); refine Wx (Kd.int .i64) _ 2 ?hg (N := 33) ?hd (xs := ([D] : List Int)) (inner := [.int .i64 D]) (ok := fun _ => True) (okp := fun _ => True) ?hr ?hp (fun _ hk => hk) trivial (Qg _ _) (Nat.le_refl _) (by simp) ?_; (case hd => rfl); (case hg => rfl); (case hr => first | (go_simp; done) | (go_simp; rfl)); (case hp => exact (Reps.one (show Kd.M (Kd.int .i64) _ _ _ D [.int .i64 D] from rfl) (Reps.none _ _))); intro au b5 O hb bS bK; clear bS bK; replace O := nW a8 O; have P := rW O (bP1 HB A); replace z := kB z hb; replace HB := hS1 HB A hb; clear hb O; obtain ⟨aJ, aK, aN, aP, aQ, aT, aU, aV, aW, aX⟩ := bG5 z) | ((with_reducible refine gate_builtin (b := .append) (xs := #[.tmp 33, .tmp 35]) rfl ?_); (try (refine gate_guard (by rfl) ?_; dsimp only)); at_builtin; refine Wd (Kd.int .i64) (w0 := w) w.heap.size rfl (.tmp 33) (.tmp 35) 24 2 (.int .i64 0) 8 rfl Try.underlying24 info2 rfl (by decide) (by omega) au aq B _ _ _ (fun _ => True) (fun _ => False) rfl rfl ?aO ?aR (fun _ _ h => h) (fun _ h => h.elim) ?aF ?aB ?aS ?aL ?_; (case aR => exact cO (Q3 U.out HB.out)); (case aB => exact (bP1 HB A)); (case aF => exact (fun _ _ => trivial)); (case aO => exact (rP P)); (case aS => exact (Qv (bP1 HB A))); (case aL => have := a9.out; omega); intro bO b6 ho hb hg hat; rw [← ba.out] at ho; replace z := kG z hg P; replace HB := aM (hb); have J := aM (ho); clear P; clear ho hb hg hat; obtain ⟨bP, bQ, rfl⟩ := sL J) | (go_at_call 52; (with_reducible refine (Fia.calls ae _ _ br bs ar _ ?s1 (rR J).2.1 bN.out).mono ?_); (case s1 => exact cO (rR J).2.2); rintro e b7 ⟨rfl, hb⟩; replace J := rB J hb; replace z := kB z hb; replace HB := hS1 HB A hb; (try clear hb); (try clear hk)))
    repeat (go_quiet (first | ((with_reducible refine Qa (N := 33) rfl ?_); (try (refine gate_guard (by rfl) ?_; dsimp only)); refine Wx (Kd.int .i64) _ 2 ?hg (N := 33) ?hd (xs := ([D] : List Int)) (inner := [.int .i64 D]) (ok := fun _ => True) (okp := fun _ => True) ?hr ?hp (fun _ hk => hk) trivial (Qg _ _) (Nat.le_refl _) (by simp) ?_; (case hd => rfl); (case hg => rfl); (case hr => first | (go_simp; done) | (go_simp; rfl)); (case hp => exact (Reps.one (show Kd.M (Kd.int .i64) _ _ _ D [.int .i64 D] from rfl) (Reps.none _ _))); intro au b5 O hb bS bK; clear bS bK; replace O := nW a8 O; have P := rW O (bP1 HB A); replace z := kB z hb; replace HB := hS1 HB A hb; clear hb O; obtain ⟨aJ, aK, aN, aP, aQ, aT, aU, aV, aW, aX⟩ := bG5 z) | ((with_reducible refine gate_builtin (b := .append) (xs := #[.tmp 33, .tmp 35]) rfl ?_); (try (refine gate_guard (by rfl) ?_; dsimp only)); at_builtin; refine Wd (Kd.int .i64) (w0 := w) w.heap.size rfl (.tmp 33) (.tmp 35) 24 2 (.int .i64 0) 8 rfl Try.underlying24 info2 rfl (by decide) (by omega) au aq B _ _ _ (fun _ => True) (fun _ => False) rfl rfl ?aO ?aR (fun _ _ h => h) (fun _ h => h.elim) ?aF ?aB ?aS ?aL ?_; (case aR => exact cO (Q3 U.out HB.out)); (case aB => exact (bP1 HB A)); (case aF => exact (fun _ _ => trivial)); (case aO => exact (rP P)); (case aS => exact (Qv (bP1 HB A))); (case aL => have := a9.out; omega); intro bO b6 ho hb hg hat; rw [← ba.out] at ho; replace z := kG z hg P; replace HB := aM (hb); have J := aM (ho); clear P; clear ho hb hg hat; obtain ⟨bP, bQ, rfl⟩ := sL J) | (go_at_call 52; (with_reducible refine (Fia.calls ae _ _ br bs ar _ ?s1 (rR J).2.1 bN.out).mono ?_); (case s1 => exact cO (rR J).2.2); rintro e b7 ⟨rfl, hb⟩; replace J := rB J hb; replace z := kB z hb; replace HB := hS1 HB A hb; (try clear hb); (try clear hk))); go_upto_region 5 with (first | ((with_reducible refine Qa (N := 33) rfl ?_); (try (refine gate_guard (by rfl) ?_; dsimp only)); refine Wx (Kd.int .i64) _ 2 ?hg (N := 33) ?hd (xs := ([D] : List Int)) (inner := [.int .i64 D]) (ok := fun _ => True) (okp := fun _ => True) ?hr ?hp (fun _ hk => hk) trivial (Qg _ _) (Nat.le_refl _) (by simp) ?_; (case hd => rfl); (case hg => rfl); (case hr => first | (go_simp; done) | (go_simp; rfl)); (case hp => exact (Reps.one (show Kd.M (Kd.int .i64) _ _ _ D [.int .i64 D] from rfl) (Reps.none _ _))); intro au b5 O hb bS bK; clear bS bK; replace O := nW a8 O; have P := rW O (bP1 HB A); replace z := kB z hb; replace HB := hS1 HB A hb; clear hb O; obtain ⟨aJ, aK, aN, aP, aQ, aT, aU, aV, aW, aX⟩ := bG5 z) | ((with_reducible refine gate_builtin (b := .append) (xs := #[.tmp 33, .tmp 35]) rfl ?_); (try (refine gate_guard (by rfl) ?_; dsimp only)); at_builtin; refine Wd (Kd.int .i64) (w0 := w) w.heap.size rfl (.tmp 33) (.tmp 35) 24 2 (.int .i64 0) 8 rfl Try.underlying24 info2 rfl (by decide) (by omega) au aq B _ _ _ (fun _ => True) (fun _ => False) rfl rfl ?aO ?aR (fun _ _ h => h) (fun _ h => h.elim) ?aF ?aB ?aS ?aL ?_; (case aR => exact cO (Q3 U.out HB.out)); (case aB => exact (bP1 HB A)); (case aF => exact (fun _ _ => trivial)); (case aO => exact (rP P)); (case aS => exact (Qv (bP1 HB A))); (case aL => have := a9.out; omega); intro bO b6 ho hb hg hat; rw [← ba.out] at ho; replace z := kG z hg P; replace HB := aM (hb); have J := aM (ho); clear P; clear ho hb hg hat; obtain ⟨bP, bQ, rfl⟩ := sL J) | (go_at_call 52; (with_reducible refine (Fia.calls ae _ _ br bs ar _ ?s1 (rR J).2.1 bN.out).mono ?_); (case s1 => exact cO (rR J).2.2); rintro e b7 ⟨rfl, hb⟩; replace J := rB J hb; replace z := kB z hb; replace HB := hS1 HB A hb; (try clear hb); (try clear hk))))
    (try simp only [Act.put, sA, sB, sC])
    go_cut [71] (fun et wc => ∃ (kq : Nat) (ah : Bool), et = .bool ah ∧ Aside0 (Flb.j1 kq E ah E F B D G = some r) ∧ Aside0 (kq ≤ ae) ∧ Aside0 (wc.heap[ad]? = some (.cells #[.int .i64 E, (.slice W F.length Y), (.slice Z B.length aa), .int .i64 D, .int .i64 G] 26 (0, 0))) ∧ BA w wc)
    case first =>
     have H := bt.out; clear bt
     apply iB H <;> clear H <;> intro bm H
     ·obtain ⟨ai, bT⟩ := bq bm; clear bm
      (first | rw [ai] | (simp only [i64_w, i32_w]; rw [ai]) | skip)
      apply iB H <;> clear H <;> intro bo H
      ·obtain ⟨bU, bV⟩ := bq bo; clear bo
       apply iB H <;> clear H <;> intro aY H
       ·have bW := dT aY; clear aY; have H' := aM H; clear H; obtain ⟨cw, cx, cy, cz, cA, cC, cD, cE, cF, cG⟩ := bG5 z
        go_wp2
        repeat (go_quiet (fail); try go_wp2)
        go_meet
        case rel => exact ⟨_, (true), sI, H', ⟨by have := HJ1.out; first | omega | exact Nat.le_refl _⟩, kQ z, bT1 HB A⟩
       ·have bW := decide_eq_false aY; clear aY
        apply iB H <;> clear H <;> intro aZ H
        ·have bX := dT aZ; clear aZ; have H' := aM H; clear H; obtain ⟨cH, cI, cJ, cK, cL, cM, cN, cP, cQ, cR⟩ := bG5 z
         go_wp2
         repeat (go_quiet (fail); try go_wp2)
         go_meet
         case rel => exact ⟨_, (true), sI, H', ⟨by have := HJ1.out; first | omega | exact Nat.le_refl _⟩, kQ z, bT1 HB A⟩
        ·have bX := decide_eq_false aZ; clear aZ; have H' := aM H; clear H; obtain ⟨cS, cT, cU, cV, cW, cY, cZ, c0, c1, c2⟩ := bG5 z
         go_wp2
         repeat (go_quiet (fail); try go_wp2)
         go_meet
         case rel => exact ⟨_, (decide (D ≥ G)), sI, H', ⟨by have := HJ1.out; first | omega | exact Nat.le_refl _⟩, kQ z, bT1 HB A⟩
      ·obtain ⟨bU, bV⟩ := bn bo
       apply iB H <;> clear H <;> intro bp H
       ·obtain ⟨bY, bZ⟩ := bq bp; clear bp; have H' := aM H; clear H; obtain ⟨c3, c4, c7, c9, da, db, dc, dd, de, df⟩ := bG5 z
        go_wp2
        repeat (go_quiet (fail); try go_wp2)
        go_meet
        case rel => exact ⟨_, (false), sI, H', ⟨by have := HJ1.out; first | omega | exact Nat.le_refl _⟩, kQ z, bT1 HB A⟩
       ·obtain ⟨bY, bZ⟩ := bn bp; have H' := aM H; clear H; obtain ⟨dg, dh, di, dj, dk, dl, dm, dn, dp, dq⟩ := bG5 z
        go_wp2
        repeat (go_quiet (fail); try go_wp2)
        go_meet
        case rel => exact ⟨_, (true), sI, H', ⟨by have := HJ1.out; first | omega | exact Nat.le_refl _⟩, kQ z, bT1 HB A⟩
     ·obtain ⟨ai, bT⟩ := bn bm
      (first | rw [ai] | (simp only [i64_w, i32_w]; rw [ai]) | skip)
      have H' := aM H; clear H
      go_wp2
      repeat (go_quiet (fail); try go_wp2)
      go_meet
      case rel => exact ⟨_, (true), sI, H', ⟨by have := HJ1.out; first | omega | exact Nat.le_refl _⟩, kQ z, bT1 HB A⟩
    case rest =>
     clear bt
     obtain ⟨kq, ah, rfl, HA, HJ16, z, HB⟩ := hcut; cases kq with
     | zero => exact absurd HA.out (by simp [Flb.j1])
     | succ bR =>
      have H := HA.out; clear HA; simp only [Flb.j1] at H
      by_cases bE : ah = true
      ·subst bE
       rw [if_pos rfl] at H; obtain rfl := Qx H
       go_wp2
       repeat (go_quiet (fail); try go_wp2)
       go_ret
       exact ⟨eW, bS1 HB.out A.out⟩
      ·replace bE := Qc bE; subst bE
       rw [if_neg nF] at H; have H' := aM H; clear H
       go_wp2
       repeat (go_quiet (fail); try go_wp2)
       go_loopg [6] bR (fun kq v6 w' => ∃ (I : Int), v6 = .int .i64 I ∧ Aside0 (Flb.l0 kq E I E F B D G = some r) ∧ Aside0 (kq ≤ bR) ∧ Aside0 (w'.heap[ad]? = some (.cells #[.int .i64 E, (.slice W F.length Y), (.slice Z B.length aa), .int .i64 D, .int .i64 G] 26 (0, 0))) ∧ BA w w')
       case atStart => exact ⟨(0), sI, H', ⟨Nat.le_refl _⟩, kQ z, bT1 HB A⟩
       case round =>
        clear H'
        obtain ⟨I, rfl, HA, eg, z, HB⟩ := hrel; cases gk with
        | zero => exact absurd HA.out (by simp [Flb.l0])
        | succ k3 =>
         have H := HA.out; clear HA; simp only [Flb.l0] at H; have bu := aM H; clear H
         go_upto_region 8 with (fail)
         repeat (go_quiet (fail); go_upto_region 8 with (fail))
         go_cut [80] (fun eu wc => ∃ (kq : Nat) (aj : Bool), eu = .bool aj ∧ Aside0 (Flb.j3 kq E I aj E F B D G = some r) ∧ Aside0 (kq ≤ k3) ∧ Aside0 (wc.heap[ad]? = some (.cells #[.int .i64 E, (.slice W F.length Y), (.slice Z B.length aa), .int .i64 D, .int .i64 G] 26 (0, 0))) ∧ BA w wc)
         case first =>
          have H := bu.out; clear bu
          apply iB H <;> clear H <;> intro a5 H
          ·have ak := dT a5; clear a5
           (first | rw [ak] | (simp only [i64_w, i32_w]; rw [ak]) | skip)
           have H' := aM H; clear H; obtain ⟨dr, ds, dt, du, dv, dw, dx, dy, dz, dA⟩ := bG5 z
           go_wp2
           repeat (go_quiet (fail); try go_wp2)
           go_meet
           case rel => exact ⟨_, ((E == 2)), sI, H', ⟨by have := HJ1.out; have := HJ16.out; have := eg.out; first | omega | exact Nat.le_refl _⟩, kQ z, bT1 HB A⟩
          ·have ak := decide_eq_false a5; clear a5
           (first | rw [ak] | (simp only [i64_w, i32_w]; rw [ak]) | skip)
           have H' := aM H; clear H; obtain ⟨dB, dC, dD, dE, dF, dG, dH, dI, dJ, dK⟩ := bG5 z
           go_wp2
           repeat (go_quiet (fail); try go_wp2)
           go_meet
           case rel => exact ⟨_, (false), sI, H', ⟨by have := HJ1.out; have := HJ16.out; have := eg.out; first | omega | exact Nat.le_refl _⟩, kQ z, bT1 HB A⟩
         case rest =>
          clear bu
          obtain ⟨kq, aj, rfl, HA, HJ35, z, HB⟩ := hcut; cases kq with
          | zero => exact absurd HA.out (by simp [Flb.j3])
          | succ ca =>
           have H := HA.out; clear HA; simp only [Flb.j3] at H
           by_cases bF : aj = true
           ·subst bF
            rw [if_pos rfl] at H
            apply iN H; clear H; intro bG H; have ew := dT bG; clear bG
            apply iN H; clear H; intro bH H; have ex := dT bH; clear bH
            apply iB H <;> clear H <;> intro a6 H
            ·have b0 := dT a6; clear a6; obtain rfl := Qx H; obtain ⟨dL, dM, dN, dO, dP, dQ, dR, dS, dU, dV⟩ := bG5 z; obtain ⟨⟨ao, aw, L⟩, Q, R⟩ := xAt (Kd.at_int U.out) I; cases aw; replace L := cX HB L
             go_wp2
             repeat (go_quiet (fail); try go_wp2)
             go_ret
             exact ⟨eW, bS1 HB.out A.out⟩
            ·have b0 := decide_eq_false a6; clear a6
             apply iB H <;> clear H <;> intro a7 H
             ·have b1 := dT a7; clear a7; obtain rfl := Qx H; obtain ⟨dW, dX, dY, dZ, d0, d1, d2, d3, d4, d5⟩ := bG5 z; obtain ⟨⟨ao, aw, L⟩, Q, R⟩ := xAt (Kd.at_int U.out) I; cases aw; replace L := cX HB L; obtain ⟨⟨bb, bv, V⟩, af, ag⟩ := xAt (Kd.at_int U.out) I; obtain rfl := sJJ bv; replace V := cX HB V
              go_wp2
              repeat (go_quiet (fail); try go_wp2)
              go_ret
              exact ⟨eW, bS1 HB.out A.out⟩
             ·have b1 := decide_eq_false a7; clear a7; have H' := aM H; clear H; obtain ⟨d6, d7, d8, d9, ea, eb, ec, ed, ee, ef⟩ := bG5 z; obtain ⟨⟨ao, aw, L⟩, Q, R⟩ := xAt (Kd.at_int U.out) I; cases aw; replace L := cX HB L; obtain ⟨⟨bb, bv, V⟩, af, ag⟩ := xAt (Kd.at_int U.out) I; obtain rfl := sJJ bv; replace V := cX HB V
              go_wp2
              repeat (go_quiet (fail); try go_wp2)
              go_roundg ca
              case measure => have := HJ1.out; have := HJ16.out; have := eg.out; have := HJ35.out; omega
              case rel => exact ⟨(wrap64 (I + 1)), sI, H', ⟨by have := HJ1.out; have := HJ16.out; have := eg.out; have := HJ35.out; omega⟩, kQ z, bT1 HB A⟩
           ·replace bF := Qc bF; subst bF
            rw [if_neg nF] at H; obtain rfl := Qx H
            go_wp2
            repeat (go_quiet (fail); try go_wp2)
            go_ret
            exact ⟨eW, bS1 HB.out A.out⟩
end Go.Proofs.Ythgoonohpfoagaa.X

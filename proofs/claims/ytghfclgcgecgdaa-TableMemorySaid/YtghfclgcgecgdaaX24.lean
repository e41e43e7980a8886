/- What the functions of this seat compute, and that the program's calls come to just that: written by this session's own program out of the translation; no condition. -/
import Derived.Test.YtghfclgcgecgdaaX0
namespace Go.Proofs.Ytghfclgcgecgdaa.X
open Go.RowKit Go.Proofs.YtghfclgcgecgdaaW.PrintWords Go.Proofs.YtghfclgcgecgdaaW.PrintLast Go.Proofs.YtghfclgcgecgdaaW.PrintMore
attribute [local go_sem] max2_int min2_int max_two min_two max_three min_three max_four min_four
set_option linter.unusedVariables false
set_option linter.unusedSimpArgs false
set_option maxHeartbeats 8000000
set_option maxRecDepth 100000

/-! ### tabardref12_Copy: function 26 -/
def tabardref12_Copy.f (l0_0 : List ByteArray) (l0_1 : List Bool) (l0_2 : List Int) (l0_3 : List (S58)) : Option (List ByteArray × List Bool × List Int × (List (S58))) := (some (([] : List ByteArray) : List ByteArray)).bind fun y296 => (if y296.length + l0_0.length < 8796093022208 then ((some (([] : List Bool) : List Bool)).bind fun y302 => (if y302.length + l0_1.length < 140737488355328 then ((some (([] : List Int) : List Int)).bind fun y308 => (if y308.length + l0_2.length < 17592186044416 then ((some (([] : List (S58)) : List (S58))).bind fun y314 => (if y314.length + l0_3.length < 5864062014805 then (some ((y296 ++ l0_0), (y302 ++ l0_1), (y308 ++ l0_2), (y314 ++ l0_3))) else (none))) else (none))) else (none))) else (none))
def tabardref12_Copy.T1 : Bool × List (List Nat × List Nat) := (true, [([], []), ([], []), ([1], [1]), ([0, 2], [0, 2]), ([], []), ([], []), ([5], [5]), ([4, 6, 3], [4, 6]), ([], []), ([], []), ([9], [9]), ([8, 10, 7], [8, 10]), ([], []), ([], []), ([13], [13]), ([12, 14, 11], [12, 14]), ([3, 7, 11, 15], [3, 7, 11, 15]), ([16, 15, 0, 1, 2, 3, 4, 5, 6, 7, 8, 9, 10, 11, 12, 13, 14, 15, 16], [16])])
def tabardref12_Copy.B1 : List Nat := [0, 0, 2, 7, 0, 0, 32, 127, 0, 0, 512, 2047, 0, 0, 8192, 32767, 65535, 131071]
theorem tabardref12_Copy.tab1 : rtab .any (opsOf Try.f26 1) = tabardref12_Copy.T1 := by kernel_rfl
theorem tabardref12_Copy.bits1 : waitsOk tabardref12_Copy.T1.2 tabardref12_Copy.B1 = true := by kernel_rfl
theorem tabardref12_Copy.calls (a2 : Option Addr) (a3 : Nat) (af : List ByteArray) (a4 : Option Addr) (a5 : Nat) (ai : List Bool) (a6 : Option Addr) (a7 : Nat) (aj : List Int) (a8 : Option Addr) (a9 : Nat) (am : List (S58)) (r1 : List ByteArray) (r2 : List Bool) (r3 : List Int) (r4 : List (S58)) (w : World) (bF : Kd.C Kd.string w a2 af.length af) (bG : af.length ≤ a3) (bH : Kd.C Kd.bool w a4 ai.length ai) (bI : ai.length ≤ a5) (bJ : Kd.C (Kd.int .i64) w a6 aj.length aj) (bK : aj.length ≤ a7) (bL : Kd.C k58 w a8 am.length am) (bM : am.length ≤ a9) (h : tabardref12_Copy.f af ai aj am = some (r1, r2, r3, r4)) :
  Calls Try.prog 26 #[.agg #[.slice a2 af.length a3, .slice a4 ai.length a5, .slice a6 aj.length a7, .slice a8 am.length a9]] w fun e w' => ∃ cb cc cd ce : Value, e = .returned (.agg #[cb, cc, cd, ce]) ∧ Kd.R Kd.string 9 w' w.heap.size (fun _ => True) cb r1 ∧ Kd.R Kd.bool 4 w' w.heap.size (fun _ => True) cc r2 ∧ Kd.R (Kd.int .i64) 3 w' w.heap.size (fun _ => True) cd r3 ∧ Kd.R k58 58 w' w.heap.size (fun _ => True) ce r4 ∧ Below w.heap.size w w' := by
 have hu32 := Try.underlying32; have aC := aM bF; have cx := aM bG; clear bF bG; have be := aM bH; have cy := aM bI; clear bH bI; have bN := aM bJ; have cz := aM bK; clear bJ bK; have b4 := aM bL; have cA := aM bM; clear bL bM; have HB := aM (Below.refl w.heap.size w); rw [tabardref12_Copy.f] at h; have H := h; clear h; obtain ⟨ag, bt⟩ : ∃ y_ : List ByteArray, y_ = (([] : List ByteArray)) := ⟨_, rfl⟩
 replace H : (if ag.length + af.length < 8796093022208 then ((some (([] : List Bool) : List Bool)).bind fun ae => (if ae.length + ai.length < 140737488355328 then ((some (([] : List Int) : List Int)).bind fun ad => (if ad.length + aj.length < 17592186044416 then ((some (([] : List (S58)) : List (S58))).bind fun ac => (if ac.length + am.length < 5864062014805 then (some ((ag ++ af), (ae ++ ai), (ad ++ aj), (ac ++ am))) else (none))) else (none))) else (none))) else (none)) = some (r1, r2, r3, r4) := rH bt H
 have aD := aM bt; clear bt
 apply iN H; clear H; intro c2 H; have aN := aM c2; clear c2; obtain ⟨ap, bf⟩ : ∃ y_ : List ByteArray, y_ = (ag ++ af) := ⟨_, rfl⟩
 first | replace H := rI bf H | rw [← bf] at H
 have aE := aM bf; clear bf; obtain ⟨ae, bu⟩ : ∃ y_ : List Bool, y_ = (([] : List Bool)) := ⟨_, rfl⟩
 replace H : (if ae.length + ai.length < 140737488355328 then ((some (([] : List Int) : List Int)).bind fun ad => (if ad.length + aj.length < 17592186044416 then ((some (([] : List (S58)) : List (S58))).bind fun ac => (if ac.length + am.length < 5864062014805 then (some (ap, (ae ++ ai), (ad ++ aj), (ac ++ am))) else (none))) else (none))) else (none)) = some (r1, r2, r3, r4) := rH bu H
 have aq := aM bu; clear bu
 apply iN H; clear H; intro c3 H; have bv := aM c3; clear c3; obtain ⟨aP, bg⟩ : ∃ y_ : List Bool, y_ = (ae ++ ai) := ⟨_, rfl⟩
 first | replace H := rI bg H | rw [← bg] at H
 have bh := aM bg; clear bg; obtain ⟨ad, bw⟩ : ∃ y_ : List Int, y_ = (([] : List Int)) := ⟨_, rfl⟩
 replace H : (if ad.length + aj.length < 17592186044416 then ((some (([] : List (S58)) : List (S58))).bind fun ac => (if ac.length + am.length < 5864062014805 then (some (ap, aP, (ad ++ aj), (ac ++ am))) else (none))) else (none)) = some (r1, r2, r3, r4) := rH bw H
 have an := aM bw; clear bw
 apply iN H; clear H; intro c4 H; have bY := aM c4; clear c4; obtain ⟨bE, bi⟩ : ∃ y_ : List Int, y_ = (ad ++ aj) := ⟨_, rfl⟩
 first | replace H := rI bi H | rw [← bi] at H
 have bO := aM bi; clear bi; obtain ⟨ac, bj⟩ : ∃ y_ : List (S58), y_ = (([] : List (S58))) := ⟨_, rfl⟩
 first | replace H := rI bj H | rw [← bj] at H
 have ak := aM bj; clear bj
 apply iN H; clear H; intro c5 H; have cg := aM c5; clear c5; obtain ⟨ch, bk⟩ : ∃ y_ : List (S58), y_ = (ac ++ am) := ⟨_, rfl⟩
 first | replace H := rI bk H | rw [← bk] at H
 have b9 := aM bk; clear bk; obtain ⟨rfl, rfl, rfl, rfl⟩ := pE4 H
 go_enter Try.func26, Try.ntmps26
 try go_wp2_with (first | ((with_reducible refine gate_dst (N := 1) rfl ?_); refine be_ (cs := #[.slice a2 af.length a3, .slice a4 ai.length a5, .slice a6 aj.length a7, .slice a8 am.length a9]) (t := 32) ?_; intro az hg w6 bm hb; have z := aM (bm); have cB := gE hg (bP0 HB); have B := gE hg (bP0 HB); replace HB := hS0 HB hb; clear hb bm hg) | ((with_reducible refine gate_dst (N := 2) rfl ?_); refine be_ (cs := #[.slice none 0 0, .slice none 0 0, .slice none 0 0, .slice none 0 0]) (t := 32) ?_; intro ab hg w7 bm hb; have A := aM (bm); have cC := gE hg (bP1 HB B); have D := gE hg (bP1 HB B); replace HB := hS1 HB B hb; have Y := nL hg z; have aG := nG hg z; replace z := kB z hb; clear hb bm hg))
 replace z := kD z; replace A := kD A; replace HB := aM (below_drew1 HB.out); refine start_ (n := 18) (S := fun w' => w'.cell? ⟨az, 0, none⟩ = some (.slice a2 af.length a3) ∧ w'.cell? ⟨az, 1, none⟩ = some (.slice a4 ai.length a5) ∧ w'.cell? ⟨az, 2, none⟩ = some (.slice a6 aj.length a7) ∧ w'.cell? ⟨az, 3, none⟩ = some (.slice a8 am.length a9)) (ds := []) (bl 18 0) (by kernel_rfl) rfl rfl (bD4 z) (fun aQ => ?_); refine with_tabW tabardref12_Copy.tab1 tabardref12_Copy.bits1 (fun aT bn => ?_); generalize w7.drew = w8 at z A HB aQ ⊢; refine pu_ 1 4 (bl 18 2) aT ?_; refine pu_ 5 8 (bl 18 34) aT ?_; refine pu_ 9 12 (bl 18 546) aT ?_; refine pu_ 13 16 (bl 18 8738) aT ?_; refine tk4_ 2 5 (bl 18 8742) aT bn aQ ?_; refine tk4_ 6 9 (bl 18 8806) aT bn aQ ?_; refine tk4_ 10 13 (bl 18 9830) aT bn aQ ?_; refine tk4_ 14 17 (bl 18 26214) aT bn aQ ?_; let q_1 : World → Prop := fun w' => w'.cell? ⟨az, 0, none⟩ = some (.slice a2 af.length a3) ∧ w'.cell? ⟨az, 1, none⟩ = some (.slice a4 ai.length a5) ∧ w'.cell? ⟨az, 2, none⟩ = some (.slice a6 aj.length a7) ∧ w'.cell? ⟨az, 3, none⟩ = some (.slice a8 am.length a9); let q_2 : World → Prop := fun w' => Aside0 (w'.heap[az]? = some (.cells #[.slice a2 af.length a3, .slice a4 ai.length a5, .slice a6 aj.length a7, .slice a8 am.length a9] 32 (0, 0))); let q_3 : World → Prop := fun w' => Aside0 (w'.heap[ab]? = some (.cells #[.slice none 0 0, .slice none 0 0, .slice none 0 0, .slice none 0 0] 32 (0, 0))); refine join_ (σ := Value × Value × Value × Value × Value × Value × Value) 3 (bl 18 32767) (fun s_ => [(3, s_.1), (6, s_.2.1), (7, s_.2.2.1), (10, s_.2.2.2.1), (11, s_.2.2.2.2.1), (14, s_.2.2.2.2.2.1), (15, s_.2.2.2.2.2.2)]) (fun s_ w' => (q_1 w') ∧ (RA Kd.string 9 w' w s_.2.1 ap) ∧ (RA Kd.bool 4 w' w s_.2.2.2.1 aP) ∧ (RA (Kd.int .i64) 3 w' w s_.2.2.2.2.2.1 bE) ∧ (RA k58 58 w' w s_.2.2.2.2.2.2 ac) ∧ (q_2 w') ∧ (q_3 w') ∧ BA w w') ?_ ?_
 ·clear z A HB; rintro ⟨L, W, M, ah, O, ba, P⟩ ct ⟨aQ, I, V, ao, E, z, A, HB⟩; (try dsimp only at aQ I V ao E z A HB); refine norm_ (a' := ?_) ?_ ?_; rotate_left
  ·simp only [putAll, Act.put, sA, sB, sC]
   rfl
  refine one_ (i := 15) (N := some 18) (bl 18 65535) rfl rfl (one_of aT.out (by kernel_rfl)) (by decide) (fun K hK => ?_); refine Kd.R_append_rows_step k58 (w0 := w) w.heap.size (by rfl) (.tmp 15) (.tmp 17) 30 58 (.agg #[(.int .i64 0), (.int .i64 0), (.int .i64 0)]) 24 rfl Try.underlying30 info58 rfl (by decide) (by omega) P ac am _ _ _ (fun _ => True) (fun _ => False) rfl rfl ?aO ?aR (fun _ _ h => h) (fun _ h => h.elim) ?aF ?aB ?aS ?aL ?_
  (case aR => exact cO (Kd.C_below b4.out HB.out))
  (case aB => exact (bP2 HB B D))
  (case aF => exact (fun _ _ => trivial))
  (case aO => exact (rP E))
  (case aS => exact (below_size (bP2 HB B D)))
  (case aL => have := cg.out; omega)
  intro cE bP ho hb hg hat; rw [← b9.out] at ho; replace z := kG z hg E; replace A := kG A hg E; replace I := aM (Kd.R_over' (rP I) (Kd.R_typed (rP E)) (by decide) hg); replace V := aM (Kd.R_over' (rP V) (Kd.R_typed (rP E)) (by decide) hg); replace ao := aM (Kd.R_over' (rP ao) (Kd.R_typed (rP E)) (by decide) hg); replace HB := aM (hb); have bQ := aM (ho); clear E; clear ho hb hg hat; obtain ⟨ci, cj, bZ⟩ := sL bQ
  (first | subst bZ | obtain ⟨rfl, rfl⟩ := iS bZ)
  obtain ⟨ck, cl, b0⟩ := sL ao
  (first | subst b0 | obtain ⟨rfl, rfl⟩ := iS b0)
  obtain ⟨cm, cn, b1⟩ := sL V
  (first | subst b1 | obtain ⟨rfl, rfl⟩ := iS b1)
  obtain ⟨co, cp, b2⟩ := sL I
  (first | subst b2 | obtain ⟨rfl, rfl⟩ := iS b2)
  refine hK.out _ _ (bD4 z) (fun aQ => ?_); clear hK K; refine nm_ 18 ?_; refine pu_ 16 19 (bl 18 131071) aT ?_; refine one_ (i := 17) (N := none) (bl 18 262143) rfl rfl (one_of aT.out (by kernel_rfl)) (by decide) (fun K hK => ?_); have hs26 : bP.cell? ⟨ab, 0, none⟩ = some (.slice none 0 0) := (blk_cell A.out 0).trans rfl; have hfs26 := blk_frozen A.out 0; have hns26_0 := Y.out; have hms26_0 := aG.out; have hs27 : bP.cell? ⟨ab, 1, none⟩ = some (.slice none 0 0) := (blk_cell A.out 1).trans rfl; have hfs27 := blk_frozen A.out 1; have hns27_0 := Y.out; have hms27_0 := aG.out; have hs28 : bP.cell? ⟨ab, 2, none⟩ = some (.slice none 0 0) := (blk_cell A.out 2).trans rfl; have hfs28 := blk_frozen A.out 2; have hns28_0 := Y.out; have hms28_0 := aG.out; have hs29 : bP.cell? ⟨ab, 3, none⟩ = some (.slice none 0 0) := (blk_cell A.out 3).trans rfl; have hfs29 := blk_frozen A.out 3; have hns29_0 := Y.out; have hms29_0 := aG.out; refine skip_ (w1 := ?_) (by rfl) rfl ?_ ?_; rotate_left
  ·go_simp
   rfl
  refine hK.out _ _ ⟨((cell_far (p := ⟨ab, _, none⟩) Y.out _).trans (((cell_far (p := ⟨ab, _, none⟩) Y.out _).trans (((cell_far (p := ⟨ab, _, none⟩) Y.out _).trans (((cell_far (p := ⟨ab, _, none⟩) Y.out _).trans (aQ.1)))))))), ((cell_far (p := ⟨ab, _, none⟩) Y.out _).trans (((cell_far (p := ⟨ab, _, none⟩) Y.out _).trans (((cell_far (p := ⟨ab, _, none⟩) Y.out _).trans (((cell_far (p := ⟨ab, _, none⟩) Y.out _).trans (aQ.2.1)))))))), ((cell_far (p := ⟨ab, _, none⟩) Y.out _).trans (((cell_far (p := ⟨ab, _, none⟩) Y.out _).trans (((cell_far (p := ⟨ab, _, none⟩) Y.out _).trans (((cell_far (p := ⟨ab, _, none⟩) Y.out _).trans (aQ.2.2.1)))))))), ((cell_far (p := ⟨ab, _, none⟩) Y.out _).trans (((cell_far (p := ⟨ab, _, none⟩) Y.out _).trans (((cell_far (p := ⟨ab, _, none⟩) Y.out _).trans (((cell_far (p := ⟨ab, _, none⟩) Y.out _).trans (aQ.2.2.2))))))))⟩ (fun aQ => ?_); clear hK K; refine done_ (done_of aT.out (by kernel_rfl)) ?_
  try go_wp2
  refine bodyPost_ret (results_cell_row rfl _ _ ab 32 #[.slice co ap.length cp, .slice cm aP.length cn, .slice ck bE.length cl, .slice ci ch.length cj] (0, 0) _ rfl (by (with_reducible repeat (first | refine blk_drewN ?_ _ | refine blk_drew ?_ | refine blk_alloc ?_ _)); exact blk_put (blk_put (blk_put (blk_put A.out 0 _ rfl) 1 _ rfl) 2 _ rfl) 3 _ rfl) Try.underlying32 rfl (by kernel_rfl)) rfl ?_; exact ⟨_, _, _, _, eW, rZ I A, rZ V A, rZ ao A, rZ bQ A, bS2 HB.out B.out D.out⟩
 intro ay; refine join_ (σ := Value × Value × Value × Value × Value × Value) 4 (bl 18 28671) (fun s_ => [(3, s_.1), (6, s_.2.1), (7, s_.2.2.1), (10, s_.2.2.2.1), (11, s_.2.2.2.2.1), (14, s_.2.2.2.2.2)]) (fun s_ w' => (q_1 w') ∧ (RA Kd.string 9 w' w s_.2.1 ap) ∧ (RA Kd.bool 4 w' w s_.2.2.2.1 aP) ∧ (RA (Kd.int .i64) 3 w' w s_.2.2.2.2.2 bE) ∧ (q_2 w') ∧ (q_3 w') ∧ BA w w') ?_ ?_
 ·clear z A HB; rintro ⟨L, W, M, ah, O, ba⟩ bz ⟨aQ, I, V, ao, z, A, HB⟩; (try dsimp only at aQ I V ao z A HB); refine norm_ (a' := ?_) ?_ ?_; rotate_left
  ·simp only [putAll, Act.put, sA, sB, sC]
   rfl
  refine one_ (i := 12) (N := some 15) (bl 18 32767) rfl rfl (one_of aT.out (by kernel_rfl)) (by decide) (fun K hK => ?_); refine lt_ k58 58 15 ([] : List (S58)) [] (Reps.none _ _) ?_; intro P cf bx hb
  replace bx := nW ak bx
  replace I := rB I hb; replace V := rB V hb; replace ao := rB ao hb; have E := rW bx (bP2 HB B D); replace z := kB z hb; replace A := kB A hb; replace HB := hS2 HB B D hb; clear hb bx; refine hK.out _ _ (bD4 z) (fun aQ => ?_); clear hK K; refine nm_ 15 ?_; exact norm_ pO (ay (L, W, M, ah, O, ba, P) _ ⟨aQ, rQ I, rQ V, rQ ao, rQ E, kQ z, kQ A, bT2 HB B D⟩)
 intro bb; refine join_ (σ := Value × Value × Value × Value × Value × Value) 4 (bl 18 30719) (fun s_ => [(3, s_.1), (6, s_.2.1), (7, s_.2.2.1), (10, s_.2.2.2.1), (11, s_.2.2.2.2.1), (15, s_.2.2.2.2.2)]) (fun s_ w' => (q_1 w') ∧ (RA Kd.string 9 w' w s_.2.1 ap) ∧ (RA Kd.bool 4 w' w s_.2.2.2.1 aP) ∧ (RA (Kd.int .i64) 3 w' w s_.2.2.2.2.1 ad) ∧ (RA k58 58 w' w s_.2.2.2.2.2 ac) ∧ (q_2 w') ∧ (q_3 w') ∧ BA w w') ?_ ?_
 ·clear z A HB; rintro ⟨L, W, M, ah, O, P⟩ cf ⟨aQ, I, V, F, E, z, A, HB⟩; (try dsimp only at aQ I V F E z A HB); refine norm_ (a' := ?_) ?_ ?_; rotate_left
  ·simp only [putAll, Act.put, sA, sB, sC]
   rfl
  refine one_ (i := 11) (N := some 14) (bl 18 32767) rfl rfl (one_of aT.out (by kernel_rfl)) (by decide) (fun K hK => ?_); refine Kd.R_append_rows_step (Kd.int .i64) (w0 := w) w.heap.size (by rfl) (.tmp 11) (.tmp 13) 29 3 (.int .i64 0) 8 rfl Try.underlying29 info3 rfl (by decide) (by omega) O ad aj _ _ _ (fun _ => True) (fun _ => False) rfl rfl ?aO ?aR (fun _ _ h => h) (fun _ h => h.elim) ?aF ?aB ?aS ?aL ?_
  (case aR => exact cO (Kd.C_below bN.out HB.out))
  (case aB => exact (bP2 HB B D))
  (case aF => exact (fun _ _ => trivial))
  (case aO => exact (rP F))
  (case aS => exact (below_size (bP2 HB B D)))
  (case aL => have := bY.out; omega)
  intro ba ct ho hb hg hat; rw [← bO.out] at ho; replace z := kG z hg F; replace A := kG A hg F; replace I := aM (Kd.R_over' (rP I) (Kd.R_typed (rP F)) (by decide) hg); replace V := aM (Kd.R_over' (rP V) (Kd.R_typed (rP F)) (by decide) hg); replace E := aM (Kd.R_over' (rP E) (Kd.R_typed (rP F)) (by decide) hg); replace HB := aM (hb); have ao := aM (ho); clear F; clear ho hb hg hat; refine hK.out _ _ (bD4 z) (fun aQ => ?_); clear hK K; refine nm_ 14 ?_; exact norm_ pO (ay (L, W, M, ah, O, ba, P) _ ⟨aQ, rQ I, rQ V, rQ ao, rQ E, kQ z, kQ A, bT2 HB B D⟩)
 intro aw; refine join_ (σ := Value × Value × Value × Value × Value) 5 (bl 18 26623) (fun s_ => [(3, s_.1), (6, s_.2.1), (7, s_.2.2.1), (10, s_.2.2.2.1), (11, s_.2.2.2.2)]) (fun s_ w' => (q_1 w') ∧ (RA Kd.string 9 w' w s_.2.1 ap) ∧ (RA Kd.bool 4 w' w s_.2.2.2.1 aP) ∧ (RA (Kd.int .i64) 3 w' w s_.2.2.2.2 ad) ∧ (q_2 w') ∧ (q_3 w') ∧ BA w w') ?_ ?_
 ·clear z A HB; rintro ⟨L, W, M, ah, O⟩ bp ⟨aQ, I, V, F, z, A, HB⟩; (try dsimp only at aQ I V F z A HB); refine norm_ (a' := ?_) ?_ ?_; rotate_left
  ·simp only [putAll, Act.put, sA, sB, sC]
   rfl
  refine two_ (i := 11) (j := 12) (Ni := some 14) (Nj := some 15) (bl 18 28671) (bl 18 30719) rfl rfl rfl rfl (two_of aT.out (by kernel_rfl)) (by decide) (by decide) (fun K hK => ?_) (fun K hK => ?_)
  ·refine Kd.R_append_rows_step (Kd.int .i64) (w0 := w) w.heap.size (by rfl) (.tmp 11) (.tmp 13) 29 3 (.int .i64 0) 8 rfl Try.underlying29 info3 rfl (by decide) (by omega) O ad aj _ _ _ (fun _ => True) (fun _ => False) rfl rfl ?aO ?aR (fun _ _ h => h) (fun _ h => h.elim) ?aF ?aB ?aS ?aL ?_
   (case aR => exact cO (Kd.C_below bN.out HB.out))
   (case aB => exact (bP2 HB B D))
   (case aF => exact (fun _ _ => trivial))
   (case aO => exact (rP F))
   (case aS => exact (below_size (bP2 HB B D)))
   (case aL => have := bY.out; omega)
   intro ba bz ho hb hg hat; rw [← bO.out] at ho; replace z := kG z hg F; replace A := kG A hg F; replace I := aM (Kd.R_over' (rP I) (Kd.R_typed (rP F)) (by decide) hg); replace V := aM (Kd.R_over' (rP V) (Kd.R_typed (rP F)) (by decide) hg); replace HB := aM (hb); have ao := aM (ho); clear F; clear ho hb hg hat; refine hK.out _ _ (bD4 z) (fun aQ => ?_); clear hK K; refine nm_ 14 ?_; exact norm_ pO (bb (L, W, M, ah, O, ba) _ ⟨aQ, rQ I, rQ V, rQ ao, kQ z, kQ A, bT2 HB B D⟩)
  ·refine lt_ k58 58 15 ([] : List (S58)) [] (Reps.none _ _) ?_; intro P bz aI hb
   replace aI := nW ak aI
   replace I := rB I hb; replace V := rB V hb; replace F := rB F hb; have E := rW aI (bP2 HB B D); replace z := kB z hb; replace A := kB A hb; replace HB := hS2 HB B D hb; clear hb aI; refine hK.out _ _ (bD4 z) (fun aQ => ?_); clear hK K; refine nm_ 15 ?_; exact norm_ pO (aw (L, W, M, ah, O, P) _ ⟨aQ, rQ I, rQ V, rQ F, rQ E, kQ z, kQ A, bT2 HB B D⟩)
 intro aY; refine join_ (σ := Value × Value × Value × Value × Value) 5 (bl 18 30463) (fun s_ => [(3, s_.1), (6, s_.2.1), (7, s_.2.2.1), (10, s_.2.2.2.1), (15, s_.2.2.2.2)]) (fun s_ w' => (q_1 w') ∧ (RA Kd.string 9 w' w s_.2.1 ap) ∧ (RA Kd.bool 4 w' w s_.2.2.2.1 aP) ∧ (RA k58 58 w' w s_.2.2.2.2 ac) ∧ (q_2 w') ∧ (q_3 w') ∧ BA w w') ?_ ?_
 ·clear z A HB; rintro ⟨L, W, M, ah, P⟩ bp ⟨aQ, I, V, E, z, A, HB⟩; (try dsimp only at aQ I V E z A HB); refine norm_ (a' := ?_) ?_ ?_; rotate_left
  ·simp only [putAll, Act.put, sA, sB, sC]
   rfl
  refine one_ (i := 8) (N := some 11) (bl 18 30719) rfl rfl (one_of aT.out (by kernel_rfl)) (by decide) (fun K hK => ?_); refine lt_ (Kd.int .i64) 3 11 ([] : List Int) [] (Reps.none _ _) ?_; intro O bz aI hb
  replace aI := nW an aI
  replace I := rB I hb; replace V := rB V hb; replace E := rB E hb; have F := rW aI (bP2 HB B D); replace z := kB z hb; replace A := kB A hb; replace HB := hS2 HB B D hb; clear hb aI; refine hK.out _ _ (bD4 z) (fun aQ => ?_); clear hK K; refine nm_ 11 ?_; exact norm_ pO (aw (L, W, M, ah, O, P) _ ⟨aQ, rQ I, rQ V, rQ F, rQ E, kQ z, kQ A, bT2 HB B D⟩)
 intro aU; refine join_ (σ := Value × Value × Value × Value × Value) 5 (bl 18 30591) (fun s_ => [(3, s_.1), (6, s_.2.1), (7, s_.2.2.1), (11, s_.2.2.2.1), (15, s_.2.2.2.2)]) (fun s_ w' => (q_1 w') ∧ (RA Kd.string 9 w' w s_.2.1 ap) ∧ (RA Kd.bool 4 w' w s_.2.2.1 ae) ∧ (RA (Kd.int .i64) 3 w' w s_.2.2.2.1 ad) ∧ (RA k58 58 w' w s_.2.2.2.2 ac) ∧ (q_2 w') ∧ (q_3 w') ∧ BA w w') ?_ ?_
 ·clear z A HB; rintro ⟨L, W, M, O, P⟩ bz ⟨aQ, I, G, F, E, z, A, HB⟩; (try dsimp only at aQ I G F E z A HB); refine norm_ (a' := ?_) ?_ ?_; rotate_left
  ·simp only [putAll, Act.put, sA, sB, sC]
   rfl
  refine one_ (i := 7) (N := some 10) (bl 18 30719) rfl rfl (one_of aT.out (by kernel_rfl)) (by decide) (fun K hK => ?_); refine Kd.R_append_rows_step Kd.bool (w0 := w) w.heap.size (by rfl) (.tmp 7) (.tmp 9) 23 4 (.bool false) 1 rfl Try.underlying23 info4 rfl (by decide) (by omega) M ae ai _ _ _ (fun _ => True) (fun _ => False) rfl rfl ?aO ?aR (fun _ _ h => h) (fun _ h => h.elim) ?aF ?aB ?aS ?aL ?_
  (case aR => exact cO (Kd.C_below be.out HB.out))
  (case aB => exact (bP2 HB B D))
  (case aF => exact (fun _ _ => trivial))
  (case aO => exact (rP G))
  (case aS => exact (below_size (bP2 HB B D)))
  (case aL => have := bv.out; omega)
  intro ah cf ho hb hg hat; rw [← bh.out] at ho; replace z := kG z hg G; replace A := kG A hg G; replace I := aM (Kd.R_over' (rP I) (Kd.R_typed (rP G)) (by decide) hg); replace F := aM (Kd.R_over' (rP F) (Kd.R_typed (rP G)) (by decide) hg); replace E := aM (Kd.R_over' (rP E) (Kd.R_typed (rP G)) (by decide) hg); replace HB := aM (hb); have V := aM (ho); clear G; clear ho hb hg hat; refine hK.out _ _ (bD4 z) (fun aQ => ?_); clear hK K; refine nm_ 10 ?_; exact norm_ pO (aw (L, W, M, ah, O, P) _ ⟨aQ, rQ I, rQ V, rQ F, rQ E, kQ z, kQ A, bT2 HB B D⟩)
 intro ar; refine join_ (σ := Value × Value × Value × Value) 6 (bl 18 26367) (fun s_ => [(3, s_.1), (6, s_.2.1), (7, s_.2.2.1), (10, s_.2.2.2)]) (fun s_ w' => (q_1 w') ∧ (RA Kd.string 9 w' w s_.2.1 ap) ∧ (RA Kd.bool 4 w' w s_.2.2.2 aP) ∧ (q_2 w') ∧ (q_3 w') ∧ BA w w') ?_ ?_
 ·clear z A HB; rintro ⟨L, W, M, ah⟩ aV ⟨aQ, I, V, z, A, HB⟩; (try dsimp only at aQ I V z A HB); refine norm_ (a' := ?_) ?_ ?_; rotate_left
  ·simp only [putAll, Act.put, sA, sB, sC]
   rfl
  refine two_ (i := 8) (j := 12) (Ni := some 11) (Nj := some 15) (bl 18 26623) (bl 18 30463) rfl rfl rfl rfl (two_of aT.out (by kernel_rfl)) (by decide) (by decide) (fun K hK => ?_) (fun K hK => ?_)
  ·refine lt_ (Kd.int .i64) 3 11 ([] : List Int) [] (Reps.none _ _) ?_; intro O aW Z hb
   replace Z := nW an Z
   replace I := rB I hb; replace V := rB V hb; have F := rW Z (bP2 HB B D); replace z := kB z hb; replace A := kB A hb; replace HB := hS2 HB B D hb; clear hb Z; refine hK.out _ _ (bD4 z) (fun aQ => ?_); clear hK K; refine nm_ 11 ?_; exact norm_ pO (aY (L, W, M, ah, O) _ ⟨aQ, rQ I, rQ V, rQ F, kQ z, kQ A, bT2 HB B D⟩)
  ·refine lt_ k58 58 15 ([] : List (S58)) [] (Reps.none _ _) ?_; intro P aW Z hb
   replace Z := nW ak Z
   replace I := rB I hb; replace V := rB V hb; have E := rW Z (bP2 HB B D); replace z := kB z hb; replace A := kB A hb; replace HB := hS2 HB B D hb; clear hb Z; refine hK.out _ _ (bD4 z) (fun aQ => ?_); clear hK K; refine nm_ 15 ?_; exact norm_ pO (aU (L, W, M, ah, P) _ ⟨aQ, rQ I, rQ V, rQ E, kQ z, kQ A, bT2 HB B D⟩)
 intro bA; refine join_ (σ := Value × Value × Value × Value) 6 (bl 18 26495) (fun s_ => [(3, s_.1), (6, s_.2.1), (7, s_.2.2.1), (11, s_.2.2.2)]) (fun s_ w' => (q_1 w') ∧ (RA Kd.string 9 w' w s_.2.1 ap) ∧ (RA Kd.bool 4 w' w s_.2.2.1 ae) ∧ (RA (Kd.int .i64) 3 w' w s_.2.2.2 ad) ∧ (q_2 w') ∧ (q_3 w') ∧ BA w w') ?_ ?_
 ·clear z A HB; rintro ⟨L, W, M, O⟩ aW ⟨aQ, I, G, F, z, A, HB⟩; (try dsimp only at aQ I G F z A HB); refine norm_ (a' := ?_) ?_ ?_; rotate_left
  ·simp only [putAll, Act.put, sA, sB, sC]
   rfl
  refine two_ (i := 7) (j := 12) (Ni := some 10) (Nj := some 15) (bl 18 26623) (bl 18 30591) rfl rfl rfl rfl (two_of aT.out (by kernel_rfl)) (by decide) (by decide) (fun K hK => ?_) (fun K hK => ?_)
  ·refine Kd.R_append_rows_step Kd.bool (w0 := w) w.heap.size (by rfl) (.tmp 7) (.tmp 9) 23 4 (.bool false) 1 rfl Try.underlying23 info4 rfl (by decide) (by omega) M ae ai _ _ _ (fun _ => True) (fun _ => False) rfl rfl ?aO ?aR (fun _ _ h => h) (fun _ h => h.elim) ?aF ?aB ?aS ?aL ?_
   (case aR => exact cO (Kd.C_below be.out HB.out))
   (case aB => exact (bP2 HB B D))
   (case aF => exact (fun _ _ => trivial))
   (case aO => exact (rP G))
   (case aS => exact (below_size (bP2 HB B D)))
   (case aL => have := bv.out; omega)
   intro ah bp ho hb hg hat; rw [← bh.out] at ho; replace z := kG z hg G; replace A := kG A hg G; replace I := aM (Kd.R_over' (rP I) (Kd.R_typed (rP G)) (by decide) hg); replace F := aM (Kd.R_over' (rP F) (Kd.R_typed (rP G)) (by decide) hg); replace HB := aM (hb); have V := aM (ho); clear G; clear ho hb hg hat; refine hK.out _ _ (bD4 z) (fun aQ => ?_); clear hK K; refine nm_ 10 ?_; exact norm_ pO (aY (L, W, M, ah, O) _ ⟨aQ, rQ I, rQ V, rQ F, kQ z, kQ A, bT2 HB B D⟩)
  ·refine lt_ k58 58 15 ([] : List (S58)) [] (Reps.none _ _) ?_; intro P bp au hb
   replace au := nW ak au
   replace I := rB I hb; replace G := rB G hb; replace F := rB F hb; have E := rW au (bP2 HB B D); replace z := kB z hb; replace A := kB A hb; replace HB := hS2 HB B D hb; clear hb au; refine hK.out _ _ (bD4 z) (fun aQ => ?_); clear hK K; refine nm_ 15 ?_; exact norm_ pO (ar (L, W, M, O, P) _ ⟨aQ, rQ I, rQ G, rQ F, rQ E, kQ z, kQ A, bT2 HB B D⟩)
 intro aX; refine join_ (σ := Value × Value × Value × Value) 6 (bl 18 30335) (fun s_ => [(3, s_.1), (6, s_.2.1), (7, s_.2.2.1), (15, s_.2.2.2)]) (fun s_ w' => (q_1 w') ∧ (RA Kd.string 9 w' w s_.2.1 ap) ∧ (RA Kd.bool 4 w' w s_.2.2.1 ae) ∧ (RA k58 58 w' w s_.2.2.2 ac) ∧ (q_2 w') ∧ (q_3 w') ∧ BA w w') ?_ ?_
 ·clear z A HB; rintro ⟨L, W, M, P⟩ aW ⟨aQ, I, G, E, z, A, HB⟩; (try dsimp only at aQ I G E z A HB); refine norm_ (a' := ?_) ?_ ?_; rotate_left
  ·simp only [putAll, Act.put, sA, sB, sC]
   rfl
  refine two_ (i := 7) (j := 8) (Ni := some 10) (Nj := some 11) (bl 18 30463) (bl 18 30591) rfl rfl rfl rfl (two_of aT.out (by kernel_rfl)) (by decide) (by decide) (fun K hK => ?_) (fun K hK => ?_)
  ·refine Kd.R_append_rows_step Kd.bool (w0 := w) w.heap.size (by rfl) (.tmp 7) (.tmp 9) 23 4 (.bool false) 1 rfl Try.underlying23 info4 rfl (by decide) (by omega) M ae ai _ _ _ (fun _ => True) (fun _ => False) rfl rfl ?aO ?aR (fun _ _ h => h) (fun _ h => h.elim) ?aF ?aB ?aS ?aL ?_
   (case aR => exact cO (Kd.C_below be.out HB.out))
   (case aB => exact (bP2 HB B D))
   (case aF => exact (fun _ _ => trivial))
   (case aO => exact (rP G))
   (case aS => exact (below_size (bP2 HB B D)))
   (case aL => have := bv.out; omega)
   intro ah bp ho hb hg hat; rw [← bh.out] at ho; replace z := kG z hg G; replace A := kG A hg G; replace I := aM (Kd.R_over' (rP I) (Kd.R_typed (rP G)) (by decide) hg); replace E := aM (Kd.R_over' (rP E) (Kd.R_typed (rP G)) (by decide) hg); replace HB := aM (hb); have V := aM (ho); clear G; clear ho hb hg hat; refine hK.out _ _ (bD4 z) (fun aQ => ?_); clear hK K; refine nm_ 10 ?_; exact norm_ pO (aU (L, W, M, ah, P) _ ⟨aQ, rQ I, rQ V, rQ E, kQ z, kQ A, bT2 HB B D⟩)
  ·refine lt_ (Kd.int .i64) 3 11 ([] : List Int) [] (Reps.none _ _) ?_; intro O bp au hb
   replace au := nW an au
   replace I := rB I hb; replace G := rB G hb; replace E := rB E hb; have F := rW au (bP2 HB B D); replace z := kB z hb; replace A := kB A hb; replace HB := hS2 HB B D hb; clear hb au; refine hK.out _ _ (bD4 z) (fun aQ => ?_); clear hK K; refine nm_ 11 ?_; exact norm_ pO (ar (L, W, M, O, P) _ ⟨aQ, rQ I, rQ G, rQ F, rQ E, kQ z, kQ A, bT2 HB B D⟩)
 intro aJ; refine join_ (σ := Value × Value × Value × Value) 6 (bl 18 30575) (fun s_ => [(3, s_.1), (6, s_.2.1), (11, s_.2.2.1), (15, s_.2.2.2)]) (fun s_ w' => (q_1 w') ∧ (RA Kd.string 9 w' w s_.2.1 ap) ∧ (RA (Kd.int .i64) 3 w' w s_.2.2.1 ad) ∧ (RA k58 58 w' w s_.2.2.2 ac) ∧ (q_2 w') ∧ (q_3 w') ∧ BA w w') ?_ ?_
 ·clear z A HB; rintro ⟨L, W, O, P⟩ aW ⟨aQ, I, F, E, z, A, HB⟩; (try dsimp only at aQ I F E z A HB); refine norm_ (a' := ?_) ?_ ?_; rotate_left
  ·simp only [putAll, Act.put, sA, sB, sC]
   rfl
  refine one_ (i := 4) (N := some 7) (bl 18 30591) rfl rfl (one_of aT.out (by kernel_rfl)) (by decide) (fun K hK => ?_); refine lt_ Kd.bool 4 7 ([] : List Bool) [] (Reps.none _ _) ?_; intro M bp au hb
  replace au := nW aq au
  replace I := rB I hb; replace F := rB F hb; replace E := rB E hb; have G := rW au (bP2 HB B D); replace z := kB z hb; replace A := kB A hb; replace HB := hS2 HB B D hb; clear hb au; refine hK.out _ _ (bD4 z) (fun aQ => ?_); clear hK K; refine nm_ 7 ?_; exact norm_ pO (ar (L, W, M, O, P) _ ⟨aQ, rQ I, rQ G, rQ F, rQ E, kQ z, kQ A, bT2 HB B D⟩)
 intro aK; refine join_ (σ := Value × Value × Value × Value) 6 (bl 18 30583) (fun s_ => [(3, s_.1), (7, s_.2.1), (11, s_.2.2.1), (15, s_.2.2.2)]) (fun s_ w' => (q_1 w') ∧ (RA Kd.string 9 w' w s_.1 ag) ∧ (RA Kd.bool 4 w' w s_.2.1 ae) ∧ (RA (Kd.int .i64) 3 w' w s_.2.2.1 ad) ∧ (RA k58 58 w' w s_.2.2.2 ac) ∧ (q_2 w') ∧ (q_3 w') ∧ BA w w') ?_ ?_
 ·clear z A HB; rintro ⟨L, M, O, P⟩ bp ⟨aQ, J, G, F, E, z, A, HB⟩; (try dsimp only at aQ J G F E z A HB); refine norm_ (a' := ?_) ?_ ?_; rotate_left
  ·simp only [putAll, Act.put, sA, sB, sC]
   rfl
  refine one_ (i := 3) (N := some 6) (bl 18 30591) rfl rfl (one_of aT.out (by kernel_rfl)) (by decide) (fun K hK => ?_); refine Kd.R_append_rows_step Kd.string (w0 := w) w.heap.size (by rfl) (.tmp 3) (.tmp 5) 22 9 (.string ⟨#[]⟩) 16 rfl Try.underlying22 info9 rfl (by decide) (by omega) L ag af _ _ _ (fun _ => True) (fun _ => False) rfl rfl ?aO ?aR (fun _ _ h => h) (fun _ h => h.elim) ?aF ?aB ?aS ?aL ?_
  (case aR => exact cO (Kd.C_below aC.out HB.out))
  (case aB => exact (bP2 HB B D))
  (case aF => exact (fun _ _ => trivial))
  (case aO => exact (rP J))
  (case aS => exact (below_size (bP2 HB B D)))
  (case aL => have := aN.out; omega)
  intro W bz ho hb hg hat; rw [← aE.out] at ho; replace z := kG z hg J; replace A := kG A hg J; replace G := aM (Kd.R_over' (rP G) (Kd.R_typed (rP J)) (by decide) hg); replace F := aM (Kd.R_over' (rP F) (Kd.R_typed (rP J)) (by decide) hg); replace E := aM (Kd.R_over' (rP E) (Kd.R_typed (rP J)) (by decide) hg); replace HB := aM (hb); have I := aM (ho); clear J; clear ho hb hg hat; refine hK.out _ _ (bD4 z) (fun aQ => ?_); clear hK K; refine nm_ 6 ?_; exact norm_ pO (ar (L, W, M, O, P) _ ⟨aQ, rQ I, rQ G, rQ F, rQ E, kQ z, kQ A, bT2 HB B D⟩)
 intro aA; refine join_ (σ := Value × Value × Value) 7 (bl 18 26239) (fun s_ => [(3, s_.1), (6, s_.2.1), (7, s_.2.2)]) (fun s_ w' => (q_1 w') ∧ (RA Kd.string 9 w' w s_.2.1 ap) ∧ (RA Kd.bool 4 w' w s_.2.2 ae) ∧ (q_2 w') ∧ (q_3 w') ∧ BA w w') ?_ ?_
 ·clear z A HB; rintro ⟨L, W, M⟩ ax ⟨aQ, I, G, z, A, HB⟩; (try dsimp only at aQ I G z A HB); refine norm_ (a' := ?_) ?_ ?_; rotate_left
  ·simp only [putAll, Act.put, sA, sB, sC]
   rfl
  refine three_ (i := 7) (j := 8) (k := 12) (Ni := some 10) (Nj := some 11) (Nk := some 15) (bl 18 26367) (bl 18 26495) (bl 18 30335) rfl rfl rfl rfl rfl rfl (three_of aT.out (by kernel_rfl)) (by decide) (by decide) (by decide) (fun K hK => ?_) (fun K hK => ?_) (fun K hK => ?_)
  ·refine Kd.R_append_rows_step Kd.bool (w0 := w) w.heap.size (by rfl) (.tmp 7) (.tmp 9) 23 4 (.bool false) 1 rfl Try.underlying23 info4 rfl (by decide) (by omega) M ae ai _ _ _ (fun _ => True) (fun _ => False) rfl rfl ?aO ?aR (fun _ _ h => h) (fun _ h => h.elim) ?aF ?aB ?aS ?aL ?_
   (case aR => exact cO (Kd.C_below be.out HB.out))
   (case aB => exact (bP2 HB B D))
   (case aF => exact (fun _ _ => trivial))
   (case aO => exact (rP G))
   (case aS => exact (below_size (bP2 HB B D)))
   (case aL => have := bv.out; omega)
   intro ah aV ho hb hg hat; rw [← bh.out] at ho; replace z := kG z hg G; replace A := kG A hg G; replace I := aM (Kd.R_over' (rP I) (Kd.R_typed (rP G)) (by decide) hg); replace HB := aM (hb); have V := aM (ho); clear G; clear ho hb hg hat; refine hK.out _ _ (bD4 z) (fun aQ => ?_); clear hK K; refine nm_ 10 ?_; exact norm_ pO (bA (L, W, M, ah) _ ⟨aQ, rQ I, rQ V, kQ z, kQ A, bT2 HB B D⟩)
  ·refine lt_ (Kd.int .i64) 3 11 ([] : List Int) [] (Reps.none _ _) ?_; intro O aV aa hb
   replace aa := nW an aa
   replace I := rB I hb; replace G := rB G hb; have F := rW aa (bP2 HB B D); replace z := kB z hb; replace A := kB A hb; replace HB := hS2 HB B D hb; clear hb aa; refine hK.out _ _ (bD4 z) (fun aQ => ?_); clear hK K; refine nm_ 11 ?_; exact norm_ pO (aX (L, W, M, O) _ ⟨aQ, rQ I, rQ G, rQ F, kQ z, kQ A, bT2 HB B D⟩)
  ·refine lt_ k58 58 15 ([] : List (S58)) [] (Reps.none _ _) ?_; intro P aV aa hb
   replace aa := nW ak aa
   replace I := rB I hb; replace G := rB G hb; have E := rW aa (bP2 HB B D); replace z := kB z hb; replace A := kB A hb; replace HB := hS2 HB B D hb; clear hb aa; refine hK.out _ _ (bD4 z) (fun aQ => ?_); clear hK K; refine nm_ 15 ?_; exact norm_ pO (aJ (L, W, M, P) _ ⟨aQ, rQ I, rQ G, rQ E, kQ z, kQ A, bT2 HB B D⟩)
 intro br; refine join_ (σ := Value × Value × Value) 7 (bl 18 26479) (fun s_ => [(3, s_.1), (6, s_.2.1), (11, s_.2.2)]) (fun s_ w' => (q_1 w') ∧ (RA Kd.string 9 w' w s_.2.1 ap) ∧ (RA (Kd.int .i64) 3 w' w s_.2.2 ad) ∧ (q_2 w') ∧ (q_3 w') ∧ BA w w') ?_ ?_
 ·clear z A HB; rintro ⟨L, W, O⟩ ax ⟨aQ, I, F, z, A, HB⟩; (try dsimp only at aQ I F z A HB); refine norm_ (a' := ?_) ?_ ?_; rotate_left
  ·simp only [putAll, Act.put, sA, sB, sC]
   rfl
  refine two_ (i := 4) (j := 12) (Ni := some 7) (Nj := some 15) (bl 18 26495) (bl 18 30575) rfl rfl rfl rfl (two_of aT.out (by kernel_rfl)) (by decide) (by decide) (fun K hK => ?_) (fun K hK => ?_)
  ·refine lt_ Kd.bool 4 7 ([] : List Bool) [] (Reps.none _ _) ?_; intro M aV aa hb
   replace aa := nW aq aa
   replace I := rB I hb; replace F := rB F hb; have G := rW aa (bP2 HB B D); replace z := kB z hb; replace A := kB A hb; replace HB := hS2 HB B D hb; clear hb aa; refine hK.out _ _ (bD4 z) (fun aQ => ?_); clear hK K; refine nm_ 7 ?_; exact norm_ pO (aX (L, W, M, O) _ ⟨aQ, rQ I, rQ G, rQ F, kQ z, kQ A, bT2 HB B D⟩)
  ·refine lt_ k58 58 15 ([] : List (S58)) [] (Reps.none _ _) ?_; intro P aV aa hb
   replace aa := nW ak aa
   replace I := rB I hb; replace F := rB F hb; have E := rW aa (bP2 HB B D); replace z := kB z hb; replace A := kB A hb; replace HB := hS2 HB B D hb; clear hb aa; refine hK.out _ _ (bD4 z) (fun aQ => ?_); clear hK K; refine nm_ 15 ?_; exact norm_ pO (aK (L, W, O, P) _ ⟨aQ, rQ I, rQ F, rQ E, kQ z, kQ A, bT2 HB B D⟩)
 intro bs; refine join_ (σ := Value × Value × Value) 7 (bl 18 30319) (fun s_ => [(3, s_.1), (6, s_.2.1), (15, s_.2.2)]) (fun s_ w' => (q_1 w') ∧ (RA Kd.string 9 w' w s_.2.1 ap) ∧ (RA k58 58 w' w s_.2.2 ac) ∧ (q_2 w') ∧ (q_3 w') ∧ BA w w') ?_ ?_
 ·clear z A HB; rintro ⟨L, W, P⟩ ax ⟨aQ, I, E, z, A, HB⟩; (try dsimp only at aQ I E z A HB); refine norm_ (a' := ?_) ?_ ?_; rotate_left
  ·simp only [putAll, Act.put, sA, sB, sC]
   rfl
  refine two_ (i := 4) (j := 8) (Ni := some 7) (Nj := some 11) (bl 18 30335) (bl 18 30575) rfl rfl rfl rfl (two_of aT.out (by kernel_rfl)) (by decide) (by decide) (fun K hK => ?_) (fun K hK => ?_)
  ·refine lt_ Kd.bool 4 7 ([] : List Bool) [] (Reps.none _ _) ?_; intro M aV aa hb
   replace aa := nW aq aa
   replace I := rB I hb; replace E := rB E hb; have G := rW aa (bP2 HB B D); replace z := kB z hb; replace A := kB A hb; replace HB := hS2 HB B D hb; clear hb aa; refine hK.out _ _ (bD4 z) (fun aQ => ?_); clear hK K; refine nm_ 7 ?_; exact norm_ pO (aJ (L, W, M, P) _ ⟨aQ, rQ I, rQ G, rQ E, kQ z, kQ A, bT2 HB B D⟩)
  ·refine lt_ (Kd.int .i64) 3 11 ([] : List Int) [] (Reps.none _ _) ?_; intro O aV aa hb
   replace aa := nW an aa
   replace I := rB I hb; replace E := rB E hb; have F := rW aa (bP2 HB B D); replace z := kB z hb; replace A := kB A hb; replace HB := hS2 HB B D hb; clear hb aa; refine hK.out _ _ (bD4 z) (fun aQ => ?_); clear hK K; refine nm_ 11 ?_; exact norm_ pO (aK (L, W, O, P) _ ⟨aQ, rQ I, rQ F, rQ E, kQ z, kQ A, bT2 HB B D⟩)
 intro bq; refine join_ (σ := Value × Value × Value) 7 (bl 18 26487) (fun s_ => [(3, s_.1), (7, s_.2.1), (11, s_.2.2)]) (fun s_ w' => (q_1 w') ∧ (RA Kd.string 9 w' w s_.1 ag) ∧ (RA Kd.bool 4 w' w s_.2.1 ae) ∧ (RA (Kd.int .i64) 3 w' w s_.2.2 ad) ∧ (q_2 w') ∧ (q_3 w') ∧ BA w w') ?_ ?_
 ·clear z A HB; rintro ⟨L, M, O⟩ aV ⟨aQ, J, G, F, z, A, HB⟩; (try dsimp only at aQ J G F z A HB); refine norm_ (a' := ?_) ?_ ?_; rotate_left
  ·simp only [putAll, Act.put, sA, sB, sC]
   rfl
  refine two_ (i := 3) (j := 12) (Ni := some 6) (Nj := some 15) (bl 18 26495) (bl 18 30583) rfl rfl rfl rfl (two_of aT.out (by kernel_rfl)) (by decide) (by decide) (fun K hK => ?_) (fun K hK => ?_)
  ·refine Kd.R_append_rows_step Kd.string (w0 := w) w.heap.size (by rfl) (.tmp 3) (.tmp 5) 22 9 (.string ⟨#[]⟩) 16 rfl Try.underlying22 info9 rfl (by decide) (by omega) L ag af _ _ _ (fun _ => True) (fun _ => False) rfl rfl ?aO ?aR (fun _ _ h => h) (fun _ h => h.elim) ?aF ?aB ?aS ?aL ?_
   (case aR => exact cO (Kd.C_below aC.out HB.out))
   (case aB => exact (bP2 HB B D))
   (case aF => exact (fun _ _ => trivial))
   (case aO => exact (rP J))
   (case aS => exact (below_size (bP2 HB B D)))
   (case aL => have := aN.out; omega)
   intro W aW ho hb hg hat; rw [← aE.out] at ho; replace z := kG z hg J; replace A := kG A hg J; replace G := aM (Kd.R_over' (rP G) (Kd.R_typed (rP J)) (by decide) hg); replace F := aM (Kd.R_over' (rP F) (Kd.R_typed (rP J)) (by decide) hg); replace HB := aM (hb); have I := aM (ho); clear J; clear ho hb hg hat; refine hK.out _ _ (bD4 z) (fun aQ => ?_); clear hK K; refine nm_ 6 ?_; exact norm_ pO (aX (L, W, M, O) _ ⟨aQ, rQ I, rQ G, rQ F, kQ z, kQ A, bT2 HB B D⟩)
  ·refine lt_ k58 58 15 ([] : List (S58)) [] (Reps.none _ _) ?_; intro P aW Z hb
   replace Z := nW ak Z
   replace J := rB J hb; replace G := rB G hb; replace F := rB F hb; have E := rW Z (bP2 HB B D); replace z := kB z hb; replace A := kB A hb; replace HB := hS2 HB B D hb; clear hb Z; refine hK.out _ _ (bD4 z) (fun aQ => ?_); clear hK K; refine nm_ 15 ?_; exact norm_ pO (aA (L, M, O, P) _ ⟨aQ, rQ J, rQ G, rQ F, rQ E, kQ z, kQ A, bT2 HB B D⟩)
 intro bc; refine join_ (σ := Value × Value × Value) 7 (bl 18 30327) (fun s_ => [(3, s_.1), (7, s_.2.1), (15, s_.2.2)]) (fun s_ w' => (q_1 w') ∧ (RA Kd.string 9 w' w s_.1 ag) ∧ (RA Kd.bool 4 w' w s_.2.1 ae) ∧ (RA k58 58 w' w s_.2.2 ac) ∧ (q_2 w') ∧ (q_3 w') ∧ BA w w') ?_ ?_
 ·clear z A HB; rintro ⟨L, M, P⟩ aV ⟨aQ, J, G, E, z, A, HB⟩; (try dsimp only at aQ J G E z A HB); refine norm_ (a' := ?_) ?_ ?_; rotate_left
  ·simp only [putAll, Act.put, sA, sB, sC]
   rfl
  refine two_ (i := 3) (j := 8) (Ni := some 6) (Nj := some 11) (bl 18 30335) (bl 18 30583) rfl rfl rfl rfl (two_of aT.out (by kernel_rfl)) (by decide) (by decide) (fun K hK => ?_) (fun K hK => ?_)
  ·refine Kd.R_append_rows_step Kd.string (w0 := w) w.heap.size (by rfl) (.tmp 3) (.tmp 5) 22 9 (.string ⟨#[]⟩) 16 rfl Try.underlying22 info9 rfl (by decide) (by omega) L ag af _ _ _ (fun _ => True) (fun _ => False) rfl rfl ?aO ?aR (fun _ _ h => h) (fun _ h => h.elim) ?aF ?aB ?aS ?aL ?_
   (case aR => exact cO (Kd.C_below aC.out HB.out))
   (case aB => exact (bP2 HB B D))
   (case aF => exact (fun _ _ => trivial))
   (case aO => exact (rP J))
   (case aS => exact (below_size (bP2 HB B D)))
   (case aL => have := aN.out; omega)
   intro W aW ho hb hg hat; rw [← aE.out] at ho; replace z := kG z hg J; replace A := kG A hg J; replace G := aM (Kd.R_over' (rP G) (Kd.R_typed (rP J)) (by decide) hg); replace E := aM (Kd.R_over' (rP E) (Kd.R_typed (rP J)) (by decide) hg); replace HB := aM (hb); have I := aM (ho); clear J; clear ho hb hg hat; refine hK.out _ _ (bD4 z) (fun aQ => ?_); clear hK K; refine nm_ 6 ?_; exact norm_ pO (aJ (L, W, M, P) _ ⟨aQ, rQ I, rQ G, rQ E, kQ z, kQ A, bT2 HB B D⟩)
  ·refine lt_ (Kd.int .i64) 3 11 ([] : List Int) [] (Reps.none _ _) ?_; intro O aW Z hb
   replace Z := nW an Z
   replace J := rB J hb; replace G := rB G hb; replace E := rB E hb; have F := rW Z (bP2 HB B D); replace z := kB z hb; replace A := kB A hb; replace HB := hS2 HB B D hb; clear hb Z; refine hK.out _ _ (bD4 z) (fun aQ => ?_); clear hK K; refine nm_ 11 ?_; exact norm_ pO (aA (L, M, O, P) _ ⟨aQ, rQ J, rQ G, rQ F, rQ E, kQ z, kQ A, bT2 HB B D⟩)
 intro aZ; refine join_ (σ := Value × Value × Value) 7 (bl 18 30567) (fun s_ => [(3, s_.1), (11, s_.2.1), (15, s_.2.2)]) (fun s_ w' => (q_1 w') ∧ (RA Kd.string 9 w' w s_.1 ag) ∧ (RA (Kd.int .i64) 3 w' w s_.2.1 ad) ∧ (RA k58 58 w' w s_.2.2 ac) ∧ (q_2 w') ∧ (q_3 w') ∧ BA w w') ?_ ?_
 ·clear z A HB; rintro ⟨L, O, P⟩ aV ⟨aQ, J, F, E, z, A, HB⟩; (try dsimp only at aQ J F E z A HB); refine norm_ (a' := ?_) ?_ ?_; rotate_left
  ·simp only [putAll, Act.put, sA, sB, sC]
   rfl
  refine two_ (i := 3) (j := 4) (Ni := some 6) (Nj := some 7) (bl 18 30575) (bl 18 30583) rfl rfl rfl rfl (two_of aT.out (by kernel_rfl)) (by decide) (by decide) (fun K hK => ?_) (fun K hK => ?_)
  ·refine Kd.R_append_rows_step Kd.string (w0 := w) w.heap.size (by rfl) (.tmp 3) (.tmp 5) 22 9 (.string ⟨#[]⟩) 16 rfl Try.underlying22 info9 rfl (by decide) (by omega) L ag af _ _ _ (fun _ => True) (fun _ => False) rfl rfl ?aO ?aR (fun _ _ h => h) (fun _ h => h.elim) ?aF ?aB ?aS ?aL ?_
   (case aR => exact cO (Kd.C_below aC.out HB.out))
   (case aB => exact (bP2 HB B D))
   (case aF => exact (fun _ _ => trivial))
   (case aO => exact (rP J))
   (case aS => exact (below_size (bP2 HB B D)))
   (case aL => have := aN.out; omega)
   intro W aW ho hb hg hat; rw [← aE.out] at ho; replace z := kG z hg J; replace A := kG A hg J; replace F := aM (Kd.R_over' (rP F) (Kd.R_typed (rP J)) (by decide) hg); replace E := aM (Kd.R_over' (rP E) (Kd.R_typed (rP J)) (by decide) hg); replace HB := aM (hb); have I := aM (ho); clear J; clear ho hb hg hat; refine hK.out _ _ (bD4 z) (fun aQ => ?_); clear hK K; refine nm_ 6 ?_; exact norm_ pO (aK (L, W, O, P) _ ⟨aQ, rQ I, rQ F, rQ E, kQ z, kQ A, bT2 HB B D⟩)
  ·refine lt_ Kd.bool 4 7 ([] : List Bool) [] (Reps.none _ _) ?_; intro M aW Z hb
   replace Z := nW aq Z
   replace J := rB J hb; replace F := rB F hb; replace E := rB E hb; have G := rW Z (bP2 HB B D); replace z := kB z hb; replace A := kB A hb; replace HB := hS2 HB B D hb; clear hb Z; refine hK.out _ _ (bD4 z) (fun aQ => ?_); clear hK K; refine nm_ 7 ?_; exact norm_ pO (aA (L, M, O, P) _ ⟨aQ, rQ J, rQ G, rQ F, rQ E, kQ z, kQ A, bT2 HB B D⟩)
 intro a0; refine join_ (σ := Value × Value × Value) 7 (bl 18 30582) (fun s_ => [(7, s_.1), (11, s_.2.1), (15, s_.2.2)]) (fun s_ w' => (q_1 w') ∧ (RA Kd.bool 4 w' w s_.1 ae) ∧ (RA (Kd.int .i64) 3 w' w s_.2.1 ad) ∧ (RA k58 58 w' w s_.2.2 ac) ∧ (q_2 w') ∧ (q_3 w') ∧ BA w w') ?_ ?_
 ·clear z A HB; rintro ⟨M, O, P⟩ aV ⟨aQ, G, F, E, z, A, HB⟩; (try dsimp only at aQ G F E z A HB); refine norm_ (a' := ?_) ?_ ?_; rotate_left
  ·simp only [putAll, Act.put, sA, sB, sC]
   rfl
  refine one_ (i := 0) (N := some 3) (bl 18 30583) rfl rfl (one_of aT.out (by kernel_rfl)) (by decide) (fun K hK => ?_); refine lt_ Kd.string 9 3 ([] : List ByteArray) [] (Reps.none _ _) ?_; intro L aW Z hb
  replace Z := nW aD Z
  replace G := rB G hb; replace F := rB F hb; replace E := rB E hb; have J := rW Z (bP2 HB B D); replace z := kB z hb; replace A := kB A hb; replace HB := hS2 HB B D hb; clear hb Z; refine hK.out _ _ (bD4 z) (fun aQ => ?_); clear hK K; refine nm_ 3 ?_; exact norm_ pO (aA (L, M, O, P) _ ⟨aQ, rQ J, rQ G, rQ F, rQ E, kQ z, kQ A, bT2 HB B D⟩)
 intro a1; refine join_ (σ := Value × Value) 8 (bl 18 26223) (fun s_ => [(3, s_.1), (6, s_.2)]) (fun s_ w' => (q_1 w') ∧ (RA Kd.string 9 w' w s_.2 ap) ∧ (q_2 w') ∧ (q_3 w') ∧ BA w w') ?_ ?_
 ·clear z A HB; rintro ⟨L, W⟩ aH ⟨aQ, I, z, A, HB⟩; (try dsimp only at aQ I z A HB); refine norm_ (a' := ?_) ?_ ?_; rotate_left
  ·simp only [putAll, Act.put, sA, sB, sC]
   rfl
  refine three_ (i := 4) (j := 8) (k := 12) (Ni := some 7) (Nj := some 11) (Nk := some 15) (bl 18 26239) (bl 18 26479) (bl 18 30319) rfl rfl rfl rfl rfl rfl (three_of aT.out (by kernel_rfl)) (by decide) (by decide) (by decide) (fun K hK => ?_) (fun K hK => ?_) (fun K hK => ?_)
  ·refine lt_ Kd.bool 4 7 ([] : List Bool) [] (Reps.none _ _) ?_; intro M bd av hb
   replace av := nW aq av
   replace I := rB I hb; have G := rW av (bP2 HB B D); replace z := kB z hb; replace A := kB A hb; replace HB := hS2 HB B D hb; clear hb av; refine hK.out _ _ (bD4 z) (fun aQ => ?_); clear hK K; refine nm_ 7 ?_; exact norm_ pO (br (L, W, M) _ ⟨aQ, rQ I, rQ G, kQ z, kQ A, bT2 HB B D⟩)
  ·refine lt_ (Kd.int .i64) 3 11 ([] : List Int) [] (Reps.none _ _) ?_; intro O bd av hb
   replace av := nW an av
   replace I := rB I hb; have F := rW av (bP2 HB B D); replace z := kB z hb; replace A := kB A hb; replace HB := hS2 HB B D hb; clear hb av; refine hK.out _ _ (bD4 z) (fun aQ => ?_); clear hK K; refine nm_ 11 ?_; exact norm_ pO (bs (L, W, O) _ ⟨aQ, rQ I, rQ F, kQ z, kQ A, bT2 HB B D⟩)
  ·refine lt_ k58 58 15 ([] : List (S58)) [] (Reps.none _ _) ?_; intro P bd av hb
   replace av := nW ak av
   replace I := rB I hb; have E := rW av (bP2 HB B D); replace z := kB z hb; replace A := kB A hb; replace HB := hS2 HB B D hb; clear hb av; refine hK.out _ _ (bD4 z) (fun aQ => ?_); clear hK K; refine nm_ 15 ?_; exact norm_ pO (bq (L, W, P) _ ⟨aQ, rQ I, rQ E, kQ z, kQ A, bT2 HB B D⟩)
 intro ca; refine join_ (σ := Value × Value) 8 (bl 18 26231) (fun s_ => [(3, s_.1), (7, s_.2)]) (fun s_ w' => (q_1 w') ∧ (RA Kd.string 9 w' w s_.1 ag) ∧ (RA Kd.bool 4 w' w s_.2 ae) ∧ (q_2 w') ∧ (q_3 w') ∧ BA w w') ?_ ?_
 ·clear z A HB; rintro ⟨L, M⟩ bd ⟨aQ, J, G, z, A, HB⟩; (try dsimp only at aQ J G z A HB); refine norm_ (a' := ?_) ?_ ?_; rotate_left
  ·simp only [putAll, Act.put, sA, sB, sC]
   rfl
  refine three_ (i := 3) (j := 8) (k := 12) (Ni := some 6) (Nj := some 11) (Nk := some 15) (bl 18 26239) (bl 18 26487) (bl 18 30327) rfl rfl rfl rfl rfl rfl (three_of aT.out (by kernel_rfl)) (by decide) (by decide) (by decide) (fun K hK => ?_) (fun K hK => ?_) (fun K hK => ?_)
  ·refine Kd.R_append_rows_step Kd.string (w0 := w) w.heap.size (by rfl) (.tmp 3) (.tmp 5) 22 9 (.string ⟨#[]⟩) 16 rfl Try.underlying22 info9 rfl (by decide) (by omega) L ag af _ _ _ (fun _ => True) (fun _ => False) rfl rfl ?aO ?aR (fun _ _ h => h) (fun _ h => h.elim) ?aF ?aB ?aS ?aL ?_
   (case aR => exact cO (Kd.C_below aC.out HB.out))
   (case aB => exact (bP2 HB B D))
   (case aF => exact (fun _ _ => trivial))
   (case aO => exact (rP J))
   (case aS => exact (below_size (bP2 HB B D)))
   (case aL => have := aN.out; omega)
   intro W ax ho hb hg hat; rw [← aE.out] at ho; replace z := kG z hg J; replace A := kG A hg J; replace G := aM (Kd.R_over' (rP G) (Kd.R_typed (rP J)) (by decide) hg); replace HB := aM (hb); have I := aM (ho); clear J; clear ho hb hg hat; refine hK.out _ _ (bD4 z) (fun aQ => ?_); clear hK K; refine nm_ 6 ?_; exact norm_ pO (br (L, W, M) _ ⟨aQ, rQ I, rQ G, kQ z, kQ A, bT2 HB B D⟩)
  ·refine lt_ (Kd.int .i64) 3 11 ([] : List Int) [] (Reps.none _ _) ?_; intro O ax Q hb
   replace Q := nW an Q
   replace J := rB J hb; replace G := rB G hb; have F := rW Q (bP2 HB B D); replace z := kB z hb; replace A := kB A hb; replace HB := hS2 HB B D hb; clear hb Q; refine hK.out _ _ (bD4 z) (fun aQ => ?_); clear hK K; refine nm_ 11 ?_; exact norm_ pO (bc (L, M, O) _ ⟨aQ, rQ J, rQ G, rQ F, kQ z, kQ A, bT2 HB B D⟩)
  ·refine lt_ k58 58 15 ([] : List (S58)) [] (Reps.none _ _) ?_; intro P ax Q hb
   replace Q := nW ak Q
   replace J := rB J hb; replace G := rB G hb; have E := rW Q (bP2 HB B D); replace z := kB z hb; replace A := kB A hb; replace HB := hS2 HB B D hb; clear hb Q; refine hK.out _ _ (bD4 z) (fun aQ => ?_); clear hK K; refine nm_ 15 ?_; exact norm_ pO (aZ (L, M, P) _ ⟨aQ, rQ J, rQ G, rQ E, kQ z, kQ A, bT2 HB B D⟩)
 intro bR; refine join_ (σ := Value × Value) 8 (bl 18 26471) (fun s_ => [(3, s_.1), (11, s_.2)]) (fun s_ w' => (q_1 w') ∧ (RA Kd.string 9 w' w s_.1 ag) ∧ (RA (Kd.int .i64) 3 w' w s_.2 ad) ∧ (q_2 w') ∧ (q_3 w') ∧ BA w w') ?_ ?_
 ·clear z A HB; rintro ⟨L, O⟩ bd ⟨aQ, J, F, z, A, HB⟩; (try dsimp only at aQ J F z A HB); refine norm_ (a' := ?_) ?_ ?_; rotate_left
  ·simp only [putAll, Act.put, sA, sB, sC]
   rfl
  refine three_ (i := 3) (j := 4) (k := 12) (Ni := some 6) (Nj := some 7) (Nk := some 15) (bl 18 26479) (bl 18 26487) (bl 18 30567) rfl rfl rfl rfl rfl rfl (three_of aT.out (by kernel_rfl)) (by decide) (by decide) (by decide) (fun K hK => ?_) (fun K hK => ?_) (fun K hK => ?_)
  ·refine Kd.R_append_rows_step Kd.string (w0 := w) w.heap.size (by rfl) (.tmp 3) (.tmp 5) 22 9 (.string ⟨#[]⟩) 16 rfl Try.underlying22 info9 rfl (by decide) (by omega) L ag af _ _ _ (fun _ => True) (fun _ => False) rfl rfl ?aO ?aR (fun _ _ h => h) (fun _ h => h.elim) ?aF ?aB ?aS ?aL ?_
   (case aR => exact cO (Kd.C_below aC.out HB.out))
   (case aB => exact (bP2 HB B D))
   (case aF => exact (fun _ _ => trivial))
   (case aO => exact (rP J))
   (case aS => exact (below_size (bP2 HB B D)))
   (case aL => have := aN.out; omega)
   intro W ax ho hb hg hat; rw [← aE.out] at ho; replace z := kG z hg J; replace A := kG A hg J; replace F := aM (Kd.R_over' (rP F) (Kd.R_typed (rP J)) (by decide) hg); replace HB := aM (hb); have I := aM (ho); clear J; clear ho hb hg hat; refine hK.out _ _ (bD4 z) (fun aQ => ?_); clear hK K; refine nm_ 6 ?_; exact norm_ pO (bs (L, W, O) _ ⟨aQ, rQ I, rQ F, kQ z, kQ A, bT2 HB B D⟩)
  ·refine lt_ Kd.bool 4 7 ([] : List Bool) [] (Reps.none _ _) ?_; intro M ax Q hb
   replace Q := nW aq Q
   replace J := rB J hb; replace F := rB F hb; have G := rW Q (bP2 HB B D); replace z := kB z hb; replace A := kB A hb; replace HB := hS2 HB B D hb; clear hb Q; refine hK.out _ _ (bD4 z) (fun aQ => ?_); clear hK K; refine nm_ 7 ?_; exact norm_ pO (bc (L, M, O) _ ⟨aQ, rQ J, rQ G, rQ F, kQ z, kQ A, bT2 HB B D⟩)
  ·refine lt_ k58 58 15 ([] : List (S58)) [] (Reps.none _ _) ?_; intro P ax Q hb
   replace Q := nW ak Q
   replace J := rB J hb; replace F := rB F hb; have E := rW Q (bP2 HB B D); replace z := kB z hb; replace A := kB A hb; replace HB := hS2 HB B D hb; clear hb Q; refine hK.out _ _ (bD4 z) (fun aQ => ?_); clear hK K; refine nm_ 15 ?_; exact norm_ pO (a0 (L, O, P) _ ⟨aQ, rQ J, rQ F, rQ E, kQ z, kQ A, bT2 HB B D⟩)
 intro bS; refine join_ (σ := Value × Value) 8 (bl 18 30311) (fun s_ => [(3, s_.1), (15, s_.2)]) (fun s_ w' => (q_1 w') ∧ (RA Kd.string 9 w' w s_.1 ag) ∧ (RA k58 58 w' w s_.2 ac) ∧ (q_2 w') ∧ (q_3 w') ∧ BA w w') ?_ ?_
 ·clear z A HB; rintro ⟨L, P⟩ bd ⟨aQ, J, E, z, A, HB⟩; (try dsimp only at aQ J E z A HB); refine norm_ (a' := ?_) ?_ ?_; rotate_left
  ·simp only [putAll, Act.put, sA, sB, sC]
   rfl
  refine three_ (i := 3) (j := 4) (k := 8) (Ni := some 6) (Nj := some 7) (Nk := some 11) (bl 18 30319) (bl 18 30327) (bl 18 30567) rfl rfl rfl rfl rfl rfl (three_of aT.out (by kernel_rfl)) (by decide) (by decide) (by decide) (fun K hK => ?_) (fun K hK => ?_) (fun K hK => ?_)
  ·refine Kd.R_append_rows_step Kd.string (w0 := w) w.heap.size (by rfl) (.tmp 3) (.tmp 5) 22 9 (.string ⟨#[]⟩) 16 rfl Try.underlying22 info9 rfl (by decide) (by omega) L ag af _ _ _ (fun _ => True) (fun _ => False) rfl rfl ?aO ?aR (fun _ _ h => h) (fun _ h => h.elim) ?aF ?aB ?aS ?aL ?_
   (case aR => exact cO (Kd.C_below aC.out HB.out))
   (case aB => exact (bP2 HB B D))
   (case aF => exact (fun _ _ => trivial))
   (case aO => exact (rP J))
   (case aS => exact (below_size (bP2 HB B D)))
   (case aL => have := aN.out; omega)
   intro W ax ho hb hg hat; rw [← aE.out] at ho; replace z := kG z hg J; replace A := kG A hg J; replace E := aM (Kd.R_over' (rP E) (Kd.R_typed (rP J)) (by decide) hg); replace HB := aM (hb); have I := aM (ho); clear J; clear ho hb hg hat; refine hK.out _ _ (bD4 z) (fun aQ => ?_); clear hK K; refine nm_ 6 ?_; exact norm_ pO (bq (L, W, P) _ ⟨aQ, rQ I, rQ E, kQ z, kQ A, bT2 HB B D⟩)
  ·refine lt_ Kd.bool 4 7 ([] : List Bool) [] (Reps.none _ _) ?_; intro M ax Q hb
   replace Q := nW aq Q
   replace J := rB J hb; replace E := rB E hb; have G := rW Q (bP2 HB B D); replace z := kB z hb; replace A := kB A hb; replace HB := hS2 HB B D hb; clear hb Q; refine hK.out _ _ (bD4 z) (fun aQ => ?_); clear hK K; refine nm_ 7 ?_; exact norm_ pO (aZ (L, M, P) _ ⟨aQ, rQ J, rQ G, rQ E, kQ z, kQ A, bT2 HB B D⟩)
  ·refine lt_ (Kd.int .i64) 3 11 ([] : List Int) [] (Reps.none _ _) ?_; intro O ax Q hb
   replace Q := nW an Q
   replace J := rB J hb; replace E := rB E hb; have F := rW Q (bP2 HB B D); replace z := kB z hb; replace A := kB A hb; replace HB := hS2 HB B D hb; clear hb Q; refine hK.out _ _ (bD4 z) (fun aQ => ?_); clear hK K; refine nm_ 11 ?_; exact norm_ pO (a0 (L, O, P) _ ⟨aQ, rQ J, rQ F, rQ E, kQ z, kQ A, bT2 HB B D⟩)
 intro bB; refine join_ (σ := Value × Value) 8 (bl 18 26486) (fun s_ => [(7, s_.1), (11, s_.2)]) (fun s_ w' => (q_1 w') ∧ (RA Kd.bool 4 w' w s_.1 ae) ∧ (RA (Kd.int .i64) 3 w' w s_.2 ad) ∧ (q_2 w') ∧ (q_3 w') ∧ BA w w') ?_ ?_
 ·clear z A HB; rintro ⟨M, O⟩ bd ⟨aQ, G, F, z, A, HB⟩; (try dsimp only at aQ G F z A HB); refine norm_ (a' := ?_) ?_ ?_; rotate_left
  ·simp only [putAll, Act.put, sA, sB, sC]
   rfl
  refine two_ (i := 0) (j := 12) (Ni := some 3) (Nj := some 15) (bl 18 26487) (bl 18 30582) rfl rfl rfl rfl (two_of aT.out (by kernel_rfl)) (by decide) (by decide) (fun K hK => ?_) (fun K hK => ?_)
  ·refine lt_ Kd.string 9 3 ([] : List ByteArray) [] (Reps.none _ _) ?_; intro L ax Q hb
   replace Q := nW aD Q
   replace G := rB G hb; replace F := rB F hb; have J := rW Q (bP2 HB B D); replace z := kB z hb; replace A := kB A hb; replace HB := hS2 HB B D hb; clear hb Q; refine hK.out _ _ (bD4 z) (fun aQ => ?_); clear hK K; refine nm_ 3 ?_; exact norm_ pO (bc (L, M, O) _ ⟨aQ, rQ J, rQ G, rQ F, kQ z, kQ A, bT2 HB B D⟩)
  ·refine lt_ k58 58 15 ([] : List (S58)) [] (Reps.none _ _) ?_; intro P ax Q hb
   replace Q := nW ak Q
   replace G := rB G hb; replace F := rB F hb; have E := rW Q (bP2 HB B D); replace z := kB z hb; replace A := kB A hb; replace HB := hS2 HB B D hb; clear hb Q; refine hK.out _ _ (bD4 z) (fun aQ => ?_); clear hK K; refine nm_ 15 ?_; exact norm_ pO (a1 (M, O, P) _ ⟨aQ, rQ G, rQ F, rQ E, kQ z, kQ A, bT2 HB B D⟩)
 intro bT; refine join_ (σ := Value × Value) 8 (bl 18 30326) (fun s_ => [(7, s_.1), (15, s_.2)]) (fun s_ w' => (q_1 w') ∧ (RA Kd.bool 4 w' w s_.1 ae) ∧ (RA k58 58 w' w s_.2 ac) ∧ (q_2 w') ∧ (q_3 w') ∧ BA w w') ?_ ?_
 ·clear z A HB; rintro ⟨M, P⟩ bd ⟨aQ, G, E, z, A, HB⟩; (try dsimp only at aQ G E z A HB); refine norm_ (a' := ?_) ?_ ?_; rotate_left
  ·simp only [putAll, Act.put, sA, sB, sC]
   rfl
  refine two_ (i := 0) (j := 8) (Ni := some 3) (Nj := some 11) (bl 18 30327) (bl 18 30582) rfl rfl rfl rfl (two_of aT.out (by kernel_rfl)) (by decide) (by decide) (fun K hK => ?_) (fun K hK => ?_)
  ·refine lt_ Kd.string 9 3 ([] : List ByteArray) [] (Reps.none _ _) ?_; intro L ax Q hb
   replace Q := nW aD Q
   replace G := rB G hb; replace E := rB E hb; have J := rW Q (bP2 HB B D); replace z := kB z hb; replace A := kB A hb; replace HB := hS2 HB B D hb; clear hb Q; refine hK.out _ _ (bD4 z) (fun aQ => ?_); clear hK K; refine nm_ 3 ?_; exact norm_ pO (aZ (L, M, P) _ ⟨aQ, rQ J, rQ G, rQ E, kQ z, kQ A, bT2 HB B D⟩)
  ·refine lt_ (Kd.int .i64) 3 11 ([] : List Int) [] (Reps.none _ _) ?_; intro O ax Q hb
   replace Q := nW an Q
   replace G := rB G hb; replace E := rB E hb; have F := rW Q (bP2 HB B D); replace z := kB z hb; replace A := kB A hb; replace HB := hS2 HB B D hb; clear hb Q; refine hK.out _ _ (bD4 z) (fun aQ => ?_); clear hK K; refine nm_ 11 ?_; exact norm_ pO (a1 (M, O, P) _ ⟨aQ, rQ G, rQ F, rQ E, kQ z, kQ A, bT2 HB B D⟩)
 intro bC; refine join_ (σ := Value × Value) 8 (bl 18 30566) (fun s_ => [(11, s_.1), (15, s_.2)]) (fun s_ w' => (q_1 w') ∧ (RA (Kd.int .i64) 3 w' w s_.1 ad) ∧ (RA k58 58 w' w s_.2 ac) ∧ (q_2 w') ∧ (q_3 w') ∧ BA w w') ?_ ?_
 ·clear z A HB; rintro ⟨O, P⟩ bd ⟨aQ, F, E, z, A, HB⟩; (try dsimp only at aQ F E z A HB); refine norm_ (a' := ?_) ?_ ?_; rotate_left
  ·simp only [putAll, Act.put, sA, sB, sC]
   rfl
  refine two_ (i := 0) (j := 4) (Ni := some 3) (Nj := some 7) (bl 18 30567) (bl 18 30582) rfl rfl rfl rfl (two_of aT.out (by kernel_rfl)) (by decide) (by decide) (fun K hK => ?_) (fun K hK => ?_)
  ·refine lt_ Kd.string 9 3 ([] : List ByteArray) [] (Reps.none _ _) ?_; intro L ax Q hb
   replace Q := nW aD Q
   replace F := rB F hb; replace E := rB E hb; have J := rW Q (bP2 HB B D); replace z := kB z hb; replace A := kB A hb; replace HB := hS2 HB B D hb; clear hb Q; refine hK.out _ _ (bD4 z) (fun aQ => ?_); clear hK K; refine nm_ 3 ?_; exact norm_ pO (a0 (L, O, P) _ ⟨aQ, rQ J, rQ F, rQ E, kQ z, kQ A, bT2 HB B D⟩)
  ·refine lt_ Kd.bool 4 7 ([] : List Bool) [] (Reps.none _ _) ?_; intro M ax Q hb
   replace Q := nW aq Q
   replace F := rB F hb; replace E := rB E hb; have G := rW Q (bP2 HB B D); replace z := kB z hb; replace A := kB A hb; replace HB := hS2 HB B D hb; clear hb Q; refine hK.out _ _ (bD4 z) (fun aQ => ?_); clear hK K; refine nm_ 7 ?_; exact norm_ pO (a1 (M, O, P) _ ⟨aQ, rQ G, rQ F, rQ E, kQ z, kQ A, bT2 HB B D⟩)
 intro bD; refine join_ (σ := Value) 9 (bl 18 26215) (fun s_ => [(3, s_)]) (fun s_ w' => (q_1 w') ∧ (RA Kd.string 9 w' w s_ ag) ∧ (q_2 w') ∧ (q_3 w') ∧ BA w w') ?_ ?_
 ·clear z A HB; rintro L b3 ⟨aQ, J, z, A, HB⟩; (try dsimp only at aQ J z A HB); refine norm_ (a' := ?_) ?_ ?_; rotate_left
  ·simp only [putAll, Act.put, sA, sB, sC]
   rfl
  refine four_ (i := 3) (j := 4) (k := 8) (m := 12) (Ni := some 6) (Nj := some 7) (Nk := some 11) (Nm := some 15) (bl 18 26223) (bl 18 26231) (bl 18 26471) (bl 18 30311) rfl rfl rfl rfl rfl rfl rfl rfl (four_of aT.out (by kernel_rfl)) (by decide) (by decide) (by decide) (by decide) (fun K hK => ?_) (fun K hK => ?_) (fun K hK => ?_) (fun K hK => ?_)
  ·refine Kd.R_append_rows_step Kd.string (w0 := w) w.heap.size (by rfl) (.tmp 3) (.tmp 5) 22 9 (.string ⟨#[]⟩) 16 rfl Try.underlying22 info9 rfl (by decide) (by omega) L ag af _ _ _ (fun _ => True) (fun _ => False) rfl rfl ?aO ?aR (fun _ _ h => h) (fun _ h => h.elim) ?aF ?aB ?aS ?aL ?_
   (case aR => exact cO (Kd.C_below aC.out HB.out))
   (case aB => exact (bP2 HB B D))
   (case aF => exact (fun _ _ => trivial))
   (case aO => exact (rP J))
   (case aS => exact (below_size (bP2 HB B D)))
   (case aL => have := aN.out; omega)
   intro W aH ho hb hg hat; rw [← aE.out] at ho; replace z := kG z hg J; replace A := kG A hg J; replace HB := aM (hb); have I := aM (ho); clear J; clear ho hb hg hat; refine hK.out _ _ (bD4 z) (fun aQ => ?_); clear hK K; refine nm_ 6 ?_; exact norm_ pO (ca (L, W) _ ⟨aQ, rQ I, kQ z, kQ A, bT2 HB B D⟩)
  ·refine lt_ Kd.bool 4 7 ([] : List Bool) [] (Reps.none _ _) ?_; intro M aH U hb
   replace U := nW aq U
   replace J := rB J hb; have G := rW U (bP2 HB B D); replace z := kB z hb; replace A := kB A hb; replace HB := hS2 HB B D hb; clear hb U; refine hK.out _ _ (bD4 z) (fun aQ => ?_); clear hK K; refine nm_ 7 ?_; exact norm_ pO (bR (L, M) _ ⟨aQ, rQ J, rQ G, kQ z, kQ A, bT2 HB B D⟩)
  ·refine lt_ (Kd.int .i64) 3 11 ([] : List Int) [] (Reps.none _ _) ?_; intro O aH U hb
   replace U := nW an U
   replace J := rB J hb; have F := rW U (bP2 HB B D); replace z := kB z hb; replace A := kB A hb; replace HB := hS2 HB B D hb; clear hb U; refine hK.out _ _ (bD4 z) (fun aQ => ?_); clear hK K; refine nm_ 11 ?_; exact norm_ pO (bS (L, O) _ ⟨aQ, rQ J, rQ F, kQ z, kQ A, bT2 HB B D⟩)
  ·refine lt_ k58 58 15 ([] : List (S58)) [] (Reps.none _ _) ?_; intro P aH U hb
   replace U := nW ak U
   replace J := rB J hb; have E := rW U (bP2 HB B D); replace z := kB z hb; replace A := kB A hb; replace HB := hS2 HB B D hb; clear hb U; refine hK.out _ _ (bD4 z) (fun aQ => ?_); clear hK K; refine nm_ 15 ?_; exact norm_ pO (bB (L, P) _ ⟨aQ, rQ J, rQ E, kQ z, kQ A, bT2 HB B D⟩)
 intro cu; refine join_ (σ := Value) 9 (bl 18 26230) (fun s_ => [(7, s_)]) (fun s_ w' => (q_1 w') ∧ (RA Kd.bool 4 w' w s_ ae) ∧ (q_2 w') ∧ (q_3 w') ∧ BA w w') ?_ ?_
 ·clear z A HB; rintro M b3 ⟨aQ, G, z, A, HB⟩; (try dsimp only at aQ G z A HB); refine norm_ (a' := ?_) ?_ ?_; rotate_left
  ·simp only [putAll, Act.put, sA, sB, sC]
   rfl
  refine three_ (i := 0) (j := 8) (k := 12) (Ni := some 3) (Nj := some 11) (Nk := some 15) (bl 18 26231) (bl 18 26486) (bl 18 30326) rfl rfl rfl rfl rfl rfl (three_of aT.out (by kernel_rfl)) (by decide) (by decide) (by decide) (fun K hK => ?_) (fun K hK => ?_) (fun K hK => ?_)
  ·refine lt_ Kd.string 9 3 ([] : List ByteArray) [] (Reps.none _ _) ?_; intro L aH U hb
   replace U := nW aD U
   replace G := rB G hb; have J := rW U (bP2 HB B D); replace z := kB z hb; replace A := kB A hb; replace HB := hS2 HB B D hb; clear hb U; refine hK.out _ _ (bD4 z) (fun aQ => ?_); clear hK K; refine nm_ 3 ?_; exact norm_ pO (bR (L, M) _ ⟨aQ, rQ J, rQ G, kQ z, kQ A, bT2 HB B D⟩)
  ·refine lt_ (Kd.int .i64) 3 11 ([] : List Int) [] (Reps.none _ _) ?_; intro O aH U hb
   replace U := nW an U
   replace G := rB G hb; have F := rW U (bP2 HB B D); replace z := kB z hb; replace A := kB A hb; replace HB := hS2 HB B D hb; clear hb U; refine hK.out _ _ (bD4 z) (fun aQ => ?_); clear hK K; refine nm_ 11 ?_; exact norm_ pO (bT (M, O) _ ⟨aQ, rQ G, rQ F, kQ z, kQ A, bT2 HB B D⟩)
  ·refine lt_ k58 58 15 ([] : List (S58)) [] (Reps.none _ _) ?_; intro P aH U hb
   replace U := nW ak U
   replace G := rB G hb; have E := rW U (bP2 HB B D); replace z := kB z hb; replace A := kB A hb; replace HB := hS2 HB B D hb; clear hb U; refine hK.out _ _ (bD4 z) (fun aQ => ?_); clear hK K; refine nm_ 15 ?_; exact norm_ pO (bC (M, P) _ ⟨aQ, rQ G, rQ E, kQ z, kQ A, bT2 HB B D⟩)
 intro cv; refine join_ (σ := Value) 9 (bl 18 26470) (fun s_ => [(11, s_)]) (fun s_ w' => (q_1 w') ∧ (RA (Kd.int .i64) 3 w' w s_ ad) ∧ (q_2 w') ∧ (q_3 w') ∧ BA w w') ?_ ?_
 ·clear z A HB; rintro O b3 ⟨aQ, F, z, A, HB⟩; (try dsimp only at aQ F z A HB); refine norm_ (a' := ?_) ?_ ?_; rotate_left
  ·simp only [putAll, Act.put, sA, sB, sC]
   rfl
  refine three_ (i := 0) (j := 4) (k := 12) (Ni := some 3) (Nj := some 7) (Nk := some 15) (bl 18 26471) (bl 18 26486) (bl 18 30566) rfl rfl rfl rfl rfl rfl (three_of aT.out (by kernel_rfl)) (by decide) (by decide) (by decide) (fun K hK => ?_) (fun K hK => ?_) (fun K hK => ?_)
  ·refine lt_ Kd.string 9 3 ([] : List ByteArray) [] (Reps.none _ _) ?_; intro L aH U hb
   replace U := nW aD U
   replace F := rB F hb; have J := rW U (bP2 HB B D); replace z := kB z hb; replace A := kB A hb; replace HB := hS2 HB B D hb; clear hb U; refine hK.out _ _ (bD4 z) (fun aQ => ?_); clear hK K; refine nm_ 3 ?_; exact norm_ pO (bS (L, O) _ ⟨aQ, rQ J, rQ F, kQ z, kQ A, bT2 HB B D⟩)
  ·refine lt_ Kd.bool 4 7 ([] : List Bool) [] (Reps.none _ _) ?_; intro M aH U hb
   replace U := nW aq U
   replace F := rB F hb; have G := rW U (bP2 HB B D); replace z := kB z hb; replace A := kB A hb; replace HB := hS2 HB B D hb; clear hb U; refine hK.out _ _ (bD4 z) (fun aQ => ?_); clear hK K; refine nm_ 7 ?_; exact norm_ pO (bT (M, O) _ ⟨aQ, rQ G, rQ F, kQ z, kQ A, bT2 HB B D⟩)
  ·refine lt_ k58 58 15 ([] : List (S58)) [] (Reps.none _ _) ?_; intro P aH U hb
   replace U := nW ak U
   replace F := rB F hb; have E := rW U (bP2 HB B D); replace z := kB z hb; replace A := kB A hb; replace HB := hS2 HB B D hb; clear hb U; refine hK.out _ _ (bD4 z) (fun aQ => ?_); clear hK K; refine nm_ 15 ?_; exact norm_ pO (bD (O, P) _ ⟨aQ, rQ F, rQ E, kQ z, kQ A, bT2 HB B D⟩)
 intro cw; refine join_ (σ := Value) 9 (bl 18 30310) (fun s_ => [(15, s_)]) (fun s_ w' => (q_1 w') ∧ (RA k58 58 w' w s_ ac) ∧ (q_2 w') ∧ (q_3 w') ∧ BA w w') ?_ ?_
 ·clear z A HB; rintro P b3 ⟨aQ, E, z, A, HB⟩; (try dsimp only at aQ E z A HB); refine norm_ (a' := ?_) ?_ ?_; rotate_left
  ·simp only [putAll, Act.put, sA, sB, sC]
   rfl
  refine three_ (i := 0) (j := 4) (k := 8) (Ni := some 3) (Nj := some 7) (Nk := some 11) (bl 18 30311) (bl 18 30326) (bl 18 30566) rfl rfl rfl rfl rfl rfl (three_of aT.out (by kernel_rfl)) (by decide) (by decide) (by decide) (fun K hK => ?_) (fun K hK => ?_) (fun K hK => ?_)
  ·refine lt_ Kd.string 9 3 ([] : List ByteArray) [] (Reps.none _ _) ?_; intro L aH U hb
   replace U := nW aD U
   replace E := rB E hb; have J := rW U (bP2 HB B D); replace z := kB z hb; replace A := kB A hb; replace HB := hS2 HB B D hb; clear hb U; refine hK.out _ _ (bD4 z) (fun aQ => ?_); clear hK K; refine nm_ 3 ?_; exact norm_ pO (bB (L, P) _ ⟨aQ, rQ J, rQ E, kQ z, kQ A, bT2 HB B D⟩)
  ·refine lt_ Kd.bool 4 7 ([] : List Bool) [] (Reps.none _ _) ?_; intro M aH U hb
   replace U := nW aq U
   replace E := rB E hb; have G := rW U (bP2 HB B D); replace z := kB z hb; replace A := kB A hb; replace HB := hS2 HB B D hb; clear hb U; refine hK.out _ _ (bD4 z) (fun aQ => ?_); clear hK K; refine nm_ 7 ?_; exact norm_ pO (bC (M, P) _ ⟨aQ, rQ G, rQ E, kQ z, kQ A, bT2 HB B D⟩)
  ·refine lt_ (Kd.int .i64) 3 11 ([] : List Int) [] (Reps.none _ _) ?_; intro O aH U hb
   replace U := nW an U
   replace E := rB E hb; have F := rW U (bP2 HB B D); replace z := kB z hb; replace A := kB A hb; replace HB := hS2 HB B D hb; clear hb U; refine hK.out _ _ (bD4 z) (fun aQ => ?_); clear hK K; refine nm_ 11 ?_; exact norm_ pO (bD (O, P) _ ⟨aQ, rQ F, rQ E, kQ z, kQ A, bT2 HB B D⟩)
 intro cq; refine four_ (i := 0) (j := 4) (k := 8) (m := 12) (Ni := some 3) (Nj := some 7) (Nk := some 11) (Nm := some 15) (bl 18 26215) (bl 18 26230) (bl 18 26470) (bl 18 30310) rfl rfl rfl rfl rfl rfl rfl rfl (four_of aT.out (by kernel_rfl)) (by decide) (by decide) (by decide) (by decide) (fun K hK => ?_) (fun K hK => ?_) (fun K hK => ?_) (fun K hK => ?_)
 ·refine lt_ Kd.string 9 3 ([] : List ByteArray) [] (Reps.none _ _) ?_; intro L w9 al hb
  replace al := nW aD al
  have J := rW al (bP2 HB B D); replace z := kB z hb; replace A := kB A hb; replace HB := hS2 HB B D hb; clear hb al; refine hK.out _ _ (bD4 z) (fun aQ => ?_); clear hK K; refine nm_ 3 ?_; exact norm_ pO (cu (L) _ ⟨aQ, rQ J, kQ z, kQ A, bT2 HB B D⟩)
 ·refine lt_ Kd.bool 4 7 ([] : List Bool) [] (Reps.none _ _) ?_; intro M w9 al hb
  replace al := nW aq al
  have G := rW al (bP2 HB B D); replace z := kB z hb; replace A := kB A hb; replace HB := hS2 HB B D hb; clear hb al; refine hK.out _ _ (bD4 z) (fun aQ => ?_); clear hK K; refine nm_ 7 ?_; exact norm_ pO (cv (M) _ ⟨aQ, rQ G, kQ z, kQ A, bT2 HB B D⟩)
 ·refine lt_ (Kd.int .i64) 3 11 ([] : List Int) [] (Reps.none _ _) ?_; intro O w9 al hb
  replace al := nW an al
  have F := rW al (bP2 HB B D); replace z := kB z hb; replace A := kB A hb; replace HB := hS2 HB B D hb; clear hb al; refine hK.out _ _ (bD4 z) (fun aQ => ?_); clear hK K; refine nm_ 11 ?_; exact norm_ pO (cw (O) _ ⟨aQ, rQ F, kQ z, kQ A, bT2 HB B D⟩)
 ·refine lt_ k58 58 15 ([] : List (S58)) [] (Reps.none _ _) ?_; intro P w9 al hb
  replace al := nW ak al
  have E := rW al (bP2 HB B D); replace z := kB z hb; replace A := kB A hb; replace HB := hS2 HB B D hb; clear hb al; refine hK.out _ _ (bD4 z) (fun aQ => ?_); clear hK K; refine nm_ 15 ?_; exact norm_ pO (cq (P) _ ⟨aQ, rQ E, kQ z, kQ A, bT2 HB B D⟩)

end Go.Proofs.Ytghfclgcgecgdaa.X

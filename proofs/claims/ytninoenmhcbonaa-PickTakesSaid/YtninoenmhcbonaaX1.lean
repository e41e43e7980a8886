/- What the functions of this seat compute, and that the program's calls come to just that: written by this session's own program out of the translation; no condition. -/
import Derived.Test.YtninoenmhcbonaaX0
namespace Go.Proofs.Ytninoenmhcbonaa.X
open Go.RowKit Go.Proofs.YtninoenmhcbonaaW.PrintWords Go.Proofs.YtninoenmhcbonaaW.PrintLast Go.Proofs.YtninoenmhcbonaaW.PrintMore
attribute [local go_sem] max2_int min2_int max_two min_two max_three min_three max_four min_four
set_option linter.unusedVariables false
set_option linter.unusedSimpArgs false

theorem eqA73 (d : Nat) (w : World) (x0 y0 : Int) (x1 y1 : Int) (x2 y2 : Int) :
  (Op.equalIn (d + 2) 73 (.agg #[.int .i64 x0, .int .i64 x1, .int .i64 x2]) (.agg #[.int .i64 y0, .int .i64 y1, .int .i64 y2])).run Try.prog w = .ok (x0 == y0 && (x1 == y1 && (x2 == y2))) w := by
 refine eqA_of Try.underlying73 (by kernel_rfl) ?_; refine eqf_cons (by rfl) (by go_simp; rfl) (by go_simp; rfl) (by go_simp) ?_; refine eqf_cons (by rfl) (by go_simp; rfl) (by go_simp; rfl) (by go_simp) ?_; exact eqf_last (by rfl) (by go_simp; rfl) (by go_simp; rfl) (by go_simp)
end Go.Proofs.Ytninoenmhcbonaa.X
namespace Go.Proofs.Ytninoenmhcbonaa.X
open Go.RowKit Go.Proofs.YtninoenmhcbonaaW.PrintWords Go.Proofs.YtninoenmhcbonaaW.PrintLast Go.Proofs.YtninoenmhcbonaaW.PrintMore
attribute [local go_sem] max2_int min2_int max_two min_two max_three min_three max_four min_four
set_option linter.unusedVariables false
set_option linter.unusedSimpArgs false
set_option maxHeartbeats 8000000
set_option maxRecDepth 100000

/-! ### tabardref12_Copy: function 9 -/
def tabardref12_Copy.f (l0_0 : List ByteArray) (l0_1 : List Bool) (l0_2 : List Int) (l0_3 : List (S73)) : Option (List ByteArray × List Bool × List Int × (List (S73))) := (some (([] : List ByteArray) : List ByteArray)).bind fun y103 => (if y103.length + l0_0.length < 8796093022208 then ((some (([] : List Bool) : List Bool)).bind fun y109 => (if y109.length + l0_1.length < 140737488355328 then ((some (([] : List Int) : List Int)).bind fun y115 => (if y115.length + l0_2.length < 17592186044416 then ((some (([] : List (S73)) : List (S73))).bind fun y121 => (if y121.length + l0_3.length < 5864062014805 then (some ((y103 ++ l0_0), (y109 ++ l0_1), (y115 ++ l0_2), (y121 ++ l0_3))) else (none))) else (none))) else (none))) else (none))
def tabardref12_Copy.T1 : Bool × List (List Nat × List Nat) := (true, [([], []), ([], []), ([1], [1]), ([0, 2], [0, 2]), ([], []), ([], []), ([5], [5]), ([4, 6, 3], [4, 6]), ([], []), ([], []), ([9], [9]), ([8, 10, 7], [8, 10]), ([], []), ([], []), ([13], [13]), ([12, 14, 11], [12, 14]), ([3, 7, 11, 15], [3, 7, 11, 15]), ([16, 15, 0, 1, 2, 3, 4, 5, 6, 7, 8, 9, 10, 11, 12, 13, 14, 15, 16], [16])])
def tabardref12_Copy.B1 : List Nat := [0, 0, 2, 7, 0, 0, 32, 127, 0, 0, 512, 2047, 0, 0, 8192, 32767, 65535, 131071]
theorem tabardref12_Copy.tab1 : rtab .any (opsOf Try.f9 1) = tabardref12_Copy.T1 := by kernel_rfl
theorem tabardref12_Copy.bits1 : waitsOk tabardref12_Copy.T1.2 tabardref12_Copy.B1 = true := by kernel_rfl
theorem tabardref12_Copy.calls (a2 : Option Addr) (a3 : Nat) (af : List ByteArray) (a4 : Option Addr) (a5 : Nat) (ai : List Bool) (a6 : Option Addr) (a7 : Nat) (aj : List Int) (a8 : Option Addr) (a9 : Nat) (am : List (S73)) (r1 : List ByteArray) (r2 : List Bool) (r3 : List Int) (r4 : List (S73)) (w : World) (bF : Kd.C Kd.string w a2 af.length af) (bG : af.length ≤ a3) (bH : Kd.C Kd.bool w a4 ai.length ai) (bI : ai.length ≤ a5) (bJ : Kd.C (Kd.int .i64) w a6 aj.length aj) (bK : aj.length ≤ a7) (bL : Kd.C k73 w a8 am.length am) (bM : am.length ≤ a9) (h : tabardref12_Copy.f af ai aj am = some (r1, r2, r3, r4)) :
  Calls Try.prog 9 #[.agg #[.slice a2 af.length a3, .slice a4 ai.length a5, .slice a6 aj.length a7, .slice a8 am.length a9]] w fun e w' => ∃ cb cc cd ce : Value, e = .returned (.agg #[cb, cc, cd, ce]) ∧ Kd.R Kd.string 9 w' w.heap.size (fun _ => True) cb r1 ∧ Kd.R Kd.bool 4 w' w.heap.size (fun _ => True) cc r2 ∧ Kd.R (Kd.int .i64) 3 w' w.heap.size (fun _ => True) cd r3 ∧ Kd.R k73 73 w' w.heap.size (fun _ => True) ce r4 ∧ Below w.heap.size w w' := by
 have hu27 := Try.underlying27; have aC := aM bF; have cx := aM bG; clear bF bG; have be := aM bH; have cy := aM bI; clear bH bI; have bN := aM bJ; have cz := aM bK; clear bJ bK; have b4 := aM bL; have cA := aM bM; clear bL bM; have HB := aM (Below.refl w.heap.size w); rw [tabardref12_Copy.f] at h; have H := h; clear h; obtain ⟨ag, bt⟩ : ∃ y_ : List ByteArray, y_ = (([] : List ByteArray)) := ⟨_, rfl⟩
 replace H : (if ag.length + af.length < 8796093022208 then ((some (([] : List Bool) : List Bool)).bind fun ae => (if ae.length + ai.length < 140737488355328 then ((some (([] : List Int) : List Int)).bind fun ad => (if ad.length + aj.length < 17592186044416 then ((some (([] : List (S73)) : List (S73))).bind fun ac => (if ac.length + am.length < 5864062014805 then (some ((ag ++ af), (ae ++ ai), (ad ++ aj), (ac ++ am))) else (none))) else (none))) else (none))) else (none)) = some (r1, r2, r3, r4) := rH bt H
 have aD := aM bt; clear bt
 by_cases c2 : ag.length + af.length < 8796093022208
 ·rw [if_pos c2] at H; have aN := aM c2; clear c2; obtain ⟨ap, bf⟩ : ∃ y_ : List ByteArray, y_ = (ag ++ af) := ⟨_, rfl⟩
  first | replace H := rI bf H | rw [← bf] at H
  have aE := aM bf; clear bf; obtain ⟨ae, bu⟩ : ∃ y_ : List Bool, y_ = (([] : List Bool)) := ⟨_, rfl⟩
  replace H : (if ae.length + ai.length < 140737488355328 then ((some (([] : List Int) : List Int)).bind fun ad => (if ad.length + aj.length < 17592186044416 then ((some (([] : List (S73)) : List (S73))).bind fun ac => (if ac.length + am.length < 5864062014805 then (some (ap, (ae ++ ai), (ad ++ aj), (ac ++ am))) else (none))) else (none))) else (none)) = some (r1, r2, r3, r4) := rH bu H
  have aq := aM bu; clear bu
  by_cases c3 : ae.length + ai.length < 140737488355328
  ·rw [if_pos c3] at H; have bv := aM c3; clear c3; obtain ⟨aP, bg⟩ : ∃ y_ : List Bool, y_ = (ae ++ ai) := ⟨_, rfl⟩
   first | replace H := rI bg H | rw [← bg] at H
   have bh := aM bg; clear bg; obtain ⟨ad, bw⟩ : ∃ y_ : List Int, y_ = (([] : List Int)) := ⟨_, rfl⟩
   replace H : (if ad.length + aj.length < 17592186044416 then ((some (([] : List (S73)) : List (S73))).bind fun ac => (if ac.length + am.length < 5864062014805 then (some (ap, aP, (ad ++ aj), (ac ++ am))) else (none))) else (none)) = some (r1, r2, r3, r4) := rH bw H
   have an := aM bw; clear bw
   by_cases c4 : ad.length + aj.length < 17592186044416
   ·rw [if_pos c4] at H; have bY := aM c4; clear c4; obtain ⟨bE, bi⟩ : ∃ y_ : List Int, y_ = (ad ++ aj) := ⟨_, rfl⟩
    first | replace H := rI bi H | rw [← bi] at H
    have bO := aM bi; clear bi; obtain ⟨ac, bj⟩ : ∃ y_ : List (S73), y_ = (([] : List (S73))) := ⟨_, rfl⟩
    first | replace H := rI bj H | rw [← bj] at H
    have ak := aM bj; clear bj
    by_cases c5 : ac.length + am.length < 5864062014805
    ·rw [if_pos c5] at H; have cg := aM c5; clear c5; obtain ⟨ch, bk⟩ : ∃ y_ : List (S73), y_ = (ac ++ am) := ⟨_, rfl⟩
     first | replace H := rI bk H | rw [← bk] at H
     have b9 := aM bk; clear bk; simp only [Option.some.injEq, Prod.mk.injEq] at H; obtain ⟨rfl, rfl, rfl, rfl⟩ := H
     go_enter Try.func9, Try.ntmps9
     try go_wp2_with (first | ((with_reducible refine gate_dst (N := 1) rfl ?_); refine be_ (cs := #[.slice a2 af.length a3, .slice a4 ai.length a5, .slice a6 aj.length a7, .slice a8 am.length a9]) (t := 27) ?_; intro az hg w6 hbox hb; have z := aM (hbox); have cB := gE hg (bP0 HB); have B := gE hg (bP0 HB); replace HB := hS0 HB hb; clear hb hbox hg) | ((with_reducible refine gate_dst (N := 2) rfl ?_); refine be_ (cs := #[.slice none 0 0, .slice none 0 0, .slice none 0 0, .slice none 0 0]) (t := 27) ?_; intro ab hg w7 hbox hb; have A := aM (hbox); have cC := gE hg (bP1 HB B); have D := gE hg (bP1 HB B); replace HB := hS1 HB B hb; have Y := nL hg z; have aG := nG hg z; replace z := kB z hb; clear hb hbox hg))
     replace z := kD z; replace A := kD A; replace HB := aM (below_drew1 HB.out); refine start_ (n := 18) (S := fun w' => w'.cell? ⟨az, 0, none⟩ = some (.slice a2 af.length a3) ∧ w'.cell? ⟨az, 1, none⟩ = some (.slice a4 ai.length a5) ∧ w'.cell? ⟨az, 2, none⟩ = some (.slice a6 aj.length a7) ∧ w'.cell? ⟨az, 3, none⟩ = some (.slice a8 am.length a9)) (ds := []) (bl 18 0) (by kernel_rfl) rfl rfl (bD4 z) (fun hHeld => ?_); refine with_tabW tabardref12_Copy.tab1 tabardref12_Copy.bits1 (fun HT_ HW_ => ?_); generalize w7.drew = w8 at z A HB hHeld ⊢; refine pu_ 1 4 (bl 18 2) HT_ ?_; refine pu_ 5 8 (bl 18 34) HT_ ?_; refine pu_ 9 12 (bl 18 546) HT_ ?_; refine pu_ 13 16 (bl 18 8738) HT_ ?_; refine tk4_ 2 5 (bl 18 8742) HT_ HW_ hHeld ?_; refine tk4_ 6 9 (bl 18 8806) HT_ HW_ hHeld ?_; refine tk4_ 10 13 (bl 18 9830) HT_ HW_ hHeld ?_; refine tk4_ 14 17 (bl 18 26214) HT_ HW_ hHeld ?_; let q_1 : World → Prop := fun w' => w'.cell? ⟨az, 0, none⟩ = some (.slice a2 af.length a3) ∧ w'.cell? ⟨az, 1, none⟩ = some (.slice a4 ai.length a5) ∧ w'.cell? ⟨az, 2, none⟩ = some (.slice a6 aj.length a7) ∧ w'.cell? ⟨az, 3, none⟩ = some (.slice a8 am.length a9); let q_2 : World → Prop := fun w' => Aside0 (w'.heap[az]? = some (.cells #[.slice a2 af.length a3, .slice a4 ai.length a5, .slice a6 aj.length a7, .slice a8 am.length a9] 27 (0, 0))); let q_3 : World → Prop := fun w' => Aside0 (w'.heap[ab]? = some (.cells #[.slice none 0 0, .slice none 0 0, .slice none 0 0, .slice none 0 0] 27 (0, 0))); refine join_ (σ := Value × Value × Value × Value × Value × Value × Value) 3 (bl 18 32767) (fun s_ => [(3, s_.1), (6, s_.2.1), (7, s_.2.2.1), (10, s_.2.2.2.1), (11, s_.2.2.2.2.1), (14, s_.2.2.2.2.2.1), (15, s_.2.2.2.2.2.2)]) (fun s_ w' => (q_1 w') ∧ (RA Kd.string 9 w' w s_.2.1 ap) ∧ (RA Kd.bool 4 w' w s_.2.2.2.1 aP) ∧ (RA (Kd.int .i64) 3 w' w s_.2.2.2.2.2.1 bE) ∧ (RA k73 73 w' w s_.2.2.2.2.2.2 ac) ∧ (q_2 w') ∧ (q_3 w') ∧ BA w w') ?_ ?_
     ·clear z A HB; rintro ⟨L, W, M, ah, O, ba, P⟩ ct ⟨hHeld, I, V, ao, E, z, A, HB⟩; (try dsimp only at hHeld I V ao E z A HB); refine norm_ (a' := ?_) ?_ ?_; rotate_left
      ·simp only [putAll, Act.put, sA, sB, sC]
       rfl
      refine one_ (i := 15) (N := some 18) (bl 18 65535) rfl rfl (one_of HT_.out (by kernel_rfl)) (by decide) (fun K hK => ?_); refine Kd.R_append_rows_step k73 (w0 := w) w.heap.size (by rfl) (.tmp 15) (.tmp 17) 25 73 (.agg #[(.int .i64 0), (.int .i64 0), (.int .i64 0)]) 24 rfl Try.underlying25 info73 rfl (by decide) (by omega) P ac am _ _ _ (fun _ => True) (fun _ => False) rfl rfl ?aO ?aR (fun _ _ h => h) (fun _ h => h.elim) ?aF ?aB ?aS ?aL ?_
      (case aR => exact cO (Kd.C_below b4.out HB.out))
      (case aB => exact (bP2 HB B D))
      (case aF => exact (fun _ _ => trivial))
      (case aO => exact (rP E))
      (case aS => exact (below_size (bP2 HB B D)))
      (case aL => have := cg.out; omega)
      intro cE bP ho hb hg hat; rw [← b9.out] at ho; replace z := kG z hg E; replace A := kG A hg E; replace I := aM (Kd.R_over' (rP I) (Kd.R_typed (rP E)) (by decide) hg); replace V := aM (Kd.R_over' (rP V) (Kd.R_typed (rP E)) (by decide) hg); replace ao := aM (Kd.R_over' (rP ao) (Kd.R_typed (rP E)) (by decide) hg); replace HB := aM (hb); have bQ := aM (ho); clear E; clear ho hb hg hat; obtain ⟨ci, cj, bZ⟩ := sL bQ
      (first | subst bZ | (injection bZ with aQ bm aT; have bn := aQ.symm; have bo := aT.symm; clear aQ bm aT; subst bn; subst bo))
      obtain ⟨ck, cl, b0⟩ := sL ao
      (first | subst b0 | (injection b0 with aQ bm aT; have bn := aQ.symm; have bo := aT.symm; clear aQ bm aT; subst bn; subst bo))
      obtain ⟨cm, cn, b1⟩ := sL V
      (first | subst b1 | (injection b1 with aQ bm aT; have bn := aQ.symm; have bo := aT.symm; clear aQ bm aT; subst bn; subst bo))
      obtain ⟨co, cp, b2⟩ := sL I
      (first | subst b2 | (injection b2 with aQ bm aT; have bn := aQ.symm; have bo := aT.symm; clear aQ bm aT; subst bn; subst bo))
      refine hK.out _ _ (bD4 z) (fun hHeld => ?_); clear hK K; refine nm_ 18 ?_; refine pu_ 16 19 (bl 18 131071) HT_ ?_; refine one_ (i := 17) (N := none) (bl 18 262143) rfl rfl (one_of HT_.out (by kernel_rfl)) (by decide) (fun K hK => ?_); have hs26 : bP.cell? ⟨ab, 0, none⟩ = some (.slice none 0 0) := (blk_cell A.out 0).trans rfl; have hfs26 := blk_frozen A.out 0; have hns26_0 := Y.out; have hms26_0 := aG.out; have hs27 : bP.cell? ⟨ab, 1, none⟩ = some (.slice none 0 0) := (blk_cell A.out 1).trans rfl; have hfs27 := blk_frozen A.out 1; have hns27_0 := Y.out; have hms27_0 := aG.out; have hs28 : bP.cell? ⟨ab, 2, none⟩ = some (.slice none 0 0) := (blk_cell A.out 2).trans rfl; have hfs28 := blk_frozen A.out 2; have hns28_0 := Y.out; have hms28_0 := aG.out; have hs29 : bP.cell? ⟨ab, 3, none⟩ = some (.slice none 0 0) := (blk_cell A.out 3).trans rfl; have hfs29 := blk_frozen A.out 3; have hns29_0 := Y.out; have hms29_0 := aG.out; refine skip_ (w1 := ?_) (by rfl) rfl ?_ ?_; rotate_left
      ·go_simp
       rfl
      refine hK.out _ _ ⟨((cell_far (p := ⟨ab, _, none⟩) Y.out _).trans (((cell_far (p := ⟨ab, _, none⟩) Y.out _).trans (((cell_far (p := ⟨ab, _, none⟩) Y.out _).trans (((cell_far (p := ⟨ab, _, none⟩) Y.out _).trans (hHeld.1)))))))), ((cell_far (p := ⟨ab, _, none⟩) Y.out _).trans (((cell_far (p := ⟨ab, _, none⟩) Y.out _).trans (((cell_far (p := ⟨ab, _, none⟩) Y.out _).trans (((cell_far (p := ⟨ab, _, none⟩) Y.out _).trans (hHeld.2.1)))))))), ((cell_far (p := ⟨ab, _, none⟩) Y.out _).trans (((cell_far (p := ⟨ab, _, none⟩) Y.out _).trans (((cell_far (p := ⟨ab, _, none⟩) Y.out _).trans (((cell_far (p := ⟨ab, _, none⟩) Y.out _).trans (hHeld.2.2.1)))))))), ((cell_far (p := ⟨ab, _, none⟩) Y.out _).trans (((cell_far (p := ⟨ab, _, none⟩) Y.out _).trans (((cell_far (p := ⟨ab, _, none⟩) Y.out _).trans (((cell_far (p := ⟨ab, _, none⟩) Y.out _).trans (hHeld.2.2.2))))))))⟩ (fun hHeld => ?_); clear hK K; refine done_ (done_of HT_.out (by kernel_rfl)) ?_
      try go_wp2
      refine bodyPost_ret (results_cell_row rfl _ _ ab 27 #[.slice co ap.length cp, .slice cm aP.length cn, .slice ck bE.length cl, .slice ci ch.length cj] (0, 0) _ rfl (by (with_reducible repeat (first | refine blk_drewN ?_ _ | refine blk_drew ?_ | refine blk_alloc ?_ _)); exact blk_put (blk_put (blk_put (blk_put A.out 0 _ rfl) 1 _ rfl) 2 _ rfl) 3 _ rfl) Try.underlying27 rfl (by kernel_rfl)) rfl ?_; exact ⟨_, _, _, _, eW, rZ I A, rZ V A, rZ ao A, rZ bQ A, bS2 HB.out B.out D.out⟩
     intro ay; refine join_ (σ := Value × Value × Value × Value × Value × Value) 4 (bl 18 28671) (fun s_ => [(3, s_.1), (6, s_.2.1), (7, s_.2.2.1), (10, s_.2.2.2.1), (11, s_.2.2.2.2.1), (14, s_.2.2.2.2.2)]) (fun s_ w' => (q_1 w') ∧ (RA Kd.string 9 w' w s_.2.1 ap) ∧ (RA Kd.bool 4 w' w s_.2.2.2.1 aP) ∧ (RA (Kd.int .i64) 3 w' w s_.2.2.2.2.2 bE) ∧ (q_2 w') ∧ (q_3 w') ∧ BA w w') ?_ ?_
     ·clear z A HB; rintro ⟨L, W, M, ah, O, ba⟩ bz ⟨hHeld, I, V, ao, z, A, HB⟩; (try dsimp only at hHeld I V ao z A HB); refine norm_ (a' := ?_) ?_ ?_; rotate_left
      ·simp only [putAll, Act.put, sA, sB, sC]
       rfl
      refine one_ (i := 12) (N := some 15) (bl 18 32767) rfl rfl (one_of HT_.out (by kernel_rfl)) (by decide) (fun K hK => ?_); refine lt_ k73 73 15 ([] : List (S73)) [] (Reps.none _ _) ?_; intro P cf bx hb
      replace bx := nW ak bx
      replace I := rB I hb; replace V := rB V hb; replace ao := rB ao hb; have E := rW bx (bP2 HB B D); replace z := kB z hb; replace A := kB A hb; replace HB := hS2 HB B D hb; clear hb bx; refine hK.out _ _ (bD4 z) (fun hHeld => ?_); clear hK K; refine nm_ 15 ?_; exact norm_ pO (ay (L, W, M, ah, O, ba, P) _ ⟨hHeld, rQ I, rQ V, rQ ao, rQ E, kQ z, kQ A, bT2 HB B D⟩)
     intro bb; refine join_ (σ := Value × Value × Value × Value × Value × Value) 4 (bl 18 30719) (fun s_ => [(3, s_.1), (6, s_.2.1), (7, s_.2.2.1), (10, s_.2.2.2.1), (11, s_.2.2.2.2.1), (15, s_.2.2.2.2.2)]) (fun s_ w' => (q_1 w') ∧ (RA Kd.string 9 w' w s_.2.1 ap) ∧ (RA Kd.bool 4 w' w s_.2.2.2.1 aP) ∧ (RA (Kd.int .i64) 3 w' w s_.2.2.2.2.1 ad) ∧ (RA k73 73 w' w s_.2.2.2.2.2 ac) ∧ (q_2 w') ∧ (q_3 w') ∧ BA w w') ?_ ?_
     ·clear z A HB; rintro ⟨L, W, M, ah, O, P⟩ cf ⟨hHeld, I, V, F, E, z, A, HB⟩; (try dsimp only at hHeld I V F E z A HB); refine norm_ (a' := ?_) ?_ ?_; rotate_left
      ·simp only [putAll, Act.put, sA, sB, sC]
       rfl
      refine one_ (i := 11) (N := some 14) (bl 18 32767) rfl rfl (one_of HT_.out (by kernel_rfl)) (by decide) (fun K hK => ?_); refine Kd.R_append_rows_step (Kd.int .i64) (w0 := w) w.heap.size (by rfl) (.tmp 11) (.tmp 13) 24 3 (.int .i64 0) 8 rfl Try.underlying24 info3 rfl (by decide) (by omega) O ad aj _ _ _ (fun _ => True) (fun _ => False) rfl rfl ?aO ?aR (fun _ _ h => h) (fun _ h => h.elim) ?aF ?aB ?aS ?aL ?_
      (case aR => exact cO (Kd.C_below bN.out HB.out))
      (case aB => exact (bP2 HB B D))
      (case aF => exact (fun _ _ => trivial))
      (case aO => exact (rP F))
      (case aS => exact (below_size (bP2 HB B D)))
      (case aL => have := bY.out; omega)
      intro ba ct ho hb hg hat; rw [← bO.out] at ho; replace z := kG z hg F; replace A := kG A hg F; replace I := aM (Kd.R_over' (rP I) (Kd.R_typed (rP F)) (by decide) hg); replace V := aM (Kd.R_over' (rP V) (Kd.R_typed (rP F)) (by decide) hg); replace E := aM (Kd.R_over' (rP E) (Kd.R_typed (rP F)) (by decide) hg); replace HB := aM (hb); have ao := aM (ho); clear F; clear ho hb hg hat; refine hK.out _ _ (bD4 z) (fun hHeld => ?_); clear hK K; refine nm_ 14 ?_; exact norm_ pO (ay (L, W, M, ah, O, ba, P) _ ⟨hHeld, rQ I, rQ V, rQ ao, rQ E, kQ z, kQ A, bT2 HB B D⟩)
     intro aw; refine join_ (σ := Value × Value × Value × Value × Value) 5 (bl 18 26623) (fun s_ => [(3, s_.1), (6, s_.2.1), (7, s_.2.2.1), (10, s_.2.2.2.1), (11, s_.2.2.2.2)]) (fun s_ w' => (q_1 w') ∧ (RA Kd.string 9 w' w s_.2.1 ap) ∧ (RA Kd.bool 4 w' w s_.2.2.2.1 aP) ∧ (RA (Kd.int .i64) 3 w' w s_.2.2.2.2 ad) ∧ (q_2 w') ∧ (q_3 w') ∧ BA w w') ?_ ?_
     ·clear z A HB; rintro ⟨L, W, M, ah, O⟩ bp ⟨hHeld, I, V, F, z, A, HB⟩; (try dsimp only at hHeld I V F z A HB); refine norm_ (a' := ?_) ?_ ?_; rotate_left
      ·simp only [putAll, Act.put, sA, sB, sC]
       rfl
      refine two_ (i := 11) (j := 12) (Ni := some 14) (Nj := some 15) (bl 18 28671) (bl 18 30719) rfl rfl rfl rfl (two_of HT_.out (by kernel_rfl)) (by decide) (by decide) (fun K hK => ?_) (fun K hK => ?_)
      ·refine Kd.R_append_rows_step (Kd.int .i64) (w0 := w) w.heap.size (by rfl) (.tmp 11) (.tmp 13) 24 3 (.int .i64 0) 8 rfl Try.underlying24 info3 rfl (by decide) (by omega) O ad aj _ _ _ (fun _ => True) (fun _ => False) rfl rfl ?aO ?aR (fun _ _ h => h) (fun _ h => h.elim) ?aF ?aB ?aS ?aL ?_
       (case aR => exact cO (Kd.C_below bN.out HB.out))
       (case aB => exact (bP2 HB B D))
       (case aF => exact (fun _ _ => trivial))
       (case aO => exact (rP F))
       (case aS => exact (below_size (bP2 HB B D)))
       (case aL => have := bY.out; omega)
       intro ba bz ho hb hg hat; rw [← bO.out] at ho; replace z := kG z hg F; replace A := kG A hg F; replace I := aM (Kd.R_over' (rP I) (Kd.R_typed (rP F)) (by decide) hg); replace V := aM (Kd.R_over' (rP V) (Kd.R_typed (rP F)) (by decide) hg); replace HB := aM (hb); have ao := aM (ho); clear F; clear ho hb hg hat; refine hK.out _ _ (bD4 z) (fun hHeld => ?_); clear hK K; refine nm_ 14 ?_; exact norm_ pO (bb (L, W, M, ah, O, ba) _ ⟨hHeld, rQ I, rQ V, rQ ao, kQ z, kQ A, bT2 HB B D⟩)
      ·refine lt_ k73 73 15 ([] : List (S73)) [] (Reps.none _ _) ?_; intro P bz aI hb
       replace aI := nW ak aI
       replace I := rB I hb; replace V := rB V hb; replace F := rB F hb; have E := rW aI (bP2 HB B D); replace z := kB z hb; replace A := kB A hb; replace HB := hS2 HB B D hb; clear hb aI; refine hK.out _ _ (bD4 z) (fun hHeld => ?_); clear hK K; refine nm_ 15 ?_; exact norm_ pO (aw (L, W, M, ah, O, P) _ ⟨hHeld, rQ I, rQ V, rQ F, rQ E, kQ z, kQ A, bT2 HB B D⟩)
     intro aY; refine join_ (σ := Value × Value × Value × Value × Value) 5 (bl 18 30463) (fun s_ => [(3, s_.1), (6, s_.2.1), (7, s_.2.2.1), (10, s_.2.2.2.1), (15, s_.2.2.2.2)]) (fun s_ w' => (q_1 w') ∧ (RA Kd.string 9 w' w s_.2.1 ap) ∧ (RA Kd.bool 4 w' w s_.2.2.2.1 aP) ∧ (RA k73 73 w' w s_.2.2.2.2 ac) ∧ (q_2 w') ∧ (q_3 w') ∧ BA w w') ?_ ?_
     ·clear z A HB; rintro ⟨L, W, M, ah, P⟩ bp ⟨hHeld, I, V, E, z, A, HB⟩; (try dsimp only at hHeld I V E z A HB); refine norm_ (a' := ?_) ?_ ?_; rotate_left
      ·simp only [putAll, Act.put, sA, sB, sC]
       rfl
      refine one_ (i := 8) (N := some 11) (bl 18 30719) rfl rfl (one_of HT_.out (by kernel_rfl)) (by decide) (fun K hK => ?_); refine lt_ (Kd.int .i64) 3 11 ([] : List Int) [] (Reps.none _ _) ?_; intro O bz aI hb
      replace aI := nW an aI
      replace I := rB I hb; replace V := rB V hb; replace E := rB E hb; have F := rW aI (bP2 HB B D); replace z := kB z hb; replace A := kB A hb; replace HB := hS2 HB B D hb; clear hb aI; refine hK.out _ _ (bD4 z) (fun hHeld => ?_); clear hK K; refine nm_ 11 ?_; exact norm_ pO (aw (L, W, M, ah, O, P) _ ⟨hHeld, rQ I, rQ V, rQ F, rQ E, kQ z, kQ A, bT2 HB B D⟩)
     intro aU; refine join_ (σ := Value × Value × Value × Value × Value) 5 (bl 18 30591) (fun s_ => [(3, s_.1), (6, s_.2.1), (7, s_.2.2.1), (11, s_.2.2.2.1), (15, s_.2.2.2.2)]) (fun s_ w' => (q_1 w') ∧ (RA Kd.string 9 w' w s_.2.1 ap) ∧ (RA Kd.bool 4 w' w s_.2.2.1 ae) ∧ (RA (Kd.int .i64) 3 w' w s_.2.2.2.1 ad) ∧ (RA k73 73 w' w s_.2.2.2.2 ac) ∧ (q_2 w') ∧ (q_3 w') ∧ BA w w') ?_ ?_
     ·clear z A HB; rintro ⟨L, W, M, O, P⟩ bz ⟨hHeld, I, G, F, E, z, A, HB⟩; (try dsimp only at hHeld I G F E z A HB); refine norm_ (a' := ?_) ?_ ?_; rotate_left
      ·simp only [putAll, Act.put, sA, sB, sC]
       rfl
      refine one_ (i := 7) (N := some 10) (bl 18 30719) rfl rfl (one_of HT_.out (by kernel_rfl)) (by decide) (fun K hK => ?_); refine Kd.R_append_rows_step Kd.bool (w0 := w) w.heap.size (by rfl) (.tmp 7) (.tmp 9) 23 4 (.bool false) 1 rfl Try.underlying23 info4 rfl (by decide) (by omega) M ae ai _ _ _ (fun _ => True) (fun _ => False) rfl rfl ?aO ?aR (fun _ _ h => h) (fun _ h => h.elim) ?aF ?aB ?aS ?aL ?_
      (case aR => exact cO (Kd.C_below be.out HB.out))
      (case aB => exact (bP2 HB B D))
      (case aF => exact (fun _ _ => trivial))
      (case aO => exact (rP G))
      (case aS => exact (below_size (bP2 HB B D)))
      (case aL => have := bv.out; omega)
      intro ah cf ho hb hg hat; rw [← bh.out] at ho; replace z := kG z hg G; replace A := kG A hg G; replace I := aM (Kd.R_over' (rP I) (Kd.R_typed (rP G)) (by decide) hg); replace F := aM (Kd.R_over' (rP F) (Kd.R_typed (rP G)) (by decide) hg); replace E := aM (Kd.R_over' (rP E) (Kd.R_typed (rP G)) (by decide) hg); replace HB := aM (hb); have V := aM (ho); clear G; clear ho hb hg hat; refine hK.out _ _ (bD4 z) (fun hHeld => ?_); clear hK K; refine nm_ 10 ?_; exact norm_ pO (aw (L, W, M, ah, O, P) _ ⟨hHeld, rQ I, rQ V, rQ F, rQ E, kQ z, kQ A, bT2 HB B D⟩)
     intro ar; refine join_ (σ := Value × Value × Value × Value) 6 (bl 18 26367) (fun s_ => [(3, s_.1), (6, s_.2.1), (7, s_.2.2.1), (10, s_.2.2.2)]) (fun s_ w' => (q_1 w') ∧ (RA Kd.string 9 w' w s_.2.1 ap) ∧ (RA Kd.bool 4 w' w s_.2.2.2 aP) ∧ (q_2 w') ∧ (q_3 w') ∧ BA w w') ?_ ?_
     ·clear z A HB; rintro ⟨L, W, M, ah⟩ aV ⟨hHeld, I, V, z, A, HB⟩; (try dsimp only at hHeld I V z A HB); refine norm_ (a' := ?_) ?_ ?_; rotate_left
      ·simp only [putAll, Act.put, sA, sB, sC]
       rfl
      refine two_ (i := 8) (j := 12) (Ni := some 11) (Nj := some 15) (bl 18 26623) (bl 18 30463) rfl rfl rfl rfl (two_of HT_.out (by kernel_rfl)) (by decide) (by decide) (fun K hK => ?_) (fun K hK => ?_)
      ·refine lt_ (Kd.int .i64) 3 11 ([] : List Int) [] (Reps.none _ _) ?_; intro O aW Z hb
       replace Z := nW an Z
       replace I := rB I hb; replace V := rB V hb; have F := rW Z (bP2 HB B D); replace z := kB z hb; replace A := kB A hb; replace HB := hS2 HB B D hb; clear hb Z; refine hK.out _ _ (bD4 z) (fun hHeld => ?_); clear hK K; refine nm_ 11 ?_; exact norm_ pO (aY (L, W, M, ah, O) _ ⟨hHeld, rQ I, rQ V, rQ F, kQ z, kQ A, bT2 HB B D⟩)
      ·refine lt_ k73 73 15 ([] : List (S73)) [] (Reps.none _ _) ?_; intro P aW Z hb
       replace Z := nW ak Z
       replace I := rB I hb; replace V := rB V hb; have E := rW Z (bP2 HB B D); replace z := kB z hb; replace A := kB A hb; replace HB := hS2 HB B D hb; clear hb Z; refine hK.out _ _ (bD4 z) (fun hHeld => ?_); clear hK K; refine nm_ 15 ?_; exact norm_ pO (aU (L, W, M, ah, P) _ ⟨hHeld, rQ I, rQ V, rQ E, kQ z, kQ A, bT2 HB B D⟩)
     intro bA; refine join_ (σ := Value × Value × Value × Value) 6 (bl 18 26495) (fun s_ => [(3, s_.1), (6, s_.2.1), (7, s_.2.2.1), (11, s_.2.2.2)]) (fun s_ w' => (q_1 w') ∧ (RA Kd.string 9 w' w s_.2.1 ap) ∧ (RA Kd.bool 4 w' w s_.2.2.1 ae) ∧ (RA (Kd.int .i64) 3 w' w s_.2.2.2 ad) ∧ (q_2 w') ∧ (q_3 w') ∧ BA w w') ?_ ?_
     ·clear z A HB; rintro ⟨L, W, M, O⟩ aW ⟨hHeld, I, G, F, z, A, HB⟩; (try dsimp only at hHeld I G F z A HB); refine norm_ (a' := ?_) ?_ ?_; rotate_left
      ·simp only [putAll, Act.put, sA, sB, sC]
       rfl
      refine two_ (i := 7) (j := 12) (Ni := some 10) (Nj := some 15) (bl 18 26623) (bl 18 30591) rfl rfl rfl rfl (two_of HT_.out (by kernel_rfl)) (by decide) (by decide) (fun K hK => ?_) (fun K hK => ?_)
      ·refine Kd.R_append_rows_step Kd.bool (w0 := w) w.heap.size (by rfl) (.tmp 7) (.tmp 9) 23 4 (.bool false) 1 rfl Try.underlying23 info4 rfl (by decide) (by omega) M ae ai _ _ _ (fun _ => True) (fun _ => False) rfl rfl ?aO ?aR (fun _ _ h => h) (fun _ h => h.elim) ?aF ?aB ?aS ?aL ?_
       (case aR => exact cO (Kd.C_below be.out HB.out))
       (case aB => exact (bP2 HB B D))
       (case aF => exact (fun _ _ => trivial))
       (case aO => exact (rP G))
       (case aS => exact (below_size (bP2 HB B D)))
       (case aL => have := bv.out; omega)
       intro ah bp ho hb hg hat; rw [← bh.out] at ho; replace z := kG z hg G; replace A := kG A hg G; replace I := aM (Kd.R_over' (rP I) (Kd.R_typed (rP G)) (by decide) hg); replace F := aM (Kd.R_over' (rP F) (Kd.R_typed (rP G)) (by decide) hg); replace HB := aM (hb); have V := aM (ho); clear G; clear ho hb hg hat; refine hK.out _ _ (bD4 z) (fun hHeld => ?_); clear hK K; refine nm_ 10 ?_; exact norm_ pO (aY (L, W, M, ah, O) _ ⟨hHeld, rQ I, rQ V, rQ F, kQ z, kQ A, bT2 HB B D⟩)
      ·refine lt_ k73 73 15 ([] : List (S73)) [] (Reps.none _ _) ?_; intro P bp au hb
       replace au := nW ak au
       replace I := rB I hb; replace G := rB G hb; replace F := rB F hb; have E := rW au (bP2 HB B D); replace z := kB z hb; replace A := kB A hb; replace HB := hS2 HB B D hb; clear hb au; refine hK.out _ _ (bD4 z) (fun hHeld => ?_); clear hK K; refine nm_ 15 ?_; exact norm_ pO (ar (L, W, M, O, P) _ ⟨hHeld, rQ I, rQ G, rQ F, rQ E, kQ z, kQ A, bT2 HB B D⟩)
     intro aX; refine join_ (σ := Value × Value × Value × Value) 6 (bl 18 30335) (fun s_ => [(3, s_.1), (6, s_.2.1), (7, s_.2.2.1), (15, s_.2.2.2)]) (fun s_ w' => (q_1 w') ∧ (RA Kd.string 9 w' w s_.2.1 ap) ∧ (RA Kd.bool 4 w' w s_.2.2.1 ae) ∧ (RA k73 73 w' w s_.2.2.2 ac) ∧ (q_2 w') ∧ (q_3 w') ∧ BA w w') ?_ ?_
     ·clear z A HB; rintro ⟨L, W, M, P⟩ aW ⟨hHeld, I, G, E, z, A, HB⟩; (try dsimp only at hHeld I G E z A HB); refine norm_ (a' := ?_) ?_ ?_; rotate_left
      ·simp only [putAll, Act.put, sA, sB, sC]
       rfl
      refine two_ (i := 7) (j := 8) (Ni := some 10) (Nj := some 11) (bl 18 30463) (bl 18 30591) rfl rfl rfl rfl (two_of HT_.out (by kernel_rfl)) (by decide) (by decide) (fun K hK => ?_) (fun K hK => ?_)
      ·refine Kd.R_append_rows_step Kd.bool (w0 := w) w.heap.size (by rfl) (.tmp 7) (.tmp 9) 23 4 (.bool false) 1 rfl Try.underlying23 info4 rfl (by decide) (by omega) M ae ai _ _ _ (fun _ => True) (fun _ => False) rfl rfl ?aO ?aR (fun _ _ h => h) (fun _ h => h.elim) ?aF ?aB ?aS ?aL ?_
       (case aR => exact cO (Kd.C_below be.out HB.out))
       (case aB => exact (bP2 HB B D))
       (case aF => exact (fun _ _ => trivial))
       (case aO => exact (rP G))
       (case aS => exact (below_size (bP2 HB B D)))
       (case aL => have := bv.out; omega)
       intro ah bp ho hb hg hat; rw [← bh.out] at ho; replace z := kG z hg G; replace A := kG A hg G; replace I := aM (Kd.R_over' (rP I) (Kd.R_typed (rP G)) (by decide) hg); replace E := aM (Kd.R_over' (rP E) (Kd.R_typed (rP G)) (by decide) hg); replace HB := aM (hb); have V := aM (ho); clear G; clear ho hb hg hat; refine hK.out _ _ (bD4 z) (fun hHeld => ?_); clear hK K; refine nm_ 10 ?_; exact norm_ pO (aU (L, W, M, ah, P) _ ⟨hHeld, rQ I, rQ V, rQ E, kQ z, kQ A, bT2 HB B D⟩)
      ·refine lt_ (Kd.int .i64) 3 11 ([] : List Int) [] (Reps.none _ _) ?_; intro O bp au hb
       replace au := nW an au
       replace I := rB I hb; replace G := rB G hb; replace E := rB E hb; have F := rW au (bP2 HB B D); replace z := kB z hb; replace A := kB A hb; replace HB := hS2 HB B D hb; clear hb au; refine hK.out _ _ (bD4 z) (fun hHeld => ?_); clear hK K; refine nm_ 11 ?_; exact norm_ pO (ar (L, W, M, O, P) _ ⟨hHeld, rQ I, rQ G, rQ F, rQ E, kQ z, kQ A, bT2 HB B D⟩)
     intro aJ; refine join_ (σ := Value × Value × Value × Value) 6 (bl 18 30575) (fun s_ => [(3, s_.1), (6, s_.2.1), (11, s_.2.2.1), (15, s_.2.2.2)]) (fun s_ w' => (q_1 w') ∧ (RA Kd.string 9 w' w s_.2.1 ap) ∧ (RA (Kd.int .i64) 3 w' w s_.2.2.1 ad) ∧ (RA k73 73 w' w s_.2.2.2 ac) ∧ (q_2 w') ∧ (q_3 w') ∧ BA w w') ?_ ?_
     ·clear z A HB; rintro ⟨L, W, O, P⟩ aW ⟨hHeld, I, F, E, z, A, HB⟩; (try dsimp only at hHeld I F E z A HB); refine norm_ (a' := ?_) ?_ ?_; rotate_left
      ·simp only [putAll, Act.put, sA, sB, sC]
       rfl
      refine one_ (i := 4) (N := some 7) (bl 18 30591) rfl rfl (one_of HT_.out (by kernel_rfl)) (by decide) (fun K hK => ?_); refine lt_ Kd.bool 4 7 ([] : List Bool) [] (Reps.none _ _) ?_; intro M bp au hb
      replace au := nW aq au
      replace I := rB I hb; replace F := rB F hb; replace E := rB E hb; have G := rW au (bP2 HB B D); replace z := kB z hb; replace A := kB A hb; replace HB := hS2 HB B D hb; clear hb au; refine hK.out _ _ (bD4 z) (fun hHeld => ?_); clear hK K; refine nm_ 7 ?_; exact norm_ pO (ar (L, W, M, O, P) _ ⟨hHeld, rQ I, rQ G, rQ F, rQ E, kQ z, kQ A, bT2 HB B D⟩)
     intro aK; refine join_ (σ := Value × Value × Value × Value) 6 (bl 18 30583) (fun s_ => [(3, s_.1), (7, s_.2.1), (11, s_.2.2.1), (15, s_.2.2.2)]) (fun s_ w' => (q_1 w') ∧ (RA Kd.string 9 w' w s_.1 ag) ∧ (RA Kd.bool 4 w' w s_.2.1 ae) ∧ (RA (Kd.int .i64) 3 w' w s_.2.2.1 ad) ∧ (RA k73 73 w' w s_.2.2.2 ac) ∧ (q_2 w') ∧ (q_3 w') ∧ BA w w') ?_ ?_
     ·clear z A HB; rintro ⟨L, M, O, P⟩ bp ⟨hHeld, J, G, F, E, z, A, HB⟩; (try dsimp only at hHeld J G F E z A HB); refine norm_ (a' := ?_) ?_ ?_; rotate_left
      ·simp only [putAll, Act.put, sA, sB, sC]
       rfl
      refine one_ (i := 3) (N := some 6) (bl 18 30591) rfl rfl (one_of HT_.out (by kernel_rfl)) (by decide) (fun K hK => ?_); refine Kd.R_append_rows_step Kd.string (w0 := w) w.heap.size (by rfl) (.tmp 3) (.tmp 5) 22 9 (.string ⟨#[]⟩) 16 rfl Try.underlying22 info9 rfl (by decide) (by omega) L ag af _ _ _ (fun _ => True) (fun _ => False) rfl rfl ?aO ?aR (fun _ _ h => h) (fun _ h => h.elim) ?aF ?aB ?aS ?aL ?_
      (case aR => exact cO (Kd.C_below aC.out HB.out))
      (case aB => exact (bP2 HB B D))
      (case aF => exact (fun _ _ => trivial))
      (case aO => exact (rP J))
      (case aS => exact (below_size (bP2 HB B D)))
      (case aL => have := aN.out; omega)
      intro W bz ho hb hg hat; rw [← aE.out] at ho; replace z := kG z hg J; replace A := kG A hg J; replace G := aM (Kd.R_over' (rP G) (Kd.R_typed (rP J)) (by decide) hg); replace F := aM (Kd.R_over' (rP F) (Kd.R_typed (rP J)) (by decide) hg); replace E := aM (Kd.R_over' (rP E) (Kd.R_typed (rP J)) (by decide) hg); replace HB := aM (hb); have I := aM (ho); clear J; clear ho hb hg hat; refine hK.out _ _ (bD4 z) (fun hHeld => ?_); clear hK K; refine nm_ 6 ?_; exact norm_ pO (ar (L, W, M, O, P) _ ⟨hHeld, rQ I, rQ G, rQ F, rQ E, kQ z, kQ A, bT2 HB B D⟩)
     intro aA; refine join_ (σ := Value × Value × Value) 7 (bl 18 26239) (fun s_ => [(3, s_.1), (6, s_.2.1), (7, s_.2.2)]) (fun s_ w' => (q_1 w') ∧ (RA Kd.string 9 w' w s_.2.1 ap) ∧ (RA Kd.bool 4 w' w s_.2.2 ae) ∧ (q_2 w') ∧ (q_3 w') ∧ BA w w') ?_ ?_
     ·clear z A HB; rintro ⟨L, W, M⟩ ax ⟨hHeld, I, G, z, A, HB⟩; (try dsimp only at hHeld I G z A HB); refine norm_ (a' := ?_) ?_ ?_; rotate_left
      ·simp only [putAll, Act.put, sA, sB, sC]
       rfl
      refine three_ (i := 7) (j := 8) (k := 12) (Ni := some 10) (Nj := some 11) (Nk := some 15) (bl 18 26367) (bl 18 26495) (bl 18 30335) rfl rfl rfl rfl rfl rfl (three_of HT_.out (by kernel_rfl)) (by decide) (by decide) (by decide) (fun K hK => ?_) (fun K hK => ?_) (fun K hK => ?_)
      ·refine Kd.R_append_rows_step Kd.bool (w0 := w) w.heap.size (by rfl) (.tmp 7) (.tmp 9) 23 4 (.bool false) 1 rfl Try.underlying23 info4 rfl (by decide) (by omega) M ae ai _ _ _ (fun _ => True) (fun _ => False) rfl rfl ?aO ?aR (fun _ _ h => h) (fun _ h => h.elim) ?aF ?aB ?aS ?aL ?_
       (case aR => exact cO (Kd.C_below be.out HB.out))
       (case aB => exact (bP2 HB B D))
       (case aF => exact (fun _ _ => trivial))
       (case aO => exact (rP G))
       (case aS => exact (below_size (bP2 HB B D)))
       (case aL => have := bv.out; omega)
       intro ah aV ho hb hg hat; rw [← bh.out] at ho; replace z := kG z hg G; replace A := kG A hg G; replace I := aM (Kd.R_over' (rP I) (Kd.R_typed (rP G)) (by decide) hg); replace HB := aM (hb); have V := aM (ho); clear G; clear ho hb hg hat; refine hK.out _ _ (bD4 z) (fun hHeld => ?_); clear hK K; refine nm_ 10 ?_; exact norm_ pO (bA (L, W, M, ah) _ ⟨hHeld, rQ I, rQ V, kQ z, kQ A, bT2 HB B D⟩)
      ·refine lt_ (Kd.int .i64) 3 11 ([] : List Int) [] (Reps.none _ _) ?_; intro O aV aa hb
       replace aa := nW an aa
       replace I := rB I hb; replace G := rB G hb; have F := rW aa (bP2 HB B D); replace z := kB z hb; replace A := kB A hb; replace HB := hS2 HB B D hb; clear hb aa; refine hK.out _ _ (bD4 z) (fun hHeld => ?_); clear hK K; refine nm_ 11 ?_; exact norm_ pO (aX (L, W, M, O) _ ⟨hHeld, rQ I, rQ G, rQ F, kQ z, kQ A, bT2 HB B D⟩)
      ·refine lt_ k73 73 15 ([] : List (S73)) [] (Reps.none _ _) ?_; intro P aV aa hb
       replace aa := nW ak aa
       replace I := rB I hb; replace G := rB G hb; have E := rW aa (bP2 HB B D); replace z := kB z hb; replace A := kB A hb; replace HB := hS2 HB B D hb; clear hb aa; refine hK.out _ _ (bD4 z) (fun hHeld => ?_); clear hK K; refine nm_ 15 ?_; exact norm_ pO (aJ (L, W, M, P) _ ⟨hHeld, rQ I, rQ G, rQ E, kQ z, kQ A, bT2 HB B D⟩)
     intro br; refine join_ (σ := Value × Value × Value) 7 (bl 18 26479) (fun s_ => [(3, s_.1), (6, s_.2.1), (11, s_.2.2)]) (fun s_ w' => (q_1 w') ∧ (RA Kd.string 9 w' w s_.2.1 ap) ∧ (RA (Kd.int .i64) 3 w' w s_.2.2 ad) ∧ (q_2 w') ∧ (q_3 w') ∧ BA w w') ?_ ?_
     ·clear z A HB; rintro ⟨L, W, O⟩ ax ⟨hHeld, I, F, z, A, HB⟩; (try dsimp only at hHeld I F z A HB); refine norm_ (a' := ?_) ?_ ?_; rotate_left
      ·simp only [putAll, Act.put, sA, sB, sC]
       rfl
      refine two_ (i := 4) (j := 12) (Ni := some 7) (Nj := some 15) (bl 18 26495) (bl 18 30575) rfl rfl rfl rfl (two_of HT_.out (by kernel_rfl)) (by decide) (by decide) (fun K hK => ?_) (fun K hK => ?_)
      ·refine lt_ Kd.bool 4 7 ([] : List Bool) [] (Reps.none _ _) ?_; intro M aV aa hb
       replace aa := nW aq aa
       replace I := rB I hb; replace F := rB F hb; have G := rW aa (bP2 HB B D); replace z := kB z hb; replace A := kB A hb; replace HB := hS2 HB B D hb; clear hb aa; refine hK.out _ _ (bD4 z) (fun hHeld => ?_); clear hK K; refine nm_ 7 ?_; exact norm_ pO (aX (L, W, M, O) _ ⟨hHeld, rQ I, rQ G, rQ F, kQ z, kQ A, bT2 HB B D⟩)
      ·refine lt_ k73 73 15 ([] : List (S73)) [] (Reps.none _ _) ?_; intro P aV aa hb
       replace aa := nW ak aa
       replace I := rB I hb; replace F := rB F hb; have E := rW aa (bP2 HB B D); replace z := kB z hb; replace A := kB A hb; replace HB := hS2 HB B D hb; clear hb aa; refine hK.out _ _ (bD4 z) (fun hHeld => ?_); clear hK K; refine nm_ 15 ?_; exact norm_ pO (aK (L, W, O, P) _ ⟨hHeld, rQ I, rQ F, rQ E, kQ z, kQ A, bT2 HB B D⟩)
     intro bs; refine join_ (σ := Value × Value × Value) 7 (bl 18 30319) (fun s_ => [(3, s_.1), (6, s_.2.1), (15, s_.2.2)]) (fun s_ w' => (q_1 w') ∧ (RA Kd.string 9 w' w s_.2.1 ap) ∧ (RA k73 73 w' w s_.2.2 ac) ∧ (q_2 w') ∧ (q_3 w') ∧ BA w w') ?_ ?_
     ·clear z A HB; rintro ⟨L, W, P⟩ ax ⟨hHeld, I, E, z, A, HB⟩; (try dsimp only at hHeld I E z A HB); refine norm_ (a' := ?_) ?_ ?_; rotate_left
      ·simp only [putAll, Act.put, sA, sB, sC]
       rfl
      refine two_ (i := 4) (j := 8) (Ni := some 7) (Nj := some 11) (bl 18 30335) (bl 18 30575) rfl rfl rfl rfl (two_of HT_.out (by kernel_rfl)) (by decide) (by decide) (fun K hK => ?_) (fun K hK => ?_)
      ·refine lt_ Kd.bool 4 7 ([] : List Bool) [] (Reps.none _ _) ?_; intro M aV aa hb
       replace aa := nW aq aa
       replace I := rB I hb; replace E := rB E hb; have G := rW aa (bP2 HB B D); replace z := kB z hb; replace A := kB A hb; replace HB := hS2 HB B D hb; clear hb aa; refine hK.out _ _ (bD4 z) (fun hHeld => ?_); clear hK K; refine nm_ 7 ?_; exact norm_ pO (aJ (L, W, M, P) _ ⟨hHeld, rQ I, rQ G, rQ E, kQ z, kQ A, bT2 HB B D⟩)
      ·refine lt_ (Kd.int .i64) 3 11 ([] : List Int) [] (Reps.none _ _) ?_; intro O aV aa hb
       replace aa := nW an aa
       replace I := rB I hb; replace E := rB E hb; have F := rW aa (bP2 HB B D); replace z := kB z hb; replace A := kB A hb; replace HB := hS2 HB B D hb; clear hb aa; refine hK.out _ _ (bD4 z) (fun hHeld => ?_); clear hK K; refine nm_ 11 ?_; exact norm_ pO (aK (L, W, O, P) _ ⟨hHeld, rQ I, rQ F, rQ E, kQ z, kQ A, bT2 HB B D⟩)
     intro bq; refine join_ (σ := Value × Value × Value) 7 (bl 18 26487) (fun s_ => [(3, s_.1), (7, s_.2.1), (11, s_.2.2)]) (fun s_ w' => (q_1 w') ∧ (RA Kd.string 9 w' w s_.1 ag) ∧ (RA Kd.bool 4 w' w s_.2.1 ae) ∧ (RA (Kd.int .i64) 3 w' w s_.2.2 ad) ∧ (q_2 w') ∧ (q_3 w') ∧ BA w w') ?_ ?_
     ·clear z A HB; rintro ⟨L, M, O⟩ aV ⟨hHeld, J, G, F, z, A, HB⟩; (try dsimp only at hHeld J G F z A HB); refine norm_ (a' := ?_) ?_ ?_; rotate_left
      ·simp only [putAll, Act.put, sA, sB, sC]
       rfl
      refine two_ (i := 3) (j := 12) (Ni := some 6) (Nj := some 15) (bl 18 26495) (bl 18 30583) rfl rfl rfl rfl (two_of HT_.out (by kernel_rfl)) (by decide) (by decide) (fun K hK => ?_) (fun K hK => ?_)
      ·refine Kd.R_append_rows_step Kd.string (w0 := w) w.heap.size (by rfl) (.tmp 3) (.tmp 5) 22 9 (.string ⟨#[]⟩) 16 rfl Try.underlying22 info9 rfl (by decide) (by omega) L ag af _ _ _ (fun _ => True) (fun _ => False) rfl rfl ?aO ?aR (fun _ _ h => h) (fun _ h => h.elim) ?aF ?aB ?aS ?aL ?_
       (case aR => exact cO (Kd.C_below aC.out HB.out))
       (case aB => exact (bP2 HB B D))
       (case aF => exact (fun _ _ => trivial))
       (case aO => exact (rP J))
       (case aS => exact (below_size (bP2 HB B D)))
       (case aL => have := aN.out; omega)
       intro W aW ho hb hg hat; rw [← aE.out] at ho; replace z := kG z hg J; replace A := kG A hg J; replace G := aM (Kd.R_over' (rP G) (Kd.R_typed (rP J)) (by decide) hg); replace F := aM (Kd.R_over' (rP F) (Kd.R_typed (rP J)) (by decide) hg); replace HB := aM (hb); have I := aM (ho); clear J; clear ho hb hg hat; refine hK.out _ _ (bD4 z) (fun hHeld => ?_); clear hK K; refine nm_ 6 ?_; exact norm_ pO (aX (L, W, M, O) _ ⟨hHeld, rQ I, rQ G, rQ F, kQ z, kQ A, bT2 HB B D⟩)
      ·refine lt_ k73 73 15 ([] : List (S73)) [] (Reps.none _ _) ?_; intro P aW Z hb
       replace Z := nW ak Z
       replace J := rB J hb; replace G := rB G hb; replace F := rB F hb; have E := rW Z (bP2 HB B D); replace z := kB z hb; replace A := kB A hb; replace HB := hS2 HB B D hb; clear hb Z; refine hK.out _ _ (bD4 z) (fun hHeld => ?_); clear hK K; refine nm_ 15 ?_; exact norm_ pO (aA (L, M, O, P) _ ⟨hHeld, rQ J, rQ G, rQ F, rQ E, kQ z, kQ A, bT2 HB B D⟩)
     intro bc; refine join_ (σ := Value × Value × Value) 7 (bl 18 30327) (fun s_ => [(3, s_.1), (7, s_.2.1), (15, s_.2.2)]) (fun s_ w' => (q_1 w') ∧ (RA Kd.string 9 w' w s_.1 ag) ∧ (RA Kd.bool 4 w' w s_.2.1 ae) ∧ (RA k73 73 w' w s_.2.2 ac) ∧ (q_2 w') ∧ (q_3 w') ∧ BA w w') ?_ ?_
     ·clear z A HB; rintro ⟨L, M, P⟩ aV ⟨hHeld, J, G, E, z, A, HB⟩; (try dsimp only at hHeld J G E z A HB); refine norm_ (a' := ?_) ?_ ?_; rotate_left
      ·simp only [putAll, Act.put, sA, sB, sC]
       rfl
      refine two_ (i := 3) (j := 8) (Ni := some 6) (Nj := some 11) (bl 18 30335) (bl 18 30583) rfl rfl rfl rfl (two_of HT_.out (by kernel_rfl)) (by decide) (by decide) (fun K hK => ?_) (fun K hK => ?_)
      ·refine Kd.R_append_rows_step Kd.string (w0 := w) w.heap.size (by rfl) (.tmp 3) (.tmp 5) 22 9 (.string ⟨#[]⟩) 16 rfl Try.underlying22 info9 rfl (by decide) (by omega) L ag af _ _ _ (fun _ => True) (fun _ => False) rfl rfl ?aO ?aR (fun _ _ h => h) (fun _ h => h.elim) ?aF ?aB ?aS ?aL ?_
       (case aR => exact cO (Kd.C_below aC.out HB.out))
       (case aB => exact (bP2 HB B D))
       (case aF => exact (fun _ _ => trivial))
       (case aO => exact (rP J))
       (case aS => exact (below_size (bP2 HB B D)))
       (case aL => have := aN.out; omega)
       intro W aW ho hb hg hat; rw [← aE.out] at ho; replace z := kG z hg J; replace A := kG A hg J; replace G := aM (Kd.R_over' (rP G) (Kd.R_typed (rP J)) (by decide) hg); replace E := aM (Kd.R_over' (rP E) (Kd.R_typed (rP J)) (by decide) hg); replace HB := aM (hb); have I := aM (ho); clear J; clear ho hb hg hat; refine hK.out _ _ (bD4 z) (fun hHeld => ?_); clear hK K; refine nm_ 6 ?_; exact norm_ pO (aJ (L, W, M, P) _ ⟨hHeld, rQ I, rQ G, rQ E, kQ z, kQ A, bT2 HB B D⟩)
      ·refine lt_ (Kd.int .i64) 3 11 ([] : List Int) [] (Reps.none _ _) ?_; intro O aW Z hb
       replace Z := nW an Z
       replace J := rB J hb; replace G := rB G hb; replace E := rB E hb; have F := rW Z (bP2 HB B D); replace z := kB z hb; replace A := kB A hb; replace HB := hS2 HB B D hb; clear hb Z; refine hK.out _ _ (bD4 z) (fun hHeld => ?_); clear hK K; refine nm_ 11 ?_; exact norm_ pO (aA (L, M, O, P) _ ⟨hHeld, rQ J, rQ G, rQ F, rQ E, kQ z, kQ A, bT2 HB B D⟩)
     intro aZ; refine join_ (σ := Value × Value × Value) 7 (bl 18 30567) (fun s_ => [(3, s_.1), (11, s_.2.1), (15, s_.2.2)]) (fun s_ w' => (q_1 w') ∧ (RA Kd.string 9 w' w s_.1 ag) ∧ (RA (Kd.int .i64) 3 w' w s_.2.1 ad) ∧ (RA k73 73 w' w s_.2.2 ac) ∧ (q_2 w') ∧ (q_3 w') ∧ BA w w') ?_ ?_
     ·clear z A HB; rintro ⟨L, O, P⟩ aV ⟨hHeld, J, F, E, z, A, HB⟩; (try dsimp only at hHeld J F E z A HB); refine norm_ (a' := ?_) ?_ ?_; rotate_left
      ·simp only [putAll, Act.put, sA, sB, sC]
       rfl
      refine two_ (i := 3) (j := 4) (Ni := some 6) (Nj := some 7) (bl 18 30575) (bl 18 30583) rfl rfl rfl rfl (two_of HT_.out (by kernel_rfl)) (by decide) (by decide) (fun K hK => ?_) (fun K hK => ?_)
      ·refine Kd.R_append_rows_step Kd.string (w0 := w) w.heap.size (by rfl) (.tmp 3) (.tmp 5) 22 9 (.string ⟨#[]⟩) 16 rfl Try.underlying22 info9 rfl (by decide) (by omega) L ag af _ _ _ (fun _ => True) (fun _ => False) rfl rfl ?aO ?aR (fun _ _ h => h) (fun _ h => h.elim) ?aF ?aB ?aS ?aL ?_
       (case aR => exact cO (Kd.C_below aC.out HB.out))
       (case aB => exact (bP2 HB B D))
       (case aF => exact (fun _ _ => trivial))
       (case aO => exact (rP J))
       (case aS => exact (below_size (bP2 HB B D)))
       (case aL => have := aN.out; omega)
       intro W aW ho hb hg hat; rw [← aE.out] at ho; replace z := kG z hg J; replace A := kG A hg J; replace F := aM (Kd.R_over' (rP F) (Kd.R_typed (rP J)) (by decide) hg); replace E := aM (Kd.R_over' (rP E) (Kd.R_typed (rP J)) (by decide) hg); replace HB := aM (hb); have I := aM (ho); clear J; clear ho hb hg hat; refine hK.out _ _ (bD4 z) (fun hHeld => ?_); clear hK K; refine nm_ 6 ?_; exact norm_ pO (aK (L, W, O, P) _ ⟨hHeld, rQ I, rQ F, rQ E, kQ z, kQ A, bT2 HB B D⟩)
      ·refine lt_ Kd.bool 4 7 ([] : List Bool) [] (Reps.none _ _) ?_; intro M aW Z hb
       replace Z := nW aq Z
       replace J := rB J hb; replace F := rB F hb; replace E := rB E hb; have G := rW Z (bP2 HB B D); replace z := kB z hb; replace A := kB A hb; replace HB := hS2 HB B D hb; clear hb Z; refine hK.out _ _ (bD4 z) (fun hHeld => ?_); clear hK K; refine nm_ 7 ?_; exact norm_ pO (aA (L, M, O, P) _ ⟨hHeld, rQ J, rQ G, rQ F, rQ E, kQ z, kQ A, bT2 HB B D⟩)
     intro a0; refine join_ (σ := Value × Value × Value) 7 (bl 18 30582) (fun s_ => [(7, s_.1), (11, s_.2.1), (15, s_.2.2)]) (fun s_ w' => (q_1 w') ∧ (RA Kd.bool 4 w' w s_.1 ae) ∧ (RA (Kd.int .i64) 3 w' w s_.2.1 ad) ∧ (RA k73 73 w' w s_.2.2 ac) ∧ (q_2 w') ∧ (q_3 w') ∧ BA w w') ?_ ?_
     ·clear z A HB; rintro ⟨M, O, P⟩ aV ⟨hHeld, G, F, E, z, A, HB⟩; (try dsimp only at hHeld G F E z A HB); refine norm_ (a' := ?_) ?_ ?_; rotate_left
      ·simp only [putAll, Act.put, sA, sB, sC]
       rfl
      refine one_ (i := 0) (N := some 3) (bl 18 30583) rfl rfl (one_of HT_.out (by kernel_rfl)) (by decide) (fun K hK => ?_); refine lt_ Kd.string 9 3 ([] : List ByteArray) [] (Reps.none _ _) ?_; intro L aW Z hb
      replace Z := nW aD Z
      replace G := rB G hb; replace F := rB F hb; replace E := rB E hb; have J := rW Z (bP2 HB B D); replace z := kB z hb; replace A := kB A hb; replace HB := hS2 HB B D hb; clear hb Z; refine hK.out _ _ (bD4 z) (fun hHeld => ?_); clear hK K; refine nm_ 3 ?_; exact norm_ pO (aA (L, M, O, P) _ ⟨hHeld, rQ J, rQ G, rQ F, rQ E, kQ z, kQ A, bT2 HB B D⟩)
     intro a1; refine join_ (σ := Value × Value) 8 (bl 18 26223) (fun s_ => [(3, s_.1), (6, s_.2)]) (fun s_ w' => (q_1 w') ∧ (RA Kd.string 9 w' w s_.2 ap) ∧ (q_2 w') ∧ (q_3 w') ∧ BA w w') ?_ ?_
     ·clear z A HB; rintro ⟨L, W⟩ aH ⟨hHeld, I, z, A, HB⟩; (try dsimp only at hHeld I z A HB); refine norm_ (a' := ?_) ?_ ?_; rotate_left
      ·simp only [putAll, Act.put, sA, sB, sC]
       rfl
      refine three_ (i := 4) (j := 8) (k := 12) (Ni := some 7) (Nj := some 11) (Nk := some 15) (bl 18 26239) (bl 18 26479) (bl 18 30319) rfl rfl rfl rfl rfl rfl (three_of HT_.out (by kernel_rfl)) (by decide) (by decide) (by decide) (fun K hK => ?_) (fun K hK => ?_) (fun K hK => ?_)
      ·refine lt_ Kd.bool 4 7 ([] : List Bool) [] (Reps.none _ _) ?_; intro M bd av hb
       replace av := nW aq av
       replace I := rB I hb; have G := rW av (bP2 HB B D); replace z := kB z hb; replace A := kB A hb; replace HB := hS2 HB B D hb; clear hb av; refine hK.out _ _ (bD4 z) (fun hHeld => ?_); clear hK K; refine nm_ 7 ?_; exact norm_ pO (br (L, W, M) _ ⟨hHeld, rQ I, rQ G, kQ z, kQ A, bT2 HB B D⟩)
      ·refine lt_ (Kd.int .i64) 3 11 ([] : List Int) [] (Reps.none _ _) ?_; intro O bd av hb
       replace av := nW an av
       replace I := rB I hb; have F := rW av (bP2 HB B D); replace z := kB z hb; replace A := kB A hb; replace HB := hS2 HB B D hb; clear hb av; refine hK.out _ _ (bD4 z) (fun hHeld => ?_); clear hK K; refine nm_ 11 ?_; exact norm_ pO (bs (L, W, O) _ ⟨hHeld, rQ I, rQ F, kQ z, kQ A, bT2 HB B D⟩)
      ·refine lt_ k73 73 15 ([] : List (S73)) [] (Reps.none _ _) ?_; intro P bd av hb
       replace av := nW ak av
       replace I := rB I hb; have E := rW av (bP2 HB B D); replace z := kB z hb; replace A := kB A hb; replace HB := hS2 HB B D hb; clear hb av; refine hK.out _ _ (bD4 z) (fun hHeld => ?_); clear hK K; refine nm_ 15 ?_; exact norm_ pO (bq (L, W, P) _ ⟨hHeld, rQ I, rQ E, kQ z, kQ A, bT2 HB B D⟩)
     intro ca; refine join_ (σ := Value × Value) 8 (bl 18 26231) (fun s_ => [(3, s_.1), (7, s_.2)]) (fun s_ w' => (q_1 w') ∧ (RA Kd.string 9 w' w s_.1 ag) ∧ (RA Kd.bool 4 w' w s_.2 ae) ∧ (q_2 w') ∧ (q_3 w') ∧ BA w w') ?_ ?_
     ·clear z A HB; rintro ⟨L, M⟩ bd ⟨hHeld, J, G, z, A, HB⟩; (try dsimp only at hHeld J G z A HB); refine norm_ (a' := ?_) ?_ ?_; rotate_left
      ·simp only [putAll, Act.put, sA, sB, sC]
       rfl
      refine three_ (i := 3) (j := 8) (k := 12) (Ni := some 6) (Nj := some 11) (Nk := some 15) (bl 18 26239) (bl 18 26487) (bl 18 30327) rfl rfl rfl rfl rfl rfl (three_of HT_.out (by kernel_rfl)) (by decide) (by decide) (by decide) (fun K hK => ?_) (fun K hK => ?_) (fun K hK => ?_)
      ·refine Kd.R_append_rows_step Kd.string (w0 := w) w.heap.size (by rfl) (.tmp 3) (.tmp 5) 22 9 (.string ⟨#[]⟩) 16 rfl Try.underlying22 info9 rfl (by decide) (by omega) L ag af _ _ _ (fun _ => True) (fun _ => False) rfl rfl ?aO ?aR (fun _ _ h => h) (fun _ h => h.elim) ?aF ?aB ?aS ?aL ?_
       (case aR => exact cO (Kd.C_below aC.out HB.out))
       (case aB => exact (bP2 HB B D))
       (case aF => exact (fun _ _ => trivial))
       (case aO => exact (rP J))
       (case aS => exact (below_size (bP2 HB B D)))
       (case aL => have := aN.out; omega)
       intro W ax ho hb hg hat; rw [← aE.out] at ho; replace z := kG z hg J; replace A := kG A hg J; replace G := aM (Kd.R_over' (rP G) (Kd.R_typed (rP J)) (by decide) hg); replace HB := aM (hb); have I := aM (ho); clear J; clear ho hb hg hat; refine hK.out _ _ (bD4 z) (fun hHeld => ?_); clear hK K; refine nm_ 6 ?_; exact norm_ pO (br (L, W, M) _ ⟨hHeld, rQ I, rQ G, kQ z, kQ A, bT2 HB B D⟩)
      ·refine lt_ (Kd.int .i64) 3 11 ([] : List Int) [] (Reps.none _ _) ?_; intro O ax Q hb
       replace Q := nW an Q
       replace J := rB J hb; replace G := rB G hb; have F := rW Q (bP2 HB B D); replace z := kB z hb; replace A := kB A hb; replace HB := hS2 HB B D hb; clear hb Q; refine hK.out _ _ (bD4 z) (fun hHeld => ?_); clear hK K; refine nm_ 11 ?_; exact norm_ pO (bc (L, M, O) _ ⟨hHeld, rQ J, rQ G, rQ F, kQ z, kQ A, bT2 HB B D⟩)
      ·refine lt_ k73 73 15 ([] : List (S73)) [] (Reps.none _ _) ?_; intro P ax Q hb
       replace Q := nW ak Q
       replace J := rB J hb; replace G := rB G hb; have E := rW Q (bP2 HB B D); replace z := kB z hb; replace A := kB A hb; replace HB := hS2 HB B D hb; clear hb Q; refine hK.out _ _ (bD4 z) (fun hHeld => ?_); clear hK K; refine nm_ 15 ?_; exact norm_ pO (aZ (L, M, P) _ ⟨hHeld, rQ J, rQ G, rQ E, kQ z, kQ A, bT2 HB B D⟩)
     intro bR; refine join_ (σ := Value × Value) 8 (bl 18 26471) (fun s_ => [(3, s_.1), (11, s_.2)]) (fun s_ w' => (q_1 w') ∧ (RA Kd.string 9 w' w s_.1 ag) ∧ (RA (Kd.int .i64) 3 w' w s_.2 ad) ∧ (q_2 w') ∧ (q_3 w') ∧ BA w w') ?_ ?_
     ·clear z A HB; rintro ⟨L, O⟩ bd ⟨hHeld, J, F, z, A, HB⟩; (try dsimp only at hHeld J F z A HB); refine norm_ (a' := ?_) ?_ ?_; rotate_left
      ·simp only [putAll, Act.put, sA, sB, sC]
       rfl
      refine three_ (i := 3) (j := 4) (k := 12) (Ni := some 6) (Nj := some 7) (Nk := some 15) (bl 18 26479) (bl 18 26487) (bl 18 30567) rfl rfl rfl rfl rfl rfl (three_of HT_.out (by kernel_rfl)) (by decide) (by decide) (by decide) (fun K hK => ?_) (fun K hK => ?_) (fun K hK => ?_)
      ·refine Kd.R_append_rows_step Kd.string (w0 := w) w.heap.size (by rfl) (.tmp 3) (.tmp 5) 22 9 (.string ⟨#[]⟩) 16 rfl Try.underlying22 info9 rfl (by decide) (by omega) L ag af _ _ _ (fun _ => True) (fun _ => False) rfl rfl ?aO ?aR (fun _ _ h => h) (fun _ h => h.elim) ?aF ?aB ?aS ?aL ?_
       (case aR => exact cO (Kd.C_below aC.out HB.out))
       (case aB => exact (bP2 HB B D))
       (case aF => exact (fun _ _ => trivial))
       (case aO => exact (rP J))
       (case aS => exact (below_size (bP2 HB B D)))
       (case aL => have := aN.out; omega)
       intro W ax ho hb hg hat; rw [← aE.out] at ho; replace z := kG z hg J; replace A := kG A hg J; replace F := aM (Kd.R_over' (rP F) (Kd.R_typed (rP J)) (by decide) hg); replace HB := aM (hb); have I := aM (ho); clear J; clear ho hb hg hat; refine hK.out _ _ (bD4 z) (fun hHeld => ?_); clear hK K; refine nm_ 6 ?_; exact norm_ pO (bs (L, W, O) _ ⟨hHeld, rQ I, rQ F, kQ z, kQ A, bT2 HB B D⟩)
      ·refine lt_ Kd.bool 4 7 ([] : List Bool) [] (Reps.none _ _) ?_; intro M ax Q hb
       replace Q := nW aq Q
       replace J := rB J hb; replace F := rB F hb; have G := rW Q (bP2 HB B D); replace z := kB z hb; replace A := kB A hb; replace HB := hS2 HB B D hb; clear hb Q; refine hK.out _ _ (bD4 z) (fun hHeld => ?_); clear hK K; refine nm_ 7 ?_; exact norm_ pO (bc (L, M, O) _ ⟨hHeld, rQ J, rQ G, rQ F, kQ z, kQ A, bT2 HB B D⟩)
      ·refine lt_ k73 73 15 ([] : List (S73)) [] (Reps.none _ _) ?_; intro P ax Q hb
       replace Q := nW ak Q
       replace J := rB J hb; replace F := rB F hb; have E := rW Q (bP2 HB B D); replace z := kB z hb; replace A := kB A hb; replace HB := hS2 HB B D hb; clear hb Q; refine hK.out _ _ (bD4 z) (fun hHeld => ?_); clear hK K; refine nm_ 15 ?_; exact norm_ pO (a0 (L, O, P) _ ⟨hHeld, rQ J, rQ F, rQ E, kQ z, kQ A, bT2 HB B D⟩)
     intro bS; refine join_ (σ := Value × Value) 8 (bl 18 30311) (fun s_ => [(3, s_.1), (15, s_.2)]) (fun s_ w' => (q_1 w') ∧ (RA Kd.string 9 w' w s_.1 ag) ∧ (RA k73 73 w' w s_.2 ac) ∧ (q_2 w') ∧ (q_3 w') ∧ BA w w') ?_ ?_
     ·clear z A HB; rintro ⟨L, P⟩ bd ⟨hHeld, J, E, z, A, HB⟩; (try dsimp only at hHeld J E z A HB); refine norm_ (a' := ?_) ?_ ?_; rotate_left
      ·simp only [putAll, Act.put, sA, sB, sC]
       rfl
      refine three_ (i := 3) (j := 4) (k := 8) (Ni := some 6) (Nj := some 7) (Nk := some 11) (bl 18 30319) (bl 18 30327) (bl 18 30567) rfl rfl rfl rfl rfl rfl (three_of HT_.out (by kernel_rfl)) (by decide) (by decide) (by decide) (fun K hK => ?_) (fun K hK => ?_) (fun K hK => ?_)
      ·refine Kd.R_append_rows_step Kd.string (w0 := w) w.heap.size (by rfl) (.tmp 3) (.tmp 5) 22 9 (.string ⟨#[]⟩) 16 rfl Try.underlying22 info9 rfl (by decide) (by omega) L ag af _ _ _ (fun _ => True) (fun _ => False) rfl rfl ?aO ?aR (fun _ _ h => h) (fun _ h => h.elim) ?aF ?aB ?aS ?aL ?_
       (case aR => exact cO (Kd.C_below aC.out HB.out))
       (case aB => exact (bP2 HB B D))
       (case aF => exact (fun _ _ => trivial))
       (case aO => exact (rP J))
       (case aS => exact (below_size (bP2 HB B D)))
       (case aL => have := aN.out; omega)
       intro W ax ho hb hg hat; rw [← aE.out] at ho; replace z := kG z hg J; replace A := kG A hg J; replace E := aM (Kd.R_over' (rP E) (Kd.R_typed (rP J)) (by decide) hg); replace HB := aM (hb); have I := aM (ho); clear J; clear ho hb hg hat; refine hK.out _ _ (bD4 z) (fun hHeld => ?_); clear hK K; refine nm_ 6 ?_; exact norm_ pO (bq (L, W, P) _ ⟨hHeld, rQ I, rQ E, kQ z, kQ A, bT2 HB B D⟩)
      ·refine lt_ Kd.bool 4 7 ([] : List Bool) [] (Reps.none _ _) ?_; intro M ax Q hb
       replace Q := nW aq Q
       replace J := rB J hb; replace E := rB E hb; have G := rW Q (bP2 HB B D); replace z := kB z hb; replace A := kB A hb; replace HB := hS2 HB B D hb; clear hb Q; refine hK.out _ _ (bD4 z) (fun hHeld => ?_); clear hK K; refine nm_ 7 ?_; exact norm_ pO (aZ (L, M, P) _ ⟨hHeld, rQ J, rQ G, rQ E, kQ z, kQ A, bT2 HB B D⟩)
      ·refine lt_ (Kd.int .i64) 3 11 ([] : List Int) [] (Reps.none _ _) ?_; intro O ax Q hb
       replace Q := nW an Q
       replace J := rB J hb; replace E := rB E hb; have F := rW Q (bP2 HB B D); replace z := kB z hb; replace A := kB A hb; replace HB := hS2 HB B D hb; clear hb Q; refine hK.out _ _ (bD4 z) (fun hHeld => ?_); clear hK K; refine nm_ 11 ?_; exact norm_ pO (a0 (L, O, P) _ ⟨hHeld, rQ J, rQ F, rQ E, kQ z, kQ A, bT2 HB B D⟩)
     intro bB; refine join_ (σ := Value × Value) 8 (bl 18 26486) (fun s_ => [(7, s_.1), (11, s_.2)]) (fun s_ w' => (q_1 w') ∧ (RA Kd.bool 4 w' w s_.1 ae) ∧ (RA (Kd.int .i64) 3 w' w s_.2 ad) ∧ (q_2 w') ∧ (q_3 w') ∧ BA w w') ?_ ?_
     ·clear z A HB; rintro ⟨M, O⟩ bd ⟨hHeld, G, F, z, A, HB⟩; (try dsimp only at hHeld G F z A HB); refine norm_ (a' := ?_) ?_ ?_; rotate_left
      ·simp only [putAll, Act.put, sA, sB, sC]
       rfl
      refine two_ (i := 0) (j := 12) (Ni := some 3) (Nj := some 15) (bl 18 26487) (bl 18 30582) rfl rfl rfl rfl (two_of HT_.out (by kernel_rfl)) (by decide) (by decide) (fun K hK => ?_) (fun K hK => ?_)
      ·refine lt_ Kd.string 9 3 ([] : List ByteArray) [] (Reps.none _ _) ?_; intro L ax Q hb
       replace Q := nW aD Q
       replace G := rB G hb; replace F := rB F hb; have J := rW Q (bP2 HB B D); replace z := kB z hb; replace A := kB A hb; replace HB := hS2 HB B D hb; clear hb Q; refine hK.out _ _ (bD4 z) (fun hHeld => ?_); clear hK K; refine nm_ 3 ?_; exact norm_ pO (bc (L, M, O) _ ⟨hHeld, rQ J, rQ G, rQ F, kQ z, kQ A, bT2 HB B D⟩)
      ·refine lt_ k73 73 15 ([] : List (S73)) [] (Reps.none _ _) ?_; intro P ax Q hb
       replace Q := nW ak Q
       replace G := rB G hb; replace F := rB F hb; have E := rW Q (bP2 HB B D); replace z := kB z hb; replace A := kB A hb; replace HB := hS2 HB B D hb; clear hb Q; refine hK.out _ _ (bD4 z) (fun hHeld => ?_); clear hK K; refine nm_ 15 ?_; exact norm_ pO (a1 (M, O, P) _ ⟨hHeld, rQ G, rQ F, rQ E, kQ z, kQ A, bT2 HB B D⟩)
     intro bT; refine join_ (σ := Value × Value) 8 (bl 18 30326) (fun s_ => [(7, s_.1), (15, s_.2)]) (fun s_ w' => (q_1 w') ∧ (RA Kd.bool 4 w' w s_.1 ae) ∧ (RA k73 73 w' w s_.2 ac) ∧ (q_2 w') ∧ (q_3 w') ∧ BA w w') ?_ ?_
     ·clear z A HB; rintro ⟨M, P⟩ bd ⟨hHeld, G, E, z, A, HB⟩; (try dsimp only at hHeld G E z A HB); refine norm_ (a' := ?_) ?_ ?_; rotate_left
      ·simp only [putAll, Act.put, sA, sB, sC]
       rfl
      refine two_ (i := 0) (j := 8) (Ni := some 3) (Nj := some 11) (bl 18 30327) (bl 18 30582) rfl rfl rfl rfl (two_of HT_.out (by kernel_rfl)) (by decide) (by decide) (fun K hK => ?_) (fun K hK => ?_)
      ·refine lt_ Kd.string 9 3 ([] : List ByteArray) [] (Reps.none _ _) ?_; intro L ax Q hb
       replace Q := nW aD Q
       replace G := rB G hb; replace E := rB E hb; have J := rW Q (bP2 HB B D); replace z := kB z hb; replace A := kB A hb; replace HB := hS2 HB B D hb; clear hb Q; refine hK.out _ _ (bD4 z) (fun hHeld => ?_); clear hK K; refine nm_ 3 ?_; exact norm_ pO (aZ (L, M, P) _ ⟨hHeld, rQ J, rQ G, rQ E, kQ z, kQ A, bT2 HB B D⟩)
      ·refine lt_ (Kd.int .i64) 3 11 ([] : List Int) [] (Reps.none _ _) ?_; intro O ax Q hb
       replace Q := nW an Q
       replace G := rB G hb; replace E := rB E hb; have F := rW Q (bP2 HB B D); replace z := kB z hb; replace A := kB A hb; replace HB := hS2 HB B D hb; clear hb Q; refine hK.out _ _ (bD4 z) (fun hHeld => ?_); clear hK K; refine nm_ 11 ?_; exact norm_ pO (a1 (M, O, P) _ ⟨hHeld, rQ G, rQ F, rQ E, kQ z, kQ A, bT2 HB B D⟩)
     intro bC; refine join_ (σ := Value × Value) 8 (bl 18 30566) (fun s_ => [(11, s_.1), (15, s_.2)]) (fun s_ w' => (q_1 w') ∧ (RA (Kd.int .i64) 3 w' w s_.1 ad) ∧ (RA k73 73 w' w s_.2 ac) ∧ (q_2 w') ∧ (q_3 w') ∧ BA w w') ?_ ?_
     ·clear z A HB; rintro ⟨O, P⟩ bd ⟨hHeld, F, E, z, A, HB⟩; (try dsimp only at hHeld F E z A HB); refine norm_ (a' := ?_) ?_ ?_; rotate_left
      ·simp only [putAll, Act.put, sA, sB, sC]
       rfl
      refine two_ (i := 0) (j := 4) (Ni := some 3) (Nj := some 7) (bl 18 30567) (bl 18 30582) rfl rfl rfl rfl (two_of HT_.out (by kernel_rfl)) (by decide) (by decide) (fun K hK => ?_) (fun K hK => ?_)
      ·refine lt_ Kd.string 9 3 ([] : List ByteArray) [] (Reps.none _ _) ?_; intro L ax Q hb
       replace Q := nW aD Q
       replace F := rB F hb; replace E := rB E hb; have J := rW Q (bP2 HB B D); replace z := kB z hb; replace A := kB A hb; replace HB := hS2 HB B D hb; clear hb Q; refine hK.out _ _ (bD4 z) (fun hHeld => ?_); clear hK K; refine nm_ 3 ?_; exact norm_ pO (a0 (L, O, P) _ ⟨hHeld, rQ J, rQ F, rQ E, kQ z, kQ A, bT2 HB B D⟩)
      ·refine lt_ Kd.bool 4 7 ([] : List Bool) [] (Reps.none _ _) ?_; intro M ax Q hb
       replace Q := nW aq Q
       replace F := rB F hb; replace E := rB E hb; have G := rW Q (bP2 HB B D); replace z := kB z hb; replace A := kB A hb; replace HB := hS2 HB B D hb; clear hb Q; refine hK.out _ _ (bD4 z) (fun hHeld => ?_); clear hK K; refine nm_ 7 ?_; exact norm_ pO (a1 (M, O, P) _ ⟨hHeld, rQ G, rQ F, rQ E, kQ z, kQ A, bT2 HB B D⟩)
     intro bD; refine join_ (σ := Value) 9 (bl 18 26215) (fun s_ => [(3, s_)]) (fun s_ w' => (q_1 w') ∧ (RA Kd.string 9 w' w s_ ag) ∧ (q_2 w') ∧ (q_3 w') ∧ BA w w') ?_ ?_
     ·clear z A HB; rintro L b3 ⟨hHeld, J, z, A, HB⟩; (try dsimp only at hHeld J z A HB); refine norm_ (a' := ?_) ?_ ?_; rotate_left
      ·simp only [putAll, Act.put, sA, sB, sC]
       rfl
      refine four_ (i := 3) (j := 4) (k := 8) (m := 12) (Ni := some 6) (Nj := some 7) (Nk := some 11) (Nm := some 15) (bl 18 26223) (bl 18 26231) (bl 18 26471) (bl 18 30311) rfl rfl rfl rfl rfl rfl rfl rfl (four_of HT_.out (by kernel_rfl)) (by decide) (by decide) (by decide) (by decide) (fun K hK => ?_) (fun K hK => ?_) (fun K hK => ?_) (fun K hK => ?_)
      ·refine Kd.R_append_rows_step Kd.string (w0 := w) w.heap.size (by rfl) (.tmp 3) (.tmp 5) 22 9 (.string ⟨#[]⟩) 16 rfl Try.underlying22 info9 rfl (by decide) (by omega) L ag af _ _ _ (fun _ => True) (fun _ => False) rfl rfl ?aO ?aR (fun _ _ h => h) (fun _ h => h.elim) ?aF ?aB ?aS ?aL ?_
       (case aR => exact cO (Kd.C_below aC.out HB.out))
       (case aB => exact (bP2 HB B D))
       (case aF => exact (fun _ _ => trivial))
       (case aO => exact (rP J))
       (case aS => exact (below_size (bP2 HB B D)))
       (case aL => have := aN.out; omega)
       intro W aH ho hb hg hat; rw [← aE.out] at ho; replace z := kG z hg J; replace A := kG A hg J; replace HB := aM (hb); have I := aM (ho); clear J; clear ho hb hg hat; refine hK.out _ _ (bD4 z) (fun hHeld => ?_); clear hK K; refine nm_ 6 ?_; exact norm_ pO (ca (L, W) _ ⟨hHeld, rQ I, kQ z, kQ A, bT2 HB B D⟩)
      ·refine lt_ Kd.bool 4 7 ([] : List Bool) [] (Reps.none _ _) ?_; intro M aH U hb
       replace U := nW aq U
       replace J := rB J hb; have G := rW U (bP2 HB B D); replace z := kB z hb; replace A := kB A hb; replace HB := hS2 HB B D hb; clear hb U; refine hK.out _ _ (bD4 z) (fun hHeld => ?_); clear hK K; refine nm_ 7 ?_; exact norm_ pO (bR (L, M) _ ⟨hHeld, rQ J, rQ G, kQ z, kQ A, bT2 HB B D⟩)
      ·refine lt_ (Kd.int .i64) 3 11 ([] : List Int) [] (Reps.none _ _) ?_; intro O aH U hb
       replace U := nW an U
       replace J := rB J hb; have F := rW U (bP2 HB B D); replace z := kB z hb; replace A := kB A hb; replace HB := hS2 HB B D hb; clear hb U; refine hK.out _ _ (bD4 z) (fun hHeld => ?_); clear hK K; refine nm_ 11 ?_; exact norm_ pO (bS (L, O) _ ⟨hHeld, rQ J, rQ F, kQ z, kQ A, bT2 HB B D⟩)
      ·refine lt_ k73 73 15 ([] : List (S73)) [] (Reps.none _ _) ?_; intro P aH U hb
       replace U := nW ak U
       replace J := rB J hb; have E := rW U (bP2 HB B D); replace z := kB z hb; replace A := kB A hb; replace HB := hS2 HB B D hb; clear hb U; refine hK.out _ _ (bD4 z) (fun hHeld => ?_); clear hK K; refine nm_ 15 ?_; exact norm_ pO (bB (L, P) _ ⟨hHeld, rQ J, rQ E, kQ z, kQ A, bT2 HB B D⟩)
     intro cu; refine join_ (σ := Value) 9 (bl 18 26230) (fun s_ => [(7, s_)]) (fun s_ w' => (q_1 w') ∧ (RA Kd.bool 4 w' w s_ ae) ∧ (q_2 w') ∧ (q_3 w') ∧ BA w w') ?_ ?_
     ·clear z A HB; rintro M b3 ⟨hHeld, G, z, A, HB⟩; (try dsimp only at hHeld G z A HB); refine norm_ (a' := ?_) ?_ ?_; rotate_left
      ·simp only [putAll, Act.put, sA, sB, sC]
       rfl
      refine three_ (i := 0) (j := 8) (k := 12) (Ni := some 3) (Nj := some 11) (Nk := some 15) (bl 18 26231) (bl 18 26486) (bl 18 30326) rfl rfl rfl rfl rfl rfl (three_of HT_.out (by kernel_rfl)) (by decide) (by decide) (by decide) (fun K hK => ?_) (fun K hK => ?_) (fun K hK => ?_)
      ·refine lt_ Kd.string 9 3 ([] : List ByteArray) [] (Reps.none _ _) ?_; intro L aH U hb
       replace U := nW aD U
       replace G := rB G hb; have J := rW U (bP2 HB B D); replace z := kB z hb; replace A := kB A hb; replace HB := hS2 HB B D hb; clear hb U; refine hK.out _ _ (bD4 z) (fun hHeld => ?_); clear hK K; refine nm_ 3 ?_; exact norm_ pO (bR (L, M) _ ⟨hHeld, rQ J, rQ G, kQ z, kQ A, bT2 HB B D⟩)
      ·refine lt_ (Kd.int .i64) 3 11 ([] : List Int) [] (Reps.none _ _) ?_; intro O aH U hb
       replace U := nW an U
       replace G := rB G hb; have F := rW U (bP2 HB B D); replace z := kB z hb; replace A := kB A hb; replace HB := hS2 HB B D hb; clear hb U; refine hK.out _ _ (bD4 z) (fun hHeld => ?_); clear hK K; refine nm_ 11 ?_; exact norm_ pO (bT (M, O) _ ⟨hHeld, rQ G, rQ F, kQ z, kQ A, bT2 HB B D⟩)
      ·refine lt_ k73 73 15 ([] : List (S73)) [] (Reps.none _ _) ?_; intro P aH U hb
       replace U := nW ak U
       replace G := rB G hb; have E := rW U (bP2 HB B D); replace z := kB z hb; replace A := kB A hb; replace HB := hS2 HB B D hb; clear hb U; refine hK.out _ _ (bD4 z) (fun hHeld => ?_); clear hK K; refine nm_ 15 ?_; exact norm_ pO (bC (M, P) _ ⟨hHeld, rQ G, rQ E, kQ z, kQ A, bT2 HB B D⟩)
     intro cv; refine join_ (σ := Value) 9 (bl 18 26470) (fun s_ => [(11, s_)]) (fun s_ w' => (q_1 w') ∧ (RA (Kd.int .i64) 3 w' w s_ ad) ∧ (q_2 w') ∧ (q_3 w') ∧ BA w w') ?_ ?_
     ·clear z A HB; rintro O b3 ⟨hHeld, F, z, A, HB⟩; (try dsimp only at hHeld F z A HB); refine norm_ (a' := ?_) ?_ ?_; rotate_left
      ·simp only [putAll, Act.put, sA, sB, sC]
       rfl
      refine three_ (i := 0) (j := 4) (k := 12) (Ni := some 3) (Nj := some 7) (Nk := some 15) (bl 18 26471) (bl 18 26486) (bl 18 30566) rfl rfl rfl rfl rfl rfl (three_of HT_.out (by kernel_rfl)) (by decide) (by decide) (by decide) (fun K hK => ?_) (fun K hK => ?_) (fun K hK => ?_)
      ·refine lt_ Kd.string 9 3 ([] : List ByteArray) [] (Reps.none _ _) ?_; intro L aH U hb
       replace U := nW aD U
       replace F := rB F hb; have J := rW U (bP2 HB B D); replace z := kB z hb; replace A := kB A hb; replace HB := hS2 HB B D hb; clear hb U; refine hK.out _ _ (bD4 z) (fun hHeld => ?_); clear hK K; refine nm_ 3 ?_; exact norm_ pO (bS (L, O) _ ⟨hHeld, rQ J, rQ F, kQ z, kQ A, bT2 HB B D⟩)
      ·refine lt_ Kd.bool 4 7 ([] : List Bool) [] (Reps.none _ _) ?_; intro M aH U hb
       replace U := nW aq U
       replace F := rB F hb; have G := rW U (bP2 HB B D); replace z := kB z hb; replace A := kB A hb; replace HB := hS2 HB B D hb; clear hb U; refine hK.out _ _ (bD4 z) (fun hHeld => ?_); clear hK K; refine nm_ 7 ?_; exact norm_ pO (bT (M, O) _ ⟨hHeld, rQ G, rQ F, kQ z, kQ A, bT2 HB B D⟩)
      ·refine lt_ k73 73 15 ([] : List (S73)) [] (Reps.none _ _) ?_; intro P aH U hb
       replace U := nW ak U
       replace F := rB F hb; have E := rW U (bP2 HB B D); replace z := kB z hb; replace A := kB A hb; replace HB := hS2 HB B D hb; clear hb U; refine hK.out _ _ (bD4 z) (fun hHeld => ?_); clear hK K; refine nm_ 15 ?_; exact norm_ pO (bD (O, P) _ ⟨hHeld, rQ F, rQ E, kQ z, kQ A, bT2 HB B D⟩)
     intro cw; refine join_ (σ := Value) 9 (bl 18 30310) (fun s_ => [(15, s_)]) (fun s_ w' => (q_1 w') ∧ (RA k73 73 w' w s_ ac) ∧ (q_2 w') ∧ (q_3 w') ∧ BA w w') ?_ ?_
     ·clear z A HB; rintro P b3 ⟨hHeld, E, z, A, HB⟩; (try dsimp only at hHeld E z A HB); refine norm_ (a' := ?_) ?_ ?_; rotate_left
      ·simp only [putAll, Act.put, sA, sB, sC]
       rfl
      refine three_ (i := 0) (j := 4) (k := 8) (Ni := some 3) (Nj := some 7) (Nk := some 11) (bl 18 30311) (bl 18 30326) (bl 18 30566) rfl rfl rfl rfl rfl rfl (three_of HT_.out (by kernel_rfl)) (by decide) (by decide) (by decide) (fun K hK => ?_) (fun K hK => ?_) (fun K hK => ?_)
      ·refine lt_ Kd.string 9 3 ([] : List ByteArray) [] (Reps.none _ _) ?_; intro L aH U hb
       replace U := nW aD U
       replace E := rB E hb; have J := rW U (bP2 HB B D); replace z := kB z hb; replace A := kB A hb; replace HB := hS2 HB B D hb; clear hb U; refine hK.out _ _ (bD4 z) (fun hHeld => ?_); clear hK K; refine nm_ 3 ?_; exact norm_ pO (bB (L, P) _ ⟨hHeld, rQ J, rQ E, kQ z, kQ A, bT2 HB B D⟩)
      ·refine lt_ Kd.bool 4 7 ([] : List Bool) [] (Reps.none _ _) ?_; intro M aH U hb
       replace U := nW aq U
       replace E := rB E hb; have G := rW U (bP2 HB B D); replace z := kB z hb; replace A := kB A hb; replace HB := hS2 HB B D hb; clear hb U; refine hK.out _ _ (bD4 z) (fun hHeld => ?_); clear hK K; refine nm_ 7 ?_; exact norm_ pO (bC (M, P) _ ⟨hHeld, rQ G, rQ E, kQ z, kQ A, bT2 HB B D⟩)
      ·refine lt_ (Kd.int .i64) 3 11 ([] : List Int) [] (Reps.none _ _) ?_; intro O aH U hb
       replace U := nW an U
       replace E := rB E hb; have F := rW U (bP2 HB B D); replace z := kB z hb; replace A := kB A hb; replace HB := hS2 HB B D hb; clear hb U; refine hK.out _ _ (bD4 z) (fun hHeld => ?_); clear hK K; refine nm_ 11 ?_; exact norm_ pO (bD (O, P) _ ⟨hHeld, rQ F, rQ E, kQ z, kQ A, bT2 HB B D⟩)
     intro cq; refine four_ (i := 0) (j := 4) (k := 8) (m := 12) (Ni := some 3) (Nj := some 7) (Nk := some 11) (Nm := some 15) (bl 18 26215) (bl 18 26230) (bl 18 26470) (bl 18 30310) rfl rfl rfl rfl rfl rfl rfl rfl (four_of HT_.out (by kernel_rfl)) (by decide) (by decide) (by decide) (by decide) (fun K hK => ?_) (fun K hK => ?_) (fun K hK => ?_) (fun K hK => ?_)
     ·refine lt_ Kd.string 9 3 ([] : List ByteArray) [] (Reps.none _ _) ?_; intro L w9 al hb
      replace al := nW aD al
      have J := rW al (bP2 HB B D); replace z := kB z hb; replace A := kB A hb; replace HB := hS2 HB B D hb; clear hb al; refine hK.out _ _ (bD4 z) (fun hHeld => ?_); clear hK K; refine nm_ 3 ?_; exact norm_ pO (cu (L) _ ⟨hHeld, rQ J, kQ z, kQ A, bT2 HB B D⟩)
     ·refine lt_ Kd.bool 4 7 ([] : List Bool) [] (Reps.none _ _) ?_; intro M w9 al hb
      replace al := nW aq al
      have G := rW al (bP2 HB B D); replace z := kB z hb; replace A := kB A hb; replace HB := hS2 HB B D hb; clear hb al; refine hK.out _ _ (bD4 z) (fun hHeld => ?_); clear hK K; refine nm_ 7 ?_; exact norm_ pO (cv (M) _ ⟨hHeld, rQ G, kQ z, kQ A, bT2 HB B D⟩)
     ·refine lt_ (Kd.int .i64) 3 11 ([] : List Int) [] (Reps.none _ _) ?_; intro O w9 al hb
      replace al := nW an al
      have F := rW al (bP2 HB B D); replace z := kB z hb; replace A := kB A hb; replace HB := hS2 HB B D hb; clear hb al; refine hK.out _ _ (bD4 z) (fun hHeld => ?_); clear hK K; refine nm_ 11 ?_; exact norm_ pO (cw (O) _ ⟨hHeld, rQ F, kQ z, kQ A, bT2 HB B D⟩)
     ·refine lt_ k73 73 15 ([] : List (S73)) [] (Reps.none _ _) ?_; intro P w9 al hb
      replace al := nW ak al
      have E := rW al (bP2 HB B D); replace z := kB z hb; replace A := kB A hb; replace HB := hS2 HB B D hb; clear hb al; refine hK.out _ _ (bD4 z) (fun hHeld => ?_); clear hK K; refine nm_ 15 ?_; exact norm_ pO (cq (P) _ ⟨hHeld, rQ E, kQ z, kQ A, bT2 HB B D⟩)
    ·exact nX c5 H
   ·exact nX c4 H
  ·exact nX c3 H
 ·exact nX c2 H

end Go.Proofs.Ytninoenmhcbonaa.X
namespace Go.Proofs.Ytninoenmhcbonaa.X
open Go.RowKit Go.Proofs.YtninoenmhcbonaaW.PrintWords Go.Proofs.YtninoenmhcbonaaW.PrintLast Go.Proofs.YtninoenmhcbonaaW.PrintMore
attribute [local go_sem] max2_int min2_int max_two min_two max_three min_three max_four min_four
set_option linter.unusedVariables false
set_option linter.unusedSimpArgs false
set_option maxHeartbeats 8000000
set_option maxRecDepth 100000

/-! ### glyph_Start: function 99 -/
mutual
def glyph_Start.j0 : Nat → Int → Bool → Option (Bool)
 | 0, _, _ => none
 | k + 1, x0, x3 => if x3 = true then (glyph_Start.j1 k x0 x3) else (if x0 ≥ 97 then (if x0 ≤ 122 then (glyph_Start.j1 k x0 (decide (x0 ≤ 122))) else (glyph_Start.j1 k x0 (x0 == 95))) else (glyph_Start.j1 k x0 (x0 == 95)))
def glyph_Start.j1 : Nat → Int → Bool → Option (Bool)
 | 0, _, _ => none
 | k + 1, x0, x3 => if x3 = true then (some true) else (if x0 ≥ 913 then (glyph_Start.j2 k x0 (decide (x0 ≤ 929))) else (glyph_Start.j2 k x0 false))
def glyph_Start.j2 : Nat → Int → Bool → Option (Bool)
 | 0, _, _ => none
 | k + 1, x0, x18 => if x18 = true then (some true) else (if x0 ≥ 931 then (glyph_Start.j3 k x0 (decide (x0 ≤ 937))) else (glyph_Start.j3 k x0 false))
def glyph_Start.j3 : Nat → Int → Bool → Option (Bool)
 | 0, _, _ => none
 | k + 1, x0, x18 => if x18 = true then (some true) else (if x0 ≥ 945 then (if x0 ≤ 969 then (some true) else (some false)) else (some false))
end
def glyph_Start.f (k : Nat) (a0 : Int) : Option (Bool) := if a0 ≥ 65 then (glyph_Start.j0 k a0 (decide (a0 ≤ 90))) else (glyph_Start.j0 k a0 false)
theorem glyph_Start.mono_l : ∀ k, (∀ y0 y1, LeO (glyph_Start.j0 k y0 y1) (glyph_Start.j0 (k + 1) y0 y1)) ∧ (∀ y0 y1, LeO (glyph_Start.j1 k y0 y1) (glyph_Start.j1 (k + 1) y0 y1)) ∧ (∀ y0 y1, LeO (glyph_Start.j2 k y0 y1) (glyph_Start.j2 (k + 1) y0 y1)) ∧ (∀ y0 y1, LeO (glyph_Start.j3 k y0 y1) (glyph_Start.j3 (k + 1) y0 y1))
 | 0 => ⟨fun _ _ r h => by simp [glyph_Start.j0] at h, fun _ _ r h => by simp [glyph_Start.j1] at h, fun _ _ r h => by simp [glyph_Start.j2] at h, fun _ _ r h => by simp [glyph_Start.j3] at h⟩
 | k + 1 => by
  obtain ⟨ih0, ih1, ih2, ih3⟩ := glyph_Start.mono_l k; refine ⟨?_, ?_, ?_, ?_⟩
  ·intro y0 y1
   unfold glyph_Start.j0
   repeat' first | (with_reducible first | exact ih0 _ _ | exact ih1 _ _ | exact ih2 _ _ | exact ih3 _ _ | exact lA | apply lI | refine lB ?_ fun _ => ?_) | exact lN _ | apply lI | refine lB ?_ fun _ => ?_
  ·intro y0 y1
   unfold glyph_Start.j1
   repeat' first | (with_reducible first | exact ih0 _ _ | exact ih1 _ _ | exact ih2 _ _ | exact ih3 _ _ | exact lA | apply lI | refine lB ?_ fun _ => ?_) | exact lN _ | apply lI | refine lB ?_ fun _ => ?_
  ·intro y0 y1
   unfold glyph_Start.j2
   repeat' first | (with_reducible first | exact ih0 _ _ | exact ih1 _ _ | exact ih2 _ _ | exact ih3 _ _ | exact lA | apply lI | refine lB ?_ fun _ => ?_) | exact lN _ | apply lI | refine lB ?_ fun _ => ?_
  ·intro y0 y1
   unfold glyph_Start.j3
   repeat' first | (with_reducible first | exact ih0 _ _ | exact ih1 _ _ | exact ih2 _ _ | exact ih3 _ _ | exact lA | apply lI | refine lB ?_ fun _ => ?_) | exact lN _ | apply lI | refine lB ?_ fun _ => ?_
theorem glyph_Start.mono : ∀ a0 k, LeO (glyph_Start.f k a0) (glyph_Start.f (k + 1) a0) := by
 intro a0 k; obtain ⟨ih0, ih1, ih2, ih3⟩ := glyph_Start.mono_l k
 unfold glyph_Start.f
 repeat' first | (with_reducible first | exact ih0 _ _ | exact ih1 _ _ | exact ih2 _ _ | exact ih3 _ _ | exact lA | apply lI | refine lB ?_ fun _ => ?_) | exact lN _ | apply lI | refine lB ?_ fun _ => ?_
theorem glyph_Start.calls (k : Nat) (z : Int) (r : Bool) (w : World) (h : glyph_Start.f k z = some r) :
  Calls Try.prog 99 #[.int .i32 z] w fun e w' => e = .returned (.bool r) ∧ Drawn0 w w' := by
 rw [glyph_Start.f] at h; have H := h; clear h; have W := aM H; clear H
 go_enter Try.func99, Try.ntmps99
 go_upto_region 1 with (fail)
 go_cut [3] (fun v3 wc => ∃ (kq : Nat) (M : Bool), v3 = .bool M ∧ Aside0 (glyph_Start.j0 kq z M = some r) ∧ Aside0 (kq ≤ k) ∧ Drawn0 w wc)
 case first =>
  have H := W.out; clear W
  by_cases R : z ≥ 65
  ·rw [if_pos R] at H; have E := dT R; clear R
   (first | rw [E] | (simp only [i64_w, i32_w]; rw [E]) | skip)
   have H' := aM H; clear H
   go_wp2
   go_meet
   case rel => exact ⟨_, (decide (z ≤ 90)), sI, H', ⟨by first | omega | exact Nat.le_refl _⟩, by repeat (first | exact Drawn0.refl _ | apply Drawn0.step)⟩
  ·rw [if_neg R] at H; have E := decide_eq_false R; clear R
   (first | rw [E] | (simp only [i64_w, i32_w]; rw [E]) | skip)
   have H' := aM H; clear H
   go_wp2
   go_meet
   case rel => exact ⟨_, (false), sI, H', ⟨by first | omega | exact Nat.le_refl _⟩, by repeat (first | exact Drawn0.refl _ | apply Drawn0.step)⟩
 case rest =>
  clear W
  obtain ⟨kq, M, rfl, HA, HJ1, ⟨mc1, rfl⟩⟩ := hcut; cases kq with
  | zero => exact absurd HA.out (by simp [glyph_Start.j0])
  | succ ah =>
   have H := HA.out; clear HA; simp only [glyph_Start.j0] at H; have Y := aM H; clear H
   go_upto_if 3 with (fail)
   go_cut [3] (fun v3 wc => ∃ (kq : Nat) (N : Bool), v3 = .bool N ∧ Aside0 (glyph_Start.j1 kq z N = some r) ∧ Aside0 (kq ≤ ah) ∧ Drawn0 w wc)
   case first =>
    have H := Y.out; clear Y
    by_cases c5 : M = true
    ·subst c5
     rw [if_pos rfl] at H; have H' := aM H; clear H
     go_wp2
     go_meet
     case rel => exact ⟨_, (true), sI, H', ⟨by have := HJ1.out; first | omega | exact Nat.le_refl _⟩, by repeat (first | exact Drawn0.refl _ | apply Drawn0.step)⟩
    ·replace c5 := Bool.eq_false_iff.mpr c5; subst c5
     rw [if_neg nF] at H
     by_cases U : z ≥ 97
     ·rw [if_pos U] at H; have F := dT U; clear U
      (first | rw [F] | (simp only [i64_w, i32_w]; rw [F]) | skip)
      by_cases V : z ≤ 122
      ·rw [if_pos V] at H; have ag := dT V; clear V; have H' := aM H; clear H
       go_wp2
       go_meet
       case rel => exact ⟨_, (decide (z ≤ 122)), sI, H', ⟨by have := HJ1.out; first | omega | exact Nat.le_refl _⟩, by repeat (first | exact Drawn0.refl _ | apply Drawn0.step)⟩
      ·rw [if_neg V] at H; have ag := decide_eq_false V; clear V; have H' := aM H; clear H
       go_wp2
       go_meet
       case rel => exact ⟨_, ((z == 95)), sI, H', ⟨by have := HJ1.out; first | omega | exact Nat.le_refl _⟩, by repeat (first | exact Drawn0.refl _ | apply Drawn0.step)⟩
     ·rw [if_neg U] at H; have F := decide_eq_false U; clear U
      (first | rw [F] | (simp only [i64_w, i32_w]; rw [F]) | skip)
      have H' := aM H; clear H
      go_wp2
      go_meet
      case rel => exact ⟨_, ((z == 95)), sI, H', ⟨by have := HJ1.out; first | omega | exact Nat.le_refl _⟩, by repeat (first | exact Drawn0.refl _ | apply Drawn0.step)⟩
   case rest =>
    clear Y
    obtain ⟨kq, N, rfl, HA, HJ3, ⟨mc3, rfl⟩⟩ := hcut; cases kq with
    | zero => exact absurd HA.out (by simp [glyph_Start.j1])
    | succ ai =>
     have H := HA.out; clear HA; simp only [glyph_Start.j1] at H
     by_cases c8 : N = true
     ·subst c8
      rw [if_pos rfl] at H; obtain rfl := Option.some.inj H
      go_wp2
      go_ret
      exact ⟨by first | rfl | (simp; done) | (simp [*]; done), by repeat (first | exact Drawn0.refl _ | apply Drawn0.step)⟩
     ·replace c8 := Bool.eq_false_iff.mpr c8; subst c8
      rw [if_neg nF] at H; have Z := aM H; clear H
      go_upto_region 5 with (fail)
      go_cut [18] (fun aa wc => ∃ (kq : Nat) (D : Bool), aa = .bool D ∧ Aside0 (glyph_Start.j2 kq z D = some r) ∧ Aside0 (kq ≤ ai) ∧ Drawn0 w wc)
      case first =>
       have H := Z.out; clear Z
       by_cases G : z ≥ 913
       ·rw [if_pos G] at H; have A := dT G; clear G
        (first | rw [A] | (simp only [i64_w, i32_w]; rw [A]) | skip)
        have H' := aM H; clear H
        go_wp2
        go_meet
        case rel => exact ⟨_, (decide (z ≤ 929)), sI, H', ⟨by have := HJ1.out; have := HJ3.out; first | omega | exact Nat.le_refl _⟩, by repeat (first | exact Drawn0.refl _ | apply Drawn0.step)⟩
       ·rw [if_neg G] at H; have A := decide_eq_false G; clear G
        (first | rw [A] | (simp only [i64_w, i32_w]; rw [A]) | skip)
        have H' := aM H; clear H
        go_wp2
        go_meet
        case rel => exact ⟨_, (false), sI, H', ⟨by have := HJ1.out; have := HJ3.out; first | omega | exact Nat.le_refl _⟩, by repeat (first | exact Drawn0.refl _ | apply Drawn0.step)⟩
      case rest =>
       clear Z
       obtain ⟨kq, D, rfl, HA, HJ8, ⟨mc8, rfl⟩⟩ := hcut; cases kq with
       | zero => exact absurd HA.out (by simp [glyph_Start.j2])
       | succ aj =>
        have H := HA.out; clear HA; simp only [glyph_Start.j2] at H
        by_cases P : D = true
        ·subst P
         rw [if_pos rfl] at H; obtain rfl := Option.some.inj H
         go_wp2
         go_ret
         exact ⟨by first | rfl | (simp; done) | (simp [*]; done), by repeat (first | exact Drawn0.refl _ | apply Drawn0.step)⟩
        ·replace P := Bool.eq_false_iff.mpr P; subst P
         rw [if_neg nF] at H; have O := aM H; clear H
         go_upto_region 6 with (fail)
         go_cut [18] (fun aa wc => ∃ (kq : Nat) (B : Bool), aa = .bool B ∧ Aside0 (glyph_Start.j3 kq z B = some r) ∧ Aside0 (kq ≤ aj) ∧ Drawn0 w wc)
         case first =>
          have H := O.out; clear O
          by_cases I : z ≥ 931
          ·rw [if_pos I] at H; have C := dT I; clear I
           (first | rw [C] | (simp only [i64_w, i32_w]; rw [C]) | skip)
           have H' := aM H; clear H
           go_wp2
           go_meet
           case rel => exact ⟨_, (decide (z ≤ 937)), sI, H', ⟨by have := HJ1.out; have := HJ3.out; have := HJ8.out; first | omega | exact Nat.le_refl _⟩, by repeat (first | exact Drawn0.refl _ | apply Drawn0.step)⟩
          ·rw [if_neg I] at H; have C := decide_eq_false I; clear I
           (first | rw [C] | (simp only [i64_w, i32_w]; rw [C]) | skip)
           have H' := aM H; clear H
           go_wp2
           go_meet
           case rel => exact ⟨_, (false), sI, H', ⟨by have := HJ1.out; have := HJ3.out; have := HJ8.out; first | omega | exact Nat.le_refl _⟩, by repeat (first | exact Drawn0.refl _ | apply Drawn0.step)⟩
         case rest =>
          clear O
          obtain ⟨kq, B, rfl, HA, HJ11, ⟨mc11, rfl⟩⟩ := hcut; cases kq with
          | zero => exact absurd HA.out (by simp [glyph_Start.j3])
          | succ ak =>
           have H := HA.out; clear HA; simp only [glyph_Start.j3] at H
           by_cases Q : B = true
           ·subst Q
            rw [if_pos rfl] at H; obtain rfl := Option.some.inj H
            go_wp2
            go_ret
            exact ⟨by first | rfl | (simp; done) | (simp [*]; done), by repeat (first | exact Drawn0.refl _ | apply Drawn0.step)⟩
           ·replace Q := Bool.eq_false_iff.mpr Q; subst Q
            rw [if_neg nF] at H
            by_cases J : z ≥ 945
            ·rw [if_pos J] at H; have ad := dT J; clear J
             by_cases L : z ≤ 969
             ·rw [if_pos L] at H; have ae := dT L; clear L; obtain rfl := Option.some.inj H
              go_wp2
              go_ret
              exact ⟨by first | rfl | (simp; done) | (simp [*]; done), by repeat (first | exact Drawn0.refl _ | apply Drawn0.step)⟩
             ·rw [if_neg L] at H; have ae := decide_eq_false L; clear L; obtain rfl := Option.some.inj H
              go_wp2
              go_ret
              exact ⟨by first | rfl | (simp; done) | (simp [*]; done), by repeat (first | exact Drawn0.refl _ | apply Drawn0.step)⟩
            ·rw [if_neg J] at H; have ad := decide_eq_false J; clear J; obtain rfl := Option.some.inj H
             go_wp2
             go_ret
             exact ⟨by first | rfl | (simp; done) | (simp [*]; done), by repeat (first | exact Drawn0.refl _ | apply Drawn0.step)⟩

end Go.Proofs.Ytninoenmhcbonaa.X
namespace Go.Proofs.Ytninoenmhcbonaa.X
open Go.RowKit Go.Proofs.YtninoenmhcbonaaW.PrintWords Go.Proofs.YtninoenmhcbonaaW.PrintLast Go.Proofs.YtninoenmhcbonaaW.PrintMore
attribute [local go_sem] max2_int min2_int max_two min_two max_three min_three max_four min_four
set_option linter.unusedVariables false
set_option linter.unusedSimpArgs false
set_option maxHeartbeats 8000000
set_option maxRecDepth 100000

/-! ### glyph_Rest: function 100 -/
def glyph_Rest.f (k : Nat) (a0 : Int) : Option (Bool) := (glyph_Start.f k a0).bind fun t127 => (if t127 = true then (some true) else (if a0 ≥ 48 then (if a0 ≤ 57 then (some true) else (if a0 = 8242 then (some true) else (if a0 ≥ 8320 then (some (decide (a0 ≤ 8329))) else (some false)))) else (if a0 = 8242 then (some true) else (if a0 ≥ 8320 then (some (decide (a0 ≤ 8329))) else (some false)))))
theorem glyph_Rest.mono : ∀ a0 k, LeO (glyph_Rest.f k a0) (glyph_Rest.f (k + 1) a0) := by
 intro a0 k
 unfold glyph_Rest.f
 repeat' first | (with_reducible first | exact glyph_Start.mono _ _ | exact lA | apply lI | refine lB ?_ fun _ => ?_) | exact lN _ | apply lI | refine lB ?_ fun _ => ?_
theorem glyph_Rest.calls (k : Nat) (z : Int) (r : Bool) (w : World) (h : glyph_Rest.f k z = some r) :
  Calls Try.prog 100 #[.int .i32 z] w fun e w' => e = .returned (.bool r) ∧ Drawn0 w w' := by
 rw [glyph_Rest.f] at h; have H := h; clear h; replace H := Option.bind_eq_some_iff.mp H; obtain ⟨L, J, H⟩ := H; have A := aM J; clear J
 by_cases I : L = true
 ·subst I
  rw [if_pos rfl] at H; obtain rfl := Option.some.inj H
  go_enter Try.func100, Try.ntmps100
  go_wp2_with (first | ((with_reducible refine gate_callee (f := 99) rfl ?_); refine gL_ (some 4) Try.func99 #[.int .i32 z] ?_; (with_reducible refine (glyph_Start.calls k z true _ A.out).mono ?_); rintro e w' ⟨rfl, ⟨nd, rfl⟩⟩; refine ⟨_, rfl, ?_⟩))
  go_ret
  exact ⟨by first | rfl | (simp; done) | (simp [*]; done), by repeat (first | exact Drawn0.refl _ | apply Drawn0.step)⟩
 ·replace I := Bool.eq_false_iff.mpr I; subst I
  rw [if_neg nF] at H
  by_cases B : z ≥ 48
  ·rw [if_pos B] at H; have M := dT B; clear B
   by_cases C : z ≤ 57
   ·rw [if_pos C] at H; have N := dT C; clear C; obtain rfl := Option.some.inj H
    go_enter Try.func100, Try.ntmps100
    go_wp2_with (first | ((with_reducible refine gate_callee (f := 99) rfl ?_); refine gL_ (some 4) Try.func99 #[.int .i32 z] ?_; (with_reducible refine (glyph_Start.calls k z false _ A.out).mono ?_); rintro e w' ⟨rfl, ⟨nd, rfl⟩⟩; refine ⟨_, rfl, ?_⟩))
    go_ret
    exact ⟨by first | rfl | (simp; done) | (simp [*]; done), by repeat (first | exact Drawn0.refl _ | apply Drawn0.step)⟩
   ·rw [if_neg C] at H; have N := decide_eq_false C; clear C
    by_cases F : z = 8242
    ·rw [if_pos F] at H; obtain ⟨O, P⟩ := bq F; clear F; obtain rfl := Option.some.inj H
     go_enter Try.func100, Try.ntmps100
     go_wp2_with (first | ((with_reducible refine gate_callee (f := 99) rfl ?_); refine gL_ (some 4) Try.func99 #[.int .i32 z] ?_; (with_reducible refine (glyph_Start.calls k z false _ A.out).mono ?_); rintro e w' ⟨rfl, ⟨nd, rfl⟩⟩; refine ⟨_, rfl, ?_⟩))
     go_ret
     exact ⟨by first | rfl | (simp; done) | (simp [*]; done), by repeat (first | exact Drawn0.refl _ | apply Drawn0.step)⟩
    ·rw [if_neg F] at H; obtain ⟨O, P⟩ := bn F
     by_cases D : z ≥ 8320
     ·rw [if_pos D] at H; have Q := dT D; clear D; obtain rfl := Option.some.inj H
      go_enter Try.func100, Try.ntmps100
      go_wp2_with (first | ((with_reducible refine gate_callee (f := 99) rfl ?_); refine gL_ (some 4) Try.func99 #[.int .i32 z] ?_; (with_reducible refine (glyph_Start.calls k z false _ A.out).mono ?_); rintro e w' ⟨rfl, ⟨nd, rfl⟩⟩; refine ⟨_, rfl, ?_⟩))
      go_ret
      exact ⟨by first | rfl | (simp; done) | (simp [*]; done), by repeat (first | exact Drawn0.refl _ | apply Drawn0.step)⟩
     ·rw [if_neg D] at H; have Q := decide_eq_false D; clear D; obtain rfl := Option.some.inj H
      go_enter Try.func100, Try.ntmps100
      go_wp2_with (first | ((with_reducible refine gate_callee (f := 99) rfl ?_); refine gL_ (some 4) Try.func99 #[.int .i32 z] ?_; (with_reducible refine (glyph_Start.calls k z false _ A.out).mono ?_); rintro e w' ⟨rfl, ⟨nd, rfl⟩⟩; refine ⟨_, rfl, ?_⟩))
      go_ret
      exact ⟨by first | rfl | (simp; done) | (simp [*]; done), by repeat (first | exact Drawn0.refl _ | apply Drawn0.step)⟩
  ·rw [if_neg B] at H; have M := decide_eq_false B; clear B
   by_cases G : z = 8242
   ·rw [if_pos G] at H; obtain ⟨R, U⟩ := bq G; clear G; obtain rfl := Option.some.inj H
    go_enter Try.func100, Try.ntmps100
    go_wp2_with (first | ((with_reducible refine gate_callee (f := 99) rfl ?_); refine gL_ (some 4) Try.func99 #[.int .i32 z] ?_; (with_reducible refine (glyph_Start.calls k z false _ A.out).mono ?_); rintro e w' ⟨rfl, ⟨nd, rfl⟩⟩; refine ⟨_, rfl, ?_⟩))
    go_ret
    exact ⟨by first | rfl | (simp; done) | (simp [*]; done), by repeat (first | exact Drawn0.refl _ | apply Drawn0.step)⟩
   ·rw [if_neg G] at H; obtain ⟨R, U⟩ := bn G
    by_cases E : z ≥ 8320
    ·rw [if_pos E] at H; have V := dT E; clear E; obtain rfl := Option.some.inj H
     go_enter Try.func100, Try.ntmps100
     go_wp2_with (first | ((with_reducible refine gate_callee (f := 99) rfl ?_); refine gL_ (some 4) Try.func99 #[.int .i32 z] ?_; (with_reducible refine (glyph_Start.calls k z false _ A.out).mono ?_); rintro e w' ⟨rfl, ⟨nd, rfl⟩⟩; refine ⟨_, rfl, ?_⟩))
     go_ret
     exact ⟨by first | rfl | (simp; done) | (simp [*]; done), by repeat (first | exact Drawn0.refl _ | apply Drawn0.step)⟩
    ·rw [if_neg E] at H; have V := decide_eq_false E; clear E; obtain rfl := Option.some.inj H
     go_enter Try.func100, Try.ntmps100
     go_wp2_with (first | ((with_reducible refine gate_callee (f := 99) rfl ?_); refine gL_ (some 4) Try.func99 #[.int .i32 z] ?_; (with_reducible refine (glyph_Start.calls k z false _ A.out).mono ?_); rintro e w' ⟨rfl, ⟨nd, rfl⟩⟩; refine ⟨_, rfl, ?_⟩))
     go_ret
     exact ⟨by first | rfl | (simp; done) | (simp [*]; done), by repeat (first | exact Drawn0.refl _ | apply Drawn0.step)⟩

/-! ### glyph_Reserved: function 101 -/
def glyph_Reserved.f (a0 : ByteArray) : Option (Bool) := if a0.toList = ([97, 110, 100] : List UInt8) then (some true) else (if a0.toList = ([111, 114] : List UInt8) then (some true) else (if a0.toList = ([110, 111, 116] : List UInt8) then (some true) else (if a0.toList = ([101, 120] : List UInt8) then (some true) else (if a0.toList = ([97, 108, 108] : List UInt8) then (some true) else (if a0.toList = ([109, 111, 100] : List UInt8) then (some true) else (if a0.toList = ([116, 114, 117, 101] : List UInt8) then (some true) else (if a0.toList = ([102, 97, 108, 115, 101] : List UInt8) then (some true) else (some false))))))))
theorem glyph_Reserved.calls (z : ByteArray) (r : Bool) (w : World) (h : glyph_Reserved.f z = some r) :
  Calls Try.prog 101 #[.string z] w fun e w' => e = .returned (.bool r) ∧ Drawn0 w w' := by
 rw [glyph_Reserved.f] at h; have H := h; clear h
 by_cases A : z.toList = ([97, 110, 100] : List UInt8)
 ·rw [if_pos A] at H; obtain ⟨J, L⟩ := bq A; clear A; obtain rfl := Option.some.inj H
  go_enter Try.func101, Try.ntmps101
  go_wp2
  go_ret
  exact ⟨by first | rfl | (simp; done) | (simp [*]; done), by repeat (first | exact Drawn0.refl _ | apply Drawn0.step)⟩
 ·rw [if_neg A] at H; obtain ⟨J, L⟩ := bn A
  by_cases B : z.toList = ([111, 114] : List UInt8)
  ·rw [if_pos B] at H; obtain ⟨M, N⟩ := bq B; clear B; obtain rfl := Option.some.inj H
   go_enter Try.func101, Try.ntmps101
   go_wp2
   go_ret
   exact ⟨by first | rfl | (simp; done) | (simp [*]; done), by repeat (first | exact Drawn0.refl _ | apply Drawn0.step)⟩
  ·rw [if_neg B] at H; obtain ⟨M, N⟩ := bn B
   by_cases C : z.toList = ([110, 111, 116] : List UInt8)
   ·rw [if_pos C] at H; obtain ⟨O, P⟩ := bq C; clear C; obtain rfl := Option.some.inj H
    go_enter Try.func101, Try.ntmps101
    go_wp2
    go_ret
    exact ⟨by first | rfl | (simp; done) | (simp [*]; done), by repeat (first | exact Drawn0.refl _ | apply Drawn0.step)⟩
   ·rw [if_neg C] at H; obtain ⟨O, P⟩ := bn C
    by_cases D : z.toList = ([101, 120] : List UInt8)
    ·rw [if_pos D] at H; obtain ⟨Q, R⟩ := bq D; clear D; obtain rfl := Option.some.inj H
     go_enter Try.func101, Try.ntmps101
     go_wp2
     go_ret
     exact ⟨by first | rfl | (simp; done) | (simp [*]; done), by repeat (first | exact Drawn0.refl _ | apply Drawn0.step)⟩
    ·rw [if_neg D] at H; obtain ⟨Q, R⟩ := bn D
     by_cases E : z.toList = ([97, 108, 108] : List UInt8)
     ·rw [if_pos E] at H; obtain ⟨U, V⟩ := bq E; clear E; obtain rfl := Option.some.inj H
      go_enter Try.func101, Try.ntmps101
      go_wp2
      go_ret
      exact ⟨by first | rfl | (simp; done) | (simp [*]; done), by repeat (first | exact Drawn0.refl _ | apply Drawn0.step)⟩
     ·rw [if_neg E] at H; obtain ⟨U, V⟩ := bn E
      by_cases F : z.toList = ([109, 111, 100] : List UInt8)
      ·rw [if_pos F] at H; obtain ⟨W, Y⟩ := bq F; clear F; obtain rfl := Option.some.inj H
       go_enter Try.func101, Try.ntmps101
       go_wp2
       go_ret
       exact ⟨by first | rfl | (simp; done) | (simp [*]; done), by repeat (first | exact Drawn0.refl _ | apply Drawn0.step)⟩
      ·rw [if_neg F] at H; obtain ⟨W, Y⟩ := bn F
       by_cases G : z.toList = ([116, 114, 117, 101] : List UInt8)
       ·rw [if_pos G] at H; obtain ⟨Z, aa⟩ := bq G; clear G; obtain rfl := Option.some.inj H
        go_enter Try.func101, Try.ntmps101
        go_wp2
        go_ret
        exact ⟨by first | rfl | (simp; done) | (simp [*]; done), by repeat (first | exact Drawn0.refl _ | apply Drawn0.step)⟩
       ·rw [if_neg G] at H; obtain ⟨Z, aa⟩ := bn G
        by_cases I : z.toList = ([102, 97, 108, 115, 101] : List UInt8)
        ·rw [if_pos I] at H; obtain ⟨ab, ac⟩ := bq I; clear I; obtain rfl := Option.some.inj H
         go_enter Try.func101, Try.ntmps101
         go_wp2
         go_ret
         exact ⟨by first | rfl | (simp; done) | (simp [*]; done), by repeat (first | exact Drawn0.refl _ | apply Drawn0.step)⟩
        ·rw [if_neg I] at H; obtain ⟨ab, ac⟩ := bn I; obtain rfl := Option.some.inj H
         go_enter Try.func101, Try.ntmps101
         go_wp2
         go_ret
         exact ⟨by first | rfl | (simp; done) | (simp [*]; done), by repeat (first | exact Drawn0.refl _ | apply Drawn0.step)⟩

end Go.Proofs.Ytninoenmhcbonaa.X

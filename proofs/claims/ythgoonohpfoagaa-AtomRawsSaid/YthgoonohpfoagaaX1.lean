/- Functions of the seat, printed, and that the program's calls come to them; no condition. -/
import Derived.Test.YthgoonohpfoagaaX0
namespace Go.Proofs.Ythgoonohpfoagaa.X
open Go.RowKit Go.Proofs.YthgoonohpfoagaaW.PrintWords Go.Proofs.YthgoonohpfoagaaW.PrintLast Go.Proofs.YthgoonohpfoagaaW.PrintMore
attribute [local go_sem] max2_int min2_int max_two min_two max_three min_three max_four min_four
set_option linter.unusedVariables false
set_option linter.unusedSimpArgs false
set_option maxHeartbeats 8000000
set_option maxRecDepth 100000

def Ffa.f (a0_0 : Int) (l0_1 : List ByteArray) (l0_2 : List Int) (a0_3 : Int) (a0_4 : Int) : Option (Int × List ByteArray × List Int × Int × Int) := (some (([] : List ByteArray) : List ByteArray)).bind fun y103 => (if y103.length + l0_1.length < 8796093022208 then ((some (([] : List Int) : List Int)).bind fun y109 => (if y109.length + l0_2.length < 17592186044416 then (some (a0_0, (y103 ++ l0_1), (y109 ++ l0_2), a0_3, a0_4)) else (none))) else (none))
def Ffa.T1 : Bool × List (List Nat × List Nat) := (true, [([], []), ([], []), ([1], [1]), ([0, 2], [0, 2]), ([], []), ([], []), ([5], [5]), ([4, 6, 3], [4, 6]), ([0, 1, 2, 3, 5, 6], []), ([8, 3, 7, 0, 1, 2, 3, 5, 6], [3, 8]), ([0, 1, 2, 3, 4, 5, 6, 7, 8, 9], []), ([10, 7, 9, 0, 1, 2, 3, 4, 5, 6, 7, 8, 9], [7, 10])])
def Ffa.B1 : List Nat := [0, 0, 2, 7, 0, 0, 32, 127, 111, 511, 1023, 2047]
theorem Ffa.tab1 : rtab .any (opsOf Try.f8 1) = Ffa.T1 := by kernel_rfl
theorem Ffa.bits1 : waitsOk Ffa.T1.2 Ffa.B1 = true := by kernel_rfl
theorem Ffa.calls (O : Int) (ac : Option Addr) (ad : Nat) (I : List ByteArray) (ae : Option Addr) (af : Nat) (M : List Int) (Q : Int) (U : Int) (r1 : Int) (r2 : List ByteArray) (r3 : List Int) (r4 : Int) (r5 : Int) (w : World) (aC : Kd.C Kd.string w ac I.length I) (aD : I.length ≤ ad) (aE : Kd.C (Kd.int .i64) w ae M.length M) (aG : M.length ≤ af) (h : Ffa.f O I M Q U = some (r1, r2, r3, r4, r5)) :
  Calls Try.prog 8 #[.agg #[.int .i64 O, .slice ac I.length ad, .slice ae M.length af, .int .i64 Q, .int .i64 U]] w fun e w' => ∃ aX aY : Value, e = .returned (.agg #[.int .i64 r1, aX, aY, .int .i64 r4, .int .i64 r5]) ∧ Kd.R Kd.string 9 w' w.heap.size (fun _ => True) aX r2 ∧ Kd.R (Kd.int .i64) 2 w' w.heap.size (fun _ => True) aY r3 ∧ Below w.heap.size w w' := by
 have hu26 := Try.underlying26; have ar := aM aC; have bt := aM aD; clear aC aD; have aT := aM aE; have bu := aM aG; clear aE aG; have HB := aM (Qg w.heap.size w); rw [Ffa.f] at h; have H := h; clear h; obtain ⟨ag, au⟩ : ∃ y_ : List ByteArray, y_ = (([] : List ByteArray)) := ⟨_, rfl⟩
 replace H : (if ag.length + I.length < 8796093022208 then ((some (([] : List Int) : List Int)).bind fun ah => (if ah.length + M.length < 17592186044416 then (some (O, (ag ++ I), (ah ++ M), Q, U)) else (none))) else (none)) = some (r1, r2, r3, r4, r5) := rH au H
 have aH := aM au; clear au
 apply iN H; clear H; intro c2 H; have aA := aM c2; clear c2; obtain ⟨V, ao⟩ : ∃ y_ : List ByteArray, y_ = (ag ++ I) := ⟨_, rfl⟩
 first | replace H := rI ao H | rw [← ao] at H
 have av := aM ao; clear ao; obtain ⟨ah, ap⟩ : ∃ y_ : List Int, y_ = (([] : List Int)) := ⟨_, rfl⟩
 first | replace H := rI ap H | rw [← ap] at H
 have aw := aM ap; clear ap
 apply iN H; clear H; intro c3 H; have a5 := aM c3; clear c3; obtain ⟨ai, aq⟩ : ∃ y_ : List Int, y_ = (ah ++ M) := ⟨_, rfl⟩
 first | replace H := rI aq H | rw [← aq] at H
 have aW := aM aq; clear aq; obtain ⟨rfl, rfl, rfl, rfl, rfl⟩ := pE5 H
 go_enter Try.func8, Try.ntmps8
 try go_wp2_with (first | ((with_reducible refine Qa (N := 1) rfl ?_); refine be_ (cs := #[.int .i64 O, .slice ac I.length ad, .slice ae M.length af, .int .i64 Q, .int .i64 U]) (t := 26) ?_; intro E hg w4 aK hb; have z := aM (aK); have bv := gE hg (bP0 HB); have B := gE hg (bP0 HB); replace HB := hS0 HB hb; clear hb aK hg) | ((with_reducible refine Qa (N := 2) rfl ?_); refine be_ (cs := #[.int .i64 0, .slice none 0 0, .slice none 0 0, .int .i64 0, .int .i64 0]) (t := 26) ?_; intro L hg w5 aK hb; have A := aM (aK); have bw := gE hg (bP1 HB B); have D := gE hg (bP1 HB B); replace HB := hS1 HB B hb; have Y := nL hg z; have P := nG hg z; replace z := kB z hb; clear hb aK hg))
 replace z := kD z; replace A := kD A; replace HB := aM (below_drew1 HB.out); refine start_ (n := 12) (S := fun w' => w'.cell? ⟨E, 0, none⟩ = some (.int .i64 O) ∧ w'.cell? ⟨E, 1, none⟩ = some (.slice ac I.length ad) ∧ w'.cell? ⟨E, 2, none⟩ = some (.slice ae M.length af) ∧ w'.cell? ⟨E, 3, none⟩ = some (.int .i64 Q) ∧ w'.cell? ⟨E, 4, none⟩ = some (.int .i64 U)) (ds := [9, 11]) (bl 12 0) (by kernel_rfl) rfl rfl ⟨(QW z.out 0).trans rfl, (QW z.out 1).trans rfl, (QW z.out 2).trans rfl, (QW z.out 3).trans rfl, (QW z.out 4).trans rfl⟩ (fun ay => ?_); refine with_tabW Ffa.tab1 Ffa.bits1 (fun az aP => ?_); generalize w5.drew = w6 at z A HB ay ⊢; refine pu_ 1 4 (bl 12 2) az ?_; refine pu_ 5 8 (bl 12 34) az ?_; refine tk5_ 2 5 (bl 12 38) az aP ay ?_; refine tk5_ 6 9 (bl 12 102) az aP ay ?_; refine join_ (σ := Value × Value × Value) 4 (bl 12 383) (fun s_ => [(3, s_.1), (6, s_.2.1), (7, s_.2.2), (11, .pointer (some ⟨E, 1, none⟩))]) (fun s_ w' => (w'.cell? ⟨E, 0, none⟩ = some (.int .i64 O) ∧ w'.cell? ⟨E, 1, none⟩ = some (.slice ac I.length ad) ∧ w'.cell? ⟨E, 2, none⟩ = some (.slice ae M.length af) ∧ w'.cell? ⟨E, 3, none⟩ = some (.int .i64 Q) ∧ w'.cell? ⟨E, 4, none⟩ = some (.int .i64 U)) ∧ (RA Kd.string 9 w' w s_.2.1 V) ∧ (RA (Kd.int .i64) 2 w' w s_.2.2 ah) ∧ (Aside0 (w'.heap[E]? = some (.cells #[.int .i64 O, .slice ac I.length ad, .slice ae M.length af, .int .i64 Q, .int .i64 U] 26 (0, 0)))) ∧ (Aside0 (w'.heap[L]? = some (.cells #[.int .i64 0, .slice none 0 0, .slice none 0 0, .int .i64 0, .int .i64 0] 26 (0, 0)))) ∧ BA w w') ?_ ?_
 ·clear z A HB; rintro ⟨Z, an, aj⟩ bD ⟨ay, J, F, z, A, HB⟩; (try dsimp only at ay J F z A HB); refine norm_ (a' := ?_) ?_ ?_; rotate_left
  ·simp only [putAll, Act.put, sA, sB, sC]
   rfl
  refine one_ (i := 7) (N := some 10) (bl 12 511) rfl rfl (one_of az.out (by kernel_rfl)) (by decide) (fun K hK => ?_); refine Wg (Kd.int .i64) (w0 := w) w.heap.size (by rfl) (.tmp 7) (.tmp 9) 24 2 (.int .i64 0) 8 rfl Try.underlying24 info2 rfl (by decide) (by omega) aj ah M _ _ _ (fun _ => True) (fun _ => False) rfl rfl ?aO ?aR (fun _ _ h => h) (fun _ h => h.elim) ?aF ?aB ?aS ?aL ?_
  (case aR => exact cO (Q3 aT.out HB.out))
  (case aB => exact (bP2 HB B D))
  (case aF => exact (fun _ _ => trivial))
  (case aO => exact (rP F))
  (case aS => exact (Qv (bP2 HB B D)))
  (case aL => have := a5.out; omega)
  intro bB aZ ho hb hg hat; rw [← aW.out] at ho; replace z := kG z hg F; replace A := kG A hg F; replace J := aM (WZ (rP J) (Qi (rP F)) (by decide) hg); replace HB := aM (hb); have aI := aM (ho); clear F; clear ho hb hg hat; obtain ⟨aa, ab, aJ⟩ := sL J
  (first | subst aJ | obtain ⟨rfl, rfl⟩ := iS aJ)
  obtain ⟨ak, al, aQ⟩ := sL aI
  (first | subst aQ | obtain ⟨rfl, rfl⟩ := iS aQ)
  refine hK.out _ _ ⟨(QW z.out 0).trans rfl, (QW z.out 1).trans rfl, (QW z.out 2).trans rfl, (QW z.out 3).trans rfl, (QW z.out 4).trans rfl⟩ (fun ay => ?_); clear hK K; refine nm_ 10 ?_; refine last_ (i := 9) (N := none) (bl 12 1023) rfl rfl (one_of az.out (by kernel_rfl)) (by decide) (fun K hK => ?_); have hs15 : aZ.cell? ⟨E, 1, none⟩ = some (.slice ac I.length ad) := (QW z.out 1).trans rfl; have hfs15 := Qt z.out 1; have hns15_1 := P.out; have hms15_1 := Y.out; refine skip_ (w1 := ?_) (by rfl) rfl ?_ ?_; rotate_left
  ·go_simp
   rfl
  refine hK.out _ _ ?_; clear hK K; refine pu_ 10 12 (bl 12 2047) az ?_; refine last_ (i := 11) (N := none) (bl 12 4095) rfl rfl (one_of az.out (by kernel_rfl)) (by decide) (fun K hK => ?_); have hs17 : aZ.cell? ⟨E, 2, none⟩ = some (.slice ae M.length af) := (QW z.out 2).trans rfl; have hfs17 := Qt z.out 2; have hns17_1 := P.out; have hms17_1 := Y.out; refine skip_ (w1 := ?_) (by rfl) rfl ?_ ?_; rotate_left
  ·go_simp
   rfl
  refine hK.out _ _ ?_; clear hK K; refine done_ (done_of az.out (by kernel_rfl)) ?_; have bx := Y.out; have bz := P.out; obtain ⟨a6, a7, a8, a9, ba, bb, bc, bd, be, bf⟩ := bG5 z; obtain ⟨bg, bh, bi, bj, bk, bm, bn, bo, bp, bq⟩ := bG5 A
  try go_wp2
  refine bodyPost_ret (results_cell_row rfl _ _ L 26 #[.int .i64 O, .slice aa V.length ab, .slice ak ai.length al, .int .i64 Q, .int .i64 U] (0, 0) _ rfl (by (with_reducible repeat (first | refine Qj ?_ _ | refine Qu ?_ | refine Qz ?_ _)); refine Qy (cs := #[.int .i64 O, .slice aa V.length ab, .slice ak ai.length al, .int .i64 Q, .int .i64 0]) ?_ 4 _ rfl; (with_reducible repeat (first | refine Qj ?_ _ | refine Qu ?_ | refine Qz ?_ _)); refine Qy (cs := #[.int .i64 O, .slice aa V.length ab, .slice ak ai.length al, .int .i64 0, .int .i64 0]) ?_ 3 _ rfl; (with_reducible repeat (first | refine Qj ?_ _ | refine Qu ?_ | refine Qz ?_ _)); refine Qy (cs := #[.int .i64 O, .slice aa V.length ab, .slice none 0 0, .int .i64 0, .int .i64 0]) ?_ 2 _ rfl; (with_reducible repeat (first | refine Qj ?_ _ | refine Qu ?_ | refine Qz ?_ _)); refine Qy (cs := #[.int .i64 O, .slice none 0 0, .slice none 0 0, .int .i64 0, .int .i64 0]) ?_ 1 _ rfl; (with_reducible repeat (first | refine Qj ?_ _ | refine Qu ?_ | refine Qz ?_ _)); refine Qy (cs := #[.int .i64 0, .slice none 0 0, .slice none 0 0, .int .i64 0, .int .i64 0]) ?_ 0 _ rfl; (with_reducible repeat (first | refine Qj ?_ _ | refine Qu ?_ | refine Qz ?_ _)); refine Q2 ?_ P.out _; (with_reducible repeat (first | refine Qj ?_ _ | refine Qu ?_ | refine Qz ?_ _)); refine Q2 ?_ P.out _; (with_reducible repeat (first | refine Qj ?_ _ | refine Qu ?_ | refine Qz ?_ _)); exact A.out) Try.underlying26 rfl (by kernel_rfl)) rfl ?_; exact ⟨_, _, eW, by (with_reducible repeat (first | apply WU | apply WP | apply Q4)); exact Q7 (rF L 4 (rF L 3 (rF L 2 (rF L 1 (rF L 0 (rF E 2 (rF E 1 (Qe (Qe J.out z.out (by decide)) A.out (by decide)) (fun _ hk => hk.1.2) (.slice aa V.length ab)) (fun _ hk => hk.1.2) (.slice ak ai.length al)) (fun _ hk => hk.2) (.int .i64 O)) (fun _ hk => hk.2) (.slice aa V.length ab)) (fun _ hk => hk.2) (.slice ak ai.length al)) (fun _ hk => hk.2) (.int .i64 Q)) (fun _ hk => hk.2) (.int .i64 U)) (fun _ hk => trivial), by (with_reducible repeat (first | apply WU | apply WP | apply Q4)); exact Q7 (rF L 4 (rF L 3 (rF L 2 (rF L 1 (rF L 0 (rF E 2 (rF E 1 (Qe (Qe aI.out z.out (by decide)) A.out (by decide)) (fun _ hk => hk.1.2) (.slice aa V.length ab)) (fun _ hk => hk.1.2) (.slice ak ai.length al)) (fun _ hk => hk.2) (.int .i64 O)) (fun _ hk => hk.2) (.slice aa V.length ab)) (fun _ hk => hk.2) (.slice ak ai.length al)) (fun _ hk => hk.2) (.int .i64 Q)) (fun _ hk => hk.2) (.int .i64 U)) (fun _ hk => trivial), bS2 HB.out B.out D.out⟩
 intro aN; refine two_ (i := 0) (j := 4) (Ni := some 3) (Nj := some 7) (bl 12 103) (bl 12 118) rfl rfl rfl rfl (two_of az.out (by kernel_rfl)) (by decide) (by decide) (fun K hK => ?_) (fun K hK => ?_)
 ·refine lt_ Kd.string 9 3 ([] : List ByteArray) [] (Reps.none _ _) ?_; intro Z w7 am hb
  replace am := nW aH am
  have G := rW am (bP2 HB B D); replace z := kB z hb; replace A := kB A hb; replace HB := hS2 HB B D hb; clear hb am; refine hK.out _ _ ⟨(QW z.out 0).trans rfl, (QW z.out 1).trans rfl, (QW z.out 2).trans rfl, (QW z.out 3).trans rfl, (QW z.out 4).trans rfl⟩ (fun ay => ?_); clear hK K; refine nm_ 3 ?_; refine two_ (i := 3) (j := 4) (Ni := some 6) (Nj := some 7) (bl 12 111) (bl 12 119) rfl rfl rfl rfl (two_of az.out (by kernel_rfl)) (by decide) (by decide) (fun K hK => ?_) (fun K hK => ?_)
  ·refine Wg Kd.string (w0 := w) w.heap.size (by rfl) (.tmp 3) (.tmp 5) 23 9 (.string ⟨#[]⟩) 16 rfl Try.underlying23 info9 rfl (by decide) (by omega) Z ag I _ _ _ (fun _ => True) (fun _ => False) rfl rfl ?aO ?aR (fun _ _ h => h) (fun _ h => h.elim) ?aF ?aB ?aS ?aL ?_
   (case aR => exact cO (Q3 ar.out HB.out))
   (case aB => exact (bP2 HB B D))
   (case aF => exact (fun _ _ => trivial))
   (case aO => exact (rP G))
   (case aS => exact (Qv (bP2 HB B D)))
   (case aL => have := aA.out; omega)
   intro an w9 ho hb hg hat; rw [← av.out] at ho; replace z := kG z hg G; replace A := kG A hg G; replace HB := aM (hb); have J := aM (ho); clear G; clear ho hb hg hat; refine hK.out _ _ ⟨(QW z.out 0).trans rfl, (QW z.out 1).trans rfl, (QW z.out 2).trans rfl, (QW z.out 3).trans rfl, (QW z.out 4).trans rfl⟩ (fun ay => ?_); clear hK K; refine nm_ 6 ?_; refine pu_ 8 11 (bl 12 367) az ?_; refine one_ (i := 4) (N := some 7) (bl 12 383) rfl rfl (one_of az.out (by kernel_rfl)) (by decide) (fun K hK => ?_); refine lt_ (Kd.int .i64) 2 7 ([] : List Int) [] (Reps.none _ _) ?_; intro aj bE ax hb
   replace ax := nW aw ax
   replace J := rB J hb; have F := rW ax (bP2 HB B D); replace z := kB z hb; replace A := kB A hb; replace HB := hS2 HB B D hb; clear hb ax; refine hK.out _ _ ⟨(QW z.out 0).trans rfl, (QW z.out 1).trans rfl, (QW z.out 2).trans rfl, (QW z.out 3).trans rfl, (QW z.out 4).trans rfl⟩ (fun ay => ?_); clear hK K; refine nm_ 7 ?_; exact norm_ (by simp only [putAll, Act.put, sA, sB, sC]) (aN (Z, an, aj) _ ⟨ay, rQ J, rQ F, kQ z, kQ A, bT2 HB B D⟩)
  ·refine lt_ (Kd.int .i64) 2 7 ([] : List Int) [] (Reps.none _ _) ?_; intro aj w9 W hb
   replace W := nW aw W
   replace G := rB G hb; have F := rW W (bP2 HB B D); replace z := kB z hb; replace A := kB A hb; replace HB := hS2 HB B D hb; clear hb W; refine hK.out _ _ ⟨(QW z.out 0).trans rfl, (QW z.out 1).trans rfl, (QW z.out 2).trans rfl, (QW z.out 3).trans rfl, (QW z.out 4).trans rfl⟩ (fun ay => ?_); clear hK K; refine nm_ 7 ?_; refine one_ (i := 3) (N := some 6) (bl 12 127) rfl rfl (one_of az.out (by kernel_rfl)) (by decide) (fun K hK => ?_); refine Wg Kd.string (w0 := w) w.heap.size (by rfl) (.tmp 3) (.tmp 5) 23 9 (.string ⟨#[]⟩) 16 rfl Try.underlying23 info9 rfl (by decide) (by omega) Z ag I _ _ _ (fun _ => True) (fun _ => False) rfl rfl ?aO ?aR (fun _ _ h => h) (fun _ h => h.elim) ?aF ?aB ?aS ?aL ?_
   (case aR => exact cO (Q3 ar.out HB.out))
   (case aB => exact (bP2 HB B D))
   (case aF => exact (fun _ _ => trivial))
   (case aO => exact (rP G))
   (case aS => exact (Qv (bP2 HB B D)))
   (case aL => have := aA.out; omega)
   intro an bs ho hb hg hat; rw [← av.out] at ho; replace z := kG z hg G; replace A := kG A hg G; replace F := aM (WZ (rP F) (Qi (rP G)) (by decide) hg); replace HB := aM (hb); have J := aM (ho); clear G; clear ho hb hg hat; refine hK.out _ _ ⟨(QW z.out 0).trans rfl, (QW z.out 1).trans rfl, (QW z.out 2).trans rfl, (QW z.out 3).trans rfl, (QW z.out 4).trans rfl⟩ (fun ay => ?_); clear hK K; refine nm_ 6 ?_; refine pu_ 8 11 (bl 12 383) az ?_; exact norm_ (by simp only [putAll, Act.put, sA, sB, sC]) (aN (Z, an, aj) _ ⟨ay, rQ J, rQ F, kQ z, kQ A, bT2 HB B D⟩)
 ·refine lt_ (Kd.int .i64) 2 7 ([] : List Int) [] (Reps.none _ _) ?_; intro aj w7 am hb
  replace am := nW aw am
  have F := rW am (bP2 HB B D); replace z := kB z hb; replace A := kB A hb; replace HB := hS2 HB B D hb; clear hb am; refine hK.out _ _ ⟨(QW z.out 0).trans rfl, (QW z.out 1).trans rfl, (QW z.out 2).trans rfl, (QW z.out 3).trans rfl, (QW z.out 4).trans rfl⟩ (fun ay => ?_); clear hK K; refine nm_ 7 ?_; refine one_ (i := 0) (N := some 3) (bl 12 119) rfl rfl (one_of az.out (by kernel_rfl)) (by decide) (fun K hK => ?_); refine lt_ Kd.string 9 3 ([] : List ByteArray) [] (Reps.none _ _) ?_; intro Z w9 W hb
  replace W := nW aH W
  replace F := rB F hb; have G := rW W (bP2 HB B D); replace z := kB z hb; replace A := kB A hb; replace HB := hS2 HB B D hb; clear hb W; refine hK.out _ _ ⟨(QW z.out 0).trans rfl, (QW z.out 1).trans rfl, (QW z.out 2).trans rfl, (QW z.out 3).trans rfl, (QW z.out 4).trans rfl⟩ (fun ay => ?_); clear hK K; refine nm_ 3 ?_; refine one_ (i := 3) (N := some 6) (bl 12 127) rfl rfl (one_of az.out (by kernel_rfl)) (by decide) (fun K hK => ?_); refine Wg Kd.string (w0 := w) w.heap.size (by rfl) (.tmp 3) (.tmp 5) 23 9 (.string ⟨#[]⟩) 16 rfl Try.underlying23 info9 rfl (by decide) (by omega) Z ag I _ _ _ (fun _ => True) (fun _ => False) rfl rfl ?aO ?aR (fun _ _ h => h) (fun _ h => h.elim) ?aF ?aB ?aS ?aL ?_
  (case aR => exact cO (Q3 ar.out HB.out))
  (case aB => exact (bP2 HB B D))
  (case aF => exact (fun _ _ => trivial))
  (case aO => exact (rP G))
  (case aS => exact (Qv (bP2 HB B D)))
  (case aL => have := aA.out; omega)
  intro an bs ho hb hg hat; rw [← av.out] at ho; replace z := kG z hg G; replace A := kG A hg G; replace F := aM (WZ (rP F) (Qi (rP G)) (by decide) hg); replace HB := aM (hb); have J := aM (ho); clear G; clear ho hb hg hat; refine hK.out _ _ ⟨(QW z.out 0).trans rfl, (QW z.out 1).trans rfl, (QW z.out 2).trans rfl, (QW z.out 3).trans rfl, (QW z.out 4).trans rfl⟩ (fun ay => ?_); clear hK K; refine nm_ 6 ?_; refine pu_ 8 11 (bl 12 383) az ?_; exact norm_ (by simp only [putAll, Act.put, sA, sB, sC]) (aN (Z, an, aj) _ ⟨ay, rQ J, rQ F, kQ z, kQ A, bT2 HB B D⟩)
def Fcc.f (a0 : Int) (a1 : Int) : Option (Int × Int) := if ((decide (a0 ≥ 0)) != (decide (a1 ≥ 0))) = true then (if ((decide ((wrap64 (a0 - a1)) ≥ 0)) != (decide (a0 ≥ 0))) = true then (some (0, 10)) else (some (wrap64 (a0 - a1), 0))) else (some (wrap64 (a0 - a1), 0))
theorem Fcc.calls (z : Int) (A : Int) (M : Int) (N : Int) (w : World) (h : Fcc.f z A = some (M, N)) :
  Calls Try.prog 102 #[.int .i64 z, .int .i64 A] w fun e w' => e = .returned (.tuple #[.int .i64 M, .int .i64 N]) ∧ Drawn0 w w' := by
 rw [Fcc.f] at h; have H := h; clear h
 apply iB H <;> clear H <;> intro B H
 ·have E : ((decide (z ≥ 0)) != (decide (A ≥ 0))) = true := B
  (try (have F : decide ((decide (z ≥ 0)) = (decide (A ≥ 0))) = false := by simpa using B))
  (try (have G : ((decide (z ≥ 0)) == (decide (A ≥ 0))) = false := by simpa using B))
  (try (have O : ¬ ((decide (z ≥ 0)) = (decide (A ≥ 0))) := by simpa using B))
  clear B
  apply iB H <;> clear H <;> intro D H
  ·have I : ((decide ((wrap64 (z - A)) ≥ 0)) != (decide (z ≥ 0))) = true := D
   (try (have J : decide ((decide ((wrap64 (z - A)) ≥ 0)) = (decide (z ≥ 0))) = false := by simpa using D))
   (try (have L : ((decide ((wrap64 (z - A)) ≥ 0)) == (decide (z ≥ 0))) = false := by simpa using D))
   (try (have P : ¬ ((decide ((wrap64 (z - A)) ≥ 0)) = (decide (z ≥ 0))) := by simpa using D))
   clear D; obtain ⟨rfl, rfl⟩ := pE2 H
   go_enter Try.func102, Try.ntmps102
   go_wp2
   go_ret2
   exact ⟨eVl, dRw⟩
  ·have I : ((decide ((wrap64 (z - A)) ≥ 0)) != (decide (z ≥ 0))) = false := by simpa using D
   (try (have J : decide ((decide ((wrap64 (z - A)) ≥ 0)) = (decide (z ≥ 0))) = true := by simpa using D))
   (try (have L : ((decide ((wrap64 (z - A)) ≥ 0)) == (decide (z ≥ 0))) = true := by simpa using D))
   clear D; obtain ⟨rfl, rfl⟩ := pE2 H
   go_enter Try.func102, Try.ntmps102
   go_wp2
   go_ret2
   exact ⟨eVl, dRw⟩
 ·have E : ((decide (z ≥ 0)) != (decide (A ≥ 0))) = false := by simpa using B
  (try (have F : decide ((decide (z ≥ 0)) = (decide (A ≥ 0))) = true := by simpa using B))
  (try (have G : ((decide (z ≥ 0)) == (decide (A ≥ 0))) = true := by simpa using B))
  clear B; obtain ⟨rfl, rfl⟩ := pE2 H
  go_enter Try.func102, Try.ntmps102
  go_wp2
  go_ret2
  exact ⟨eVl, dRw⟩
def Fca.f (a0 : Int) : Option (Int × Int) := (Fcc.f 0 a0).bind fun bt115 => (some (bt115.1, bt115.2))
theorem Fca.calls (B : Int) (E : Int) (F : Int) (w : World) (h : Fca.f B = some (E, F)) :
  Calls Try.prog 90 #[.int .i64 B] w fun e w' => e = .returned (.tuple #[.int .i64 E, .int .i64 F]) ∧ Drawn0 w w' := by
 rw [Fca.f] at h; have H := h; clear h; replace H := QZ H; obtain ⟨⟨z, A⟩, D, H⟩ := H; replace H : (some (z, A)) = some (E, F) := H; have G := aM D; clear D; obtain ⟨rfl, rfl⟩ := pE2 H
 go_enter Try.func90, Try.ntmps90
 go_wp2_with (first | ((with_reducible refine Qb (f := 102) rfl ?_); refine gL_ (some 5) Try.func102 #[.int .i64 0, .int .i64 B] ?_; (with_reducible refine (Fcc.calls 0 B z A _ G.out).mono ?_); rintro e w' ⟨rfl, ⟨nd, rfl⟩⟩; refine ⟨_, rfl, ?_⟩))
 go_ret2
 exact ⟨eVl, dRw⟩
def Fbb.f (a0 : Int) : Option (Int × Int) := if a0 < 0 then ((Fca.f a0).bind fun bt117 => (some (bt117.1, bt117.2))) else (some (a0, 0))
theorem Fbb.calls (A : Int) (F : Int) (G : Int) (w : World) (h : Fbb.f A = some (F, G)) :
  Calls Try.prog 70 #[.int .i64 A] w fun e w' => e = .returned (.tuple #[.int .i64 F, .int .i64 G]) ∧ Drawn0 w w' := by
 rw [Fbb.f] at h; have H := h; clear h
 apply iB H <;> clear H <;> intro z H
 ·have I := dT z; clear z; replace H := QZ H; obtain ⟨⟨B, D⟩, E, H⟩ := H; replace H : (some (B, D)) = some (F, G) := H; have J := aM E; clear E; obtain ⟨rfl, rfl⟩ := pE2 H
  go_enter Try.func70, Try.ntmps70
  go_wp2_with (first | ((with_reducible refine Qb (f := 90) rfl ?_); refine gL_ (some 7) Try.func90 #[.int .i64 A] ?_; (with_reducible refine (Fca.calls A B D _ J.out).mono ?_); rintro e w' ⟨rfl, ⟨nd, rfl⟩⟩; refine ⟨_, rfl, ?_⟩))
  go_ret2
  exact ⟨eVl, dRw⟩
 ·have I := decide_eq_false z; clear z; obtain ⟨rfl, rfl⟩ := pE2 H
  go_enter Try.func70, Try.ntmps70
  go_wp2
  go_ret2
  exact ⟨eVl, dRw⟩
def Fbc.f (a0 : Int) (a1 : Int) : Option (Int × Int) := if ((decide (a0 ≥ 0)) == (decide (a1 ≥ 0))) = true then (if ((decide ((wrap64 (a0 + a1)) ≥ 0)) != (decide (a0 ≥ 0))) = true then (some (0, 10)) else (some (wrap64 (a0 + a1), 0))) else (some (wrap64 (a0 + a1), 0))
theorem Fbc.calls (z : Int) (A : Int) (M : Int) (N : Int) (w : World) (h : Fbc.f z A = some (M, N)) :
  Calls Try.prog 71 #[.int .i64 z, .int .i64 A] w fun e w' => e = .returned (.tuple #[.int .i64 M, .int .i64 N]) ∧ Drawn0 w w' := by
 rw [Fbc.f] at h; have H := h; clear h
 apply iB H <;> clear H <;> intro B H
 ·have E : ((decide (z ≥ 0)) == (decide (A ≥ 0))) = true := B
  (try (have F : decide ((decide (z ≥ 0)) = (decide (A ≥ 0))) = true := by simpa using B))
  (try (have G : ((decide (z ≥ 0)) == (decide (A ≥ 0))) = true := by simpa using B))
  clear B
  apply iB H <;> clear H <;> intro D H
  ·have I : ((decide ((wrap64 (z + A)) ≥ 0)) != (decide (z ≥ 0))) = true := D
   (try (have J : decide ((decide ((wrap64 (z + A)) ≥ 0)) = (decide (z ≥ 0))) = false := by simpa using D))
   (try (have L : ((decide ((wrap64 (z + A)) ≥ 0)) == (decide (z ≥ 0))) = false := by simpa using D))
   (try (have O : ¬ ((decide ((wrap64 (z + A)) ≥ 0)) = (decide (z ≥ 0))) := by simpa using D))
   clear D; obtain ⟨rfl, rfl⟩ := pE2 H
   go_enter Try.func71, Try.ntmps71
   go_wp2
   go_ret2
   exact ⟨eVl, dRw⟩
  ·have I : ((decide ((wrap64 (z + A)) ≥ 0)) != (decide (z ≥ 0))) = false := by simpa using D
   (try (have J : decide ((decide ((wrap64 (z + A)) ≥ 0)) = (decide (z ≥ 0))) = true := by simpa using D))
   (try (have L : ((decide ((wrap64 (z + A)) ≥ 0)) == (decide (z ≥ 0))) = true := by simpa using D))
   clear D; obtain ⟨rfl, rfl⟩ := pE2 H
   go_enter Try.func71, Try.ntmps71
   go_wp2
   go_ret2
   exact ⟨eVl, dRw⟩
 ·have E : ((decide (z ≥ 0)) == (decide (A ≥ 0))) = false := by simpa using B
  (try (have F : decide ((decide (z ≥ 0)) = (decide (A ≥ 0))) = false := by simpa using B))
  (try (have G : ((decide (z ≥ 0)) == (decide (A ≥ 0))) = false := by simpa using B))
  (try (have P : ¬ ((decide (z ≥ 0)) = (decide (A ≥ 0))) := by simpa using B))
  clear B; obtain ⟨rfl, rfl⟩ := pE2 H
  go_enter Try.func71, Try.ntmps71
  go_wp2
  go_ret2
  exact ⟨eVl, dRw⟩
def Fd.l0 : Nat → Int → List Int → Int → Int → Option (Int × Int)
 | 0, _, _, _, _ => none
 | k + 1, x4, x9, x10, x11 => if x11 < x10 then (if 0 ≤ x11 then (if x11 < (x9.length : Int) then ((Fbb.f (rd x9 x11)).bind fun bt120 => (if bt120.2 = 0 then ((Fbc.f x4 bt120.1).bind fun bt122 => (if bt122.2 = 0 then (Fd.l0 k bt122.1 x9 x10 (wrap64 (x11 + 1))) else (some (0, bt122.2)))) else (some (0, bt120.2)))) else (none)) else (none)) else (some (x4, 0))
def Fd.f (k : Nat) (l0 : List Int) : Option (Int × Int) := Fd.l0 k 0 l0 (l0.length : Int) 0
theorem Fd.mono_l : ∀ k, (∀ y0 y1 y2 y3, LeO (Fd.l0 k y0 y1 y2 y3) (Fd.l0 (k + 1) y0 y1 y2 y3))
 | 0 => fun _ _ _ _ r h => by simp [Fd.l0] at h
 | k + 1 => by
  have ih0 := Fd.mono_l k
  ·intro y0 y1 y2 y3
   unfold Fd.l0
   repeat' first | (with_reducible first | exact ih0 _ _ _ _ | exact lA | apply lI | refine lB ?_ fun _ => ?_) | exact lN _ | apply lI | refine lB ?_ fun _ => ?_
theorem Fd.mono : ∀ a0 k, LeO (Fd.f k a0) (Fd.f (k + 1) a0) := by
 intro a0 k; have ih0 := Fd.mono_l k
 unfold Fd.f
 repeat' first | (with_reducible first | exact ih0 _ _ _ _ | exact lA | apply lI | refine lB ?_ fun _ => ?_) | exact lN _ | apply lI | refine lB ?_ fun _ => ?_
theorem Fd.calls (k : Nat) (A0 : Option Addr) (c0 : Nat) (D : List Int) (Q : Int) (R : Int) (w : World) (aa : Kd.C (Kd.int .i64) w A0 D.length D) (ab : D.length ≤ c0) (h : Fd.f k D = some (Q, R)) :
  Calls Try.prog 46 #[.slice A0 D.length c0] w fun e w' => e = .returned (.tuple #[.int .i64 Q, .int .i64 R]) ∧ Drawn0 w w' := by
 have U := aM aa; have ar := aM ab; clear aa ab; rw [Fd.f] at h; have H := h; clear h; have H' := aM H; clear H
 go_enter Try.func46, Try.ntmps46
 go_wp2
 go_loopg [4, 11] k (fun kq v4 am w' => ∃ (E : Int) (z : Int), v4 = .int .i64 E ∧ am = .int .i64 z ∧ Aside0 (Fd.l0 kq E D (D.length : Int) z = some (Q, R)) ∧ Aside0 (kq ≤ k) ∧ Drawn0 w w')
 case atStart => exact ⟨(0), (0), sI, sI, H', ⟨Nat.le_refl _⟩, dRw⟩
 case round =>
  clear H'; obtain ⟨E, z, rfl, rfl, HA, ak, ⟨m1, rfl⟩⟩ := hrel; cases gk with
  | zero => exact absurd HA.out (by simp [Fd.l0])
  | succ k1 =>
   have H := HA.out; clear HA; simp only [Fd.l0] at H
   apply iB H <;> clear H <;> intro P H
   ·have ae := dT P; clear P
    apply iN H; clear H; intro Y H; have ap := dT Y; clear Y
    apply iN H; clear H; intro Z H; have aq := dT Z; clear Z; replace H := QZ H; obtain ⟨⟨F, G⟩, ac, H⟩ := H; replace H : (if G = 0 then ((Fbc.f E F).bind fun M => (if M.2 = 0 then (Fd.l0 k1 M.1 D (D.length : Int) (wrap64 (z + 1))) else (some (0, M.2)))) else (some (0, G))) = some (Q, R) := H; have A5 := aM ac; clear ac
    apply iB H <;> clear H <;> intro V H
    ·obtain ⟨ag, ah⟩ := bq V; clear V; replace H := QZ H; obtain ⟨⟨N, I⟩, ad, H⟩ := H; replace H : (if I = 0 then (Fd.l0 k1 N D (D.length : Int) (wrap64 (z + 1))) else (some (0, I))) = some (Q, R) := H; have A7 := aM ad; clear ad
     apply iB H <;> clear H <;> intro W H
     ·obtain ⟨ai, aj⟩ := bq W; clear W; have H' := aM H; clear H; obtain ⟨⟨O, J, L⟩, A, B⟩ := xAt (Kd.at_int U.out) z; cases J
      go_wp2_with (first | ((with_reducible refine Qb (f := 70) rfl ?_); refine gL_ (some 17) Try.func70 #[.int .i64 (rd D z)] ?_; (with_reducible refine (Fbb.calls (rd D z) F G _ A5.out).mono ?_); rintro e w' ⟨rfl, ⟨nd, rfl⟩⟩; refine ⟨_, rfl, ?_⟩) | ((with_reducible refine Qb (f := 71) rfl ?_); refine gL_ (some 26) Try.func71 #[.int .i64 E, .int .i64 F] ?_; (with_reducible refine (Fbc.calls E F N I _ A7.out).mono ?_); rintro e w' ⟨rfl, ⟨nd, rfl⟩⟩; refine ⟨_, rfl, ?_⟩))
      go_roundg k1
      case measure => have := ak.out; omega
      case rel => exact ⟨(N), (wrap64 (z + 1)), sI, sI, H', ⟨by have := ak.out; omega⟩, dRw⟩
     ·obtain ⟨ai, aj⟩ := bn W; obtain ⟨rfl, rfl⟩ := pE2 H; obtain ⟨⟨O, J, L⟩, A, B⟩ := xAt (Kd.at_int U.out) z; cases J
      go_wp2_with (first | ((with_reducible refine Qb (f := 70) rfl ?_); refine gL_ (some 17) Try.func70 #[.int .i64 (rd D z)] ?_; (with_reducible refine (Fbb.calls (rd D z) F G _ A5.out).mono ?_); rintro e w' ⟨rfl, ⟨nd, rfl⟩⟩; refine ⟨_, rfl, ?_⟩) | ((with_reducible refine Qb (f := 71) rfl ?_); refine gL_ (some 26) Try.func71 #[.int .i64 E, .int .i64 F] ?_; (with_reducible refine (Fbc.calls E F N I _ A7.out).mono ?_); rintro e w' ⟨rfl, ⟨nd, rfl⟩⟩; refine ⟨_, rfl, ?_⟩))
      go_ret2
      exact ⟨eVl, dRw⟩
    ·obtain ⟨ag, ah⟩ := bn V; obtain ⟨rfl, rfl⟩ := pE2 H; obtain ⟨⟨O, J, L⟩, A, B⟩ := xAt (Kd.at_int U.out) z; cases J
     go_wp2_with (first | ((with_reducible refine Qb (f := 70) rfl ?_); refine gL_ (some 17) Try.func70 #[.int .i64 (rd D z)] ?_; (with_reducible refine (Fbb.calls (rd D z) F G _ A5.out).mono ?_); rintro e w' ⟨rfl, ⟨nd, rfl⟩⟩; refine ⟨_, rfl, ?_⟩))
     go_ret2
     exact ⟨eVl, dRw⟩
   ·have ae := decide_eq_false P; clear P; obtain ⟨rfl, rfl⟩ := pE2 H
    go_wp2
    go_ret2
    exact ⟨eVl, dRw⟩
mutual
def Fea.j0 : Nat → Int → Bool → Option (Bool)
 | 0, _, _ => none
 | k + 1, x0, x3 => if x3 = true then (Fea.j1 k x0 x3) else (if x0 ≥ 97 then (if x0 ≤ 122 then (Fea.j1 k x0 (decide (x0 ≤ 122))) else (Fea.j1 k x0 (x0 == 95))) else (Fea.j1 k x0 (x0 == 95)))
def Fea.j1 : Nat → Int → Bool → Option (Bool)
 | 0, _, _ => none
 | k + 1, x0, x3 => if x3 = true then (some true) else (if x0 ≥ 913 then (Fea.j2 k x0 (decide (x0 ≤ 929))) else (Fea.j2 k x0 false))
def Fea.j2 : Nat → Int → Bool → Option (Bool)
 | 0, _, _ => none
 | k + 1, x0, x18 => if x18 = true then (some true) else (if x0 ≥ 931 then (Fea.j3 k x0 (decide (x0 ≤ 937))) else (Fea.j3 k x0 false))
def Fea.j3 : Nat → Int → Bool → Option (Bool)
 | 0, _, _ => none
 | k + 1, x0, x18 => if x18 = true then (some true) else (if x0 ≥ 945 then (if x0 ≤ 969 then (some true) else (some false)) else (some false))
end
def Fea.f (k : Nat) (a0 : Int) : Option (Bool) := if a0 ≥ 65 then (Fea.j0 k a0 (decide (a0 ≤ 90))) else (Fea.j0 k a0 false)
theorem Fea.mono_l : ∀ k, (∀ y0 y1, LeO (Fea.j0 k y0 y1) (Fea.j0 (k + 1) y0 y1)) ∧ (∀ y0 y1, LeO (Fea.j1 k y0 y1) (Fea.j1 (k + 1) y0 y1)) ∧ (∀ y0 y1, LeO (Fea.j2 k y0 y1) (Fea.j2 (k + 1) y0 y1)) ∧ (∀ y0 y1, LeO (Fea.j3 k y0 y1) (Fea.j3 (k + 1) y0 y1))
 | 0 => ⟨fun _ _ r h => by simp [Fea.j0] at h, fun _ _ r h => by simp [Fea.j1] at h, fun _ _ r h => by simp [Fea.j2] at h, fun _ _ r h => by simp [Fea.j3] at h⟩
 | k + 1 => by
  obtain ⟨ih0, ih1, ih2, ih3⟩ := Fea.mono_l k; refine ⟨?_, ?_, ?_, ?_⟩
  ·intro y0 y1
   unfold Fea.j0
   repeat' first | (with_reducible first | exact ih0 _ _ | exact ih1 _ _ | exact ih2 _ _ | exact ih3 _ _ | exact lA | apply lI | refine lB ?_ fun _ => ?_) | exact lN _ | apply lI | refine lB ?_ fun _ => ?_
  ·intro y0 y1
   unfold Fea.j1
   repeat' first | (with_reducible first | exact ih0 _ _ | exact ih1 _ _ | exact ih2 _ _ | exact ih3 _ _ | exact lA | apply lI | refine lB ?_ fun _ => ?_) | exact lN _ | apply lI | refine lB ?_ fun _ => ?_
  ·intro y0 y1
   unfold Fea.j2
   repeat' first | (with_reducible first | exact ih0 _ _ | exact ih1 _ _ | exact ih2 _ _ | exact ih3 _ _ | exact lA | apply lI | refine lB ?_ fun _ => ?_) | exact lN _ | apply lI | refine lB ?_ fun _ => ?_
  ·intro y0 y1
   unfold Fea.j3
   repeat' first | (with_reducible first | exact ih0 _ _ | exact ih1 _ _ | exact ih2 _ _ | exact ih3 _ _ | exact lA | apply lI | refine lB ?_ fun _ => ?_) | exact lN _ | apply lI | refine lB ?_ fun _ => ?_
theorem Fea.mono : ∀ a0 k, LeO (Fea.f k a0) (Fea.f (k + 1) a0) := by
 intro a0 k; obtain ⟨ih0, ih1, ih2, ih3⟩ := Fea.mono_l k
 unfold Fea.f
 repeat' first | (with_reducible first | exact ih0 _ _ | exact ih1 _ _ | exact ih2 _ _ | exact ih3 _ _ | exact lA | apply lI | refine lB ?_ fun _ => ?_) | exact lN _ | apply lI | refine lB ?_ fun _ => ?_
theorem Fea.calls (k : Nat) (z : Int) (r : Bool) (w : World) (h : Fea.f k z = some r) :
  Calls Try.prog 91 #[.int .i32 z] w fun e w' => e = .returned (.bool r) ∧ Drawn0 w w' := by
 rw [Fea.f] at h; have H := h; clear h; have W := aM H; clear H
 go_enter Try.func91, Try.ntmps91
 go_upto_region 1 with (fail)
 go_cut [3] (fun v3 wc => ∃ (kq : Nat) (M : Bool), v3 = .bool M ∧ Aside0 (Fea.j0 kq z M = some r) ∧ Aside0 (kq ≤ k) ∧ Drawn0 w wc)
 case first =>
  have H := W.out; clear W
  apply iB H <;> clear H <;> intro R H
  ·have E := dT R; clear R
   (first | rw [E] | (simp only [i64_w, i32_w]; rw [E]) | skip)
   have H' := aM H; clear H
   go_wp2
   go_meet
   case rel => exact ⟨_, (decide (z ≤ 90)), sI, H', lE, dRw⟩
  ·have E := decide_eq_false R; clear R
   (first | rw [E] | (simp only [i64_w, i32_w]; rw [E]) | skip)
   have H' := aM H; clear H
   go_wp2
   go_meet
   case rel => exact ⟨_, (false), sI, H', lE, dRw⟩
 case rest =>
  clear W
  obtain ⟨kq, M, rfl, HA, HJ1, ⟨mc1, rfl⟩⟩ := hcut; cases kq with
  | zero => exact absurd HA.out (by simp [Fea.j0])
  | succ ah =>
   have H := HA.out; clear HA; simp only [Fea.j0] at H; have Y := aM H; clear H
   go_upto_if 3 with (fail)
   go_cut [3] (fun v3 wc => ∃ (kq : Nat) (N : Bool), v3 = .bool N ∧ Aside0 (Fea.j1 kq z N = some r) ∧ Aside0 (kq ≤ ah) ∧ Drawn0 w wc)
   case first =>
    have H := Y.out; clear Y
    by_cases c5 : M = true
    ·subst c5
     rw [if_pos rfl] at H; have H' := aM H; clear H
     go_wp2
     go_meet
     case rel => exact ⟨_, (true), sI, H', ⟨by have := HJ1.out; first | omega | exact Nat.le_refl _⟩, dRw⟩
    ·replace c5 := Qc c5; subst c5
     rw [if_neg nF] at H
     apply iB H <;> clear H <;> intro U H
     ·have F := dT U; clear U
      (first | rw [F] | (simp only [i64_w, i32_w]; rw [F]) | skip)
      apply iB H <;> clear H <;> intro V H
      ·have ag := dT V; clear V; have H' := aM H; clear H
       go_wp2
       go_meet
       case rel => exact ⟨_, (decide (z ≤ 122)), sI, H', ⟨by have := HJ1.out; first | omega | exact Nat.le_refl _⟩, dRw⟩
      ·have ag := decide_eq_false V; clear V; have H' := aM H; clear H
       go_wp2
       go_meet
       case rel => exact ⟨_, ((z == 95)), sI, H', ⟨by have := HJ1.out; first | omega | exact Nat.le_refl _⟩, dRw⟩
     ·have F := decide_eq_false U; clear U
      (first | rw [F] | (simp only [i64_w, i32_w]; rw [F]) | skip)
      have H' := aM H; clear H
      go_wp2
      go_meet
      case rel => exact ⟨_, ((z == 95)), sI, H', ⟨by have := HJ1.out; first | omega | exact Nat.le_refl _⟩, dRw⟩
   case rest =>
    clear Y
    obtain ⟨kq, N, rfl, HA, HJ3, ⟨mc3, rfl⟩⟩ := hcut; cases kq with
    | zero => exact absurd HA.out (by simp [Fea.j1])
    | succ ai =>
     have H := HA.out; clear HA; simp only [Fea.j1] at H
     by_cases c8 : N = true
     ·subst c8
      rw [if_pos rfl] at H; obtain rfl := Qx H
      go_wp2
      go_ret
      exact ⟨eVl, dRw⟩
     ·replace c8 := Qc c8; subst c8
      rw [if_neg nF] at H; have Z := aM H; clear H
      go_upto_region 5 with (fail)
      go_cut [18] (fun aa wc => ∃ (kq : Nat) (D : Bool), aa = .bool D ∧ Aside0 (Fea.j2 kq z D = some r) ∧ Aside0 (kq ≤ ai) ∧ Drawn0 w wc)
      case first =>
       have H := Z.out; clear Z
       apply iB H <;> clear H <;> intro G H
       ·have A := dT G; clear G
        (first | rw [A] | (simp only [i64_w, i32_w]; rw [A]) | skip)
        have H' := aM H; clear H
        go_wp2
        go_meet
        case rel => exact ⟨_, (decide (z ≤ 929)), sI, H', ⟨by have := HJ1.out; have := HJ3.out; first | omega | exact Nat.le_refl _⟩, dRw⟩
       ·have A := decide_eq_false G; clear G
        (first | rw [A] | (simp only [i64_w, i32_w]; rw [A]) | skip)
        have H' := aM H; clear H
        go_wp2
        go_meet
        case rel => exact ⟨_, (false), sI, H', ⟨by have := HJ1.out; have := HJ3.out; first | omega | exact Nat.le_refl _⟩, dRw⟩
      case rest =>
       clear Z
       obtain ⟨kq, D, rfl, HA, HJ8, ⟨mc8, rfl⟩⟩ := hcut; cases kq with
       | zero => exact absurd HA.out (by simp [Fea.j2])
       | succ aj =>
        have H := HA.out; clear HA; simp only [Fea.j2] at H
        by_cases P : D = true
        ·subst P
         rw [if_pos rfl] at H; obtain rfl := Qx H
         go_wp2
         go_ret
         exact ⟨eVl, dRw⟩
        ·replace P := Qc P; subst P
         rw [if_neg nF] at H; have O := aM H; clear H
         go_upto_region 6 with (fail)
         go_cut [18] (fun aa wc => ∃ (kq : Nat) (B : Bool), aa = .bool B ∧ Aside0 (Fea.j3 kq z B = some r) ∧ Aside0 (kq ≤ aj) ∧ Drawn0 w wc)
         case first =>
          have H := O.out; clear O
          apply iB H <;> clear H <;> intro I H
          ·have C := dT I; clear I
           (first | rw [C] | (simp only [i64_w, i32_w]; rw [C]) | skip)
           have H' := aM H; clear H
           go_wp2
           go_meet
           case rel => exact ⟨_, (decide (z ≤ 937)), sI, H', ⟨by have := HJ1.out; have := HJ3.out; have := HJ8.out; first | omega | exact Nat.le_refl _⟩, dRw⟩
          ·have C := decide_eq_false I; clear I
           (first | rw [C] | (simp only [i64_w, i32_w]; rw [C]) | skip)
           have H' := aM H; clear H
           go_wp2
           go_meet
           case rel => exact ⟨_, (false), sI, H', ⟨by have := HJ1.out; have := HJ3.out; have := HJ8.out; first | omega | exact Nat.le_refl _⟩, dRw⟩
         case rest =>
          clear O
          obtain ⟨kq, B, rfl, HA, HJ11, ⟨mc11, rfl⟩⟩ := hcut; cases kq with
          | zero => exact absurd HA.out (by simp [Fea.j3])
          | succ ak =>
           have H := HA.out; clear HA; simp only [Fea.j3] at H
           by_cases Q : B = true
           ·subst Q
            rw [if_pos rfl] at H; obtain rfl := Qx H
            go_wp2
            go_ret
            exact ⟨eVl, dRw⟩
           ·replace Q := Qc Q; subst Q
            rw [if_neg nF] at H
            apply iB H <;> clear H <;> intro J H
            ·have ad := dT J; clear J
             apply iB H <;> clear H <;> intro L H
             ·have ae := dT L; clear L; obtain rfl := Qx H
              go_wp2
              go_ret
              exact ⟨eVl, dRw⟩
             ·have ae := decide_eq_false L; clear L; obtain rfl := Qx H
              go_wp2
              go_ret
              exact ⟨eVl, dRw⟩
            ·have ad := decide_eq_false J; clear J; obtain rfl := Qx H
             go_wp2
             go_ret
             exact ⟨eVl, dRw⟩
def Fdc.f (k : Nat) (a0 : Int) : Option (Bool) := (Fea.f k a0).bind fun t124 => (if t124 = true then (some true) else (if a0 ≥ 48 then (if a0 ≤ 57 then (some true) else (if a0 = 8242 then (some true) else (if a0 ≥ 8320 then (some (decide (a0 ≤ 8329))) else (some false)))) else (if a0 = 8242 then (some true) else (if a0 ≥ 8320 then (some (decide (a0 ≤ 8329))) else (some false)))))
theorem Fdc.mono : ∀ a0 k, LeO (Fdc.f k a0) (Fdc.f (k + 1) a0) := by
 intro a0 k
 unfold Fdc.f
 repeat' first | (with_reducible first | exact Fea.mono _ _ | exact lA | apply lI | refine lB ?_ fun _ => ?_) | exact lN _ | apply lI | refine lB ?_ fun _ => ?_
theorem Fdc.calls (k : Nat) (z : Int) (r : Bool) (w : World) (h : Fdc.f k z = some r) :
  Calls Try.prog 92 #[.int .i32 z] w fun e w' => e = .returned (.bool r) ∧ Drawn0 w w' := by
 rw [Fdc.f] at h; have H := h; clear h; apply bSx H; clear H; intro L A H
 by_cases I : L = true
 ·subst I
  rw [if_pos rfl] at H; obtain rfl := Qx H
  go_enter Try.func92, Try.ntmps92
  go_wp2_with (first | ((with_reducible refine Qb (f := 91) rfl ?_); refine gL_ (some 4) Try.func91 #[.int .i32 z] ?_; (with_reducible refine (Fea.calls k z true _ A.out).mono ?_); rintro e w' ⟨rfl, ⟨nd, rfl⟩⟩; refine ⟨_, rfl, ?_⟩))
  go_ret
  exact ⟨eVl, dRw⟩
 ·replace I := Qc I; subst I
  rw [if_neg nF] at H
  apply iB H <;> clear H <;> intro B H
  ·have M := dT B; clear B
   apply iB H <;> clear H <;> intro C H
   ·have N := dT C; clear C; obtain rfl := Qx H
    go_enter Try.func92, Try.ntmps92
    go_wp2_with (first | ((with_reducible refine Qb (f := 91) rfl ?_); refine gL_ (some 4) Try.func91 #[.int .i32 z] ?_; (with_reducible refine (Fea.calls k z false _ A.out).mono ?_); rintro e w' ⟨rfl, ⟨nd, rfl⟩⟩; refine ⟨_, rfl, ?_⟩))
    go_ret
    exact ⟨eVl, dRw⟩
   ·have N := decide_eq_false C; clear C
    apply iB H <;> clear H <;> intro F H
    ·obtain ⟨O, P⟩ := bq F; clear F; obtain rfl := Qx H
     go_enter Try.func92, Try.ntmps92
     go_wp2_with (first | ((with_reducible refine Qb (f := 91) rfl ?_); refine gL_ (some 4) Try.func91 #[.int .i32 z] ?_; (with_reducible refine (Fea.calls k z false _ A.out).mono ?_); rintro e w' ⟨rfl, ⟨nd, rfl⟩⟩; refine ⟨_, rfl, ?_⟩))
     go_ret
     exact ⟨eVl, dRw⟩
    ·obtain ⟨O, P⟩ := bn F
     apply iB H <;> clear H <;> intro D H
     ·have Q := dT D; clear D; obtain rfl := Qx H
      go_enter Try.func92, Try.ntmps92
      go_wp2_with (first | ((with_reducible refine Qb (f := 91) rfl ?_); refine gL_ (some 4) Try.func91 #[.int .i32 z] ?_; (with_reducible refine (Fea.calls k z false _ A.out).mono ?_); rintro e w' ⟨rfl, ⟨nd, rfl⟩⟩; refine ⟨_, rfl, ?_⟩))
      go_ret
      exact ⟨eVl, dRw⟩
     ·have Q := decide_eq_false D; clear D; obtain rfl := Qx H
      go_enter Try.func92, Try.ntmps92
      go_wp2_with (first | ((with_reducible refine Qb (f := 91) rfl ?_); refine gL_ (some 4) Try.func91 #[.int .i32 z] ?_; (with_reducible refine (Fea.calls k z false _ A.out).mono ?_); rintro e w' ⟨rfl, ⟨nd, rfl⟩⟩; refine ⟨_, rfl, ?_⟩))
      go_ret
      exact ⟨eVl, dRw⟩
  ·have M := decide_eq_false B; clear B
   apply iB H <;> clear H <;> intro G H
   ·obtain ⟨R, U⟩ := bq G; clear G; obtain rfl := Qx H
    go_enter Try.func92, Try.ntmps92
    go_wp2_with (first | ((with_reducible refine Qb (f := 91) rfl ?_); refine gL_ (some 4) Try.func91 #[.int .i32 z] ?_; (with_reducible refine (Fea.calls k z false _ A.out).mono ?_); rintro e w' ⟨rfl, ⟨nd, rfl⟩⟩; refine ⟨_, rfl, ?_⟩))
    go_ret
    exact ⟨eVl, dRw⟩
   ·obtain ⟨R, U⟩ := bn G
    apply iB H <;> clear H <;> intro E H
    ·have V := dT E; clear E; obtain rfl := Qx H
     go_enter Try.func92, Try.ntmps92
     go_wp2_with (first | ((with_reducible refine Qb (f := 91) rfl ?_); refine gL_ (some 4) Try.func91 #[.int .i32 z] ?_; (with_reducible refine (Fea.calls k z false _ A.out).mono ?_); rintro e w' ⟨rfl, ⟨nd, rfl⟩⟩; refine ⟨_, rfl, ?_⟩))
     go_ret
     exact ⟨eVl, dRw⟩
    ·have V := decide_eq_false E; clear E; obtain rfl := Qx H
     go_enter Try.func92, Try.ntmps92
     go_wp2_with (first | ((with_reducible refine Qb (f := 91) rfl ?_); refine gL_ (some 4) Try.func91 #[.int .i32 z] ?_; (with_reducible refine (Fea.calls k z false _ A.out).mono ?_); rintro e w' ⟨rfl, ⟨nd, rfl⟩⟩; refine ⟨_, rfl, ?_⟩))
     go_ret
     exact ⟨eVl, dRw⟩
def Fdb.f (a0 : ByteArray) : Option (Bool) := if a0.toList = ([97, 110, 100] : List UInt8) then (some true) else (if a0.toList = ([111, 114] : List UInt8) then (some true) else (if a0.toList = ([110, 111, 116] : List UInt8) then (some true) else (if a0.toList = ([101, 120] : List UInt8) then (some true) else (if a0.toList = ([97, 108, 108] : List UInt8) then (some true) else (if a0.toList = ([109, 111, 100] : List UInt8) then (some true) else (if a0.toList = ([116, 114, 117, 101] : List UInt8) then (some true) else (if a0.toList = ([102, 97, 108, 115, 101] : List UInt8) then (some true) else (some false))))))))
theorem Fdb.calls (z : ByteArray) (r : Bool) (w : World) (h : Fdb.f z = some r) :
  Calls Try.prog 93 #[.string z] w fun e w' => e = .returned (.bool r) ∧ Drawn0 w w' := by
 rw [Fdb.f] at h; have H := h; clear h
 apply iB H <;> clear H <;> intro A H
 ·obtain ⟨J, L⟩ := bq A; clear A; obtain rfl := Qx H
  go_enter Try.func93, Try.ntmps93
  go_wp2
  go_ret
  exact ⟨eVl, dRw⟩
 ·obtain ⟨J, L⟩ := bn A
  apply iB H <;> clear H <;> intro B H
  ·obtain ⟨M, N⟩ := bq B; clear B; obtain rfl := Qx H
   go_enter Try.func93, Try.ntmps93
   go_wp2
   go_ret
   exact ⟨eVl, dRw⟩
  ·obtain ⟨M, N⟩ := bn B
   apply iB H <;> clear H <;> intro C H
   ·obtain ⟨O, P⟩ := bq C; clear C; obtain rfl := Qx H
    go_enter Try.func93, Try.ntmps93
    go_wp2
    go_ret
    exact ⟨eVl, dRw⟩
   ·obtain ⟨O, P⟩ := bn C
    apply iB H <;> clear H <;> intro D H
    ·obtain ⟨Q, R⟩ := bq D; clear D; obtain rfl := Qx H
     go_enter Try.func93, Try.ntmps93
     go_wp2
     go_ret
     exact ⟨eVl, dRw⟩
    ·obtain ⟨Q, R⟩ := bn D
     apply iB H <;> clear H <;> intro E H
     ·obtain ⟨U, V⟩ := bq E; clear E; obtain rfl := Qx H
      go_enter Try.func93, Try.ntmps93
      go_wp2
      go_ret
      exact ⟨eVl, dRw⟩
     ·obtain ⟨U, V⟩ := bn E
      apply iB H <;> clear H <;> intro F H
      ·obtain ⟨W, Y⟩ := bq F; clear F; obtain rfl := Qx H
       go_enter Try.func93, Try.ntmps93
       go_wp2
       go_ret
       exact ⟨eVl, dRw⟩
      ·obtain ⟨W, Y⟩ := bn F
       apply iB H <;> clear H <;> intro G H
       ·obtain ⟨Z, aa⟩ := bq G; clear G; obtain rfl := Qx H
        go_enter Try.func93, Try.ntmps93
        go_wp2
        go_ret
        exact ⟨eVl, dRw⟩
       ·obtain ⟨Z, aa⟩ := bn G
        apply iB H <;> clear H <;> intro I H
        ·obtain ⟨ab, ac⟩ := bq I; clear I; obtain rfl := Qx H
         go_enter Try.func93, Try.ntmps93
         go_wp2
         go_ret
         exact ⟨eVl, dRw⟩
        ·obtain ⟨ab, ac⟩ := bn I; obtain rfl := Qx H
         go_enter Try.func93, Try.ntmps93
         go_wp2
         go_ret
         exact ⟨eVl, dRw⟩
/-- Is it a name, from a byte on, behind so many characters? -/
def Fda.l0 : Nat → ByteArray → Nat → Int → Option Bool
 | 0, _, _, _ => none
 | k + 1, s, p, n =>
  if p < s.size then
   (if p = 0 then Fea.f k ((Utf8.decode s p).1 : Int) else some true).bind fun t =>
    if t = true then (Fdc.f k ((Utf8.decode s p).1 : Int)).bind fun u => if u = true then Fda.l0 k s (p + (Utf8.decode s p).2) (wrap64 (n + 1)) else some false
    else some false
  else if n > 0 then (if n ≤ 16 then (Fdb.f s).bind fun t => some (!t) else some false) else some false
def Fda.f (k : Nat) (a0 : ByteArray) : Option Bool := Fda.l0 k a0 0 0
theorem Fda.mono_l : ∀ k, (∀ y0 y1 y2, LeO (Fda.l0 k y0 y1 y2) (Fda.l0 (k + 1) y0 y1 y2))
 | 0 => fun _ _ _ r h => by simp [Fda.l0] at h
 | k + 1 => by
  have ih0 := Fda.mono_l k; intro y0 y1 y2
  unfold Fda.l0
  repeat' first
   | (with_reducible exact ih0 _ _ _)
   | (with_reducible exact Fea.mono _ _)
   | (with_reducible exact Fdc.mono _ _)
   | (with_reducible exact LeO.refl _)
   | (with_reducible exact LeO.none _)
   | (with_reducible refine LeO.ite ?_ ?_)
   | (with_reducible refine LeO.bind ?_ (fun _ => ?_))
theorem Fda.mono : ∀ a0 k, LeO (Fda.f k a0) (Fda.f (k + 1) a0) := fun a0 k => Fda.mono_l k a0 0 0
/-- The text's iterator: block g, at a byte. -/
structure Fda.Inv (w W : World) (g : Nat) (s : ByteArray) (p : Nat) : Prop where
 ge : w.heap.size ≤ g
 it : W.heap[g]? = some (.stringIter s p)
 below : Below w.heap.size w W
theorem Fda.Inv.on {w W : World} {g : Nat} {s : ByteArray} {p : Nat} (h : Fda.Inv w W g s p) (q : Nat) : Fda.Inv w (W.iterAt g s q) g s q :=
 ⟨h.ge, Go.Lib.iterAt_heap W g s p q h.it, Go.Lib.below_iterAt h.below h.ge s q⟩
theorem Fda.Inv.drewN {w W : World} {g : Nat} {s : ByteArray} {p : Nat} (h : Fda.Inv w W g s p) (n : Nat) : Fda.Inv w (W.drewN n) g s p := ⟨h.ge, h.it, pw_below_drewN h.below n⟩
theorem Fda.width (s : ByteArray) (pos : Nat) (h : pos < s.size) : 1 ≤ (Utf8.decode s pos).2 := by
 by_cases ha : (s[pos]'h).toNat < 128
 ·rw [decode_ascii s pos h ha]; exact Nat.le_refl _
 ·exact (decode_high s pos h (by omega)).2
set_option maxRecDepth 1000000 in
theorem Fda.calls (k : Nat) (z : ByteArray) (r : Bool) (w : World) (h : Fda.f k z = some r) : Calls Try.prog 72 #[.string z] w fun e w' => e = .returned (.bool r) ∧ Below w.heap.size w w' := by
 have HF := aM (show Fda.l0 k z 0 0 = some r from h); clear h
 go_enter Try.func72, Try.ntmps72
 go_wp2
 go_loopw [3] (fun v w' => ∃ (p k : Nat) (n : Int), v = .int .i64 n ∧ Fda.Inv w w' w.heap.size z p ∧ Fda.l0 k z p n = some r) (fun _ w' => z.size - w'.iterPos w.heap.size)
 case atStart => exact ⟨0, k, 0, rfl, ⟨Nat.le_refl _, World.iter_heap _ _ _, below_alloc (Qg _ _) _⟩, HF.out⟩
 case round =>
  obtain ⟨p, k, n, rfl, hI, hl⟩ := hrel; cases k with
  | zero => cases hl
  | succ k =>
   rw [Fda.l0] at hl; have hit := hI.it; have HI := aM hI; clear hI
   by_cases hp : p < z.size
   ·rw [if_pos hp] at hl
    have hnx : ∀ ty, (Instr.next (.pointer (some ⟨w.heap.size, 0, none⟩)) true ty).run Try.prog wr = _ := fun ty => Go.Lib.run_next_any_at wr w.heap.size z p ty hit hp
    have hwd := Fda.width z p hp; have HW := aM hwd; have HP := aM hp; clear hit hwd; replace hl := QZ hl; obtain ⟨t, hS, hl⟩ := hl; have HL := aM hl; clear hl
    by_cases hz : p = 0
    ·rw [if_pos hz] at hS; have F : ((p : Int) == 0) = true := beq_iff_eq.mpr (by omega); have HS := aM hS; clear hS hz hp; cases t with
     | false =>
      have hr := HL.out; rw [if_neg (by decide)] at hr; obtain rfl := Qx hr; clear hr
      go_wp2_with (go_at_call 91; (with_reducible refine (Fea.calls k _ false _ HS.out).mono ?_); rintro e G ⟨rfl, ⟨nd, rfl⟩⟩)
      go_ret
      exact ⟨rfl, ((HI.out.on _).drewN nd).below⟩
     | true =>
      have hl := HL.out; rw [if_pos rfl] at hl; replace hl := QZ hl; obtain ⟨u, hR, hl⟩ := hl; have HR := aM hR; have HM := aM hl; clear hl hR; cases u with
      | false =>
       have hr := HM.out; rw [if_neg (by decide)] at hr; obtain rfl := Qx hr; clear hr
       go_wp2_with (first | (go_at_call 91; (with_reducible refine (Fea.calls k _ true _ HS.out).mono ?_); rintro e G ⟨rfl, ⟨nd, rfl⟩⟩) | (go_at_call 92; (with_reducible refine (Fdc.calls k _ false _ HR.out).mono ?_); rintro e C ⟨rfl, ⟨ne, rfl⟩⟩))
       go_ret
       exact ⟨rfl, ((HI.out.on _).drewN (nd + ne)).below⟩
      | true =>
       go_wp2_with (first | (go_at_call 91; (with_reducible refine (Fea.calls k _ true _ HS.out).mono ?_); rintro e G ⟨rfl, ⟨nd, rfl⟩⟩) | (go_at_call 92; (with_reducible refine (Fdc.calls k _ true _ HR.out).mono ?_); rintro e C ⟨rfl, ⟨ne, rfl⟩⟩))
       go_roundw
       case rel => exact ⟨p + (Utf8.decode z p).2, k, _, rfl, (HI.out.on _).drewN (nd + ne), by simpa using HM.out⟩
       case measure =>
        have D := ((HI.out.on (p + (Utf8.decode z p).2)).drewN (nd + ne)).it; have E := HI.out.it; have := HW.out; have := HP.out; simp only [World.iterPos, D, E]
        omega
    ·rw [if_neg hz] at hS; have F : ((p : Int) == 0) = false := beq_eq_false_iff_ne.mpr (by omega); obtain rfl := Qx hS; clear hS hz hp; have hl := HL.out; rw [if_pos rfl] at hl; replace hl := QZ hl; obtain ⟨u, hR, hl⟩ := hl; have HR := aM hR; have HM := aM hl; clear hl hR; cases u with
     | false =>
      have hr := HM.out; rw [if_neg (by decide)] at hr; obtain rfl := Qx hr; clear hr
      go_wp2_with (go_at_call 92; (with_reducible refine (Fdc.calls k _ false _ HR.out).mono ?_); rintro e C ⟨rfl, ⟨ne, rfl⟩⟩)
      go_ret
      exact ⟨rfl, ((HI.out.on _).drewN ne).below⟩
     | true =>
      go_wp2_with (go_at_call 92; (with_reducible refine (Fdc.calls k _ true _ HR.out).mono ?_); rintro e C ⟨rfl, ⟨ne, rfl⟩⟩)
      go_roundw
      case rel => exact ⟨p + (Utf8.decode z p).2, k, _, rfl, (HI.out.on _).drewN ne, by simpa using HM.out⟩
      case measure =>
       have D := ((HI.out.on (p + (Utf8.decode z p).2)).drewN ne).it; have E := HI.out.it; have := HW.out; have := HP.out; simp only [World.iterPos, D, E]
       omega
   ·rw [if_neg hp] at hl
    have hnx : ∀ ty, (Instr.next (.pointer (some ⟨w.heap.size, 0, none⟩)) true ty).run Try.prog wr = _ := fun ty => Go.Lib.run_next_end_at wr w.heap.size z p ty hit hp
    clear hit hp
    by_cases A : n > 0
    ·rw [if_pos A] at hl; have d1 : decide (n > 0) = true := dT A; clear A
     by_cases B : n ≤ 16
     ·rw [if_pos B] at hl; have d2 : decide (n ≤ 16) = true := dT B; clear B; replace hl := QZ hl; obtain ⟨t, hV, hl⟩ := hl; obtain rfl := Qx hl; have HV := aM hV; clear hl hV
      go_wp2_with (go_at_call 93; (with_reducible refine (Fdb.calls _ t _ HV.out).mono ?_); rintro e C ⟨rfl, ⟨ne, rfl⟩⟩)
      go_ret
      exact ⟨rfl, (HI.out.drewN ne).below⟩
     ·rw [if_neg B] at hl; have d2 : decide (n ≤ 16) = false := decide_eq_false B; clear B; obtain rfl := Qx hl; clear hl
      go_wp2
      go_ret
      exact ⟨rfl, HI.out.below⟩
    ·rw [if_neg A] at hl; have d1 : decide (n > 0) = false := decide_eq_false A; clear A; obtain rfl := Qx hl; clear hl
     go_wp2
     go_ret
     exact ⟨rfl, HI.out.below⟩
def Fe.l0 : Nat → List ByteArray → List ByteArray → Int → Int → Option (Bool)
 | 0, _, _, _, _ => none
 | k + 1, x0, x5, x6, x7 => if x7 < x6 then (if 0 ≤ x7 then (if x7 < (x5.length : Int) then ((Fda.f k (rdOf ByteArray.empty x5 x7)).bind fun t126 => (if t126 = true then (if x7 > 0 then (if 0 ≤ (wrap64 (x7 - 1)) then (if (wrap64 (x7 - 1)) < (x0.length : Int) then (if ((Op.bytesLess ((rdOf ByteArray.empty x0 (wrap64 (x7 - 1))).toList) ((rdOf ByteArray.empty x5 x7).toList)) = true) then (Fe.l0 k x0 x5 x6 (wrap64 (x7 + 1))) else (some false)) else (none)) else (none)) else (Fe.l0 k x0 x5 x6 (wrap64 (x7 + 1)))) else (some false))) else (none)) else (none)) else (some true)
def Fe.f (k : Nat) (l0 : List ByteArray) : Option (Bool) := Fe.l0 k l0 l0 (l0.length : Int) 0
theorem Fe.mono_l : ∀ k, (∀ y0 y1 y2 y3, LeO (Fe.l0 k y0 y1 y2 y3) (Fe.l0 (k + 1) y0 y1 y2 y3))
 | 0 => fun _ _ _ _ r h => by simp [Fe.l0] at h
 | k + 1 => by
  have ih0 := Fe.mono_l k
  ·intro y0 y1 y2 y3
   unfold Fe.l0
   repeat' first | (with_reducible first | exact ih0 _ _ _ _ | exact Fda.mono _ _ | exact lA | apply lI | refine lB ?_ fun _ => ?_) | exact lN _ | apply lI | refine lB ?_ fun _ => ?_
theorem Fe.mono : ∀ a0 k, LeO (Fe.f k a0) (Fe.f (k + 1) a0) := by
 intro a0 k; have ih0 := Fe.mono_l k
 unfold Fe.f
 repeat' first | (with_reducible first | exact ih0 _ _ _ _ | exact Fda.mono _ _ | exact lA | apply lI | refine lB ?_ fun _ => ?_) | exact lN _ | apply lI | refine lB ?_ fun _ => ?_
theorem Fe.calls (k : Nat) (A0 : Option Addr) (c0 : Nat) (B : List ByteArray) (r : Bool) (w : World) (ae : Kd.C Kd.string w A0 B.length B) (af : B.length ≤ c0) (h : Fe.f k B = some r) :
  Calls Try.prog 47 #[.slice A0 B.length c0] w fun e w' => e = .returned (.bool r) ∧ Below w.heap.size w w' := by
 have O := aM ae; have ar := aM af; clear ae af; have HB := aM (Qg w.heap.size w); rw [Fe.f] at h; have H := h; clear h; have H' := aM H; clear H
 go_enter Try.func47, Try.ntmps47
 go_wp2
 go_loopg [7] k (fun kq v7 w' => ∃ (z : Int), v7 = .int .i64 z ∧ Aside0 (Fe.l0 kq B B (B.length : Int) z = some r) ∧ Aside0 (kq ≤ k) ∧ BA w w')
 case atStart => exact ⟨(0), sI, H', ⟨Nat.le_refl _⟩, bT0 HB⟩
 case round =>
  clear H'; obtain ⟨z, rfl, HA, aa, HB⟩ := hrel; cases gk with
  | zero => exact absurd HA.out (by simp [Fe.l0])
  | succ k1 =>
   have H := HA.out; clear HA; simp only [Fe.l0] at H
   apply iB H <;> clear H <;> intro V H
   ·have ah := dT V; clear V
    apply iN H; clear H; intro Z H; have ao := dT Z; clear Z
    apply iN H; clear H; intro c4 H; have ap := dT c4; clear c4; apply bSx H; clear H; intro ai Y H
    by_cases c6 : ai = true
    ·subst c6
     rw [if_pos rfl] at H
     apply iB H <;> clear H <;> intro W H
     ·have aj := dT W; clear W; obtain ⟨G, N⟩ : ∃ j_ : Int, (wrap64 (z - 1)) = j_ := ⟨_, rfl⟩
      first | rw [N] at H | simp only [N] at H
      (try rw [N] at Y)
      have hji8w : (IntKind.i64.wrap (z - 1)) = G := (i64_w _).trans N
      apply iN H; clear H; intro c9 H; have aq := dT c9; clear c9
      apply iN H; clear H; intro U H; have am := dT U; clear U
      apply iB H <;> clear H <;> intro P H
      ·have ad : (Op.bytesLess ((rdOf ByteArray.empty B (G)).toList) ((rdOf ByteArray.empty B z).toList)) = true := P; clear P; have H' := aM H; clear H; obtain ⟨⟨M, I, A⟩, D, E⟩ := xAt (Kd.at_string O.out) z; cases I; replace A := cX HB A
       go_wp2_with (first | ((with_reducible refine Qb (f := 72) rfl ?_); refine gL_ (some 13) Try.func72 #[.string (rdOf ByteArray.empty B z)] ?_; (with_reducible refine (Fda.calls k1 (rdOf ByteArray.empty B z) true _ Y.out).mono ?_); rintro e au ⟨rfl, hb⟩; refine ⟨_, rfl, ?_⟩; replace HB := hS0 HB hb; (try clear hb); obtain ⟨⟨Q, R, F⟩, J, L⟩ := xAt (Kd.at_string O.out) (G); obtain rfl := sJJ R; replace F := cX HB F; ))
       go_roundg k1
       case measure => have := aa.out; omega
       case rel => exact ⟨(wrap64 (z + 1)), sI, H', ⟨by have := aa.out; omega⟩, bT0 HB⟩
      ·have ad : (Op.bytesLess ((rdOf ByteArray.empty B (G)).toList) ((rdOf ByteArray.empty B z).toList)) = false := by simpa using P
       clear P; obtain rfl := Qx H; obtain ⟨⟨M, I, A⟩, D, E⟩ := xAt (Kd.at_string O.out) z; cases I; replace A := cX HB A
       go_wp2_with (first | ((with_reducible refine Qb (f := 72) rfl ?_); refine gL_ (some 13) Try.func72 #[.string (rdOf ByteArray.empty B z)] ?_; (with_reducible refine (Fda.calls k1 (rdOf ByteArray.empty B z) true _ Y.out).mono ?_); rintro e av ⟨rfl, hb⟩; refine ⟨_, rfl, ?_⟩; replace HB := hS0 HB hb; (try clear hb); obtain ⟨⟨Q, R, F⟩, J, L⟩ := xAt (Kd.at_string O.out) (G); obtain rfl := sJJ R; replace F := cX HB F; ))
       go_ret
       exact ⟨by first | rfl | (simp [errW_none, errW_some] <;> rfl) | (simp only [← N]; first | rfl | (simp [errW_none, errW_some] <;> rfl)) | (simp [*, errW_none, errW_some] <;> rfl), bO HB.out⟩
     ·have aj := decide_eq_false W; clear W; have H' := aM H; clear H; obtain ⟨⟨M, I, A⟩, D, E⟩ := xAt (Kd.at_string O.out) z; cases I; replace A := cX HB A
      go_wp2_with (first | ((with_reducible refine Qb (f := 72) rfl ?_); refine gL_ (some 13) Try.func72 #[.string (rdOf ByteArray.empty B z)] ?_; (with_reducible refine (Fda.calls k1 (rdOf ByteArray.empty B z) true _ Y.out).mono ?_); rintro e aw ⟨rfl, hb⟩; refine ⟨_, rfl, ?_⟩; replace HB := hS0 HB hb; (try clear hb)))
      go_roundg k1
      case measure => have := aa.out; omega
      case rel => exact ⟨(wrap64 (z + 1)), sI, H', ⟨by have := aa.out; omega⟩, bT0 HB⟩
    ·replace c6 := Qc c6; subst c6
     rw [if_neg nF] at H; obtain rfl := Qx H; obtain ⟨⟨M, I, A⟩, D, E⟩ := xAt (Kd.at_string O.out) z; cases I; replace A := cX HB A
     go_wp2_with (first | ((with_reducible refine Qb (f := 72) rfl ?_); refine gL_ (some 13) Try.func72 #[.string (rdOf ByteArray.empty B z)] ?_; (with_reducible refine (Fda.calls k1 (rdOf ByteArray.empty B z) false _ Y.out).mono ?_); rintro e ax ⟨rfl, hb⟩; refine ⟨_, rfl, ?_⟩; replace HB := hS0 HB hb; (try clear hb)))
     go_ret
     exact ⟨eW, bO HB.out⟩
   ·have ah := decide_eq_false V; clear V; obtain rfl := Qx H
    go_wp2
    go_ret
    exact ⟨eW, bO HB.out⟩
mutual
def Feb.j0 : Nat → List Int → Bool → Int → List ByteArray → List Int → Int → Int → Option (Int)
 | 0, _, _, _, _, _, _, _ => none
 | k + 1, x3, x6, x129000, x129001, x129002, x129003, x129004 => if x129000 = 2 then (if x6 = true then (Feb.j1 k x3 (decide (x129004 ≥ 1)) x129000 x129001 x129002 x129003 x129004) else (Feb.j1 k x3 false x129000 x129001 x129002 x129003 x129004)) else (if x6 = true then (if x129004 = 0 then (some 0) else (some 3)) else (some 3))
def Feb.j1 : Nat → List Int → Bool → Int → List ByteArray → List Int → Int → Int → Option (Int)
 | 0, _, _, _, _, _, _, _ => none
 | k + 1, x3, x6, x129000, x129001, x129002, x129003, x129004 => Feb.l0 k x6 x3 (x3.length : Int) 0 x129000 x129001 x129002 x129003 x129004
def Feb.l0 : Nat → Bool → List Int → Int → Int → Int → List ByteArray → List Int → Int → Int → Option (Int)
 | 0, _, _, _, _, _, _, _, _, _ => none
 | k + 1, x6, x55, x56, x57, x129000, x129001, x129002, x129003, x129004 => if x57 < x56 then (if 0 ≤ x57 then (if x57 < (x55.length : Int) then (if x6 = true then (if (rd x55 x57) ≥ 0 then (Feb.l0 k (decide ((rd x55 x57) < x129004)) x55 x56 (wrap64 (x57 + 1)) x129000 x129001 x129002 x129003 x129004) else (Feb.l0 k false x55 x56 (wrap64 (x57 + 1)) x129000 x129001 x129002 x129003 x129004)) else (Feb.l0 k false x55 x56 (wrap64 (x57 + 1)) x129000 x129001 x129002 x129003 x129004)) else (none)) else (none)) else (if x6 = true then (some 0) else (some 3))
end
def Feb.f (k : Nat) (a0_0 : Int) (l0_1 : List ByteArray) (l0_2 : List Int) (a0_3 : Int) (a0_4 : Int) : Option (Int) := (some (([a0_3] : List Int) : List Int)).bind fun y129 => (if y129.length + l0_2.length < 17592186044416 then ((some (y129 ++ l0_2 : List Int)).bind fun y132 => ((Fd.f k y132).bind fun bt135 => (if a0_0 ≥ 0 then (if a0_0 ≤ 2 then ((Fe.f k l0_1).bind fun t137 => (if t137 = true then (if (l0_1.length : Int) = (l0_2.length : Int) then (Feb.j0 k y132 (bt135.2 == 0) a0_0 l0_1 l0_2 a0_3 a0_4) else (Feb.j0 k y132 false a0_0 l0_1 l0_2 a0_3 a0_4)) else (Feb.j0 k y132 false a0_0 l0_1 l0_2 a0_3 a0_4))) else (Feb.j0 k y132 false a0_0 l0_1 l0_2 a0_3 a0_4)) else (Feb.j0 k y132 false a0_0 l0_1 l0_2 a0_3 a0_4)))) else (none))
theorem Feb.mono_l : ∀ k, (∀ y0 y1 y2 y3 y4 y5 y6, LeO (Feb.j0 k y0 y1 y2 y3 y4 y5 y6) (Feb.j0 (k + 1) y0 y1 y2 y3 y4 y5 y6)) ∧ (∀ y0 y1 y2 y3 y4 y5 y6, LeO (Feb.j1 k y0 y1 y2 y3 y4 y5 y6) (Feb.j1 (k + 1) y0 y1 y2 y3 y4 y5 y6)) ∧ (∀ y0 y1 y2 y3 y4 y5 y6 y7 y8, LeO (Feb.l0 k y0 y1 y2 y3 y4 y5 y6 y7 y8) (Feb.l0 (k + 1) y0 y1 y2 y3 y4 y5 y6 y7 y8))
 | 0 => ⟨fun _ _ _ _ _ _ _ r h => by simp [Feb.j0] at h, fun _ _ _ _ _ _ _ r h => by simp [Feb.j1] at h, fun _ _ _ _ _ _ _ _ _ r h => by simp [Feb.l0] at h⟩
 | k + 1 => by
  obtain ⟨ih0, ih1, ih2⟩ := Feb.mono_l k; refine ⟨?_, ?_, ?_⟩
  ·intro y0 y1 y2 y3 y4 y5 y6
   unfold Feb.j0
   repeat' first | (with_reducible first | exact ih0 _ _ _ _ _ _ _ | exact ih1 _ _ _ _ _ _ _ | exact ih2 _ _ _ _ _ _ _ _ _ | exact Fd.mono _ _ | exact Fe.mono _ _ | exact lA | apply lI | refine lB ?_ fun _ => ?_) | exact lN _ | apply lI | refine lB ?_ fun _ => ?_
  ·intro y0 y1 y2 y3 y4 y5 y6
   unfold Feb.j1
   repeat' first | (with_reducible first | exact ih0 _ _ _ _ _ _ _ | exact ih1 _ _ _ _ _ _ _ | exact ih2 _ _ _ _ _ _ _ _ _ | exact Fd.mono _ _ | exact Fe.mono _ _ | exact lA | apply lI | refine lB ?_ fun _ => ?_) | exact lN _ | apply lI | refine lB ?_ fun _ => ?_
  ·intro y0 y1 y2 y3 y4 y5 y6 y7 y8
   unfold Feb.l0
   repeat' first | (with_reducible first | exact ih0 _ _ _ _ _ _ _ | exact ih1 _ _ _ _ _ _ _ | exact ih2 _ _ _ _ _ _ _ _ _ | exact Fd.mono _ _ | exact Fe.mono _ _ | exact lA | apply lI | refine lB ?_ fun _ => ?_) | exact lN _ | apply lI | refine lB ?_ fun _ => ?_
theorem Feb.mono : ∀ a0 a1 a2 a3 a4 k, LeO (Feb.f k a0 a1 a2 a3 a4) (Feb.f (k + 1) a0 a1 a2 a3 a4) := by
 intro a0 a1 a2 a3 a4 k; obtain ⟨ih0, ih1, ih2⟩ := Feb.mono_l k
 unfold Feb.f
 repeat' first | (with_reducible first | exact ih0 _ _ _ _ _ _ _ | exact ih1 _ _ _ _ _ _ _ | exact ih2 _ _ _ _ _ _ _ _ _ | exact Fd.mono _ _ | exact Fe.mono _ _ | exact lA | apply lI | refine lB ?_ fun _ => ?_) | exact lN _ | apply lI | refine lB ?_ fun _ => ?_
theorem Feb.calls (k : Nat) (G : Int) (Y : Option Addr) (Z : Nat) (D : List ByteArray) (aa : Option Addr) (ab : Nat) (E : List Int) (I : Int) (L : Int) (r : Int) (w : World) (aA : Kd.C Kd.string w Y D.length D) (aC : D.length ≤ Z) (aD : Kd.C (Kd.int .i64) w aa E.length E) (aE : E.length ≤ ab) (h : Feb.f k G D E I L = some r) :
  Calls Try.prog 24 #[.agg #[.int .i64 G, .slice Y D.length Z, .slice aa E.length ab, .int .i64 I, .int .i64 L]] w fun e w' => e = .returned (.int .i64 r) ∧ Below w.heap.size w w' := by
 have hu26 := Try.underlying26; have al := aM aA; have am := aM aC; clear aA aC; have aZ := aM aD; have dY := aM aE; clear aD aE; have HB := aM (Qg w.heap.size w); rw [Feb.f] at h; have H := h; clear h; obtain ⟨aw, ac⟩ : ∃ y_ : List Int, y_ = (([I] : List Int)) := ⟨_, rfl⟩
 first | replace H := rI ac H | rw [← ac] at H
 have a5 := aM ac; clear ac
 apply iN H; clear H; intro c2 H; have bj := aM c2; clear c2; obtain ⟨F, ad⟩ : ∃ y_ : List Int, y_ = (aw ++ E) := ⟨_, rfl⟩
 first | replace H := rI ad H | rw [← ad] at H
 have a7 := aM ad; clear ad; replace H := QZ H; obtain ⟨⟨bk, ax⟩, bi, H⟩ := H; replace H : (if G ≥ 0 then (if G ≤ 2 then ((Fe.f k D).bind fun ay => (if ay = true then (if (D.length : Int) = (E.length : Int) then (Feb.j0 k F (ax == 0) G D E I L) else (Feb.j0 k F false G D E I L)) else (Feb.j0 k F false G D E I L))) else (Feb.j0 k F false G D E I L)) else (Feb.j0 k F false G D E I L)) = some r := H; have A3 := aM bi; clear bi; have aU := aM H; clear H
 go_enter Try.func24, Try.ntmps24
 go_upto_region 3 with (first | ((with_reducible refine Qa (N := 1) rfl ?_); (try (refine gate_guard (by rfl) ?_; dsimp only)); refine be_ (cs := #[.int .i64 G, .slice Y D.length Z, .slice aa E.length ab, .int .i64 I, .int .i64 L]) (t := 26) ?_; intro an hg w5 bm hb; have z := aM (bm); have dZ := gE hg (bP0 HB); have A := gE hg (bP0 HB); replace HB := hS0 HB hb; clear hb bm hg; obtain ⟨dB, dC, dD, dE, dF, dG, dH, dI, dJ, dK⟩ := bG5 z) | ((with_reducible refine Qa (N := 11) rfl ?_); (try (refine gate_guard (by rfl) ?_; dsimp only)); refine Wx (Kd.int .i64) _ 2 ?hg (N := 11) ?hd (xs := ([I] : List Int)) (inner := [.int .i64 I]) (ok := fun _ => True) (okp := fun _ => True) ?hr ?hp (fun _ hk => hk) trivial (Qg _ _) (Nat.le_refl _) (by simp) ?_; (case hd => rfl); (case hg => rfl); (case hr => first | (go_simp; done) | (go_simp; rfl)); (case hp => exact (Reps.one (show Kd.M (Kd.int .i64) _ _ _ I [.int .i64 I] from rfl) (Reps.none _ _))); intro bl w7 aG hb hg_ hnew_; clear hg_ hnew_; replace aG := nW a5 aG; have ao := rW aG (bP1 HB A); replace z := kB z hb; replace HB := hS1 HB A hb; clear hb aG; obtain ⟨dL, dM, dN, dO, dP, dQ, dR, dS, dU, dV⟩ := bG5 z) | ((with_reducible refine gate_builtin (b := .append) (xs := #[.tmp 11, .tmp 13]) rfl ?_); (try (refine gate_guard (by rfl) ?_; dsimp only)); at_builtin; refine Wd (Kd.int .i64) (w0 := w) w.heap.size rfl (.tmp 11) (.tmp 13) 24 2 (.int .i64 0) 8 rfl Try.underlying24 info2 rfl (by decide) (by omega) bl aw E _ _ _ (fun _ => True) (fun _ => False) rfl rfl ?aO ?aR (fun _ _ h => h) (fun _ h => h.elim) ?aF ?aB ?aS ?aL ?_; (case aR => exact cO (Q3 aZ.out HB.out)); (case aB => exact (bP1 HB A)); (case aF => exact (fun _ _ => trivial)); (case aO => exact (rP ao)); (case aS => exact (Qv (bP1 HB A))); (case aL => have := bj.out; omega); intro d3 d4 ho hb hg hat; rw [← a7.out] at ho; replace z := kG z hg ao; replace HB := aM (hb); have J := aM (ho); clear ao; clear ho hb hg hat; obtain ⟨ap, aq, rfl⟩ := sL J) | ((with_reducible refine Qb (f := 46) rfl ?_); refine gL_ (some 17) Try.func46 #[.slice ap F.length aq] ?_; (with_reducible refine (Fd.calls k _ _ F bk ax _ ?s1 (rR J).2.1 A3.out).mono ?_); (case s1 => exact cO (rR J).2.2); rintro e w' ⟨rfl, ⟨nd, rfl⟩⟩; refine ⟨_, rfl, ?_⟩))
 (try simp only [Act.put, sA, sB, sC])
 go_cut [6] (fun v6 wc => ∃ (kq : Nat) (O : Bool), v6 = .bool O ∧ Aside0 (Feb.j0 kq F O G D E I L = some r) ∧ Aside0 (kq ≤ k) ∧ RA (Kd.int .i64) 2 wc w (.slice ap F.length aq) F ∧ Aside0 (wc.heap[an]? = some (.cells #[.int .i64 G, (.slice Y D.length Z), (.slice aa E.length ab), .int .i64 I, .int .i64 L] 26 (0, 0))) ∧ BA w wc)
 case first =>
  have H := aU.out; clear aU
  apply iB H <;> clear H <;> intro ag H
  ·have V := dT ag; clear ag
   (first | rw [V] | (simp only [i64_w, i32_w]; rw [V]) | skip)
   apply iB H <;> clear H <;> intro ah H
   ·have a8 := dT ah; clear ah; apply bSx H; clear H; intro ay aX H
    by_cases aH : ay = true
    ·subst aH
     rw [if_pos rfl] at H
     apply iB H <;> clear H <;> intro W H
     ·obtain ⟨a9, ba⟩ := bq W
      have bb : (D.length == E.length) = true := by first | simpa using W | (simp at W ⊢; omega)
      clear W; have R := aM H; clear H; obtain ⟨bo, bp, br, bs, bt, bu, bv, bw, bx, bz⟩ := bG5 z
      go_wp2_with (first | (go_at_call 47; (with_reducible refine (Fe.calls k _ _ D true _ ?s1 am.out aX.out).mono ?_); (case s1 => exact cB al HB); rintro e d5 ⟨rfl, hb⟩; replace J := rB J hb; replace z := kB z hb; replace HB := hS1 HB A hb; (try clear hb); obtain ⟨bA, bB, bC, bD, bE, bF, bG, bH, bI, bJ⟩ := bG5 z))
      go_meet
      case rel => exact ⟨_, ((ax == 0)), sI, R, lE, rQ J, kQ z, bT1 HB A⟩
     ·obtain ⟨a9, ba⟩ := bn W
      have bb : (D.length == E.length) = false := by first | simpa using W | (simp at W ⊢; omega)
      have R := aM H; clear H; obtain ⟨bK, bL, bM, bN, bO, bP, bQ, bR, bS, bT⟩ := bG5 z
      go_wp2_with (first | (go_at_call 47; (with_reducible refine (Fe.calls k _ _ D true _ ?s1 am.out aX.out).mono ?_); (case s1 => exact cB al HB); rintro e d6 ⟨rfl, hb⟩; replace J := rB J hb; replace z := kB z hb; replace HB := hS1 HB A hb; (try clear hb); obtain ⟨bU, bV, bW, bX, bY, bZ, b0, b1, b2, b3⟩ := bG5 z))
      go_meet
      case rel => exact ⟨_, (false), sI, R, lE, rQ J, kQ z, bT1 HB A⟩
    ·replace aH := Qc aH; subst aH
     rw [if_neg nF] at H; have R := aM H; clear H; obtain ⟨b4, b5, b6, b7, b8, b9, ca, cb, cc, cd⟩ := bG5 z
     go_wp2_with (first | (go_at_call 47; (with_reducible refine (Fe.calls k _ _ D false _ ?s1 am.out aX.out).mono ?_); (case s1 => exact cB al HB); rintro e d7 ⟨rfl, hb⟩; replace J := rB J hb; replace z := kB z hb; replace HB := hS1 HB A hb; (try clear hb)))
     go_meet
     case rel => exact ⟨_, (false), sI, R, lE, rQ J, kQ z, bT1 HB A⟩
   ·have a8 := decide_eq_false ah; clear ah; have R := aM H; clear H; obtain ⟨ce, cf, cg, ch, ci, cj, ck, cl, cm, cn⟩ := bG5 z
    go_wp2
    go_meet
    case rel => exact ⟨_, (false), sI, R, lE, rQ J, kQ z, bT1 HB A⟩
  ·have V := decide_eq_false ag; clear ag
   (first | rw [V] | (simp only [i64_w, i32_w]; rw [V]) | skip)
   have R := aM H; clear H; obtain ⟨co, cp, cq, cr, ct, cu, cv, cw, cx, cy⟩ := bG5 z
   go_wp2
   go_meet
   case rel => exact ⟨_, (false), sI, R, lE, rQ J, kQ z, bT1 HB A⟩
 case rest =>
  clear aU
  obtain ⟨kq, O, rfl, HA, HJ3, ar, z, HB⟩ := hcut; cases kq with
  | zero => exact absurd HA.out (by simp [Feb.j0])
  | succ dW =>
   have H := HA.out; clear HA; simp only [Feb.j0] at H
   apply iB H <;> clear H <;> intro au H
   ·obtain ⟨bc, bd⟩ := bq au; clear au; have az := aM H; clear H; obtain ⟨cz, cA, cC, cD, cE, cF, cG, cH, cI, cJ⟩ := bG5 z
    go_upto_region 5 with (fail)
    go_cut [6] (fun v6 wc => ∃ (kq : Nat) (ae : Bool), v6 = .bool ae ∧ Aside0 (Feb.j1 kq F ae G D E I L = some r) ∧ Aside0 (kq ≤ dW) ∧ RA (Kd.int .i64) 2 wc w (.slice ap F.length aq) F ∧ Aside0 (wc.heap[an]? = some (.cells #[.int .i64 G, (.slice Y D.length Z), (.slice aa E.length ab), .int .i64 I, .int .i64 L] 26 (0, 0))) ∧ BA w wc)
    case first =>
     have H := az.out; clear az
     by_cases aI : O = true
     ·subst aI
      rw [if_pos rfl] at H; have R := aM H; clear H; obtain ⟨cK, cL, cM, cN, cP, cQ, cR, cS, cT, cU⟩ := bG5 z
      go_wp2
      go_meet
      case rel => exact ⟨_, (decide (L ≥ 1)), sI, R, ⟨by have := HJ3.out; first | omega | exact Nat.le_refl _⟩, rQ ar, kQ z, bT1 HB A⟩
     ·replace aI := Qc aI; subst aI
      rw [if_neg nF] at H; have R := aM H; clear H
      go_wp2
      go_meet
      case rel => exact ⟨_, (false), sI, R, ⟨by have := HJ3.out; first | omega | exact Nat.le_refl _⟩, rQ ar, kQ z, bT1 HB A⟩
    case rest =>
     clear az
     obtain ⟨kq, ae, rfl, HA, HJ27, ar, z, HB⟩ := hcut; cases kq with
     | zero => exact absurd HA.out (by simp [Feb.j1])
     | succ aY =>
      have H := HA.out; clear HA; simp only [Feb.j1] at H; have R := aM H; clear H
      go_wp2
      go_loopg [6, 57] aY (fun kq v6 dX w' => ∃ (O : Bool) (B : Int), v6 = .bool O ∧ dX = .int .i64 B ∧ Aside0 (Feb.l0 kq O F (F.length : Int) B G D E I L = some r) ∧ Aside0 (kq ≤ aY) ∧ RA (Kd.int .i64) 2 w' w (.slice ap F.length aq) F ∧ Aside0 (w'.heap[an]? = some (.cells #[.int .i64 G, (.slice Y D.length Z), (.slice aa E.length ab), .int .i64 I, .int .i64 L] 26 (0, 0))) ∧ BA w w')
      case atStart => exact ⟨(ae), (0), sI, sI, R, ⟨Nat.le_refl _⟩, rQ ar, kQ z, bT1 HB A⟩
      case round =>
       clear R
       obtain ⟨O, B, rfl, rfl, HA, a6, U, z, HB⟩ := hrel; cases gk with
       | zero => exact absurd HA.out (by simp [Feb.l0])
       | succ k3 =>
        have H := HA.out; clear HA; simp only [Feb.l0] at H
        apply iB H <;> clear H <;> intro ai H
        ·have be := dT ai; clear ai
         apply iN H; clear H; intro aJ H; have d0 := dT aJ; clear aJ
         apply iN H; clear H; intro aK H; have d1 := dT aK; clear aK
         by_cases aN : O = true
         ·subst aN
          rw [if_pos rfl] at H
          apply iB H <;> clear H <;> intro aj H
          ·have bf := dT aj; clear aj; have R := aM H; clear H; obtain ⟨⟨aP, af, ak⟩, P, Q⟩ := xAt (Kd.at_int (rR U).2.2) B; cases af; obtain ⟨cV, cW, cX, cY, cZ, c0, c1, c3, c4, c5⟩ := bG5 z
           go_wp2
           go_roundg k3
           case measure => have := HJ3.out; have := HJ27.out; have := a6.out; omega
           case rel => exact ⟨(decide ((rd F B) < L)), (wrap64 (B + 1)), sI, sI, R, ⟨by have := HJ3.out; have := HJ27.out; have := a6.out; omega⟩, rQ U, kQ z, bT1 HB A⟩
          ·have bf := decide_eq_false aj; clear aj; have R := aM H; clear H; obtain ⟨⟨aP, af, ak⟩, P, Q⟩ := xAt (Kd.at_int (rR U).2.2) B; cases af
           go_wp2
           go_roundg k3
           case measure => have := HJ3.out; have := HJ27.out; have := a6.out; omega
           case rel => exact ⟨(false), (wrap64 (B + 1)), sI, sI, R, ⟨by have := HJ3.out; have := HJ27.out; have := a6.out; omega⟩, rQ U, kQ z, bT1 HB A⟩
         ·replace aN := Qc aN; subst aN
          rw [if_neg nF] at H; have R := aM H; clear H; obtain ⟨⟨aP, af, ak⟩, P, Q⟩ := xAt (Kd.at_int (rR U).2.2) B; cases af
          go_wp2
          go_roundg k3
          case measure => have := HJ3.out; have := HJ27.out; have := a6.out; omega
          case rel => exact ⟨(false), (wrap64 (B + 1)), sI, sI, R, ⟨by have := HJ3.out; have := HJ27.out; have := a6.out; omega⟩, rQ U, kQ z, bT1 HB A⟩
        ·have be := decide_eq_false ai; clear ai
         by_cases aQ : O = true
         ·subst aQ
          rw [if_pos rfl] at H; obtain rfl := Qx H
          go_wp2
          go_ret
          exact ⟨eW, bS1 HB.out A.out⟩
         ·replace aQ := Qc aQ; subst aQ
          rw [if_neg nF] at H; obtain rfl := Qx H
          go_wp2
          go_ret
          exact ⟨eW, bS1 HB.out A.out⟩
   ·obtain ⟨bc, bd⟩ := bn au
    by_cases aT : O = true
    ·subst aT
     rw [if_pos rfl] at H
     apply iB H <;> clear H <;> intro av H
     ·obtain ⟨bg, bh⟩ := bq av; clear av; obtain rfl := Qx H; obtain ⟨c6, c7, c8, c9, da, db, dc, dd, de, df⟩ := bG5 z
      go_wp2
      go_ret
      exact ⟨eW, bS1 HB.out A.out⟩
     ·obtain ⟨bg, bh⟩ := bn av; obtain rfl := Qx H; obtain ⟨dg, dh, di, dj, dk, dl, dm, dn, dp, dq⟩ := bG5 z
      go_wp2
      go_ret
      exact ⟨eW, bS1 HB.out A.out⟩
    ·replace aT := Qc aT; subst aT
     rw [if_neg nF] at H; obtain rfl := Qx H; obtain ⟨dr, ds, dt, du, dv, dw, dx, dy, dz, dA⟩ := bG5 z
     go_wp2
     go_ret
     exact ⟨eW, bS1 HB.out A.out⟩
def Fec.f (l0 : List (ByteArray)) : Option (List (ByteArray)) := if l0.length < 8796093022208 then some l0 else none
theorem Fec.calls (Q : Option Addr) (U : Nat) (A : List (ByteArray)) (r : List (ByteArray)) (w : World) (D : Kd.C Kd.string w Q A.length A) (ac : A.length ≤ U) (h : Fec.f A = some r) :
  Calls Try.prog 25 #[.slice Q A.length U] w fun e w' => ∃ F : Value, e = .returned (F) ∧ Kd.R Kd.string 9 w' w.heap.size (fun _ => True) F r ∧ Below w.heap.size w w' := by
 have HB := aM (Qg w.heap.size w)
 have hlim : A.length < 8796093022208 ∧ A = r := by
  unfold Fec.f at h
  by_cases hc : A.length < 8796093022208
  ·rw [if_pos hc] at h; exact ⟨hc, Qx h⟩
  ·rw [if_neg hc] at h; cases h
 obtain ⟨hlim, rfl⟩ := hlim; have HL := aM hlim; have G := aM D; clear D hlim h; cases Q with
 | none =>
  have Y : A.length = 0 := by
   rcases Nat.eq_zero_or_pos A.length with h | h
   ·exact h
   ·obtain ⟨ad, h1, _⟩ := G.out.2.2 h; cases h1
  obtain rfl := List.eq_nil_of_length_eq_zero Y; clear Y
  have hn := fun (W : World) (n c : Nat) => Lib.run_eql_slice_nil (P := Try.prog) W 23 9 none n c 0 0 Try.underlying23
  go_enter Try.func25, Try.ntmps25
  go_wp2
  go_ret
  exact ⟨_, rfl, WV _ _ _ _ _, HB.out⟩
 | some ad =>
  have hn := fun (W : World) (n c : Nat) => Lib.run_eql_slice_nil (P := Try.prog) W 23 9 (some ad) n c 0 0 Try.underlying23
  go_enter Try.func25, Try.ntmps25
  go_wp2_with (first
   | ((with_reducible refine Qa (N := 5) rfl ?_); refine Wx Kd.string _ 9 ?hg (N := 5) ?hd (xs := ([] : List (ByteArray))) (inner := []) (ok := fun _ => True) (okp := fun _ => True) ?hr ?hp (fun _ hk => hk) trivial (Qg _ _) (Nat.le_refl _) (by simp) ?_; (case hd => rfl); (case hg => rfl); (case hr => first | (go_simp; done) | (go_simp; rfl)); (case hp => exact (Reps.none _ _)); intro v1 w1 I hb hg_ hnew_; clear hg_ hnew_; have J := aM (Kd.R_lower I (Qv HB.out)); replace HB := aM (below_step HB.out hb); clear hb I)
   | ((with_reducible refine gate_builtin (b := .append) (xs := #[.tmp 5, .tmp 6]) rfl ?_); at_builtin; refine Wd Kd.string (w0 := w) w.heap.size rfl (.tmp 5) (.tmp 6) 23 9 (.string ⟨#[]⟩) 16 rfl Try.underlying23 info9 rfl (by decide) (by omega) v1 [] A _ _ _ (fun _ => True) (fun _ => False) rfl rfl ?aO ?aR (fun _ _ h => h) (fun _ h => h.elim) ?aF ?aB ?aS ?aL ?_; (case aR => exact (Q3 G.out HB.out)); (case aB => exact HB.out); (case aF => exact (fun _ _ => trivial)); (case aO => exact J.out); (case aS => exact (Qv HB.out)); (case aL => have := HL.out; simp only [List.length_nil]; omega); intro v2 w2 ho hb hg hat; have M := aM (hb); have O := aM (ho); clear HB J; have HB := M; have Z := O; clear M O; clear ho hb hg hat))
  go_ret
  exact ⟨_, rfl, Z.out, HB.out⟩
/-- append onto what the call owns: what is answered is owned, and what was appended to reads as it did. -/
theorem Fba.keep (w : World) (base : Nat) (ty : TypeId) (v : Value) (xs : List Int) (hown : w.ownsRow base 2 1 v xs.length (nums .i64 xs))
  (a : Addr) (m c : Nat) (ys : List Int) (hl : ys.length = m) (G : 0 < m) (hnews : ∀ j u, (nums .i64 ys)[j]? = some u → w.cell? (a.add j) = some u)
  (hbytes : (xs.length + m) * 8 ≤ 140737488355328) (hbase : base ≤ w.heap.size) :
  ∃ A' c' w', (Builtin.append_ #[24, 24] ty #[v, .slice (some a) m c]).run Try.prog w = .ok (.slice A' (xs.length + m) c') w' ∧ w'.ownsRow base 2 1 (.slice A' (xs.length + m) c') (xs ++ ys).length (nums .i64 (xs ++ ys)) ∧ w'.ownsRow base 2 1 v xs.length (nums .i64 xs) ∧ w.grownBy w' v.ownBlock ∧
   ((Value.slice A' (xs.length + m) c').ownBlock = v.ownBlock ∨ (Value.slice A' (xs.length + m) c').ownBlock = some w.heap.size) := by
 obtain ⟨i, hi, hz, hsize, hby⟩ := info_parts info2; have ht := Try.underlying24; have hxl : (nums .i64 xs).length = xs.length := nums_length ..
 have hyl : (nums .i64 ys).length = m := by rw [nums_length]; exact hl
 have A : xs.length + m ≤ maxLen := by simp only [maxLen]; omega
 have hlen : (nums .i64 (xs ++ ys)).length = (xs ++ ys).length * 1 := by rw [nums_length, Nat.mul_one]
 have hap : nums .i64 (xs ++ ys) = nums .i64 xs ++ nums .i64 ys := by simp [nums]
 have hn : (xs ++ ys).length = xs.length + m := by rw [List.length_append, hl]
 have F : ∀ u ∈ nums .i64 ys, u.oneCell' = true := by intro u hu; simp only [nums, List.mem_map] at hu; obtain ⟨x, _, rfl⟩ := hu; rfl
 have grown : ∀ (old : Nat), old < xs.length + m → 
   (w.drew.alloc (.cells ((nums .i64 xs).toArray ++ (nums .i64 ys).toArray ++ Builtin.zeroCells (Value.int .i64 0).cells (grownCap w (xs.length + m) old 2 - (xs.length + m))) 2)).ownsRow base 2 1
    (.slice (some ⟨w.heap.size, 0, none⟩) (xs.length + m) (grownCap w (xs.length + m) old 2)) (xs ++ ys).length (nums .i64 (xs ++ ys)) := by
  intro old ho; have hge := grownCap_ge w (xs.length + m) old 2; have hcm : grownCap w (xs.length + m) old 2 ≤ maxLen := grownCap_le_maxLen w (xs.length + m) old 2 A; rw [hn]; refine ⟨by rw [hlen, hn], .inr ⟨w.heap.size, _, _, rfl, hbase, heap_alloc_new w.drew _, hge, hcm, ?_, ?_⟩⟩
  ·simp only [Array.size_append, List.size_toArray, size_zeroCells, hxl, hyl]; have : (Value.int .i64 0).cells.size = 1 := rfl; rw [this]; omega
  ·simp only [Array.toList_append, List.append_assoc]; rw [← List.append_assoc, ← hap, Nat.mul_one, ← hn, ← Nat.mul_one (xs ++ ys).length, ← hlen]; exact List.take_left
 have kept : ∀ (o : Obj), w.grownBy (w.drew.alloc o) v.ownBlock ∧ (w.drew.alloc o).ownsRow base 2 1 v xs.length (nums .i64 xs) := fun o =>
  ⟨⟨rfl, rfl, rfl, by simp, fun k hk _ => Below.heap_alloc w.drew _ k hk⟩, hown.kept (row := none) ⟨rfl, rfl, rfl, by simp, fun k hk _ => Below.heap_alloc w.drew _ k hk⟩ (by cases v.ownBlock <;> simp)⟩
 rcases hown.2 with ⟨rfl, D⟩ | ⟨g, cap, cur, rfl, hbg, hg, hnc, hcm, hcs, htake⟩
 ·obtain rfl : xs = [] := List.eq_nil_of_length_eq_zero D; have hr := run_append_nil (P := Try.prog) w 24 ty 2 i (.int .i64 0) ht hi hz a m c (nums .i64 ys) (by rw [hsize]; omega) hnews (by omega) (by omega) (by rw [hby]; simp at hbytes; omega); have hgr := grown 0 (by simp; omega); have hk := kept (.cells ((nums .i64 ys).toArray ++ Builtin.zeroCells (Value.int .i64 0).cells (grownCap w m 0 2 - m)) 2); simp only [List.length_nil, Nat.zero_add, List.nil_append, nums, List.map_nil, Array.empty_append] at hgr ⊢; exact ⟨_, _, _, hr, hgr, hk.2, hk.1, .inr rfl⟩
 ·by_cases hroom : xs.length + m ≤ cap
  ·have hfit : xs.length * i.size + (nums .i64 ys).length ≤ cur.size := by rw [hyl, hcs, hsize]; omega
   have hr := run_append_room (P := Try.prog) w 24 ty 2 i ht hi g xs.length cap cur hg a m c (nums .i64 ys) (by rw [hsize]; omega) hnews F hroom hfit; rw [hsize, Nat.mul_one] at hr; rw [Nat.mul_one] at htake; rw [htake] at hr; have hset := setRow_heap w g cur (nums .i64 xs ++ nums .i64 ys ++ cur.toList.drop (xs.length + (nums .i64 ys).length)).toArray 2 (0, 0) hg
   have hsz : (nums .i64 xs ++ nums .i64 ys ++ cur.toList.drop (xs.length + (nums .i64 ys).length)).toArray.size = cap * 1 := by
    simp only [List.size_toArray, List.length_append, List.length_drop, Array.length_toList, hxl, hyl, hcs]; omega
   refine ⟨_, _, _, hr, ⟨by rw [hlen, hn], .inr ⟨g, cap, _, by rw [hn], hbg, hset, by rw [hn]; exact hroom, hcm, hsz, ?_⟩⟩, ⟨by rw [hxl, Nat.mul_one], .inr ⟨g, cap, _, rfl, hbg, hset, hnc, hcm, hsz, ?_⟩⟩, ⟨rfl, rfl, rfl, by simp, fun k _ hk => setRow_other w g k _ (fun e => hk (by simp [Value.ownBlock, e]))⟩, .inl rfl⟩
   ·show List.take _ (nums .i64 xs ++ nums .i64 ys ++ _) = _; rw [← hap, ← hlen]; exact List.take_left
   ·show List.take _ (nums .i64 xs ++ nums .i64 ys ++ _) = _; rw [List.append_assoc, Nat.mul_one]; have e : xs.length = (nums .i64 xs).length := hxl.symm; rw [e]; exact List.take_left
  ·have holds : ∀ j u, (nums .i64 xs)[j]? = some u → w.cell? ((⟨g, 0, none⟩ : Addr).add j) = some u := hown.cells (g := g) rfl; have hr := run_append_grow (P := Try.prog) w 24 ty 2 i (.int .i64 0) ht hi hz ⟨g, 0, none⟩ xs.length cap (nums .i64 xs) (by rw [hsize]; omega) holds a m c (nums .i64 ys) (by rw [hsize]; omega) hnews (by omega) (by omega) (growslice_fits (by omega) (by rw [hby]; exact hbytes)); exact ⟨_, _, _, hr, grown cap (by omega), (kept _).2, (kept _).1, .inr rfl⟩
/-- The cells of what a call owns. -/
theorem Fba.pre {W : World} {base n : Nat} {g c : Nat} {xs : List Int} (h : W.ownsRow base 2 1 (.slice (some ⟨g, 0, none⟩) n c) xs.length (nums .i64 xs)) (i : Nat) (hi : i < xs.length) : W.cell? ⟨g, i, none⟩ = some (.int .i64 (xs.getD i 0)) := by
 have := h.cells (g := g) rfl i (.int .i64 (xs.getD i 0)) (by simp [nums, List.getD, List.getElem?_eq_getElem hi])
 by_cases c0 : i = 0
 ·subst c0; simpa [Addr.add] using this
 ·simpa [Addr.add, c0] using this
theorem Fba.below_grown {w0 w w' : World} {B base : Nat} {v : Value} {xs : List Int} (k : Below B w0 w) (hB : B ≤ w0.heap.size) (g : w.grownBy w' v.ownBlock) (h : w.ownsRow base 2 1 v xs.length (nums .i64 xs)) (hb : B ≤ base) : Below B w0 w' :=
 k.grown g (Nat.le_trans hB k.size) (fun j hj => by have := h.lt j hj; omega)
theorem Fba.news (w : World) (x : Int) : ∀ j u, (nums .i64 [x])[j]? = some u → (w.alloc (.cells #[.int .i64 x] 2)).cell? ((⟨w.heap.size, 0, none⟩ : Addr).add j) = some u := by
 intro j u hu; have := World.news_of_block (cs := #[Value.int .i64 x]) (t := 2) (fr := (0, 0)) (heap_alloc_new w (.cells #[.int .i64 x] 2)); exact this j u hu
theorem Fba.cell_eq {W V : World} {g k : Nat} (h : V.heap[g]? = W.heap[g]?) : V.cell? ⟨g, k, none⟩ = W.cell? ⟨g, k, none⟩ := by
 simp only [World.cell?, h]
/-- One sum more behind the list, which reads as it did. -/
theorem Fba.one {w W : World} {g g2 c2 : Nat} {L xs : List Int} (x : Int) (hx : ∀ k, k < L.length → xs.getD k 0 = L.getD k 0) (hle : L.length ≤ xs.length) (hs : xs.length ≤ 4294967296)
  (o : W.ownsRow w.heap.size 2 1 (.slice (some ⟨g2, 0, none⟩) xs.length c2) xs.length (nums .i64 xs)) (C : ∀ k, k < L.length → W.cell? ⟨g, k, none⟩ = some (.int .i64 (L.getD k 0))) (B : Below w.heap.size w W) :
  ∃ c' g' w', (Builtin.append_ #[24, 24] 24 #[.slice (some ⟨g2, 0, none⟩) xs.length c2, .slice (some ⟨W.heap.size, 0, none⟩) 1 1]).run Try.prog (W.alloc (.cells #[.int .i64 x] 2)) = .ok (.slice (some ⟨g', 0, none⟩) (xs.length + 1) c') w' ∧
   w'.ownsRow w.heap.size 2 1 (.slice (some ⟨g', 0, none⟩) (xs.length + 1) c') (xs ++ [x]).length (nums .i64 (xs ++ [x])) ∧ (∀ k, k < L.length → w'.cell? ⟨g, k, none⟩ = some (.int .i64 (L.getD k 0))) ∧ Below w.heap.size w w' := by
 have oa := o.alloc (.cells #[.int .i64 x] 2); obtain ⟨A', c', w', r1, o1, k1, g1, -⟩ := Fba.keep (W.alloc (.cells #[.int .i64 x] 2)) w.heap.size 24 _ xs oa ⟨W.heap.size, 0, none⟩ 1 1 [x] rfl (by decide) (Fba.news W x) (by omega) (by have := B.size; simp; omega); obtain ⟨g', cap, eg, -, -⟩ := o1.form (by simp)
 injection eg with e1 e2 e3
 subst e1; refine ⟨c', g', w', r1, o1, fun k hk => ?_, Fba.below_grown (B.alloc B.size _) (Nat.le_refl _) g1 oa (Nat.le_refl _)⟩
 by_cases hg : g = g2
 ·subst hg; rw [Fba.pre k1 k (by omega), hx k hk]
 ·have lt := World.block_lt_of_cell? _ _ (C k hk); rw [Fba.cell_eq (g1.block g (by simp; exact Nat.lt_succ_of_lt lt) (by simp [Value.ownBlock]; exact hg)), Fba.cell_eq (Below.heap_alloc W _ g lt)]; exact C k hk
/-- The sums: a coefficient after the other doubles the list. -/
def Fba.L : List Int → List Int → List Int
 | L, [] => L
 | L, c :: cs => Fba.L (L ++ L.map fun s => wrap64 (s + c)) cs
def Fba.f (l0 : List Int) : Option (List Int) := if l0.length ≤ 30 then some (Fba.L [0] l0) else none
theorem Fba.calls (Q : Option Addr) (U : Nat) (A : List Int) (r : List Int) (w : World) (J : Kd.C (Kd.int .i64) w Q A.length A) (Y : A.length ≤ U) (h : Fba.f A = some r) :
  Calls Try.prog 26 #[.slice Q A.length U] w fun e w' => ∃ M : Value, e = .returned M ∧ Kd.R (Kd.int .i64) 2 w' w.heap.size (fun _ => True) M r ∧ Below w.heap.size w w' := by
 unfold Fba.f at h
 by_cases hl : A.length ≤ 30
 case neg => rw [if_neg hl] at h; cases h
 rw [if_pos hl] at h; obtain rfl := Qx h; have HR := aM J; have HL := aM hl; have HM : ∃ m : Nat, m = A.length := ⟨_, rfl⟩; clear h J Y hl
 have aa : (A.length : Int) ≤ 30 := by have := HL.out; omega
 go_enter Try.func26, Try.ntmps26
 go_wp2
 go_loopw [3, 11] (fun Z D wr => ∃ (i c g : Nat) (L : List Int), i ≤ A.length ∧ Z = .slice (some ⟨g, 0, none⟩) L.length c ∧ D = .int .i64 (i : Int) ∧ Aside0 (L.length = 2 ^ i) ∧ Aside0 (Fba.L L (A.drop i) = Fba.L [0] A) ∧ Aside0 (wr.ownsRow w.heap.size 2 1 (.slice (some ⟨g, 0, none⟩) L.length c) L.length (nums .i64 L)) ∧ BA w wr) (fun _ D _ => A.length - (intOf D).toNat)
 case atStart => exact ⟨0, 1, w.heap.size, [0], Nat.zero_le _, rfl, rfl, ⟨rfl⟩, ⟨rfl⟩, ⟨World.ownsRow_lit (base := w.heap.size) (e := 2) (size := 1) w #[.int .i64 0] 1 (Nat.le_refl _) (by decide) (by rfl)⟩, ⟨(Qg _ _).alloc (Nat.le_refl _) _⟩⟩
 case round =>
  obtain ⟨i, c, g, L, hi, rfl, rfl, H2, HV, HO, HB⟩ := hrel
  have hle : L.length ≤ 2 ^ 30 := by rw [H2.out]; exact Nat.pow_le_pow_right (by decide) (Nat.le_trans hi HL.out)
  by_cases hlt : i < A.length
  ·obtain ⟨ad, rfl, F⟩ := Kd.at_int (Q3 HR.out HB.out) (i : Int) (by omega) (by omega); rw [Int.toNat_natCast] at F; obtain ⟨z, ez⟩ : ∃ z, z = rd A (i : Int) := ⟨_, rfl⟩; rw [← ez] at F; have EZ := aM ez; clear ez
   have hlen : (L.length : Int) ≤ 1073741824 := by omega
   go_wp2
   clear F
   go_loopw [3, 17] (fun u3 u17 wq => ∃ (j G g2 : Nat), j ≤ L.length ∧ u3 = .slice (some ⟨g2, 0, none⟩) (L.length + j) G ∧ u17 = .int .i64 (j : Int) ∧ Aside0 (wq.ownsRow w.heap.size 2 1 (.slice (some ⟨g2, 0, none⟩) (L.length + j) G) (L.length + j) (nums .i64 (L ++ (L.take j).map fun s => wrap64 (s + z)))) ∧ Aside0 (∀ k, k < L.length → wq.cell? ⟨g, k, none⟩ = some (.int .i64 (L.getD k 0))) ∧ BA w wq) (fun _ u17 _ => L.length - (intOf u17).toNat)
   case atStart => exact ⟨0, c, g, Nat.zero_le _, rfl, rfl, ⟨by simpa using HO.out⟩, ⟨fun k hk => Fba.pre HO.out k hk⟩, HB⟩
   case round =>
    obtain ⟨j, G, g2, hj, rfl, rfl, QO, QC, QB⟩ := hrel
    by_cases hjl : j < L.length
    ·have hc := QC.out j hjl; obtain ⟨s, es⟩ : ∃ s, s = L.getD j 0 := ⟨_, rfl⟩; rw [← es] at hc
     obtain ⟨xs, ex⟩ : ∃ xs, xs = L ++ (L.take j).map fun s => wrap64 (s + z) := ⟨_, rfl⟩
     have xl : xs.length = L.length + j := by rw [ex]; simp; omega
     have qo := QO.out; rw [← ex, ← xl] at qo; obtain ⟨c', g', w', O, o1, C1, B1⟩ := Fba.one (w := w) (wrap64 (s + z)) (L := L) (xs := xs) (fun k hk => by rw [ex, List.getD, List.getElem?_append_left hk]; rfl) (by omega) (by omega) qo QC.out QB.out; rw [xl] at O o1
     have en : xs ++ [wrap64 (s + z)] = L ++ (L.take (j + 1)).map fun s => wrap64 (s + z) := by
      have hs : L[j] = s := by rw [es]; simp [List.getD, List.getElem?_eq_getElem hjl]
      have ht : L.take (j + 1) = L.take j ++ [L[j]] := by rw [List.take_add_one, List.getElem?_eq_getElem hjl]; rfl
      rw [ht, List.map_append, ← List.append_assoc, ← ex, hs]; rfl
     have xl' : (xs ++ [wrap64 (s + z)]).length = L.length + (j + 1) := by simp [xl]; omega
     rw [xl', en, Nat.add_assoc] at o1; have R1 := aM O; have O1 := aM o1; have C1 := aM C1; have B1 := aM B1; clear O o1 qo en xl' xl ex es QO QC QB
     go_wp2_with ((with_reducible refine gate_builtin (b := .append) (xs := #[.tmp 21, .tmp 25]) rfl ?_); at_builtin; go_loud (refine Lib.wpList_append_run_sl _ rfl (.tmp 21) (.tmp 25) 24 rfl _ _ rfl rfl R1.out ?_))
     go_roundw
     case rel => exact ⟨j + 1, c', g', by omega, by rfl, by go_num, O1, C1, B1⟩
     case measure => simp [intOf]; omega
    ·have hj' : j = L.length := by omega
     subst hj'; have o := QO.out; rw [List.take_length] at o
     have I : (L ++ L.map fun s => wrap64 (s + z)).length = L.length + L.length := by simp
     have hd : A.drop i = z :: A.drop (i + 1) := by
      rw [List.drop_eq_getElem_cons hlt, EZ.out]; simp [rd, List.getD_eq_getElem?_getD, List.getElem?_eq_getElem hlt]
     have V2 : Aside0 (Fba.L (L ++ L.map fun s => wrap64 (s + z)) (A.drop (i + 1)) = Fba.L [0] A) := ⟨by rw [← HV.out, hd]; rfl⟩; have P2 : Aside0 ((L ++ L.map fun s => wrap64 (s + z)).length = 2 ^ (i + 1)) := ⟨by rw [I, H2.out, Nat.pow_succ]; omega⟩; rw [← I] at o; have O2 := aM o; have E1 := aM I; clear o I hd QO QC
     go_wp2
     go_roundw
     case rel => exact ⟨i + 1, G, g2, _, by omega, by rw [E1.out], by go_num, P2, V2, O2, QB⟩
     case measure => simp [intOf]; omega
  ·have hi' : i = A.length := by omega
   subst hi'; have e := HV.out; rw [List.drop_length, Fba.L] at e; have E := aM e; clear e
   go_wp2
   go_ret
   rw [← E.out]; exact ⟨_, rfl, Kd.R_of_own HO.out (fun _ _ => trivial), HB.out⟩
def Fc.f (a0 : Int) : Option (Int) := some (a0 / 2)
theorem Fc.calls (A : Int) (r : Int) (w : World) (h : Fc.f A = some r) :
  Calls Try.prog 73 #[.int .i64 A] w fun e w' => e = .returned (.int .i64 r) ∧ Drawn0 w w' := by
 rw [Fc.f] at h; have H := h; clear h; obtain rfl := Qx H
 go_enter Try.func73, Try.ntmps73
 go_wp2
 go_ret
 exact ⟨eVl, dRw⟩
def Fac.f (a0 : Int) (a1 : Int) : Option (Int) := (Fc.f a0).bind fun t139 => ((Fc.f a1).bind fun t140 => (if (Go.bits .and .i64 a0 1) = 0 then (if (Go.bits .and .i64 a1 1) = 1 then (some (wrap64 ((wrap64 (t139 - t140)) - 1))) else (some (wrap64 (t139 - t140)))) else (some (wrap64 (t139 - t140)))))
theorem Fac.calls (A : Int) (D : Int) (r : Int) (w : World) (h : Fac.f A D = some r) :
  Calls Try.prog 48 #[.int .i64 A, .int .i64 D] w fun e w' => e = .returned (.int .i64 r) ∧ Drawn0 w w' := by
 rw [Fac.f] at h; have H := h; clear h; apply bSx H; clear H; intro F Q H; apply bSx H; clear H; intro G U H
 apply iB H <;> clear H <;> intro I H
 ·obtain ⟨Y, Z⟩ := bq I; clear I
  apply iB H <;> clear H <;> intro J H
  ·obtain ⟨aa, ab⟩ := bq J; clear J; obtain rfl := Qx H
   go_enter Try.func48, Try.ntmps48
   go_wp2_with (first | ((with_reducible refine Qb (f := 73) rfl ?_); refine gL_ (some 7) Try.func73 #[.int .i64 A] ?_; (with_reducible refine (Fc.calls A F _ Q.out).mono ?_); rintro e w' ⟨rfl, ⟨nd, rfl⟩⟩; refine ⟨_, rfl, ?_⟩) | ((with_reducible refine Qb (f := 73) rfl ?_); refine gL_ (some 9) Try.func73 #[.int .i64 D] ?_; (with_reducible refine (Fc.calls D G _ U.out).mono ?_); rintro e w' ⟨rfl, ⟨nd, rfl⟩⟩; refine ⟨_, rfl, ?_⟩))
   go_ret
   exact ⟨eVl, dRw⟩
  ·obtain ⟨aa, ab⟩ := bn J; obtain rfl := Qx H
   go_enter Try.func48, Try.ntmps48
   go_wp2_with (first | ((with_reducible refine Qb (f := 73) rfl ?_); refine gL_ (some 7) Try.func73 #[.int .i64 A] ?_; (with_reducible refine (Fc.calls A F _ Q.out).mono ?_); rintro e w' ⟨rfl, ⟨nd, rfl⟩⟩; refine ⟨_, rfl, ?_⟩) | ((with_reducible refine Qb (f := 73) rfl ?_); refine gL_ (some 9) Try.func73 #[.int .i64 D] ?_; (with_reducible refine (Fc.calls D G _ U.out).mono ?_); rintro e w' ⟨rfl, ⟨nd, rfl⟩⟩; refine ⟨_, rfl, ?_⟩))
   go_ret
   exact ⟨eVl, dRw⟩
 ·obtain ⟨Y, Z⟩ := bn I; obtain rfl := Qx H
  go_enter Try.func48, Try.ntmps48
  go_wp2_with (first | ((with_reducible refine Qb (f := 73) rfl ?_); refine gL_ (some 7) Try.func73 #[.int .i64 A] ?_; (with_reducible refine (Fc.calls A F _ Q.out).mono ?_); rintro e w' ⟨rfl, ⟨nd, rfl⟩⟩; refine ⟨_, rfl, ?_⟩) | ((with_reducible refine Qb (f := 73) rfl ?_); refine gL_ (some 9) Try.func73 #[.int .i64 D] ?_; (with_reducible refine (Fc.calls D G _ U.out).mono ?_); rintro e w' ⟨rfl, ⟨nd, rfl⟩⟩; refine ⟨_, rfl, ?_⟩))
  go_ret
  exact ⟨eVl, dRw⟩
def Fab.f (a0 : Int) (a1 : Int) : Option (Bool) := some ((Go.bits .and .i64 a0 1) == (Go.bits .and .i64 a1 1))
theorem Fab.calls (A : Int) (D : Int) (r : Bool) (w : World) (h : Fab.f A D = some r) :
  Calls Try.prog 49 #[.int .i64 A, .int .i64 D] w fun e w' => e = .returned (.bool r) ∧ Drawn0 w w' := by
 rw [Fab.f] at h; have H := h; clear h; obtain rfl := Qx H
 go_enter Try.func49, Try.ntmps49
 go_wp2
 go_ret
 exact ⟨eVl, dRw⟩
end Go.Proofs.Ythgoonohpfoagaa.X

/- What the functions of this seat compute, and that the program's calls come to just that: written by this session's own program out of the translation; no condition. -/
import Derived.Test.YthgoonohpfoagaaX0
namespace Go.Proofs.Ythgoonohpfoagaa.X
open Go.RowKit Go.Proofs.YthgoonohpfoagaaW.PrintWords Go.Proofs.YthgoonohpfoagaaW.PrintLast Go.Proofs.YthgoonohpfoagaaW.PrintMore
attribute [local go_sem] max2_int min2_int max_two min_two max_three min_three max_four min_four
set_option linter.unusedVariables false
set_option linter.unusedSimpArgs false
set_option maxHeartbeats 8000000
set_option maxRecDepth 100000

/-! ### tabardlaw14_copied: function 8 -/
def tabardlaw14_copied.f (a0_0 : Int) (l0_1 : List ByteArray) (l0_2 : List Int) (a0_3 : Int) (a0_4 : Int) : Option (Int × List ByteArray × List Int × Int × Int) := (some (([] : List ByteArray) : List ByteArray)).bind fun y103 => (if y103.length + l0_1.length < 8796093022208 then ((some (([] : List Int) : List Int)).bind fun y109 => (if y109.length + l0_2.length < 17592186044416 then (some (a0_0, (y103 ++ l0_1), (y109 ++ l0_2), a0_3, a0_4)) else (none))) else (none))
def tabardlaw14_copied.T1 : Bool × List (List Nat × List Nat) := (true, [([], []), ([], []), ([1], [1]), ([0, 2], [0, 2]), ([], []), ([], []), ([5], [5]), ([4, 6, 3], [4, 6]), ([0, 1, 2, 3, 5, 6], []), ([8, 3, 7, 0, 1, 2, 3, 5, 6], [3, 8]), ([0, 1, 2, 3, 4, 5, 6, 7, 8, 9], []), ([10, 7, 9, 0, 1, 2, 3, 4, 5, 6, 7, 8, 9], [7, 10])])
def tabardlaw14_copied.B1 : List Nat := [0, 0, 2, 7, 0, 0, 32, 127, 111, 511, 1023, 2047]
theorem tabardlaw14_copied.tab1 : rtab .any (opsOf Try.f8 1) = tabardlaw14_copied.T1 := by kernel_rfl
theorem tabardlaw14_copied.bits1 : waitsOk tabardlaw14_copied.T1.2 tabardlaw14_copied.B1 = true := by kernel_rfl
theorem tabardlaw14_copied.calls (O : Int) (ac : Option Addr) (ad : Nat) (I : List ByteArray) (ae : Option Addr) (af : Nat) (M : List Int) (Q : Int) (U : Int) (r1 : Int) (r2 : List ByteArray) (r3 : List Int) (r4 : Int) (r5 : Int) (w : World) (aC : Kd.C Kd.string w ac I.length I) (aD : I.length ≤ ad) (aE : Kd.C (Kd.int .i64) w ae M.length M) (aG : M.length ≤ af) (h : tabardlaw14_copied.f O I M Q U = some (r1, r2, r3, r4, r5)) :
  Calls Try.prog 8 #[.agg #[.int .i64 O, .slice ac I.length ad, .slice ae M.length af, .int .i64 Q, .int .i64 U]] w fun e w' => ∃ aX aY : Value, e = .returned (.agg #[.int .i64 r1, aX, aY, .int .i64 r4, .int .i64 r5]) ∧ Kd.R Kd.string 9 w' w.heap.size (fun _ => True) aX r2 ∧ Kd.R (Kd.int .i64) 2 w' w.heap.size (fun _ => True) aY r3 ∧ Below w.heap.size w w' := by
 have hu26 := Try.underlying26; have ar := aM aC; have bt := aM aD; clear aC aD; have aT := aM aE; have bu := aM aG; clear aE aG; have HB := aM (Below.refl w.heap.size w); rw [tabardlaw14_copied.f] at h; have H := h; clear h; obtain ⟨ag, au⟩ : ∃ y_ : List ByteArray, y_ = (([] : List ByteArray)) := ⟨_, rfl⟩
 replace H : (if ag.length + I.length < 8796093022208 then ((some (([] : List Int) : List Int)).bind fun ah => (if ah.length + M.length < 17592186044416 then (some (O, (ag ++ I), (ah ++ M), Q, U)) else (none))) else (none)) = some (r1, r2, r3, r4, r5) := rH au H
 have aH := aM au; clear au
 by_cases c2 : ag.length + I.length < 8796093022208
 ·rw [if_pos c2] at H; have aA := aM c2; clear c2; obtain ⟨V, ao⟩ : ∃ y_ : List ByteArray, y_ = (ag ++ I) := ⟨_, rfl⟩
  first | replace H := rI ao H | rw [← ao] at H
  have av := aM ao; clear ao; obtain ⟨ah, ap⟩ : ∃ y_ : List Int, y_ = (([] : List Int)) := ⟨_, rfl⟩
  first | replace H := rI ap H | rw [← ap] at H
  have aw := aM ap; clear ap
  by_cases c3 : ah.length + M.length < 17592186044416
  ·rw [if_pos c3] at H; have a5 := aM c3; clear c3; obtain ⟨ai, aq⟩ : ∃ y_ : List Int, y_ = (ah ++ M) := ⟨_, rfl⟩
   first | replace H := rI aq H | rw [← aq] at H
   have aW := aM aq; clear aq; simp only [Option.some.injEq, Prod.mk.injEq] at H; obtain ⟨rfl, rfl, rfl, rfl, rfl⟩ := H
   go_enter Try.func8, Try.ntmps8
   try go_wp2_with (first | ((with_reducible refine gate_dst (N := 1) rfl ?_); refine be_ (cs := #[.int .i64 O, .slice ac I.length ad, .slice ae M.length af, .int .i64 Q, .int .i64 U]) (t := 26) ?_; intro E hg w4 hbox hb; have z := aM (hbox); have bv := gE hg (bP0 HB); have B := gE hg (bP0 HB); replace HB := hS0 HB hb; clear hb hbox hg) | ((with_reducible refine gate_dst (N := 2) rfl ?_); refine be_ (cs := #[.int .i64 0, .slice none 0 0, .slice none 0 0, .int .i64 0, .int .i64 0]) (t := 26) ?_; intro L hg w5 hbox hb; have A := aM (hbox); have bw := gE hg (bP1 HB B); have D := gE hg (bP1 HB B); replace HB := hS1 HB B hb; have Y := nL hg z; have P := nG hg z; replace z := kB z hb; clear hb hbox hg))
   replace z := kD z; replace A := kD A; replace HB := aM (below_drew1 HB.out); refine start_ (n := 12) (S := fun w' => w'.cell? ⟨E, 0, none⟩ = some (.int .i64 O) ∧ w'.cell? ⟨E, 1, none⟩ = some (.slice ac I.length ad) ∧ w'.cell? ⟨E, 2, none⟩ = some (.slice ae M.length af) ∧ w'.cell? ⟨E, 3, none⟩ = some (.int .i64 Q) ∧ w'.cell? ⟨E, 4, none⟩ = some (.int .i64 U)) (ds := [9, 11]) (bl 12 0) (by kernel_rfl) rfl rfl ⟨(blk_cell z.out 0).trans rfl, (blk_cell z.out 1).trans rfl, (blk_cell z.out 2).trans rfl, (blk_cell z.out 3).trans rfl, (blk_cell z.out 4).trans rfl⟩ (fun hHeld => ?_); refine with_tabW tabardlaw14_copied.tab1 tabardlaw14_copied.bits1 (fun HT_ HW_ => ?_); generalize w5.drew = w6 at z A HB hHeld ⊢; refine pu_ 1 4 (bl 12 2) HT_ ?_; refine pu_ 5 8 (bl 12 34) HT_ ?_; refine tk5_ 2 5 (bl 12 38) HT_ HW_ hHeld ?_; refine tk5_ 6 9 (bl 12 102) HT_ HW_ hHeld ?_; refine join_ (σ := Value × Value × Value) 4 (bl 12 383) (fun s_ => [(3, s_.1), (6, s_.2.1), (7, s_.2.2), (11, .pointer (some ⟨E, 1, none⟩))]) (fun s_ w' => (w'.cell? ⟨E, 0, none⟩ = some (.int .i64 O) ∧ w'.cell? ⟨E, 1, none⟩ = some (.slice ac I.length ad) ∧ w'.cell? ⟨E, 2, none⟩ = some (.slice ae M.length af) ∧ w'.cell? ⟨E, 3, none⟩ = some (.int .i64 Q) ∧ w'.cell? ⟨E, 4, none⟩ = some (.int .i64 U)) ∧ (RA Kd.string 9 w' w s_.2.1 V) ∧ (RA (Kd.int .i64) 2 w' w s_.2.2 ah) ∧ (Aside0 (w'.heap[E]? = some (.cells #[.int .i64 O, .slice ac I.length ad, .slice ae M.length af, .int .i64 Q, .int .i64 U] 26 (0, 0)))) ∧ (Aside0 (w'.heap[L]? = some (.cells #[.int .i64 0, .slice none 0 0, .slice none 0 0, .int .i64 0, .int .i64 0] 26 (0, 0)))) ∧ BA w w') ?_ ?_
   ·clear z A HB; rintro ⟨Z, an, aj⟩ bD ⟨hHeld, J, F, z, A, HB⟩; (try dsimp only at hHeld J F z A HB); refine norm_ (a' := ?_) ?_ ?_; rotate_left
    ·simp only [putAll, Act.put, sA, sB, sC]
     rfl
    refine one_ (i := 7) (N := some 10) (bl 12 511) rfl rfl (one_of HT_.out (by kernel_rfl)) (by decide) (fun K hK => ?_); refine Kd.R_append_rows_step (Kd.int .i64) (w0 := w) w.heap.size (by rfl) (.tmp 7) (.tmp 9) 24 2 (.int .i64 0) 8 rfl Try.underlying24 info2 rfl (by decide) (by omega) aj ah M _ _ _ (fun _ => True) (fun _ => False) rfl rfl ?aO ?aR (fun _ _ h => h) (fun _ h => h.elim) ?aF ?aB ?aS ?aL ?_
    (case aR => exact cO (Kd.C_below aT.out HB.out))
    (case aB => exact (bP2 HB B D))
    (case aF => exact (fun _ _ => trivial))
    (case aO => exact (rP F))
    (case aS => exact (below_size (bP2 HB B D)))
    (case aL => have := a5.out; omega)
    intro bB aZ ho hb hg hat; rw [← aW.out] at ho; replace z := kG z hg F; replace A := kG A hg F; replace J := aM (Kd.R_over' (rP J) (Kd.R_typed (rP F)) (by decide) hg); replace HB := aM (hb); have aI := aM (ho); clear F; clear ho hb hg hat; obtain ⟨aa, ab, aJ⟩ := sL J
    (first | subst aJ | (injection aJ with ay aK az; have aN := ay.symm; have aP := az.symm; clear ay aK az; subst aN; subst aP))
    obtain ⟨ak, al, aQ⟩ := sL aI
    (first | subst aQ | (injection aQ with ay aK az; have aN := ay.symm; have aP := az.symm; clear ay aK az; subst aN; subst aP))
    refine hK.out _ _ ⟨(blk_cell z.out 0).trans rfl, (blk_cell z.out 1).trans rfl, (blk_cell z.out 2).trans rfl, (blk_cell z.out 3).trans rfl, (blk_cell z.out 4).trans rfl⟩ (fun hHeld => ?_); clear hK K; refine nm_ 10 ?_; refine last_ (i := 9) (N := none) (bl 12 1023) rfl rfl (one_of HT_.out (by kernel_rfl)) (by decide) (fun K hK => ?_); have hs15 : aZ.cell? ⟨E, 1, none⟩ = some (.slice ac I.length ad) := (blk_cell z.out 1).trans rfl; have hfs15 := blk_frozen z.out 1; have hns15_1 := P.out; have hms15_1 := Y.out; refine skip_ (w1 := ?_) (by rfl) rfl ?_ ?_; rotate_left
    ·go_simp
     rfl
    refine hK.out _ _ ?_; clear hK K; refine pu_ 10 12 (bl 12 2047) HT_ ?_; refine last_ (i := 11) (N := none) (bl 12 4095) rfl rfl (one_of HT_.out (by kernel_rfl)) (by decide) (fun K hK => ?_); have hs17 : aZ.cell? ⟨E, 2, none⟩ = some (.slice ae M.length af) := (blk_cell z.out 2).trans rfl; have hfs17 := blk_frozen z.out 2; have hns17_1 := P.out; have hms17_1 := Y.out; refine skip_ (w1 := ?_) (by rfl) rfl ?_ ?_; rotate_left
    ·go_simp
     rfl
    refine hK.out _ _ ?_; clear hK K; refine done_ (done_of HT_.out (by kernel_rfl)) ?_; have bx := Y.out; have bz := P.out; obtain ⟨a6, a7, a8, a9, ba, bb, bc, bd, be, bf⟩ := bG5 z; obtain ⟨bg, bh, bi, bj, bk, bm, bn, bo, bp, bq⟩ := bG5 A
    try go_wp2
    refine bodyPost_ret (results_cell_row rfl _ _ L 26 #[.int .i64 O, .slice aa V.length ab, .slice ak ai.length al, .int .i64 Q, .int .i64 U] (0, 0) _ rfl (by (with_reducible repeat (first | refine blk_drewN ?_ _ | refine blk_drew ?_ | refine blk_alloc ?_ _)); refine blk_put (cs := #[.int .i64 O, .slice aa V.length ab, .slice ak ai.length al, .int .i64 Q, .int .i64 0]) ?_ 4 _ rfl; (with_reducible repeat (first | refine blk_drewN ?_ _ | refine blk_drew ?_ | refine blk_alloc ?_ _)); refine blk_put (cs := #[.int .i64 O, .slice aa V.length ab, .slice ak ai.length al, .int .i64 0, .int .i64 0]) ?_ 3 _ rfl; (with_reducible repeat (first | refine blk_drewN ?_ _ | refine blk_drew ?_ | refine blk_alloc ?_ _)); refine blk_put (cs := #[.int .i64 O, .slice aa V.length ab, .slice none 0 0, .int .i64 0, .int .i64 0]) ?_ 2 _ rfl; (with_reducible repeat (first | refine blk_drewN ?_ _ | refine blk_drew ?_ | refine blk_alloc ?_ _)); refine blk_put (cs := #[.int .i64 O, .slice none 0 0, .slice none 0 0, .int .i64 0, .int .i64 0]) ?_ 1 _ rfl; (with_reducible repeat (first | refine blk_drewN ?_ _ | refine blk_drew ?_ | refine blk_alloc ?_ _)); refine blk_put (cs := #[.int .i64 0, .slice none 0 0, .slice none 0 0, .int .i64 0, .int .i64 0]) ?_ 0 _ rfl; (with_reducible repeat (first | refine blk_drewN ?_ _ | refine blk_drew ?_ | refine blk_alloc ?_ _)); refine blk_far ?_ P.out _; (with_reducible repeat (first | refine blk_drewN ?_ _ | refine blk_drew ?_ | refine blk_alloc ?_ _)); refine blk_far ?_ P.out _; (with_reducible repeat (first | refine blk_drewN ?_ _ | refine blk_drew ?_ | refine blk_alloc ?_ _)); exact A.out) Try.underlying26 rfl (by kernel_rfl)) rfl ?_; exact ⟨_, _, eW, by (with_reducible repeat (first | apply Kd.R_alloc | apply Kd.R_drewN | apply Kd.R_drew)); exact Kd.R_mono (rF L 4 (rF L 3 (rF L 2 (rF L 1 (rF L 0 (rF E 2 (rF E 1 (Kd.R_types (Kd.R_types J.out z.out (by decide)) A.out (by decide)) (fun _ hk => hk.1.2) (.slice aa V.length ab)) (fun _ hk => hk.1.2) (.slice ak ai.length al)) (fun _ hk => hk.2) (.int .i64 O)) (fun _ hk => hk.2) (.slice aa V.length ab)) (fun _ hk => hk.2) (.slice ak ai.length al)) (fun _ hk => hk.2) (.int .i64 Q)) (fun _ hk => hk.2) (.int .i64 U)) (fun _ hk => trivial), by (with_reducible repeat (first | apply Kd.R_alloc | apply Kd.R_drewN | apply Kd.R_drew)); exact Kd.R_mono (rF L 4 (rF L 3 (rF L 2 (rF L 1 (rF L 0 (rF E 2 (rF E 1 (Kd.R_types (Kd.R_types aI.out z.out (by decide)) A.out (by decide)) (fun _ hk => hk.1.2) (.slice aa V.length ab)) (fun _ hk => hk.1.2) (.slice ak ai.length al)) (fun _ hk => hk.2) (.int .i64 O)) (fun _ hk => hk.2) (.slice aa V.length ab)) (fun _ hk => hk.2) (.slice ak ai.length al)) (fun _ hk => hk.2) (.int .i64 Q)) (fun _ hk => hk.2) (.int .i64 U)) (fun _ hk => trivial), bS2 HB.out B.out D.out⟩
   intro hCont; refine two_ (i := 0) (j := 4) (Ni := some 3) (Nj := some 7) (bl 12 103) (bl 12 118) rfl rfl rfl rfl (two_of HT_.out (by kernel_rfl)) (by decide) (by decide) (fun K hK => ?_) (fun K hK => ?_)
   ·refine lt_ Kd.string 9 3 ([] : List ByteArray) [] (Reps.none _ _) ?_; intro Z w7 am hb
    replace am := nW aH am
    have G := rW am (bP2 HB B D); replace z := kB z hb; replace A := kB A hb; replace HB := hS2 HB B D hb; clear hb am; refine hK.out _ _ ⟨(blk_cell z.out 0).trans rfl, (blk_cell z.out 1).trans rfl, (blk_cell z.out 2).trans rfl, (blk_cell z.out 3).trans rfl, (blk_cell z.out 4).trans rfl⟩ (fun hHeld => ?_); clear hK K; refine nm_ 3 ?_; refine two_ (i := 3) (j := 4) (Ni := some 6) (Nj := some 7) (bl 12 111) (bl 12 119) rfl rfl rfl rfl (two_of HT_.out (by kernel_rfl)) (by decide) (by decide) (fun K hK => ?_) (fun K hK => ?_)
    ·refine Kd.R_append_rows_step Kd.string (w0 := w) w.heap.size (by rfl) (.tmp 3) (.tmp 5) 23 9 (.string ⟨#[]⟩) 16 rfl Try.underlying23 info9 rfl (by decide) (by omega) Z ag I _ _ _ (fun _ => True) (fun _ => False) rfl rfl ?aO ?aR (fun _ _ h => h) (fun _ h => h.elim) ?aF ?aB ?aS ?aL ?_
     (case aR => exact cO (Kd.C_below ar.out HB.out))
     (case aB => exact (bP2 HB B D))
     (case aF => exact (fun _ _ => trivial))
     (case aO => exact (rP G))
     (case aS => exact (below_size (bP2 HB B D)))
     (case aL => have := aA.out; omega)
     intro an w9 ho hb hg hat; rw [← av.out] at ho; replace z := kG z hg G; replace A := kG A hg G; replace HB := aM (hb); have J := aM (ho); clear G; clear ho hb hg hat; refine hK.out _ _ ⟨(blk_cell z.out 0).trans rfl, (blk_cell z.out 1).trans rfl, (blk_cell z.out 2).trans rfl, (blk_cell z.out 3).trans rfl, (blk_cell z.out 4).trans rfl⟩ (fun hHeld => ?_); clear hK K; refine nm_ 6 ?_; refine pu_ 8 11 (bl 12 367) HT_ ?_; refine one_ (i := 4) (N := some 7) (bl 12 383) rfl rfl (one_of HT_.out (by kernel_rfl)) (by decide) (fun K hK => ?_); refine lt_ (Kd.int .i64) 2 7 ([] : List Int) [] (Reps.none _ _) ?_; intro aj bE ax hb
     replace ax := nW aw ax
     replace J := rB J hb; have F := rW ax (bP2 HB B D); replace z := kB z hb; replace A := kB A hb; replace HB := hS2 HB B D hb; clear hb ax; refine hK.out _ _ ⟨(blk_cell z.out 0).trans rfl, (blk_cell z.out 1).trans rfl, (blk_cell z.out 2).trans rfl, (blk_cell z.out 3).trans rfl, (blk_cell z.out 4).trans rfl⟩ (fun hHeld => ?_); clear hK K; refine nm_ 7 ?_; exact norm_ (by simp only [putAll, Act.put, sA, sB, sC]) (hCont (Z, an, aj) _ ⟨hHeld, rQ J, rQ F, kQ z, kQ A, bT2 HB B D⟩)
    ·refine lt_ (Kd.int .i64) 2 7 ([] : List Int) [] (Reps.none _ _) ?_; intro aj w9 W hb
     replace W := nW aw W
     replace G := rB G hb; have F := rW W (bP2 HB B D); replace z := kB z hb; replace A := kB A hb; replace HB := hS2 HB B D hb; clear hb W; refine hK.out _ _ ⟨(blk_cell z.out 0).trans rfl, (blk_cell z.out 1).trans rfl, (blk_cell z.out 2).trans rfl, (blk_cell z.out 3).trans rfl, (blk_cell z.out 4).trans rfl⟩ (fun hHeld => ?_); clear hK K; refine nm_ 7 ?_; refine one_ (i := 3) (N := some 6) (bl 12 127) rfl rfl (one_of HT_.out (by kernel_rfl)) (by decide) (fun K hK => ?_); refine Kd.R_append_rows_step Kd.string (w0 := w) w.heap.size (by rfl) (.tmp 3) (.tmp 5) 23 9 (.string ⟨#[]⟩) 16 rfl Try.underlying23 info9 rfl (by decide) (by omega) Z ag I _ _ _ (fun _ => True) (fun _ => False) rfl rfl ?aO ?aR (fun _ _ h => h) (fun _ h => h.elim) ?aF ?aB ?aS ?aL ?_
     (case aR => exact cO (Kd.C_below ar.out HB.out))
     (case aB => exact (bP2 HB B D))
     (case aF => exact (fun _ _ => trivial))
     (case aO => exact (rP G))
     (case aS => exact (below_size (bP2 HB B D)))
     (case aL => have := aA.out; omega)
     intro an bs ho hb hg hat; rw [← av.out] at ho; replace z := kG z hg G; replace A := kG A hg G; replace F := aM (Kd.R_over' (rP F) (Kd.R_typed (rP G)) (by decide) hg); replace HB := aM (hb); have J := aM (ho); clear G; clear ho hb hg hat; refine hK.out _ _ ⟨(blk_cell z.out 0).trans rfl, (blk_cell z.out 1).trans rfl, (blk_cell z.out 2).trans rfl, (blk_cell z.out 3).trans rfl, (blk_cell z.out 4).trans rfl⟩ (fun hHeld => ?_); clear hK K; refine nm_ 6 ?_; refine pu_ 8 11 (bl 12 383) HT_ ?_; exact norm_ (by simp only [putAll, Act.put, sA, sB, sC]) (hCont (Z, an, aj) _ ⟨hHeld, rQ J, rQ F, kQ z, kQ A, bT2 HB B D⟩)
   ·refine lt_ (Kd.int .i64) 2 7 ([] : List Int) [] (Reps.none _ _) ?_; intro aj w7 am hb
    replace am := nW aw am
    have F := rW am (bP2 HB B D); replace z := kB z hb; replace A := kB A hb; replace HB := hS2 HB B D hb; clear hb am; refine hK.out _ _ ⟨(blk_cell z.out 0).trans rfl, (blk_cell z.out 1).trans rfl, (blk_cell z.out 2).trans rfl, (blk_cell z.out 3).trans rfl, (blk_cell z.out 4).trans rfl⟩ (fun hHeld => ?_); clear hK K; refine nm_ 7 ?_; refine one_ (i := 0) (N := some 3) (bl 12 119) rfl rfl (one_of HT_.out (by kernel_rfl)) (by decide) (fun K hK => ?_); refine lt_ Kd.string 9 3 ([] : List ByteArray) [] (Reps.none _ _) ?_; intro Z w9 W hb
    replace W := nW aH W
    replace F := rB F hb; have G := rW W (bP2 HB B D); replace z := kB z hb; replace A := kB A hb; replace HB := hS2 HB B D hb; clear hb W; refine hK.out _ _ ⟨(blk_cell z.out 0).trans rfl, (blk_cell z.out 1).trans rfl, (blk_cell z.out 2).trans rfl, (blk_cell z.out 3).trans rfl, (blk_cell z.out 4).trans rfl⟩ (fun hHeld => ?_); clear hK K; refine nm_ 3 ?_; refine one_ (i := 3) (N := some 6) (bl 12 127) rfl rfl (one_of HT_.out (by kernel_rfl)) (by decide) (fun K hK => ?_); refine Kd.R_append_rows_step Kd.string (w0 := w) w.heap.size (by rfl) (.tmp 3) (.tmp 5) 23 9 (.string ⟨#[]⟩) 16 rfl Try.underlying23 info9 rfl (by decide) (by omega) Z ag I _ _ _ (fun _ => True) (fun _ => False) rfl rfl ?aO ?aR (fun _ _ h => h) (fun _ h => h.elim) ?aF ?aB ?aS ?aL ?_
    (case aR => exact cO (Kd.C_below ar.out HB.out))
    (case aB => exact (bP2 HB B D))
    (case aF => exact (fun _ _ => trivial))
    (case aO => exact (rP G))
    (case aS => exact (below_size (bP2 HB B D)))
    (case aL => have := aA.out; omega)
    intro an bs ho hb hg hat; rw [← av.out] at ho; replace z := kG z hg G; replace A := kG A hg G; replace F := aM (Kd.R_over' (rP F) (Kd.R_typed (rP G)) (by decide) hg); replace HB := aM (hb); have J := aM (ho); clear G; clear ho hb hg hat; refine hK.out _ _ ⟨(blk_cell z.out 0).trans rfl, (blk_cell z.out 1).trans rfl, (blk_cell z.out 2).trans rfl, (blk_cell z.out 3).trans rfl, (blk_cell z.out 4).trans rfl⟩ (fun hHeld => ?_); clear hK K; refine nm_ 6 ?_; refine pu_ 8 11 (bl 12 383) HT_ ?_; exact norm_ (by simp only [putAll, Act.put, sA, sB, sC]) (hCont (Z, an, aj) _ ⟨hHeld, rQ J, rQ F, kQ z, kQ A, bT2 HB B D⟩)
  ·exact nX c3 H
 ·exact nX c2 H

end Go.Proofs.Ythgoonohpfoagaa.X

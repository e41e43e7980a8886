/- What the functions of this seat compute, and that the program's calls come to just that: written by this session's own program out of the translation; no condition. -/
import Derived.Test.YthgoonohpfoagaaX0
namespace Go.Proofs.Ythgoonohpfoagaa.X
open Go.RowKit Go.Proofs.YthgoonohpfoagaaW.PrintWords Go.Proofs.YthgoonohpfoagaaW.PrintLast Go.Proofs.YthgoonohpfoagaaW.PrintMore
attribute [local go_sem] max2_int min2_int max_two min_two max_three min_three max_four min_four
set_option linter.unusedVariables false
set_option linter.unusedSimpArgs false
set_option maxHeartbeats 8000000
set_option maxRecDepth 100000

/-! ### tabardlaw14_copied: function 8 -/
def tabardlaw14_copied.f (a0_0 : Int) (l0_1 : List ByteArray) (l0_2 : List Int) (a0_3 : Int) (a0_4 : Int) : Option (Int × List ByteArray × List Int × Int × Int) := (some (([] : List ByteArray) : List ByteArray)).bind fun y103 => (if y103.length + l0_1.length < 8796093022208 then ((some (([] : List Int) : List Int)).bind fun y109 => (if y109.length + l0_2.length < 17592186044416 then (some (a0_0, (y103 ++ l0_1), (y109 ++ l0_2), a0_3, a0_4)) else (none))) else (none))
def tabardlaw14_copied.T1 : Bool × List (List Nat × List Nat) := (true, [([], []), ([], []), ([1], [1]), ([0, 2], [0, 2]), ([], []), ([], []), ([5], [5]), ([4, 6, 3], [4, 6]), ([0, 1, 2, 3, 5, 6], []), ([8, 3, 7, 0, 1, 2, 3, 5, 6], [3, 8]), ([0, 1, 2, 3, 4, 5, 6, 7, 8, 9], []), ([10, 7, 9, 0, 1, 2, 3, 4, 5, 6, 7, 8, 9], [7, 10])])
def tabardlaw14_copied.B1 : List Nat := [0, 0, 2, 7, 0, 0, 32, 127, 111, 511, 1023, 2047]
theorem tabardlaw14_copied.tab1 : rtab .any (opsOf Try.f8 1) = tabardlaw14_copied.T1 := by kernel_rfl
theorem tabardlaw14_copied.bits1 : waitsOk tabardlaw14_copied.T1.2 tabardlaw14_copied.B1 = true := by kernel_rfl
theorem tabardlaw14_copied.calls (O : Int) (ac : Option Addr) (ad : Nat) (I : List ByteArray) (ae : Option Addr) (af : Nat) (M : List Int) (Q : Int) (U : Int) (r1 : Int) (r2 : List ByteArray) (r3 : List Int) (r4 : Int) (r5 : Int) (w : World) (aC : Kd.C Kd.string w ac I.length I) (aD : I.length ≤ ad) (aE : Kd.C (Kd.int .i64) w ae M.length M) (aG : M.length ≤ af) (h : tabardlaw14_copied.f O I M Q U = some (r1, r2, r3, r4, r5)) :
  Calls Try.prog 8 #[.agg #[.int .i64 O, .slice ac I.length ad, .slice ae M.length af, .int .i64 Q, .int .i64 U]] w fun e w' => ∃ aX aY : Value, e = .returned (.agg #[.int .i64 r1, aX, aY, .int .i64 r4, .int .i64 r5]) ∧ Kd.R Kd.string 9 w' w.heap.size (fun _ => True) aX r2 ∧ Kd.R (Kd.int .i64) 2 w' w.heap.size (fun _ => True) aY r3 ∧ Below w.heap.size w w' := by
 have hu26 := Try.underlying26; have ar := aM aC; have bt := aM aD; clear aC aD; have aT := aM aE; have bu := aM aG; clear aE aG; have HB := aM (Below.refl w.heap.size w); rw [tabardlaw14_copied.f] at h; have H := h; clear h; obtain ⟨ag, au⟩ : ∃ y_ : List ByteArray, y_ = (([] : List ByteArray)) := ⟨_, rfl⟩
 replace H : (if ag.length + I.length < 8796093022208 then ((some (([] : List Int) : List Int)).bind fun ah => (if ah.length + M.length < 17592186044416 then (some (O, (ag ++ I), (ah ++ M), Q, U)) else (none))) else (none)) = some (r1, r2, r3, r4, r5) := rH au H
 have aH := aM au; clear au
 by_cases c2 : ag.length + I.length < 8796093022208
 ·rw [if_pos c2] at H; have aA := aM c2; clear c2; obtain ⟨V, ao⟩ : ∃ y_ : List ByteArray, y_ = (ag ++ I) := ⟨_, rfl⟩
  first | replace H := rI ao H | rw [← ao] at H
  have av := aM ao; clear ao; obtain ⟨ah, ap⟩ : ∃ y_ : List Int, y_ = (([] : List Int)) := ⟨_, rfl⟩
  first | replace H := rI ap H | rw [← ap] at H
  have aw := aM ap; clear ap
  by_cases c3 : ah.length + M.length < 17592186044416
  ·rw [if_pos c3] at H; have a5 := aM c3; clear c3; obtain ⟨ai, aq⟩ : ∃ y_ : List Int, y_ = (ah ++ M) := ⟨_, rfl⟩
   first | replace H := rI aq H | rw [← aq] at H
   have aW := aM aq; clear aq; simp only [Option.some.injEq, Prod.mk.injEq] at H; obtain ⟨rfl, rfl, rfl, rfl, rfl⟩ := H
   go_enter Try.func8, Try.ntmps8
   try go_wp2_with (first | ((with_reducible refine gate_dst (N := 1) rfl ?_); refine be_ (cs := #[.int .i64 O, .slice ac I.length ad, .slice ae M.length af, .int .i64 Q, .int .i64 U]) (t := 26) ?_; intro E hg w4 hbox hb; have z := aM (hbox); have bv := gE hg (bP0 HB); have B := gE hg (bP0 HB); replace HB := hS0 HB hb; clear hb hbox hg) | ((with_reducible refine gate_dst (N := 2) rfl ?_); refine be_ (cs := #[.int .i64 0, .slice none 0 0, .slice none 0 0, .int .i64 0, .int .i64 0]) (t := 26) ?_; intro L hg w5 hbox hb; have A := aM (hbox); have bw := gE hg (bP1 HB B); have D := gE hg (bP1 HB B); replace HB := hS1 HB B hb; have Y := nL hg z; have P := nG hg z; replace z := kB z hb; clear hb hbox hg))
   replace z := kD z; replace A := kD A; replace HB := aM (below_drew1 HB.out); refine start_ (n := 12) (S := fun w' => w'.cell? ⟨E, 0, none⟩ = some (.int .i64 O) ∧ w'.cell? ⟨E, 1, none⟩ = some (.slice ac I.length ad) ∧ w'.cell? ⟨E, 2, none⟩ = some (.slice ae M.length af) ∧ w'.cell? ⟨E, 3, none⟩ = some (.int .i64 Q) ∧ w'.cell? ⟨E, 4, none⟩ = some (.int .i64 U)) (ds := [9, 11]) (bl 12 0) (by kernel_rfl) rfl rfl ⟨(blk_cell z.out 0).trans rfl, (blk_cell z.out 1).trans rfl, (blk_cell z.out 2).trans rfl, (blk_cell z.out 3).trans rfl, (blk_cell z.out 4).trans rfl⟩ (fun hHeld => ?_); refine with_tabW tabardlaw14_copied.tab1 tabardlaw14_copied.bits1 (fun HT_ HW_ => ?_); generalize w5.drew = w6 at z A HB hHeld ⊢; refine pu_ 1 4 (bl 12 2) HT_ ?_; refine pu_ 5 8 (bl 12 34) HT_ ?_; refine tk5_ 2 5 (bl 12 38) HT_ HW_ hHeld ?_; refine tk5_ 6 9 (bl 12 102) HT_ HW_ hHeld ?_; refine join_ (σ := Value × Value × Value) 4 (bl 12 383) (fun s_ => [(3, s_.1), (6, s_.2.1), (7, s_.2.2), (11, .pointer (some ⟨E, 1, none⟩))]) (fun s_ w' => (w'.cell? ⟨E, 0, none⟩ = some (.int .i64 O) ∧ w'.cell? ⟨E, 1, none⟩ = some (.slice ac I.length ad) ∧ w'.cell? ⟨E, 2, none⟩ = some (.slice ae M.length af) ∧ w'.cell? ⟨E, 3, none⟩ = some (.int .i64 Q) ∧ w'.cell? ⟨E, 4, none⟩ = some (.int .i64 U)) ∧ (RA Kd.string 9 w' w s_.2.1 V) ∧ (RA (Kd.int .i64) 2 w' w s_.2.2 ah) ∧ (Aside0 (w'.heap[E]? = some (.cells #[.int .i64 O, .slice ac I.length ad, .slice ae M.length af, .int .i64 Q, .int .i64 U] 26 (0, 0)))) ∧ (Aside0 (w'.heap[L]? = some (.cells #[.int .i64 0, .slice none 0 0, .slice none 0 0, .int .i64 0, .int .i64 0] 26 (0, 0)))) ∧ BA w w') ?_ ?_
   ·clear z A HB; rintro ⟨Z, an, aj⟩ bD ⟨hHeld, J, F, z, A, HB⟩; (try dsimp only at hHeld J F z A HB); refine norm_ (a' := ?_) ?_ ?_; rotate_left
    ·simp only [putAll, Act.put, sA, sB, sC]
     rfl
    refine one_ (i := 7) (N := some 10) (bl 12 511) rfl rfl (one_of HT_.out (by kernel_rfl)) (by decide) (fun K hK => ?_); refine Kd.R_append_rows_step (Kd.int .i64) (w0 := w) w.heap.size (by rfl) (.tmp 7) (.tmp 9) 24 2 (.int .i64 0) 8 rfl Try.underlying24 info2 rfl (by decide) (by omega) aj ah M _ _ _ (fun _ => True) (fun _ => False) rfl rfl ?aO ?aR (fun _ _ h => h) (fun _ h => h.elim) ?aF ?aB ?aS ?aL ?_
    (case aR => exact cO (Kd.C_below aT.out HB.out))
    (case aB => exact (bP2 HB B D))
    (case aF => exact (fun _ _ => trivial))
    (case aO => exact (rP F))
    (case aS => exact (below_size (bP2 HB B D)))
    (case aL => have := a5.out; omega)
    intro bB aZ ho hb hg hat; rw [← aW.out] at ho; replace z := kG z hg F; replace A := kG A hg F; replace J := aM (Kd.R_over' (rP J) (Kd.R_typed (rP F)) (by decide) hg); replace HB := aM (hb); have aI := aM (ho); clear F; clear ho hb hg hat; obtain ⟨aa, ab, aJ⟩ := sL J
    (first | subst aJ | (injection aJ with ay aK az; have aN := ay.symm; have aP := az.symm; clear ay aK az; subst aN; subst aP))
    obtain ⟨ak, al, aQ⟩ := sL aI
    (first | subst aQ | (injection aQ with ay aK az; have aN := ay.symm; have aP := az.symm; clear ay aK az; subst aN; subst aP))
    refine hK.out _ _ ⟨(blk_cell z.out 0).trans rfl, (blk_cell z.out 1).trans rfl, (blk_cell z.out 2).trans rfl, (blk_cell z.out 3).trans rfl, (blk_cell z.out 4).trans rfl⟩ (fun hHeld => ?_); clear hK K; refine nm_ 10 ?_; refine last_ (i := 9) (N := none) (bl 12 1023) rfl rfl (one_of HT_.out (by kernel_rfl)) (by decide) (fun K hK => ?_); have hs15 : aZ.cell? ⟨E, 1, none⟩ = some (.slice ac I.length ad) := (blk_cell z.out 1).trans rfl; have hfs15 := blk_frozen z.out 1; have hns15_1 := P.out; have hms15_1 := Y.out; refine skip_ (w1 := ?_) (by rfl) rfl ?_ ?_; rotate_left
    ·go_simp
     rfl
    refine hK.out _ _ ?_; clear hK K; refine pu_ 10 12 (bl 12 2047) HT_ ?_; refine last_ (i := 11) (N := none) (bl 12 4095) rfl rfl (one_of HT_.out (by kernel_rfl)) (by decide) (fun K hK => ?_); have hs17 : aZ.cell? ⟨E, 2, none⟩ = some (.slice ae M.length af) := (blk_cell z.out 2).trans rfl; have hfs17 := blk_frozen z.out 2; have hns17_1 := P.out; have hms17_1 := Y.out; refine skip_ (w1 := ?_) (by rfl) rfl ?_ ?_; rotate_left
    ·go_simp
     rfl
    refine hK.out _ _ ?_; clear hK K; refine done_ (done_of HT_.out (by kernel_rfl)) ?_; have bx := Y.out; have bz := P.out; obtain ⟨a6, a7, a8, a9, ba, bb, bc, bd, be, bf⟩ := bG5 z; obtain ⟨bg, bh, bi, bj, bk, bm, bn, bo, bp, bq⟩ := bG5 A
    try go_wp2
    refine bodyPost_ret (results_cell_row rfl _ _ L 26 #[.int .i64 O, .slice aa V.length ab, .slice ak ai.length al, .int .i64 Q, .int .i64 U] (0, 0) _ rfl (by (with_reducible repeat (first | refine blk_drewN ?_ _ | refine blk_drew ?_ | refine blk_alloc ?_ _)); refine blk_put (cs := #[.int .i64 O, .slice aa V.length ab, .slice ak ai.length al, .int .i64 Q, .int .i64 0]) ?_ 4 _ rfl; (with_reducible repeat (first | refine blk_drewN ?_ _ | refine blk_drew ?_ | refine blk_alloc ?_ _)); refine blk_put (cs := #[.int .i64 O, .slice aa V.length ab, .slice ak ai.length al, .int .i64 0, .int .i64 0]) ?_ 3 _ rfl; (with_reducible repeat (first | refine blk_drewN ?_ _ | refine blk_drew ?_ | refine blk_alloc ?_ _)); refine blk_put (cs := #[.int .i64 O, .slice aa V.length ab, .slice none 0 0, .int .i64 0, .int .i64 0]) ?_ 2 _ rfl; (with_reducible repeat (first | refine blk_drewN ?_ _ | refine blk_drew ?_ | refine blk_alloc ?_ _)); refine blk_put (cs := #[.int .i64 O, .slice none 0 0, .slice none 0 0, .int .i64 0, .int .i64 0]) ?_ 1 _ rfl; (with_reducible repeat (first | refine blk_drewN ?_ _ | refine blk_drew ?_ | refine blk_alloc ?_ _)); refine blk_put (cs := #[.int .i64 0, .slice none 0 0, .slice none 0 0, .int .i64 0, .int .i64 0]) ?_ 0 _ rfl; (with_reducible repeat (first | refine blk_drewN ?_ _ | refine blk_drew ?_ | refine blk_alloc ?_ _)); refine blk_far ?_ P.out _; (with_reducible repeat (first | refine blk_drewN ?_ _ | refine blk_drew ?_ | refine blk_alloc ?_ _)); refine blk_far ?_ P.out _; (with_reducible repeat (first | refine blk_drewN ?_ _ | refine blk_drew ?_ | refine blk_alloc ?_ _)); exact A.out) Try.underlying26 rfl (by kernel_rfl)) rfl ?_; exact ⟨_, _, eW, by (with_reducible repeat (first | apply Kd.R_alloc | apply Kd.R_drewN | apply Kd.R_drew)); exact Kd.R_mono (rF L 4 (rF L 3 (rF L 2 (rF L 1 (rF L 0 (rF E 2 (rF E 1 (Kd.R_types (Kd.R_types J.out z.out (by decide)) A.out (by decide)) (fun _ hk => hk.1.2) (.slice aa V.length ab)) (fun _ hk => hk.1.2) (.slice ak ai.length al)) (fun _ hk => hk.2) (.int .i64 O)) (fun _ hk => hk.2) (.slice aa V.length ab)) (fun _ hk => hk.2) (.slice ak ai.length al)) (fun _ hk => hk.2) (.int .i64 Q)) (fun _ hk => hk.2) (.int .i64 U)) (fun _ hk => trivial), by (with_reducible repeat (first | apply Kd.R_alloc | apply Kd.R_drewN | apply Kd.R_drew)); exact Kd.R_mono (rF L 4 (rF L 3 (rF L 2 (rF L 1 (rF L 0 (rF E 2 (rF E 1 (Kd.R_types (Kd.R_types aI.out z.out (by decide)) A.out (by decide)) (fun _ hk => hk.1.2) (.slice aa V.length ab)) (fun _ hk => hk.1.2) (.slice ak ai.length al)) (fun _ hk => hk.2) (.int .i64 O)) (fun _ hk => hk.2) (.slice aa V.length ab)) (fun _ hk => hk.2) (.slice ak ai.length al)) (fun _ hk => hk.2) (.int .i64 Q)) (fun _ hk => hk.2) (.int .i64 U)) (fun _ hk => trivial), bS2 HB.out B.out D.out⟩
   intro hCont; refine two_ (i := 0) (j := 4) (Ni := some 3) (Nj := some 7) (bl 12 103) (bl 12 118) rfl rfl rfl rfl (two_of HT_.out (by kernel_rfl)) (by decide) (by decide) (fun K hK => ?_) (fun K hK => ?_)
   ·refine lt_ Kd.string 9 3 ([] : List ByteArray) [] (Reps.none _ _) ?_; intro Z w7 am hb
    replace am := nW aH am
    have G := rW am (bP2 HB B D); replace z := kB z hb; replace A := kB A hb; replace HB := hS2 HB B D hb; clear hb am; refine hK.out _ _ ⟨(blk_cell z.out 0).trans rfl, (blk_cell z.out 1).trans rfl, (blk_cell z.out 2).trans rfl, (blk_cell z.out 3).trans rfl, (blk_cell z.out 4).trans rfl⟩ (fun hHeld => ?_); clear hK K; refine nm_ 3 ?_; refine two_ (i := 3) (j := 4) (Ni := some 6) (Nj := some 7) (bl 12 111) (bl 12 119) rfl rfl rfl rfl (two_of HT_.out (by kernel_rfl)) (by decide) (by decide) (fun K hK => ?_) (fun K hK => ?_)
    ·refine Kd.R_append_rows_step Kd.string (w0 := w) w.heap.size (by rfl) (.tmp 3) (.tmp 5) 23 9 (.string ⟨#[]⟩) 16 rfl Try.underlying23 info9 rfl (by decide) (by omega) Z ag I _ _ _ (fun _ => True) (fun _ => False) rfl rfl ?aO ?aR (fun _ _ h => h) (fun _ h => h.elim) ?aF ?aB ?aS ?aL ?_
     (case aR => exact cO (Kd.C_below ar.out HB.out))
     (case aB => exact (bP2 HB B D))
     (case aF => exact (fun _ _ => trivial))
     (case aO => exact (rP G))
     (case aS => exact (below_size (bP2 HB B D)))
     (case aL => have := aA.out; omega)
     intro an w9 ho hb hg hat; rw [← av.out] at ho; replace z := kG z hg G; replace A := kG A hg G; replace HB := aM (hb); have J := aM (ho); clear G; clear ho hb hg hat; refine hK.out _ _ ⟨(blk_cell z.out 0).trans rfl, (blk_cell z.out 1).trans rfl, (blk_cell z.out 2).trans rfl, (blk_cell z.out 3).trans rfl, (blk_cell z.out 4).trans rfl⟩ (fun hHeld => ?_); clear hK K; refine nm_ 6 ?_; refine pu_ 8 11 (bl 12 367) HT_ ?_; refine one_ (i := 4) (N := some 7) (bl 12 383) rfl rfl (one_of HT_.out (by kernel_rfl)) (by decide) (fun K hK => ?_); refine lt_ (Kd.int .i64) 2 7 ([] : List Int) [] (Reps.none _ _) ?_; intro aj bE ax hb
     replace ax := nW aw ax
     replace J := rB J hb; have F := rW ax (bP2 HB B D); replace z := kB z hb; replace A := kB A hb; replace HB := hS2 HB B D hb; clear hb ax; refine hK.out _ _ ⟨(blk_cell z.out 0).trans rfl, (blk_cell z.out 1).trans rfl, (blk_cell z.out 2).trans rfl, (blk_cell z.out 3).trans rfl, (blk_cell z.out 4).trans rfl⟩ (fun hHeld => ?_); clear hK K; refine nm_ 7 ?_; exact norm_ (by simp only [putAll, Act.put, sA, sB, sC]) (hCont (Z, an, aj) _ ⟨hHeld, rQ J, rQ F, kQ z, kQ A, bT2 HB B D⟩)
    ·refine lt_ (Kd.int .i64) 2 7 ([] : List Int) [] (Reps.none _ _) ?_; intro aj w9 W hb
     replace W := nW aw W
     replace G := rB G hb; have F := rW W (bP2 HB B D); replace z := kB z hb; replace A := kB A hb; replace HB := hS2 HB B D hb; clear hb W; refine hK.out _ _ ⟨(blk_cell z.out 0).trans rfl, (blk_cell z.out 1).trans rfl, (blk_cell z.out 2).trans rfl, (blk_cell z.out 3).trans rfl, (blk_cell z.out 4).trans rfl⟩ (fun hHeld => ?_); clear hK K; refine nm_ 7 ?_; refine one_ (i := 3) (N := some 6) (bl 12 127) rfl rfl (one_of HT_.out (by kernel_rfl)) (by decide) (fun K hK => ?_); refine Kd.R_append_rows_step Kd.string (w0 := w) w.heap.size (by rfl) (.tmp 3) (.tmp 5) 23 9 (.string ⟨#[]⟩) 16 rfl Try.underlying23 info9 rfl (by decide) (by omega) Z ag I _ _ _ (fun _ => True) (fun _ => False) rfl rfl ?aO ?aR (fun _ _ h => h) (fun _ h => h.elim) ?aF ?aB ?aS ?aL ?_
     (case aR => exact cO (Kd.C_below ar.out HB.out))
     (case aB => exact (bP2 HB B D))
     (case aF => exact (fun _ _ => trivial))
     (case aO => exact (rP G))
     (case aS => exact (below_size (bP2 HB B D)))
     (case aL => have := aA.out; omega)
     intro an bs ho hb hg hat; rw [← av.out] at ho; replace z := kG z hg G; replace A := kG A hg G; replace F := aM (Kd.R_over' (rP F) (Kd.R_typed (rP G)) (by decide) hg); replace HB := aM (hb); have J := aM (ho); clear G; clear ho hb hg hat; refine hK.out _ _ ⟨(blk_cell z.out 0).trans rfl, (blk_cell z.out 1).trans rfl, (blk_cell z.out 2).trans rfl, (blk_cell z.out 3).trans rfl, (blk_cell z.out 4).trans rfl⟩ (fun hHeld => ?_); clear hK K; refine nm_ 6 ?_; refine pu_ 8 11 (bl 12 383) HT_ ?_; exact norm_ (by simp only [putAll, Act.put, sA, sB, sC]) (hCont (Z, an, aj) _ ⟨hHeld, rQ J, rQ F, kQ z, kQ A, bT2 HB B D⟩)
   ·refine lt_ (Kd.int .i64) 2 7 ([] : List Int) [] (Reps.none _ _) ?_; intro aj w7 am hb
    replace am := nW aw am
    have F := rW am (bP2 HB B D); replace z := kB z hb; replace A := kB A hb; replace HB := hS2 HB B D hb; clear hb am; refine hK.out _ _ ⟨(blk_cell z.out 0).trans rfl, (blk_cell z.out 1).trans rfl, (blk_cell z.out 2).trans rfl, (blk_cell z.out 3).trans rfl, (blk_cell z.out 4).trans rfl⟩ (fun hHeld => ?_); clear hK K; refine nm_ 7 ?_; refine one_ (i := 0) (N := some 3) (bl 12 119) rfl rfl (one_of HT_.out (by kernel_rfl)) (by decide) (fun K hK => ?_); refine lt_ Kd.string 9 3 ([] : List ByteArray) [] (Reps.none _ _) ?_; intro Z w9 W hb
    replace W := nW aH W
    replace F := rB F hb; have G := rW W (bP2 HB B D); replace z := kB z hb; replace A := kB A hb; replace HB := hS2 HB B D hb; clear hb W; refine hK.out _ _ ⟨(blk_cell z.out 0).trans rfl, (blk_cell z.out 1).trans rfl, (blk_cell z.out 2).trans rfl, (blk_cell z.out 3).trans rfl, (blk_cell z.out 4).trans rfl⟩ (fun hHeld => ?_); clear hK K; refine nm_ 3 ?_; refine one_ (i := 3) (N := some 6) (bl 12 127) rfl rfl (one_of HT_.out (by kernel_rfl)) (by decide) (fun K hK => ?_); refine Kd.R_append_rows_step Kd.string (w0 := w) w.heap.size (by rfl) (.tmp 3) (.tmp 5) 23 9 (.string ⟨#[]⟩) 16 rfl Try.underlying23 info9 rfl (by decide) (by omega) Z ag I _ _ _ (fun _ => True) (fun _ => False) rfl rfl ?aO ?aR (fun _ _ h => h) (fun _ h => h.elim) ?aF ?aB ?aS ?aL ?_
    (case aR => exact cO (Kd.C_below ar.out HB.out))
    (case aB => exact (bP2 HB B D))
    (case aF => exact (fun _ _ => trivial))
    (case aO => exact (rP G))
    (case aS => exact (below_size (bP2 HB B D)))
    (case aL => have := aA.out; omega)
    intro an bs ho hb hg hat; rw [← av.out] at ho; replace z := kG z hg G; replace A := kG A hg G; replace F := aM (Kd.R_over' (rP F) (Kd.R_typed (rP G)) (by decide) hg); replace HB := aM (hb); have J := aM (ho); clear G; clear ho hb hg hat; refine hK.out _ _ ⟨(blk_cell z.out 0).trans rfl, (blk_cell z.out 1).trans rfl, (blk_cell z.out 2).trans rfl, (blk_cell z.out 3).trans rfl, (blk_cell z.out 4).trans rfl⟩ (fun hHeld => ?_); clear hK K; refine nm_ 6 ?_; refine pu_ 8 11 (bl 12 383) HT_ ?_; exact norm_ (by simp only [putAll, Act.put, sA, sB, sC]) (hCont (Z, an, aj) _ ⟨hHeld, rQ J, rQ F, kQ z, kQ A, bT2 HB B D⟩)
  ·exact nX c3 H
 ·exact nX c2 H

end Go.Proofs.Ythgoonohpfoagaa.X
namespace Go.Proofs.Ythgoonohpfoagaa.X
open Go.RowKit Go.Proofs.YthgoonohpfoagaaW.PrintWords Go.Proofs.YthgoonohpfoagaaW.PrintLast Go.Proofs.YthgoonohpfoagaaW.PrintMore
attribute [local go_sem] max2_int min2_int max_two min_two max_three min_three max_four min_four
set_option linter.unusedVariables false
set_option linter.unusedSimpArgs false
set_option maxHeartbeats 8000000
set_option maxRecDepth 100000

/-! ### chk_Sub: function 102 -/
def chk_Sub.f (a0 : Int) (a1 : Int) : Option (Int × Int) := if ((decide (a0 ≥ 0)) != (decide (a1 ≥ 0))) = true then (if ((decide ((wrap64 (a0 - a1)) ≥ 0)) != (decide (a0 ≥ 0))) = true then (some (0, 10)) else (some (wrap64 (a0 - a1), 0))) else (some (wrap64 (a0 - a1), 0))
theorem chk_Sub.calls (z : Int) (A : Int) (M : Int) (N : Int) (w : World) (h : chk_Sub.f z A = some (M, N)) :
  Calls Try.prog 102 #[.int .i64 z, .int .i64 A] w fun e w' => e = .returned (.tuple #[.int .i64 M, .int .i64 N]) ∧ Drawn0 w w' := by
 rw [chk_Sub.f] at h; have H := h; clear h
 by_cases B : ((decide (z ≥ 0)) != (decide (A ≥ 0))) = true
 ·rw [if_pos B] at H; have E : ((decide (z ≥ 0)) != (decide (A ≥ 0))) = true := B
  (try (have F : decide ((decide (z ≥ 0)) = (decide (A ≥ 0))) = false := by simpa using B))
  (try (have G : ((decide (z ≥ 0)) == (decide (A ≥ 0))) = false := by simpa using B))
  (try (have O : ¬ ((decide (z ≥ 0)) = (decide (A ≥ 0))) := by simpa using B))
  clear B
  by_cases D : ((decide ((wrap64 (z - A)) ≥ 0)) != (decide (z ≥ 0))) = true
  ·rw [if_pos D] at H; have I : ((decide ((wrap64 (z - A)) ≥ 0)) != (decide (z ≥ 0))) = true := D
   (try (have J : decide ((decide ((wrap64 (z - A)) ≥ 0)) = (decide (z ≥ 0))) = false := by simpa using D))
   (try (have L : ((decide ((wrap64 (z - A)) ≥ 0)) == (decide (z ≥ 0))) = false := by simpa using D))
   (try (have P : ¬ ((decide ((wrap64 (z - A)) ≥ 0)) = (decide (z ≥ 0))) := by simpa using D))
   clear D; simp only [Option.some.injEq, Prod.mk.injEq] at H; obtain ⟨rfl, rfl⟩ := H
   go_enter Try.func102, Try.ntmps102
   go_wp2
   go_ret2
   exact ⟨by first | rfl | (simp; done) | (simp [*]; done), by repeat (first | exact Drawn0.refl _ | apply Drawn0.step)⟩
  ·rw [if_neg D] at H
   have I : ((decide ((wrap64 (z - A)) ≥ 0)) != (decide (z ≥ 0))) = false := by simpa using D
   (try (have J : decide ((decide ((wrap64 (z - A)) ≥ 0)) = (decide (z ≥ 0))) = true := by simpa using D))
   (try (have L : ((decide ((wrap64 (z - A)) ≥ 0)) == (decide (z ≥ 0))) = true := by simpa using D))
   clear D; simp only [Option.some.injEq, Prod.mk.injEq] at H; obtain ⟨rfl, rfl⟩ := H
   go_enter Try.func102, Try.ntmps102
   go_wp2
   go_ret2
   exact ⟨by first | rfl | (simp; done) | (simp [*]; done), by repeat (first | exact Drawn0.refl _ | apply Drawn0.step)⟩
 ·rw [if_neg B] at H
  have E : ((decide (z ≥ 0)) != (decide (A ≥ 0))) = false := by simpa using B
  (try (have F : decide ((decide (z ≥ 0)) = (decide (A ≥ 0))) = true := by simpa using B))
  (try (have G : ((decide (z ≥ 0)) == (decide (A ≥ 0))) = true := by simpa using B))
  clear B; simp only [Option.some.injEq, Prod.mk.injEq] at H; obtain ⟨rfl, rfl⟩ := H
  go_enter Try.func102, Try.ntmps102
  go_wp2
  go_ret2
  exact ⟨by first | rfl | (simp; done) | (simp [*]; done), by repeat (first | exact Drawn0.refl _ | apply Drawn0.step)⟩

/-! ### chk_Neg: function 90 -/
def chk_Neg.f (a0 : Int) : Option (Int × Int) := (chk_Sub.f 0 a0).bind fun bt115 => (some (bt115.1, bt115.2))
theorem chk_Neg.calls (B : Int) (E : Int) (F : Int) (w : World) (h : chk_Neg.f B = some (E, F)) :
  Calls Try.prog 90 #[.int .i64 B] w fun e w' => e = .returned (.tuple #[.int .i64 E, .int .i64 F]) ∧ Drawn0 w w' := by
 rw [chk_Neg.f] at h; have H := h; clear h; replace H := Option.bind_eq_some_iff.mp H; obtain ⟨⟨z, A⟩, D, H⟩ := H; replace H : (some (z, A)) = some (E, F) := H; have G := aM D; clear D; simp only [Option.some.injEq, Prod.mk.injEq] at H; obtain ⟨rfl, rfl⟩ := H
 go_enter Try.func90, Try.ntmps90
 go_wp2_with (first | ((with_reducible refine gate_callee (f := 102) rfl ?_); refine gL_ (some 5) Try.func102 #[.int .i64 0, .int .i64 B] ?_; (with_reducible refine (chk_Sub.calls 0 B z A _ G.out).mono ?_); rintro e w' ⟨rfl, ⟨nd, rfl⟩⟩; refine ⟨_, rfl, ?_⟩))
 go_ret2
 exact ⟨by first | rfl | (simp; done) | (simp [*]; done), by repeat (first | exact Drawn0.refl _ | apply Drawn0.step)⟩

/-! ### chk_Abs: function 70 -/
def chk_Abs.f (a0 : Int) : Option (Int × Int) := if a0 < 0 then ((chk_Neg.f a0).bind fun bt117 => (some (bt117.1, bt117.2))) else (some (a0, 0))
theorem chk_Abs.calls (A : Int) (F : Int) (G : Int) (w : World) (h : chk_Abs.f A = some (F, G)) :
  Calls Try.prog 70 #[.int .i64 A] w fun e w' => e = .returned (.tuple #[.int .i64 F, .int .i64 G]) ∧ Drawn0 w w' := by
 rw [chk_Abs.f] at h; have H := h; clear h
 by_cases z : A < 0
 ·rw [if_pos z] at H; have I := dT z; clear z; replace H := Option.bind_eq_some_iff.mp H; obtain ⟨⟨B, D⟩, E, H⟩ := H; replace H : (some (B, D)) = some (F, G) := H; have J := aM E; clear E; simp only [Option.some.injEq, Prod.mk.injEq] at H; obtain ⟨rfl, rfl⟩ := H
  go_enter Try.func70, Try.ntmps70
  go_wp2_with (first | ((with_reducible refine gate_callee (f := 90) rfl ?_); refine gL_ (some 7) Try.func90 #[.int .i64 A] ?_; (with_reducible refine (chk_Neg.calls A B D _ J.out).mono ?_); rintro e w' ⟨rfl, ⟨nd, rfl⟩⟩; refine ⟨_, rfl, ?_⟩))
  go_ret2
  exact ⟨by first | rfl | (simp; done) | (simp [*]; done), by repeat (first | exact Drawn0.refl _ | apply Drawn0.step)⟩
 ·rw [if_neg z] at H; have I := decide_eq_false z; clear z; simp only [Option.some.injEq, Prod.mk.injEq] at H; obtain ⟨rfl, rfl⟩ := H
  go_enter Try.func70, Try.ntmps70
  go_wp2
  go_ret2
  exact ⟨by first | rfl | (simp; done) | (simp [*]; done), by repeat (first | exact Drawn0.refl _ | apply Drawn0.step)⟩

/-! ### chk_Add: function 71 -/
def chk_Add.f (a0 : Int) (a1 : Int) : Option (Int × Int) := if ((decide (a0 ≥ 0)) == (decide (a1 ≥ 0))) = true then (if ((decide ((wrap64 (a0 + a1)) ≥ 0)) != (decide (a0 ≥ 0))) = true then (some (0, 10)) else (some (wrap64 (a0 + a1), 0))) else (some (wrap64 (a0 + a1), 0))
theorem chk_Add.calls (z : Int) (A : Int) (M : Int) (N : Int) (w : World) (h : chk_Add.f z A = some (M, N)) :
  Calls Try.prog 71 #[.int .i64 z, .int .i64 A] w fun e w' => e = .returned (.tuple #[.int .i64 M, .int .i64 N]) ∧ Drawn0 w w' := by
 rw [chk_Add.f] at h; have H := h; clear h
 by_cases B : ((decide (z ≥ 0)) == (decide (A ≥ 0))) = true
 ·rw [if_pos B] at H; have E : ((decide (z ≥ 0)) == (decide (A ≥ 0))) = true := B
  (try (have F : decide ((decide (z ≥ 0)) = (decide (A ≥ 0))) = true := by simpa using B))
  (try (have G : ((decide (z ≥ 0)) == (decide (A ≥ 0))) = true := by simpa using B))
  clear B
  by_cases D : ((decide ((wrap64 (z + A)) ≥ 0)) != (decide (z ≥ 0))) = true
  ·rw [if_pos D] at H; have I : ((decide ((wrap64 (z + A)) ≥ 0)) != (decide (z ≥ 0))) = true := D
   (try (have J : decide ((decide ((wrap64 (z + A)) ≥ 0)) = (decide (z ≥ 0))) = false := by simpa using D))
   (try (have L : ((decide ((wrap64 (z + A)) ≥ 0)) == (decide (z ≥ 0))) = false := by simpa using D))
   (try (have O : ¬ ((decide ((wrap64 (z + A)) ≥ 0)) = (decide (z ≥ 0))) := by simpa using D))
   clear D; simp only [Option.some.injEq, Prod.mk.injEq] at H; obtain ⟨rfl, rfl⟩ := H
   go_enter Try.func71, Try.ntmps71
   go_wp2
   go_ret2
   exact ⟨by first | rfl | (simp; done) | (simp [*]; done), by repeat (first | exact Drawn0.refl _ | apply Drawn0.step)⟩
  ·rw [if_neg D] at H
   have I : ((decide ((wrap64 (z + A)) ≥ 0)) != (decide (z ≥ 0))) = false := by simpa using D
   (try (have J : decide ((decide ((wrap64 (z + A)) ≥ 0)) = (decide (z ≥ 0))) = true := by simpa using D))
   (try (have L : ((decide ((wrap64 (z + A)) ≥ 0)) == (decide (z ≥ 0))) = true := by simpa using D))
   clear D; simp only [Option.some.injEq, Prod.mk.injEq] at H; obtain ⟨rfl, rfl⟩ := H
   go_enter Try.func71, Try.ntmps71
   go_wp2
   go_ret2
   exact ⟨by first | rfl | (simp; done) | (simp [*]; done), by repeat (first | exact Drawn0.refl _ | apply Drawn0.step)⟩
 ·rw [if_neg B] at H
  have E : ((decide (z ≥ 0)) == (decide (A ≥ 0))) = false := by simpa using B
  (try (have F : decide ((decide (z ≥ 0)) = (decide (A ≥ 0))) = false := by simpa using B))
  (try (have G : ((decide (z ≥ 0)) == (decide (A ≥ 0))) = false := by simpa using B))
  (try (have P : ¬ ((decide (z ≥ 0)) = (decide (A ≥ 0))) := by simpa using B))
  clear B; simp only [Option.some.injEq, Prod.mk.injEq] at H; obtain ⟨rfl, rfl⟩ := H
  go_enter Try.func71, Try.ntmps71
  go_wp2
  go_ret2
  exact ⟨by first | rfl | (simp; done) | (simp [*]; done), by repeat (first | exact Drawn0.refl _ | apply Drawn0.step)⟩

/-! ### chk_Total: function 46 -/
def chk_Total.l0 : Nat → Int → List Int → Int → Int → Option (Int × Int)
 | 0, _, _, _, _ => none
 | k + 1, x4, x9, x10, x11 => if x11 < x10 then (if 0 ≤ x11 then (if x11 < (x9.length : Int) then ((chk_Abs.f (rd x9 x11)).bind fun bt120 => (if bt120.2 = 0 then ((chk_Add.f x4 bt120.1).bind fun bt122 => (if bt122.2 = 0 then (chk_Total.l0 k bt122.1 x9 x10 (wrap64 (x11 + 1))) else (some (0, bt122.2)))) else (some (0, bt120.2)))) else (none)) else (none)) else (some (x4, 0))
def chk_Total.f (k : Nat) (l0 : List Int) : Option (Int × Int) := chk_Total.l0 k 0 l0 (l0.length : Int) 0
theorem chk_Total.mono_l : ∀ k, (∀ y0 y1 y2 y3, LeO (chk_Total.l0 k y0 y1 y2 y3) (chk_Total.l0 (k + 1) y0 y1 y2 y3))
 | 0 => fun _ _ _ _ r h => by simp [chk_Total.l0] at h
 | k + 1 => by
  have ih0 := chk_Total.mono_l k
  ·intro y0 y1 y2 y3
   unfold chk_Total.l0
   repeat' first | (with_reducible first | exact ih0 _ _ _ _ | exact lA | apply lI | refine lB ?_ fun _ => ?_) | exact lN _ | apply lI | refine lB ?_ fun _ => ?_
theorem chk_Total.mono : ∀ a0 k, LeO (chk_Total.f k a0) (chk_Total.f (k + 1) a0) := by
 intro a0 k; have ih0 := chk_Total.mono_l k
 unfold chk_Total.f
 repeat' first | (with_reducible first | exact ih0 _ _ _ _ | exact lA | apply lI | refine lB ?_ fun _ => ?_) | exact lN _ | apply lI | refine lB ?_ fun _ => ?_
theorem chk_Total.calls (k : Nat) (A0 : Option Addr) (c0 : Nat) (D : List Int) (Q : Int) (R : Int) (w : World) (aa : Kd.C (Kd.int .i64) w A0 D.length D) (ab : D.length ≤ c0) (h : chk_Total.f k D = some (Q, R)) :
  Calls Try.prog 46 #[.slice A0 D.length c0] w fun e w' => e = .returned (.tuple #[.int .i64 Q, .int .i64 R]) ∧ Drawn0 w w' := by
 have U := aM aa; have ar := aM ab; clear aa ab; rw [chk_Total.f] at h; have H := h; clear h; have H' := aM H; clear H
 go_enter Try.func46, Try.ntmps46
 go_wp2
 go_loopg [4, 11] k (fun kq v4 am w' => ∃ (E : Int) (z : Int), v4 = .int .i64 E ∧ am = .int .i64 z ∧ Aside0 (chk_Total.l0 kq E D (D.length : Int) z = some (Q, R)) ∧ Aside0 (kq ≤ k) ∧ Drawn0 w w')
 case atStart => exact ⟨(0), (0), sI, sI, H', ⟨Nat.le_refl _⟩, by repeat (first | exact Drawn0.refl _ | apply Drawn0.step)⟩
 case round =>
  clear H'; obtain ⟨E, z, rfl, rfl, HA, HK1, ⟨m1, rfl⟩⟩ := hrel; cases gk with
  | zero => exact absurd HA.out (by simp [chk_Total.l0])
  | succ k1 =>
   have H := HA.out; clear HA; simp only [chk_Total.l0] at H
   by_cases P : z < (D.length : Int)
   ·rw [if_pos P] at H; have ae := dT P; clear P
    by_cases Y : 0 ≤ z
    ·rw [if_pos Y] at H; have ap := dT Y; clear Y
     by_cases Z : z < (D.length : Int)
     ·rw [if_pos Z] at H; have aq := dT Z; clear Z; replace H := Option.bind_eq_some_iff.mp H; obtain ⟨⟨F, G⟩, ac, H⟩ := H; replace H : (if G = 0 then ((chk_Add.f E F).bind fun M => (if M.2 = 0 then (chk_Total.l0 k1 M.1 D (D.length : Int) (wrap64 (z + 1))) else (some (0, M.2)))) else (some (0, G))) = some (Q, R) := H; have A5 := aM ac; clear ac
      by_cases V : G = 0
      ·rw [if_pos V] at H; obtain ⟨ag, ah⟩ := bq V; clear V; replace H := Option.bind_eq_some_iff.mp H; obtain ⟨⟨N, I⟩, ad, H⟩ := H; replace H : (if I = 0 then (chk_Total.l0 k1 N D (D.length : Int) (wrap64 (z + 1))) else (some (0, I))) = some (Q, R) := H; have A7 := aM ad; clear ad
       by_cases W : I = 0
       ·rw [if_pos W] at H; obtain ⟨ai, aj⟩ := bq W; clear W; have H' := aM H; clear H; have A : 0 ≤ (z : Int) := oT aO; have B : z < (D.length : Int) := oT aO; obtain ⟨O, J, L⟩ := Kd.at_int U.out z A B; cases J; replace A := eq_true A; replace B := eq_true B
        go_wp2_with (first | ((with_reducible refine gate_callee (f := 70) rfl ?_); refine gL_ (some 17) Try.func70 #[.int .i64 (rd D z)] ?_; (with_reducible refine (chk_Abs.calls (rd D z) F G _ A5.out).mono ?_); rintro e w' ⟨rfl, ⟨nd, rfl⟩⟩; refine ⟨_, rfl, ?_⟩) | ((with_reducible refine gate_callee (f := 71) rfl ?_); refine gL_ (some 26) Try.func71 #[.int .i64 E, .int .i64 F] ?_; (with_reducible refine (chk_Add.calls E F N I _ A7.out).mono ?_); rintro e w' ⟨rfl, ⟨nd, rfl⟩⟩; refine ⟨_, rfl, ?_⟩))
        go_roundg k1
        case measure => have := HK1.out; omega
        case rel => exact ⟨(N), (wrap64 (z + 1)), sI, sI, H', ⟨by have := HK1.out; omega⟩, by repeat (first | exact Drawn0.refl _ | apply Drawn0.step)⟩
       ·rw [if_neg W] at H; obtain ⟨ai, aj⟩ := bn W; simp only [Option.some.injEq, Prod.mk.injEq] at H; obtain ⟨rfl, rfl⟩ := H; have A : 0 ≤ (z : Int) := oT aO; have B : z < (D.length : Int) := oT aO; obtain ⟨O, J, L⟩ := Kd.at_int U.out z A B; cases J; replace A := eq_true A; replace B := eq_true B
        go_wp2_with (first | ((with_reducible refine gate_callee (f := 70) rfl ?_); refine gL_ (some 17) Try.func70 #[.int .i64 (rd D z)] ?_; (with_reducible refine (chk_Abs.calls (rd D z) F G _ A5.out).mono ?_); rintro e w' ⟨rfl, ⟨nd, rfl⟩⟩; refine ⟨_, rfl, ?_⟩) | ((with_reducible refine gate_callee (f := 71) rfl ?_); refine gL_ (some 26) Try.func71 #[.int .i64 E, .int .i64 F] ?_; (with_reducible refine (chk_Add.calls E F N I _ A7.out).mono ?_); rintro e w' ⟨rfl, ⟨nd, rfl⟩⟩; refine ⟨_, rfl, ?_⟩))
        go_ret2
        exact ⟨by first | rfl | (simp; done) | (simp [*]; done), by repeat (first | exact Drawn0.refl _ | apply Drawn0.step)⟩
      ·rw [if_neg V] at H; obtain ⟨ag, ah⟩ := bn V; simp only [Option.some.injEq, Prod.mk.injEq] at H; obtain ⟨rfl, rfl⟩ := H; have A : 0 ≤ (z : Int) := oT aO; have B : z < (D.length : Int) := oT aO; obtain ⟨O, J, L⟩ := Kd.at_int U.out z A B; cases J; replace A := eq_true A; replace B := eq_true B
       go_wp2_with (first | ((with_reducible refine gate_callee (f := 70) rfl ?_); refine gL_ (some 17) Try.func70 #[.int .i64 (rd D z)] ?_; (with_reducible refine (chk_Abs.calls (rd D z) F G _ A5.out).mono ?_); rintro e w' ⟨rfl, ⟨nd, rfl⟩⟩; refine ⟨_, rfl, ?_⟩))
       go_ret2
       exact ⟨by first | rfl | (simp; done) | (simp [*]; done), by repeat (first | exact Drawn0.refl _ | apply Drawn0.step)⟩
     ·exact nX Z H
    ·exact nX Y H
   ·rw [if_neg P] at H; have ae := decide_eq_false P; clear P; simp only [Option.some.injEq, Prod.mk.injEq] at H; obtain ⟨rfl, rfl⟩ := H
    go_wp2
    go_ret2
    exact ⟨by first | rfl | (simp; done) | (simp [*]; done), by repeat (first | exact Drawn0.refl _ | apply Drawn0.step)⟩

end Go.Proofs.Ythgoonohpfoagaa.X
namespace Go.Proofs.Ythgoonohpfoagaa.X
open Go.RowKit Go.Proofs.YthgoonohpfoagaaW.PrintWords Go.Proofs.YthgoonohpfoagaaW.PrintLast Go.Proofs.YthgoonohpfoagaaW.PrintMore
attribute [local go_sem] max2_int min2_int max_two min_two max_three min_three max_four min_four
set_option linter.unusedVariables false
set_option linter.unusedSimpArgs false
set_option maxHeartbeats 8000000
set_option maxRecDepth 100000

/-! ### glyph_Start: function 91 -/
mutual
def glyph_Start.j0 : Nat → Int → Bool → Option (Bool)
 | 0, _, _ => none
 | k + 1, x0, x3 => if x3 = true then (glyph_Start.j1 k x0 x3) else (if x0 ≥ 97 then (if x0 ≤ 122 then (glyph_Start.j1 k x0 (decide (x0 ≤ 122))) else (glyph_Start.j1 k x0 (x0 == 95))) else (glyph_Start.j1 k x0 (x0 == 95)))
def glyph_Start.j1 : Nat → Int → Bool → Option (Bool)
 | 0, _, _ => none
 | k + 1, x0, x3 => if x3 = true then (some true) else (if x0 ≥ 913 then (glyph_Start.j2 k x0 (decide (x0 ≤ 929))) else (glyph_Start.j2 k x0 false))
def glyph_Start.j2 : Nat → Int → Bool → Option (Bool)
 | 0, _, _ => none
 | k + 1, x0, x18 => if x18 = true then (some true) else (if x0 ≥ 931 then (glyph_Start.j3 k x0 (decide (x0 ≤ 937))) else (glyph_Start.j3 k x0 false))
def glyph_Start.j3 : Nat → Int → Bool → Option (Bool)
 | 0, _, _ => none
 | k + 1, x0, x18 => if x18 = true then (some true) else (if x0 ≥ 945 then (if x0 ≤ 969 then (some true) else (some false)) else (some false))
end
def glyph_Start.f (k : Nat) (a0 : Int) : Option (Bool) := if a0 ≥ 65 then (glyph_Start.j0 k a0 (decide (a0 ≤ 90))) else (glyph_Start.j0 k a0 false)
theorem glyph_Start.mono_l : ∀ k, (∀ y0 y1, LeO (glyph_Start.j0 k y0 y1) (glyph_Start.j0 (k + 1) y0 y1)) ∧ (∀ y0 y1, LeO (glyph_Start.j1 k y0 y1) (glyph_Start.j1 (k + 1) y0 y1)) ∧ (∀ y0 y1, LeO (glyph_Start.j2 k y0 y1) (glyph_Start.j2 (k + 1) y0 y1)) ∧ (∀ y0 y1, LeO (glyph_Start.j3 k y0 y1) (glyph_Start.j3 (k + 1) y0 y1))
 | 0 => ⟨fun _ _ r h => by simp [glyph_Start.j0] at h, fun _ _ r h => by simp [glyph_Start.j1] at h, fun _ _ r h => by simp [glyph_Start.j2] at h, fun _ _ r h => by simp [glyph_Start.j3] at h⟩
 | k + 1 => by
  obtain ⟨ih0, ih1, ih2, ih3⟩ := glyph_Start.mono_l k; refine ⟨?_, ?_, ?_, ?_⟩
  ·intro y0 y1
   unfold glyph_Start.j0
   repeat' first | (with_reducible first | exact ih0 _ _ | exact ih1 _ _ | exact ih2 _ _ | exact ih3 _ _ | exact lA | apply lI | refine lB ?_ fun _ => ?_) | exact lN _ | apply lI | refine lB ?_ fun _ => ?_
  ·intro y0 y1
   unfold glyph_Start.j1
   repeat' first | (with_reducible first | exact ih0 _ _ | exact ih1 _ _ | exact ih2 _ _ | exact ih3 _ _ | exact lA | apply lI | refine lB ?_ fun _ => ?_) | exact lN _ | apply lI | refine lB ?_ fun _ => ?_
  ·intro y0 y1
   unfold glyph_Start.j2
   repeat' first | (with_reducible first | exact ih0 _ _ | exact ih1 _ _ | exact ih2 _ _ | exact ih3 _ _ | exact lA | apply lI | refine lB ?_ fun _ => ?_) | exact lN _ | apply lI | refine lB ?_ fun _ => ?_
  ·intro y0 y1
   unfold glyph_Start.j3
   repeat' first | (with_reducible first | exact ih0 _ _ | exact ih1 _ _ | exact ih2 _ _ | exact ih3 _ _ | exact lA | apply lI | refine lB ?_ fun _ => ?_) | exact lN _ | apply lI | refine lB ?_ fun _ => ?_
theorem glyph_Start.mono : ∀ a0 k, LeO (glyph_Start.f k a0) (glyph_Start.f (k + 1) a0) := by
 intro a0 k; obtain ⟨ih0, ih1, ih2, ih3⟩ := glyph_Start.mono_l k
 unfold glyph_Start.f
 repeat' first | (with_reducible first | exact ih0 _ _ | exact ih1 _ _ | exact ih2 _ _ | exact ih3 _ _ | exact lA | apply lI | refine lB ?_ fun _ => ?_) | exact lN _ | apply lI | refine lB ?_ fun _ => ?_
theorem glyph_Start.calls (k : Nat) (z : Int) (r : Bool) (w : World) (h : glyph_Start.f k z = some r) :
  Calls Try.prog 91 #[.int .i32 z] w fun e w' => e = .returned (.bool r) ∧ Drawn0 w w' := by
 rw [glyph_Start.f] at h; have H := h; clear h; have W := aM H; clear H
 go_enter Try.func91, Try.ntmps91
 go_upto_region 1 with (fail)
 go_cut [3] (fun v3 wc => ∃ (kq : Nat) (M : Bool), v3 = .bool M ∧ Aside0 (glyph_Start.j0 kq z M = some r) ∧ Aside0 (kq ≤ k) ∧ Drawn0 w wc)
 case first =>
  have H := W.out; clear W
  by_cases R : z ≥ 65
  ·rw [if_pos R] at H; have E := dT R; clear R
   (first | rw [E] | (simp only [i64_w, i32_w]; rw [E]) | skip)
   have H' := aM H; clear H
   go_wp2
   go_meet
   case rel => exact ⟨_, (decide (z ≤ 90)), sI, H', ⟨by first | omega | exact Nat.le_refl _⟩, by repeat (first | exact Drawn0.refl _ | apply Drawn0.step)⟩
  ·rw [if_neg R] at H; have E := decide_eq_false R; clear R
   (first | rw [E] | (simp only [i64_w, i32_w]; rw [E]) | skip)
   have H' := aM H; clear H
   go_wp2
   go_meet
   case rel => exact ⟨_, (false), sI, H', ⟨by first | omega | exact Nat.le_refl _⟩, by repeat (first | exact Drawn0.refl _ | apply Drawn0.step)⟩
 case rest =>
  clear W
  obtain ⟨kq, M, rfl, HA, HJ1, ⟨mc1, rfl⟩⟩ := hcut; cases kq with
  | zero => exact absurd HA.out (by simp [glyph_Start.j0])
  | succ ah =>
   have H := HA.out; clear HA; simp only [glyph_Start.j0] at H; have Y := aM H; clear H
   go_upto_if 3 with (fail)
   go_cut [3] (fun v3 wc => ∃ (kq : Nat) (N : Bool), v3 = .bool N ∧ Aside0 (glyph_Start.j1 kq z N = some r) ∧ Aside0 (kq ≤ ah) ∧ Drawn0 w wc)
   case first =>
    have H := Y.out; clear Y
    by_cases c5 : M = true
    ·subst c5
     rw [if_pos rfl] at H; have H' := aM H; clear H
     go_wp2
     go_meet
     case rel => exact ⟨_, (true), sI, H', ⟨by have := HJ1.out; first | omega | exact Nat.le_refl _⟩, by repeat (first | exact Drawn0.refl _ | apply Drawn0.step)⟩
    ·replace c5 := Bool.eq_false_iff.mpr c5; subst c5
     rw [if_neg nF] at H
     by_cases U : z ≥ 97
     ·rw [if_pos U] at H; have F := dT U; clear U
      (first | rw [F] | (simp only [i64_w, i32_w]; rw [F]) | skip)
      by_cases V : z ≤ 122
      ·rw [if_pos V] at H; have ag := dT V; clear V; have H' := aM H; clear H
       go_wp2
       go_meet
       case rel => exact ⟨_, (decide (z ≤ 122)), sI, H', ⟨by have := HJ1.out; first | omega | exact Nat.le_refl _⟩, by repeat (first | exact Drawn0.refl _ | apply Drawn0.step)⟩
      ·rw [if_neg V] at H; have ag := decide_eq_false V; clear V; have H' := aM H; clear H
       go_wp2
       go_meet
       case rel => exact ⟨_, ((z == 95)), sI, H', ⟨by have := HJ1.out; first | omega | exact Nat.le_refl _⟩, by repeat (first | exact Drawn0.refl _ | apply Drawn0.step)⟩
     ·rw [if_neg U] at H; have F := decide_eq_false U; clear U
      (first | rw [F] | (simp only [i64_w, i32_w]; rw [F]) | skip)
      have H' := aM H; clear H
      go_wp2
      go_meet
      case rel => exact ⟨_, ((z == 95)), sI, H', ⟨by have := HJ1.out; first | omega | exact Nat.le_refl _⟩, by repeat (first | exact Drawn0.refl _ | apply Drawn0.step)⟩
   case rest =>
    clear Y
    obtain ⟨kq, N, rfl, HA, HJ3, ⟨mc3, rfl⟩⟩ := hcut; cases kq with
    | zero => exact absurd HA.out (by simp [glyph_Start.j1])
    | succ ai =>
     have H := HA.out; clear HA; simp only [glyph_Start.j1] at H
     by_cases c8 : N = true
     ·subst c8
      rw [if_pos rfl] at H; obtain rfl := Option.some.inj H
      go_wp2
      go_ret
      exact ⟨by first | rfl | (simp; done) | (simp [*]; done), by repeat (first | exact Drawn0.refl _ | apply Drawn0.step)⟩
     ·replace c8 := Bool.eq_false_iff.mpr c8; subst c8
      rw [if_neg nF] at H; have Z := aM H; clear H
      go_upto_region 5 with (fail)
      go_cut [18] (fun aa wc => ∃ (kq : Nat) (D : Bool), aa = .bool D ∧ Aside0 (glyph_Start.j2 kq z D = some r) ∧ Aside0 (kq ≤ ai) ∧ Drawn0 w wc)
      case first =>
       have H := Z.out; clear Z
       by_cases G : z ≥ 913
       ·rw [if_pos G] at H; have A := dT G; clear G
        (first | rw [A] | (simp only [i64_w, i32_w]; rw [A]) | skip)
        have H' := aM H; clear H
        go_wp2
        go_meet
        case rel => exact ⟨_, (decide (z ≤ 929)), sI, H', ⟨by have := HJ1.out; have := HJ3.out; first | omega | exact Nat.le_refl _⟩, by repeat (first | exact Drawn0.refl _ | apply Drawn0.step)⟩
       ·rw [if_neg G] at H; have A := decide_eq_false G; clear G
        (first | rw [A] | (simp only [i64_w, i32_w]; rw [A]) | skip)
        have H' := aM H; clear H
        go_wp2
        go_meet
        case rel => exact ⟨_, (false), sI, H', ⟨by have := HJ1.out; have := HJ3.out; first | omega | exact Nat.le_refl _⟩, by repeat (first | exact Drawn0.refl _ | apply Drawn0.step)⟩
      case rest =>
       clear Z
       obtain ⟨kq, D, rfl, HA, HJ8, ⟨mc8, rfl⟩⟩ := hcut; cases kq with
       | zero => exact absurd HA.out (by simp [glyph_Start.j2])
       | succ aj =>
        have H := HA.out; clear HA; simp only [glyph_Start.j2] at H
        by_cases P : D = true
        ·subst P
         rw [if_pos rfl] at H; obtain rfl := Option.some.inj H
         go_wp2
         go_ret
         exact ⟨by first | rfl | (simp; done) | (simp [*]; done), by repeat (first | exact Drawn0.refl _ | apply Drawn0.step)⟩
        ·replace P := Bool.eq_false_iff.mpr P; subst P
         rw [if_neg nF] at H; have O := aM H; clear H
         go_upto_region 6 with (fail)
         go_cut [18] (fun aa wc => ∃ (kq : Nat) (B : Bool), aa = .bool B ∧ Aside0 (glyph_Start.j3 kq z B = some r) ∧ Aside0 (kq ≤ aj) ∧ Drawn0 w wc)
         case first =>
          have H := O.out; clear O
          by_cases I : z ≥ 931
          ·rw [if_pos I] at H; have C := dT I; clear I
           (first | rw [C] | (simp only [i64_w, i32_w]; rw [C]) | skip)
           have H' := aM H; clear H
           go_wp2
           go_meet
           case rel => exact ⟨_, (decide (z ≤ 937)), sI, H', ⟨by have := HJ1.out; have := HJ3.out; have := HJ8.out; first | omega | exact Nat.le_refl _⟩, by repeat (first | exact Drawn0.refl _ | apply Drawn0.step)⟩
          ·rw [if_neg I] at H; have C := decide_eq_false I; clear I
           (first | rw [C] | (simp only [i64_w, i32_w]; rw [C]) | skip)
           have H' := aM H; clear H
           go_wp2
           go_meet
           case rel => exact ⟨_, (false), sI, H', ⟨by have := HJ1.out; have := HJ3.out; have := HJ8.out; first | omega | exact Nat.le_refl _⟩, by repeat (first | exact Drawn0.refl _ | apply Drawn0.step)⟩
         case rest =>
          clear O
          obtain ⟨kq, B, rfl, HA, HJ11, ⟨mc11, rfl⟩⟩ := hcut; cases kq with
          | zero => exact absurd HA.out (by simp [glyph_Start.j3])
          | succ ak =>
           have H := HA.out; clear HA; simp only [glyph_Start.j3] at H
           by_cases Q : B = true
           ·subst Q
            rw [if_pos rfl] at H; obtain rfl := Option.some.inj H
            go_wp2
            go_ret
            exact ⟨by first | rfl | (simp; done) | (simp [*]; done), by repeat (first | exact Drawn0.refl _ | apply Drawn0.step)⟩
           ·replace Q := Bool.eq_false_iff.mpr Q; subst Q
            rw [if_neg nF] at H
            by_cases J : z ≥ 945
            ·rw [if_pos J] at H; have ad := dT J; clear J
             by_cases L : z ≤ 969
             ·rw [if_pos L] at H; have ae := dT L; clear L; obtain rfl := Option.some.inj H
              go_wp2
              go_ret
              exact ⟨by first | rfl | (simp; done) | (simp [*]; done), by repeat (first | exact Drawn0.refl _ | apply Drawn0.step)⟩
             ·rw [if_neg L] at H; have ae := decide_eq_false L; clear L; obtain rfl := Option.some.inj H
              go_wp2
              go_ret
              exact ⟨by first | rfl | (simp; done) | (simp [*]; done), by repeat (first | exact Drawn0.refl _ | apply Drawn0.step)⟩
            ·rw [if_neg J] at H; have ad := decide_eq_false J; clear J; obtain rfl := Option.some.inj H
             go_wp2
             go_ret
             exact ⟨by first | rfl | (simp; done) | (simp [*]; done), by repeat (first | exact Drawn0.refl _ | apply Drawn0.step)⟩

end Go.Proofs.Ythgoonohpfoagaa.X
namespace Go.Proofs.Ythgoonohpfoagaa.X
open Go.RowKit Go.Proofs.YthgoonohpfoagaaW.PrintWords Go.Proofs.YthgoonohpfoagaaW.PrintLast Go.Proofs.YthgoonohpfoagaaW.PrintMore
attribute [local go_sem] max2_int min2_int max_two min_two max_three min_three max_four min_four
set_option linter.unusedVariables false
set_option linter.unusedSimpArgs false
set_option maxHeartbeats 8000000
set_option maxRecDepth 100000

/-! ### glyph_Rest: function 92 -/
def glyph_Rest.f (k : Nat) (a0 : Int) : Option (Bool) := (glyph_Start.f k a0).bind fun t124 => (if t124 = true then (some true) else (if a0 ≥ 48 then (if a0 ≤ 57 then (some true) else (if a0 = 8242 then (some true) else (if a0 ≥ 8320 then (some (decide (a0 ≤ 8329))) else (some false)))) else (if a0 = 8242 then (some true) else (if a0 ≥ 8320 then (some (decide (a0 ≤ 8329))) else (some false)))))
theorem glyph_Rest.mono : ∀ a0 k, LeO (glyph_Rest.f k a0) (glyph_Rest.f (k + 1) a0) := by
 intro a0 k
 unfold glyph_Rest.f
 repeat' first | (with_reducible first | exact glyph_Start.mono _ _ | exact lA | apply lI | refine lB ?_ fun _ => ?_) | exact lN _ | apply lI | refine lB ?_ fun _ => ?_
theorem glyph_Rest.calls (k : Nat) (z : Int) (r : Bool) (w : World) (h : glyph_Rest.f k z = some r) :
  Calls Try.prog 92 #[.int .i32 z] w fun e w' => e = .returned (.bool r) ∧ Drawn0 w w' := by
 rw [glyph_Rest.f] at h; have H := h; clear h; replace H := Option.bind_eq_some_iff.mp H; obtain ⟨L, J, H⟩ := H; have A := aM J; clear J
 by_cases I : L = true
 ·subst I
  rw [if_pos rfl] at H; obtain rfl := Option.some.inj H
  go_enter Try.func92, Try.ntmps92
  go_wp2_with (first | ((with_reducible refine gate_callee (f := 91) rfl ?_); refine gL_ (some 4) Try.func91 #[.int .i32 z] ?_; (with_reducible refine (glyph_Start.calls k z true _ A.out).mono ?_); rintro e w' ⟨rfl, ⟨nd, rfl⟩⟩; refine ⟨_, rfl, ?_⟩))
  go_ret
  exact ⟨by first | rfl | (simp; done) | (simp [*]; done), by repeat (first | exact Drawn0.refl _ | apply Drawn0.step)⟩
 ·replace I := Bool.eq_false_iff.mpr I; subst I
  rw [if_neg nF] at H
  by_cases B : z ≥ 48
  ·rw [if_pos B] at H; have M := dT B; clear B
   by_cases C : z ≤ 57
   ·rw [if_pos C] at H; have N := dT C; clear C; obtain rfl := Option.some.inj H
    go_enter Try.func92, Try.ntmps92
    go_wp2_with (first | ((with_reducible refine gate_callee (f := 91) rfl ?_); refine gL_ (some 4) Try.func91 #[.int .i32 z] ?_; (with_reducible refine (glyph_Start.calls k z false _ A.out).mono ?_); rintro e w' ⟨rfl, ⟨nd, rfl⟩⟩; refine ⟨_, rfl, ?_⟩))
    go_ret
    exact ⟨by first | rfl | (simp; done) | (simp [*]; done), by repeat (first | exact Drawn0.refl _ | apply Drawn0.step)⟩
   ·rw [if_neg C] at H; have N := decide_eq_false C; clear C
    by_cases F : z = 8242
    ·rw [if_pos F] at H; obtain ⟨O, P⟩ := bq F; clear F; obtain rfl := Option.some.inj H
     go_enter Try.func92, Try.ntmps92
     go_wp2_with (first | ((with_reducible refine gate_callee (f := 91) rfl ?_); refine gL_ (some 4) Try.func91 #[.int .i32 z] ?_; (with_reducible refine (glyph_Start.calls k z false _ A.out).mono ?_); rintro e w' ⟨rfl, ⟨nd, rfl⟩⟩; refine ⟨_, rfl, ?_⟩))
     go_ret
     exact ⟨by first | rfl | (simp; done) | (simp [*]; done), by repeat (first | exact Drawn0.refl _ | apply Drawn0.step)⟩
    ·rw [if_neg F] at H; obtain ⟨O, P⟩ := bn F
     by_cases D : z ≥ 8320
     ·rw [if_pos D] at H; have Q := dT D; clear D; obtain rfl := Option.some.inj H
      go_enter Try.func92, Try.ntmps92
      go_wp2_with (first | ((with_reducible refine gate_callee (f := 91) rfl ?_); refine gL_ (some 4) Try.func91 #[.int .i32 z] ?_; (with_reducible refine (glyph_Start.calls k z false _ A.out).mono ?_); rintro e w' ⟨rfl, ⟨nd, rfl⟩⟩; refine ⟨_, rfl, ?_⟩))
      go_ret
      exact ⟨by first | rfl | (simp; done) | (simp [*]; done), by repeat (first | exact Drawn0.refl _ | apply Drawn0.step)⟩
     ·rw [if_neg D] at H; have Q := decide_eq_false D; clear D; obtain rfl := Option.some.inj H
      go_enter Try.func92, Try.ntmps92
      go_wp2_with (first | ((with_reducible refine gate_callee (f := 91) rfl ?_); refine gL_ (some 4) Try.func91 #[.int .i32 z] ?_; (with_reducible refine (glyph_Start.calls k z false _ A.out).mono ?_); rintro e w' ⟨rfl, ⟨nd, rfl⟩⟩; refine ⟨_, rfl, ?_⟩))
      go_ret
      exact ⟨by first | rfl | (simp; done) | (simp [*]; done), by repeat (first | exact Drawn0.refl _ | apply Drawn0.step)⟩
  ·rw [if_neg B] at H; have M := decide_eq_false B; clear B
   by_cases G : z = 8242
   ·rw [if_pos G] at H; obtain ⟨R, U⟩ := bq G; clear G; obtain rfl := Option.some.inj H
    go_enter Try.func92, Try.ntmps92
    go_wp2_with (first | ((with_reducible refine gate_callee (f := 91) rfl ?_); refine gL_ (some 4) Try.func91 #[.int .i32 z] ?_; (with_reducible refine (glyph_Start.calls k z false _ A.out).mono ?_); rintro e w' ⟨rfl, ⟨nd, rfl⟩⟩; refine ⟨_, rfl, ?_⟩))
    go_ret
    exact ⟨by first | rfl | (simp; done) | (simp [*]; done), by repeat (first | exact Drawn0.refl _ | apply Drawn0.step)⟩
   ·rw [if_neg G] at H; obtain ⟨R, U⟩ := bn G
    by_cases E : z ≥ 8320
    ·rw [if_pos E] at H; have V := dT E; clear E; obtain rfl := Option.some.inj H
     go_enter Try.func92, Try.ntmps92
     go_wp2_with (first | ((with_reducible refine gate_callee (f := 91) rfl ?_); refine gL_ (some 4) Try.func91 #[.int .i32 z] ?_; (with_reducible refine (glyph_Start.calls k z false _ A.out).mono ?_); rintro e w' ⟨rfl, ⟨nd, rfl⟩⟩; refine ⟨_, rfl, ?_⟩))
     go_ret
     exact ⟨by first | rfl | (simp; done) | (simp [*]; done), by repeat (first | exact Drawn0.refl _ | apply Drawn0.step)⟩
    ·rw [if_neg E] at H; have V := decide_eq_false E; clear E; obtain rfl := Option.some.inj H
     go_enter Try.func92, Try.ntmps92
     go_wp2_with (first | ((with_reducible refine gate_callee (f := 91) rfl ?_); refine gL_ (some 4) Try.func91 #[.int .i32 z] ?_; (with_reducible refine (glyph_Start.calls k z false _ A.out).mono ?_); rintro e w' ⟨rfl, ⟨nd, rfl⟩⟩; refine ⟨_, rfl, ?_⟩))
     go_ret
     exact ⟨by first | rfl | (simp; done) | (simp [*]; done), by repeat (first | exact Drawn0.refl _ | apply Drawn0.step)⟩

/-! ### glyph_Reserved: function 93 -/
def glyph_Reserved.f (a0 : ByteArray) : Option (Bool) := if a0.toList = ([97, 110, 100] : List UInt8) then (some true) else (if a0.toList = ([111, 114] : List UInt8) then (some true) else (if a0.toList = ([110, 111, 116] : List UInt8) then (some true) else (if a0.toList = ([101, 120] : List UInt8) then (some true) else (if a0.toList = ([97, 108, 108] : List UInt8) then (some true) else (if a0.toList = ([109, 111, 100] : List UInt8) then (some true) else (if a0.toList = ([116, 114, 117, 101] : List UInt8) then (some true) else (if a0.toList = ([102, 97, 108, 115, 101] : List UInt8) then (some true) else (some false))))))))
theorem glyph_Reserved.calls (z : ByteArray) (r : Bool) (w : World) (h : glyph_Reserved.f z = some r) :
  Calls Try.prog 93 #[.string z] w fun e w' => e = .returned (.bool r) ∧ Drawn0 w w' := by
 rw [glyph_Reserved.f] at h; have H := h; clear h
 by_cases A : z.toList = ([97, 110, 100] : List UInt8)
 ·rw [if_pos A] at H; obtain ⟨J, L⟩ := bq A; clear A; obtain rfl := Option.some.inj H
  go_enter Try.func93, Try.ntmps93
  go_wp2
  go_ret
  exact ⟨by first | rfl | (simp; done) | (simp [*]; done), by repeat (first | exact Drawn0.refl _ | apply Drawn0.step)⟩
 ·rw [if_neg A] at H; obtain ⟨J, L⟩ := bn A
  by_cases B : z.toList = ([111, 114] : List UInt8)
  ·rw [if_pos B] at H; obtain ⟨M, N⟩ := bq B; clear B; obtain rfl := Option.some.inj H
   go_enter Try.func93, Try.ntmps93
   go_wp2
   go_ret
   exact ⟨by first | rfl | (simp; done) | (simp [*]; done), by repeat (first | exact Drawn0.refl _ | apply Drawn0.step)⟩
  ·rw [if_neg B] at H; obtain ⟨M, N⟩ := bn B
   by_cases C : z.toList = ([110, 111, 116] : List UInt8)
   ·rw [if_pos C] at H; obtain ⟨O, P⟩ := bq C; clear C; obtain rfl := Option.some.inj H
    go_enter Try.func93, Try.ntmps93
    go_wp2
    go_ret
    exact ⟨by first | rfl | (simp; done) | (simp [*]; done), by repeat (first | exact Drawn0.refl _ | apply Drawn0.step)⟩
   ·rw [if_neg C] at H; obtain ⟨O, P⟩ := bn C
    by_cases D : z.toList = ([101, 120] : List UInt8)
    ·rw [if_pos D] at H; obtain ⟨Q, R⟩ := bq D; clear D; obtain rfl := Option.some.inj H
     go_enter Try.func93, Try.ntmps93
     go_wp2
     go_ret
     exact ⟨by first | rfl | (simp; done) | (simp [*]; done), by repeat (first | exact Drawn0.refl _ | apply Drawn0.step)⟩
    ·rw [if_neg D] at H; obtain ⟨Q, R⟩ := bn D
     by_cases E : z.toList = ([97, 108, 108] : List UInt8)
     ·rw [if_pos E] at H; obtain ⟨U, V⟩ := bq E; clear E; obtain rfl := Option.some.inj H
      go_enter Try.func93, Try.ntmps93
      go_wp2
      go_ret
      exact ⟨by first | rfl | (simp; done) | (simp [*]; done), by repeat (first | exact Drawn0.refl _ | apply Drawn0.step)⟩
     ·rw [if_neg E] at H; obtain ⟨U, V⟩ := bn E
      by_cases F : z.toList = ([109, 111, 100] : List UInt8)
      ·rw [if_pos F] at H; obtain ⟨W, Y⟩ := bq F; clear F; obtain rfl := Option.some.inj H
       go_enter Try.func93, Try.ntmps93
       go_wp2
       go_ret
       exact ⟨by first | rfl | (simp; done) | (simp [*]; done), by repeat (first | exact Drawn0.refl _ | apply Drawn0.step)⟩
      ·rw [if_neg F] at H; obtain ⟨W, Y⟩ := bn F
       by_cases G : z.toList = ([116, 114, 117, 101] : List UInt8)
       ·rw [if_pos G] at H; obtain ⟨Z, aa⟩ := bq G; clear G; obtain rfl := Option.some.inj H
        go_enter Try.func93, Try.ntmps93
        go_wp2
        go_ret
        exact ⟨by first | rfl | (simp; done) | (simp [*]; done), by repeat (first | exact Drawn0.refl _ | apply Drawn0.step)⟩
       ·rw [if_neg G] at H; obtain ⟨Z, aa⟩ := bn G
        by_cases I : z.toList = ([102, 97, 108, 115, 101] : List UInt8)
        ·rw [if_pos I] at H; obtain ⟨ab, ac⟩ := bq I; clear I; obtain rfl := Option.some.inj H
         go_enter Try.func93, Try.ntmps93
         go_wp2
         go_ret
         exact ⟨by first | rfl | (simp; done) | (simp [*]; done), by repeat (first | exact Drawn0.refl _ | apply Drawn0.step)⟩
        ·rw [if_neg I] at H; obtain ⟨ab, ac⟩ := bn I; obtain rfl := Option.some.inj H
         go_enter Try.func93, Try.ntmps93
         go_wp2
         go_ret
         exact ⟨by first | rfl | (simp; done) | (simp [*]; done), by repeat (first | exact Drawn0.refl _ | apply Drawn0.step)⟩

end Go.Proofs.Ythgoonohpfoagaa.X
namespace Go.Proofs.Ythgoonohpfoagaa.X
open Go.RowKit Go.Proofs.YthgoonohpfoagaaW.PrintWords Go.Proofs.YthgoonohpfoagaaW.PrintLast Go.Proofs.YthgoonohpfoagaaW.PrintMore
attribute [local go_sem] max2_int min2_int max_two min_two max_three min_three max_four min_four
set_option linter.unusedVariables false
set_option linter.unusedSimpArgs false

/-! ### glyph_Name: function 72 -/
/-- Is it a name, from a byte on, behind so many characters? -/
def glyph_Name.l0 : Nat → ByteArray → Nat → Int → Option Bool
 | 0, _, _, _ => none
 | k + 1, s, p, n =>
  if p < s.size then
   (if p = 0 then glyph_Start.f k ((Utf8.decode s p).1 : Int) else some true).bind fun t =>
    if t = true then (glyph_Rest.f k ((Utf8.decode s p).1 : Int)).bind fun u => if u = true then glyph_Name.l0 k s (p + (Utf8.decode s p).2) (wrap64 (n + 1)) else some false
    else some false
  else if n > 0 then (if n ≤ 16 then (glyph_Reserved.f s).bind fun t => some (!t) else some false) else some false
def glyph_Name.f (k : Nat) (a0 : ByteArray) : Option Bool := glyph_Name.l0 k a0 0 0
theorem glyph_Name.mono_l : ∀ k, (∀ y0 y1 y2, LeO (glyph_Name.l0 k y0 y1 y2) (glyph_Name.l0 (k + 1) y0 y1 y2))
 | 0 => fun _ _ _ r h => by simp [glyph_Name.l0] at h
 | k + 1 => by
  have ih0 := glyph_Name.mono_l k; intro y0 y1 y2
  unfold glyph_Name.l0
  repeat' first
   | (with_reducible exact ih0 _ _ _)
   | (with_reducible exact glyph_Start.mono _ _)
   | (with_reducible exact glyph_Rest.mono _ _)
   | (with_reducible exact LeO.refl _)
   | (with_reducible exact LeO.none _)
   | (with_reducible refine LeO.ite ?_ ?_)
   | (with_reducible refine LeO.bind ?_ (fun _ => ?_))
theorem glyph_Name.mono : ∀ a0 k, LeO (glyph_Name.f k a0) (glyph_Name.f (k + 1) a0) := fun a0 k => glyph_Name.mono_l k a0 0 0
/-- The text's iterator: block g, at a byte. -/
structure glyph_Name.Inv (w W : World) (g : Nat) (s : ByteArray) (p : Nat) : Prop where
 ge : w.heap.size ≤ g
 it : W.heap[g]? = some (.stringIter s p)
 below : Below w.heap.size w W
theorem glyph_Name.Inv.on {w W : World} {g : Nat} {s : ByteArray} {p : Nat} (h : glyph_Name.Inv w W g s p) (q : Nat) : glyph_Name.Inv w (W.iterAt g s q) g s q :=
 ⟨h.ge, Go.Lib.iterAt_heap W g s p q h.it, Go.Lib.below_iterAt h.below h.ge s q⟩
theorem glyph_Name.Inv.drewN {w W : World} {g : Nat} {s : ByteArray} {p : Nat} (h : glyph_Name.Inv w W g s p) (n : Nat) : glyph_Name.Inv w (W.drewN n) g s p := ⟨h.ge, h.it, pw_below_drewN h.below n⟩
theorem glyph_Name.width (s : ByteArray) (pos : Nat) (h : pos < s.size) : 1 ≤ (Utf8.decode s pos).2 := by
 by_cases ha : (s[pos]'h).toNat < 128
 ·rw [decode_ascii s pos h ha]; exact Nat.le_refl _
 ·exact (decode_high s pos h (by omega)).2
set_option maxRecDepth 1000000 in
theorem glyph_Name.calls (k : Nat) (z : ByteArray) (r : Bool) (w : World) (h : glyph_Name.f k z = some r) : Calls Try.prog 72 #[.string z] w fun e w' => e = .returned (.bool r) ∧ Below w.heap.size w w' := by
 have HF := aM (show glyph_Name.l0 k z 0 0 = some r from h); clear h
 go_enter Try.func72, Try.ntmps72
 go_wp2
 go_loopw [3] (fun v w' => ∃ (p k : Nat) (n : Int), v = .int .i64 n ∧ glyph_Name.Inv w w' w.heap.size z p ∧ glyph_Name.l0 k z p n = some r) (fun _ w' => z.size - w'.iterPos w.heap.size)
 case atStart => exact ⟨0, k, 0, rfl, ⟨Nat.le_refl _, World.iter_heap _ _ _, below_alloc (Below.refl _ _) _⟩, HF.out⟩
 case round =>
  obtain ⟨p, k, n, rfl, hI, hl⟩ := hrel; cases k with
  | zero => cases hl
  | succ k =>
   rw [glyph_Name.l0] at hl; have hit := hI.it; have HI := aM hI; clear hI
   by_cases hp : p < z.size
   ·rw [if_pos hp] at hl
    have hnx : ∀ ty, (Instr.next (.pointer (some ⟨w.heap.size, 0, none⟩)) true ty).run Try.prog wr = _ := fun ty => Go.Lib.run_next_any_at wr w.heap.size z p ty hit hp
    have hwd := glyph_Name.width z p hp; have HW := aM hwd; have HP := aM hp; clear hit hwd; replace hl := Option.bind_eq_some_iff.mp hl; obtain ⟨t, hS, hl⟩ := hl; have HL := aM hl; clear hl
    by_cases hz : p = 0
    ·rw [if_pos hz] at hS; have F : ((p : Int) == 0) = true := beq_iff_eq.mpr (by omega); have HS := aM hS; clear hS hz hp; cases t with
     | false =>
      have hr := HL.out; rw [if_neg (by decide)] at hr; obtain rfl := Option.some.inj hr; clear hr
      go_wp2_with (go_at_call 91; (with_reducible refine (glyph_Start.calls k _ false _ HS.out).mono ?_); rintro e G ⟨rfl, ⟨nd, rfl⟩⟩)
      go_ret
      exact ⟨rfl, ((HI.out.on _).drewN nd).below⟩
     | true =>
      have hl := HL.out; rw [if_pos rfl] at hl; replace hl := Option.bind_eq_some_iff.mp hl; obtain ⟨u, hR, hl⟩ := hl; have HR := aM hR; have HM := aM hl; clear hl hR; cases u with
      | false =>
       have hr := HM.out; rw [if_neg (by decide)] at hr; obtain rfl := Option.some.inj hr; clear hr
       go_wp2_with (first | (go_at_call 91; (with_reducible refine (glyph_Start.calls k _ true _ HS.out).mono ?_); rintro e G ⟨rfl, ⟨nd, rfl⟩⟩) | (go_at_call 92; (with_reducible refine (glyph_Rest.calls k _ false _ HR.out).mono ?_); rintro e C ⟨rfl, ⟨ne, rfl⟩⟩))
       go_ret
       exact ⟨rfl, ((HI.out.on _).drewN (nd + ne)).below⟩
      | true =>
       go_wp2_with (first | (go_at_call 91; (with_reducible refine (glyph_Start.calls k _ true _ HS.out).mono ?_); rintro e G ⟨rfl, ⟨nd, rfl⟩⟩) | (go_at_call 92; (with_reducible refine (glyph_Rest.calls k _ true _ HR.out).mono ?_); rintro e C ⟨rfl, ⟨ne, rfl⟩⟩))
       go_roundw
       case rel => exact ⟨p + (Utf8.decode z p).2, k, _, rfl, (HI.out.on _).drewN (nd + ne), by simpa using HM.out⟩
       case measure =>
        have D := ((HI.out.on (p + (Utf8.decode z p).2)).drewN (nd + ne)).it; have E := HI.out.it; have := HW.out; have := HP.out; simp only [World.iterPos, D, E]
        omega
    ·rw [if_neg hz] at hS; have F : ((p : Int) == 0) = false := beq_eq_false_iff_ne.mpr (by omega); obtain rfl := Option.some.inj hS; clear hS hz hp; have hl := HL.out; rw [if_pos rfl] at hl; replace hl := Option.bind_eq_some_iff.mp hl; obtain ⟨u, hR, hl⟩ := hl; have HR := aM hR; have HM := aM hl; clear hl hR; cases u with
     | false =>
      have hr := HM.out; rw [if_neg (by decide)] at hr; obtain rfl := Option.some.inj hr; clear hr
      go_wp2_with (go_at_call 92; (with_reducible refine (glyph_Rest.calls k _ false _ HR.out).mono ?_); rintro e C ⟨rfl, ⟨ne, rfl⟩⟩)
      go_ret
      exact ⟨rfl, ((HI.out.on _).drewN ne).below⟩
     | true =>
      go_wp2_with (go_at_call 92; (with_reducible refine (glyph_Rest.calls k _ true _ HR.out).mono ?_); rintro e C ⟨rfl, ⟨ne, rfl⟩⟩)
      go_roundw
      case rel => exact ⟨p + (Utf8.decode z p).2, k, _, rfl, (HI.out.on _).drewN ne, by simpa using HM.out⟩
      case measure =>
       have D := ((HI.out.on (p + (Utf8.decode z p).2)).drewN ne).it; have E := HI.out.it; have := HW.out; have := HP.out; simp only [World.iterPos, D, E]
       omega
   ·rw [if_neg hp] at hl
    have hnx : ∀ ty, (Instr.next (.pointer (some ⟨w.heap.size, 0, none⟩)) true ty).run Try.prog wr = _ := fun ty => Go.Lib.run_next_end_at wr w.heap.size z p ty hit hp
    clear hit hp
    by_cases A : n > 0
    ·rw [if_pos A] at hl; have d1 : decide (n > 0) = true := dT A; clear A
     by_cases B : n ≤ 16
     ·rw [if_pos B] at hl; have d2 : decide (n ≤ 16) = true := dT B; clear B; replace hl := Option.bind_eq_some_iff.mp hl; obtain ⟨t, hV, hl⟩ := hl; obtain rfl := Option.some.inj hl; have HV := aM hV; clear hl hV
      go_wp2_with (go_at_call 93; (with_reducible refine (glyph_Reserved.calls _ t _ HV.out).mono ?_); rintro e C ⟨rfl, ⟨ne, rfl⟩⟩)
      go_ret
      exact ⟨rfl, (HI.out.drewN ne).below⟩
     ·rw [if_neg B] at hl; have d2 : decide (n ≤ 16) = false := decide_eq_false B; clear B; obtain rfl := Option.some.inj hl; clear hl
      go_wp2
      go_ret
      exact ⟨rfl, HI.out.below⟩
    ·rw [if_neg A] at hl; have d1 : decide (n > 0) = false := decide_eq_false A; clear A; obtain rfl := Option.some.inj hl; clear hl
     go_wp2
     go_ret
     exact ⟨rfl, HI.out.below⟩

end Go.Proofs.Ythgoonohpfoagaa.X
namespace Go.Proofs.Ythgoonohpfoagaa.X
open Go.RowKit Go.Proofs.YthgoonohpfoagaaW.PrintWords Go.Proofs.YthgoonohpfoagaaW.PrintLast Go.Proofs.YthgoonohpfoagaaW.PrintMore
attribute [local go_sem] max2_int min2_int max_two min_two max_three min_three max_four min_four
set_option linter.unusedVariables false
set_option linter.unusedSimpArgs false
set_option maxHeartbeats 8000000
set_option maxRecDepth 100000

/-! ### glyph_Rises: function 47 -/
def glyph_Rises.l0 : Nat → List ByteArray → List ByteArray → Int → Int → Option (Bool)
 | 0, _, _, _, _ => none
 | k + 1, x0, x5, x6, x7 => if x7 < x6 then (if 0 ≤ x7 then (if x7 < (x5.length : Int) then ((glyph_Name.f k (rdOf ByteArray.empty x5 x7)).bind fun t126 => (if t126 = true then (if x7 > 0 then (if 0 ≤ (wrap64 (x7 - 1)) then (if (wrap64 (x7 - 1)) < (x0.length : Int) then (if ((Op.bytesLess ((rdOf ByteArray.empty x0 (wrap64 (x7 - 1))).toList) ((rdOf ByteArray.empty x5 x7).toList)) = true) then (glyph_Rises.l0 k x0 x5 x6 (wrap64 (x7 + 1))) else (some false)) else (none)) else (none)) else (glyph_Rises.l0 k x0 x5 x6 (wrap64 (x7 + 1)))) else (some false))) else (none)) else (none)) else (some true)
def glyph_Rises.f (k : Nat) (l0 : List ByteArray) : Option (Bool) := glyph_Rises.l0 k l0 l0 (l0.length : Int) 0
theorem glyph_Rises.mono_l : ∀ k, (∀ y0 y1 y2 y3, LeO (glyph_Rises.l0 k y0 y1 y2 y3) (glyph_Rises.l0 (k + 1) y0 y1 y2 y3))
 | 0 => fun _ _ _ _ r h => by simp [glyph_Rises.l0] at h
 | k + 1 => by
  have ih0 := glyph_Rises.mono_l k
  ·intro y0 y1 y2 y3
   unfold glyph_Rises.l0
   repeat' first | (with_reducible first | exact ih0 _ _ _ _ | exact glyph_Name.mono _ _ | exact lA | apply lI | refine lB ?_ fun _ => ?_) | exact lN _ | apply lI | refine lB ?_ fun _ => ?_
theorem glyph_Rises.mono : ∀ a0 k, LeO (glyph_Rises.f k a0) (glyph_Rises.f (k + 1) a0) := by
 intro a0 k; have ih0 := glyph_Rises.mono_l k
 unfold glyph_Rises.f
 repeat' first | (with_reducible first | exact ih0 _ _ _ _ | exact glyph_Name.mono _ _ | exact lA | apply lI | refine lB ?_ fun _ => ?_) | exact lN _ | apply lI | refine lB ?_ fun _ => ?_
theorem glyph_Rises.calls (k : Nat) (A0 : Option Addr) (c0 : Nat) (B : List ByteArray) (r : Bool) (w : World) (ae : Kd.C Kd.string w A0 B.length B) (af : B.length ≤ c0) (h : glyph_Rises.f k B = some r) :
  Calls Try.prog 47 #[.slice A0 B.length c0] w fun e w' => e = .returned (.bool r) ∧ Below w.heap.size w w' := by
 have O := aM ae; have ar := aM af; clear ae af; have HB := aM (Below.refl w.heap.size w); rw [glyph_Rises.f] at h; have H := h; clear h; have H' := aM H; clear H
 go_enter Try.func47, Try.ntmps47
 go_wp2
 go_loopg [7] k (fun kq v7 w' => ∃ (z : Int), v7 = .int .i64 z ∧ Aside0 (glyph_Rises.l0 kq B B (B.length : Int) z = some r) ∧ Aside0 (kq ≤ k) ∧ BA w w')
 case atStart => exact ⟨(0), sI, H', ⟨Nat.le_refl _⟩, bT0 HB⟩
 case round =>
  clear H'; obtain ⟨z, rfl, HA, HK1, HB⟩ := hrel; cases gk with
  | zero => exact absurd HA.out (by simp [glyph_Rises.l0])
  | succ k1 =>
   have H := HA.out; clear HA; simp only [glyph_Rises.l0] at H
   by_cases V : z < (B.length : Int)
   ·rw [if_pos V] at H; have ah := dT V; clear V
    by_cases Z : 0 ≤ z
    ·rw [if_pos Z] at H; have ao := dT Z; clear Z
     by_cases c4 : z < (B.length : Int)
     ·rw [if_pos c4] at H; have ap := dT c4; clear c4; replace H := Option.bind_eq_some_iff.mp H; obtain ⟨ai, ag, H⟩ := H; have Y := aM ag; clear ag
      by_cases c6 : ai = true
      ·subst c6
       rw [if_pos rfl] at H
       by_cases W : z > 0
       ·rw [if_pos W] at H; have aj := dT W; clear W; obtain ⟨G, N⟩ : ∃ j_ : Int, (wrap64 (z - 1)) = j_ := ⟨_, rfl⟩
        first | rw [N] at H | simp only [N] at H
        (try rw [N] at Y)
        have hji8w : (IntKind.i64.wrap (z - 1)) = G := (i64_w _).trans N
        by_cases c9 : 0 ≤ (G)
        ·rw [if_pos c9] at H; have aq := dT c9; clear c9
         by_cases U : (G) < (B.length : Int)
         ·rw [if_pos U] at H; have am := dT U; clear U
          by_cases P : ((Op.bytesLess ((rdOf ByteArray.empty B (G)).toList) ((rdOf ByteArray.empty B z).toList)) = true)
          ·rw [if_pos P] at H; have ad : (Op.bytesLess ((rdOf ByteArray.empty B (G)).toList) ((rdOf ByteArray.empty B z).toList)) = true := P; clear P; have H' := aM H; clear H; have D : 0 ≤ (z : Int) := oT aO; have E : z < (B.length : Int) := oT aO; obtain ⟨M, I, A⟩ := Kd.at_string O.out z D E; cases I; replace A := cX HB A; replace D := eq_true D; replace E := eq_true E
           go_wp2_with (first | ((with_reducible refine gate_callee (f := 72) rfl ?_); refine gL_ (some 13) Try.func72 #[.string (rdOf ByteArray.empty B z)] ?_; (with_reducible refine (glyph_Name.calls k1 (rdOf ByteArray.empty B z) true _ Y.out).mono ?_); rintro e au ⟨rfl, hb⟩; refine ⟨_, rfl, ?_⟩; replace HB := hS0 HB hb; (try clear hb); have J : 0 ≤ ((G) : Int) := oT aO; have L : (G) < (B.length : Int) := oT aO; obtain ⟨Q, R, F⟩ := Kd.at_string O.out (G) J L; have he_ : M = Q := (by injection R); subst he_; replace F := cX HB F; replace J := eq_true J; replace L := eq_true L))
           go_roundg k1
           case measure => have := HK1.out; omega
           case rel => exact ⟨(wrap64 (z + 1)), sI, H', ⟨by have := HK1.out; omega⟩, bT0 HB⟩
          ·rw [if_neg P] at H
           have ad : (Op.bytesLess ((rdOf ByteArray.empty B (G)).toList) ((rdOf ByteArray.empty B z).toList)) = false := by simpa using P
           clear P; obtain rfl := Option.some.inj H; have D : 0 ≤ (z : Int) := oT aO; have E : z < (B.length : Int) := oT aO; obtain ⟨M, I, A⟩ := Kd.at_string O.out z D E; cases I; replace A := cX HB A; replace D := eq_true D; replace E := eq_true E
           go_wp2_with (first | ((with_reducible refine gate_callee (f := 72) rfl ?_); refine gL_ (some 13) Try.func72 #[.string (rdOf ByteArray.empty B z)] ?_; (with_reducible refine (glyph_Name.calls k1 (rdOf ByteArray.empty B z) true _ Y.out).mono ?_); rintro e av ⟨rfl, hb⟩; refine ⟨_, rfl, ?_⟩; replace HB := hS0 HB hb; (try clear hb); have J : 0 ≤ ((G) : Int) := oT aO; have L : (G) < (B.length : Int) := oT aO; obtain ⟨Q, R, F⟩ := Kd.at_string O.out (G) J L; have he_ : M = Q := (by injection R); subst he_; replace F := cX HB F; replace J := eq_true J; replace L := eq_true L))
           go_ret
           exact ⟨by first | rfl | (simp [errW_none, errW_some] <;> rfl) | (simp only [← N]; first | rfl | (simp [errW_none, errW_some] <;> rfl)) | (simp [*, errW_none, errW_some] <;> rfl), bO HB.out⟩
         ·exact nX U H
        ·exact nX c9 H
       ·rw [if_neg W] at H; have aj := decide_eq_false W; clear W; have H' := aM H; clear H; have D : 0 ≤ (z : Int) := oT aO; have E : z < (B.length : Int) := oT aO; obtain ⟨M, I, A⟩ := Kd.at_string O.out z D E; cases I; replace A := cX HB A; replace D := eq_true D; replace E := eq_true E
        go_wp2_with (first | ((with_reducible refine gate_callee (f := 72) rfl ?_); refine gL_ (some 13) Try.func72 #[.string (rdOf ByteArray.empty B z)] ?_; (with_reducible refine (glyph_Name.calls k1 (rdOf ByteArray.empty B z) true _ Y.out).mono ?_); rintro e aw ⟨rfl, hb⟩; refine ⟨_, rfl, ?_⟩; replace HB := hS0 HB hb; (try clear hb)))
        go_roundg k1
        case measure => have := HK1.out; omega
        case rel => exact ⟨(wrap64 (z + 1)), sI, H', ⟨by have := HK1.out; omega⟩, bT0 HB⟩
      ·replace c6 := Bool.eq_false_iff.mpr c6; subst c6
       rw [if_neg nF] at H; obtain rfl := Option.some.inj H; have D : 0 ≤ (z : Int) := oT aO; have E : z < (B.length : Int) := oT aO; obtain ⟨M, I, A⟩ := Kd.at_string O.out z D E; cases I; replace A := cX HB A; replace D := eq_true D; replace E := eq_true E
       go_wp2_with (first | ((with_reducible refine gate_callee (f := 72) rfl ?_); refine gL_ (some 13) Try.func72 #[.string (rdOf ByteArray.empty B z)] ?_; (with_reducible refine (glyph_Name.calls k1 (rdOf ByteArray.empty B z) false _ Y.out).mono ?_); rintro e ax ⟨rfl, hb⟩; refine ⟨_, rfl, ?_⟩; replace HB := hS0 HB hb; (try clear hb)))
       go_ret
       exact ⟨eW, bO HB.out⟩
     ·exact nX c4 H
    ·exact nX Z H
   ·rw [if_neg V] at H; have ah := decide_eq_false V; clear V; obtain rfl := Option.some.inj H
    go_wp2
    go_ret
    exact ⟨eW, bO HB.out⟩

end Go.Proofs.Ythgoonohpfoagaa.X
namespace Go.Proofs.Ythgoonohpfoagaa.X
open Go.RowKit Go.Proofs.YthgoonohpfoagaaW.PrintWords Go.Proofs.YthgoonohpfoagaaW.PrintLast Go.Proofs.YthgoonohpfoagaaW.PrintMore
attribute [local go_sem] max2_int min2_int max_two min_two max_three min_three max_four min_four
set_option linter.unusedVariables false
set_option linter.unusedSimpArgs false
set_option maxHeartbeats 8000000
set_option maxRecDepth 100000

/-! ### norm_Check: function 24 -/
mutual
def norm_Check.j0 : Nat → List Int → Bool → Int → List ByteArray → List Int → Int → Int → Option (Int)
 | 0, _, _, _, _, _, _, _ => none
 | k + 1, x3, x6, x129000, x129001, x129002, x129003, x129004 => if x129000 = 2 then (if x6 = true then (norm_Check.j1 k x3 (decide (x129004 ≥ 1)) x129000 x129001 x129002 x129003 x129004) else (norm_Check.j1 k x3 false x129000 x129001 x129002 x129003 x129004)) else (if x6 = true then (if x129004 = 0 then (some 0) else (some 3)) else (some 3))
def norm_Check.j1 : Nat → List Int → Bool → Int → List ByteArray → List Int → Int → Int → Option (Int)
 | 0, _, _, _, _, _, _, _ => none
 | k + 1, x3, x6, x129000, x129001, x129002, x129003, x129004 => norm_Check.l0 k x6 x3 (x3.length : Int) 0 x129000 x129001 x129002 x129003 x129004
def norm_Check.l0 : Nat → Bool → List Int → Int → Int → Int → List ByteArray → List Int → Int → Int → Option (Int)
 | 0, _, _, _, _, _, _, _, _, _ => none
 | k + 1, x6, x55, x56, x57, x129000, x129001, x129002, x129003, x129004 => if x57 < x56 then (if 0 ≤ x57 then (if x57 < (x55.length : Int) then (if x6 = true then (if (rd x55 x57) ≥ 0 then (norm_Check.l0 k (decide ((rd x55 x57) < x129004)) x55 x56 (wrap64 (x57 + 1)) x129000 x129001 x129002 x129003 x129004) else (norm_Check.l0 k false x55 x56 (wrap64 (x57 + 1)) x129000 x129001 x129002 x129003 x129004)) else (norm_Check.l0 k false x55 x56 (wrap64 (x57 + 1)) x129000 x129001 x129002 x129003 x129004)) else (none)) else (none)) else (if x6 = true then (some 0) else (some 3))
end
def norm_Check.f (k : Nat) (a0_0 : Int) (l0_1 : List ByteArray) (l0_2 : List Int) (a0_3 : Int) (a0_4 : Int) : Option (Int) := (some (([a0_3] : List Int) : List Int)).bind fun y129 => (if y129.length + l0_2.length < 17592186044416 then ((some (y129 ++ l0_2 : List Int)).bind fun y132 => ((chk_Total.f k y132).bind fun bt135 => (if a0_0 ≥ 0 then (if a0_0 ≤ 2 then ((glyph_Rises.f k l0_1).bind fun t137 => (if t137 = true then (if (l0_1.length : Int) = (l0_2.length : Int) then (norm_Check.j0 k y132 (bt135.2 == 0) a0_0 l0_1 l0_2 a0_3 a0_4) else (norm_Check.j0 k y132 false a0_0 l0_1 l0_2 a0_3 a0_4)) else (norm_Check.j0 k y132 false a0_0 l0_1 l0_2 a0_3 a0_4))) else (norm_Check.j0 k y132 false a0_0 l0_1 l0_2 a0_3 a0_4)) else (norm_Check.j0 k y132 false a0_0 l0_1 l0_2 a0_3 a0_4)))) else (none))
theorem norm_Check.mono_l : ∀ k, (∀ y0 y1 y2 y3 y4 y5 y6, LeO (norm_Check.j0 k y0 y1 y2 y3 y4 y5 y6) (norm_Check.j0 (k + 1) y0 y1 y2 y3 y4 y5 y6)) ∧ (∀ y0 y1 y2 y3 y4 y5 y6, LeO (norm_Check.j1 k y0 y1 y2 y3 y4 y5 y6) (norm_Check.j1 (k + 1) y0 y1 y2 y3 y4 y5 y6)) ∧ (∀ y0 y1 y2 y3 y4 y5 y6 y7 y8, LeO (norm_Check.l0 k y0 y1 y2 y3 y4 y5 y6 y7 y8) (norm_Check.l0 (k + 1) y0 y1 y2 y3 y4 y5 y6 y7 y8))
 | 0 => ⟨fun _ _ _ _ _ _ _ r h => by simp [norm_Check.j0] at h, fun _ _ _ _ _ _ _ r h => by simp [norm_Check.j1] at h, fun _ _ _ _ _ _ _ _ _ r h => by simp [norm_Check.l0] at h⟩
 | k + 1 => by
  obtain ⟨ih0, ih1, ih2⟩ := norm_Check.mono_l k; refine ⟨?_, ?_, ?_⟩
  ·intro y0 y1 y2 y3 y4 y5 y6
   unfold norm_Check.j0
   repeat' first | (with_reducible first | exact ih0 _ _ _ _ _ _ _ | exact ih1 _ _ _ _ _ _ _ | exact ih2 _ _ _ _ _ _ _ _ _ | exact chk_Total.mono _ _ | exact glyph_Rises.mono _ _ | exact lA | apply lI | refine lB ?_ fun _ => ?_) | exact lN _ | apply lI | refine lB ?_ fun _ => ?_
  ·intro y0 y1 y2 y3 y4 y5 y6
   unfold norm_Check.j1
   repeat' first | (with_reducible first | exact ih0 _ _ _ _ _ _ _ | exact ih1 _ _ _ _ _ _ _ | exact ih2 _ _ _ _ _ _ _ _ _ | exact chk_Total.mono _ _ | exact glyph_Rises.mono _ _ | exact lA | apply lI | refine lB ?_ fun _ => ?_) | exact lN _ | apply lI | refine lB ?_ fun _ => ?_
  ·intro y0 y1 y2 y3 y4 y5 y6 y7 y8
   unfold norm_Check.l0
   repeat' first | (with_reducible first | exact ih0 _ _ _ _ _ _ _ | exact ih1 _ _ _ _ _ _ _ | exact ih2 _ _ _ _ _ _ _ _ _ | exact chk_Total.mono _ _ | exact glyph_Rises.mono _ _ | exact lA | apply lI | refine lB ?_ fun _ => ?_) | exact lN _ | apply lI | refine lB ?_ fun _ => ?_
theorem norm_Check.mono : ∀ a0 a1 a2 a3 a4 k, LeO (norm_Check.f k a0 a1 a2 a3 a4) (norm_Check.f (k + 1) a0 a1 a2 a3 a4) := by
 intro a0 a1 a2 a3 a4 k; obtain ⟨ih0, ih1, ih2⟩ := norm_Check.mono_l k
 unfold norm_Check.f
 repeat' first | (with_reducible first | exact ih0 _ _ _ _ _ _ _ | exact ih1 _ _ _ _ _ _ _ | exact ih2 _ _ _ _ _ _ _ _ _ | exact chk_Total.mono _ _ | exact glyph_Rises.mono _ _ | exact lA | apply lI | refine lB ?_ fun _ => ?_) | exact lN _ | apply lI | refine lB ?_ fun _ => ?_
theorem norm_Check.calls (k : Nat) (G : Int) (Y : Option Addr) (Z : Nat) (D : List ByteArray) (aa : Option Addr) (ab : Nat) (E : List Int) (I : Int) (L : Int) (r : Int) (w : World) (aA : Kd.C Kd.string w Y D.length D) (aC : D.length ≤ Z) (aD : Kd.C (Kd.int .i64) w aa E.length E) (aE : E.length ≤ ab) (h : norm_Check.f k G D E I L = some r) :
  Calls Try.prog 24 #[.agg #[.int .i64 G, .slice Y D.length Z, .slice aa E.length ab, .int .i64 I, .int .i64 L]] w fun e w' => e = .returned (.int .i64 r) ∧ Below w.heap.size w w' := by
 have hu26 := Try.underlying26; have al := aM aA; have am := aM aC; clear aA aC; have aZ := aM aD; have dY := aM aE; clear aD aE; have HB := aM (Below.refl w.heap.size w); rw [norm_Check.f] at h; have H := h; clear h; obtain ⟨aw, ac⟩ : ∃ y_ : List Int, y_ = (([I] : List Int)) := ⟨_, rfl⟩
 first | replace H := rI ac H | rw [← ac] at H
 have a5 := aM ac; clear ac
 by_cases c2 : aw.length + E.length < 17592186044416
 ·rw [if_pos c2] at H; have bj := aM c2; clear c2; obtain ⟨F, ad⟩ : ∃ y_ : List Int, y_ = (aw ++ E) := ⟨_, rfl⟩
  first | replace H := rI ad H | rw [← ad] at H
  have a7 := aM ad; clear ad; replace H := Option.bind_eq_some_iff.mp H; obtain ⟨⟨bk, ax⟩, bi, H⟩ := H; replace H : (if G ≥ 0 then (if G ≤ 2 then ((glyph_Rises.f k D).bind fun ay => (if ay = true then (if (D.length : Int) = (E.length : Int) then (norm_Check.j0 k F (ax == 0) G D E I L) else (norm_Check.j0 k F false G D E I L)) else (norm_Check.j0 k F false G D E I L))) else (norm_Check.j0 k F false G D E I L)) else (norm_Check.j0 k F false G D E I L)) = some r := H; have A3 := aM bi; clear bi; have aU := aM H; clear H
  go_enter Try.func24, Try.ntmps24
  go_upto_region 3 with (first | ((with_reducible refine gate_dst (N := 1) rfl ?_); (try (refine gate_guard (by rfl) ?_; dsimp only)); refine be_ (cs := #[.int .i64 G, .slice Y D.length Z, .slice aa E.length ab, .int .i64 I, .int .i64 L]) (t := 26) ?_; intro an hg w5 hbox hb; have z := aM (hbox); have dZ := gE hg (bP0 HB); have A := gE hg (bP0 HB); replace HB := hS0 HB hb; clear hb hbox hg; obtain ⟨dB, dC, dD, dE, dF, dG, dH, dI, dJ, dK⟩ := bG5 z) | ((with_reducible refine gate_dst (N := 11) rfl ?_); (try (refine gate_guard (by rfl) ?_; dsimp only)); refine Kd.R_lit (Kd.int .i64) _ 2 ?hg (N := 11) ?hd (xs := ([I] : List Int)) (inner := [.int .i64 I]) (ok := fun _ => True) (okp := fun _ => True) ?hr ?hp (fun _ hk => hk) trivial (Below.refl _ _) (Nat.le_refl _) (by simp) ?_; (case hd => rfl); (case hg => rfl); (case hr => first | (go_simp; done) | (go_simp; rfl)); (case hp => exact (Reps.one (show Kd.M (Kd.int .i64) _ _ _ I [.int .i64 I] from rfl) (Reps.none _ _))); intro bl w7 aG hb hg_ hnew_; clear hg_ hnew_; replace aG := nW a5 aG; have ao := rW aG (bP1 HB A); replace z := kB z hb; replace HB := hS1 HB A hb; clear hb aG; obtain ⟨dL, dM, dN, dO, dP, dQ, dR, dS, dU, dV⟩ := bG5 z) | ((with_reducible refine gate_builtin (b := .append) (xs := #[.tmp 11, .tmp 13]) rfl ?_); (try (refine gate_guard (by rfl) ?_; dsimp only)); at_builtin; refine Kd.R_append_rows (Kd.int .i64) (w0 := w) w.heap.size rfl (.tmp 11) (.tmp 13) 24 2 (.int .i64 0) 8 rfl Try.underlying24 info2 rfl (by decide) (by omega) bl aw E _ _ _ (fun _ => True) (fun _ => False) rfl rfl ?aO ?aR (fun _ _ h => h) (fun _ h => h.elim) ?aF ?aB ?aS ?aL ?_; (case aR => exact cO (Kd.C_below aZ.out HB.out)); (case aB => exact (bP1 HB A)); (case aF => exact (fun _ _ => trivial)); (case aO => exact (rP ao)); (case aS => exact (below_size (bP1 HB A))); (case aL => have := bj.out; omega); intro d3 d4 ho hb hg hat; rw [← a7.out] at ho; replace z := kG z hg ao; replace HB := aM (hb); have J := aM (ho); clear ao; clear ho hb hg hat; obtain ⟨ap, aq, bm⟩ := sL J; subst bm) | ((with_reducible refine gate_callee (f := 46) rfl ?_); refine gL_ (some 17) Try.func46 #[.slice ap F.length aq] ?_; (with_reducible refine (chk_Total.calls k _ _ F bk ax _ ?s1 (rR J).2.1 A3.out).mono ?_); (case s1 => exact cO (rR J).2.2); rintro e w' ⟨rfl, ⟨nd, rfl⟩⟩; refine ⟨_, rfl, ?_⟩))
  (try simp only [Act.put, sA, sB, sC])
  go_cut [6] (fun v6 wc => ∃ (kq : Nat) (O : Bool), v6 = .bool O ∧ Aside0 (norm_Check.j0 kq F O G D E I L = some r) ∧ Aside0 (kq ≤ k) ∧ RA (Kd.int .i64) 2 wc w (.slice ap F.length aq) F ∧ Aside0 (wc.heap[an]? = some (.cells #[.int .i64 G, (.slice Y D.length Z), (.slice aa E.length ab), .int .i64 I, .int .i64 L] 26 (0, 0))) ∧ BA w wc)
  case first =>
   have H := aU.out; clear aU
   by_cases ag : G ≥ 0
   ·rw [if_pos ag] at H; have V := dT ag; clear ag
    (first | rw [V] | (simp only [i64_w, i32_w]; rw [V]) | skip)
    by_cases ah : G ≤ 2
    ·rw [if_pos ah] at H; have a8 := dT ah; clear ah; replace H := Option.bind_eq_some_iff.mp H; obtain ⟨ay, aW, H⟩ := H; have aX := aM aW; clear aW
     by_cases aH : ay = true
     ·subst aH
      rw [if_pos rfl] at H
      by_cases W : (D.length : Int) = (E.length : Int)
      ·rw [if_pos W] at H; obtain ⟨a9, ba⟩ := bq W
       have bb : (D.length == E.length) = true := by first | simpa using W | (simp at W ⊢; omega)
       clear W; have H' := aM H; clear H; obtain ⟨bo, bp, br, bs, bt, bu, bv, bw, bx, bz⟩ := bG5 z
       go_wp2_with (first | (go_at_call 47; (with_reducible refine (glyph_Rises.calls k _ _ D true _ ?s1 am.out aX.out).mono ?_); (case s1 => exact cB al HB); rintro e d5 ⟨rfl, hb⟩; replace J := rB J hb; replace z := kB z hb; replace HB := hS1 HB A hb; (try clear hb); obtain ⟨bA, bB, bC, bD, bE, bF, bG, bH, bI, bJ⟩ := bG5 z))
       go_meet
       case rel => exact ⟨_, ((ax == 0)), sI, H', ⟨by first | omega | exact Nat.le_refl _⟩, rQ J, kQ z, bT1 HB A⟩
      ·rw [if_neg W] at H; obtain ⟨a9, ba⟩ := bn W
       have bb : (D.length == E.length) = false := by first | simpa using W | (simp at W ⊢; omega)
       have H' := aM H; clear H; obtain ⟨bK, bL, bM, bN, bO, bP, bQ, bR, bS, bT⟩ := bG5 z
       go_wp2_with (first | (go_at_call 47; (with_reducible refine (glyph_Rises.calls k _ _ D true _ ?s1 am.out aX.out).mono ?_); (case s1 => exact cB al HB); rintro e d6 ⟨rfl, hb⟩; replace J := rB J hb; replace z := kB z hb; replace HB := hS1 HB A hb; (try clear hb); obtain ⟨bU, bV, bW, bX, bY, bZ, b0, b1, b2, b3⟩ := bG5 z))
       go_meet
       case rel => exact ⟨_, (false), sI, H', ⟨by first | omega | exact Nat.le_refl _⟩, rQ J, kQ z, bT1 HB A⟩
     ·replace aH := Bool.eq_false_iff.mpr aH; subst aH
      rw [if_neg nF] at H; have H' := aM H; clear H; obtain ⟨b4, b5, b6, b7, b8, b9, ca, cb, cc, cd⟩ := bG5 z
      go_wp2_with (first | (go_at_call 47; (with_reducible refine (glyph_Rises.calls k _ _ D false _ ?s1 am.out aX.out).mono ?_); (case s1 => exact cB al HB); rintro e d7 ⟨rfl, hb⟩; replace J := rB J hb; replace z := kB z hb; replace HB := hS1 HB A hb; (try clear hb)))
      go_meet
      case rel => exact ⟨_, (false), sI, H', ⟨by first | omega | exact Nat.le_refl _⟩, rQ J, kQ z, bT1 HB A⟩
    ·rw [if_neg ah] at H; have a8 := decide_eq_false ah; clear ah; have H' := aM H; clear H; obtain ⟨ce, cf, cg, ch, ci, cj, ck, cl, cm, cn⟩ := bG5 z
     go_wp2
     go_meet
     case rel => exact ⟨_, (false), sI, H', ⟨by first | omega | exact Nat.le_refl _⟩, rQ J, kQ z, bT1 HB A⟩
   ·rw [if_neg ag] at H; have V := decide_eq_false ag; clear ag
    (first | rw [V] | (simp only [i64_w, i32_w]; rw [V]) | skip)
    have H' := aM H; clear H; obtain ⟨co, cp, cq, cr, ct, cu, cv, cw, cx, cy⟩ := bG5 z
    go_wp2
    go_meet
    case rel => exact ⟨_, (false), sI, H', ⟨by first | omega | exact Nat.le_refl _⟩, rQ J, kQ z, bT1 HB A⟩
  case rest =>
   clear aU
   obtain ⟨kq, O, rfl, HA, HJ3, ar, z, HB⟩ := hcut; cases kq with
   | zero => exact absurd HA.out (by simp [norm_Check.j0])
   | succ dW =>
    have H := HA.out; clear HA; simp only [norm_Check.j0] at H
    by_cases au : G = 2
    ·rw [if_pos au] at H; obtain ⟨bc, bd⟩ := bq au; clear au; have az := aM H; clear H; obtain ⟨cz, cA, cC, cD, cE, cF, cG, cH, cI, cJ⟩ := bG5 z
     go_upto_region 5 with (fail)
     go_cut [6] (fun v6 wc => ∃ (kq : Nat) (ae : Bool), v6 = .bool ae ∧ Aside0 (norm_Check.j1 kq F ae G D E I L = some r) ∧ Aside0 (kq ≤ dW) ∧ RA (Kd.int .i64) 2 wc w (.slice ap F.length aq) F ∧ Aside0 (wc.heap[an]? = some (.cells #[.int .i64 G, (.slice Y D.length Z), (.slice aa E.length ab), .int .i64 I, .int .i64 L] 26 (0, 0))) ∧ BA w wc)
     case first =>
      have H := az.out; clear az
      by_cases aI : O = true
      ·subst aI
       rw [if_pos rfl] at H; have H' := aM H; clear H; obtain ⟨cK, cL, cM, cN, cP, cQ, cR, cS, cT, cU⟩ := bG5 z
       go_wp2
       go_meet
       case rel => exact ⟨_, (decide (L ≥ 1)), sI, H', ⟨by have := HJ3.out; first | omega | exact Nat.le_refl _⟩, rQ ar, kQ z, bT1 HB A⟩
      ·replace aI := Bool.eq_false_iff.mpr aI; subst aI
       rw [if_neg nF] at H; have H' := aM H; clear H
       go_wp2
       go_meet
       case rel => exact ⟨_, (false), sI, H', ⟨by have := HJ3.out; first | omega | exact Nat.le_refl _⟩, rQ ar, kQ z, bT1 HB A⟩
     case rest =>
      clear az
      obtain ⟨kq, ae, rfl, HA, HJ27, ar, z, HB⟩ := hcut; cases kq with
      | zero => exact absurd HA.out (by simp [norm_Check.j1])
      | succ aY =>
       have H := HA.out; clear HA; simp only [norm_Check.j1] at H; have H' := aM H; clear H
       go_wp2
       go_loopg [6, 57] aY (fun kq v6 dX w' => ∃ (O : Bool) (B : Int), v6 = .bool O ∧ dX = .int .i64 B ∧ Aside0 (norm_Check.l0 kq O F (F.length : Int) B G D E I L = some r) ∧ Aside0 (kq ≤ aY) ∧ RA (Kd.int .i64) 2 w' w (.slice ap F.length aq) F ∧ Aside0 (w'.heap[an]? = some (.cells #[.int .i64 G, (.slice Y D.length Z), (.slice aa E.length ab), .int .i64 I, .int .i64 L] 26 (0, 0))) ∧ BA w w')
       case atStart => exact ⟨(ae), (0), sI, sI, H', ⟨Nat.le_refl _⟩, rQ ar, kQ z, bT1 HB A⟩
       case round =>
        clear H'
        obtain ⟨O, B, rfl, rfl, HA, HK3, U, z, HB⟩ := hrel; cases gk with
        | zero => exact absurd HA.out (by simp [norm_Check.l0])
        | succ k3 =>
         have H := HA.out; clear HA; simp only [norm_Check.l0] at H
         by_cases ai : B < (F.length : Int)
         ·rw [if_pos ai] at H; have be := dT ai; clear ai
          by_cases aJ : 0 ≤ B
          ·rw [if_pos aJ] at H; have d0 := dT aJ; clear aJ
           by_cases aK : B < (F.length : Int)
           ·rw [if_pos aK] at H; have d1 := dT aK; clear aK
            by_cases aN : O = true
            ·subst aN
             rw [if_pos rfl] at H
             by_cases aj : (rd F B) ≥ 0
             ·rw [if_pos aj] at H; have bf := dT aj; clear aj; have H' := aM H; clear H; have P : 0 ≤ (B : Int) := oT aO; have Q : B < (F.length : Int) := oT aO; obtain ⟨aP, af, ak⟩ := Kd.at_int (rR U).2.2 B P Q; cases af; replace P := eq_true P; replace Q := eq_true Q; obtain ⟨cV, cW, cX, cY, cZ, c0, c1, c3, c4, c5⟩ := bG5 z
              go_wp2
              go_roundg k3
              case measure => have := HJ3.out; have := HJ27.out; have := HK3.out; omega
              case rel => exact ⟨(decide ((rd F B) < L)), (wrap64 (B + 1)), sI, sI, H', ⟨by have := HJ3.out; have := HJ27.out; have := HK3.out; omega⟩, rQ U, kQ z, bT1 HB A⟩
             ·rw [if_neg aj] at H; have bf := decide_eq_false aj; clear aj; have H' := aM H; clear H; have P : 0 ≤ (B : Int) := oT aO; have Q : B < (F.length : Int) := oT aO; obtain ⟨aP, af, ak⟩ := Kd.at_int (rR U).2.2 B P Q; cases af; replace P := eq_true P; replace Q := eq_true Q
              go_wp2
              go_roundg k3
              case measure => have := HJ3.out; have := HJ27.out; have := HK3.out; omega
              case rel => exact ⟨(false), (wrap64 (B + 1)), sI, sI, H', ⟨by have := HJ3.out; have := HJ27.out; have := HK3.out; omega⟩, rQ U, kQ z, bT1 HB A⟩
            ·replace aN := Bool.eq_false_iff.mpr aN; subst aN
             rw [if_neg nF] at H; have H' := aM H; clear H; have P : 0 ≤ (B : Int) := oT aO; have Q : B < (F.length : Int) := oT aO; obtain ⟨aP, af, ak⟩ := Kd.at_int (rR U).2.2 B P Q; cases af; replace P := eq_true P; replace Q := eq_true Q
             go_wp2
             go_roundg k3
             case measure => have := HJ3.out; have := HJ27.out; have := HK3.out; omega
             case rel => exact ⟨(false), (wrap64 (B + 1)), sI, sI, H', ⟨by have := HJ3.out; have := HJ27.out; have := HK3.out; omega⟩, rQ U, kQ z, bT1 HB A⟩
           ·exact nX aK H
          ·exact nX aJ H
         ·rw [if_neg ai] at H; have be := decide_eq_false ai; clear ai
          by_cases aQ : O = true
          ·subst aQ
           rw [if_pos rfl] at H; obtain rfl := Option.some.inj H
           go_wp2
           go_ret
           exact ⟨eW, bS1 HB.out A.out⟩
          ·replace aQ := Bool.eq_false_iff.mpr aQ; subst aQ
           rw [if_neg nF] at H; obtain rfl := Option.some.inj H
           go_wp2
           go_ret
           exact ⟨eW, bS1 HB.out A.out⟩
    ·rw [if_neg au] at H; obtain ⟨bc, bd⟩ := bn au
     by_cases aT : O = true
     ·subst aT
      rw [if_pos rfl] at H
      by_cases av : L = 0
      ·rw [if_pos av] at H; obtain ⟨bg, bh⟩ := bq av; clear av; obtain rfl := Option.some.inj H; obtain ⟨c6, c7, c8, c9, da, db, dc, dd, de, df⟩ := bG5 z
       go_wp2
       go_ret
       exact ⟨eW, bS1 HB.out A.out⟩
      ·rw [if_neg av] at H; obtain ⟨bg, bh⟩ := bn av; obtain rfl := Option.some.inj H; obtain ⟨dg, dh, di, dj, dk, dl, dm, dn, dp, dq⟩ := bG5 z
       go_wp2
       go_ret
       exact ⟨eW, bS1 HB.out A.out⟩
     ·replace aT := Bool.eq_false_iff.mpr aT; subst aT
      rw [if_neg nF] at H; obtain rfl := Option.some.inj H; obtain ⟨dr, ds, dt, du, dv, dw, dx, dy, dz, dA⟩ := bG5 z
      go_wp2
      go_ret
      exact ⟨eW, bS1 HB.out A.out⟩
 ·exact nX c2 H

end Go.Proofs.Ythgoonohpfoagaa.X

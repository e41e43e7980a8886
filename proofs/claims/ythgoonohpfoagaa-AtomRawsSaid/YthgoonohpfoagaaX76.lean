/- Functions of the seat, printed, and that the program's calls come to them; no condition. -/
import Derived.Test.YthgoonohpfoagaaX0
namespace Go.Proofs.Ythgoonohpfoagaa.X
open Go.RowKit Go.Proofs.YthgoonohpfoagaaW.PrintWords Go.Proofs.YthgoonohpfoagaaW.PrintLast Go.Proofs.YthgoonohpfoagaaW.PrintMore
attribute [local go_sem] max2_int min2_int max_two min_two max_three min_three max_four min_four
set_option linter.unusedVariables false
set_option linter.unusedSimpArgs false

theorem eqA67 (d : Nat) (w : World) (x0 y0 : Int) (x1 y1 : Int) (x2 y2 : Bool) (x3 y3 : Bool) (x4 y4 : Bool) :
  (Op.equalIn (d + 2) 67 (.agg #[.int .i64 x0, .int .i64 x1, .bool x2, .bool x3, .bool x4]) (.agg #[.int .i64 y0, .int .i64 y1, .bool y2, .bool y3, .bool y4])).run Try.prog w = .ok (x0 == y0 && (x1 == y1 && (x2 == y2 && (x3 == y3 && (x4 == y4))))) w := by
 refine eqA_of Try.underlying67 (by kernel_rfl) ?_; refine eqf_cons (by rfl) (by go_simp; rfl) (by go_simp; rfl) (by go_simp) ?_; refine eqf_cons (by rfl) (by go_simp; rfl) (by go_simp; rfl) (by go_simp) ?_; refine eqf_cons (by rfl) (by go_simp; rfl) (by go_simp; rfl) (by go_simp) ?_; refine eqf_cons (by rfl) (by go_simp; rfl) (by go_simp; rfl) (by go_simp) ?_; exact eqf_last (by rfl) (by go_simp; rfl) (by go_simp; rfl) (by go_simp)
set_option maxHeartbeats 8000000
set_option maxRecDepth 100000
def Fic.l0 : Nat → Int → Bool → List Int → Option (Bool × List Int)
 | 0, _, _, _ => none
 | k + 1, x3, x183000, x183001 => if x3 > 0 then (if 0 ≤ (wrap64 (x3 - 1)) then (if (wrap64 (x3 - 1)) < (x183001.length : Int) then (if (rd x183001 (wrap64 (x3 - 1))) = 0 then (Fic.l0 k (wrap64 (x3 - 1)) x183000 x183001) else (if x183000 = true then (if 0 ≤ x3 then (if x3 ≤ (x183001.length : Int) then (some (true, (x183001.take (x3 : Int).toNat))) else (none)) else (none)) else (if 0 ≤ x3 then (if x3 ≤ (x183001.length : Int) then (some (false, (x183001.take (x3 : Int).toNat))) else (none)) else (none)))) else (none)) else (none)) else (if x183000 = true then (if 0 ≤ x3 then (if x3 ≤ (x183001.length : Int) then (some (false, (x183001.take (x3 : Int).toNat))) else (none)) else (none)) else (if 0 ≤ x3 then (if x3 ≤ (x183001.length : Int) then (some (false, (x183001.take (x3 : Int).toNat))) else (none)) else (none)))
def Fic.f (k : Nat) (a0_0 : Bool) (l0_1 : List Int) : Option (Bool × List Int) := Fic.l0 k (l0_1.length : Int) a0_0 l0_1
theorem Fic.mono_l : ∀ k, (∀ y0 y1 y2, LeO (Fic.l0 k y0 y1 y2) (Fic.l0 (k + 1) y0 y1 y2))
 | 0 => fun _ _ _ r h => by simp [Fic.l0] at h
 | k + 1 => by
  have ih0 := Fic.mono_l k
  ·intro y0 y1 y2
   unfold Fic.l0
   repeat' first | (with_reducible first | exact ih0 _ _ _ | exact lA | apply lI | refine lB ?_ fun _ => ?_) | exact lN _ | apply lI | refine lB ?_ fun _ => ?_
theorem Fic.mono : ∀ a0 a1 k, LeO (Fic.f k a0 a1) (Fic.f (k + 1) a0 a1) := by
 intro a0 a1 k; have ih0 := Fic.mono_l k
 unfold Fic.f
 repeat' first | (with_reducible first | exact ih0 _ _ _ | exact lA | apply lI | refine lB ?_ fun _ => ?_) | exact lN _ | apply lI | refine lB ?_ fun _ => ?_
def Fic.T4 : Bool × List (List Nat × List Nat) := (true, [([], []), ([0], [0]), ([1], [1]), ([2], [2]), ([3, 2], [2, 3]), ([2, 4], [2, 4]), ([], []), ([6], [6]), ([], []), ([], []), ([7, 8, 9], [7, 8, 9]), ([5, 10], [5, 10]), ([11, 2, 0, 1, 2, 3, 4, 5, 6, 7, 8, 9, 10, 11], [11])])
def Fic.B4 : List Nat := [0, 1, 3, 7, 15, 31, 0, 64, 0, 0, 960, 2047, 4095]
theorem Fic.tab4 : rtab .any (opsOf Try.f77 4) = Fic.T4 := by kernel_rfl
theorem Fic.bits4 : waitsOk Fic.T4.2 Fic.B4 = true := by kernel_rfl
theorem Fic.calls (k : Nat) (ad : Bool) (P0_1_ : Nat → Prop) (J : Option Addr) (L : Nat) (C : List Int) (r1 : Bool) (r2 : List Int) (w : World) (hs0_1 : Kd.V (Kd.int .u64) 115 w w.heap.size (fun k_ => P0_1_ k_) (.slice J C.length L) C) (h : Fic.f k ad C = some (r1, r2)) :
  Calls Try.prog 77 #[.agg #[.bool ad, .slice J C.length L]] w fun e w' => ∃ ba : Value, e = .returned (.agg #[.bool r1, ba]) ∧ Kd.V (Kd.int .u64) 115 w' w.heap.size (fun k_ => (P0_1_ k_ ∨ w.heap.size ≤ k_)) ba r2 ∧ Below w.heap.size w w' := by
 have hu73 := Try.underlying73; have ae := aM (show Kd.V (Kd.int .u64) 115 w w.heap.size (fun k_ => (P0_1_ k_ ∨ w.heap.size ≤ k_)) (.slice J C.length L) C from QQ hs0_1 (fun k_ hk => .inl hk)); have HB := aM (Qg w.heap.size w); rw [Fic.f] at h; have H := h; clear h; have H' := aM H; clear H
 go_enter Try.func77, Try.ntmps77
 go_wp2_with (first | ((with_reducible refine Qa (N := 1) rfl ?_); refine be_ (cs := #[.bool ad, .slice J C.length L]) (t := 73) ?_; intro O hg w2 bf hb; replace ae := aM (QX (Qr (vO ae.out) O (Qd hg.symm)) hb); have E := aM (bf); have bC := gE hg (bP0 HB); have Q := gE hg (bP0 HB); replace HB := hS0 HB hb; clear hb bf hg) | ((with_reducible refine Qa (N := 2) rfl ?_); refine be_ (cs := #[.bool false, .slice none 0 0]) (t := 73) ?_; intro B hg w3 bf hb; replace ae := aM (QX (Qr (vO ae.out) B (Qd hg.symm)) hb); have D := aM (bf); have bD := gE hg (bP1 HB Q); have ac := gE hg (bP1 HB Q); replace HB := hS1 HB Q hb; have z := nL hg E; have I := nG hg E; replace E := kB E hb; clear hb bf hg; have b4 := z.out; have b5 := I.out; obtain ⟨bx, bz, bA, bB⟩ := bG2 E))
 go_loopg [3] k (fun kq v3 w' => ∃ (G : Int), v3 = .int .i64 G ∧ Aside0 (Fic.l0 kq G ad C = some (r1, r2)) ∧ Aside0 (kq ≤ k) ∧ Aside0 (Kd.V (Kd.int .u64) 115 w' w.heap.size (fun k_ => (P0_1_ k_ ∨ w.heap.size ≤ k_) ∧ k_ ≠ O ∧ k_ ≠ B) (.slice J C.length L) C) ∧ Aside0 (w'.heap[O]? = some (.cells #[.bool ad, (.slice J C.length L)] 73 (0, 0))) ∧ Aside0 (w'.heap[B]? = some (.cells #[.bool false, (.slice none 0 0)] 73 (0, 0))) ∧ BA w w')
 case atStart => exact ⟨((C.length : Int)), sI, H', ⟨Nat.le_refl _⟩, ⟨by (with_reducible repeat (first | apply QV | apply QU | apply QJ)); exact QQ ae.out (fun _ hk => ⟨hk.1.1, ⟨hk.1.2, hk.2⟩⟩)⟩, kQ E, kQ D, bT2 HB Q ac⟩
 case round =>
  clear H'
  obtain ⟨G, rfl, HA, b6, A, E, D, HB⟩ := hrel; cases gk with
  | zero => exact absurd HA.out (by simp [Fic.l0])
  | succ k1 =>
   have H := HA.out; clear HA; simp only [Fic.l0] at H
   apply iB H <;> clear H <;> intro c6 H
   ·have bh := dT c6; clear c6; obtain ⟨W, af⟩ : ∃ j_ : Int, (wrap64 (G - 1)) = j_ := ⟨_, rfl⟩
    first | rw [af] at H | simp only [af] at H
    have hji7w : (IntKind.i64.wrap (G - 1)) = W := (i64_w _).trans af
    apply iN H; clear H; intro c8 H; have b7 := dT c8; clear c8
    apply iN H; clear H; intro c9 H; have b8 := dT c9; clear c9
    apply iB H <;> clear H <;> intro aq H
    ·obtain ⟨a8, a9⟩ := bq aq; clear aq; have H' := aM H; clear H; have bE := z.out; have bF := I.out; obtain ⟨bi, bj, bk, bm⟩ := bG2 E; have R : 0 ≤ ((W) : Int) := oT aO; have U : (W) < (C.length : Int) := oT aO; obtain ⟨M, ak, al⟩ := Kd.at_int (QP A.out).2.2 (W) R U; cases ak; replace R := eq_true R; replace U := eq_true U
     go_wp2
     go_roundg k1
     case measure => have := b6.out; omega
     case rel => exact ⟨(W), (by first | rfl | (simp; done) | (simp only [← af] <;> (first | rfl | simp)) | (simp [*]; done)), H', ⟨by have := b6.out; omega⟩, ⟨vO A.out⟩, kQ E, kQ D, bT2 HB Q ac⟩
    ·obtain ⟨a8, a9⟩ := bn aq
     by_cases aJ : ad = true
     ·subst aJ
      rw [if_pos rfl] at H
      apply iN H; clear H; intro ar H; have bG := eq_true ar; have bH := dT ar; clear ar
      apply iN H; clear H; intro au H; have bI := eq_true au; have bJ := dT au; clear au; obtain ⟨Y, ag⟩ : ∃ y_ : List Int, y_ = (C.take (G : Int).toNat) := ⟨_, rfl⟩; first | replace H := rI ag H | rw [← ag] at H; have aK := aM ag; clear ag; obtain ⟨rfl, rfl⟩ := pE2 H; have bK := z.out; have bL := I.out; obtain ⟨bo, bp, br, bs⟩ := bG2 E; have R : 0 ≤ ((W) : Int) := oT aO; have U : (W) < (C.length : Int) := oT aO; obtain ⟨M, ak, al⟩ := Kd.at_int (QP A.out).2.2 (W) R U; cases ak; replace R := eq_true R; replace U := eq_true U
      try go_wp2
      replace A := aM (QJ A.out); replace E := kD E; replace D := kD D; replace HB := aM (below_drew1 HB.out); have a2 : (G : Int) ≤ ((C.length : Int) : Int) := oT aO; obtain ⟨i019, aL, _, hsz19, _⟩ := info_parts info115; have am : C.length ≤ L := (QP A.out).2.1; have hC19 : Kd.F (Kd.int .u64) _ _ (some M) C.length C := (Kd.V_at (base := w.heap.size) A.out).2.2; have hcut19 := cut_to3 (P := Try.prog) 71 115 .i64 .i64 Try.underlying71 aL (some M) C.length L G (oT aO) a2 am; have aB := Kd.F_take (m := (G : Int).toNat) hC19 (by omega); have aC : Y.length = (G : Int).toNat := (by rw [aK.out, List.length_take]; omega); rw [← aK.out] at aB; rw [← aC] at hcut19; have aN := aM (show Kd.V (Kd.int .u64) 115 _ w.heap.size _ (.slice (some M) Y.length Y.length) Y from Wp (by omega) aB); have bM := aM (show Y.length ≤ Y.length from by omega); clear aB hC19 am aL hsz19; have KY19 := aM aC; clear aC; replace a2 := eq_true a2; refine start_ (n := 13) (S := fun w' => w'.cell? ⟨O, 0, none⟩ = some (.bool true) ∧ w'.cell? ⟨O, 1, none⟩ = some (.slice (some M) C.length L)) (ds := []) (bl 13 0) (by kernel_rfl) rfl rfl (bD2 E) (fun a6 => ?_); refine with_tabW Fic.tab4 Fic.bits4 (fun aZ a7 => ?_); generalize wr.drew = bb at A E D HB aN a6 ⊢; refine pu_ 0 20 (bl 13 1) aZ ?_; refine pu_ 6 26 (bl 13 65) aZ ?_; refine pu_ 8 28 (bl 13 321) aZ ?_; refine pu_ 9 29 (bl 13 833) aZ ?_; refine tk2_ 1 21 (bl 13 835) aZ a7 a6 ?_; refine pu_ 2 22 (bl 13 839) aZ ?_; refine pu_ 3 23 (bl 13 847) aZ ?_; refine pu_ 4 24 (bl 13 863) aZ ?_; refine pu_ 5 25 (bl 13 895) aZ ?_; refine tk2_ 7 27 (bl 13 1023) aZ a7 a6 ?_; refine pu_ 10 30 (bl 13 2047) aZ ?_; refine pu_ 11 31 (bl 13 4095) aZ ?_; refine one_ (i := 12) (N := none) (bl 13 8191) rfl rfl (one_of aZ.out (by kernel_rfl)) (by decide) (fun K hK => ?_); have hs20 : bb.cell? ⟨B, 0, none⟩ = some (.bool false) := (QW D.out 0).trans rfl; have hfs20 := Qt D.out 0; have hns20_0 := z.out; have hms20_0 := I.out; have hs21 : bb.cell? ⟨B, 1, none⟩ = some (.slice none 0 0) := (QW D.out 1).trans rfl; have hfs21 := Qt D.out 1; have hns21_0 := z.out; have hms21_0 := I.out; refine skip_ (w1 := ?_) (by rfl) rfl ?_ ?_; rotate_left
      ·go_simp
       rfl
      refine hK.out _ _ ⟨((QK (p := ⟨B, _, none⟩) z.out _).trans (((QK (p := ⟨B, _, none⟩) z.out _).trans (a6.1)))), ((QK (p := ⟨B, _, none⟩) z.out _).trans (((QK (p := ⟨B, _, none⟩) z.out _).trans (a6.2))))⟩ (fun a6 => ?_); clear hK K; refine done_ (done_of aZ.out (by kernel_rfl)) ?_
      try go_wp2
      refine bodyPost_ret (results_cell_row rfl _ _ B 73 #[.bool true, .slice (some M) Y.length (Y.length)] (0, 0) _ rfl (by (with_reducible repeat (first | refine Qj ?_ _ | refine Qu ?_ | refine Qz ?_ _)); exact Qy (Qy D.out 0 _ rfl) 1 _ rfl) Try.underlying73 rfl (by kernel_rfl)) rfl ?_; exact ⟨_, by first | rfl | (simp [errW_none, errW_some] <;> rfl) | (simp only [← af]; first | rfl | (simp [errW_none, errW_some] <;> rfl)) | (simp [*, errW_none, errW_some] <;> rfl), by (with_reducible repeat (first | apply QV | apply QU | apply QJ)); exact QQ (QY (p := ⟨B, 1, none⟩) (QY (p := ⟨B, 0, none⟩) (QQ aN.out (fun k_ hk => (⟨hk, hk.2.2⟩ : _ ∧ k_ ≠ B))) (fun _ hk => hk.2) (.bool true)) (fun _ hk => hk.2) (.slice (some M) Y.length (Y.length))) (fun _ hk => hk.1.1), bS2 HB.out Q.out ac.out⟩
     ·replace aJ := Qc aJ; subst aJ
      rw [if_neg nF] at H
      apply iN H; clear H; intro av H; have bN := eq_true av; have bO := dT av; clear av
      apply iN H; clear H; intro aw H; have bP := eq_true aw; have bQ := dT aw; clear aw; obtain ⟨Z, ah⟩ : ∃ y_ : List Int, y_ = (C.take (G : Int).toNat) := ⟨_, rfl⟩; first | replace H := rI ah H | rw [← ah] at H; have aP := aM ah; clear ah; obtain ⟨rfl, rfl⟩ := pE2 H; have bR := z.out; have bS := I.out; obtain ⟨bt, bu, bv, bw⟩ := bG2 E; have R : 0 ≤ ((W) : Int) := oT aO; have U : (W) < (C.length : Int) := oT aO; obtain ⟨M, ak, al⟩ := Kd.at_int (QP A.out).2.2 (W) R U; cases ak; replace R := eq_true R; replace U := eq_true U
      try go_wp2
      replace A := aM (QJ A.out); replace E := kD E; replace D := kD D; replace HB := aM (below_drew1 HB.out); have a3 : (G : Int) ≤ ((C.length : Int) : Int) := oT aO; obtain ⟨i027, aQ, _, hsz27, _⟩ := info_parts info115; have an : C.length ≤ L := (QP A.out).2.1; have hC27 : Kd.F (Kd.int .u64) _ _ (some M) C.length C := (Kd.V_at (base := w.heap.size) A.out).2.2; have hcut27 := cut_to3 (P := Try.prog) 71 115 .i64 .i64 Try.underlying71 aQ (some M) C.length L G (oT aO) a3 an; have aD := Kd.F_take (m := (G : Int).toNat) hC27 (by omega); have aE : Z.length = (G : Int).toNat := (by rw [aP.out, List.length_take]; omega); rw [← aP.out] at aD; rw [← aE] at hcut27; have aR := aM (show Kd.V (Kd.int .u64) 115 _ w.heap.size _ (.slice (some M) Z.length Z.length) Z from Wp (by omega) aD); have bT := aM (show Z.length ≤ Z.length from by omega); clear aD hC27 an aQ hsz27; have KY27 := aM aE; clear aE; replace a3 := eq_true a3; refine start_ (n := 13) (S := fun w' => w'.cell? ⟨O, 0, none⟩ = some (.bool false) ∧ w'.cell? ⟨O, 1, none⟩ = some (.slice (some M) C.length L)) (ds := []) (bl 13 0) (by kernel_rfl) rfl rfl (bD2 E) (fun a6 => ?_); refine with_tabW Fic.tab4 Fic.bits4 (fun aZ a7 => ?_); generalize wr.drew = bc at A E D HB aR a6 ⊢; refine pu_ 0 20 (bl 13 1) aZ ?_; refine pu_ 6 26 (bl 13 65) aZ ?_; refine pu_ 8 28 (bl 13 321) aZ ?_; refine pu_ 9 29 (bl 13 833) aZ ?_; refine tk2_ 1 21 (bl 13 835) aZ a7 a6 ?_; refine pu_ 2 22 (bl 13 839) aZ ?_; refine pn_ 3 23 (bl 13 847) aZ ?_; refine pn_ 4 24 (bl 13 863) aZ ?_; refine pu_ 5 25 (bl 13 895) aZ ?_; refine tk2_ 7 27 (bl 13 1023) aZ a7 a6 ?_; refine pu_ 10 30 (bl 13 2047) aZ ?_; refine pu_ 11 31 (bl 13 4095) aZ ?_; refine one_ (i := 12) (N := none) (bl 13 8191) rfl rfl (one_of aZ.out (by kernel_rfl)) (by decide) (fun K hK => ?_); have hs28 : bc.cell? ⟨B, 0, none⟩ = some (.bool false) := (QW D.out 0).trans rfl; have hfs28 := Qt D.out 0; have hns28_0 := z.out; have hms28_0 := I.out; have hs29 : bc.cell? ⟨B, 1, none⟩ = some (.slice none 0 0) := (QW D.out 1).trans rfl; have hfs29 := Qt D.out 1; have hns29_0 := z.out; have hms29_0 := I.out; refine skip_ (w1 := ?_) (by rfl) rfl ?_ ?_; rotate_left
      ·go_simp
       rfl
      refine hK.out _ _ ⟨((QK (p := ⟨B, _, none⟩) z.out _).trans (((QK (p := ⟨B, _, none⟩) z.out _).trans (a6.1)))), ((QK (p := ⟨B, _, none⟩) z.out _).trans (((QK (p := ⟨B, _, none⟩) z.out _).trans (a6.2))))⟩ (fun a6 => ?_); clear hK K; refine done_ (done_of aZ.out (by kernel_rfl)) ?_
      try go_wp2
      refine bodyPost_ret (results_cell_row rfl _ _ B 73 #[.bool false, .slice (some M) Z.length (Z.length)] (0, 0) _ rfl (by (with_reducible repeat (first | refine Qj ?_ _ | refine Qu ?_ | refine Qz ?_ _)); exact Qy (Qy D.out 0 _ rfl) 1 _ rfl) Try.underlying73 rfl (by kernel_rfl)) rfl ?_; exact ⟨_, by first | rfl | (simp [errW_none, errW_some] <;> rfl) | (simp only [← af]; first | rfl | (simp [errW_none, errW_some] <;> rfl)) | (simp [*, errW_none, errW_some] <;> rfl), by (with_reducible repeat (first | apply QV | apply QU | apply QJ)); exact QQ (QY (p := ⟨B, 1, none⟩) (QY (p := ⟨B, 0, none⟩) (QQ aR.out (fun k_ hk => (⟨hk, hk.2.2⟩ : _ ∧ k_ ≠ B))) (fun _ hk => hk.2) (.bool false)) (fun _ hk => hk.2) (.slice (some M) Z.length (Z.length))) (fun _ hk => hk.1.1), bS2 HB.out Q.out ac.out⟩
   ·have bh := decide_eq_false c6; clear c6
    by_cases aS : ad = true
    ·subst aS
     rw [if_pos rfl] at H
     apply iN H; clear H; intro ax H; have bU := eq_true ax; have bV := dT ax; clear ax
     apply iN H; clear H; intro ay H; have bW := eq_true ay; have bX := dT ay; clear ay; obtain ⟨aa, ai⟩ : ∃ y_ : List Int, y_ = (C.take (G : Int).toNat) := ⟨_, rfl⟩; first | replace H := rI ai H | rw [← ai] at H; have aT := aM ai; clear ai; obtain ⟨rfl, rfl⟩ := pE2 H
     try go_wp2
     replace A := aM (QJ A.out); replace E := kD E; replace D := kD D; replace HB := aM (below_drew1 HB.out); have a4 : (G : Int) ≤ ((C.length : Int) : Int) := oT aO; obtain ⟨i034, aU, _, hsz34, _⟩ := info_parts info115; have ao : C.length ≤ L := (QP A.out).2.1; have hC34 : Kd.F (Kd.int .u64) _ _ J C.length C := (Kd.V_at (base := w.heap.size) A.out).2.2; have hcut34 := cut_to3 (P := Try.prog) 71 115 .i64 .i64 Try.underlying71 aU J C.length L G (oT aO) a4 ao; have aF := Kd.F_take (m := (G : Int).toNat) hC34 (by omega); have aG : aa.length = (G : Int).toNat := (by rw [aT.out, List.length_take]; omega); rw [← aT.out] at aF; rw [← aG] at hcut34; have aV := aM (show Kd.V (Kd.int .u64) 115 _ w.heap.size _ (.slice J aa.length aa.length) aa from Wp (by omega) aF); have bY := aM (show aa.length ≤ aa.length from by omega); clear aF hC34 ao aU hsz34; have KY34 := aM aG; clear aG; replace a4 := eq_true a4; refine start_ (n := 13) (S := fun w' => w'.cell? ⟨O, 0, none⟩ = some (.bool true) ∧ w'.cell? ⟨O, 1, none⟩ = some (.slice J C.length L)) (ds := []) (bl 13 0) (by kernel_rfl) rfl rfl (bD2 E) (fun a6 => ?_); refine with_tabW Fic.tab4 Fic.bits4 (fun aZ a7 => ?_); generalize wr.drew = bd at A E D HB aV a6 ⊢; refine pu_ 0 20 (bl 13 1) aZ ?_; refine pu_ 6 26 (bl 13 65) aZ ?_; refine pu_ 8 28 (bl 13 321) aZ ?_; refine pu_ 9 29 (bl 13 833) aZ ?_; refine tk2_ 1 21 (bl 13 835) aZ a7 a6 ?_; refine pu_ 2 22 (bl 13 839) aZ ?_; refine pu_ 3 23 (bl 13 847) aZ ?_; refine pu_ 4 24 (bl 13 863) aZ ?_; refine pu_ 5 25 (bl 13 895) aZ ?_; refine tk2_ 7 27 (bl 13 1023) aZ a7 a6 ?_; refine pu_ 10 30 (bl 13 2047) aZ ?_; refine pu_ 11 31 (bl 13 4095) aZ ?_; refine one_ (i := 12) (N := none) (bl 13 8191) rfl rfl (one_of aZ.out (by kernel_rfl)) (by decide) (fun K hK => ?_); have hs35 : bd.cell? ⟨B, 0, none⟩ = some (.bool false) := (QW D.out 0).trans rfl; have hfs35 := Qt D.out 0; have hns35_0 := z.out; have hms35_0 := I.out; have hs36 : bd.cell? ⟨B, 1, none⟩ = some (.slice none 0 0) := (QW D.out 1).trans rfl; have hfs36 := Qt D.out 1; have hns36_0 := z.out; have hms36_0 := I.out; refine skip_ (w1 := ?_) (by rfl) rfl ?_ ?_; rotate_left
     ·go_simp
      rfl
     refine hK.out _ _ ⟨((QK (p := ⟨B, _, none⟩) z.out _).trans (((QK (p := ⟨B, _, none⟩) z.out _).trans (a6.1)))), ((QK (p := ⟨B, _, none⟩) z.out _).trans (((QK (p := ⟨B, _, none⟩) z.out _).trans (a6.2))))⟩ (fun a6 => ?_); clear hK K; refine done_ (done_of aZ.out (by kernel_rfl)) ?_
     try go_wp2
     refine bodyPost_ret (results_cell_row rfl _ _ B 73 #[.bool false, .slice J aa.length (aa.length)] (0, 0) _ rfl (by (with_reducible repeat (first | refine Qj ?_ _ | refine Qu ?_ | refine Qz ?_ _)); exact Qy (Qy D.out 0 _ rfl) 1 _ rfl) Try.underlying73 rfl (by kernel_rfl)) rfl ?_; exact ⟨_, eW, by (with_reducible repeat (first | apply QV | apply QU | apply QJ)); exact QQ (QY (p := ⟨B, 1, none⟩) (QY (p := ⟨B, 0, none⟩) (QQ aV.out (fun k_ hk => (⟨hk, hk.2.2⟩ : _ ∧ k_ ≠ B))) (fun _ hk => hk.2) (.bool false)) (fun _ hk => hk.2) (.slice J aa.length (aa.length))) (fun _ hk => hk.1.1), bS2 HB.out Q.out ac.out⟩
    ·replace aS := Qc aS; subst aS
     rw [if_neg nF] at H
     apply iN H; clear H; intro az H; have bZ := eq_true az; have b0 := dT az; clear az
     apply iN H; clear H; intro aA H; have b1 := eq_true aA; have b2 := dT aA; clear aA; obtain ⟨ab, aj⟩ : ∃ y_ : List Int, y_ = (C.take (G : Int).toNat) := ⟨_, rfl⟩; first | replace H := rI aj H | rw [← aj] at H; have aW := aM aj; clear aj; obtain ⟨rfl, rfl⟩ := pE2 H
     try go_wp2
     replace A := aM (QJ A.out); replace E := kD E; replace D := kD D; replace HB := aM (below_drew1 HB.out); have a5 : (G : Int) ≤ ((C.length : Int) : Int) := oT aO; obtain ⟨i040, aX, _, hsz40, _⟩ := info_parts info115; have ap : C.length ≤ L := (QP A.out).2.1; have hC40 : Kd.F (Kd.int .u64) _ _ J C.length C := (Kd.V_at (base := w.heap.size) A.out).2.2; have hcut40 := cut_to3 (P := Try.prog) 71 115 .i64 .i64 Try.underlying71 aX J C.length L G (oT aO) a5 ap; have aH := Kd.F_take (m := (G : Int).toNat) hC40 (by omega); have aI : ab.length = (G : Int).toNat := (by rw [aW.out, List.length_take]; omega); rw [← aW.out] at aH; rw [← aI] at hcut40; have aY := aM (show Kd.V (Kd.int .u64) 115 _ w.heap.size _ (.slice J ab.length ab.length) ab from Wp (by omega) aH); have b3 := aM (show ab.length ≤ ab.length from by omega); clear aH hC40 ap aX hsz40; have KY40 := aM aI; clear aI; replace a5 := eq_true a5; refine start_ (n := 13) (S := fun w' => w'.cell? ⟨O, 0, none⟩ = some (.bool false) ∧ w'.cell? ⟨O, 1, none⟩ = some (.slice J C.length L)) (ds := []) (bl 13 0) (by kernel_rfl) rfl rfl (bD2 E) (fun a6 => ?_); refine with_tabW Fic.tab4 Fic.bits4 (fun aZ a7 => ?_); generalize wr.drew = be at A E D HB aY a6 ⊢; refine pu_ 0 20 (bl 13 1) aZ ?_; refine pu_ 6 26 (bl 13 65) aZ ?_; refine pu_ 8 28 (bl 13 321) aZ ?_; refine pu_ 9 29 (bl 13 833) aZ ?_; refine tk2_ 1 21 (bl 13 835) aZ a7 a6 ?_; refine pu_ 2 22 (bl 13 839) aZ ?_; refine pn_ 3 23 (bl 13 847) aZ ?_; refine pn_ 4 24 (bl 13 863) aZ ?_; refine pu_ 5 25 (bl 13 895) aZ ?_; refine tk2_ 7 27 (bl 13 1023) aZ a7 a6 ?_; refine pu_ 10 30 (bl 13 2047) aZ ?_; refine pu_ 11 31 (bl 13 4095) aZ ?_; refine one_ (i := 12) (N := none) (bl 13 8191) rfl rfl (one_of aZ.out (by kernel_rfl)) (by decide) (fun K hK => ?_); have hs41 : be.cell? ⟨B, 0, none⟩ = some (.bool false) := (QW D.out 0).trans rfl; have hfs41 := Qt D.out 0; have hns41_0 := z.out; have hms41_0 := I.out; have hs42 : be.cell? ⟨B, 1, none⟩ = some (.slice none 0 0) := (QW D.out 1).trans rfl; have hfs42 := Qt D.out 1; have hns42_0 := z.out; have hms42_0 := I.out; refine skip_ (w1 := ?_) (by rfl) rfl ?_ ?_; rotate_left
     ·go_simp
      rfl
     refine hK.out _ _ ⟨((QK (p := ⟨B, _, none⟩) z.out _).trans (((QK (p := ⟨B, _, none⟩) z.out _).trans (a6.1)))), ((QK (p := ⟨B, _, none⟩) z.out _).trans (((QK (p := ⟨B, _, none⟩) z.out _).trans (a6.2))))⟩ (fun a6 => ?_); clear hK K; refine done_ (done_of aZ.out (by kernel_rfl)) ?_
     try go_wp2
     refine bodyPost_ret (results_cell_row rfl _ _ B 73 #[.bool false, .slice J ab.length (ab.length)] (0, 0) _ rfl (by (with_reducible repeat (first | refine Qj ?_ _ | refine Qu ?_ | refine Qz ?_ _)); exact Qy (Qy D.out 0 _ rfl) 1 _ rfl) Try.underlying73 rfl (by kernel_rfl)) rfl ?_; exact ⟨_, eW, by (with_reducible repeat (first | apply QV | apply QU | apply QJ)); exact QQ (QY (p := ⟨B, 1, none⟩) (QY (p := ⟨B, 0, none⟩) (QQ aY.out (fun k_ hk => (⟨hk, hk.2.2⟩ : _ ∧ k_ ≠ B))) (fun _ hk => hk.2) (.bool false)) (fun _ hk => hk.2) (.slice J ab.length (ab.length))) (fun _ hk => hk.1.1), bS2 HB.out Q.out ac.out⟩
def Fh.f (k : Nat) (a0 : Int) : Option (Bool × List Int) := if a0 < 0 then ((Fic.f k true (([Go.bits .and .u64 (IntKind.u64.wrap (-(IntKind.u64.wrap (a0)))) 65535, Go.bits .and .u64 ((IntKind.u64.wrap (-(IntKind.u64.wrap (a0)))) / 65536) 65535, Go.bits .and .u64 ((IntKind.u64.wrap (-(IntKind.u64.wrap (a0)))) / 4294967296) 65535, (IntKind.u64.wrap (-(IntKind.u64.wrap (a0)))) / 281474976710656] : List Int))).bind fun bt209 => (some (bt209.1, bt209.2))) else ((Fic.f k false (([Go.bits .and .u64 (IntKind.u64.wrap (a0)) 65535, Go.bits .and .u64 ((IntKind.u64.wrap (a0)) / 65536) 65535, Go.bits .and .u64 ((IntKind.u64.wrap (a0)) / 4294967296) 65535, (IntKind.u64.wrap (a0)) / 281474976710656] : List Int))).bind fun bt216 => (some (bt216.1, bt216.2)))
theorem Fh.mono : ∀ a0 k, LeO (Fh.f k a0) (Fh.f (k + 1) a0) := by
 intro a0 k
 unfold Fh.f
 repeat' first | (with_reducible first | exact Fic.mono _ _ _ | exact lA | apply lI | refine lB ?_ fun _ => ?_) | exact lN _ | apply lI | refine lB ?_ fun _ => ?_
theorem Fh.calls (k : Nat) (A : Int) (r1 : Bool) (r2 : List Int) (w : World) (h : Fh.f k A = some (r1, r2)) :
  Calls Try.prog 53 #[.int .i64 A] w fun e w' => ∃ ao : Value, e = .returned (.agg #[.bool r1, ao]) ∧ Kd.V (Kd.int .u64) 115 w' w.heap.size (fun k_ => (w.heap.size ≤ k_)) ao r2 ∧ Below w.heap.size w w' := by
 have hu73 := Try.underlying73; have HB := aM (Qg w.heap.size w); rw [Fh.f] at h; have H := h; clear h
 apply iB H <;> clear H <;> intro c2 H
 ·have au := dT c2; clear c2; obtain ⟨U, G⟩ : ∃ y_ : List Int, y_ = (([Go.bits .and .u64 (IntKind.u64.wrap (-(IntKind.u64.wrap (A)))) 65535, Go.bits .and .u64 ((IntKind.u64.wrap (-(IntKind.u64.wrap (A)))) / 65536) 65535, Go.bits .and .u64 ((IntKind.u64.wrap (-(IntKind.u64.wrap (A)))) / 4294967296) 65535, (IntKind.u64.wrap (-(IntKind.u64.wrap (A)))) / 281474976710656] : List Int)) := ⟨_, rfl⟩; first | replace H := rI G H | rw [← G] at H; have al := aM G; clear G; replace H := QZ H; obtain ⟨⟨J, L⟩, ap, H⟩ := H; replace H : (some (J, L)) = some (r1, r2) := H; have A3 := aM ap; clear ap; obtain ⟨rfl, rfl⟩ := pE2 H
  go_enter Try.func53, Try.ntmps53
  go_wp2_with (first | ((with_reducible refine Qa (N := 2) rfl ?_); refine be_ (cs := #[.bool false, .slice none 0 0]) (t := 73) ?_; intro D hg w4 aw hb; have z := aM (aw); have am := gE hg (bP0 HB); have B := gE hg (bP0 HB); replace HB := hS0 HB hb; clear hb aw hg) | ((with_reducible refine Qa (N := 22) rfl ?_); refine Wx (Kd.int .u64) _ 115 ?hg (N := 22) ?hd (xs := ([Go.bits .and .u64 (IntKind.u64.wrap (-(IntKind.u64.wrap (A)))) 65535, Go.bits .and .u64 ((IntKind.u64.wrap (-(IntKind.u64.wrap (A)))) / 65536) 65535, Go.bits .and .u64 ((IntKind.u64.wrap (-(IntKind.u64.wrap (A)))) / 4294967296) 65535, (IntKind.u64.wrap (-(IntKind.u64.wrap (A)))) / 281474976710656] : List Int)) (inner := [.int .u64 (Go.bits .and .u64 (IntKind.u64.wrap (-(IntKind.u64.wrap (A)))) 65535), .int .u64 (Go.bits .and .u64 ((IntKind.u64.wrap (-(IntKind.u64.wrap (A)))) / 65536) 65535), .int .u64 (Go.bits .and .u64 ((IntKind.u64.wrap (-(IntKind.u64.wrap (A)))) / 4294967296) 65535), .int .u64 ((IntKind.u64.wrap (-(IntKind.u64.wrap (A)))) / 281474976710656)]) (ok := fun _ => True) (okp := fun _ => True) ?hr ?hp (fun _ hk => hk) trivial (Qg _ _) (Nat.le_refl _) (by simp) ?_; (case hd => rfl); (case hg => rfl); (case hr => first | (go_simp; done) | (go_simp; rfl)); (case hp => exact (Reps.one (show Kd.M (Kd.int .u64) _ _ _ (Go.bits .and .u64 (IntKind.u64.wrap (-(IntKind.u64.wrap (A)))) 65535) [.int .u64 (Go.bits .and .u64 (IntKind.u64.wrap (-(IntKind.u64.wrap (A)))) 65535)] from rfl) (Reps.one (show Kd.M (Kd.int .u64) _ _ _ (Go.bits .and .u64 ((IntKind.u64.wrap (-(IntKind.u64.wrap (A)))) / 65536) 65535) [.int .u64 (Go.bits .and .u64 ((IntKind.u64.wrap (-(IntKind.u64.wrap (A)))) / 65536) 65535)] from rfl) (Reps.one (show Kd.M (Kd.int .u64) _ _ _ (Go.bits .and .u64 ((IntKind.u64.wrap (-(IntKind.u64.wrap (A)))) / 4294967296) 65535) [.int .u64 (Go.bits .and .u64 ((IntKind.u64.wrap (-(IntKind.u64.wrap (A)))) / 4294967296) 65535)] from rfl) (Reps.one (show Kd.M (Kd.int .u64) _ _ _ ((IntKind.u64.wrap (-(IntKind.u64.wrap (A)))) / 281474976710656) [.int .u64 ((IntKind.u64.wrap (-(IntKind.u64.wrap (A)))) / 281474976710656)] from rfl) (Reps.none _ _)))))); intro aJ w5 Y hb aI aC; clear aI aC; replace Y := nW al Y; have E := rW (Wn (M := fun k_ => (w.heap.size ≤ k_)) Y (Qv (bP1 HB B)) (fun k_ h_ => h_)) (bP1 HB B); replace z := kB z hb; replace HB := hS1 HB B hb; clear hb Y; obtain ⟨aq, ar, rfl⟩ := sL E) | ((with_reducible refine Qb (f := 77) rfl ?_); refine gL_ (some 24) Try.func77 #[.agg #[.bool true, .slice aq U.length ar]] ?_; (with_reducible refine (Fic.calls k true (fun k_ => some k_ = (.slice aq U.length ar : Value).ownBlock) _ _ U J L _ ?s1 A3.out).mono ?_); (case s1 => exact Kd.R_V (Kd.R_tight rfl (Qe (E.out) z.out (by decide)))); rintro e w8 ⟨aK, rfl, R, hb⟩; refine ⟨_, rfl, ?_⟩; have Z := aM (Qp (QQ (ok' := fun k_ => (w.heap.size ≤ k_) ∧ k_ ≠ D) R (fun k_ hk_ => ⟨Or.elim hk_ (fun hs_ => ((Qe (E.out) z.out (by decide)).1 k_ hs_.symm).1.1) (fun hn_ => (Nat.le_trans (Qv (bP1 HB B)) hn_)), Or.elim hk_ (fun hs_ => ((Qe (E.out) z.out (by decide)).1 k_ hs_.symm).2) (fun hn_ => (Qq (g := D) (o := .cells #[.bool false, .slice none 0 0] 73 (0, 0)) (kO z.out) k_ hn_))⟩)) (Qv (bP1 HB B))); replace E := rB E hb; replace z := kB z hb; replace HB := hS1 HB B hb; (try clear hb); (try clear hk); (try clear R); obtain ⟨aD, aE, aF, aG⟩ := bG2 z; obtain ⟨ac, ad, av⟩ := Qh Z.out; subst av))
  refine bodyPost_ret (results_cell_row rfl _ _ D 73 #[.bool J, .slice ac L.length ad] (0, 0) _ rfl (by (with_reducible repeat (first | refine Qj ?_ _ | refine Qu ?_ | refine Qz ?_ _)); exact Qy (Qy z.out 0 _ rfl) 1 _ rfl) Try.underlying73 rfl (by kernel_rfl)) rfl ?_; exact ⟨_, eW, by (with_reducible repeat (first | apply QV | apply QU | apply QJ)); exact QQ (QY (p := ⟨D, 1, none⟩) (QY (p := ⟨D, 0, none⟩) (QQ Z.out (fun k_ hk => (⟨hk, hk.2⟩ : _ ∧ k_ ≠ D))) (fun _ hk => hk.2) (.bool J)) (fun _ hk => hk.2) (.slice ac L.length ad)) (fun _ hk => hk.1.1), bS1 HB.out B.out⟩
 ·have au := decide_eq_false c2; clear c2; obtain ⟨W, I⟩ : ∃ y_ : List Int, y_ = (([Go.bits .and .u64 (IntKind.u64.wrap (A)) 65535, Go.bits .and .u64 ((IntKind.u64.wrap (A)) / 65536) 65535, Go.bits .and .u64 ((IntKind.u64.wrap (A)) / 4294967296) 65535, (IntKind.u64.wrap (A)) / 281474976710656] : List Int)) := ⟨_, rfl⟩; first | replace H := rI I H | rw [← I] at H; have an := aM I; clear I; replace H := QZ H; obtain ⟨⟨O, P⟩, ae, H⟩ := H; replace H : (some (O, P)) = some (r1, r2) := H; have aH := aM ae; clear ae; obtain ⟨rfl, rfl⟩ := pE2 H
  go_enter Try.func53, Try.ntmps53
  go_wp2_with (first | ((with_reducible refine Qa (N := 2) rfl ?_); refine be_ (cs := #[.bool false, .slice none 0 0]) (t := 73) ?_; intro D hg aP aw hb; have z := aM (aw); have am := gE hg (bP0 HB); have B := gE hg (bP0 HB); replace HB := hS0 HB hb; clear hb aw hg) | ((with_reducible refine Qa (N := 22) rfl ?_); refine Wx (Kd.int .u64) _ 115 ?hg (N := 22) ?hd (xs := ([Go.bits .and .u64 (IntKind.u64.wrap (A)) 65535, Go.bits .and .u64 ((IntKind.u64.wrap (A)) / 65536) 65535, Go.bits .and .u64 ((IntKind.u64.wrap (A)) / 4294967296) 65535, (IntKind.u64.wrap (A)) / 281474976710656] : List Int)) (inner := [.int .u64 (Go.bits .and .u64 (IntKind.u64.wrap (A)) 65535), .int .u64 (Go.bits .and .u64 ((IntKind.u64.wrap (A)) / 65536) 65535), .int .u64 (Go.bits .and .u64 ((IntKind.u64.wrap (A)) / 4294967296) 65535), .int .u64 ((IntKind.u64.wrap (A)) / 281474976710656)]) (ok := fun _ => True) (okp := fun _ => True) ?hr ?hp (fun _ hk => hk) trivial (Qg _ _) (Nat.le_refl _) (by simp) ?_; (case hd => rfl); (case hg => rfl); (case hr => first | (go_simp; done) | (go_simp; rfl)); (case hp => exact (Reps.one (show Kd.M (Kd.int .u64) _ _ _ (Go.bits .and .u64 (IntKind.u64.wrap (A)) 65535) [.int .u64 (Go.bits .and .u64 (IntKind.u64.wrap (A)) 65535)] from rfl) (Reps.one (show Kd.M (Kd.int .u64) _ _ _ (Go.bits .and .u64 ((IntKind.u64.wrap (A)) / 65536) 65535) [.int .u64 (Go.bits .and .u64 ((IntKind.u64.wrap (A)) / 65536) 65535)] from rfl) (Reps.one (show Kd.M (Kd.int .u64) _ _ _ (Go.bits .and .u64 ((IntKind.u64.wrap (A)) / 4294967296) 65535) [.int .u64 (Go.bits .and .u64 ((IntKind.u64.wrap (A)) / 4294967296) 65535)] from rfl) (Reps.one (show Kd.M (Kd.int .u64) _ _ _ ((IntKind.u64.wrap (A)) / 281474976710656) [.int .u64 ((IntKind.u64.wrap (A)) / 281474976710656)] from rfl) (Reps.none _ _)))))); intro aL aQ Q hb aI aC; clear aI aC; replace Q := nW an Q; have F := rW (Wn (M := fun k_ => (w.heap.size ≤ k_)) Q (Qv (bP1 HB B)) (fun k_ h_ => h_)) (bP1 HB B); replace z := kB z hb; replace HB := hS1 HB B hb; clear hb Q; obtain ⟨af, ag, rfl⟩ := sL F) | ((with_reducible refine Qb (f := 77) rfl ?_); refine gL_ (some 24) Try.func77 #[.agg #[.bool false, .slice af W.length ag]] ?_; (with_reducible refine (Fic.calls k false (fun k_ => some k_ = (.slice af W.length ag : Value).ownBlock) _ _ W O P _ ?s1 aH.out).mono ?_); (case s1 => exact Kd.R_V (Kd.R_tight rfl (Qe (F.out) z.out (by decide)))); rintro e aR ⟨aN, rfl, R, hb⟩; refine ⟨_, rfl, ?_⟩; have aa := aM (Qp (QQ (ok' := fun k_ => (w.heap.size ≤ k_) ∧ k_ ≠ D) R (fun k_ hk_ => ⟨Or.elim hk_ (fun hs_ => ((Qe (F.out) z.out (by decide)).1 k_ hs_.symm).1.1) (fun hn_ => (Nat.le_trans (Qv (bP1 HB B)) hn_)), Or.elim hk_ (fun hs_ => ((Qe (F.out) z.out (by decide)).1 k_ hs_.symm).2) (fun hn_ => (Qq (g := D) (o := .cells #[.bool false, .slice none 0 0] 73 (0, 0)) (kO z.out) k_ hn_))⟩)) (Qv (bP1 HB B))); replace F := rB F hb; replace z := kB z hb; replace HB := hS1 HB B hb; (try clear hb); (try clear hk); (try clear R); obtain ⟨ay, az, aA, aB⟩ := bG2 z; obtain ⟨ah, ai, ax⟩ := Qh aa.out; subst ax))
  refine bodyPost_ret (results_cell_row rfl _ _ D 73 #[.bool O, .slice ah P.length ai] (0, 0) _ rfl (by (with_reducible repeat (first | refine Qj ?_ _ | refine Qu ?_ | refine Qz ?_ _)); exact Qy (Qy z.out 0 _ rfl) 1 _ rfl) Try.underlying73 rfl (by kernel_rfl)) rfl ?_; exact ⟨_, eW, by (with_reducible repeat (first | apply QV | apply QU | apply QJ)); exact QQ (QY (p := ⟨D, 1, none⟩) (QY (p := ⟨D, 0, none⟩) (QQ aa.out (fun k_ hk => (⟨hk, hk.2⟩ : _ ∧ k_ ≠ D))) (fun _ hk => hk.2) (.bool O)) (fun _ hk => hk.2) (.slice ah P.length ai)) (fun _ hk => hk.1.1), bS1 HB.out B.out⟩
def Fib.f (a0_0 : Bool) (l0_1 : List Int) (a1 : Int) : Option (Int) := if a1 < (l0_1.length : Int) then (if 0 ≤ a1 then (some (rd l0_1 a1)) else (none)) else (some 0)
theorem Fib.calls (B : Bool) (D : Option Addr) (E : Nat) (z : List Int) (I : Int) (r : Int) (w : World) (O : Kd.C (Kd.int .u64) w D z.length z) (P : z.length ≤ E) (h : Fib.f B z I = some r) :
  Calls Try.prog 98 #[.agg #[.bool B, .slice D z.length E], .int .i64 I] w fun e w' => e = .returned (.int .u64 r) ∧ Below w.heap.size w w' := by
 have hu73 := Try.underlying73; have R := aM O; have aj := aM P; clear O P; have HB := aM (Qg w.heap.size w); rw [Fib.f] at h; have H := h; clear h
 apply iB H <;> clear H <;> intro Q H
 ·have Z := dT Q; clear Q
  apply iN H; clear H; intro U H; have al := dT U; clear U; obtain rfl := Qx H
  go_enter Try.func98, Try.ntmps98
  go_wp2_with (first | ((with_reducible refine Qa (N := 2) rfl ?_); refine be_ (cs := #[.bool B, .slice D z.length E]) (t := 73) ?_; intro W hg w5 aw hb; have F := aM (aw); have Y := gE hg (bP0 HB); have G := gE hg (bP0 HB); replace HB := hS0 HB hb; clear hb aw hg; obtain ⟨ab, ac, ad, ae⟩ := bG2 F; obtain ⟨⟨ak, aa, A⟩, J, L⟩ := xAt (Kd.at_int R.out) I; cases aa; replace A := cX HB A; ))
  go_ret
  exact ⟨eW, bS1 HB.out G.out⟩
 ·have Z := decide_eq_false Q; clear Q; obtain rfl := Qx H
  go_enter Try.func98, Try.ntmps98
  go_wp2_with (first | ((with_reducible refine Qa (N := 2) rfl ?_); refine be_ (cs := #[.bool B, .slice D z.length E]) (t := 73) ?_; intro W hg w7 aw hb; have F := aM (aw); have Y := gE hg (bP0 HB); have G := gE hg (bP0 HB); replace HB := hS0 HB hb; clear hb aw hg; obtain ⟨af, ag, ah, ai⟩ := bG2 F))
  go_ret
  exact ⟨eW, bS1 HB.out G.out⟩
mutual
def Fja.l0 : Nat → List Int → Int → Int → Bool → List Int → Bool → List Int → Option (List Int)
 | 0, _, _, _, _, _, _, _ => none
 | k + 1, x5, x6, x7, x223000, x223001, x224000, x224001 => if x7 < (mx (x223001.length : Int) (x224001.length : Int)) then (Fja.j1 k x5 x6 x7 true x223000 x223001 x224000 x224001) else (Fja.j1 k x5 x6 x7 (decide (x6 > 0)) x223000 x223001 x224000 x224001)
def Fja.j1 : Nat → List Int → Int → Int → Bool → Bool → List Int → Bool → List Int → Option (List Int)
 | 0, _, _, _, _, _, _, _, _ => none
 | k + 1, x5, x6, x7, x21, x223000, x223001, x224000, x224001 => if x21 = true then ((Fib.f x223000 x223001 x7).bind fun t224 => ((Fib.f x224000 x224001 x7).bind fun t225 => (if x5.length < 17592186044416 then (Fja.l0 k (x5 ++ [Go.bits .and .u64 (IntKind.u64.wrap ((IntKind.u64.wrap (t224 + t225)) + x6)) 65535]) ((IntKind.u64.wrap ((IntKind.u64.wrap (t224 + t225)) + x6)) / 65536) (wrap64 (x7 + 1)) x223000 x223001 x224000 x224001) else (none)))) else (some x5)
end
def Fja.f (k : Nat) (a0_0 : Bool) (l0_1 : List Int) (a1_0 : Bool) (l1_1 : List Int) : Option (List Int) := Fja.l0 k ([] : List Int) 0 0 a0_0 l0_1 a1_0 l1_1
theorem Fja.mono_l : ∀ k, (∀ y0 y1 y2 y3 y4 y5 y6, LeO (Fja.l0 k y0 y1 y2 y3 y4 y5 y6) (Fja.l0 (k + 1) y0 y1 y2 y3 y4 y5 y6)) ∧ (∀ y0 y1 y2 y3 y4 y5 y6 y7, LeO (Fja.j1 k y0 y1 y2 y3 y4 y5 y6 y7) (Fja.j1 (k + 1) y0 y1 y2 y3 y4 y5 y6 y7))
 | 0 => ⟨fun _ _ _ _ _ _ _ r h => by simp [Fja.l0] at h, fun _ _ _ _ _ _ _ _ r h => by simp [Fja.j1] at h⟩
 | k + 1 => by
  obtain ⟨ih0, ih1⟩ := Fja.mono_l k; refine ⟨?_, ?_⟩
  ·intro y0 y1 y2 y3 y4 y5 y6
   unfold Fja.l0
   repeat' first | (with_reducible first | exact ih0 _ _ _ _ _ _ _ | exact ih1 _ _ _ _ _ _ _ _ | exact lA | apply lI | refine lB ?_ fun _ => ?_) | exact lN _ | apply lI | refine lB ?_ fun _ => ?_
  ·intro y0 y1 y2 y3 y4 y5 y6 y7
   unfold Fja.j1
   repeat' first | (with_reducible first | exact ih0 _ _ _ _ _ _ _ | exact ih1 _ _ _ _ _ _ _ _ | exact lA | apply lI | refine lB ?_ fun _ => ?_) | exact lN _ | apply lI | refine lB ?_ fun _ => ?_
theorem Fja.mono : ∀ a0 a1 a2 a3 k, LeO (Fja.f k a0 a1 a2 a3) (Fja.f (k + 1) a0 a1 a2 a3) := by
 intro a0 a1 a2 a3 k; obtain ⟨ih0, ih1⟩ := Fja.mono_l k
 unfold Fja.f
 repeat' first | (with_reducible first | exact ih0 _ _ _ _ _ _ _ | exact ih1 _ _ _ _ _ _ _ _ | exact lA | apply lI | refine lB ?_ fun _ => ?_) | exact lN _ | apply lI | refine lB ?_ fun _ => ?_
def Fja.T6 : Bool × List (List Nat × List Nat) := (true, [([], []), ([], []), ([0, 1], [0, 1]), ([], []), ([], []), ([3, 4, 2], [3, 4]), ([2, 5], [2, 5]), ([], []), ([6, 7], [6, 7]), ([8, 5, 0, 1, 2, 3, 4, 5, 6, 7, 8], [8])])
def Fja.B6 : List Nat := [0, 0, 3, 0, 0, 31, 63, 0, 255, 511]
theorem Fja.tab6 : rtab .any (opsOf Try.f78 6) = Fja.T6 := by kernel_rfl
theorem Fja.bits6 : waitsOk Fja.T6.2 Fja.B6 = true := by kernel_rfl
theorem Fja.calls (k : Nat) (I : Bool) (P : Option Addr) (Q : Nat) (B : List Int) (J : Bool) (U : Option Addr) (V : Nat) (D : List Int) (r : List Int) (w : World) (ah : Kd.C (Kd.int .u64) w P B.length B) (ai : B.length ≤ Q) (aj : Kd.C (Kd.int .u64) w U D.length D) (ak : D.length ≤ V) (h : Fja.f k I B J D = some r) :
  Calls Try.prog 78 #[.agg #[.bool I, .slice P B.length Q], .agg #[.bool J, .slice U D.length V]] w fun e w' => ∃ aD : Value, e = .returned (aD) ∧ Kd.R (Kd.int .u64) 115 w' w.heap.size (fun _ => True) aD r ∧ Below w.heap.size w w' := by
 have hu73 := Try.underlying73; have au := aM ah; have av := aM ai; clear ah ai; have aw := aM aj; have ax := aM ak; clear aj ak; have HB := aM (Qg w.heap.size w); rw [Fja.f] at h; have H := h; clear h; have H' := aM H; clear H
 go_enter Try.func78, Try.ntmps78
 go_wp2_with (first | ((with_reducible refine Qa (N := 2) rfl ?_); refine be_ (cs := #[.bool I, .slice P B.length Q]) (t := 73) ?_; intro Z hg w3 bf hb; have z := aM (bf); have ba := gE hg (bP0 HB); have E := gE hg (bP0 HB); replace HB := hS0 HB hb; clear hb bf hg) | ((with_reducible refine Qa (N := 3) rfl ?_); refine be_ (cs := #[.bool J, .slice U D.length V]) (t := 73) ?_; intro aa hg w4 bf hb; have A := aM (bf); have bb := gE hg (bP1 HB E); have G := gE hg (bP1 HB E); replace HB := hS1 HB E hb; have W := nL hg z; have Y := nG hg z; replace z := kB z hb; clear hb bf hg))
 go_loopg [5, 6, 7] k (fun kq v5 v6 v7 w' => ∃ (O : List Int) (M : Int) (L : Int), v6 = .int .u64 M ∧ v7 = .int .i64 L ∧ Aside0 (Fja.l0 kq O M L I B J D = some r) ∧ Aside0 (kq ≤ k) ∧ RA (Kd.int .u64) 115 w' w v5 O ∧ Aside0 (w'.heap[Z]? = some (.cells #[.bool I, (.slice P B.length Q)] 73 (0, 0))) ∧ Aside0 (w'.heap[aa]? = some (.cells #[.bool J, (.slice U D.length V)] 73 (0, 0))) ∧ BA w w')
 case atStart => exact ⟨(([] : List Int)), (0), (0), sI, sI, H', ⟨Nat.le_refl _⟩, ⟨by first | exact WV _ _ _ _ _ | exact Wu _ _ _ _ _ | exact Wa _ _ _ _ _ | exact Wb _ _ _ _ _ | exact Wy _ _ _ _ _⟩, kQ z, kQ A, bT2 HB E G⟩
 case round =>
  clear H'
  obtain ⟨O, M, L, rfl, rfl, HA, bq, F, z, A, HB⟩ := hrel; cases gk with
  | zero => exact absurd HA.out (by simp [Fja.l0])
  | succ k1 =>
   have H := HA.out; clear HA; simp only [Fja.l0] at H; have ao := aM H; clear H
   go_upto_region 4 with (fail)
   go_cut [21] (fun aX wc => ∃ (kq : Nat) (ab : Bool), aX = .bool ab ∧ Aside0 (Fja.j1 kq O M L ab I B J D = some r) ∧ Aside0 (kq ≤ k1) ∧ RA (Kd.int .u64) 115 wc w u5 O ∧ Aside0 (wc.heap[Z]? = some (.cells #[.bool I, (.slice P B.length Q)] 73 (0, 0))) ∧ Aside0 (wc.heap[aa]? = some (.cells #[.bool J, (.slice U D.length V)] 73 (0, 0))) ∧ BA w wc)
   case first =>
    have H := ao.out; clear ao; obtain ⟨ap, ag⟩ : ∃ j_ : Int, (mx (B.length : Int) (D.length : Int)) = j_ := ⟨_, rfl⟩
    first | rw [ag] at H | simp only [ag] at H
    have ay : (if (B.length : Int) < (D.length : Int) then (D.length : Int) else (B.length : Int)) = ap := ag
    (try (have hji6_n : (if B.length < D.length then (D.length : Int) else (B.length : Int)) = ap := by rw [← ay]; simp only [Int.ofNat_lt]))
    apply iB H <;> clear H <;> intro c7 H
    ·have ad := dT c7; clear c7
     (first | rw [ad] | (simp only [i64_w, i32_w]; rw [ad]) | skip)
     have H' := aM H; clear H; have bh := W.out; have bi := Y.out; obtain ⟨aY, aZ, a4, a5⟩ := bG2 z; obtain ⟨aG, aH, aI, aJ⟩ := bG2 A
     go_wp2
     go_meet
     case rel => exact ⟨_, (true), sI, H', ⟨by have := bq.out; first | omega | exact Nat.le_refl _⟩, rQ F, kQ z, kQ A, bT2 HB E G⟩
    ·have ad := decide_eq_false c7; clear c7
     (first | rw [ad] | (simp only [i64_w, i32_w]; rw [ad]) | skip)
     have H' := aM H; clear H; have bc := W.out; have bd := Y.out; obtain ⟨aK, aN, aQ, aR⟩ := bG2 z; obtain ⟨aT, aU, aV, aW⟩ := bG2 A
     go_wp2
     go_meet
     case rel => exact ⟨_, (decide (M > 0)), sI, H', ⟨by have := bq.out; first | omega | exact Nat.le_refl _⟩, rQ F, kQ z, kQ A, bT2 HB E G⟩
   case rest =>
    clear ao
    obtain ⟨kq, ab, rfl, HA, HJ4, F, z, A, HB⟩ := hcut; cases kq with
    | zero => exact absurd HA.out (by simp [Fja.j1])
    | succ a6 =>
     have H := HA.out; clear HA; simp only [Fja.j1] at H
     by_cases al : ab = true
     ·subst al
      rw [if_pos rfl] at H; apply bSx H; clear H; intro ae a7 H; apply bSx H; clear H; intro af a8 H
      apply iN H; clear H; intro am H; have az := aM am; clear am; obtain ⟨aE, ac⟩ : ∃ y_ : List Int, y_ = (O ++ [Go.bits .and .u64 (IntKind.u64.wrap ((IntKind.u64.wrap (ae + af)) + M)) 65535]) := ⟨_, rfl⟩; first | replace H := rI ac H | rw [← ac] at H; have aA := aM ac; clear ac; have H' := aM H; clear H
      try go_wp2
      replace F := aM (Q4 F.out); replace z := kD z; replace A := kD A; replace HB := aM (below_drew1 HB.out); refine start_ (n := 10) (S := fun w' => w'.cell? ⟨Z, 0, none⟩ = some (.bool I) ∧ w'.cell? ⟨Z, 1, none⟩ = some (.slice P B.length Q) ∧ w'.cell? ⟨aa, 0, none⟩ = some (.bool J) ∧ w'.cell? ⟨aa, 1, none⟩ = some (.slice U D.length V)) (ds := []) (bl 10 0) (by kernel_rfl) rfl rfl ⟨(QW z.out 0).trans rfl, (QW z.out 1).trans rfl, (QW A.out 0).trans rfl, (QW A.out 1).trans rfl⟩ (fun be => ?_); refine with_tabW Fja.tab6 Fja.bits6 (fun an br => ?_); generalize wc.drew = bk at F z A HB be ⊢; refine pu_ 1 25 (bl 10 2) an ?_; refine pu_ 4 28 (bl 10 18) an ?_; refine pu_ 7 31 (bl 10 146) an ?_; refine tk4_ 0 24 (bl 10 147) an br be ?_; refine tk4_ 3 27 (bl 10 155) an br be ?_; refine one_ (i := 2) (N := some 26) (bl 10 159) rfl rfl (one_of an.out (by kernel_rfl)) (by decide) (fun K hK => ?_); refine gS_ Try.func98 #[.agg #[.bool I, .slice P B.length Q], .int .i64 L] ?_
      with_reducible refine (Fib.calls I _ _ B L ae _ ?s1 ?s2 a7.out).mono ?_
      (case s1 => exact cB au HB)
      (case s2 => exact av.out)
      rintro e bm ⟨rfl, hb⟩; refine ⟨_, rfl, ?_⟩; replace F := rB F hb; replace z := kB z hb; replace A := kB A hb; replace HB := hS2 HB E G hb
      (try clear hb)
      (try clear a9)
      (try clear hk)
      (try clear hi)
      refine hK.out _ _ ⟨(QW z.out 0).trans rfl, (QW z.out 1).trans rfl, (QW A.out 0).trans rfl, (QW A.out 1).trans rfl⟩ (fun be => ?_); clear hK K; refine nm_ 26 ?_; refine one_ (i := 5) (N := some 29) (bl 10 191) rfl rfl (one_of an.out (by kernel_rfl)) (by decide) (fun K hK => ?_); refine gS_ Try.func98 #[.agg #[.bool J, .slice U D.length V], .int .i64 L] ?_
      with_reducible refine (Fib.calls J _ _ D L af _ ?s1 ?s2 a8.out).mono ?_
      (case s1 => exact cB aw HB)
      (case s2 => exact ax.out)
      rintro e bn ⟨rfl, hb⟩; refine ⟨_, rfl, ?_⟩; replace F := rB F hb; replace z := kB z hb; replace A := kB A hb; replace HB := hS2 HB E G hb
      (try clear hb)
      (try clear a9)
      (try clear hk)
      (try clear hi)
      refine hK.out _ _ ⟨(QW z.out 0).trans rfl, (QW z.out 1).trans rfl, (QW A.out 0).trans rfl, (QW A.out 1).trans rfl⟩ (fun be => ?_); clear hK K; refine nm_ 29 ?_; refine pu_ 6 30 (bl 10 255) an ?_; refine pu_ 8 32 (bl 10 511) an ?_; refine pu_ 9 8 (bl 10 1023) an ?_; refine done_ (done_of an.out (by kernel_rfl)) ?_
      try go_wp2_with (first | ((with_reducible refine gate_builtin (b := .append) (xs := #[.tmp 33, .tmp 36]) rfl ?_); at_builtin; refine Wo (Kd.int .u64) (w0 := w) w.heap.size rfl (.tmp 33) (.tmp 36) 71 115 (.int .u64 0) 8 rfl Try.underlying71 info115 rfl (by decide) (by omega) u5 O (Go.bits .and .u64 (IntKind.u64.wrap ((IntKind.u64.wrap (ae + af)) + M)) 65535) [.int .u64 (Go.bits .and .u64 (IntKind.u64.wrap ((IntKind.u64.wrap (ae + af)) + M)) 65535)] (fun _ => True) (fun _ => False) rfl rfl ?aP (fun _ hk => hk.elim) ?aF ?aO ?aB ?aS ?aL ?_; (case aP => exact rfl); (case aB => exact (bP2 HB E G)); (case aF => exact (fun _ _ => trivial)); (case aO => exact (rP F)); (case aS => exact (Qv (bP2 HB E G))); (case aL => have := az.out; omega); intro bj bo ho hb hg hat; rw [← aA.out] at ho; replace z := kG z hg F; replace A := kG A hg F; replace HB := aM (hb); have aC := aM (ho); clear F; clear ho hb hg hat))
      go_roundg a6
      case measure => have := bq.out; have := HJ4.out; omega
      case rel => exact ⟨(aE), ((IntKind.u64.wrap ((IntKind.u64.wrap (ae + af)) + M)) / 65536), (wrap64 (L + 1)), sI, sI, H', ⟨by have := bq.out; have := HJ4.out; omega⟩, rQ aC, kQ z, kQ A, bT2 HB E G⟩
     ·replace al := Qc al; subst al
      rw [if_neg nF] at H; obtain rfl := Qx H
      go_wp2
      go_ret
      exact ⟨_, eW, rO F.out, bS2 HB.out E.out G.out⟩
def Fhc.l0 : Nat → Int → Bool → List Int → Bool → List Int → Option (Int)
 | 0, _, _, _, _, _ => none
 | k + 1, x5, x230000, x230001, x231000, x231001 => if x5 ≥ 0 then ((Fib.f x230000 x230001 x5).bind fun t231 => ((Fib.f x231000 x231001 x5).bind fun t232 => (if t231 < t232 then (some (-1)) else ((Fib.f x230000 x230001 x5).bind fun t233 => ((Fib.f x231000 x231001 x5).bind fun t234 => (if t233 > t234 then (some 1) else (Fhc.l0 k (wrap64 (x5 - 1)) x230000 x230001 x231000 x231001))))))) else (some 0)
def Fhc.f (k : Nat) (a0_0 : Bool) (l0_1 : List Int) (a1_0 : Bool) (l1_1 : List Int) : Option (Int) := Fhc.l0 k (wrap64 ((mx (l0_1.length : Int) (l1_1.length : Int)) - 1)) a0_0 l0_1 a1_0 l1_1
theorem Fhc.mono_l : ∀ k, (∀ y0 y1 y2 y3 y4, LeO (Fhc.l0 k y0 y1 y2 y3 y4) (Fhc.l0 (k + 1) y0 y1 y2 y3 y4))
 | 0 => fun _ _ _ _ _ r h => by simp [Fhc.l0] at h
 | k + 1 => by
  have ih0 := Fhc.mono_l k
  ·intro y0 y1 y2 y3 y4
   unfold Fhc.l0
   repeat' first | (with_reducible first | exact ih0 _ _ _ _ _ | exact lA | apply lI | refine lB ?_ fun _ => ?_) | exact lN _ | apply lI | refine lB ?_ fun _ => ?_
theorem Fhc.mono : ∀ a0 a1 a2 a3 k, LeO (Fhc.f k a0 a1 a2 a3) (Fhc.f (k + 1) a0 a1 a2 a3) := by
 intro a0 a1 a2 a3 k; have ih0 := Fhc.mono_l k
 unfold Fhc.f
 repeat' first | (with_reducible first | exact ih0 _ _ _ _ _ | exact lA | apply lI | refine lB ?_ fun _ => ?_) | exact lN _ | apply lI | refine lB ?_ fun _ => ?_
theorem Fhc.calls (k : Nat) (G : Bool) (L : Option Addr) (M : Nat) (B : List Int) (I : Bool) (O : Option Addr) (P : Nat) (D : List Int) (r : Int) (w : World) (ak : Kd.C (Kd.int .u64) w L B.length B) (al : B.length ≤ M) (am : Kd.C (Kd.int .u64) w O D.length D) (an : D.length ≤ P) (h : Fhc.f k G B I D = some r) :
  Calls Try.prog 79 #[.agg #[.bool G, .slice L B.length M], .agg #[.bool I, .slice O D.length P]] w fun e w' => e = .returned (.int .i64 r) ∧ Below w.heap.size w w' := by
 have hu73 := Try.underlying73; have V := aM ak; have W := aM al; clear ak al; have Y := aM am; have Z := aM an; clear am an; have HB := aM (Qg w.heap.size w); rw [Fhc.f] at h; have H := h; clear h; obtain ⟨af, U⟩ : ∃ j_ : Int, (mx (B.length : Int) (D.length : Int)) = j_ := ⟨_, rfl⟩
 first | rw [U] at H | simp only [U] at H
 (try (have hji3l : 0 ≤ af := by (rw [← U]; unfold mx; (repeat' split) <;> omega)))
 (try (have hji3m : 0 ≤ af := by omega))
 have ax : (if (B.length : Int) < (D.length : Int) then (D.length : Int) else (B.length : Int)) = af := U
 (try (have hji3_n : (if B.length < D.length then (D.length : Int) else (B.length : Int)) = af := by rw [← ax]; simp only [Int.ofNat_lt]))
 have H' := aM H; clear H
 go_enter Try.func79, Try.ntmps79
 go_wp2_with (first | ((with_reducible refine Qa (N := 2) rfl ?_); refine be_ (cs := #[.bool G, .slice L B.length M]) (t := 73) ?_; intro Q hg w4 aO hb; have z := aM (aO); have aP := gE hg (bP0 HB); have F := gE hg (bP0 HB); replace HB := hS0 HB hb; clear hb aO hg) | ((with_reducible refine Qa (N := 3) rfl ?_); refine be_ (cs := #[.bool I, .slice O D.length P]) (t := 73) ?_; intro R hg w5 aO hb; have A := aM (aO); have aQ := gE hg (bP1 HB F); have J := gE hg (bP1 HB F); replace HB := hS1 HB F hb; have ag := nL hg z; have ah := nG hg z; replace z := kB z hb; clear hb aO hg; have aR := ag.out; have aS := ah.out; obtain ⟨aD, aE, aF, aG⟩ := bG2 z; obtain ⟨aH, aI, aJ, aK⟩ := bG2 A))
 go_loopg [5] k (fun kq v5 w' => ∃ (E : Int), v5 = .int .i64 E ∧ Aside0 (Fhc.l0 kq E G B I D = some r) ∧ Aside0 (kq ≤ k) ∧ Aside0 (w'.heap[Q]? = some (.cells #[.bool G, (.slice L B.length M)] 73 (0, 0))) ∧ Aside0 (w'.heap[R]? = some (.cells #[.bool I, (.slice O D.length P)] 73 (0, 0))) ∧ BA w w')
 case atStart => exact ⟨(wrap64 ((af) - 1)), (by first | rfl | (simp; done) | (simp only [← U] <;> (first | rfl | simp)) | (simp [*]; done)), H', ⟨Nat.le_refl _⟩, kQ z, kQ A, bT2 HB F J⟩
 case round =>
  clear H'
  obtain ⟨E, rfl, HA, bb, z, A, HB⟩ := hrel; cases gk with
  | zero => exact absurd HA.out (by simp [Fhc.l0])
  | succ k1 =>
   have H := HA.out; clear HA; simp only [Fhc.l0] at H
   apply iB H <;> clear H <;> intro c9 H
   ·have aC := dT c9; clear c9; apply bSx H; clear H; intro ad aq H; apply bSx H; clear H; intro ae au H
    apply iB H <;> clear H <;> intro ab H
    ·have ay := dT ab; clear ab; obtain rfl := Qx H
     try go_wp2
     replace z := kD z; replace A := kD A; replace HB := aM (below_drew1 HB.out); refine start_ (n := 7) (S := fun w' => w'.cell? ⟨Q, 0, none⟩ = some (.bool G) ∧ w'.cell? ⟨Q, 1, none⟩ = some (.slice L B.length M) ∧ w'.cell? ⟨R, 0, none⟩ = some (.bool I) ∧ w'.cell? ⟨R, 1, none⟩ = some (.slice O D.length P)) (ds := []) (bl 7 0) (by kernel_rfl) rfl rfl ⟨(QW z.out 0).trans rfl, (QW z.out 1).trans rfl, (QW A.out 0).trans rfl, (QW A.out 1).trans rfl⟩ (fun ao => ?_); generalize wr.drew = aU at z A HB ao ⊢; refine pure_ (i := 1) (N := some 19) (v := ?_) (a' := ?_) (bl 7 2) rfl rfl (by kernel_rfl) (fun _ _ _ h => h) (Or.inl ⟨by rfl, ?_⟩) ?_ ?_; rotate_left
     ·intro w'
      go_simp
      with_reducible rfl
     rotate_left
     ·simp only [Act.put, sA, sB, sC, i64_w, i32_w]
      rfl
     refine pure_ (i := 4) (N := some 22) (v := ?_) (a' := ?_) (bl 7 18) rfl rfl (by kernel_rfl) (fun _ _ _ h => h) (Or.inl ⟨by rfl, ?_⟩) ?_ ?_; rotate_left
     ·intro w'
      go_simp
      with_reducible rfl
     rotate_left
     ·simp only [Act.put, sA, sB, sC, i64_w, i32_w]
      rfl
     refine take_ (i := 0) (N := some 18) (v := ?_) (a' := ?_) (bl 7 19) rfl rfl (by kernel_rfl) (fun _ _ _ h => h) (Or.inl ⟨by rfl, ?_⟩) ao ?_ ?_; rotate_left
     ·rintro w' ⟨s0, s1, s2, s3⟩
      go_simp
      with_reducible rfl
     rotate_left
     ·simp only [Act.put, sA, sB, sC, i64_w, i32_w]
      rfl
     refine take_ (i := 3) (N := some 21) (v := ?_) (a' := ?_) (bl 7 27) rfl rfl (by kernel_rfl) (fun _ _ _ h => h) (Or.inl ⟨by rfl, ?_⟩) ao ?_ ?_; rotate_left
     ·rintro w' ⟨s0, s1, s2, s3⟩
      go_simp
      with_reducible rfl
     rotate_left
     ·simp only [Act.put, sA, sB, sC, i64_w, i32_w]
      rfl
     refine one_ (i := 2) (N := some 20) (bl 7 31) rfl rfl (by kernel_rfl) (by decide) (fun K hK => ?_); refine gS_ Try.func98 #[.agg #[.bool G, .slice L B.length M], .int .i64 E] ?_
     with_reducible refine (Fib.calls G _ _ B E ad _ ?s1 ?s2 aq.out).mono ?_
     (case s1 => exact cB V HB)
     (case s2 => exact W.out)
     rintro e aV ⟨rfl, hb⟩; refine ⟨_, rfl, ?_⟩; replace z := kB z hb; replace A := kB A hb; replace HB := hS2 HB F J hb
     (try clear hb)
     (try clear aa)
     (try clear hk)
     (try clear hi)
     refine hK.out _ _ ⟨(QW z.out 0).trans rfl, (QW z.out 1).trans rfl, (QW A.out 0).trans rfl, (QW A.out 1).trans rfl⟩ (fun ao => ?_); clear hK K; refine nm_ 20 ?_; refine one_ (i := 5) (N := some 23) (bl 7 63) rfl rfl (by kernel_rfl) (by decide) (fun K hK => ?_); refine gS_ Try.func98 #[.agg #[.bool I, .slice O D.length P], .int .i64 E] ?_
     with_reducible refine (Fib.calls I _ _ D E ae _ ?s1 ?s2 au.out).mono ?_
     (case s1 => exact cB Y HB)
     (case s2 => exact Z.out)
     rintro e aW ⟨rfl, hb⟩; refine ⟨_, rfl, ?_⟩; replace z := kB z hb; replace A := kB A hb; replace HB := hS2 HB F J hb
     (try clear hb)
     (try clear aa)
     (try clear hk)
     (try clear hi)
     refine hK.out _ _ ⟨(QW z.out 0).trans rfl, (QW z.out 1).trans rfl, (QW A.out 0).trans rfl, (QW A.out 1).trans rfl⟩ (fun ao => ?_); clear hK K; refine nm_ 23 ?_; refine pure_ (i := 6) (N := some 24) (v := ?_) (a' := ?_) (bl 7 127) rfl rfl (by kernel_rfl) (fun _ _ _ h => h) (Or.inl ⟨by rfl, ?_⟩) ?_ ?_; rotate_left
     ·intro w'
      go_simp
      with_reducible rfl
     rotate_left
     ·simp only [Act.put, sA, sB, sC, i64_w, i32_w]
      rfl
     refine done_ (by kernel_rfl) ?_
     try go_wp2
     go_ret
     exact ⟨by first | rfl | (simp [errW_none, errW_some] <;> rfl) | (simp only [← U]; first | rfl | (simp [errW_none, errW_some] <;> rfl)) | (simp [*, errW_none, errW_some] <;> rfl), bS2 HB.out F.out J.out⟩
    ·have ay := decide_eq_false ab; clear ab; apply bSx H; clear H; intro ai aA H; apply bSx H; clear H; intro aj aB H
     apply iB H <;> clear H <;> intro ac H
     ·have az := dT ac; clear ac; obtain rfl := Qx H
      try go_wp2
      replace z := kD z; replace A := kD A; replace HB := aM (below_drew1 HB.out); refine start_ (n := 7) (S := fun w' => w'.cell? ⟨Q, 0, none⟩ = some (.bool G) ∧ w'.cell? ⟨Q, 1, none⟩ = some (.slice L B.length M) ∧ w'.cell? ⟨R, 0, none⟩ = some (.bool I) ∧ w'.cell? ⟨R, 1, none⟩ = some (.slice O D.length P)) (ds := []) (bl 7 0) (by kernel_rfl) rfl rfl ⟨(QW z.out 0).trans rfl, (QW z.out 1).trans rfl, (QW A.out 0).trans rfl, (QW A.out 1).trans rfl⟩ (fun ao => ?_); generalize wr.drew = aX at z A HB ao ⊢; refine pure_ (i := 1) (N := some 19) (v := ?_) (a' := ?_) (bl 7 2) rfl rfl (by kernel_rfl) (fun _ _ _ h => h) (Or.inl ⟨by rfl, ?_⟩) ?_ ?_; rotate_left
      ·intro w'
       go_simp
       with_reducible rfl
      rotate_left
      ·simp only [Act.put, sA, sB, sC, i64_w, i32_w]
       rfl
      refine pure_ (i := 4) (N := some 22) (v := ?_) (a' := ?_) (bl 7 18) rfl rfl (by kernel_rfl) (fun _ _ _ h => h) (Or.inl ⟨by rfl, ?_⟩) ?_ ?_; rotate_left
      ·intro w'
       go_simp
       with_reducible rfl
      rotate_left
      ·simp only [Act.put, sA, sB, sC, i64_w, i32_w]
       rfl
      refine take_ (i := 0) (N := some 18) (v := ?_) (a' := ?_) (bl 7 19) rfl rfl (by kernel_rfl) (fun _ _ _ h => h) (Or.inl ⟨by rfl, ?_⟩) ao ?_ ?_; rotate_left
      ·rintro w' ⟨s0, s1, s2, s3⟩
       go_simp
       with_reducible rfl
      rotate_left
      ·simp only [Act.put, sA, sB, sC, i64_w, i32_w]
       rfl
      refine take_ (i := 3) (N := some 21) (v := ?_) (a' := ?_) (bl 7 27) rfl rfl (by kernel_rfl) (fun _ _ _ h => h) (Or.inl ⟨by rfl, ?_⟩) ao ?_ ?_; rotate_left
      ·rintro w' ⟨s0, s1, s2, s3⟩
       go_simp
       with_reducible rfl
      rotate_left
      ·simp only [Act.put, sA, sB, sC, i64_w, i32_w]
       rfl
      refine one_ (i := 2) (N := some 20) (bl 7 31) rfl rfl (by kernel_rfl) (by decide) (fun K hK => ?_); refine gS_ Try.func98 #[.agg #[.bool G, .slice L B.length M], .int .i64 E] ?_
      with_reducible refine (Fib.calls G _ _ B E ad _ ?s1 ?s2 aq.out).mono ?_
      (case s1 => exact cB V HB)
      (case s2 => exact W.out)
      rintro e aY ⟨rfl, hb⟩; refine ⟨_, rfl, ?_⟩; replace z := kB z hb; replace A := kB A hb; replace HB := hS2 HB F J hb
      (try clear hb)
      (try clear aa)
      (try clear hk)
      (try clear hi)
      refine hK.out _ _ ⟨(QW z.out 0).trans rfl, (QW z.out 1).trans rfl, (QW A.out 0).trans rfl, (QW A.out 1).trans rfl⟩ (fun ao => ?_); clear hK K; refine nm_ 20 ?_; refine one_ (i := 5) (N := some 23) (bl 7 63) rfl rfl (by kernel_rfl) (by decide) (fun K hK => ?_); refine gS_ Try.func98 #[.agg #[.bool I, .slice O D.length P], .int .i64 E] ?_
      with_reducible refine (Fib.calls I _ _ D E ae _ ?s1 ?s2 au.out).mono ?_
      (case s1 => exact cB Y HB)
      (case s2 => exact Z.out)
      rintro e aL ⟨rfl, hb⟩; refine ⟨_, rfl, ?_⟩; replace z := kB z hb; replace A := kB A hb; replace HB := hS2 HB F J hb
      (try clear hb)
      (try clear aa)
      (try clear hk)
      (try clear hi)
      refine hK.out _ _ ⟨(QW z.out 0).trans rfl, (QW z.out 1).trans rfl, (QW A.out 0).trans rfl, (QW A.out 1).trans rfl⟩ (fun ao => ?_); clear hK K; refine nm_ 23 ?_; refine pure_ (i := 6) (N := some 24) (v := ?_) (a' := ?_) (bl 7 127) rfl rfl (by kernel_rfl) (fun _ _ _ h => h) (Or.inl ⟨by rfl, ?_⟩) ?_ ?_; rotate_left
      ·intro w'
       go_simp
       with_reducible rfl
      rotate_left
      ·simp only [Act.put, sA, sB, sC, i64_w, i32_w]
       rfl
      refine done_ (by kernel_rfl) ?_
      try go_wp2
      replace z := kD z; replace A := kD A; replace HB := aM (below_drew1 HB.out); refine start_ (n := 7) (S := fun w' => w'.cell? ⟨Q, 0, none⟩ = some (.bool G) ∧ w'.cell? ⟨Q, 1, none⟩ = some (.slice L B.length M) ∧ w'.cell? ⟨R, 0, none⟩ = some (.bool I) ∧ w'.cell? ⟨R, 1, none⟩ = some (.slice O D.length P)) (ds := []) (bl 7 0) (by kernel_rfl) rfl rfl ⟨(QW z.out 0).trans rfl, (QW z.out 1).trans rfl, (QW A.out 0).trans rfl, (QW A.out 1).trans rfl⟩ (fun ao => ?_); generalize aL.drew = aZ at z A HB ao ⊢; refine pure_ (i := 1) (N := some 26) (v := ?_) (a' := ?_) (bl 7 2) rfl rfl (by kernel_rfl) (fun _ _ _ h => h) (Or.inl ⟨by rfl, ?_⟩) ?_ ?_; rotate_left
      ·intro w'
       go_simp
       with_reducible rfl
      rotate_left
      ·simp only [Act.put, sA, sB, sC, i64_w, i32_w]
       rfl
      refine pure_ (i := 4) (N := some 29) (v := ?_) (a' := ?_) (bl 7 18) rfl rfl (by kernel_rfl) (fun _ _ _ h => h) (Or.inl ⟨by rfl, ?_⟩) ?_ ?_; rotate_left
      ·intro w'
       go_simp
       with_reducible rfl
      rotate_left
      ·simp only [Act.put, sA, sB, sC, i64_w, i32_w]
       rfl
      refine take_ (i := 0) (N := some 25) (v := ?_) (a' := ?_) (bl 7 19) rfl rfl (by kernel_rfl) (fun _ _ _ h => h) (Or.inl ⟨by rfl, ?_⟩) ao ?_ ?_; rotate_left
      ·rintro w' ⟨s0, s1, s2, s3⟩
       go_simp
       with_reducible rfl
      rotate_left
      ·simp only [Act.put, sA, sB, sC, i64_w, i32_w]
       rfl
      refine take_ (i := 3) (N := some 28) (v := ?_) (a' := ?_) (bl 7 27) rfl rfl (by kernel_rfl) (fun _ _ _ h => h) (Or.inl ⟨by rfl, ?_⟩) ao ?_ ?_; rotate_left
      ·rintro w' ⟨s0, s1, s2, s3⟩
       go_simp
       with_reducible rfl
      rotate_left
      ·simp only [Act.put, sA, sB, sC, i64_w, i32_w]
       rfl
      refine one_ (i := 2) (N := some 27) (bl 7 31) rfl rfl (by kernel_rfl) (by decide) (fun K hK => ?_); refine gS_ Try.func98 #[.agg #[.bool G, .slice L B.length M], .int .i64 E] ?_
      with_reducible refine (Fib.calls G _ _ B E ai _ ?s1 ?s2 aA.out).mono ?_
      (case s1 => exact cB V HB)
      (case s2 => exact W.out)
      rintro e a4 ⟨rfl, hb⟩; refine ⟨_, rfl, ?_⟩; replace z := kB z hb; replace A := kB A hb; replace HB := hS2 HB F J hb
      (try clear hb)
      (try clear aa)
      (try clear hk)
      (try clear hi)
      refine hK.out _ _ ⟨(QW z.out 0).trans rfl, (QW z.out 1).trans rfl, (QW A.out 0).trans rfl, (QW A.out 1).trans rfl⟩ (fun ao => ?_); clear hK K; refine nm_ 27 ?_; refine one_ (i := 5) (N := some 30) (bl 7 63) rfl rfl (by kernel_rfl) (by decide) (fun K hK => ?_); refine gS_ Try.func98 #[.agg #[.bool I, .slice O D.length P], .int .i64 E] ?_
      with_reducible refine (Fib.calls I _ _ D E aj _ ?s1 ?s2 aB.out).mono ?_
      (case s1 => exact cB Y HB)
      (case s2 => exact Z.out)
      rintro e a5 ⟨rfl, hb⟩; refine ⟨_, rfl, ?_⟩; replace z := kB z hb; replace A := kB A hb; replace HB := hS2 HB F J hb
      (try clear hb)
      (try clear aa)
      (try clear hk)
      (try clear hi)
      refine hK.out _ _ ⟨(QW z.out 0).trans rfl, (QW z.out 1).trans rfl, (QW A.out 0).trans rfl, (QW A.out 1).trans rfl⟩ (fun ao => ?_); clear hK K; refine nm_ 30 ?_; refine pure_ (i := 6) (N := some 31) (v := ?_) (a' := ?_) (bl 7 127) rfl rfl (by kernel_rfl) (fun _ _ _ h => h) (Or.inl ⟨by rfl, ?_⟩) ?_ ?_; rotate_left
      ·intro w'
       go_simp
       with_reducible rfl
      rotate_left
      ·simp only [Act.put, sA, sB, sC, i64_w, i32_w]
       rfl
      refine done_ (by kernel_rfl) ?_
      try go_wp2
      go_ret
      exact ⟨by first | rfl | (simp [errW_none, errW_some] <;> rfl) | (simp only [← U]; first | rfl | (simp [errW_none, errW_some] <;> rfl)) | (simp [*, errW_none, errW_some] <;> rfl), bS2 HB.out F.out J.out⟩
     ·have az := decide_eq_false ac; clear ac; have H' := aM H; clear H
      try go_wp2
      replace z := kD z; replace A := kD A; replace HB := aM (below_drew1 HB.out); refine start_ (n := 7) (S := fun w' => w'.cell? ⟨Q, 0, none⟩ = some (.bool G) ∧ w'.cell? ⟨Q, 1, none⟩ = some (.slice L B.length M) ∧ w'.cell? ⟨R, 0, none⟩ = some (.bool I) ∧ w'.cell? ⟨R, 1, none⟩ = some (.slice O D.length P)) (ds := []) (bl 7 0) (by kernel_rfl) rfl rfl ⟨(QW z.out 0).trans rfl, (QW z.out 1).trans rfl, (QW A.out 0).trans rfl, (QW A.out 1).trans rfl⟩ (fun ao => ?_); generalize wr.drew = a6 at z A HB ao ⊢; refine pure_ (i := 1) (N := some 19) (v := ?_) (a' := ?_) (bl 7 2) rfl rfl (by kernel_rfl) (fun _ _ _ h => h) (Or.inl ⟨by rfl, ?_⟩) ?_ ?_; rotate_left
      ·intro w'
       go_simp
       with_reducible rfl
      rotate_left
      ·simp only [Act.put, sA, sB, sC, i64_w, i32_w]
       rfl
      refine pure_ (i := 4) (N := some 22) (v := ?_) (a' := ?_) (bl 7 18) rfl rfl (by kernel_rfl) (fun _ _ _ h => h) (Or.inl ⟨by rfl, ?_⟩) ?_ ?_; rotate_left
      ·intro w'
       go_simp
       with_reducible rfl
      rotate_left
      ·simp only [Act.put, sA, sB, sC, i64_w, i32_w]
       rfl
      refine take_ (i := 0) (N := some 18) (v := ?_) (a' := ?_) (bl 7 19) rfl rfl (by kernel_rfl) (fun _ _ _ h => h) (Or.inl ⟨by rfl, ?_⟩) ao ?_ ?_; rotate_left
      ·rintro w' ⟨s0, s1, s2, s3⟩
       go_simp
       with_reducible rfl
      rotate_left
      ·simp only [Act.put, sA, sB, sC, i64_w, i32_w]
       rfl
      refine take_ (i := 3) (N := some 21) (v := ?_) (a' := ?_) (bl 7 27) rfl rfl (by kernel_rfl) (fun _ _ _ h => h) (Or.inl ⟨by rfl, ?_⟩) ao ?_ ?_; rotate_left
      ·rintro w' ⟨s0, s1, s2, s3⟩
       go_simp
       with_reducible rfl
      rotate_left
      ·simp only [Act.put, sA, sB, sC, i64_w, i32_w]
       rfl
      refine one_ (i := 2) (N := some 20) (bl 7 31) rfl rfl (by kernel_rfl) (by decide) (fun K hK => ?_); refine gS_ Try.func98 #[.agg #[.bool G, .slice L B.length M], .int .i64 E] ?_
      with_reducible refine (Fib.calls G _ _ B E ad _ ?s1 ?s2 aq.out).mono ?_
      (case s1 => exact cB V HB)
      (case s2 => exact W.out)
      rintro e a7 ⟨rfl, hb⟩; refine ⟨_, rfl, ?_⟩; replace z := kB z hb; replace A := kB A hb; replace HB := hS2 HB F J hb
      (try clear hb)
      (try clear aa)
      (try clear hk)
      (try clear hi)
      refine hK.out _ _ ⟨(QW z.out 0).trans rfl, (QW z.out 1).trans rfl, (QW A.out 0).trans rfl, (QW A.out 1).trans rfl⟩ (fun ao => ?_); clear hK K; refine nm_ 20 ?_; refine one_ (i := 5) (N := some 23) (bl 7 63) rfl rfl (by kernel_rfl) (by decide) (fun K hK => ?_); refine gS_ Try.func98 #[.agg #[.bool I, .slice O D.length P], .int .i64 E] ?_
      with_reducible refine (Fib.calls I _ _ D E ae _ ?s1 ?s2 au.out).mono ?_
      (case s1 => exact cB Y HB)
      (case s2 => exact Z.out)
      rintro e aN ⟨rfl, hb⟩; refine ⟨_, rfl, ?_⟩; replace z := kB z hb; replace A := kB A hb; replace HB := hS2 HB F J hb
      (try clear hb)
      (try clear aa)
      (try clear hk)
      (try clear hi)
      refine hK.out _ _ ⟨(QW z.out 0).trans rfl, (QW z.out 1).trans rfl, (QW A.out 0).trans rfl, (QW A.out 1).trans rfl⟩ (fun ao => ?_); clear hK K; refine nm_ 23 ?_; refine pure_ (i := 6) (N := some 24) (v := ?_) (a' := ?_) (bl 7 127) rfl rfl (by kernel_rfl) (fun _ _ _ h => h) (Or.inl ⟨by rfl, ?_⟩) ?_ ?_; rotate_left
      ·intro w'
       go_simp
       with_reducible rfl
      rotate_left
      ·simp only [Act.put, sA, sB, sC, i64_w, i32_w]
       rfl
      refine done_ (by kernel_rfl) ?_
      try go_wp2
      replace z := kD z; replace A := kD A; replace HB := aM (below_drew1 HB.out); refine start_ (n := 7) (S := fun w' => w'.cell? ⟨Q, 0, none⟩ = some (.bool G) ∧ w'.cell? ⟨Q, 1, none⟩ = some (.slice L B.length M) ∧ w'.cell? ⟨R, 0, none⟩ = some (.bool I) ∧ w'.cell? ⟨R, 1, none⟩ = some (.slice O D.length P)) (ds := []) (bl 7 0) (by kernel_rfl) rfl rfl ⟨(QW z.out 0).trans rfl, (QW z.out 1).trans rfl, (QW A.out 0).trans rfl, (QW A.out 1).trans rfl⟩ (fun ao => ?_); generalize aN.drew = a8 at z A HB ao ⊢; refine pure_ (i := 1) (N := some 26) (v := ?_) (a' := ?_) (bl 7 2) rfl rfl (by kernel_rfl) (fun _ _ _ h => h) (Or.inl ⟨by rfl, ?_⟩) ?_ ?_; rotate_left
      ·intro w'
       go_simp
       with_reducible rfl
      rotate_left
      ·simp only [Act.put, sA, sB, sC, i64_w, i32_w]
       rfl
      refine pure_ (i := 4) (N := some 29) (v := ?_) (a' := ?_) (bl 7 18) rfl rfl (by kernel_rfl) (fun _ _ _ h => h) (Or.inl ⟨by rfl, ?_⟩) ?_ ?_; rotate_left
      ·intro w'
       go_simp
       with_reducible rfl
      rotate_left
      ·simp only [Act.put, sA, sB, sC, i64_w, i32_w]
       rfl
      refine take_ (i := 0) (N := some 25) (v := ?_) (a' := ?_) (bl 7 19) rfl rfl (by kernel_rfl) (fun _ _ _ h => h) (Or.inl ⟨by rfl, ?_⟩) ao ?_ ?_; rotate_left
      ·rintro w' ⟨s0, s1, s2, s3⟩
       go_simp
       with_reducible rfl
      rotate_left
      ·simp only [Act.put, sA, sB, sC, i64_w, i32_w]
       rfl
      refine take_ (i := 3) (N := some 28) (v := ?_) (a' := ?_) (bl 7 27) rfl rfl (by kernel_rfl) (fun _ _ _ h => h) (Or.inl ⟨by rfl, ?_⟩) ao ?_ ?_; rotate_left
      ·rintro w' ⟨s0, s1, s2, s3⟩
       go_simp
       with_reducible rfl
      rotate_left
      ·simp only [Act.put, sA, sB, sC, i64_w, i32_w]
       rfl
      refine one_ (i := 2) (N := some 27) (bl 7 31) rfl rfl (by kernel_rfl) (by decide) (fun K hK => ?_); refine gS_ Try.func98 #[.agg #[.bool G, .slice L B.length M], .int .i64 E] ?_
      with_reducible refine (Fib.calls G _ _ B E ai _ ?s1 ?s2 aA.out).mono ?_
      (case s1 => exact cB V HB)
      (case s2 => exact W.out)
      rintro e a9 ⟨rfl, hb⟩; refine ⟨_, rfl, ?_⟩; replace z := kB z hb; replace A := kB A hb; replace HB := hS2 HB F J hb
      (try clear hb)
      (try clear aa)
      (try clear hk)
      (try clear hi)
      refine hK.out _ _ ⟨(QW z.out 0).trans rfl, (QW z.out 1).trans rfl, (QW A.out 0).trans rfl, (QW A.out 1).trans rfl⟩ (fun ao => ?_); clear hK K; refine nm_ 27 ?_; refine one_ (i := 5) (N := some 30) (bl 7 63) rfl rfl (by kernel_rfl) (by decide) (fun K hK => ?_); refine gS_ Try.func98 #[.agg #[.bool I, .slice O D.length P], .int .i64 E] ?_
      with_reducible refine (Fib.calls I _ _ D E aj _ ?s1 ?s2 aB.out).mono ?_
      (case s1 => exact cB Y HB)
      (case s2 => exact Z.out)
      rintro e ba ⟨rfl, hb⟩; refine ⟨_, rfl, ?_⟩; replace z := kB z hb; replace A := kB A hb; replace HB := hS2 HB F J hb
      (try clear hb)
      (try clear aa)
      (try clear hk)
      (try clear hi)
      refine hK.out _ _ ⟨(QW z.out 0).trans rfl, (QW z.out 1).trans rfl, (QW A.out 0).trans rfl, (QW A.out 1).trans rfl⟩ (fun ao => ?_); clear hK K; refine nm_ 30 ?_; refine pure_ (i := 6) (N := some 31) (v := ?_) (a' := ?_) (bl 7 127) rfl rfl (by kernel_rfl) (fun _ _ _ h => h) (Or.inl ⟨by rfl, ?_⟩) ?_ ?_; rotate_left
      ·intro w'
       go_simp
       with_reducible rfl
      rotate_left
      ·simp only [Act.put, sA, sB, sC, i64_w, i32_w]
       rfl
      refine done_ (by kernel_rfl) ?_
      try go_wp2
      go_roundg k1
      case measure => have := bb.out; omega
      case rel => exact ⟨(wrap64 (E - 1)), sI, H', ⟨by have := bb.out; omega⟩, kQ z, kQ A, bT2 HB F J⟩
   ·have aC := decide_eq_false c9; clear c9; obtain rfl := Qx H
    go_wp2
    go_ret
    exact ⟨by first | rfl | (simp [errW_none, errW_some] <;> rfl) | (simp only [← U]; first | rfl | (simp [errW_none, errW_some] <;> rfl)) | (simp [*, errW_none, errW_some] <;> rfl), bS2 HB.out F.out J.out⟩
def Fj.l0 : Nat → List Int → Int → Int → Bool → List Int → Bool → List Int → Option (List Int)
 | 0, _, _, _, _, _, _, _ => none
 | k + 1, x5, x6, x7, x236000, x236001, x237000, x237001 => if x7 < (x236001.length : Int) then ((Fib.f x236000 x236001 x7).bind fun t237 => ((Fib.f x237000 x237001 x7).bind fun t238 => (if x5.length < 17592186044416 then (Fj.l0 k (x5 ++ [Go.bits .and .u64 (IntKind.u64.wrap ((IntKind.u64.wrap ((IntKind.u64.wrap (t237 + 65536)) - t238)) - x6)) 65535]) (IntKind.u64.wrap (1 - ((IntKind.u64.wrap ((IntKind.u64.wrap ((IntKind.u64.wrap (t237 + 65536)) - t238)) - x6)) / 65536))) (wrap64 (x7 + 1)) x236000 x236001 x237000 x237001) else (none)))) else (some x5)
def Fj.f (k : Nat) (a0_0 : Bool) (l0_1 : List Int) (a1_0 : Bool) (l1_1 : List Int) : Option (List Int) := Fj.l0 k ([] : List Int) 0 0 a0_0 l0_1 a1_0 l1_1
theorem Fj.mono_l : ∀ k, (∀ y0 y1 y2 y3 y4 y5 y6, LeO (Fj.l0 k y0 y1 y2 y3 y4 y5 y6) (Fj.l0 (k + 1) y0 y1 y2 y3 y4 y5 y6))
 | 0 => fun _ _ _ _ _ _ _ r h => by simp [Fj.l0] at h
 | k + 1 => by
  have ih0 := Fj.mono_l k
  ·intro y0 y1 y2 y3 y4 y5 y6
   unfold Fj.l0
   repeat' first | (with_reducible first | exact ih0 _ _ _ _ _ _ _ | exact lA | apply lI | refine lB ?_ fun _ => ?_) | exact lN _ | apply lI | refine lB ?_ fun _ => ?_
theorem Fj.mono : ∀ a0 a1 a2 a3 k, LeO (Fj.f k a0 a1 a2 a3) (Fj.f (k + 1) a0 a1 a2 a3) := by
 intro a0 a1 a2 a3 k; have ih0 := Fj.mono_l k
 unfold Fj.f
 repeat' first | (with_reducible first | exact ih0 _ _ _ _ _ _ _ | exact lA | apply lI | refine lB ?_ fun _ => ?_) | exact lN _ | apply lI | refine lB ?_ fun _ => ?_
def Fj.T6 : Bool × List (List Nat × List Nat) := (true, [([], []), ([], []), ([0, 1], [0, 1]), ([2], [2]), ([], []), ([], []), ([4, 5, 2], [4, 5]), ([3, 6], [3, 6]), ([], []), ([7, 8], [7, 8]), ([9, 6, 0, 1, 2, 3, 4, 5, 6, 7, 8, 9], [9])])
def Fj.B6 : List Nat := [0, 0, 3, 7, 0, 0, 55, 127, 0, 511, 1023]
theorem Fj.tab6 : rtab .any (opsOf Try.f80 6) = Fj.T6 := by kernel_rfl
theorem Fj.bits6 : waitsOk Fj.T6.2 Fj.B6 = true := by kernel_rfl
theorem Fj.calls (k : Nat) (J : Bool) (O : Option Addr) (P : Nat) (D : List Int) (L : Bool) (Q : Option Addr) (U : Nat) (F : List Int) (r : List Int) (w : World) (ae : Kd.C (Kd.int .u64) w O D.length D) (af : D.length ≤ P) (ag : Kd.C (Kd.int .u64) w Q F.length F) (ah : F.length ≤ U) (h : Fj.f k J D L F = some r) :
  Calls Try.prog 80 #[.agg #[.bool J, .slice O D.length P], .agg #[.bool L, .slice Q F.length U]] w fun e w' => ∃ aq : Value, e = .returned (aq) ∧ Kd.R (Kd.int .u64) 115 w' w.heap.size (fun _ => True) aq r ∧ Below w.heap.size w w' := by
 have hu73 := Try.underlying73; have aj := aM ae; have ak := aM af; clear ae af; have al := aM ag; have am := aM ah; clear ag ah; have HB := aM (Qg w.heap.size w); rw [Fj.f] at h; have H := h; clear h; have H' := aM H; clear H
 go_enter Try.func80, Try.ntmps80
 go_wp2_with (first | ((with_reducible refine Qa (N := 2) rfl ?_); refine be_ (cs := #[.bool J, .slice O D.length P]) (t := 73) ?_; intro ac hg w3 aR hb; have z := aM (aR); have aJ := gE hg (bP0 HB); have B := gE hg (bP0 HB); replace HB := hS0 HB hb; clear hb aR hg) | ((with_reducible refine Qa (N := 3) rfl ?_); refine be_ (cs := #[.bool L, .slice Q F.length U]) (t := 73) ?_; intro ad hg w4 aR hb; have A := aM (aR); have aK := gE hg (bP1 HB B); have G := gE hg (bP1 HB B); replace HB := hS1 HB B hb; have W := nL hg z; have Y := nG hg z; replace z := kB z hb; clear hb aR hg))
 go_loopg [5, 6, 7] k (fun kq v5 v6 v7 w' => ∃ (V : List Int) (M : Int) (I : Int), v6 = .int .u64 M ∧ v7 = .int .i64 I ∧ Aside0 (Fj.l0 kq V M I J D L F = some r) ∧ Aside0 (kq ≤ k) ∧ RA (Kd.int .u64) 115 w' w v5 V ∧ Aside0 (w'.heap[ac]? = some (.cells #[.bool J, (.slice O D.length P)] 73 (0, 0))) ∧ Aside0 (w'.heap[ad]? = some (.cells #[.bool L, (.slice Q F.length U)] 73 (0, 0))) ∧ BA w w')
 case atStart => exact ⟨(([] : List Int)), (0), (0), sI, sI, H', ⟨Nat.le_refl _⟩, ⟨by first | exact WV _ _ _ _ _ | exact Wu _ _ _ _ _ | exact Wa _ _ _ _ _ | exact Wb _ _ _ _ _ | exact Wy _ _ _ _ _⟩, kQ z, kQ A, bT2 HB B G⟩
 case round =>
  clear H'
  obtain ⟨V, M, I, rfl, rfl, HA, aV, E, z, A, HB⟩ := hrel; cases gk with
  | zero => exact absurd HA.out (by simp [Fj.l0])
  | succ k1 =>
   have H := HA.out; clear HA; simp only [Fj.l0] at H
   apply iB H <;> clear H <;> intro c5 H
   ·have av := dT c5; clear c5; apply bSx H; clear H; intro aa A6 H; apply bSx H; clear H; intro ab A7 H
    apply iN H; clear H; intro c8 H; have aw := aM c8; clear c8; obtain ⟨ax, Z⟩ : ∃ y_ : List Int, y_ = (V ++ [Go.bits .and .u64 (IntKind.u64.wrap ((IntKind.u64.wrap ((IntKind.u64.wrap (aa + 65536)) - ab)) - M)) 65535]) := ⟨_, rfl⟩; first | replace H := rI Z H | rw [← Z] at H; have ao := aM Z; clear Z; have H' := aM H; clear H; have aX := W.out; have aY := Y.out; obtain ⟨ay, az, aA, aC⟩ := bG2 z
    try go_wp2
    replace E := aM (Q4 E.out); replace z := kD z; replace A := kD A; replace HB := aM (below_drew1 HB.out); refine start_ (n := 11) (S := fun w' => w'.cell? ⟨ac, 0, none⟩ = some (.bool J) ∧ w'.cell? ⟨ac, 1, none⟩ = some (.slice O D.length P) ∧ w'.cell? ⟨ad, 0, none⟩ = some (.bool L) ∧ w'.cell? ⟨ad, 1, none⟩ = some (.slice Q F.length U)) (ds := []) (bl 11 0) (by kernel_rfl) rfl rfl ⟨(QW z.out 0).trans rfl, (QW z.out 1).trans rfl, (QW A.out 0).trans rfl, (QW A.out 1).trans rfl⟩ (fun an => ?_); refine with_tabW Fj.tab6 Fj.bits6 (fun ai aU => ?_); generalize wr.drew = a4 at E z A HB an ⊢; refine pu_ 1 17 (bl 11 2) ai ?_; refine pu_ 5 21 (bl 11 34) ai ?_; refine pu_ 8 24 (bl 11 290) ai ?_; refine tk4_ 0 16 (bl 11 291) ai aU an ?_; refine tk4_ 4 20 (bl 11 307) ai aU an ?_; refine one_ (i := 2) (N := some 18) (bl 11 311) rfl rfl (one_of ai.out (by kernel_rfl)) (by decide) (fun K hK => ?_); refine gS_ Try.func98 #[.agg #[.bool J, .slice O D.length P], .int .i64 I] ?_
    with_reducible refine (Fib.calls J _ _ D I aa _ ?s1 ?s2 A6.out).mono ?_
    (case s1 => exact cB aj HB)
    (case s2 => exact ak.out)
    rintro e a5 ⟨rfl, hb⟩; refine ⟨_, rfl, ?_⟩; replace E := rB E hb; replace z := kB z hb; replace A := kB A hb; replace HB := hS2 HB B G hb
    (try clear hb)
    (try clear aI)
    (try clear hk)
    (try clear hi)
    refine hK.out _ _ ⟨(QW z.out 0).trans rfl, (QW z.out 1).trans rfl, (QW A.out 0).trans rfl, (QW A.out 1).trans rfl⟩ (fun an => ?_); clear hK K; refine nm_ 18 ?_; refine pu_ 3 19 (bl 11 319) ai ?_; refine one_ (i := 6) (N := some 22) (bl 11 383) rfl rfl (one_of ai.out (by kernel_rfl)) (by decide) (fun K hK => ?_); refine gS_ Try.func98 #[.agg #[.bool L, .slice Q F.length U], .int .i64 I] ?_
    with_reducible refine (Fib.calls L _ _ F I ab _ ?s1 ?s2 A7.out).mono ?_
    (case s1 => exact cB al HB)
    (case s2 => exact am.out)
    rintro e a6 ⟨rfl, hb⟩; refine ⟨_, rfl, ?_⟩; replace E := rB E hb; replace z := kB z hb; replace A := kB A hb; replace HB := hS2 HB B G hb
    (try clear hb)
    (try clear aI)
    (try clear hk)
    (try clear hi)
    refine hK.out _ _ ⟨(QW z.out 0).trans rfl, (QW z.out 1).trans rfl, (QW A.out 0).trans rfl, (QW A.out 1).trans rfl⟩ (fun an => ?_); clear hK K; refine nm_ 22 ?_; refine pu_ 7 23 (bl 11 511) ai ?_; refine pu_ 9 25 (bl 11 1023) ai ?_; refine pu_ 10 8 (bl 11 2047) ai ?_; refine done_ (done_of ai.out (by kernel_rfl)) ?_
    try go_wp2_with (first | ((with_reducible refine gate_builtin (b := .append) (xs := #[.tmp 26, .tmp 29]) rfl ?_); at_builtin; refine Wo (Kd.int .u64) (w0 := w) w.heap.size rfl (.tmp 26) (.tmp 29) 71 115 (.int .u64 0) 8 rfl Try.underlying71 info115 rfl (by decide) (by omega) u5 V (Go.bits .and .u64 (IntKind.u64.wrap ((IntKind.u64.wrap ((IntKind.u64.wrap (aa + 65536)) - ab)) - M)) 65535) [.int .u64 (Go.bits .and .u64 (IntKind.u64.wrap ((IntKind.u64.wrap ((IntKind.u64.wrap (aa + 65536)) - ab)) - M)) 65535)] (fun _ => True) (fun _ => False) rfl rfl ?aP (fun _ hk => hk.elim) ?aF ?aO ?aB ?aS ?aL ?_; (case aP => exact rfl); (case aB => exact (bP2 HB B G)); (case aF => exact (fun _ _ => trivial)); (case aO => exact (rP E)); (case aS => exact (Qv (bP2 HB B G))); (case aL => have := aw.out; omega); intro aZ a7 ho hb hg hat; rw [← ao.out] at ho; replace z := kG z hg E; replace A := kG A hg E; replace HB := aM (hb); have ap := aM (ho); clear E; clear ho hb hg hat))
    go_roundg k1
    case measure => have := aV.out; omega
    case rel => exact ⟨(ax), (IntKind.u64.wrap (1 - ((IntKind.u64.wrap ((IntKind.u64.wrap ((IntKind.u64.wrap (aa + 65536)) - ab)) - M)) / 65536))), (wrap64 (I + 1)), sI, sI, H', ⟨by have := aV.out; omega⟩, rQ ap, kQ z, kQ A, bT2 HB B G⟩
   ·have av := decide_eq_false c5; clear c5; obtain rfl := Qx H; have aN := W.out; have aQ := Y.out; obtain ⟨aD, aE, aG, aH⟩ := bG2 z
    go_wp2
    go_ret
    exact ⟨_, eW, rO E.out, bS2 HB.out B.out G.out⟩
end Go.Proofs.Ythgoonohpfoagaa.X

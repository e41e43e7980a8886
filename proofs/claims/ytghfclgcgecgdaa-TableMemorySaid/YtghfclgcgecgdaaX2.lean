/- What the functions of this seat compute, and that the program's calls come to just that: written by this session's own program out of the translation; no condition. -/
import Derived.Test.YtghfclgcgecgdaaX0
namespace Go.Proofs.Ytghfclgcgecgdaa.X
open Go.RowKit Go.Proofs.YtghfclgcgecgdaaW.PrintWords Go.Proofs.YtghfclgcgecgdaaW.PrintLast Go.Proofs.YtghfclgcgecgdaaW.PrintMore
attribute [local go_sem] max2_int min2_int max_two min_two max_three min_three max_four min_four
set_option linter.unusedVariables false
set_option linter.unusedSimpArgs false
set_option maxHeartbeats 8000000
set_option maxRecDepth 100000

/-! ### tabardref12_CopyDense: function 10 -/
def tabardref12_CopyDense.l0 : Nat → Int → List ByteArray → List Bool → List (List Int) → List ByteArray → List Bool → List (List Int) → Option (List ByteArray × List Bool × (List (List Int)))
 | 0, _, _, _, _, _, _, _ => none
 | k + 1, x4, x102000, x102001, x102002, x116000, x116001, x116002 => if x4 < (x102002.length : Int) then ((some (([] : List Int) : List Int)).bind fun y116 => (if 0 ≤ x4 then (if y116.length + (rd_L1 x102002 x4).length < 17592186044416 then (if x116002.length < 5864062014805 then (tabardref12_CopyDense.l0 k (wrap64 (x4 + 1)) x102000 x102001 x102002 x116000 x116001 (x116002 ++ [(y116 ++ (rd_L1 x102002 x4))])) else (none)) else (none)) else (none))) else (some (x116000, x116001, x116002))
def tabardref12_CopyDense.f (k : Nat) (l0_0 : List ByteArray) (l0_1 : List Bool) (l0_2 : List (List Int)) : Option (List ByteArray × List Bool × (List (List Int))) := (some (([] : List ByteArray) : List ByteArray)).bind fun y103 => (if y103.length + l0_0.length < 8796093022208 then ((some (([] : List Bool) : List Bool)).bind fun y109 => (if y109.length + l0_1.length < 140737488355328 then (tabardref12_CopyDense.l0 k 0 l0_0 l0_1 l0_2 (y103 ++ l0_0) (y109 ++ l0_1) ([] : List (List Int))) else (none))) else (none))
theorem tabardref12_CopyDense.mono_l : ∀ k, (∀ y0 y1 y2 y3 y4 y5 y6, LeO (tabardref12_CopyDense.l0 k y0 y1 y2 y3 y4 y5 y6) (tabardref12_CopyDense.l0 (k + 1) y0 y1 y2 y3 y4 y5 y6))
 | 0 => fun _ _ _ _ _ _ _ r h => by simp [tabardref12_CopyDense.l0] at h
 | k + 1 => by
  have ih0 := tabardref12_CopyDense.mono_l k
  ·intro y0 y1 y2 y3 y4 y5 y6
   unfold tabardref12_CopyDense.l0
   repeat' first | (with_reducible first | exact ih0 _ _ _ _ _ _ _ | exact lA | apply lI | refine lB ?_ fun _ => ?_) | exact lN _ | apply lI | refine lB ?_ fun _ => ?_
theorem tabardref12_CopyDense.mono : ∀ a0 a1 a2 k, LeO (tabardref12_CopyDense.f k a0 a1 a2) (tabardref12_CopyDense.f (k + 1) a0 a1 a2) := by
 intro a0 a1 a2 k; have ih0 := tabardref12_CopyDense.mono_l k
 unfold tabardref12_CopyDense.f
 repeat' first | (with_reducible first | exact ih0 _ _ _ _ _ _ _ | exact lA | apply lI | refine lB ?_ fun _ => ?_) | exact lN _ | apply lI | refine lB ?_ fun _ => ?_
def tabardref12_CopyDense.T1 : Bool × List (List Nat × List Nat) := (true, [([], []), ([], []), ([1], [1]), ([0, 2], [0, 2]), ([], []), ([], []), ([5], [5]), ([4, 6, 3], [4, 6]), ([3, 7], [3, 7]), ([], []), ([9, 8, 7, 0, 1, 2, 3, 4, 5, 6, 7, 8, 9], [8, 9])])
def tabardref12_CopyDense.B1 : List Nat := [0, 0, 2, 7, 0, 0, 32, 127, 255, 0, 1023]
theorem tabardref12_CopyDense.tab1 : rtab .any (opsOf Try.f10 1) = tabardref12_CopyDense.T1 := by kernel_rfl
theorem tabardref12_CopyDense.bits1 : waitsOk tabardref12_CopyDense.T1.2 tabardref12_CopyDense.B1 = true := by kernel_rfl
def tabardref12_CopyDense.T5 : Bool × List (List Nat × List Nat) := (true, [([], []), ([0], [0]), ([], []), ([], []), ([3], [3]), ([], []), ([4, 5], [4, 5]), ([6], [6]), ([2, 7], [2, 7]), ([8], [8]), ([1, 9, 8], [1, 9]), ([0, 1, 2, 3, 4, 5, 6, 7, 8, 9, 10], []), ([11, 10, 10, 0, 1, 2, 3, 4, 5, 6, 7, 8, 9, 10], [10, 11])])
def tabardref12_CopyDense.B5 : List Nat := [0, 1, 0, 0, 8, 0, 56, 120, 252, 508, 1023, 2047, 4095]
theorem tabardref12_CopyDense.tab5 : rtab .any (opsOf Try.f10 5) = tabardref12_CopyDense.T5 := by kernel_rfl
theorem tabardref12_CopyDense.bits5 : waitsOk tabardref12_CopyDense.T5.2 tabardref12_CopyDense.B5 = true := by kernel_rfl
theorem tabardref12_CopyDense.calls (k : Nat) (ay : Option Addr) (az : Nat) (ac : List ByteArray) (aA : Option Addr) (aC : Nat) (ad : List Bool) (aQ : Option Addr) (aD : Nat) (ai : List (List Int)) (r1 : List ByteArray) (r2 : List Bool) (r3 : List (List Int)) (w : World) (bG : Kd.C Kd.string w ay ac.length ac) (bH : ac.length ≤ az) (bI : Kd.C Kd.bool w aA ad.length ad) (bJ : ad.length ≤ aC) (bK : Kd.C (Kd.slice 3 (Kd.int .i64)) w aQ ai.length ai) (bL : ai.length ≤ aD) (h : tabardref12_CopyDense.f k ac ad ai = some (r1, r2, r3)) :
  Calls Try.prog 10 #[.agg #[.slice ay ac.length az, .slice aA ad.length aC, .slice aQ ai.length aD]] w fun e w' => ∃ cl cm cn : Value, e = .returned (.agg #[cl, cm, cn]) ∧ Kd.R Kd.string 9 w' w.heap.size (fun _ => True) cl r1 ∧ Kd.R Kd.bool 4 w' w.heap.size (fun _ => True) cm r2 ∧ Kd.S (Kd.slice 3 (Kd.int .i64)) 29 w' w.heap.size (fun _ => True) cn r3 ∧ Below w.heap.size w w' := by
 have hu26 := Try.underlying26; have aZ := aM bG; have c7 := aM bH; clear bG bH; have bM := aM bI; have c8 := aM bJ; clear bI bJ; have cb := aM bK; have c9 := aM bL; clear bK bL; have HB := aM (Below.refl w.heap.size w); rw [tabardref12_CopyDense.f] at h; have H := h; clear h; obtain ⟨aw, bq⟩ : ∃ y_ : List ByteArray, y_ = (([] : List ByteArray)) := ⟨_, rfl⟩
 replace H : (if aw.length + ac.length < 8796093022208 then ((some (([] : List Bool) : List Bool)).bind fun ao => (if ao.length + ad.length < 140737488355328 then (tabardref12_CopyDense.l0 k 0 ac ad ai (aw ++ ac) (ao ++ ad) ([] : List (List Int))) else (none))) else (none)) = some (r1, r2, r3) := rH bq H
 have a3 := aM bq; clear bq
 apply iN H; clear H; intro c2 H; have br := aM c2; clear c2; obtain ⟨ak, a4⟩ : ∃ y_ : List ByteArray, y_ = (aw ++ ac) := ⟨_, rfl⟩
 first | replace H := rI a4 H | rw [← a4] at H
 have a5 := aM a4; clear a4; obtain ⟨ao, bs⟩ : ∃ y_ : List Bool, y_ = (([] : List Bool)) := ⟨_, rfl⟩
 replace H : (if ao.length + ad.length < 140737488355328 then (tabardref12_CopyDense.l0 k 0 ac ad ai ak (ao ++ ad) ([] : List (List Int))) else (none)) = some (r1, r2, r3) := rH bs H
 have aJ := aM bs; clear bs
 apply iN H; clear H; intro c3 H; have bZ := aM c3; clear c3; obtain ⟨ax, a6⟩ : ∃ y_ : List Bool, y_ = (ao ++ ad) := ⟨_, rfl⟩
 first | replace H := rI a6 H | rw [← a6] at H
 have bN := aM a6; clear a6; have H' := aM H; clear H
 go_enter Try.func10, Try.ntmps10
 try go_wp2_with (first | ((with_reducible refine gate_dst (N := 1) rfl ?_); refine be_ (cs := #[.slice ay ac.length az, .slice aA ad.length aC, .slice aQ ai.length aD]) (t := 26) ?_; intro Y hg w4 ap hb; have z := aM (ap); have da := gE hg (bP0 HB); have E := gE hg (bP0 HB); replace HB := hS0 HB hb; clear hb ap hg) | ((with_reducible refine gate_dst (N := 2) rfl ?_); refine be_ (cs := #[.slice none 0 0, .slice none 0 0, .slice none 0 0]) (t := 26) ?_; intro ae hg w5 ap hb; have A := aM (ap); have db := gE hg (bP1 HB E); have F := gE hg (bP1 HB E); replace HB := hS1 HB E hb; have aX := nL hg z; have aY := nG hg z; replace z := kB z hb; clear hb ap hg))
 replace z := kD z; replace A := kD A; replace HB := aM (below_drew1 HB.out); refine start_ (n := 11) (S := fun w' => w'.cell? ⟨Y, 0, none⟩ = some (.slice ay ac.length az) ∧ w'.cell? ⟨Y, 1, none⟩ = some (.slice aA ad.length aC) ∧ w'.cell? ⟨Y, 2, none⟩ = some (.slice aQ ai.length aD)) (ds := []) (bl 11 0) (by kernel_rfl) rfl rfl (bD3 z) (fun ag => ?_); refine with_tabW tabardref12_CopyDense.tab1 tabardref12_CopyDense.bits1 (fun ah aq => ?_); generalize w5.drew = w6 at z A HB ag ⊢; refine pu_ 1 6 (bl 11 2) ah ?_; refine pu_ 5 10 (bl 11 34) ah ?_; refine tk3_ 2 7 (bl 11 38) ah aq ag ?_; refine tk3_ 6 11 (bl 11 102) ah aq ag ?_; let q_1 : World → Prop := fun w' => w'.cell? ⟨Y, 0, none⟩ = some (.slice ay ac.length az) ∧ w'.cell? ⟨Y, 1, none⟩ = some (.slice aA ad.length aC) ∧ w'.cell? ⟨Y, 2, none⟩ = some (.slice aQ ai.length aD); let q_2 : World → Prop := fun w' => Aside0 (w'.heap[Y]? = some (.cells #[.slice ay ac.length az, .slice aA ad.length aC, .slice aQ ai.length aD] 26 (0, 0))); let q_3 : World → Prop := fun w' => Aside0 (w'.heap[ae]? = some (.cells #[.slice none 0 0, .slice none 0 0, .slice none 0 0] 26 (0, 0))); refine join_ (σ := Value × Value × Value × Value × Nat) 1 (bl 11 1023) (fun s_ => [(5, s_.1), (8, s_.2.1), (9, s_.2.2.1), (12, s_.2.2.2.1), (3, .pointer (some ⟨s_.2.2.2.2, 0, none⟩)), (13, .agg #[s_.2.1, s_.2.2.2.1, .slice none 0 0])]) (fun s_ w' => (q_1 w') ∧ (RA Kd.string 9 w' w s_.2.1 ak) ∧ (RA Kd.bool 4 w' w s_.2.2.2.1 ax) ∧ (q_2 w') ∧ (q_3 w') ∧ (Aside0 (w'.heap[s_.2.2.2.2]? = some (.cells #[.slice none 0 0, .slice none 0 0, .slice none 0 0] 26 (0, 0)))) ∧ (Aside0 (w.heap.size ≤ s_.2.2.2.2)) ∧ (Aside0 (w.heap.size ≤ s_.2.2.2.2)) ∧ (Aside0 (Y ≠ s_.2.2.2.2)) ∧ (Aside0 (s_.2.2.2.2 ≠ Y)) ∧ (Aside0 (ae ≠ s_.2.2.2.2)) ∧ (Aside0 (s_.2.2.2.2 ≠ ae)) ∧ BA w w') ?_ ?_
 ·clear z A HB; rintro ⟨W, al, Z, bx, P⟩ b0 ⟨ag, Q, aj, z, A, D, U, I, B, J, G, L, HB⟩; (try dsimp only at ag Q aj z A D U I B J G L HB); obtain ⟨aT, aU, bb⟩ := sL aj
  (first | subst bb | obtain ⟨rfl, rfl⟩ := iS bb)
  obtain ⟨bc, bd, b1⟩ := sL Q
  (first | subst b1 | obtain ⟨rfl, rfl⟩ := iS b1)
  refine norm_ (a' := ?_) ?_ ?_; rotate_left
  ·simp only [putAll, Act.put, sA, sB, sC]
   rfl
  refine one_ (i := 10) (N := none) (bl 11 2047) rfl rfl (one_of ah.out (by kernel_rfl)) (by decide) (fun K hK => ?_); have hs19 : b0.cell? ⟨P, 0, none⟩ = some (.slice none 0 0) := (blk_cell D.out 0).trans rfl; have hfs19 := blk_frozen D.out 0; have hns19_0 := B.out; have hns19_1 := G.out; have hms19_0 := J.out; have hms19_1 := L.out; have hs20 : b0.cell? ⟨P, 1, none⟩ = some (.slice none 0 0) := (blk_cell D.out 1).trans rfl; have hfs20 := blk_frozen D.out 1; have hns20_0 := B.out; have hns20_1 := G.out; have hms20_0 := J.out; have hms20_1 := L.out; have hs21 : b0.cell? ⟨P, 2, none⟩ = some (.slice none 0 0) := (blk_cell D.out 2).trans rfl; have hfs21 := blk_frozen D.out 2; have hns21_0 := B.out; have hns21_1 := G.out; have hms21_0 := J.out; have hms21_1 := L.out; refine skip_ (w1 := ?_) (by rfl) rfl ?_ ?_; rotate_left
  ·go_simp
   rfl
  refine hK.out _ _ ⟨((cell_far (p := ⟨P, _, none⟩) B.out _).trans (((cell_far (p := ⟨P, _, none⟩) B.out _).trans (((cell_far (p := ⟨P, _, none⟩) B.out _).trans (ag.1)))))), ((cell_far (p := ⟨P, _, none⟩) B.out _).trans (((cell_far (p := ⟨P, _, none⟩) B.out _).trans (((cell_far (p := ⟨P, _, none⟩) B.out _).trans (ag.2.1)))))), ((cell_far (p := ⟨P, _, none⟩) B.out _).trans (((cell_far (p := ⟨P, _, none⟩) B.out _).trans (((cell_far (p := ⟨P, _, none⟩) B.out _).trans (ag.2.2))))))⟩ (fun ag => ?_); clear hK K; refine done_ (done_of ah.out (by kernel_rfl)) ?_
  try go_wp2
  go_loopg [4] k (fun kq v4 w' => ∃ (au : Int) (am : List (List Int)) (an : Value), v4 = .int .i64 au ∧ Aside0 (tabardref12_CopyDense.l0 kq au ac ad ai ak ax am = some (r1, r2, r3)) ∧ Aside0 (kq ≤ k) ∧ RA Kd.string 9 w' w (.slice bc ak.length bd) ak ∧ RA Kd.bool 4 w' w (.slice aT ax.length aU) ax ∧ Aside0 (Kd.S (Kd.slice 3 (Kd.int .i64)) 29 w' w.heap.size (fun _ => True) an am) ∧ Aside0 (w'.heap[Y]? = some (.cells #[(.slice ay ac.length az), (.slice aA ad.length aC), (.slice aQ ai.length aD)] 26 (0, 0))) ∧ Aside0 (w'.heap[ae]? = some (.cells #[(.slice none 0 0), (.slice none 0 0), (.slice none 0 0)] 26 (0, 0))) ∧ Aside0 (w'.heap[P]? = some (.cells #[(.slice bc ak.length bd), (.slice aT ax.length aU), an] 26 (0, 0))) ∧ BA w w')
  case atStart => exact ⟨(0), (([] : List (List Int))), (.slice none 0 0), sI, H', ⟨Nat.le_refl _⟩, ⟨rZ Q D⟩, ⟨rZ aj D⟩, ⟨by first | exact Kd.S_nil _ _ _ _ _ | exact Kd.N_nil _ _ _ _ _ | exact Kd.V_nil _ _ _ _ _ | exact Kd.Q_nil _ _ _ _ _ | exact Kd.R_nil _ _ _ _ _⟩, ⟨kN z B⟩, ⟨kN A G⟩, ⟨by (with_reducible repeat (first | refine blk_drewN ?_ _ | refine blk_drew ?_ | refine blk_alloc ?_ _)); exact blk_put (blk_put (blk_put D.out 0 _ rfl) 1 _ rfl) 2 _ rfl⟩, bT3 HB E F I⟩
  case round =>
   clear H'
   obtain ⟨au, am, an, rfl, HA, bW, aa, ab, V, z, A, D, HB⟩ := hrel; cases gk with
   | zero => exact absurd HA.out (by simp [tabardref12_CopyDense.l0])
   | succ k1 =>
    have H := HA.out; clear HA; simp only [tabardref12_CopyDense.l0] at H
    apply iB H <;> clear H <;> intro bi H
    ·have ce := dT bi; clear bi; obtain ⟨bz, a7⟩ : ∃ y_ : List Int, y_ = (([] : List Int)) := ⟨_, rfl⟩
     first | replace H := rI a7 H | rw [← a7] at H
     have cf := aM a7; clear a7
     apply iN H; clear H; intro bO H; have dc := dT bO; clear bO
     apply iN H; clear H; intro bP H; have cg := aM bP; clear bP; obtain ⟨bt, a8⟩ : ∃ y_ : List Int, y_ = (bz ++ (rd_L1 ai au)) := ⟨_, rfl⟩
     first | replace H := rI a8 H | rw [← a8] at H
     have ch := aM a8; clear a8
     apply iN H; clear H; intro bQ H; have ci := aM bQ; clear bQ; obtain ⟨b2, a9⟩ : ∃ y_ : List (List Int), y_ = (am ++ [bt]) := ⟨_, rfl⟩
     first | replace H := rI a9 H | rw [← a9] at H
     have cj := aM a9; clear a9; have H' := aM H; clear H; have dd := aX.out; have de := aY.out; have df := B.out; have dg := J.out; obtain ⟨cz, cA, cB, cC, cD, cE⟩ := bG3 z
     try go_wp2
     replace aa := aM (Kd.R_drew aa.out); replace ab := aM (Kd.R_drew ab.out); replace V := aM (Kd.S_drew V.out); replace z := kD z; replace A := kD A; replace D := kD D; replace HB := aM (below_drew1 HB.out); have bA : 0 ≤ (au : Int) := oT aO; have bB : au < (ai.length : Int) := oT aO; obtain ⟨bu, b3, b4, co, aK, bj, bk⟩ := at_L1 cb.out au bA bB; have af := aK; cases co; replace aK := cX HB aK; have bm := aM bk; have cF := aM bj; clear bk bj; replace bA := eq_true bA; replace bB := eq_true bB; refine start_ (n := 13) (S := fun w' => w'.cell? ⟨P, 0, none⟩ = some (.slice bc ak.length bd) ∧ w'.cell? ⟨P, 1, none⟩ = some (.slice aT ax.length aU) ∧ w'.cell? ⟨P, 2, none⟩ = some (an) ∧ w'.cell? ⟨Y, 0, none⟩ = some (.slice ay ac.length az) ∧ w'.cell? ⟨Y, 1, none⟩ = some (.slice aA ad.length aC) ∧ w'.cell? ⟨Y, 2, none⟩ = some (.slice (some bu) ai.length aD) ∧ w'.cell? (bu.add (au).toNat) = some (.slice b3 (rd_L1 ai au).length b4)) (ds := [12]) (bl 13 0) (by kernel_rfl) rfl rfl ⟨(blk_cell D.out 0).trans rfl, (blk_cell D.out 1).trans rfl, (blk_cell D.out 2).trans rfl, (blk_cell z.out 0).trans rfl, (blk_cell z.out 1).trans rfl, (blk_cell z.out 2).trans rfl, ((HB.out.cell (World.block_lt_of_cell? w _ af)).trans af)⟩ (fun ag => ?_); refine with_tabW tabardref12_CopyDense.tab5 tabardref12_CopyDense.bits5 (fun ah aq => ?_); generalize wr.drew = dt at aa ab V z A D HB bm aK ag ⊢; refine pu_ 0 21 (bl 13 1) ah ?_; refine pu_ 3 24 (bl 13 9) ah ?_; refine pu_ 5 26 (bl 13 41) ah ?_; refine tk7_ 1 22 (bl 13 43) ah aq ag ?_; refine tk7_ 4 25 (bl 13 59) ah aq ag ?_; refine pu_ 6 27 (bl 13 123) ah ?_; refine tk7_ 7 28 (bl 13 251) ah aq ag ?_; refine one_ (i := 2) (N := some 23) (bl 13 255) rfl rfl (one_of ah.out (by kernel_rfl)) (by decide) (fun K hK => ?_); refine lt_ (Kd.int .i64) 3 23 ([] : List Int) [] (Reps.none _ _) ?_; intro cp du be hb
     replace be := nW cf be
     replace aa := rB aa hb; replace ab := rB ab hb; replace V := aM (Kd.S_elder' (by (with_reducible repeat (first | apply Kd.S_alloc | apply Kd.S_drewN | apply Kd.S_drew)); exact V.out) (Kd.R_base be) hb); have aE := rW be (bP3 HB E F I); replace z := kB z hb; replace A := kB A hb; replace D := kB D hb; replace HB := hS3 HB E F I hb; clear hb be; refine hK.out _ _ ⟨(blk_cell D.out 0).trans rfl, (blk_cell D.out 1).trans rfl, (blk_cell D.out 2).trans rfl, (blk_cell z.out 0).trans rfl, (blk_cell z.out 1).trans rfl, (blk_cell z.out 2).trans rfl, ((HB.out.cell (World.block_lt_of_cell? w _ af)).trans af)⟩ (fun ag => ?_); clear hK K; refine nm_ 23 ?_; refine one_ (i := 8) (N := some 29) (bl 13 511) rfl rfl (one_of ah.out (by kernel_rfl)) (by decide) (fun K hK => ?_); refine Kd.R_append_rows_step (Kd.int .i64) (w0 := w) w.heap.size (by rfl) (.tmp 23) (.tmp 28) 29 3 (.int .i64 0) 8 rfl Try.underlying29 info3 rfl (by decide) (by omega) cp bz (rd_L1 ai au) _ _ _ (fun _ => True) (fun _ => False) rfl rfl ?aO ?aR (fun _ _ h => h) (fun _ h => h.elim) ?aF ?aB ?aS ?aL ?_
     (case aR => exact cO (Kd.C_below bm.out HB.out))
     (case aB => exact (bP3 HB E F I))
     (case aF => exact (fun _ _ => trivial))
     (case aO => exact (rP aE))
     (case aS => exact (below_size (bP3 HB E F I)))
     (case aL => have := cg.out; omega)
     intro dq dv ho hb hg hat; rw [← ch.out] at ho; replace aa := aM (Kd.R_over' (rP aa) (Kd.R_typed (rP aE)) (by decide) hg); replace ab := aM (Kd.R_over' (rP ab) (Kd.R_typed (rP aE)) (by decide) hg); replace V := aM (Kd.S_after (ok := (fun _ => True)) (by (with_reducible repeat (first | apply Kd.S_alloc | apply Kd.S_drewN | apply Kd.S_drew)); exact V.out) hg hat); replace z := kG z hg aE; replace A := kG A hg aE; replace D := kG D hg aE; replace HB := aM (hb); have ba := aM (ho); clear aE; clear ho hb hg hat; obtain ⟨b5, b6, b7⟩ := sL ba
     (first | subst b7 | obtain ⟨rfl, rfl⟩ := iS b7)
     refine hK.out _ _ ⟨(blk_cell D.out 0).trans rfl, (blk_cell D.out 1).trans rfl, (blk_cell D.out 2).trans rfl, (blk_cell z.out 0).trans rfl, (blk_cell z.out 1).trans rfl, (blk_cell z.out 2).trans rfl, ((HB.out.cell (World.block_lt_of_cell? w _ af)).trans af)⟩ (fun ag => ?_); clear hK K; refine nm_ 29 ?_; refine one_ (i := 9) (N := some 30) (bl 13 1023) rfl rfl (one_of ah.out (by kernel_rfl)) (by decide) (fun K hK => ?_); refine value_ (w1 := ?_) (v := ?_) (by rfl) rfl ?_ ?_; rotate_left 2
     ·go_simp
      constructor
      ·rfl
      ·rfl
     refine hK.out _ _ ⟨(blk_cell (blk_alloc D.out _) 0).trans rfl, (blk_cell (blk_alloc D.out _) 1).trans rfl, (blk_cell (blk_alloc D.out _) 2).trans rfl, (blk_cell (blk_alloc z.out _) 0).trans rfl, (blk_cell (blk_alloc z.out _) 1).trans rfl, (blk_cell (blk_alloc z.out _) 2).trans rfl, (World.cell?_alloc_lt _ _ _ (World.block_lt_of_cell? _ _ (((HB.out.cell (World.block_lt_of_cell? w _ af)).trans af)))).trans (((HB.out.cell (World.block_lt_of_cell? w _ af)).trans af))⟩ (fun ag => ?_); clear hK K; refine nm_ 30 ?_; refine one_ (i := 10) (N := some 31) (bl 13 2047) rfl rfl (one_of ah.out (by kernel_rfl)) (by decide) (fun K hK => ?_); refine Kd.S_append_step (Kd.slice 3 (Kd.int .i64)) (w0 := w) w.heap.size (by rfl) (.tmp 22) (.tmp 30) 24 29 (.slice none 0 0) 24 rfl Try.underlying24 info29 rfl (by decide) (by omega) an am bt [.slice b5 bt.length b6] (fun _ => True) (fun k_ => some k_ = (.slice b5 bt.length b6 : Value).ownBlock) rfl rfl ?aP (fun k_ hk_ => ((Kd.R_mono (ok' := fun k_ => ((fun _ => True)) k_ ∧ some k_ ≠ (an : Value).ownBlock) (Kd.R_apart' (ba.out) (Kd.S_typed V.out) (by decide)) (fun k_ hk => ⟨trivial, hk.2⟩))).1 k_ hk_.symm) ?aF ?aO ?aB ?aS ?aL ?_
     (case aP => exact Kd.M_row (Kd.R_mono (Kd.R_tight rfl (Kd.R_mono (ok' := fun k_ => ((fun _ => True)) k_ ∧ some k_ ≠ (an : Value).ownBlock) (Kd.R_apart' (ba.out) (Kd.S_typed V.out) (by decide)) (fun k_ hk => ⟨trivial, hk.2⟩))) (fun _ h_ => h_)))
     (case aB => exact (bP3 HB E F I))
     (case aF => exact (fun _ _ => trivial))
     (case aO => exact (by (with_reducible repeat (first | apply Kd.S_alloc | apply Kd.S_drewN | apply Kd.S_drew)); exact Kd.S_mono V.out (fun k_ hk => ⟨trivial, fun e_ => hk.2 e_⟩)))
     (case aS => exact (below_size (bP3 HB E F I)))
     (case aL => have := ci.out; omega)
     intro dr c0 ho hb hg hat; rw [← cj.out] at ho; replace aa := aM (Kd.R_over' (rP aa) (Kd.S_typed (by (with_reducible repeat (first | apply Kd.S_alloc | apply Kd.S_drewN | apply Kd.S_drew)); exact V.out)) (by decide) hg); replace ab := aM (Kd.R_over' (rP ab) (Kd.S_typed (by (with_reducible repeat (first | apply Kd.S_alloc | apply Kd.S_drewN | apply Kd.S_drew)); exact V.out)) (by decide) hg); replace z := aM (blk_grown (g := Y) (o := .cells #[.slice ay ac.length az, .slice aA ad.length aC, .slice (some bu) ai.length aD] 26 (0, 0)) (kO z.out) hg (Kd.S_ne V.out z.out (by decide))); replace A := aM (blk_grown (g := ae) (o := .cells #[.slice none 0 0, .slice none 0 0, .slice none 0 0] 26 (0, 0)) (kO A.out) hg (Kd.S_ne V.out A.out (by decide))); replace D := aM (blk_grown (g := P) (o := .cells #[.slice bc ak.length bd, .slice aT ax.length aU, an] 26 (0, 0)) (kO D.out) hg (Kd.S_ne V.out D.out (by decide))); replace HB := aM (hb); have bR := aM (ho); clear V; clear ba; clear ho hb hg hat; obtain ⟨cq, cr, b8⟩ := Kd.S_slice bR.out
     (first | subst b8 | obtain ⟨rfl, rfl⟩ := iS b8)
     refine hK.out _ _ ⟨(blk_cell D.out 0).trans rfl, (blk_cell D.out 1).trans rfl, (blk_cell D.out 2).trans rfl, (blk_cell z.out 0).trans rfl, (blk_cell z.out 1).trans rfl, (blk_cell z.out 2).trans rfl, ((HB.out.cell (World.block_lt_of_cell? w _ af)).trans af)⟩ (fun ag => ?_); clear hK K; refine nm_ 31 ?_; refine pu_ 11 32 (bl 13 4095) ah ?_; refine last_ (i := 12) (N := none) (bl 13 8191) rfl rfl (one_of ah.out (by kernel_rfl)) (by decide) (fun K hK => ?_); have hs36 : c0.cell? ⟨P, 2, none⟩ = some (an) := (blk_cell D.out 2).trans rfl; have hfs36 := blk_frozen D.out 2; have hns36_0 := B.out; have hns36_1 := G.out; have hms36_0 := J.out; have hms36_1 := L.out; refine skip_ (w1 := ?_) (by rfl) rfl ?_ ?_; rotate_left
     ·go_simp
      rfl
     refine hK.out _ _ ?_; clear hK K; refine done_ (done_of ah.out (by kernel_rfl)) ?_
     try go_wp2
     go_roundg k1
     case measure => have := bW.out; omega
     case rel => exact ⟨(wrap64 (au + 1)), (b2), (.slice cq b2.length cr), sI, H', ⟨by have := bW.out; omega⟩, ⟨rZ aa D⟩, ⟨rZ ab D⟩, ⟨sZ bR D⟩, ⟨kN z B⟩, ⟨kN A G⟩, ⟨by (with_reducible repeat (first | refine blk_drewN ?_ _ | refine blk_drew ?_ | refine blk_alloc ?_ _)); exact blk_put D.out 2 _ rfl⟩, bT3 HB E F I⟩
    ·have ce := decide_eq_false bi; clear bi; obtain ⟨rfl, rfl, rfl⟩ := pE3 H; have dh := aX.out; have di := aY.out; have dj := B.out; have dk := J.out; obtain ⟨cG, cH, cI, cJ, cK, cL⟩ := bG3 z; have dl := L.out; have dm := G.out; obtain ⟨cM, cN, cP, cQ, cR, cS⟩ := bG3 D; obtain ⟨cT, cU, cV, cW, cY, cZ⟩ := bG3 A; obtain ⟨ct, cu, cv⟩ := Kd.S_slice V.out; subst cv
     go_wp2
     refine bodyPost_ret (results_cell_row rfl _ _ ae 26 #[.slice bc ak.length bd, .slice aT ax.length aU, .slice ct am.length cu] (0, 0) _ rfl (by (with_reducible repeat (first | refine blk_drewN ?_ _ | refine blk_drew ?_ | refine blk_alloc ?_ _)); exact blk_put (blk_put (blk_put A.out 0 _ rfl) 1 _ rfl) 2 _ rfl) Try.underlying26 rfl (by kernel_rfl)) rfl ?_; exact ⟨_, _, _, eW, rZ aa A, rZ ab A, sZ V A, bS3 HB.out E.out F.out I.out⟩
 intro aN; refine join_ (σ := Value × Value × Value × Value) 2 (bl 11 511) (fun s_ => [(5, s_.1), (8, s_.2.1), (9, s_.2.2.1), (12, s_.2.2.2), (13, .agg #[s_.2.1, s_.2.2.2, .slice none 0 0])]) (fun s_ w' => (q_1 w') ∧ (RA Kd.string 9 w' w s_.2.1 ak) ∧ (RA Kd.bool 4 w' w s_.2.2.2 ax) ∧ (q_2 w') ∧ (q_3 w') ∧ BA w w') ?_ ?_
 ·clear z A HB; rintro ⟨W, al, Z, bx⟩ dw ⟨ag, Q, aj, z, A, HB⟩; (try dsimp only at ag Q aj z A HB); obtain ⟨bC, bD, bf⟩ := sL aj
  (first | subst bf | obtain ⟨rfl, rfl⟩ := iS bf)
  obtain ⟨aT, aU, bb⟩ := sL Q
  (first | subst bb | obtain ⟨rfl, rfl⟩ := iS bb)
  refine norm_ (a' := ?_) ?_ ?_; rotate_left
  ·simp only [putAll, Act.put, sA, sB, sC]
   rfl
  refine one_ (i := 9) (N := some 3) (bl 11 1023) rfl rfl (one_of ah.out (by kernel_rfl)) (by decide) (fun K hK => ?_); refine bs_ (cs := #[.slice none 0 0, .slice none 0 0, .slice none 0 0]) (t := 26) ?_; intro P hg dx ap hb; replace Q := rB Q hb; replace aj := rB aj hb; have D := aM (ap); have U := gE hg (bP2 HB E F); have I := gE hg (bP2 HB E F); replace HB := hS2 HB E F hb; have B := nL hg z; have J := nG hg z; replace z := kB z hb; have G := nL hg A; have L := nG hg A; replace A := kB A hb; clear hb ap hg; refine hK.out _ _ (bD3 z) (fun ag => ?_); clear hK K; refine nm_ 3 ?_; exact norm_ pO (aN (W, .slice aT ak.length aU, Z, .slice bC ax.length bD, P) _ ⟨ag, rQ Q, rQ aj, kQ z, kQ A, kQ D, U, I, B, J, G, L, bT3 HB E F I⟩)
 intro bw; refine join_ (σ := Value × Value × Value × Nat) 3 (bl 11 639) (fun s_ => [(5, s_.1), (8, s_.2.1), (9, s_.2.2.1), (3, .pointer (some ⟨s_.2.2.2, 0, none⟩))]) (fun s_ w' => (q_1 w') ∧ (RA Kd.string 9 w' w s_.2.1 ak) ∧ (RA Kd.bool 4 w' w s_.2.2.1 ao) ∧ (q_2 w') ∧ (q_3 w') ∧ (Aside0 (w'.heap[s_.2.2.2]? = some (.cells #[.slice none 0 0, .slice none 0 0, .slice none 0 0] 26 (0, 0)))) ∧ (Aside0 (w.heap.size ≤ s_.2.2.2)) ∧ (Aside0 (w.heap.size ≤ s_.2.2.2)) ∧ (Aside0 (Y ≠ s_.2.2.2)) ∧ (Aside0 (s_.2.2.2 ≠ Y)) ∧ (Aside0 (ae ≠ s_.2.2.2)) ∧ (Aside0 (s_.2.2.2 ≠ ae)) ∧ BA w w') ?_ ?_
 ·clear z A HB; rintro ⟨W, al, Z, P⟩ b9 ⟨ag, Q, M, z, A, D, U, I, B, J, G, L, HB⟩; (try dsimp only at ag Q M z A D U I B J G L HB); refine norm_ (a' := ?_) ?_ ?_; rotate_left
  ·simp only [putAll, Act.put, sA, sB, sC]
   rfl
  refine one_ (i := 7) (N := some 12) (bl 11 767) rfl rfl (one_of ah.out (by kernel_rfl)) (by decide) (fun K hK => ?_); refine Kd.R_append_rows_step Kd.bool (w0 := w) w.heap.size (by rfl) (.tmp 9) (.tmp 11) 23 4 (.bool false) 1 rfl Try.underlying23 info4 rfl (by decide) (by omega) Z ao ad _ _ _ (fun _ => True) (fun _ => False) rfl rfl ?aO ?aR (fun _ _ h => h) (fun _ h => h.elim) ?aF ?aB ?aS ?aL ?_
  (case aR => exact cO (Kd.C_below bM.out HB.out))
  (case aB => exact (bP3 HB E F I))
  (case aF => exact (fun _ _ => trivial))
  (case aO => exact (rP M))
  (case aS => exact (below_size (bP3 HB E F I)))
  (case aL => have := bZ.out; omega)
  intro bx dy ho hb hg hat; rw [← bN.out] at ho; replace z := kG z hg M; replace A := kG A hg M; replace Q := aM (Kd.R_over' (rP Q) (Kd.R_typed (rP M)) (by decide) hg); replace D := kG D hg M; replace HB := aM (hb); have aj := aM (ho); clear M; clear ho hb hg hat; obtain ⟨bE, bF, bg⟩ := sL aj
  (first | subst bg | obtain ⟨rfl, rfl⟩ := iS bg)
  obtain ⟨bC, bD, bf⟩ := sL Q
  (first | subst bf | obtain ⟨rfl, rfl⟩ := iS bf)
  refine hK.out _ _ (bD3 z) (fun ag => ?_); clear hK K; refine nm_ 12 ?_; refine pu_ 8 13 (bl 11 1023) ah ?_; exact norm_ pO (aN (W, .slice bC ak.length bD, Z, .slice bE ax.length bF, P) _ ⟨ag, rQ Q, rQ aj, kQ z, kQ A, kQ D, U, I, B, J, G, L, bT3 HB E F I⟩)
 intro aI; refine join_ (σ := Value × Value × Value) 4 (bl 11 127) (fun s_ => [(5, s_.1), (8, s_.2.1), (9, s_.2.2)]) (fun s_ w' => (q_1 w') ∧ (RA Kd.string 9 w' w s_.2.1 ak) ∧ (RA Kd.bool 4 w' w s_.2.2 ao) ∧ (q_2 w') ∧ (q_3 w') ∧ BA w w') ?_ ?_
 ·clear z A HB; rintro ⟨W, al, Z⟩ bS ⟨ag, Q, M, z, A, HB⟩; (try dsimp only at ag Q M z A HB); refine norm_ (a' := ?_) ?_ ?_; rotate_left
  ·simp only [putAll, Act.put, sA, sB, sC]
   rfl
  refine two_ (i := 7) (j := 9) (Ni := some 12) (Nj := some 3) (bl 11 255) (bl 11 639) rfl rfl rfl rfl (two_of ah.out (by kernel_rfl)) (by decide) (by decide) (fun K hK => ?_) (fun K hK => ?_)
  ·refine Kd.R_append_rows_step Kd.bool (w0 := w) w.heap.size (by rfl) (.tmp 9) (.tmp 11) 23 4 (.bool false) 1 rfl Try.underlying23 info4 rfl (by decide) (by omega) Z ao ad _ _ _ (fun _ => True) (fun _ => False) rfl rfl ?aO ?aR (fun _ _ h => h) (fun _ h => h.elim) ?aF ?aB ?aS ?aL ?_
   (case aR => exact cO (Kd.C_below bM.out HB.out))
   (case aB => exact (bP2 HB E F))
   (case aF => exact (fun _ _ => trivial))
   (case aO => exact (rP M))
   (case aS => exact (below_size (bP2 HB E F)))
   (case aL => have := bZ.out; omega)
   intro bx b9 ho hb hg hat; rw [← bN.out] at ho; replace z := kG z hg M; replace A := kG A hg M; replace Q := aM (Kd.R_over' (rP Q) (Kd.R_typed (rP M)) (by decide) hg); replace HB := aM (hb); have aj := aM (ho); clear M; clear ho hb hg hat; obtain ⟨cw, cx, ca⟩ := sL aj
   (first | subst ca | obtain ⟨rfl, rfl⟩ := iS ca)
   obtain ⟨bE, bF, bg⟩ := sL Q
   (first | subst bg | obtain ⟨rfl, rfl⟩ := iS bg)
   refine hK.out _ _ (bD3 z) (fun ag => ?_); clear hK K; refine nm_ 12 ?_; refine pu_ 8 13 (bl 11 511) ah ?_; exact norm_ pO (bw (W, .slice bE ak.length bF, Z, .slice cw ax.length cx) _ ⟨ag, rQ Q, rQ aj, kQ z, kQ A, bT2 HB E F⟩)
  ·refine bs_ (cs := #[.slice none 0 0, .slice none 0 0, .slice none 0 0]) (t := 26) ?_; intro P hg b9 ap hb; replace Q := rB Q hb; replace M := rB M hb; have D := aM (ap); have U := gE hg (bP2 HB E F); have I := gE hg (bP2 HB E F); replace HB := hS2 HB E F hb; have B := nL hg z; have J := nG hg z; replace z := kB z hb; have G := nL hg A; have L := nG hg A; replace A := kB A hb; clear hb ap hg; refine hK.out _ _ (bD3 z) (fun ag => ?_); clear hK K; refine nm_ 3 ?_; exact norm_ pO (aI (W, al, Z, P) _ ⟨ag, rQ Q, rQ M, kQ z, kQ A, kQ D, U, I, B, J, G, L, bT3 HB E F I⟩)
 intro bn; refine join_ (σ := Value × Value × Nat) 4 (bl 11 623) (fun s_ => [(5, s_.1), (8, s_.2.1), (3, .pointer (some ⟨s_.2.2, 0, none⟩))]) (fun s_ w' => (q_1 w') ∧ (RA Kd.string 9 w' w s_.2.1 ak) ∧ (q_2 w') ∧ (q_3 w') ∧ (Aside0 (w'.heap[s_.2.2]? = some (.cells #[.slice none 0 0, .slice none 0 0, .slice none 0 0] 26 (0, 0)))) ∧ (Aside0 (w.heap.size ≤ s_.2.2)) ∧ (Aside0 (w.heap.size ≤ s_.2.2)) ∧ (Aside0 (Y ≠ s_.2.2)) ∧ (Aside0 (s_.2.2 ≠ Y)) ∧ (Aside0 (ae ≠ s_.2.2)) ∧ (Aside0 (s_.2.2 ≠ ae)) ∧ BA w w') ?_ ?_
 ·clear z A HB; rintro ⟨W, al, P⟩ bo ⟨ag, Q, z, A, D, U, I, B, J, G, L, HB⟩; (try dsimp only at ag Q z A D U I B J G L HB); refine norm_ (a' := ?_) ?_ ?_; rotate_left
  ·simp only [putAll, Act.put, sA, sB, sC]
   rfl
  refine one_ (i := 4) (N := some 9) (bl 11 639) rfl rfl (one_of ah.out (by kernel_rfl)) (by decide) (fun K hK => ?_); refine lt_ Kd.bool 4 9 ([] : List Bool) [] (Reps.none _ _) ?_; intro Z bS bv hb
  replace bv := nW aJ bv
  replace Q := rB Q hb; have M := rW bv (bP3 HB E F I); replace z := kB z hb; replace A := kB A hb; replace D := kB D hb; replace HB := hS3 HB E F I hb; clear hb bv; refine hK.out _ _ (bD3 z) (fun ag => ?_); clear hK K; refine nm_ 9 ?_; exact norm_ pO (aI (W, al, Z, P) _ ⟨ag, rQ Q, rQ M, kQ z, kQ A, kQ D, U, I, B, J, G, L, bT3 HB E F I⟩)
 intro bp; refine join_ (σ := Value × Value × Nat) 4 (bl 11 631) (fun s_ => [(5, s_.1), (9, s_.2.1), (3, .pointer (some ⟨s_.2.2, 0, none⟩))]) (fun s_ w' => (q_1 w') ∧ (RA Kd.string 9 w' w s_.1 aw) ∧ (RA Kd.bool 4 w' w s_.2.1 ao) ∧ (q_2 w') ∧ (q_3 w') ∧ (Aside0 (w'.heap[s_.2.2]? = some (.cells #[.slice none 0 0, .slice none 0 0, .slice none 0 0] 26 (0, 0)))) ∧ (Aside0 (w.heap.size ≤ s_.2.2)) ∧ (Aside0 (w.heap.size ≤ s_.2.2)) ∧ (Aside0 (Y ≠ s_.2.2)) ∧ (Aside0 (s_.2.2 ≠ Y)) ∧ (Aside0 (ae ≠ s_.2.2)) ∧ (Aside0 (s_.2.2 ≠ ae)) ∧ BA w w') ?_ ?_
 ·clear z A HB; rintro ⟨W, Z, P⟩ bS ⟨ag, O, M, z, A, D, U, I, B, J, G, L, HB⟩; (try dsimp only at ag O M z A D U I B J G L HB); refine norm_ (a' := ?_) ?_ ?_; rotate_left
  ·simp only [putAll, Act.put, sA, sB, sC]
   rfl
  refine one_ (i := 3) (N := some 8) (bl 11 639) rfl rfl (one_of ah.out (by kernel_rfl)) (by decide) (fun K hK => ?_); refine Kd.R_append_rows_step Kd.string (w0 := w) w.heap.size (by rfl) (.tmp 5) (.tmp 7) 22 9 (.string ⟨#[]⟩) 16 rfl Try.underlying22 info9 rfl (by decide) (by omega) W aw ac _ _ _ (fun _ => True) (fun _ => False) rfl rfl ?aO ?aR (fun _ _ h => h) (fun _ h => h.elim) ?aF ?aB ?aS ?aL ?_
  (case aR => exact cO (Kd.C_below aZ.out HB.out))
  (case aB => exact (bP3 HB E F I))
  (case aF => exact (fun _ _ => trivial))
  (case aO => exact (rP O))
  (case aS => exact (below_size (bP3 HB E F I)))
  (case aL => have := br.out; omega)
  intro al b9 ho hb hg hat; rw [← a5.out] at ho; replace z := kG z hg O; replace A := kG A hg O; replace M := aM (Kd.R_over' (rP M) (Kd.R_typed (rP O)) (by decide) hg); replace D := kG D hg O; replace HB := aM (hb); have Q := aM (ho); clear O; clear ho hb hg hat; refine hK.out _ _ (bD3 z) (fun ag => ?_); clear hK K; refine nm_ 8 ?_; exact norm_ pO (aI (W, al, Z, P) _ ⟨ag, rQ Q, rQ M, kQ z, kQ A, kQ D, U, I, B, J, G, L, bT3 HB E F I⟩)
 intro aW; refine join_ (σ := Value × Value) 5 (bl 11 111) (fun s_ => [(5, s_.1), (8, s_.2)]) (fun s_ w' => (q_1 w') ∧ (RA Kd.string 9 w' w s_.2 ak) ∧ (q_2 w') ∧ (q_3 w') ∧ BA w w') ?_ ?_
 ·clear z A HB; rintro ⟨W, al⟩ bh ⟨ag, Q, z, A, HB⟩; (try dsimp only at ag Q z A HB); refine norm_ (a' := ?_) ?_ ?_; rotate_left
  ·simp only [putAll, Act.put, sA, sB, sC]
   rfl
  refine two_ (i := 4) (j := 9) (Ni := some 9) (Nj := some 3) (bl 11 127) (bl 11 623) rfl rfl rfl rfl (two_of ah.out (by kernel_rfl)) (by decide) (by decide) (fun K hK => ?_) (fun K hK => ?_)
  ·refine lt_ Kd.bool 4 9 ([] : List Bool) [] (Reps.none _ _) ?_; intro Z bo av hb
   replace av := nW aJ av
   replace Q := rB Q hb; have M := rW av (bP2 HB E F); replace z := kB z hb; replace A := kB A hb; replace HB := hS2 HB E F hb; clear hb av; refine hK.out _ _ (bD3 z) (fun ag => ?_); clear hK K; refine nm_ 9 ?_; exact norm_ pO (bn (W, al, Z) _ ⟨ag, rQ Q, rQ M, kQ z, kQ A, bT2 HB E F⟩)
  ·refine bs_ (cs := #[.slice none 0 0, .slice none 0 0, .slice none 0 0]) (t := 26) ?_; intro P hg bo ap hb; replace Q := rB Q hb; have D := aM (ap); have U := gE hg (bP2 HB E F); have I := gE hg (bP2 HB E F); replace HB := hS2 HB E F hb; have B := nL hg z; have J := nG hg z; replace z := kB z hb; have G := nL hg A; have L := nG hg A; replace A := kB A hb; clear hb ap hg; refine hK.out _ _ (bD3 z) (fun ag => ?_); clear hK K; refine nm_ 3 ?_; exact norm_ pO (bp (W, al, P) _ ⟨ag, rQ Q, kQ z, kQ A, kQ D, U, I, B, J, G, L, bT3 HB E F I⟩)
 intro ck; refine join_ (σ := Value × Value) 5 (bl 11 119) (fun s_ => [(5, s_.1), (9, s_.2)]) (fun s_ w' => (q_1 w') ∧ (RA Kd.string 9 w' w s_.1 aw) ∧ (RA Kd.bool 4 w' w s_.2 ao) ∧ (q_2 w') ∧ (q_3 w') ∧ BA w w') ?_ ?_
 ·clear z A HB; rintro ⟨W, Z⟩ bo ⟨ag, O, M, z, A, HB⟩; (try dsimp only at ag O M z A HB); refine norm_ (a' := ?_) ?_ ?_; rotate_left
  ·simp only [putAll, Act.put, sA, sB, sC]
   rfl
  refine two_ (i := 3) (j := 9) (Ni := some 8) (Nj := some 3) (bl 11 127) (bl 11 631) rfl rfl rfl rfl (two_of ah.out (by kernel_rfl)) (by decide) (by decide) (fun K hK => ?_) (fun K hK => ?_)
  ·refine Kd.R_append_rows_step Kd.string (w0 := w) w.heap.size (by rfl) (.tmp 5) (.tmp 7) 22 9 (.string ⟨#[]⟩) 16 rfl Try.underlying22 info9 rfl (by decide) (by omega) W aw ac _ _ _ (fun _ => True) (fun _ => False) rfl rfl ?aO ?aR (fun _ _ h => h) (fun _ h => h.elim) ?aF ?aB ?aS ?aL ?_
   (case aR => exact cO (Kd.C_below aZ.out HB.out))
   (case aB => exact (bP2 HB E F))
   (case aF => exact (fun _ _ => trivial))
   (case aO => exact (rP O))
   (case aS => exact (below_size (bP2 HB E F)))
   (case aL => have := br.out; omega)
   intro al bS ho hb hg hat; rw [← a5.out] at ho; replace z := kG z hg O; replace A := kG A hg O; replace M := aM (Kd.R_over' (rP M) (Kd.R_typed (rP O)) (by decide) hg); replace HB := aM (hb); have Q := aM (ho); clear O; clear ho hb hg hat; refine hK.out _ _ (bD3 z) (fun ag => ?_); clear hK K; refine nm_ 8 ?_; exact norm_ pO (bn (W, al, Z) _ ⟨ag, rQ Q, rQ M, kQ z, kQ A, bT2 HB E F⟩)
  ·refine bs_ (cs := #[.slice none 0 0, .slice none 0 0, .slice none 0 0]) (t := 26) ?_; intro P hg bS ap hb; replace O := rB O hb; replace M := rB M hb; have D := aM (ap); have U := gE hg (bP2 HB E F); have I := gE hg (bP2 HB E F); replace HB := hS2 HB E F hb; have B := nL hg z; have J := nG hg z; replace z := kB z hb; have G := nL hg A; have L := nG hg A; replace A := kB A hb; clear hb ap hg; refine hK.out _ _ (bD3 z) (fun ag => ?_); clear hK K; refine nm_ 3 ?_; exact norm_ pO (aW (W, Z, P) _ ⟨ag, rQ O, rQ M, kQ z, kQ A, kQ D, U, I, B, J, G, L, bT3 HB E F I⟩)
 intro bT; refine join_ (σ := Value × Nat) 5 (bl 11 615) (fun s_ => [(5, s_.1), (3, .pointer (some ⟨s_.2, 0, none⟩))]) (fun s_ w' => (q_1 w') ∧ (RA Kd.string 9 w' w s_.1 aw) ∧ (q_2 w') ∧ (q_3 w') ∧ (Aside0 (w'.heap[s_.2]? = some (.cells #[.slice none 0 0, .slice none 0 0, .slice none 0 0] 26 (0, 0)))) ∧ (Aside0 (w.heap.size ≤ s_.2)) ∧ (Aside0 (w.heap.size ≤ s_.2)) ∧ (Aside0 (Y ≠ s_.2)) ∧ (Aside0 (s_.2 ≠ Y)) ∧ (Aside0 (ae ≠ s_.2)) ∧ (Aside0 (s_.2 ≠ ae)) ∧ BA w w') ?_ ?_
 ·clear z A HB; rintro ⟨W, P⟩ bh ⟨ag, O, z, A, D, U, I, B, J, G, L, HB⟩; (try dsimp only at ag O z A D U I B J G L HB); refine norm_ (a' := ?_) ?_ ?_; rotate_left
  ·simp only [putAll, Act.put, sA, sB, sC]
   rfl
  refine two_ (i := 3) (j := 4) (Ni := some 8) (Nj := some 9) (bl 11 623) (bl 11 631) rfl rfl rfl rfl (two_of ah.out (by kernel_rfl)) (by decide) (by decide) (fun K hK => ?_) (fun K hK => ?_)
  ·refine Kd.R_append_rows_step Kd.string (w0 := w) w.heap.size (by rfl) (.tmp 5) (.tmp 7) 22 9 (.string ⟨#[]⟩) 16 rfl Try.underlying22 info9 rfl (by decide) (by omega) W aw ac _ _ _ (fun _ => True) (fun _ => False) rfl rfl ?aO ?aR (fun _ _ h => h) (fun _ h => h.elim) ?aF ?aB ?aS ?aL ?_
   (case aR => exact cO (Kd.C_below aZ.out HB.out))
   (case aB => exact (bP3 HB E F I))
   (case aF => exact (fun _ _ => trivial))
   (case aO => exact (rP O))
   (case aS => exact (below_size (bP3 HB E F I)))
   (case aL => have := br.out; omega)
   intro al bo ho hb hg hat; rw [← a5.out] at ho; replace z := kG z hg O; replace A := kG A hg O; replace D := kG D hg O; replace HB := aM (hb); have Q := aM (ho); clear O; clear ho hb hg hat; refine hK.out _ _ (bD3 z) (fun ag => ?_); clear hK K; refine nm_ 8 ?_; exact norm_ pO (bp (W, al, P) _ ⟨ag, rQ Q, kQ z, kQ A, kQ D, U, I, B, J, G, L, bT3 HB E F I⟩)
  ·refine lt_ Kd.bool 4 9 ([] : List Bool) [] (Reps.none _ _) ?_; intro Z bo av hb
   replace av := nW aJ av
   replace O := rB O hb; have M := rW av (bP3 HB E F I); replace z := kB z hb; replace A := kB A hb; replace D := kB D hb; replace HB := hS3 HB E F I hb; clear hb av; refine hK.out _ _ (bD3 z) (fun ag => ?_); clear hK K; refine nm_ 9 ?_; exact norm_ pO (aW (W, Z, P) _ ⟨ag, rQ O, rQ M, kQ z, kQ A, kQ D, U, I, B, J, G, L, bT3 HB E F I⟩)
 intro bU; refine join_ (σ := Value × Nat) 5 (bl 11 630) (fun s_ => [(9, s_.1), (3, .pointer (some ⟨s_.2, 0, none⟩))]) (fun s_ w' => (q_1 w') ∧ (RA Kd.bool 4 w' w s_.1 ao) ∧ (q_2 w') ∧ (q_3 w') ∧ (Aside0 (w'.heap[s_.2]? = some (.cells #[.slice none 0 0, .slice none 0 0, .slice none 0 0] 26 (0, 0)))) ∧ (Aside0 (w.heap.size ≤ s_.2)) ∧ (Aside0 (w.heap.size ≤ s_.2)) ∧ (Aside0 (Y ≠ s_.2)) ∧ (Aside0 (s_.2 ≠ Y)) ∧ (Aside0 (ae ≠ s_.2)) ∧ (Aside0 (s_.2 ≠ ae)) ∧ BA w w') ?_ ?_
 ·clear z A HB; rintro ⟨Z, P⟩ bh ⟨ag, M, z, A, D, U, I, B, J, G, L, HB⟩; (try dsimp only at ag M z A D U I B J G L HB); refine norm_ (a' := ?_) ?_ ?_; rotate_left
  ·simp only [putAll, Act.put, sA, sB, sC]
   rfl
  refine one_ (i := 0) (N := some 5) (bl 11 631) rfl rfl (one_of ah.out (by kernel_rfl)) (by decide) (fun K hK => ?_); refine lt_ Kd.string 9 5 ([] : List ByteArray) [] (Reps.none _ _) ?_; intro W bo av hb
  replace av := nW a3 av
  replace M := rB M hb; have O := rW av (bP3 HB E F I); replace z := kB z hb; replace A := kB A hb; replace D := kB D hb; replace HB := hS3 HB E F I hb; clear hb av; refine hK.out _ _ (bD3 z) (fun ag => ?_); clear hK K; refine nm_ 5 ?_; exact norm_ pO (aW (W, Z, P) _ ⟨ag, rQ O, rQ M, kQ z, kQ A, kQ D, U, I, B, J, G, L, bT3 HB E F I⟩)
 intro bV; refine join_ (σ := Value) 6 (bl 11 103) (fun s_ => [(5, s_)]) (fun s_ w' => (q_1 w') ∧ (RA Kd.string 9 w' w s_ aw) ∧ (q_2 w') ∧ (q_3 w') ∧ BA w w') ?_ ?_
 ·clear z A HB; rintro W w9 ⟨ag, O, z, A, HB⟩; (try dsimp only at ag O z A HB); refine norm_ (a' := ?_) ?_ ?_; rotate_left
  ·simp only [putAll, Act.put, sA, sB, sC]
   rfl
  refine three_ (i := 3) (j := 4) (k := 9) (Ni := some 8) (Nj := some 9) (Nk := some 3) (bl 11 111) (bl 11 119) (bl 11 615) rfl rfl rfl rfl rfl rfl (three_of ah.out (by kernel_rfl)) (by decide) (by decide) (by decide) (fun K hK => ?_) (fun K hK => ?_) (fun K hK => ?_)
  ·refine Kd.R_append_rows_step Kd.string (w0 := w) w.heap.size (by rfl) (.tmp 5) (.tmp 7) 22 9 (.string ⟨#[]⟩) 16 rfl Try.underlying22 info9 rfl (by decide) (by omega) W aw ac _ _ _ (fun _ => True) (fun _ => False) rfl rfl ?aO ?aR (fun _ _ h => h) (fun _ h => h.elim) ?aF ?aB ?aS ?aL ?_
   (case aR => exact cO (Kd.C_below aZ.out HB.out))
   (case aB => exact (bP2 HB E F))
   (case aF => exact (fun _ _ => trivial))
   (case aO => exact (rP O))
   (case aS => exact (below_size (bP2 HB E F)))
   (case aL => have := br.out; omega)
   intro al bh ho hb hg hat; rw [← a5.out] at ho; replace z := kG z hg O; replace A := kG A hg O; replace HB := aM (hb); have Q := aM (ho); clear O; clear ho hb hg hat; refine hK.out _ _ (bD3 z) (fun ag => ?_); clear hK K; refine nm_ 8 ?_; exact norm_ pO (ck (W, al) _ ⟨ag, rQ Q, kQ z, kQ A, bT2 HB E F⟩)
  ·refine lt_ Kd.bool 4 9 ([] : List Bool) [] (Reps.none _ _) ?_; intro Z bh aG hb
   replace aG := nW aJ aG
   replace O := rB O hb; have M := rW aG (bP2 HB E F); replace z := kB z hb; replace A := kB A hb; replace HB := hS2 HB E F hb; clear hb aG; refine hK.out _ _ (bD3 z) (fun ag => ?_); clear hK K; refine nm_ 9 ?_; exact norm_ pO (bT (W, Z) _ ⟨ag, rQ O, rQ M, kQ z, kQ A, bT2 HB E F⟩)
  ·refine bs_ (cs := #[.slice none 0 0, .slice none 0 0, .slice none 0 0]) (t := 26) ?_; intro P hg bh ap hb; replace O := rB O hb; have D := aM (ap); have U := gE hg (bP2 HB E F); have I := gE hg (bP2 HB E F); replace HB := hS2 HB E F hb; have B := nL hg z; have J := nG hg z; replace z := kB z hb; have G := nL hg A; have L := nG hg A; replace A := kB A hb; clear hb ap hg; refine hK.out _ _ (bD3 z) (fun ag => ?_); clear hK K; refine nm_ 3 ?_; exact norm_ pO (bU (W, P) _ ⟨ag, rQ O, kQ z, kQ A, kQ D, U, I, B, J, G, L, bT3 HB E F I⟩)
 intro c1; refine join_ (σ := Value) 6 (bl 11 118) (fun s_ => [(9, s_)]) (fun s_ w' => (q_1 w') ∧ (RA Kd.bool 4 w' w s_ ao) ∧ (q_2 w') ∧ (q_3 w') ∧ BA w w') ?_ ?_
 ·clear z A HB; rintro Z w9 ⟨ag, M, z, A, HB⟩; (try dsimp only at ag M z A HB); refine norm_ (a' := ?_) ?_ ?_; rotate_left
  ·simp only [putAll, Act.put, sA, sB, sC]
   rfl
  refine two_ (i := 0) (j := 9) (Ni := some 5) (Nj := some 3) (bl 11 119) (bl 11 630) rfl rfl rfl rfl (two_of ah.out (by kernel_rfl)) (by decide) (by decide) (fun K hK => ?_) (fun K hK => ?_)
  ·refine lt_ Kd.string 9 5 ([] : List ByteArray) [] (Reps.none _ _) ?_; intro W bh aG hb
   replace aG := nW a3 aG
   replace M := rB M hb; have O := rW aG (bP2 HB E F); replace z := kB z hb; replace A := kB A hb; replace HB := hS2 HB E F hb; clear hb aG; refine hK.out _ _ (bD3 z) (fun ag => ?_); clear hK K; refine nm_ 5 ?_; exact norm_ pO (bT (W, Z) _ ⟨ag, rQ O, rQ M, kQ z, kQ A, bT2 HB E F⟩)
  ·refine bs_ (cs := #[.slice none 0 0, .slice none 0 0, .slice none 0 0]) (t := 26) ?_; intro P hg bh ap hb; replace M := rB M hb; have D := aM (ap); have U := gE hg (bP2 HB E F); have I := gE hg (bP2 HB E F); replace HB := hS2 HB E F hb; have B := nL hg z; have J := nG hg z; replace z := kB z hb; have G := nL hg A; have L := nG hg A; replace A := kB A hb; clear hb ap hg; refine hK.out _ _ (bD3 z) (fun ag => ?_); clear hK K; refine nm_ 3 ?_; exact norm_ pO (bV (Z, P) _ ⟨ag, rQ M, kQ z, kQ A, kQ D, U, I, B, J, G, L, bT3 HB E F I⟩)
 intro c4; refine join_ (σ := Nat) 6 (bl 11 614) (fun s_ => [(3, .pointer (some ⟨s_, 0, none⟩))]) (fun s_ w' => (q_1 w') ∧ (q_2 w') ∧ (q_3 w') ∧ (Aside0 (w'.heap[s_]? = some (.cells #[.slice none 0 0, .slice none 0 0, .slice none 0 0] 26 (0, 0)))) ∧ (Aside0 (w.heap.size ≤ s_)) ∧ (Aside0 (w.heap.size ≤ s_)) ∧ (Aside0 (Y ≠ s_)) ∧ (Aside0 (s_ ≠ Y)) ∧ (Aside0 (ae ≠ s_)) ∧ (Aside0 (s_ ≠ ae)) ∧ BA w w') ?_ ?_
 ·clear z A HB; rintro P w8 ⟨ag, z, A, D, U, I, B, J, G, L, HB⟩; (try dsimp only at ag z A D U I B J G L HB); refine norm_ (a' := ?_) ?_ ?_; rotate_left
  ·simp only [putAll, Act.put, sA, sB, sC]
   rfl
  refine two_ (i := 0) (j := 4) (Ni := some 5) (Nj := some 9) (bl 11 615) (bl 11 630) rfl rfl rfl rfl (two_of ah.out (by kernel_rfl)) (by decide) (by decide) (fun K hK => ?_) (fun K hK => ?_)
  ·refine lt_ Kd.string 9 5 ([] : List ByteArray) [] (Reps.none _ _) ?_; intro W w9 aH hb
   replace aH := nW a3 aH
   have O := rW aH (bP3 HB E F I); replace z := kB z hb; replace A := kB A hb; replace D := kB D hb; replace HB := hS3 HB E F I hb; clear hb aH; refine hK.out _ _ (bD3 z) (fun ag => ?_); clear hK K; refine nm_ 5 ?_; exact norm_ pO (bU (W, P) _ ⟨ag, rQ O, kQ z, kQ A, kQ D, U, I, B, J, G, L, bT3 HB E F I⟩)
  ·refine lt_ Kd.bool 4 9 ([] : List Bool) [] (Reps.none _ _) ?_; intro Z w9 aH hb
   replace aH := nW aJ aH
   have M := rW aH (bP3 HB E F I); replace z := kB z hb; replace A := kB A hb; replace D := kB D hb; replace HB := hS3 HB E F I hb; clear hb aH; refine hK.out _ _ (bD3 z) (fun ag => ?_); clear hK K; refine nm_ 9 ?_; exact norm_ pO (bV (Z, P) _ ⟨ag, rQ M, kQ z, kQ A, kQ D, U, I, B, J, G, L, bT3 HB E F I⟩)
 intro c5; refine three_ (i := 0) (j := 4) (k := 9) (Ni := some 5) (Nj := some 9) (Nk := some 3) (bl 11 103) (bl 11 118) (bl 11 614) rfl rfl rfl rfl rfl rfl (three_of ah.out (by kernel_rfl)) (by decide) (by decide) (by decide) (fun K hK => ?_) (fun K hK => ?_) (fun K hK => ?_)
 ·refine lt_ Kd.string 9 5 ([] : List ByteArray) [] (Reps.none _ _) ?_; intro W w7 aV hb
  replace aV := nW a3 aV
  have O := rW aV (bP2 HB E F); replace z := kB z hb; replace A := kB A hb; replace HB := hS2 HB E F hb; clear hb aV; refine hK.out _ _ (bD3 z) (fun ag => ?_); clear hK K; refine nm_ 5 ?_; exact norm_ pO (c1 (W) _ ⟨ag, rQ O, kQ z, kQ A, bT2 HB E F⟩)
 ·refine lt_ Kd.bool 4 9 ([] : List Bool) [] (Reps.none _ _) ?_; intro Z w7 aV hb
  replace aV := nW aJ aV
  have M := rW aV (bP2 HB E F); replace z := kB z hb; replace A := kB A hb; replace HB := hS2 HB E F hb; clear hb aV; refine hK.out _ _ (bD3 z) (fun ag => ?_); clear hK K; refine nm_ 9 ?_; exact norm_ pO (c4 (Z) _ ⟨ag, rQ M, kQ z, kQ A, bT2 HB E F⟩)
 ·refine bs_ (cs := #[.slice none 0 0, .slice none 0 0, .slice none 0 0]) (t := 26) ?_; intro P hg w7 ap hb; have D := aM (ap); have U := gE hg (bP2 HB E F); have I := gE hg (bP2 HB E F); replace HB := hS2 HB E F hb; have B := nL hg z; have J := nG hg z; replace z := kB z hb; have G := nL hg A; have L := nG hg A; replace A := kB A hb; clear hb ap hg; refine hK.out _ _ (bD3 z) (fun ag => ?_); clear hK K; refine nm_ 3 ?_; exact norm_ pO (c5 (P) _ ⟨ag, kQ z, kQ A, kQ D, U, I, B, J, G, L, bT3 HB E F I⟩)

end Go.Proofs.Ytghfclgcgecgdaa.X

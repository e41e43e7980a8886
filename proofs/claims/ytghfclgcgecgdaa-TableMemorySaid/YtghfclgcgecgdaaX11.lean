/- What the functions of this seat compute, and that the program's calls come to just that: written by this session's own program out of the translation; no condition. -/
import Derived.Test.YtghfclgcgecgdaaX0
import Derived.Test.YtghfclgcgecgdaaX8
import Derived.Test.YtghfclgcgecgdaaX9
import Derived.Test.YtghfclgcgecgdaaX10
namespace Go.Proofs.Ytghfclgcgecgdaa.X
open Go.RowKit Go.Proofs.YtghfclgcgecgdaaW.PrintWords Go.Proofs.YtghfclgcgecgdaaW.PrintLast Go.Proofs.YtghfclgcgecgdaaW.PrintMore
attribute [local go_sem] max2_int min2_int max_two min_two max_three min_three max_four min_four
set_option linter.unusedVariables false
set_option linter.unusedSimpArgs false
set_option maxHeartbeats 8000000
set_option maxRecDepth 100000

/-! ### table_Pack: function 12 -/
def table_Pack.l0 : Nat → List (List Int) → Int → Int → List ByteArray → List Bool → List Int → List (S58) → Option (List ByteArray × List Bool × List Int × (List (S58)) × Int)
 | 0, _, _, _, _, _, _, _ => none
 | k + 1, x25, x26, x27, x156000, x156001, x156002, x156003 => if x27 < x26 then (if 0 ≤ x27 then (if x27 < (x25.length : Int) then ((row_Pack.f k (rd_L1 x25 x27)).bind fun bt157 => (if bt157.2 = 0 then (if (bt157.1.length : Int) > 32 then (some (([] : List ByteArray), ([] : List Bool), ([] : List Int), ([] : List (S58)), 120)) else (if x156003.length + bt157.1.length < 5864062014805 then ((some (x156003 ++ bt157.1 : List (S58))).bind fun y161 => (if x156002.length < 17592186044416 then (table_Pack.l0 k x25 x26 (wrap64 (x27 + 1)) x156000 x156001 (x156002 ++ [(y161.length : Int)]) y161) else (none))) else (none))) else (some (([] : List ByteArray), ([] : List Bool), ([] : List Int), ([] : List (S58)), bt157.2)))) else (none)) else (none)) else (some (x156000, x156001, x156002, x156003, 0))
def table_Pack.f (k : Nat) (l0_0 : List ByteArray) (l0_1 : List Bool) (l0_2 : List (List Int)) : Option (List ByteArray × List Bool × List Int × (List (S58)) × Int) := (table_Right.f k l0_0 l0_1 l0_2).bind fun t145 => (if t145 = 0 then ((slices_Clone_string_string.f l0_0).bind fun t146 => ((slices_Clone_bool_bool.f l0_1).bind fun t149 => (table_Pack.l0 k l0_2 (l0_2.length : Int) 0 t146 t149 (([0] : List Int)) ([] : List (S58))))) else (some (([] : List ByteArray), ([] : List Bool), ([] : List Int), ([] : List (S58)), t145)))
theorem table_Pack.mono_l : ∀ k, (∀ y0 y1 y2 y3 y4 y5 y6, LeO (table_Pack.l0 k y0 y1 y2 y3 y4 y5 y6) (table_Pack.l0 (k + 1) y0 y1 y2 y3 y4 y5 y6))
 | 0 => fun _ _ _ _ _ _ _ r h => by simp [table_Pack.l0] at h
 | k + 1 => by
  have ih0 := table_Pack.mono_l k
  ·intro y0 y1 y2 y3 y4 y5 y6
   unfold table_Pack.l0
   repeat' first | (with_reducible first | exact ih0 _ _ _ _ _ _ _ | exact row_Pack.mono _ _ | exact table_Right.mono _ _ _ _ | exact lA | apply lI | refine lB ?_ fun _ => ?_) | exact lN _ | apply lI | refine lB ?_ fun _ => ?_
theorem table_Pack.mono : ∀ a0 a1 a2 k, LeO (table_Pack.f k a0 a1 a2) (table_Pack.f (k + 1) a0 a1 a2) := by
 intro a0 a1 a2 k; have ih0 := table_Pack.mono_l k
 unfold table_Pack.f
 repeat' first | (with_reducible first | exact ih0 _ _ _ _ _ _ _ | exact row_Pack.mono _ _ | exact table_Right.mono _ _ _ _ | exact lA | apply lI | refine lB ?_ fun _ => ?_) | exact lN _ | apply lI | refine lB ?_ fun _ => ?_
def table_Pack.T4 : Bool × List (List Nat × List Nat) := (true, [([], []), ([0], [0]), ([1], [1]), ([], []), ([3], [3]), ([4, 2], [4]), ([], []), ([2, 5, 6], [2, 5, 6]), ([], []), ([8, 7, 5, 0, 1, 2, 3, 4, 5, 6, 7, 8], [7, 8])])
def table_Pack.B4 : List Nat := [0, 1, 3, 0, 8, 31, 0, 127, 0, 511]
theorem table_Pack.tab4 : rtab .any (opsOf Try.f12 4) = table_Pack.T4 := by kernel_rfl
theorem table_Pack.bits4 : waitsOk table_Pack.T4.2 table_Pack.B4 = true := by kernel_rfl
theorem table_Pack.calls (k : Nat) (av : Option Addr) (aw : Nat) (al : List ByteArray) (ax : Option Addr) (ay : Nat) (am : List Bool) (aU : Option Addr) (aJ : Nat) (ab : List (List Int)) (r1 : List ByteArray) (r2 : List Bool) (r3 : List Int) (r4 : List (S58)) (r5 : Int) (w : World) (bU : Kd.C Kd.string w av al.length al) (bV : al.length ≤ aw) (bW : Kd.C Kd.bool w ax am.length am) (bX : am.length ≤ ay) (bY : Kd.C (Kd.slice 3 (Kd.int .i64)) w aU ab.length ab) (bZ : ab.length ≤ aJ) (h : table_Pack.f k al am ab = some (r1, r2, r3, r4, r5)) :
  Calls Try.prog 12 #[.agg #[.slice av al.length aw, .slice ax am.length ay, .slice aU ab.length aJ]] w fun e w' => ∃ cE cF cG cH : Value, e = .returned (.tuple #[.agg #[cE, cF, cG, cH], .int .i64 r5]) ∧ Kd.R Kd.string 9 w' w.heap.size (fun _ => True) cE r1 ∧ Kd.R Kd.bool 4 w' w.heap.size (fun _ => True) cF r2 ∧ Kd.R (Kd.int .i64) 3 w' w.heap.size (fun _ => True) cG r3 ∧ Kd.R k58 58 w' w.heap.size (fun _ => True) cH r4 ∧ Below w.heap.size w w' := by
 have hu26 := Try.underlying26; have hu32 := Try.underlying32; have a9 := aM bU; have ba := aM bV; clear bU bV; have bb := aM bW; have bc := aM bX; clear bW bX; have bj := aM bY; have b0 := aM bZ; clear bY bZ; have HB := aM (Below.refl w.heap.size w); rw [table_Pack.f] at h; have H := h; clear h; apply bSx H; clear H; intro bP A2 H
 apply iB H <;> clear H <;> intro c3 H
 ·obtain ⟨cM, cN⟩ := bq c3; clear c3; apply bSx H; clear H; intro an A4 H; apply bSx H; clear H; intro ar A5 H; obtain ⟨aG, bs⟩ : ∃ y_ : List Int, y_ = (([0] : List Int)) := ⟨_, rfl⟩
  first | replace H := rI bs H | rw [← bs] at H
  have bd := aM bs; clear bs; have H' := aM H; clear H
  go_enter Try.func12, Try.ntmps12
  try go_wp2_with (first | ((with_reducible refine gate_dst (N := 1) rfl ?_); refine be_ (cs := #[.slice av al.length aw, .slice ax am.length ay, .slice aU ab.length aJ]) (t := 26) ?_; intro af hg w6 Z hb; have z := aM (Z); have cq := gE hg (bP0 HB); have D := gE hg (bP0 HB); replace HB := hS0 HB hb; clear hb Z hg) | ((with_reducible refine gate_dst (N := 2) rfl ?_); refine be_ (cs := #[.slice none 0 0, .slice none 0 0, .slice none 0 0, .slice none 0 0]) (t := 32) ?_; intro ak hg w7 Z hb; have A := aM (Z); have cr := gE hg (bP1 HB D); have F := gE hg (bP1 HB D); replace HB := hS1 HB D hb; have az := nL hg z; have aA := nG hg z; replace z := kB z hb; clear hb Z hg; have eZ := az.out; have e0 := aA.out; obtain ⟨en, eo, ep, er, es, et⟩ := bG3 z) | ((with_reducible refine gate_callee (f := 15) rfl ?_); refine gL_ (some 11) Try.func15 #[.agg #[.slice av al.length aw, .slice ax am.length ay, .slice aU ab.length aJ]] ?_; (with_reducible refine (table_Right.calls k _ _ al _ _ am _ _ ab bP _ ?s1 ba.out ?s3 bc.out ?s5 b0.out A2.out).mono ?_); (case s1 => exact cB a9 HB); (case s3 => exact cB bb HB); (case s5 => exact cB bj HB); rintro e eu ⟨rfl, hb⟩; refine ⟨_, rfl, ?_⟩; replace z := kB z hb; replace A := kB A hb; replace HB := hS2 HB D F hb; (try clear hb)))
  replace z := kD z; replace A := kD A; replace HB := aM (below_drew1 HB.out); refine start_ (n := 10) (S := fun w' => w'.cell? ⟨af, 0, none⟩ = some (.slice av al.length aw) ∧ w'.cell? ⟨af, 1, none⟩ = some (.slice ax am.length ay) ∧ w'.cell? ⟨af, 2, none⟩ = some (.slice aU ab.length aJ)) (ds := []) (bl 10 0) (by kernel_rfl) rfl rfl (bD3 z) (fun Y => ?_); refine with_tabW table_Pack.tab4 table_Pack.bits4 (fun ag ai => ?_); generalize eu.drew = e5 at z A HB Y ⊢; refine pu_ 0 16 (bl 10 1) ag ?_; refine pu_ 3 19 (bl 10 9) ag ?_; refine tk3_ 1 17 (bl 10 11) ag ai Y ?_; refine tk3_ 4 20 (bl 10 27) ag ai Y ?_; let q_1 : World → Prop := fun w' => w'.cell? ⟨af, 0, none⟩ = some (.slice av al.length aw) ∧ w'.cell? ⟨af, 1, none⟩ = some (.slice ax am.length ay) ∧ w'.cell? ⟨af, 2, none⟩ = some (.slice aU ab.length aJ); let q_2 : World → Prop := fun w' => Aside0 (w'.heap[af]? = some (.cells #[.slice av al.length aw, .slice ax am.length ay, .slice aU ab.length aJ] 26 (0, 0))); let q_3 : World → Prop := fun w' => Aside0 (w'.heap[ak]? = some (.cells #[.slice none 0 0, .slice none 0 0, .slice none 0 0, .slice none 0 0] 32 (0, 0))); refine join_ (σ := Value × Value × Value × Nat) 1 (bl 10 511) (fun s_ => [(18, s_.1), (21, s_.2.1), (22, s_.2.2.1), (5, .pointer (some ⟨s_.2.2.2, 0, none⟩)), (23, .agg #[s_.1, s_.2.1, s_.2.2.1, .slice none 0 0])]) (fun s_ w' => (q_1 w') ∧ (RA Kd.string 9 w' w s_.1 an) ∧ (RA Kd.bool 4 w' w s_.2.1 ar) ∧ (RA (Kd.int .i64) 3 w' w s_.2.2.1 aG) ∧ (q_2 w') ∧ (q_3 w') ∧ (Aside0 (w'.heap[s_.2.2.2]? = some (.cells #[.slice none 0 0, .slice none 0 0, .slice none 0 0, .slice none 0 0] 32 (0, 0)))) ∧ (Aside0 (w.heap.size ≤ s_.2.2.2)) ∧ (Aside0 (w.heap.size ≤ s_.2.2.2)) ∧ (Aside0 (af ≠ s_.2.2.2)) ∧ (Aside0 (s_.2.2.2 ≠ af)) ∧ (Aside0 (ak ≠ s_.2.2.2)) ∧ (Aside0 (s_.2.2.2 ≠ ak)) ∧ BA w w') ?_ ?_
  ·clear z A HB; rintro ⟨ao, aV, au, Q⟩ b1 ⟨Y, O, W, P, z, A, E, aa, I, B, L, G, J, HB⟩; (try dsimp only at Y O W P z A E aa I B L G J HB); obtain ⟨bQ, bR, bw⟩ := sL P
   (first | subst bw | obtain ⟨rfl, rfl⟩ := iS bw)
   obtain ⟨bk, bm, bx⟩ := sL W
   (first | subst bx | obtain ⟨rfl, rfl⟩ := iS bx)
   obtain ⟨bJ, bK, cc⟩ := sL O
   (first | subst cc | obtain ⟨rfl, rfl⟩ := iS cc)
   refine norm_ (a' := ?_) ?_ ?_; rotate_left
   ·simp only [putAll, Act.put, sA, sB, sC]
    rfl
   refine one_ (i := 9) (N := none) (bl 10 1023) rfl rfl (one_of ag.out (by kernel_rfl)) (by decide) (fun K hK => ?_); have hs24 : b1.cell? ⟨Q, 0, none⟩ = some (.slice none 0 0) := (blk_cell E.out 0).trans rfl; have hfs24 := blk_frozen E.out 0; have hns24_0 := B.out; have hns24_1 := G.out; have hms24_0 := L.out; have hms24_1 := J.out; have hs25 : b1.cell? ⟨Q, 1, none⟩ = some (.slice none 0 0) := (blk_cell E.out 1).trans rfl; have hfs25 := blk_frozen E.out 1; have hns25_0 := B.out; have hns25_1 := G.out; have hms25_0 := L.out; have hms25_1 := J.out; have hs26 : b1.cell? ⟨Q, 2, none⟩ = some (.slice none 0 0) := (blk_cell E.out 2).trans rfl; have hfs26 := blk_frozen E.out 2; have hns26_0 := B.out; have hns26_1 := G.out; have hms26_0 := L.out; have hms26_1 := J.out; have hs27 : b1.cell? ⟨Q, 3, none⟩ = some (.slice none 0 0) := (blk_cell E.out 3).trans rfl; have hfs27 := blk_frozen E.out 3; have hns27_0 := B.out; have hns27_1 := G.out; have hms27_0 := L.out; have hms27_1 := J.out; refine skip_ (w1 := ?_) (by rfl) rfl ?_ ?_; rotate_left
   ·go_simp
    rfl
   refine hK.out _ _ ⟨((cell_far (p := ⟨Q, _, none⟩) B.out _).trans (((cell_far (p := ⟨Q, _, none⟩) B.out _).trans (((cell_far (p := ⟨Q, _, none⟩) B.out _).trans (((cell_far (p := ⟨Q, _, none⟩) B.out _).trans (Y.1)))))))), ((cell_far (p := ⟨Q, _, none⟩) B.out _).trans (((cell_far (p := ⟨Q, _, none⟩) B.out _).trans (((cell_far (p := ⟨Q, _, none⟩) B.out _).trans (((cell_far (p := ⟨Q, _, none⟩) B.out _).trans (Y.2.1)))))))), ((cell_far (p := ⟨Q, _, none⟩) B.out _).trans (((cell_far (p := ⟨Q, _, none⟩) B.out _).trans (((cell_far (p := ⟨Q, _, none⟩) B.out _).trans (((cell_far (p := ⟨Q, _, none⟩) B.out _).trans (Y.2.2))))))))⟩ (fun Y => ?_); clear hK K; refine done_ (done_of ag.out (by kernel_rfl)) ?_; have eA := B.out; have eB := L.out; obtain ⟨c5, c6, c7, c8, c9, da⟩ := bG3 z
   try go_wp2
   go_loopg [27] k (fun kq ev w' => ∃ (ac : Int) (ap : List Int) (aq : List (S58)) (aW : Value) (be : Value), ev = .int .i64 ac ∧ Aside0 (table_Pack.l0 kq ab (ab.length : Int) ac an ar ap aq = some (r1, r2, r3, r4, r5)) ∧ Aside0 (kq ≤ k) ∧ RA Kd.string 9 w' w (.slice bJ an.length bK) an ∧ RA Kd.bool 4 w' w (.slice bk ar.length bm) ar ∧ RA (Kd.int .i64) 3 w' w aW ap ∧ RA k58 58 w' w be aq ∧ Aside0 (w'.heap[af]? = some (.cells #[(.slice av al.length aw), (.slice ax am.length ay), (.slice aU ab.length aJ)] 26 (0, 0))) ∧ Aside0 (w'.heap[ak]? = some (.cells #[(.slice none 0 0), (.slice none 0 0), (.slice none 0 0), (.slice none 0 0)] 32 (0, 0))) ∧ Aside0 (w'.heap[Q]? = some (.cells #[(.slice bJ an.length bK), (.slice bk ar.length bm), aW, be] 32 (0, 0))) ∧ BA w w')
   case atStart => exact ⟨(0), (aG), (([] : List (S58))), (.slice bQ aG.length bR), (.slice none 0 0), sI, H', ⟨Nat.le_refl _⟩, ⟨rZ O E⟩, ⟨rZ W E⟩, ⟨rZ P E⟩, ⟨by first | exact Kd.R_nil _ _ _ _ _ | exact Kd.N_nil _ _ _ _ _ | exact Kd.V_nil _ _ _ _ _ | exact Kd.Q_nil _ _ _ _ _ | exact Kd.S_nil _ _ _ _ _⟩, ⟨kN z B⟩, ⟨kN A G⟩, ⟨by (with_reducible repeat (first | refine blk_drewN ?_ _ | refine blk_drew ?_ | refine blk_alloc ?_ _)); exact blk_put (blk_put (blk_put (blk_put E.out 0 _ rfl) 1 _ rfl) 2 _ rfl) 3 _ rfl⟩, bT3 HB D F I⟩
   case round =>
    clear H'
    obtain ⟨ac, ap, aq, aW, be, rfl, HA, cb, ad, ae, U, V, z, A, E, HB⟩ := hrel; cases gk with
    | zero => exact absurd HA.out (by simp [table_Pack.l0])
    | succ k1 =>
     have H := HA.out; clear HA; simp only [table_Pack.l0] at H
     apply iB H <;> clear H <;> intro bF H
     ·have ct := dT bF; clear bF
      apply iN H; clear H; intro b2 H; have eC := dT b2; clear b2
      apply iN H; clear H; intro b3 H; have eD := dT b3; clear b3; replace H := Option.bind_eq_some_iff.mp H; obtain ⟨⟨aH, bo⟩, cd, H⟩ := H; replace H : (if bo = 0 then (if (aH.length : Int) > 32 then (some (([] : List ByteArray), ([] : List Bool), ([] : List Int), ([] : List (S58)), 120)) else (if aq.length + aH.length < 5864062014805 then ((some (aq ++ aH : List (S58))).bind fun aZ => (if ap.length < 17592186044416 then (table_Pack.l0 k1 ab (ab.length : Int) (wrap64 (ac + 1)) an ar (ap ++ [(aZ.length : Int)]) aZ) else (none))) else (none))) else (some (([] : List ByteArray), ([] : List Bool), ([] : List Int), ([] : List (S58)), bo))) = some (r1, r2, r3, r4, r5) := H; have ce := aM cd; clear cd
      apply iB H <;> clear H <;> intro bO H
      ·obtain ⟨cu, cv⟩ := bq bO; clear bO
       apply iB H <;> clear H <;> intro bG H
       ·have cw := dT bG; have cx : decide (32 < aH.length) = true := dT (by omega); clear bG; obtain ⟨rfl, rfl, rfl, rfl, rfl⟩ := pE5 H; have aK : 0 ≤ (ac : Int) := oT aO; have aN : ac < (ab.length : Int) := oT aO; obtain ⟨bL, a5, a6, bz, aC, aD, aE⟩ := at_L1 bj.out ac aK aN; cases bz; replace aC := cX HB aC; have aX := aM aE; have aY := aM aD; clear aE aD; replace aK := eq_true aK; replace aN := eq_true aN
        go_wp2_with (first | ((with_reducible refine gate_callee (f := 36) rfl ?_); refine gL_ (some 33) Try.func36 #[.slice a5 (rd_L1 ab ac).length a6] ?_; (with_reducible refine (row_Pack.calls k1 _ _ (rd_L1 ab ac) aH bo _ ?s1 aY.out ce.out).mono ?_); (case s1 => exact cB aX HB); rintro e e6 ⟨cf, rfl, aj, hb⟩; refine ⟨_, rfl, ?_⟩; replace ad := rB ad hb; replace ae := rB ae hb; replace U := rB U hb; have aI := rW (Kd.R_new' aj (Kd.R_lt (rP V))) (bP3 HB D F I); replace V := aM (Kd.R_elder' (rP V) (Kd.R_base aj) hb); replace z := kB z hb; replace A := kB A hb; replace E := kB E hb; replace HB := hS3 HB D F I hb; (try clear hb); (try clear aj); obtain ⟨e1, e2, rfl⟩ := sL aI; have eE := aA.out; have eF := az.out; have eG := G.out; have eH := J.out; obtain ⟨db, dc, dd, de, df, dg, dh, di⟩ := bG4 A))
        refine bodyPost_ret (results_ct rfl _ _ ak 32 #[.slice none 0 0, .slice none 0 0, .slice none 0 0, .slice none 0 0] (0, 0) _ rfl (by (with_reducible repeat (first | refine blk_drewN ?_ _ | refine blk_drew ?_ | refine blk_alloc ?_ _)); exact blk_put (blk_put (blk_put (blk_put A.out 0 _ rfl) 1 _ rfl) 2 _ rfl) 3 _ rfl) Try.underlying32 rfl (by kernel_rfl)) rfl ?_; exact ⟨_, _, _, _, eW, by first | exact Kd.R_nil _ _ _ _ _ | exact Kd.N_nil _ _ _ _ _ | exact Kd.V_nil _ _ _ _ _ | exact Kd.Q_nil _ _ _ _ _ | exact Kd.S_nil _ _ _ _ _, by first | exact Kd.R_nil _ _ _ _ _ | exact Kd.N_nil _ _ _ _ _ | exact Kd.V_nil _ _ _ _ _ | exact Kd.Q_nil _ _ _ _ _ | exact Kd.S_nil _ _ _ _ _, by first | exact Kd.R_nil _ _ _ _ _ | exact Kd.N_nil _ _ _ _ _ | exact Kd.V_nil _ _ _ _ _ | exact Kd.Q_nil _ _ _ _ _ | exact Kd.S_nil _ _ _ _ _, by first | exact Kd.R_nil _ _ _ _ _ | exact Kd.N_nil _ _ _ _ _ | exact Kd.V_nil _ _ _ _ _ | exact Kd.Q_nil _ _ _ _ _ | exact Kd.S_nil _ _ _ _ _, bS3 HB.out D.out F.out I.out⟩
       ·have cw := decide_eq_false bG; have cx : decide (32 < aH.length) = false := decide_eq_false (by omega); clear bG
        apply iN H; clear H; intro b4 H; have cy := aM b4; clear b4; obtain ⟨aZ, bt⟩ : ∃ y_ : List (S58), y_ = (aq ++ aH) := ⟨_, rfl⟩
        first | replace H := rI bt H | rw [← bt] at H
        have cz := aM bt; clear bt
        apply iN H; clear H; intro b5 H; have cA := aM b5; clear b5; obtain ⟨cg, bu⟩ : ∃ y_ : List Int, y_ = (ap ++ [(aZ.length : Int)]) := ⟨_, rfl⟩
        first | replace H := rI bu H | rw [← bu] at H
        have cC := aM bu; clear bu; have H' := aM H; clear H; have aK : 0 ≤ (ac : Int) := oT aO; have aN : ac < (ab.length : Int) := oT aO; obtain ⟨bL, a5, a6, bz, aC, aD, aE⟩ := at_L1 bj.out ac aK aN; cases bz; replace aC := cX HB aC; have aX := aM aE; have aY := aM aD; clear aE aD; replace aK := eq_true aK; replace aN := eq_true aN
        go_wp2_with (first | ((with_reducible refine gate_callee (f := 36) rfl ?_); refine gL_ (some 33) Try.func36 #[.slice a5 (rd_L1 ab ac).length a6] ?_; (with_reducible refine (row_Pack.calls k1 _ _ (rd_L1 ab ac) aH bo _ ?s1 aY.out ce.out).mono ?_); (case s1 => exact cB aX HB); rintro e e7 ⟨cf, rfl, aj, hb⟩; refine ⟨_, rfl, ?_⟩; replace ad := rB ad hb; replace ae := rB ae hb; replace U := rB U hb; have aI := rW (Kd.R_new' aj (Kd.R_lt (rP V))) (bP3 HB D F I); replace V := aM (Kd.R_elder' (rP V) (Kd.R_base aj) hb); replace z := kB z hb; replace A := kB A hb; replace E := kB E hb; replace HB := hS3 HB D F I hb; (try clear hb); (try clear hk); (try clear aj); obtain ⟨cQ, cR, rfl⟩ := sL aI; have eI := L.out; have eJ := B.out; have eK := J.out; have eL := G.out; obtain ⟨dj, dk, dl, dm, dn, dp, dq, dr⟩ := bG4 E) | ((with_reducible refine gate_builtin (b := .append) (xs := #[.tmp 45, .tmp 46]) rfl ?_); at_builtin; refine Kd.R_append_rows k58 (w0 := w) w.heap.size rfl (.tmp 45) (.tmp 46) 30 58 (.agg #[(.int .i64 0), (.int .i64 0), (.int .i64 0)]) 24 rfl Try.underlying30 info58 rfl (by decide) (by omega) be aq aH _ _ _ (fun k_ => some k_ ≠ (.slice cQ aH.length cR : Value).ownBlock) (fun _ => False) rfl rfl ?aO ?aR (fun _ _ h => h) (fun _ h => h.elim) ?aF ?aB ?aS ?aL ?_; (case aR => exact cO (rR aI).2.2); (case aB => exact (bP3 HB D F I)); (case aF => exact (fun k_ hk => Kd.fresh' (Kd.R_lt (rP aI)) k_ hk)); (case aO => exact (rM V (fun _ hk => hk.2))); (case aS => exact (below_size (bP3 HB D F I))); (case aL => have := cy.out; omega); intro e3 e8 ho hb hg hat; rw [← cz.out] at ho; replace ad := aM (Kd.R_over' (rP ad) (Kd.R_typed (rP V)) (by decide) hg); replace ae := aM (Kd.R_over' (rP ae) (Kd.R_typed (rP V)) (by decide) hg); replace U := aM (Kd.R_over' (rP U) (Kd.R_typed (rP V)) (by decide) hg); replace z := kG z hg V; replace A := kG A hg V; replace E := kG E hg V; replace aI := aM (Kd.R_after (ok := (fun _ => True)) (rP aI) hg hat); replace HB := aM (hb); have bv := aM (ho); clear V; clear ho hb hg hat; obtain ⟨ch, ci, rfl⟩ := sL bv; obtain ⟨dt, du, dv, dw, dx, dy, dz, dA⟩ := bG4 E) | ((with_reducible refine gate_builtin (b := .append) (xs := #[.tmp 50, .tmp 54]) rfl ?_); at_builtin; refine Kd.R_append (Kd.int .i64) (w0 := w) w.heap.size rfl (.tmp 50) (.tmp 54) 29 3 (.int .i64 0) 8 rfl Try.underlying29 info3 rfl (by decide) (by omega) aW ap (aZ.length : Int) [.int .i64 (aZ.length : Int)] (fun _ => True) (fun _ => False) rfl (by first | (go_simp; done) | (go_simp; rfl)) ?aP (fun _ hk => hk.elim) ?aF ?aO ?aB ?aS ?aL ?_; (case aP => exact rfl); (case aB => exact (bP3 HB D F I)); (case aF => exact (fun _ _ => trivial)); (case aO => exact (rZ U E)); (case aS => exact (below_size (bP3 HB D F I))); (case aL => have := cA.out; omega); intro e4 e9 ho hb hg hat; rw [← cC.out] at ho; replace ad := aM (Kd.R_over' (rY ad E) (Kd.R_typed (rY U E)) (by decide) hg); replace ae := aM (Kd.R_over' (rY ae E) (Kd.R_typed (rY U E)) (by decide) hg); replace z := aM (blk_grown (g := af) (o := .cells #[.slice av al.length aw, .slice ax am.length ay, .slice (some bL) ab.length aJ] 26 (0, 0)) (kN z B) hg (Kd.R_ne U.out z.out (by decide))); replace A := aM (blk_grown (g := ak) (o := .cells #[.slice none 0 0, .slice none 0 0, .slice none 0 0, .slice none 0 0] 32 (0, 0)) (kN A G) hg (Kd.R_ne U.out A.out (by decide))); replace aI := aM (Kd.R_over' (rY aI E) (Kd.R_typed (rY U E)) (by decide) hg); replace bv := aM (Kd.R_over' (rY bv E) (Kd.R_typed (rY U E)) (by decide) hg); replace E := aM (blk_grown (g := Q) (o := .cells #[.slice bJ an.length bK, .slice bk ar.length bm, aW, .slice ch aZ.length ci] 32 (0, 0)) (by (with_reducible repeat (first | refine blk_drewN ?_ _ | refine blk_drew ?_ | refine blk_alloc ?_ _)); exact blk_put E.out 3 _ rfl) hg (Kd.R_ne U.out E.out (by decide))); replace HB := aM (hb); have b6 := aM (ho); clear U; clear ho hb hg hat; obtain ⟨cU, cV, rfl⟩ := sL b6; obtain ⟨dB, dC, dD, dE, dF, dG, dH, dI⟩ := bG4 E))
        go_roundg k1
        case measure => have := cb.out; omega
        case rel => exact ⟨(wrap64 (ac + 1)), (cg), (aZ), (.slice cU cg.length cV), (.slice ch aZ.length ci), sI, H', ⟨by have := cb.out; omega⟩, ⟨rZ ad E⟩, ⟨rZ ae E⟩, ⟨rZ b6 E⟩, ⟨rZ bv E⟩, ⟨kN z B⟩, ⟨kN A G⟩, ⟨by (with_reducible repeat (first | refine blk_drewN ?_ _ | refine blk_drew ?_ | refine blk_alloc ?_ _)); exact blk_put E.out 2 _ rfl⟩, bT3 HB D F I⟩
      ·obtain ⟨cu, cv⟩ := bn bO; obtain ⟨rfl, rfl, rfl, rfl, rfl⟩ := pE5 H; have aK : 0 ≤ (ac : Int) := oT aO; have aN : ac < (ab.length : Int) := oT aO; obtain ⟨bL, a5, a6, bz, aC, aD, aE⟩ := at_L1 bj.out ac aK aN; cases bz; replace aC := cX HB aC; have aX := aM aE; have aY := aM aD; clear aE aD; replace aK := eq_true aK; replace aN := eq_true aN
       go_wp2_with (first | ((with_reducible refine gate_callee (f := 36) rfl ?_); refine gL_ (some 33) Try.func36 #[.slice a5 (rd_L1 ab ac).length a6] ?_; (with_reducible refine (row_Pack.calls k1 _ _ (rd_L1 ab ac) aH bo _ ?s1 aY.out ce.out).mono ?_); (case s1 => exact cB aX HB); rintro e fa ⟨cf, rfl, aj, hb⟩; refine ⟨_, rfl, ?_⟩; replace ad := rB ad hb; replace ae := rB ae hb; replace U := rB U hb; have aI := rW (Kd.R_new' aj (Kd.R_lt (rP V))) (bP3 HB D F I); replace V := aM (Kd.R_elder' (rP V) (Kd.R_base aj) hb); replace z := kB z hb; replace A := kB A hb; replace E := kB E hb; replace HB := hS3 HB D F I hb; (try clear hb); (try clear aj); have eM := aA.out; have eN := az.out; have eO := G.out; have eP := J.out; obtain ⟨dJ, dK, dL, dM, dN, dO, dP, dQ⟩ := bG4 A))
       refine bodyPost_ret (results_ct rfl _ _ ak 32 #[.slice none 0 0, .slice none 0 0, .slice none 0 0, .slice none 0 0] (0, 0) _ rfl (by (with_reducible repeat (first | refine blk_drewN ?_ _ | refine blk_drew ?_ | refine blk_alloc ?_ _)); exact blk_put (blk_put (blk_put (blk_put A.out 0 _ rfl) 1 _ rfl) 2 _ rfl) 3 _ rfl) Try.underlying32 rfl (by kernel_rfl)) rfl ?_; exact ⟨_, _, _, _, eW, by first | exact Kd.R_nil _ _ _ _ _ | exact Kd.N_nil _ _ _ _ _ | exact Kd.V_nil _ _ _ _ _ | exact Kd.Q_nil _ _ _ _ _ | exact Kd.S_nil _ _ _ _ _, by first | exact Kd.R_nil _ _ _ _ _ | exact Kd.N_nil _ _ _ _ _ | exact Kd.V_nil _ _ _ _ _ | exact Kd.Q_nil _ _ _ _ _ | exact Kd.S_nil _ _ _ _ _, by first | exact Kd.R_nil _ _ _ _ _ | exact Kd.N_nil _ _ _ _ _ | exact Kd.V_nil _ _ _ _ _ | exact Kd.Q_nil _ _ _ _ _ | exact Kd.S_nil _ _ _ _ _, by first | exact Kd.R_nil _ _ _ _ _ | exact Kd.N_nil _ _ _ _ _ | exact Kd.V_nil _ _ _ _ _ | exact Kd.Q_nil _ _ _ _ _ | exact Kd.S_nil _ _ _ _ _, bS3 HB.out D.out F.out I.out⟩
     ·have ct := decide_eq_false bF; clear bF; obtain ⟨rfl, rfl, rfl, rfl, rfl⟩ := pE5 H; have eQ := L.out; have eR := B.out; have eS := J.out; have eT := G.out; obtain ⟨dR, dS, dU, dV, dW, dX, dY, dZ⟩ := bG4 E; have eU := aA.out; have eV := az.out; obtain ⟨d0, d1, d2, d3, d4, d5, d6, d7⟩ := bG4 A; obtain ⟨cY, cZ, rfl⟩ := sL U; obtain ⟨c1, c2, rfl⟩ := sL V
      go_wp2
      refine bodyPost_ret (results_ct rfl _ _ ak 32 #[.slice bJ an.length bK, .slice bk ar.length bm, .slice cY ap.length cZ, .slice c1 aq.length c2] (0, 0) _ rfl (by (with_reducible repeat (first | refine blk_drewN ?_ _ | refine blk_drew ?_ | refine blk_alloc ?_ _)); exact blk_put (blk_put (blk_put (blk_put A.out 0 _ rfl) 1 _ rfl) 2 _ rfl) 3 _ rfl) Try.underlying32 rfl (by kernel_rfl)) rfl ?_; exact ⟨_, _, _, _, eW, rZ ad A, rZ ae A, rZ U A, rZ V A, bS3 HB.out D.out F.out I.out⟩
  intro a7; refine join_ (σ := Value × Value × Value) 2 (bl 10 255) (fun s_ => [(18, s_.1), (21, s_.2.1), (22, s_.2.2), (23, .agg #[s_.1, s_.2.1, s_.2.2, .slice none 0 0])]) (fun s_ w' => (q_1 w') ∧ (RA Kd.string 9 w' w s_.1 an) ∧ (RA Kd.bool 4 w' w s_.2.1 ar) ∧ (RA (Kd.int .i64) 3 w' w s_.2.2 aG) ∧ (q_2 w') ∧ (q_3 w') ∧ BA w w') ?_ ?_
  ·clear z A HB; rintro ⟨ao, aV, au⟩ fb ⟨Y, O, W, P, z, A, HB⟩; (try dsimp only at Y O W P z A HB); obtain ⟨bA, bB, a8⟩ := sL P
   (first | subst a8 | obtain ⟨rfl, rfl⟩ := iS a8)
   obtain ⟨bQ, bR, bw⟩ := sL W
   (first | subst bw | obtain ⟨rfl, rfl⟩ := iS bw)
   obtain ⟨bk, bm, bx⟩ := sL O
   (first | subst bx | obtain ⟨rfl, rfl⟩ := iS bx)
   refine norm_ (a' := ?_) ?_ ?_; rotate_left
   ·simp only [putAll, Act.put, sA, sB, sC]
    rfl
   refine one_ (i := 8) (N := some 5) (bl 10 511) rfl rfl (one_of ag.out (by kernel_rfl)) (by decide) (fun K hK => ?_); refine bs_ (cs := #[.slice none 0 0, .slice none 0 0, .slice none 0 0, .slice none 0 0]) (t := 32) ?_; intro Q hg fc Z hb; replace O := rB O hb; replace W := rB W hb; replace P := rB P hb; have E := aM (Z); have aa := gE hg (bP2 HB D F); have I := gE hg (bP2 HB D F); replace HB := hS2 HB D F hb; have B := nL hg z; have L := nG hg z; replace z := kB z hb; have G := nL hg A; have J := nG hg A; replace A := kB A hb; clear hb Z hg; refine hK.out _ _ (bD3 z) (fun Y => ?_); clear hK K; refine nm_ 5 ?_; exact norm_ pO (a7 (.slice bk an.length bm, .slice bQ ar.length bR, .slice bA aG.length bB, Q) _ ⟨Y, rQ O, rQ W, rQ P, kQ z, kQ A, kQ E, aa, I, B, L, G, J, bT3 HB D F I⟩)
  intro bH; refine join_ (σ := Value × Value × Nat) 3 (bl 10 319) (fun s_ => [(18, s_.1), (21, s_.2.1), (5, .pointer (some ⟨s_.2.2, 0, none⟩))]) (fun s_ w' => (q_1 w') ∧ (RA Kd.string 9 w' w s_.1 an) ∧ (RA Kd.bool 4 w' w s_.2.1 ar) ∧ (q_2 w') ∧ (q_3 w') ∧ (Aside0 (w'.heap[s_.2.2]? = some (.cells #[.slice none 0 0, .slice none 0 0, .slice none 0 0, .slice none 0 0] 32 (0, 0)))) ∧ (Aside0 (w.heap.size ≤ s_.2.2)) ∧ (Aside0 (w.heap.size ≤ s_.2.2)) ∧ (Aside0 (af ≠ s_.2.2)) ∧ (Aside0 (s_.2.2 ≠ af)) ∧ (Aside0 (ak ≠ s_.2.2)) ∧ (Aside0 (s_.2.2 ≠ ak)) ∧ BA w w') ?_ ?_
  ·clear z A HB; rintro ⟨ao, aV, Q⟩ br ⟨Y, O, W, z, A, E, aa, I, B, L, G, J, HB⟩; (try dsimp only at Y O W z A E aa I B L G J HB); refine norm_ (a' := ?_) ?_ ?_; rotate_left
   ·simp only [putAll, Act.put, sA, sB, sC]
    rfl
   refine one_ (i := 6) (N := some 22) (bl 10 383) rfl rfl (one_of ag.out (by kernel_rfl)) (by decide) (fun K hK => ?_); refine lt_ (Kd.int .i64) 3 22 ([0] : List Int) [.int .i64 0] (Reps.one (show Kd.M (Kd.int .i64) _ _ _ 0 [.int .i64 0] from rfl) (Reps.none _ _)) ?_; intro au b7 bM hb
   replace bM := nW bd bM
   replace O := rB O hb; replace W := rB W hb; have P := rW bM (bP3 HB D F I); replace z := kB z hb; replace A := kB A hb; replace E := kB E hb; replace HB := hS3 HB D F I hb; clear hb bM; obtain ⟨bf, bg, aQ⟩ := sL P
   (first | subst aQ | obtain ⟨rfl, rfl⟩ := iS aQ)
   obtain ⟨bh, bi, aT⟩ := sL W
   (first | subst aT | obtain ⟨rfl, rfl⟩ := iS aT)
   obtain ⟨bA, bB, a8⟩ := sL O
   (first | subst a8 | obtain ⟨rfl, rfl⟩ := iS a8)
   refine hK.out _ _ (bD3 z) (fun Y => ?_); clear hK K; refine nm_ 22 ?_; refine pu_ 7 23 (bl 10 511) ag ?_; exact norm_ pO (a7 (.slice bA an.length bB, .slice bh ar.length bi, .slice bf aG.length bg, Q) _ ⟨Y, rQ O, rQ W, rQ P, kQ z, kQ A, kQ E, aa, I, B, L, G, J, bT3 HB D F I⟩)
  intro bI; refine join_ (σ := Value × Value × Nat) 3 (bl 10 351) (fun s_ => [(18, s_.1), (22, s_.2.1), (5, .pointer (some ⟨s_.2.2, 0, none⟩))]) (fun s_ w' => (q_1 w') ∧ (RA Kd.string 9 w' w s_.1 an) ∧ (RA (Kd.int .i64) 3 w' w s_.2.1 aG) ∧ (q_2 w') ∧ (q_3 w') ∧ (Aside0 (w'.heap[s_.2.2]? = some (.cells #[.slice none 0 0, .slice none 0 0, .slice none 0 0, .slice none 0 0] 32 (0, 0)))) ∧ (Aside0 (w.heap.size ≤ s_.2.2)) ∧ (Aside0 (w.heap.size ≤ s_.2.2)) ∧ (Aside0 (af ≠ s_.2.2)) ∧ (Aside0 (s_.2.2 ≠ af)) ∧ (Aside0 (ak ≠ s_.2.2)) ∧ (Aside0 (s_.2.2 ≠ ak)) ∧ BA w w') ?_ ?_
  ·clear z A HB; rintro ⟨ao, au, Q⟩ b7 ⟨Y, O, P, z, A, E, aa, I, B, L, G, J, HB⟩; (try dsimp only at Y O P z A E aa I B L G J HB); refine norm_ (a' := ?_) ?_ ?_; rotate_left
   ·simp only [putAll, Act.put, sA, sB, sC]
    rfl
   refine one_ (i := 5) (N := some 21) (bl 10 383) rfl rfl (one_of ag.out (by kernel_rfl)) (by decide) (fun K hK => ?_); refine gS_ Try.func35 #[.slice ax am.length ay] ?_
   with_reducible refine (slices_Clone_bool_bool.calls _ _ am ar _ ?s1 ?s2 A5.out).mono ?_
   (case s1 => exact cB bb HB)
   (case s2 => exact bc.out)
   rintro e fd ⟨aV, rfl, aj, hb⟩; refine ⟨_, rfl, ?_⟩; replace O := rB O hb; replace P := rB P hb; have W := rW aj (bP3 HB D F I); replace z := kB z hb; replace A := kB A hb; replace E := kB E hb; replace HB := hS3 HB D F I hb
   (try clear hb)
   (try clear bC)
   (try clear hk)
   (try clear hi)
   (try clear aj)
   obtain ⟨bf, bg, aQ⟩ := sL P
   (first | subst aQ | obtain ⟨rfl, rfl⟩ := iS aQ)
   obtain ⟨bh, bi, aT⟩ := sL W
   (first | subst aT | obtain ⟨rfl, rfl⟩ := iS aT)
   obtain ⟨bA, bB, a8⟩ := sL O
   (first | subst a8 | obtain ⟨rfl, rfl⟩ := iS a8)
   refine hK.out _ _ (bD3 z) (fun Y => ?_); clear hK K; refine nm_ 21 ?_; refine pu_ 7 23 (bl 10 511) ag ?_; exact norm_ pO (a7 (.slice bA an.length bB, .slice bh ar.length bi, .slice bf aG.length bg, Q) _ ⟨Y, rQ O, rQ W, rQ P, kQ z, kQ A, kQ E, aa, I, B, L, G, J, bT3 HB D F I⟩)
  intro bp; refine join_ (σ := Value × Value) 4 (bl 10 63) (fun s_ => [(18, s_.1), (21, s_.2)]) (fun s_ w' => (q_1 w') ∧ (RA Kd.string 9 w' w s_.1 an) ∧ (RA Kd.bool 4 w' w s_.2 ar) ∧ (q_2 w') ∧ (q_3 w') ∧ BA w w') ?_ ?_
  ·clear z A HB; rintro ⟨ao, aV⟩ bD ⟨Y, O, W, z, A, HB⟩; (try dsimp only at Y O W z A HB); refine norm_ (a' := ?_) ?_ ?_; rotate_left
   ·simp only [putAll, Act.put, sA, sB, sC]
    rfl
   refine two_ (i := 6) (j := 8) (Ni := some 22) (Nj := some 5) (bl 10 127) (bl 10 319) rfl rfl rfl rfl (two_of ag.out (by kernel_rfl)) (by decide) (by decide) (fun K hK => ?_) (fun K hK => ?_)
   ·refine lt_ (Kd.int .i64) 3 22 ([0] : List Int) [.int .i64 0] (Reps.one (show Kd.M (Kd.int .i64) _ _ _ 0 [.int .i64 0] from rfl) (Reps.none _ _)) ?_; intro au br a3 hb
    replace a3 := nW bd a3
    replace O := rB O hb; replace W := rB W hb; have P := rW a3 (bP2 HB D F); replace z := kB z hb; replace A := kB A hb; replace HB := hS2 HB D F hb; clear hb a3; obtain ⟨bS, bT, bE⟩ := sL P
    (first | subst bE | obtain ⟨rfl, rfl⟩ := iS bE)
    obtain ⟨bf, bg, aQ⟩ := sL W
    (first | subst aQ | obtain ⟨rfl, rfl⟩ := iS aQ)
    obtain ⟨bh, bi, aT⟩ := sL O
    (first | subst aT | obtain ⟨rfl, rfl⟩ := iS aT)
    refine hK.out _ _ (bD3 z) (fun Y => ?_); clear hK K; refine nm_ 22 ?_; refine pu_ 7 23 (bl 10 255) ag ?_; exact norm_ pO (bH (.slice bh an.length bi, .slice bf ar.length bg, .slice bS aG.length bT) _ ⟨Y, rQ O, rQ W, rQ P, kQ z, kQ A, bT2 HB D F⟩)
   ·refine bs_ (cs := #[.slice none 0 0, .slice none 0 0, .slice none 0 0, .slice none 0 0]) (t := 32) ?_; intro Q hg br Z hb; replace O := rB O hb; replace W := rB W hb; have E := aM (Z); have aa := gE hg (bP2 HB D F); have I := gE hg (bP2 HB D F); replace HB := hS2 HB D F hb; have B := nL hg z; have L := nG hg z; replace z := kB z hb; have G := nL hg A; have J := nG hg A; replace A := kB A hb; clear hb Z hg; refine hK.out _ _ (bD3 z) (fun Y => ?_); clear hK K; refine nm_ 5 ?_; exact norm_ pO (bI (ao, aV, Q) _ ⟨Y, rQ O, rQ W, kQ z, kQ A, kQ E, aa, I, B, L, G, J, bT3 HB D F I⟩)
  intro cD; refine join_ (σ := Value × Value) 4 (bl 10 95) (fun s_ => [(18, s_.1), (22, s_.2)]) (fun s_ w' => (q_1 w') ∧ (RA Kd.string 9 w' w s_.1 an) ∧ (RA (Kd.int .i64) 3 w' w s_.2 aG) ∧ (q_2 w') ∧ (q_3 w') ∧ BA w w') ?_ ?_
  ·clear z A HB; rintro ⟨ao, au⟩ br ⟨Y, O, P, z, A, HB⟩; (try dsimp only at Y O P z A HB); refine norm_ (a' := ?_) ?_ ?_; rotate_left
   ·simp only [putAll, Act.put, sA, sB, sC]
    rfl
   refine two_ (i := 5) (j := 8) (Ni := some 21) (Nj := some 5) (bl 10 127) (bl 10 351) rfl rfl rfl rfl (two_of ag.out (by kernel_rfl)) (by decide) (by decide) (fun K hK => ?_) (fun K hK => ?_)
   ·refine gS_ Try.func35 #[.slice ax am.length ay] ?_
    with_reducible refine (slices_Clone_bool_bool.calls _ _ am ar _ ?s1 ?s2 A5.out).mono ?_
    (case s1 => exact cB bb HB)
    (case s2 => exact bc.out)
    rintro e b7 ⟨aV, rfl, aj, hb⟩; refine ⟨_, rfl, ?_⟩; replace O := rB O hb; replace P := rB P hb; have W := rW aj (bP2 HB D F); replace z := kB z hb; replace A := kB A hb; replace HB := hS2 HB D F hb
    (try clear hb)
    (try clear bC)
    (try clear hk)
    (try clear hi)
    (try clear aj)
    obtain ⟨bS, bT, bE⟩ := sL P
    (first | subst bE | obtain ⟨rfl, rfl⟩ := iS bE)
    obtain ⟨bf, bg, aQ⟩ := sL W
    (first | subst aQ | obtain ⟨rfl, rfl⟩ := iS aQ)
    obtain ⟨bh, bi, aT⟩ := sL O
    (first | subst aT | obtain ⟨rfl, rfl⟩ := iS aT)
    refine hK.out _ _ (bD3 z) (fun Y => ?_); clear hK K; refine nm_ 21 ?_; refine pu_ 7 23 (bl 10 255) ag ?_; exact norm_ pO (bH (.slice bh an.length bi, .slice bf ar.length bg, .slice bS aG.length bT) _ ⟨Y, rQ O, rQ W, rQ P, kQ z, kQ A, bT2 HB D F⟩)
   ·refine bs_ (cs := #[.slice none 0 0, .slice none 0 0, .slice none 0 0, .slice none 0 0]) (t := 32) ?_; intro Q hg b7 Z hb; replace O := rB O hb; replace P := rB P hb; have E := aM (Z); have aa := gE hg (bP2 HB D F); have I := gE hg (bP2 HB D F); replace HB := hS2 HB D F hb; have B := nL hg z; have L := nG hg z; replace z := kB z hb; have G := nL hg A; have J := nG hg A; replace A := kB A hb; clear hb Z hg; refine hK.out _ _ (bD3 z) (fun Y => ?_); clear hK K; refine nm_ 5 ?_; exact norm_ pO (bp (ao, au, Q) _ ⟨Y, rQ O, rQ P, kQ z, kQ A, kQ E, aa, I, B, L, G, J, bT3 HB D F I⟩)
  intro b8; refine join_ (σ := Value × Nat) 4 (bl 10 287) (fun s_ => [(18, s_.1), (5, .pointer (some ⟨s_.2, 0, none⟩))]) (fun s_ w' => (q_1 w') ∧ (RA Kd.string 9 w' w s_.1 an) ∧ (q_2 w') ∧ (q_3 w') ∧ (Aside0 (w'.heap[s_.2]? = some (.cells #[.slice none 0 0, .slice none 0 0, .slice none 0 0, .slice none 0 0] 32 (0, 0)))) ∧ (Aside0 (w.heap.size ≤ s_.2)) ∧ (Aside0 (w.heap.size ≤ s_.2)) ∧ (Aside0 (af ≠ s_.2)) ∧ (Aside0 (s_.2 ≠ af)) ∧ (Aside0 (ak ≠ s_.2)) ∧ (Aside0 (s_.2 ≠ ak)) ∧ BA w w') ?_ ?_
  ·clear z A HB; rintro ⟨ao, Q⟩ bD ⟨Y, O, z, A, E, aa, I, B, L, G, J, HB⟩; (try dsimp only at Y O z A E aa I B L G J HB); refine norm_ (a' := ?_) ?_ ?_; rotate_left
   ·simp only [putAll, Act.put, sA, sB, sC]
    rfl
   refine two_ (i := 5) (j := 6) (Ni := some 21) (Nj := some 22) (bl 10 319) (bl 10 351) rfl rfl rfl rfl (two_of ag.out (by kernel_rfl)) (by decide) (by decide) (fun K hK => ?_) (fun K hK => ?_)
   ·refine gS_ Try.func35 #[.slice ax am.length ay] ?_
    with_reducible refine (slices_Clone_bool_bool.calls _ _ am ar _ ?s1 ?s2 A5.out).mono ?_
    (case s1 => exact cB bb HB)
    (case s2 => exact bc.out)
    rintro e br ⟨aV, rfl, aj, hb⟩; refine ⟨_, rfl, ?_⟩; replace O := rB O hb; have W := rW aj (bP3 HB D F I); replace z := kB z hb; replace A := kB A hb; replace E := kB E hb; replace HB := hS3 HB D F I hb
    (try clear hb)
    (try clear bC)
    (try clear hk)
    (try clear hi)
    (try clear aj)
    refine hK.out _ _ (bD3 z) (fun Y => ?_); clear hK K; refine nm_ 21 ?_; exact norm_ pO (bI (ao, aV, Q) _ ⟨Y, rQ O, rQ W, kQ z, kQ A, kQ E, aa, I, B, L, G, J, bT3 HB D F I⟩)
   ·refine lt_ (Kd.int .i64) 3 22 ([0] : List Int) [.int .i64 0] (Reps.one (show Kd.M (Kd.int .i64) _ _ _ 0 [.int .i64 0] from rfl) (Reps.none _ _)) ?_; intro au br a3 hb
    replace a3 := nW bd a3
    replace O := rB O hb; have P := rW a3 (bP3 HB D F I); replace z := kB z hb; replace A := kB A hb; replace E := kB E hb; replace HB := hS3 HB D F I hb; clear hb a3; refine hK.out _ _ (bD3 z) (fun Y => ?_); clear hK K; refine nm_ 22 ?_; exact norm_ pO (bp (ao, au, Q) _ ⟨Y, rQ O, rQ P, kQ z, kQ A, kQ E, aa, I, B, L, G, J, bT3 HB D F I⟩)
  intro b9; refine join_ (σ := Value × Nat) 4 (bl 10 347) (fun s_ => [(22, s_.1), (5, .pointer (some ⟨s_.2, 0, none⟩))]) (fun s_ w' => (q_1 w') ∧ (RA (Kd.int .i64) 3 w' w s_.1 aG) ∧ (q_2 w') ∧ (q_3 w') ∧ (Aside0 (w'.heap[s_.2]? = some (.cells #[.slice none 0 0, .slice none 0 0, .slice none 0 0, .slice none 0 0] 32 (0, 0)))) ∧ (Aside0 (w.heap.size ≤ s_.2)) ∧ (Aside0 (w.heap.size ≤ s_.2)) ∧ (Aside0 (af ≠ s_.2)) ∧ (Aside0 (s_.2 ≠ af)) ∧ (Aside0 (ak ≠ s_.2)) ∧ (Aside0 (s_.2 ≠ ak)) ∧ BA w w') ?_ ?_
  ·clear z A HB; rintro ⟨au, Q⟩ br ⟨Y, P, z, A, E, aa, I, B, L, G, J, HB⟩; (try dsimp only at Y P z A E aa I B L G J HB); refine norm_ (a' := ?_) ?_ ?_; rotate_left
   ·simp only [putAll, Act.put, sA, sB, sC]
    rfl
   refine one_ (i := 2) (N := some 18) (bl 10 351) rfl rfl (one_of ag.out (by kernel_rfl)) (by decide) (fun K hK => ?_); refine gS_ Try.func34 #[.slice av al.length aw] ?_
   with_reducible refine (slices_Clone_string_string.calls _ _ al an _ ?s1 ?s2 A4.out).mono ?_
   (case s1 => exact cB a9 HB)
   (case s2 => exact ba.out)
   rintro e b7 ⟨ao, rfl, aj, hb⟩; refine ⟨_, rfl, ?_⟩; replace P := rB P hb; have O := rW aj (bP3 HB D F I); replace z := kB z hb; replace A := kB A hb; replace E := kB E hb; replace HB := hS3 HB D F I hb
   (try clear hb)
   (try clear bC)
   (try clear hk)
   (try clear hi)
   (try clear aj)
   refine hK.out _ _ (bD3 z) (fun Y => ?_); clear hK K; refine nm_ 18 ?_; exact norm_ pO (bp (ao, au, Q) _ ⟨Y, rQ O, rQ P, kQ z, kQ A, kQ E, aa, I, B, L, G, J, bT3 HB D F I⟩)
  intro ca; refine join_ (σ := Value) 5 (bl 10 31) (fun s_ => [(18, s_)]) (fun s_ w' => (q_1 w') ∧ (RA Kd.string 9 w' w s_ an) ∧ (q_2 w') ∧ (q_3 w') ∧ BA w w') ?_ ?_
  ·clear z A HB; rintro ao ew ⟨Y, O, z, A, HB⟩; (try dsimp only at Y O z A HB); refine norm_ (a' := ?_) ?_ ?_; rotate_left
   ·simp only [putAll, Act.put, sA, sB, sC]
    rfl
   refine three_ (i := 5) (j := 6) (k := 8) (Ni := some 21) (Nj := some 22) (Nk := some 5) (bl 10 63) (bl 10 95) (bl 10 287) rfl rfl rfl rfl rfl rfl (three_of ag.out (by kernel_rfl)) (by decide) (by decide) (by decide) (fun K hK => ?_) (fun K hK => ?_) (fun K hK => ?_)
   ·refine gS_ Try.func35 #[.slice ax am.length ay] ?_
    with_reducible refine (slices_Clone_bool_bool.calls _ _ am ar _ ?s1 ?s2 A5.out).mono ?_
    (case s1 => exact cB bb HB)
    (case s2 => exact bc.out)
    rintro e bD ⟨aV, rfl, aj, hb⟩; refine ⟨_, rfl, ?_⟩; replace O := rB O hb; have W := rW aj (bP2 HB D F); replace z := kB z hb; replace A := kB A hb; replace HB := hS2 HB D F hb
    (try clear hb)
    (try clear bC)
    (try clear hk)
    (try clear hi)
    (try clear aj)
    refine hK.out _ _ (bD3 z) (fun Y => ?_); clear hK K; refine nm_ 21 ?_; exact norm_ pO (cD (ao, aV) _ ⟨Y, rQ O, rQ W, kQ z, kQ A, bT2 HB D F⟩)
   ·refine lt_ (Kd.int .i64) 3 22 ([0] : List Int) [.int .i64 0] (Reps.one (show Kd.M (Kd.int .i64) _ _ _ 0 [.int .i64 0] from rfl) (Reps.none _ _)) ?_; intro au bD a4 hb
    replace a4 := nW bd a4
    replace O := rB O hb; have P := rW a4 (bP2 HB D F); replace z := kB z hb; replace A := kB A hb; replace HB := hS2 HB D F hb; clear hb a4; refine hK.out _ _ (bD3 z) (fun Y => ?_); clear hK K; refine nm_ 22 ?_; exact norm_ pO (b8 (ao, au) _ ⟨Y, rQ O, rQ P, kQ z, kQ A, bT2 HB D F⟩)
   ·refine bs_ (cs := #[.slice none 0 0, .slice none 0 0, .slice none 0 0, .slice none 0 0]) (t := 32) ?_; intro Q hg bD Z hb; replace O := rB O hb; have E := aM (Z); have aa := gE hg (bP2 HB D F); have I := gE hg (bP2 HB D F); replace HB := hS2 HB D F hb; have B := nL hg z; have L := nG hg z; replace z := kB z hb; have G := nL hg A; have J := nG hg A; replace A := kB A hb; clear hb Z hg; refine hK.out _ _ (bD3 z) (fun Y => ?_); clear hK K; refine nm_ 5 ?_; exact norm_ pO (b9 (ao, Q) _ ⟨Y, rQ O, kQ z, kQ A, kQ E, aa, I, B, L, G, J, bT3 HB D F I⟩)
  intro ex; refine join_ (σ := Value) 5 (bl 10 91) (fun s_ => [(22, s_)]) (fun s_ w' => (q_1 w') ∧ (RA (Kd.int .i64) 3 w' w s_ aG) ∧ (q_2 w') ∧ (q_3 w') ∧ BA w w') ?_ ?_
  ·clear z A HB; rintro au bD ⟨Y, P, z, A, HB⟩; (try dsimp only at Y P z A HB); refine norm_ (a' := ?_) ?_ ?_; rotate_left
   ·simp only [putAll, Act.put, sA, sB, sC]
    rfl
   refine two_ (i := 2) (j := 8) (Ni := some 18) (Nj := some 5) (bl 10 95) (bl 10 347) rfl rfl rfl rfl (two_of ag.out (by kernel_rfl)) (by decide) (by decide) (fun K hK => ?_) (fun K hK => ?_)
   ·refine gS_ Try.func34 #[.slice av al.length aw] ?_
    with_reducible refine (slices_Clone_string_string.calls _ _ al an _ ?s1 ?s2 A4.out).mono ?_
    (case s1 => exact cB a9 HB)
    (case s2 => exact ba.out)
    rintro e br ⟨ao, rfl, aj, hb⟩; refine ⟨_, rfl, ?_⟩; replace P := rB P hb; have O := rW aj (bP2 HB D F); replace z := kB z hb; replace A := kB A hb; replace HB := hS2 HB D F hb
    (try clear hb)
    (try clear bC)
    (try clear hk)
    (try clear hi)
    (try clear aj)
    refine hK.out _ _ (bD3 z) (fun Y => ?_); clear hK K; refine nm_ 18 ?_; exact norm_ pO (b8 (ao, au) _ ⟨Y, rQ O, rQ P, kQ z, kQ A, bT2 HB D F⟩)
   ·refine bs_ (cs := #[.slice none 0 0, .slice none 0 0, .slice none 0 0, .slice none 0 0]) (t := 32) ?_; intro Q hg br Z hb; replace P := rB P hb; have E := aM (Z); have aa := gE hg (bP2 HB D F); have I := gE hg (bP2 HB D F); replace HB := hS2 HB D F hb; have B := nL hg z; have L := nG hg z; replace z := kB z hb; have G := nL hg A; have J := nG hg A; replace A := kB A hb; clear hb Z hg; refine hK.out _ _ (bD3 z) (fun Y => ?_); clear hK K; refine nm_ 5 ?_; exact norm_ pO (ca (au, Q) _ ⟨Y, rQ P, kQ z, kQ A, kQ E, aa, I, B, L, G, J, bT3 HB D F I⟩)
  intro ey; refine join_ (σ := Nat) 5 (bl 10 283) (fun s_ => [(5, .pointer (some ⟨s_, 0, none⟩))]) (fun s_ w' => (q_1 w') ∧ (q_2 w') ∧ (q_3 w') ∧ (Aside0 (w'.heap[s_]? = some (.cells #[.slice none 0 0, .slice none 0 0, .slice none 0 0, .slice none 0 0] 32 (0, 0)))) ∧ (Aside0 (w.heap.size ≤ s_)) ∧ (Aside0 (w.heap.size ≤ s_)) ∧ (Aside0 (af ≠ s_)) ∧ (Aside0 (s_ ≠ af)) ∧ (Aside0 (ak ≠ s_)) ∧ (Aside0 (s_ ≠ ak)) ∧ BA w w') ?_ ?_
  ·clear z A HB; rintro Q ew ⟨Y, z, A, E, aa, I, B, L, G, J, HB⟩; (try dsimp only at Y z A E aa I B L G J HB); refine norm_ (a' := ?_) ?_ ?_; rotate_left
   ·simp only [putAll, Act.put, sA, sB, sC]
    rfl
   refine two_ (i := 2) (j := 6) (Ni := some 18) (Nj := some 22) (bl 10 287) (bl 10 347) rfl rfl rfl rfl (two_of ag.out (by kernel_rfl)) (by decide) (by decide) (fun K hK => ?_) (fun K hK => ?_)
   ·refine gS_ Try.func34 #[.slice av al.length aw] ?_
    with_reducible refine (slices_Clone_string_string.calls _ _ al an _ ?s1 ?s2 A4.out).mono ?_
    (case s1 => exact cB a9 HB)
    (case s2 => exact ba.out)
    rintro e bD ⟨ao, rfl, aj, hb⟩; refine ⟨_, rfl, ?_⟩; have O := rW aj (bP3 HB D F I); replace z := kB z hb; replace A := kB A hb; replace E := kB E hb; replace HB := hS3 HB D F I hb
    (try clear hb)
    (try clear bC)
    (try clear hk)
    (try clear hi)
    (try clear aj)
    refine hK.out _ _ (bD3 z) (fun Y => ?_); clear hK K; refine nm_ 18 ?_; exact norm_ pO (b9 (ao, Q) _ ⟨Y, rQ O, kQ z, kQ A, kQ E, aa, I, B, L, G, J, bT3 HB D F I⟩)
   ·refine lt_ (Kd.int .i64) 3 22 ([0] : List Int) [.int .i64 0] (Reps.one (show Kd.M (Kd.int .i64) _ _ _ 0 [.int .i64 0] from rfl) (Reps.none _ _)) ?_; intro au bD a4 hb
    replace a4 := nW bd a4
    have P := rW a4 (bP3 HB D F I); replace z := kB z hb; replace A := kB A hb; replace E := kB E hb; replace HB := hS3 HB D F I hb; clear hb a4; refine hK.out _ _ (bD3 z) (fun Y => ?_); clear hK K; refine nm_ 22 ?_; exact norm_ pO (ca (au, Q) _ ⟨Y, rQ P, kQ z, kQ A, kQ E, aa, I, B, L, G, J, bT3 HB D F I⟩)
  intro ez; refine three_ (i := 2) (j := 6) (k := 8) (Ni := some 18) (Nj := some 22) (Nk := some 5) (bl 10 31) (bl 10 91) (bl 10 283) rfl rfl rfl rfl rfl rfl (three_of ag.out (by kernel_rfl)) (by decide) (by decide) (by decide) (fun K hK => ?_) (fun K hK => ?_) (fun K hK => ?_)
  ·refine gS_ Try.func34 #[.slice av al.length aw] ?_
   with_reducible refine (slices_Clone_string_string.calls _ _ al an _ ?s1 ?s2 A4.out).mono ?_
   (case s1 => exact cB a9 HB)
   (case s2 => exact ba.out)
   rintro e cL ⟨ao, rfl, aj, hb⟩; refine ⟨_, rfl, ?_⟩; have O := rW aj (bP2 HB D F); replace z := kB z hb; replace A := kB A hb; replace HB := hS2 HB D F hb
   (try clear hb)
   (try clear bC)
   (try clear hk)
   (try clear hi)
   (try clear aj)
   refine hK.out _ _ (bD3 z) (fun Y => ?_); clear hK K; refine nm_ 18 ?_; exact norm_ pO (ex (ao) _ ⟨Y, rQ O, kQ z, kQ A, bT2 HB D F⟩)
  ·refine lt_ (Kd.int .i64) 3 22 ([0] : List Int) [.int .i64 0] (Reps.one (show Kd.M (Kd.int .i64) _ _ _ 0 [.int .i64 0] from rfl) (Reps.none _ _)) ?_; intro au cL bN hb
   replace bN := nW bd bN
   have P := rW bN (bP2 HB D F); replace z := kB z hb; replace A := kB A hb; replace HB := hS2 HB D F hb; clear hb bN; refine hK.out _ _ (bD3 z) (fun Y => ?_); clear hK K; refine nm_ 22 ?_; exact norm_ pO (ey (au) _ ⟨Y, rQ P, kQ z, kQ A, bT2 HB D F⟩)
  ·refine bs_ (cs := #[.slice none 0 0, .slice none 0 0, .slice none 0 0, .slice none 0 0]) (t := 32) ?_; intro Q hg cL Z hb; have E := aM (Z); have aa := gE hg (bP2 HB D F); have I := gE hg (bP2 HB D F); replace HB := hS2 HB D F hb; have B := nL hg z; have L := nG hg z; replace z := kB z hb; have G := nL hg A; have J := nG hg A; replace A := kB A hb; clear hb Z hg; refine hK.out _ _ (bD3 z) (fun Y => ?_); clear hK K; refine nm_ 5 ?_; exact norm_ pO (ez (Q) _ ⟨Y, kQ z, kQ A, kQ E, aa, I, B, L, G, J, bT3 HB D F I⟩)
 ·obtain ⟨cM, cN⟩ := bn c3; obtain ⟨rfl, rfl, rfl, rfl, rfl⟩ := pE5 H
  go_enter Try.func12, Try.ntmps12
  go_wp2_with (first | ((with_reducible refine gate_dst (N := 1) rfl ?_); refine be_ (cs := #[.slice av al.length aw, .slice ax am.length ay, .slice aU ab.length aJ]) (t := 26) ?_; intro af hg fe Z hb; have z := aM (Z); have cq := gE hg (bP0 HB); have D := gE hg (bP0 HB); replace HB := hS0 HB hb; clear hb Z hg) | ((with_reducible refine gate_dst (N := 2) rfl ?_); refine be_ (cs := #[.slice none 0 0, .slice none 0 0, .slice none 0 0, .slice none 0 0]) (t := 32) ?_; intro ak hg ff Z hb; have A := aM (Z); have cr := gE hg (bP1 HB D); have F := gE hg (bP1 HB D); replace HB := hS1 HB D hb; have az := nL hg z; have aA := nG hg z; replace z := kB z hb; clear hb Z hg; have eX := az.out; have eY := aA.out; obtain ⟨d8, d9, ea, eb, ec, ed⟩ := bG3 z) | ((with_reducible refine gate_callee (f := 15) rfl ?_); refine gL_ (some 11) Try.func15 #[.agg #[.slice av al.length aw, .slice ax am.length ay, .slice aU ab.length aJ]] ?_; (with_reducible refine (table_Right.calls k _ _ al _ _ am _ _ ab bP _ ?s1 ba.out ?s3 bc.out ?s5 b0.out A2.out).mono ?_); (case s1 => exact cB a9 HB); (case s3 => exact cB bb HB); (case s5 => exact cB bj HB); rintro e fg ⟨rfl, hb⟩; refine ⟨_, rfl, ?_⟩; replace z := kB z hb; replace A := kB A hb; replace HB := hS2 HB D F hb; (try clear hb); obtain ⟨ee, ef, eg, eh, ei, ej, ek, el⟩ := bG4 A))
  refine bodyPost_ret (results_ct rfl _ _ ak 32 #[.slice none 0 0, .slice none 0 0, .slice none 0 0, .slice none 0 0] (0, 0) _ rfl (by (with_reducible repeat (first | refine blk_drewN ?_ _ | refine blk_drew ?_ | refine blk_alloc ?_ _)); exact blk_put (blk_put (blk_put (blk_put A.out 0 _ rfl) 1 _ rfl) 2 _ rfl) 3 _ rfl) Try.underlying32 rfl (by kernel_rfl)) rfl ?_; exact ⟨_, _, _, _, eW, by first | exact Kd.R_nil _ _ _ _ _ | exact Kd.N_nil _ _ _ _ _ | exact Kd.V_nil _ _ _ _ _ | exact Kd.Q_nil _ _ _ _ _ | exact Kd.S_nil _ _ _ _ _, by first | exact Kd.R_nil _ _ _ _ _ | exact Kd.N_nil _ _ _ _ _ | exact Kd.V_nil _ _ _ _ _ | exact Kd.Q_nil _ _ _ _ _ | exact Kd.S_nil _ _ _ _ _, by first | exact Kd.R_nil _ _ _ _ _ | exact Kd.N_nil _ _ _ _ _ | exact Kd.V_nil _ _ _ _ _ | exact Kd.Q_nil _ _ _ _ _ | exact Kd.S_nil _ _ _ _ _, by first | exact Kd.R_nil _ _ _ _ _ | exact Kd.N_nil _ _ _ _ _ | exact Kd.V_nil _ _ _ _ _ | exact Kd.Q_nil _ _ _ _ _ | exact Kd.S_nil _ _ _ _ _, bS2 HB.out D.out F.out⟩

end Go.Proofs.Ytghfclgcgecgdaa.X

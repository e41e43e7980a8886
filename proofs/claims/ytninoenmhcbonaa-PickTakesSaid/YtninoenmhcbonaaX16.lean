/- What the functions of this seat compute, and that the program's calls come to just that: written by this session's own program out of the translation; no condition. -/
import Derived.Test.YtninoenmhcbonaaX0
import Derived.Test.YtninoenmhcbonaaX5
import Derived.Test.YtninoenmhcbonaaX12
namespace Go.Proofs.Ytninoenmhcbonaa.X
open Go.RowKit Go.Proofs.YtninoenmhcbonaaW.PrintWords Go.Proofs.YtninoenmhcbonaaW.PrintLast Go.Proofs.YtninoenmhcbonaaW.PrintMore
attribute [local go_sem] max2_int min2_int max_two min_two max_three min_three max_four min_four
set_option linter.unusedVariables false
set_option linter.unusedSimpArgs false
set_option maxHeartbeats 8000000
set_option maxRecDepth 100000

/-! ### table_Unpack: function 29 -/
def table_Unpack.l0 : Nat → Int → Int → List ByteArray → List Bool → List Int → List (S73) → List ByteArray → List Bool → List (List Int) → Option (List ByteArray × List Bool × (List (List Int)) × Int)
 | 0, _, _, _, _, _, _, _, _, _ => none
 | k + 1, x24, x25, x182000, x182001, x182002, x182003, x191000, x191001, x191002 => if x25 < x24 then ((table_rowOf.f x182000 x182001 x182002 x182003 x25).bind fun t191 => ((row_Unpack.f k t191 (x182000.length : Int)).bind fun bt194 => (if bt194.2 = 0 then (if x191002.length < 5864062014805 then (table_Unpack.l0 k x24 (wrap64 (x25 + 1)) x182000 x182001 x182002 x182003 x191000 x191001 (x191002 ++ [bt194.1])) else (none)) else (some (([] : List ByteArray), ([] : List Bool), ([] : List (List Int)), bt194.2))))) else (some (x191000, x191001, x191002, 0))
def table_Unpack.f (k : Nat) (l0_0 : List ByteArray) (l0_1 : List Bool) (l0_2 : List Int) (l0_3 : List (S73)) : Option (List ByteArray × List Bool × (List (List Int)) × Int) := (table_Check.f k l0_0 l0_1 l0_2 l0_3).bind fun t183 => (if t183 = 0 then ((slices_Clone_string_string.f l0_0).bind fun t184 => ((slices_Clone_bool_bool.f l0_1).bind fun t187 => (table_Unpack.l0 k (l0_1.length : Int) 0 l0_0 l0_1 l0_2 l0_3 t184 t187 ([] : List (List Int))))) else (some (([] : List ByteArray), ([] : List Bool), ([] : List (List Int)), t183)))
theorem table_Unpack.mono_l : ∀ k, (∀ y0 y1 y2 y3 y4 y5 y6 y7 y8, LeO (table_Unpack.l0 k y0 y1 y2 y3 y4 y5 y6 y7 y8) (table_Unpack.l0 (k + 1) y0 y1 y2 y3 y4 y5 y6 y7 y8))
 | 0 => fun _ _ _ _ _ _ _ _ _ r h => by simp [table_Unpack.l0] at h
 | k + 1 => by
  have ih0 := table_Unpack.mono_l k
  ·intro y0 y1 y2 y3 y4 y5 y6 y7 y8
   unfold table_Unpack.l0
   repeat' first | (with_reducible first | exact ih0 _ _ _ _ _ _ _ _ _ | exact row_Unpack.mono _ _ _ | exact table_Check.mono _ _ _ _ _ | exact lA | apply lI | refine lB ?_ fun _ => ?_) | exact lN _ | apply lI | refine lB ?_ fun _ => ?_
theorem table_Unpack.mono : ∀ a0 a1 a2 a3 k, LeO (table_Unpack.f k a0 a1 a2 a3) (table_Unpack.f (k + 1) a0 a1 a2 a3) := by
 intro a0 a1 a2 a3 k; have ih0 := table_Unpack.mono_l k
 unfold table_Unpack.f
 repeat' first | (with_reducible first | exact ih0 _ _ _ _ _ _ _ _ _ | exact row_Unpack.mono _ _ _ | exact table_Check.mono _ _ _ _ _ | exact lA | apply lI | refine lB ?_ fun _ => ?_) | exact lN _ | apply lI | refine lB ?_ fun _ => ?_
def table_Unpack.T4 : Bool × List (List Nat × List Nat) := (true, [([], []), ([0], [0]), ([1], [1]), ([], []), ([3], [3]), ([4, 2], [4]), ([2, 5], [2, 5]), ([], []), ([7, 6, 5, 0, 1, 2, 3, 4, 5, 6, 7], [6, 7])])
def table_Unpack.B4 : List Nat := [0, 1, 3, 0, 8, 31, 63, 0, 255]
theorem table_Unpack.tab4 : rtab .any (opsOf Try.f29 4) = table_Unpack.T4 := by kernel_rfl
theorem table_Unpack.bits4 : waitsOk table_Unpack.T4.2 table_Unpack.B4 = true := by kernel_rfl
def table_Unpack.T8 : Bool × List (List Nat × List Nat) := (true, [([], []), ([], []), ([0, 1], [0, 1]), ([], []), ([3], [3]), ([4], [4]), ([2, 5, 2], [2, 5]), ([6], [6]), ([7], [7]), ([7], [7]), ([8, 6, 0, 1, 2, 3, 4, 5, 6, 7, 8], [8]), ([9, 10, 0, 1, 2, 3, 4, 5, 6, 7, 8, 9, 10], [9])])
def table_Unpack.B8 : List Nat := [0, 0, 3, 0, 8, 24, 63, 127, 255, 255, 511, 2047]
theorem table_Unpack.tab8 : rtab .any (opsOf Try.f29 8) = table_Unpack.T8 := by kernel_rfl
theorem table_Unpack.bits8 : waitsOk table_Unpack.T8.2 table_Unpack.B8 = true := by kernel_rfl
theorem table_Unpack.calls (k : Nat) (ai : Option Addr) (aj : Nat) (Q : List ByteArray) (af : Option Addr) (ag : Nat) (O : List Bool) (ao : Option Addr) (ap : Nat) (Z : List Int) (aq : Option Addr) (ar : Nat) (aa : List (S73)) (r1 : List ByteArray) (r2 : List Bool) (r3 : List (List Int)) (r4 : Int) (w : World) (bj : Kd.C Kd.string w ai Q.length Q) (bk : Q.length ≤ aj) (bm : Kd.C Kd.bool w af O.length O) (bo : O.length ≤ ag) (bp : Kd.C (Kd.int .i64) w ao Z.length Z) (br : Z.length ≤ ap) (bs : Kd.C k73 w aq aa.length aa) (bt : aa.length ≤ ar) (h : table_Unpack.f k Q O Z aa = some (r1, r2, r3, r4)) :
  Calls Try.prog 29 #[.agg #[.slice ai Q.length aj, .slice af O.length ag, .slice ao Z.length ap, .slice aq aa.length ar]] w fun e w' => ∃ bR bS bT : Value, e = .returned (.tuple #[.agg #[bR, bS, bT], .int .i64 r4]) ∧ Kd.R Kd.string 9 w' w.heap.size (fun _ => True) bR r1 ∧ Kd.R Kd.bool 4 w' w.heap.size (fun _ => True) bS r2 ∧ Kd.S (Kd.slice 3 (Kd.int .i64)) 24 w' w.heap.size (fun _ => True) bT r3 ∧ Below w.heap.size w w' := by
 have hu27 := Try.underlying27; have hu45 := Try.underlying45; have aQ := aM bj; have aR := aM bk; clear bj bk; have aD := aM bm; have aE := aM bo; clear bm bo; have aW := aM bp; have aX := aM br; clear bp br; have aY := aM bs; have aZ := aM bt; clear bs bt; have HB := aM (Below.refl w.heap.size w); rw [table_Unpack.f] at h; have H := h; clear h; replace H := Option.bind_eq_some_iff.mp H; obtain ⟨bd, bU, H⟩ := H; have A2 := aM bU; clear bU
 by_cases c3 : bd = 0
 ·rw [if_pos c3] at H; obtain ⟨b0, b1⟩ := bq c3; clear c3; replace H := Option.bind_eq_some_iff.mp H; obtain ⟨al, bV, H⟩ := H; have A4 := aM bV; clear bV; replace H := Option.bind_eq_some_iff.mp H; obtain ⟨ak, bW, H⟩ := H; have A5 := aM bW; clear bW; have H' := aM H; clear H
  go_enter Try.func29, Try.ntmps29
  try go_wp2_with (first | ((with_reducible refine gate_dst (N := 1) rfl ?_); refine be_ (cs := #[.slice ai Q.length aj, .slice af O.length ag, .slice ao Z.length ap, .slice aq aa.length ar]) (t := 27) ?_; intro U hg w6 hbox hb; have z := aM (hbox); have ba := gE hg (bP0 HB); have F := gE hg (bP0 HB); replace HB := hS0 HB hb; clear hb hbox hg) | ((with_reducible refine gate_dst (N := 2) rfl ?_); refine be_ (cs := #[.slice none 0 0, .slice none 0 0, .slice none 0 0]) (t := 45) ?_; intro am hg w7 hbox hb; have A := aM (hbox); have bb := gE hg (bP1 HB F); have G := gE hg (bP1 HB F); replace HB := hS1 HB F hb; have az := nL hg z; have aA := nG hg z; replace z := kB z hb; clear hb hbox hg; have dK := az.out; have dL := aA.out; obtain ⟨de, df, dg, dh, di, dj, dk, dl⟩ := bG4 z) | ((with_reducible refine gate_callee (f := 21) rfl ?_); refine gL_ (some 10) Try.func21 #[.agg #[.slice ai Q.length aj, .slice af O.length ag, .slice ao Z.length ap, .slice aq aa.length ar]] ?_; (with_reducible refine (table_Check.calls k _ _ Q _ _ O _ _ Z _ _ aa bd _ ?s1 aR.out ?s3 aE.out ?s5 aX.out ?s7 aZ.out A2.out).mono ?_); (case s1 => exact cB aQ HB); (case s3 => exact cB aD HB); (case s5 => exact cB aW HB); (case s7 => exact cB aY HB); rintro e dm ⟨rfl, hb⟩; refine ⟨_, rfl, ?_⟩; replace z := kB z hb; replace A := kB A hb; replace HB := hS2 HB F G hb; (try clear hb)))
  replace z := kD z; replace A := kD A; replace HB := aM (below_drew1 HB.out); refine start_ (n := 9) (S := fun w' => w'.cell? ⟨U, 0, none⟩ = some (.slice ai Q.length aj) ∧ w'.cell? ⟨U, 1, none⟩ = some (.slice af O.length ag) ∧ w'.cell? ⟨U, 2, none⟩ = some (.slice ao Z.length ap) ∧ w'.cell? ⟨U, 3, none⟩ = some (.slice aq aa.length ar)) (ds := []) (bl 9 0) (by kernel_rfl) rfl rfl (bD4 z) (fun hHeld => ?_); refine with_tabW table_Unpack.tab4 table_Unpack.bits4 (fun HT_ HW_ => ?_); generalize dm.drew = dN at z A HB hHeld ⊢; refine pu_ 0 15 (bl 9 1) HT_ ?_; refine pu_ 3 18 (bl 9 9) HT_ ?_; refine tk4_ 1 16 (bl 9 11) HT_ HW_ hHeld ?_; refine tk4_ 4 19 (bl 9 27) HT_ HW_ hHeld ?_; refine join_ (σ := Value × Value × Nat) 1 (bl 9 255) (fun s_ => [(17, s_.1), (20, s_.2.1), (5, .pointer (some ⟨s_.2.2, 0, none⟩)), (21, .agg #[s_.1, s_.2.1, .slice none 0 0])]) (fun s_ w' => (w'.cell? ⟨U, 0, none⟩ = some (.slice ai Q.length aj) ∧ w'.cell? ⟨U, 1, none⟩ = some (.slice af O.length ag) ∧ w'.cell? ⟨U, 2, none⟩ = some (.slice ao Z.length ap) ∧ w'.cell? ⟨U, 3, none⟩ = some (.slice aq aa.length ar)) ∧ (RA Kd.string 9 w' w s_.1 al) ∧ (RA Kd.bool 4 w' w s_.2.1 ak) ∧ (Aside0 (w'.heap[U]? = some (.cells #[.slice ai Q.length aj, .slice af O.length ag, .slice ao Z.length ap, .slice aq aa.length ar] 27 (0, 0)))) ∧ (Aside0 (w'.heap[am]? = some (.cells #[.slice none 0 0, .slice none 0 0, .slice none 0 0] 45 (0, 0)))) ∧ (Aside0 (w'.heap[s_.2.2]? = some (.cells #[.slice none 0 0, .slice none 0 0, .slice none 0 0] 45 (0, 0)))) ∧ (Aside0 (w.heap.size ≤ s_.2.2)) ∧ (Aside0 (w.heap.size ≤ s_.2.2)) ∧ (Aside0 (U ≠ s_.2.2)) ∧ (Aside0 (s_.2.2 ≠ U)) ∧ (Aside0 (am ≠ s_.2.2)) ∧ (Aside0 (s_.2.2 ≠ am)) ∧ BA w w') ?_ ?_
  ·clear z A HB; rintro ⟨bx, be, M⟩ bz ⟨hHeld, Y, an, z, A, E, aC, L, D, V, P, W, HB⟩; (try dsimp only at hHeld Y an z A E aC L D V P W HB); obtain ⟨aG, aH, bA⟩ := sL an
   (first | subst bA | (injection bA with ac av ad; have aw := ac.symm; have ax := ad.symm; clear ac av ad; subst aw; subst ax))
   obtain ⟨aI, aJ, bB⟩ := sL Y
   (first | subst bB | (injection bB with ac av ad; have aw := ac.symm; have ax := ad.symm; clear ac av ad; subst aw; subst ax))
   refine norm_ (a' := ?_) ?_ ?_; rotate_left
   ·simp only [putAll, Act.put, sA, sB, sC]
    rfl
   refine one_ (i := 8) (N := none) (bl 9 511) rfl rfl (one_of HT_.out (by kernel_rfl)) (by decide) (fun K hK => ?_); have hs20 : bz.cell? ⟨M, 0, none⟩ = some (.slice none 0 0) := (blk_cell E.out 0).trans rfl; have hfs20 := blk_frozen E.out 0; have hns20_0 := D.out; have hns20_1 := P.out; have hms20_0 := V.out; have hms20_1 := W.out; have hs21 : bz.cell? ⟨M, 1, none⟩ = some (.slice none 0 0) := (blk_cell E.out 1).trans rfl; have hfs21 := blk_frozen E.out 1; have hns21_0 := D.out; have hns21_1 := P.out; have hms21_0 := V.out; have hms21_1 := W.out; have hs22 : bz.cell? ⟨M, 2, none⟩ = some (.slice none 0 0) := (blk_cell E.out 2).trans rfl; have hfs22 := blk_frozen E.out 2; have hns22_0 := D.out; have hns22_1 := P.out; have hms22_0 := V.out; have hms22_1 := W.out; refine skip_ (w1 := ?_) (by rfl) rfl ?_ ?_; rotate_left
   ·go_simp
    rfl
   refine hK.out _ _ ⟨((cell_far (p := ⟨M, _, none⟩) D.out _).trans (((cell_far (p := ⟨M, _, none⟩) D.out _).trans (((cell_far (p := ⟨M, _, none⟩) D.out _).trans (hHeld.1)))))), ((cell_far (p := ⟨M, _, none⟩) D.out _).trans (((cell_far (p := ⟨M, _, none⟩) D.out _).trans (((cell_far (p := ⟨M, _, none⟩) D.out _).trans (hHeld.2.1)))))), ((cell_far (p := ⟨M, _, none⟩) D.out _).trans (((cell_far (p := ⟨M, _, none⟩) D.out _).trans (((cell_far (p := ⟨M, _, none⟩) D.out _).trans (hHeld.2.2.1)))))), ((cell_far (p := ⟨M, _, none⟩) D.out _).trans (((cell_far (p := ⟨M, _, none⟩) D.out _).trans (((cell_far (p := ⟨M, _, none⟩) D.out _).trans (hHeld.2.2.2))))))⟩ (fun hHeld => ?_); clear hK K; refine done_ (done_of HT_.out (by kernel_rfl)) ?_; have dr := D.out; have dt := V.out; obtain ⟨ci, cj, ck, cl, cm, cn, co, cp⟩ := bG4 z
   try go_wp2
   go_loopg [25] k (fun kq dn w' => ∃ (ay : Int) (ae : List (List Int)) (ah : Value), dn = .int .i64 ay ∧ Aside0 (table_Unpack.l0 kq (O.length : Int) ay Q O Z aa al ak ae = some (r1, r2, r3, r4)) ∧ Aside0 (kq ≤ k) ∧ RA Kd.string 9 w' w (.slice aI al.length aJ) al ∧ RA Kd.bool 4 w' w (.slice aG ak.length aH) ak ∧ Aside0 (Kd.S (Kd.slice 3 (Kd.int .i64)) 24 w' w.heap.size (fun _ => True) ah ae) ∧ Aside0 (w'.heap[U]? = some (.cells #[(.slice ai Q.length aj), (.slice af O.length ag), (.slice ao Z.length ap), (.slice aq aa.length ar)] 27 (0, 0))) ∧ Aside0 (w'.heap[am]? = some (.cells #[(.slice none 0 0), (.slice none 0 0), (.slice none 0 0)] 45 (0, 0))) ∧ Aside0 (w'.heap[M]? = some (.cells #[(.slice aI al.length aJ), (.slice aG ak.length aH), ah] 45 (0, 0))) ∧ BA w w')
   case atStart => exact ⟨(0), (([] : List (List Int))), (.slice none 0 0), sI, H', ⟨Nat.le_refl _⟩, ⟨rZ Y E⟩, ⟨rZ an E⟩, ⟨by first | exact Kd.S_nil _ _ _ _ _ | exact Kd.N_nil _ _ _ _ _ | exact Kd.V_nil _ _ _ _ _ | exact Kd.Q_nil _ _ _ _ _ | exact Kd.R_nil _ _ _ _ _⟩, ⟨kN z D⟩, ⟨kN A P⟩, ⟨by (with_reducible repeat (first | refine blk_drewN ?_ _ | refine blk_drew ?_ | refine blk_alloc ?_ _)); exact blk_put (blk_put (blk_put E.out 0 _ rfl) 1 _ rfl) 2 _ rfl⟩, bT3 HB F G L⟩
   case round =>
    clear H'
    obtain ⟨ay, ae, ah, rfl, HA, HK1, I, J, B, z, A, E, HB⟩ := hrel; cases gk with
    | zero => exact absurd HA.out (by simp [table_Unpack.l0])
    | succ k1 =>
     have H := HA.out; clear HA; simp only [table_Unpack.l0] at H
     by_cases a9 : ay < (O.length : Int)
     ·rw [if_pos a9] at H; have bM := dT a9; clear a9; replace H := Option.bind_eq_some_iff.mp H; obtain ⟨aU, bC, H⟩ := H; have bX := aM bC; clear bC; replace H := Option.bind_eq_some_iff.mp H; obtain ⟨⟨aK, a5⟩, bD, H⟩ := H; replace H : (if a5 = 0 then (if ae.length < 5864062014805 then (table_Unpack.l0 k1 (O.length : Int) (wrap64 (ay + 1)) Q O Z aa al ak (ae ++ [aK])) else (none)) else (some (([] : List ByteArray), ([] : List Bool), ([] : List (List Int)), a5))) = some (r1, r2, r3, r4) := H; have bY := aM bD; clear bD
      by_cases bc : a5 = 0
      ·rw [if_pos bc] at H; obtain ⟨bN, bO⟩ := bq bc; clear bc
       by_cases bu : ae.length < 5864062014805
       ·rw [if_pos bu] at H; have bP := aM bu; clear bu; obtain ⟨bE, a4⟩ : ∃ y_ : List (List Int), y_ = (ae ++ [aK]) := ⟨_, rfl⟩
        first | replace H := rI a4 H | rw [← a4] at H
        have bQ := aM a4; clear a4; have H' := aM H; clear H
        try go_wp2
        replace I := aM (Kd.R_drew I.out); replace J := aM (Kd.R_drew J.out); replace B := aM (Kd.S_drew B.out); replace z := kD z; replace A := kD A; replace E := kD E; replace HB := aM (below_drew1 HB.out); refine start_ (n := 12) (S := fun w' => w'.cell? ⟨U, 0, none⟩ = some (.slice ai Q.length aj) ∧ w'.cell? ⟨U, 1, none⟩ = some (.slice af O.length ag) ∧ w'.cell? ⟨U, 2, none⟩ = some (.slice ao Z.length ap) ∧ w'.cell? ⟨U, 3, none⟩ = some (.slice aq aa.length ar)) (ds := []) (bl 12 0) (by kernel_rfl) rfl rfl (bD4 z) (fun hHeld => ?_); refine with_tabW table_Unpack.tab8 table_Unpack.bits8 (fun HT_ HW_ => ?_); generalize wr.drew = dO at I J B z A E HB hHeld ⊢; refine pu_ 1 30 (bl 12 2) HT_ ?_; refine pu_ 3 32 (bl 12 10) HT_ ?_; refine tk4_ 0 29 (bl 12 11) HT_ HW_ hHeld ?_; refine tk4_ 4 33 (bl 12 27) HT_ HW_ hHeld ?_; refine pu_ 5 34 (bl 12 59) HT_ ?_; refine one_ (i := 2) (N := some 31) (bl 12 63) rfl rfl (one_of HT_.out (by kernel_rfl)) (by decide) (fun K hK => ?_); refine gS_ Try.func44 #[.agg #[.slice ai Q.length aj, .slice af O.length ag, .slice ao Z.length ap, .slice aq aa.length ar], .int .i64 ay] ?_
        with_reducible refine (table_rowOf.calls _ _ Q _ _ O _ _ Z (fun k_ => k_ < w.heap.size) _ _ aa ay aU _ ?s1 ?s2 ?s3 ?s4 ?s5 ?s6 ?s7 bX.out).mono ?_
        (case s1 => exact cB aQ HB)
        (case s2 => exact aR.out)
        (case s3 => exact cB aD HB)
        (case s4 => exact aE.out)
        (case s5 => exact cB aW HB)
        (case s6 => exact aX.out)
        (case s7 => exact Kd.V_mk aZ.out (Kd.F_below (Kd.C_F k73_heap aY.out) (bP3 HB F G L)))
        rintro e dP ⟨b3, rfl, ab, hb⟩; refine ⟨_, rfl, ?_⟩; have au := aM (Kd.V_lower (Kd.V_mono (ok' := fun k_ => some k_ ≠ (.slice aI al.length aJ : Value).ownBlock ∧ some k_ ≠ (.slice aG ak.length aH : Value).ownBlock ∧ some k_ ≠ (ah : Value).ownBlock ∧ k_ ≠ U ∧ k_ ≠ am ∧ k_ ≠ M) ab (fun k_ hk_ => ⟨Or.elim hk_ (fun hs_ => fun e_ => Nat.not_le.2 hs_ (Kd.R_base I.out k_ e_.symm)) (fun hn_ => (Kd.fresh' (Kd.R_lt (rP I)) k_ hn_)), Or.elim hk_ (fun hs_ => fun e_ => Nat.not_le.2 hs_ (Kd.R_base J.out k_ e_.symm)) (fun hn_ => (Kd.fresh' (Kd.R_lt (rP J)) k_ hn_)), Or.elim hk_ (fun hs_ => fun e_ => Nat.not_le.2 hs_ (Kd.S_base B.out k_ e_.symm)) (fun hn_ => (Kd.fresh' (Kd.S_lt (by (with_reducible repeat (first | apply Kd.S_alloc | apply Kd.S_drewN | apply Kd.S_drew)); exact B.out)) k_ hn_)), Or.elim hk_ (fun hs_ => fun e_ => Nat.not_le.2 hs_ (by rw [e_]; exact ba.out)) (fun hn_ => (Kd.freshB (g := U) (o := .cells #[.slice ai Q.length aj, .slice af O.length ag, .slice ao Z.length ap, .slice aq aa.length ar] 27 (0, 0)) (kO z.out) k_ hn_)), Or.elim hk_ (fun hs_ => fun e_ => Nat.not_le.2 hs_ (by rw [e_]; exact bb.out)) (fun hn_ => (Kd.freshB (g := am) (o := .cells #[.slice none 0 0, .slice none 0 0, .slice none 0 0] 45 (0, 0)) (kO A.out) k_ hn_)), Or.elim hk_ (fun hs_ => fun e_ => Nat.not_le.2 hs_ (by rw [e_]; exact aC.out)) (fun hn_ => (Kd.freshB (g := M) (o := .cells #[.slice aI al.length aJ, .slice aG ak.length aH, ah] 45 (0, 0)) (kO E.out) k_ hn_))⟩)) (below_size (bP3 HB F G L))); replace I := rB I hb; replace J := rB J hb; replace B := aM (Kd.S_below (by (with_reducible repeat (first | apply Kd.S_alloc | apply Kd.S_drewN | apply Kd.S_drew)); exact B.out) hb); replace z := kB z hb; replace A := kB A hb; replace E := kB E hb; replace HB := hS3 HB F G L hb
        (try clear hb)
        (try clear aV)
        (try clear hk)
        (try clear hi)
        (try clear ab)
        obtain ⟨b4, b5, bF⟩ := Kd.V_slice au.out
        (first | subst bF | (injection bF with ac av ad; have aw := ac.symm; have ax := ad.symm; clear ac av ad; subst aw; subst ax))
        refine hK.out _ _ (bD4 z) (fun hHeld => ?_); clear hK K; refine nm_ 31 ?_; refine one_ (i := 6) (N := some 35) (bl 12 127) rfl rfl (one_of HT_.out (by kernel_rfl)) (by decide) (fun K hK => ?_); refine gS_ Try.func60 #[.slice b4 aU.length b5, .int .i64 (Q.length : Int)] ?_
        with_reducible refine (row_Unpack.calls k1 _ _ aU (Q.length : Int) aK a5 _ ?s1 ?s2 bY.out).mono ?_
        (case s1 => exact cO (Kd.V_reads' au.out).2.2)
        (case s2 => exact (Kd.V_reads' au.out).2.1)
        rintro e dQ ⟨b6, rfl, ab, hb⟩; refine ⟨_, rfl, ?_⟩; replace I := rB I hb; replace J := rB J hb; replace B := aM (Kd.S_elder' (by (with_reducible repeat (first | apply Kd.S_alloc | apply Kd.S_drewN | apply Kd.S_drew)); exact B.out) (Kd.R_base ab) hb); replace au := aM (Kd.V_elder' (vO au.out) (Kd.R_base ab) hb); have aT := rW ab (bP3 HB F G L); replace z := kB z hb; replace A := kB A hb; replace E := kB E hb; replace HB := hS3 HB F G L hb
        (try clear hb)
        (try clear aV)
        (try clear hk)
        (try clear hi)
        (try clear ab)
        refine hK.out _ _ (bD4 z) (fun hHeld => ?_); clear hK K; refine nm_ 35 ?_; refine pu_ 7 28 (bl 12 255) HT_ ?_; refine pu_ 8 36 (bl 12 511) HT_ ?_; refine pu_ 9 37 (bl 12 1023) HT_ ?_; refine pu_ 10 7 (bl 12 2047) HT_ ?_; refine pu_ 11 8 (bl 12 4095) HT_ ?_; refine done_ (done_of HT_.out (by kernel_rfl)) ?_; have du := V.out; have dv := D.out; have dw := W.out; have dx := P.out; obtain ⟨cq, cr, ct, cu, cv, cw⟩ := bG3 E; obtain ⟨bf, bg, b7⟩ := sL aT; subst b7
        try go_wp2_with (first | ((with_reducible refine gate_builtin (b := .append) (xs := #[.tmp 43, .tmp 45]) rfl ?_); at_builtin; refine Kd.S_append (Kd.slice 3 (Kd.int .i64)) (w0 := w) w.heap.size rfl (.tmp 43) (.tmp 45) 43 24 (.slice none 0 0) 24 rfl Try.underlying43 info24 rfl (by decide) (by omega) ah ae aK [.slice bf aK.length bg] (fun _ => True) (fun k_ => some k_ = (.slice bf aK.length bg : Value).ownBlock) rfl rfl ?aP (fun k_ hk_ => ((Kd.R_mono (ok' := fun k_ => ((fun _ => True)) k_ ∧ some k_ ≠ (ah : Value).ownBlock) (Kd.R_apart' (aT.out) (Kd.S_typed B.out) (by decide)) (fun k_ hk => ⟨trivial, hk.2⟩))).1 k_ hk_.symm) ?aF ?aO ?aB ?aS ?aL ?_; (case aP => exact Kd.M_row (Kd.R_mono (Kd.R_tight rfl (Kd.R_mono (ok' := fun k_ => ((fun _ => True)) k_ ∧ some k_ ≠ (ah : Value).ownBlock) (Kd.R_apart' (aT.out) (Kd.S_typed B.out) (by decide)) (fun k_ hk => ⟨trivial, hk.2⟩))) (fun _ h_ => h_))); (case aB => exact (bP3 HB F G L)); (case aF => exact (fun _ _ => trivial)); (case aO => exact (by (with_reducible repeat (first | apply Kd.S_alloc | apply Kd.S_drewN | apply Kd.S_drew)); exact Kd.S_mono B.out (fun k_ hk => ⟨trivial, fun e_ => hk.2 e_⟩))); (case aS => exact (below_size (bP3 HB F G L))); (case aL => have := bP.out; omega); intro dM dR ho hb hg hat; rw [← bQ.out] at ho; replace I := aM (Kd.R_over' (rP I) (Kd.S_typed (by (with_reducible repeat (first | apply Kd.S_alloc | apply Kd.S_drewN | apply Kd.S_drew)); exact B.out)) (by decide) hg); replace J := aM (Kd.R_over' (rP J) (Kd.S_typed (by (with_reducible repeat (first | apply Kd.S_alloc | apply Kd.S_drewN | apply Kd.S_drew)); exact B.out)) (by decide) hg); replace z := aM (blk_grown (g := U) (o := .cells #[.slice ai Q.length aj, .slice af O.length ag, .slice ao Z.length ap, .slice aq aa.length ar] 27 (0, 0)) (kO z.out) hg (Kd.S_ne B.out z.out (by decide))); replace A := aM (blk_grown (g := am) (o := .cells #[.slice none 0 0, .slice none 0 0, .slice none 0 0] 45 (0, 0)) (kO A.out) hg (Kd.S_ne B.out A.out (by decide))); replace E := aM (blk_grown (g := M) (o := .cells #[.slice aI al.length aJ, .slice aG ak.length aH, ah] 45 (0, 0)) (kO E.out) hg (Kd.S_ne B.out E.out (by decide))); replace au := aM (Kd.V_afterv (ok := (fun k_ => some k_ ≠ (.slice aI al.length aJ : Value).ownBlock ∧ some k_ ≠ (.slice aG ak.length aH : Value).ownBlock ∧ some k_ ≠ (.slice bf aK.length bg : Value).ownBlock ∧ k_ ≠ U ∧ k_ ≠ am ∧ k_ ≠ M)) (by (with_reducible repeat (first | apply Kd.V_alloc | apply Kd.V_drewN | apply Kd.V_drew)); exact Kd.V_mono au.out (fun _ hk => ⟨⟨hk.1.1, ⟨hk.1.2.1, ⟨hk.2, ⟨hk.1.2.2.2.1, ⟨hk.1.2.2.2.2.1, hk.1.2.2.2.2.2⟩⟩⟩⟩⟩, hk.1.2.2.1⟩)) hg hat); replace HB := aM (hb); have bv := aM (ho); clear B; clear aT; clear ho hb hg hat; obtain ⟨b8, b9, ca⟩ := Kd.S_slice bv.out; subst ca; obtain ⟨cx, cy, cz, cA, cC, cD⟩ := bG3 E))
        go_roundg k1
        case measure => have := HK1.out; omega
        case rel => exact ⟨(wrap64 (ay + 1)), (bE), (.slice b8 bE.length b9), sI, H', ⟨by have := HK1.out; omega⟩, ⟨rZ I E⟩, ⟨rZ J E⟩, ⟨sZ bv E⟩, ⟨kN z D⟩, ⟨kN A P⟩, ⟨by (with_reducible repeat (first | refine blk_drewN ?_ _ | refine blk_drew ?_ | refine blk_alloc ?_ _)); exact blk_put E.out 2 _ rfl⟩, bT3 HB F G L⟩
       ·exact nX bu H
      ·rw [if_neg bc] at H; obtain ⟨bN, bO⟩ := bn bc; simp only [Option.some.injEq, Prod.mk.injEq] at H; obtain ⟨rfl, rfl, rfl, rfl⟩ := H
       try go_wp2
       replace I := aM (Kd.R_drew I.out); replace J := aM (Kd.R_drew J.out); replace B := aM (Kd.S_drew B.out); replace z := kD z; replace A := kD A; replace E := kD E; replace HB := aM (below_drew1 HB.out); refine start_ (n := 12) (S := fun w' => w'.cell? ⟨U, 0, none⟩ = some (.slice ai Q.length aj) ∧ w'.cell? ⟨U, 1, none⟩ = some (.slice af O.length ag) ∧ w'.cell? ⟨U, 2, none⟩ = some (.slice ao Z.length ap) ∧ w'.cell? ⟨U, 3, none⟩ = some (.slice aq aa.length ar)) (ds := []) (bl 12 0) (by kernel_rfl) rfl rfl (bD4 z) (fun hHeld => ?_); refine with_tabW table_Unpack.tab8 table_Unpack.bits8 (fun HT_ HW_ => ?_); generalize wr.drew = dS at I J B z A E HB hHeld ⊢; refine pu_ 1 30 (bl 12 2) HT_ ?_; refine pu_ 3 32 (bl 12 10) HT_ ?_; refine tk4_ 0 29 (bl 12 11) HT_ HW_ hHeld ?_; refine tk4_ 4 33 (bl 12 27) HT_ HW_ hHeld ?_; refine pu_ 5 34 (bl 12 59) HT_ ?_; refine one_ (i := 2) (N := some 31) (bl 12 63) rfl rfl (one_of HT_.out (by kernel_rfl)) (by decide) (fun K hK => ?_); refine gS_ Try.func44 #[.agg #[.slice ai Q.length aj, .slice af O.length ag, .slice ao Z.length ap, .slice aq aa.length ar], .int .i64 ay] ?_
       with_reducible refine (table_rowOf.calls _ _ Q _ _ O _ _ Z (fun k_ => k_ < w.heap.size) _ _ aa ay aU _ ?s1 ?s2 ?s3 ?s4 ?s5 ?s6 ?s7 bX.out).mono ?_
       (case s1 => exact cB aQ HB)
       (case s2 => exact aR.out)
       (case s3 => exact cB aD HB)
       (case s4 => exact aE.out)
       (case s5 => exact cB aW HB)
       (case s6 => exact aX.out)
       (case s7 => exact Kd.V_mk aZ.out (Kd.F_below (Kd.C_F k73_heap aY.out) (bP3 HB F G L)))
       rintro e dU ⟨b3, rfl, ab, hb⟩; refine ⟨_, rfl, ?_⟩; have au := aM (Kd.V_lower (Kd.V_mono (ok' := fun k_ => some k_ ≠ (.slice aI al.length aJ : Value).ownBlock ∧ some k_ ≠ (.slice aG ak.length aH : Value).ownBlock ∧ some k_ ≠ (ah : Value).ownBlock ∧ k_ ≠ U ∧ k_ ≠ am ∧ k_ ≠ M) ab (fun k_ hk_ => ⟨Or.elim hk_ (fun hs_ => fun e_ => Nat.not_le.2 hs_ (Kd.R_base I.out k_ e_.symm)) (fun hn_ => (Kd.fresh' (Kd.R_lt (rP I)) k_ hn_)), Or.elim hk_ (fun hs_ => fun e_ => Nat.not_le.2 hs_ (Kd.R_base J.out k_ e_.symm)) (fun hn_ => (Kd.fresh' (Kd.R_lt (rP J)) k_ hn_)), Or.elim hk_ (fun hs_ => fun e_ => Nat.not_le.2 hs_ (Kd.S_base B.out k_ e_.symm)) (fun hn_ => (Kd.fresh' (Kd.S_lt (by (with_reducible repeat (first | apply Kd.S_alloc | apply Kd.S_drewN | apply Kd.S_drew)); exact B.out)) k_ hn_)), Or.elim hk_ (fun hs_ => fun e_ => Nat.not_le.2 hs_ (by rw [e_]; exact ba.out)) (fun hn_ => (Kd.freshB (g := U) (o := .cells #[.slice ai Q.length aj, .slice af O.length ag, .slice ao Z.length ap, .slice aq aa.length ar] 27 (0, 0)) (kO z.out) k_ hn_)), Or.elim hk_ (fun hs_ => fun e_ => Nat.not_le.2 hs_ (by rw [e_]; exact bb.out)) (fun hn_ => (Kd.freshB (g := am) (o := .cells #[.slice none 0 0, .slice none 0 0, .slice none 0 0] 45 (0, 0)) (kO A.out) k_ hn_)), Or.elim hk_ (fun hs_ => fun e_ => Nat.not_le.2 hs_ (by rw [e_]; exact aC.out)) (fun hn_ => (Kd.freshB (g := M) (o := .cells #[.slice aI al.length aJ, .slice aG ak.length aH, ah] 45 (0, 0)) (kO E.out) k_ hn_))⟩)) (below_size (bP3 HB F G L))); replace I := rB I hb; replace J := rB J hb; replace B := aM (Kd.S_below (by (with_reducible repeat (first | apply Kd.S_alloc | apply Kd.S_drewN | apply Kd.S_drew)); exact B.out) hb); replace z := kB z hb; replace A := kB A hb; replace E := kB E hb; replace HB := hS3 HB F G L hb
       (try clear hb)
       (try clear aV)
       (try clear hk)
       (try clear hi)
       (try clear ab)
       obtain ⟨cb, cc, bG⟩ := Kd.V_slice au.out
       (first | subst bG | (injection bG with ac av ad; have aw := ac.symm; have ax := ad.symm; clear ac av ad; subst aw; subst ax))
       refine hK.out _ _ (bD4 z) (fun hHeld => ?_); clear hK K; refine nm_ 31 ?_; refine one_ (i := 6) (N := some 35) (bl 12 127) rfl rfl (one_of HT_.out (by kernel_rfl)) (by decide) (fun K hK => ?_); refine gS_ Try.func60 #[.slice cb aU.length cc, .int .i64 (Q.length : Int)] ?_
       with_reducible refine (row_Unpack.calls k1 _ _ aU (Q.length : Int) aK a5 _ ?s1 ?s2 bY.out).mono ?_
       (case s1 => exact cO (Kd.V_reads' au.out).2.2)
       (case s2 => exact (Kd.V_reads' au.out).2.1)
       rintro e dV ⟨b6, rfl, ab, hb⟩; refine ⟨_, rfl, ?_⟩; replace I := rB I hb; replace J := rB J hb; replace B := aM (Kd.S_elder' (by (with_reducible repeat (first | apply Kd.S_alloc | apply Kd.S_drewN | apply Kd.S_drew)); exact B.out) (Kd.R_base ab) hb); replace au := aM (Kd.V_elder' (vO au.out) (Kd.R_base ab) hb); have aT := rW ab (bP3 HB F G L); replace z := kB z hb; replace A := kB A hb; replace E := kB E hb; replace HB := hS3 HB F G L hb
       (try clear hb)
       (try clear aV)
       (try clear hk)
       (try clear hi)
       (try clear ab)
       refine hK.out _ _ (bD4 z) (fun hHeld => ?_); clear hK K; refine nm_ 35 ?_; refine pu_ 7 28 (bl 12 255) HT_ ?_; refine pu_ 8 36 (bl 12 511) HT_ ?_; refine pu_ 9 37 (bl 12 1023) HT_ ?_; refine pu_ 10 7 (bl 12 2047) HT_ ?_; refine pu_ 11 8 (bl 12 4095) HT_ ?_; refine done_ (done_of HT_.out (by kernel_rfl)) ?_; have dy := aA.out; have dz := az.out; have dA := P.out; have dB := W.out; obtain ⟨cE, cF, cG, cH, cI, cJ⟩ := bG3 A
       try go_wp2
       refine bodyPost_ret (results_ct rfl _ _ am 45 #[.slice none 0 0, .slice none 0 0, .slice none 0 0] (0, 0) _ rfl (by (with_reducible repeat (first | refine blk_drewN ?_ _ | refine blk_drew ?_ | refine blk_alloc ?_ _)); exact blk_put (blk_put (blk_put A.out 0 _ rfl) 1 _ rfl) 2 _ rfl) Try.underlying45 rfl (by kernel_rfl)) rfl ?_; exact ⟨_, _, _, eW, by first | exact Kd.R_nil _ _ _ _ _ | exact Kd.N_nil _ _ _ _ _ | exact Kd.V_nil _ _ _ _ _ | exact Kd.Q_nil _ _ _ _ _ | exact Kd.S_nil _ _ _ _ _, by first | exact Kd.R_nil _ _ _ _ _ | exact Kd.N_nil _ _ _ _ _ | exact Kd.V_nil _ _ _ _ _ | exact Kd.Q_nil _ _ _ _ _ | exact Kd.S_nil _ _ _ _ _, by first | exact Kd.S_nil _ _ _ _ _ | exact Kd.N_nil _ _ _ _ _ | exact Kd.V_nil _ _ _ _ _ | exact Kd.Q_nil _ _ _ _ _ | exact Kd.R_nil _ _ _ _ _, bS3 HB.out F.out G.out L.out⟩
     ·rw [if_neg a9] at H; have bM := decide_eq_false a9; clear a9; simp only [Option.some.injEq, Prod.mk.injEq] at H; obtain ⟨rfl, rfl, rfl, rfl⟩ := H; have dC := V.out; have dD := D.out; have dE := W.out; have dF := P.out; obtain ⟨cK, cL, cM, cN, cP, cQ⟩ := bG3 E; have dG := aA.out; have dH := az.out; obtain ⟨cR, cS, cT, cU, cV, cW⟩ := bG3 A; obtain ⟨cd, ce, cf⟩ := Kd.S_slice B.out; subst cf
      go_wp2
      refine bodyPost_ret (results_ct rfl _ _ am 45 #[.slice aI al.length aJ, .slice aG ak.length aH, .slice cd ae.length ce] (0, 0) _ rfl (by (with_reducible repeat (first | refine blk_drewN ?_ _ | refine blk_drew ?_ | refine blk_alloc ?_ _)); exact blk_put (blk_put (blk_put A.out 0 _ rfl) 1 _ rfl) 2 _ rfl) Try.underlying45 rfl (by kernel_rfl)) rfl ?_; exact ⟨_, _, _, eW, rZ I A, rZ J A, sZ B A, bS3 HB.out F.out G.out L.out⟩
  intro hCont; refine two_ (i := 2) (j := 7) (Ni := some 17) (Nj := some 5) (bl 9 31) (bl 9 155) rfl rfl rfl rfl (two_of HT_.out (by kernel_rfl)) (by decide) (by decide) (fun K hK => ?_) (fun K hK => ?_)
  ·refine gS_ Try.func58 #[.slice ai Q.length aj] ?_
   with_reducible refine (slices_Clone_string_string.calls _ _ Q al _ ?s1 ?s2 A4.out).mono ?_
   (case s1 => exact cB aQ HB)
   (case s2 => exact aR.out)
   rintro e dp ⟨bx, rfl, ab, hb⟩; refine ⟨_, rfl, ?_⟩; have Y := rW ab (bP2 HB F G); replace z := kB z hb; replace A := kB A hb; replace HB := hS2 HB F G hb
   (try clear hb)
   (try clear aV)
   (try clear hk)
   (try clear hi)
   (try clear ab)
   refine hK.out _ _ (bD4 z) (fun hHeld => ?_); clear hK K; refine nm_ 17 ?_; refine two_ (i := 5) (j := 7) (Ni := some 20) (Nj := some 5) (bl 9 63) (bl 9 159) rfl rfl rfl rfl (two_of HT_.out (by kernel_rfl)) (by decide) (by decide) (fun K hK => ?_) (fun K hK => ?_)
   ·refine gS_ Try.func59 #[.slice af O.length ag] ?_
    with_reducible refine (slices_Clone_bool_bool.calls _ _ O ak _ ?s1 ?s2 A5.out).mono ?_
    (case s1 => exact cB aD HB)
    (case s2 => exact aE.out)
    rintro e bZ ⟨be, rfl, ab, hb⟩; refine ⟨_, rfl, ?_⟩; replace Y := rB Y hb; have an := rW ab (bP2 HB F G); replace z := kB z hb; replace A := kB A hb; replace HB := hS2 HB F G hb
    (try clear hb)
    (try clear aV)
    (try clear hk)
    (try clear hi)
    (try clear ab)
    obtain ⟨cg, ch, bH⟩ := sL an
    (first | subst bH | (injection bH with ac av ad; have aw := ac.symm; have ax := ad.symm; clear ac av ad; subst aw; subst ax))
    obtain ⟨a6, a7, aN⟩ := sL Y
    (first | subst aN | (injection aN with ac av ad; have aw := ac.symm; have ax := ad.symm; clear ac av ad; subst aw; subst ax))
    refine hK.out _ _ (bD4 z) (fun hHeld => ?_); clear hK K; refine nm_ 20 ?_; refine pu_ 6 21 (bl 9 127) HT_ ?_; refine one_ (i := 7) (N := some 5) (bl 9 255) rfl rfl (one_of HT_.out (by kernel_rfl)) (by decide) (fun K hK => ?_); refine bs_ (cs := #[.slice none 0 0, .slice none 0 0, .slice none 0 0]) (t := 45) ?_; intro M hg dW hbox hb; replace Y := rB Y hb; replace an := rB an hb; have E := aM (hbox); have aC := gE hg (bP2 HB F G); have L := gE hg (bP2 HB F G); replace HB := hS2 HB F G hb; have D := nL hg z; have V := nG hg z; replace z := kB z hb; have P := nL hg A; have W := nG hg A; replace A := kB A hb; clear hb hbox hg; refine hK.out _ _ (bD4 z) (fun hHeld => ?_); clear hK K; refine nm_ 5 ?_; exact norm_ (by simp only [putAll, Act.put, sA, sB, sC]) (hCont (.slice a6 al.length a7, .slice cg ak.length ch, M) _ ⟨hHeld, rQ Y, rQ an, kQ z, kQ A, kQ E, aC, L, D, V, P, W, bT3 HB F G L⟩)
   ·refine bs_ (cs := #[.slice none 0 0, .slice none 0 0, .slice none 0 0]) (t := 45) ?_; intro M hg bZ hbox hb; replace Y := rB Y hb; have E := aM (hbox); have aC := gE hg (bP2 HB F G); have L := gE hg (bP2 HB F G); replace HB := hS2 HB F G hb; have D := nL hg z; have V := nG hg z; replace z := kB z hb; have P := nL hg A; have W := nG hg A; replace A := kB A hb; clear hb hbox hg; refine hK.out _ _ (bD4 z) (fun hHeld => ?_); clear hK K; refine nm_ 5 ?_; refine one_ (i := 5) (N := some 20) (bl 9 191) rfl rfl (one_of HT_.out (by kernel_rfl)) (by decide) (fun K hK => ?_); refine gS_ Try.func59 #[.slice af O.length ag] ?_
    with_reducible refine (slices_Clone_bool_bool.calls _ _ O ak _ ?s1 ?s2 A5.out).mono ?_
    (case s1 => exact cB aD HB)
    (case s2 => exact aE.out)
    rintro e dq ⟨be, rfl, ab, hb⟩; refine ⟨_, rfl, ?_⟩; replace Y := rB Y hb; have an := rW ab (bP3 HB F G L); replace z := kB z hb; replace A := kB A hb; replace E := kB E hb; replace HB := hS3 HB F G L hb
    (try clear hb)
    (try clear aV)
    (try clear hk)
    (try clear hi)
    (try clear ab)
    obtain ⟨a6, a7, aN⟩ := sL an
    (first | subst aN | (injection aN with ac av ad; have aw := ac.symm; have ax := ad.symm; clear ac av ad; subst aw; subst ax))
    obtain ⟨bh, bi, a8⟩ := sL Y
    (first | subst a8 | (injection a8 with ac av ad; have aw := ac.symm; have ax := ad.symm; clear ac av ad; subst aw; subst ax))
    refine hK.out _ _ (bD4 z) (fun hHeld => ?_); clear hK K; refine nm_ 20 ?_; refine pu_ 6 21 (bl 9 255) HT_ ?_; exact norm_ (by simp only [putAll, Act.put, sA, sB, sC]) (hCont (.slice bh al.length bi, .slice a6 ak.length a7, M) _ ⟨hHeld, rQ Y, rQ an, kQ z, kQ A, kQ E, aC, L, D, V, P, W, bT3 HB F G L⟩)
  ·refine bs_ (cs := #[.slice none 0 0, .slice none 0 0, .slice none 0 0]) (t := 45) ?_; intro M hg dp hbox hb; have E := aM (hbox); have aC := gE hg (bP2 HB F G); have L := gE hg (bP2 HB F G); replace HB := hS2 HB F G hb; have D := nL hg z; have V := nG hg z; replace z := kB z hb; have P := nL hg A; have W := nG hg A; replace A := kB A hb; clear hb hbox hg; refine hK.out _ _ (bD4 z) (fun hHeld => ?_); clear hK K; refine nm_ 5 ?_; refine one_ (i := 2) (N := some 17) (bl 9 159) rfl rfl (one_of HT_.out (by kernel_rfl)) (by decide) (fun K hK => ?_); refine gS_ Try.func58 #[.slice ai Q.length aj] ?_
   with_reducible refine (slices_Clone_string_string.calls _ _ Q al _ ?s1 ?s2 A4.out).mono ?_
   (case s1 => exact cB aQ HB)
   (case s2 => exact aR.out)
   rintro e bZ ⟨bx, rfl, ab, hb⟩; refine ⟨_, rfl, ?_⟩; have Y := rW ab (bP3 HB F G L); replace z := kB z hb; replace A := kB A hb; replace E := kB E hb; replace HB := hS3 HB F G L hb
   (try clear hb)
   (try clear aV)
   (try clear hk)
   (try clear hi)
   (try clear ab)
   refine hK.out _ _ (bD4 z) (fun hHeld => ?_); clear hK K; refine nm_ 17 ?_; refine one_ (i := 5) (N := some 20) (bl 9 191) rfl rfl (one_of HT_.out (by kernel_rfl)) (by decide) (fun K hK => ?_); refine gS_ Try.func59 #[.slice af O.length ag] ?_
   with_reducible refine (slices_Clone_bool_bool.calls _ _ O ak _ ?s1 ?s2 A5.out).mono ?_
   (case s1 => exact cB aD HB)
   (case s2 => exact aE.out)
   rintro e dq ⟨be, rfl, ab, hb⟩; refine ⟨_, rfl, ?_⟩; replace Y := rB Y hb; have an := rW ab (bP3 HB F G L); replace z := kB z hb; replace A := kB A hb; replace E := kB E hb; replace HB := hS3 HB F G L hb
   (try clear hb)
   (try clear aV)
   (try clear hk)
   (try clear hi)
   (try clear ab)
   obtain ⟨a6, a7, aN⟩ := sL an
   (first | subst aN | (injection aN with ac av ad; have aw := ac.symm; have ax := ad.symm; clear ac av ad; subst aw; subst ax))
   obtain ⟨bh, bi, a8⟩ := sL Y
   (first | subst a8 | (injection a8 with ac av ad; have aw := ac.symm; have ax := ad.symm; clear ac av ad; subst aw; subst ax))
   refine hK.out _ _ (bD4 z) (fun hHeld => ?_); clear hK K; refine nm_ 20 ?_; refine pu_ 6 21 (bl 9 255) HT_ ?_; exact norm_ (by simp only [putAll, Act.put, sA, sB, sC]) (hCont (.slice bh al.length bi, .slice a6 ak.length a7, M) _ ⟨hHeld, rQ Y, rQ an, kQ z, kQ A, kQ E, aC, L, D, V, P, W, bT3 HB F G L⟩)
 ·rw [if_neg c3] at H; obtain ⟨b0, b1⟩ := bn c3; simp only [Option.some.injEq, Prod.mk.injEq] at H; obtain ⟨rfl, rfl, rfl, rfl⟩ := H
  go_enter Try.func29, Try.ntmps29
  go_wp2_with (first | ((with_reducible refine gate_dst (N := 1) rfl ?_); refine be_ (cs := #[.slice ai Q.length aj, .slice af O.length ag, .slice ao Z.length ap, .slice aq aa.length ar]) (t := 27) ?_; intro U hg dX hbox hb; have z := aM (hbox); have ba := gE hg (bP0 HB); have F := gE hg (bP0 HB); replace HB := hS0 HB hb; clear hb hbox hg) | ((with_reducible refine gate_dst (N := 2) rfl ?_); refine be_ (cs := #[.slice none 0 0, .slice none 0 0, .slice none 0 0]) (t := 45) ?_; intro am hg dY hbox hb; have A := aM (hbox); have bb := gE hg (bP1 HB F); have G := gE hg (bP1 HB F); replace HB := hS1 HB F hb; have az := nL hg z; have aA := nG hg z; replace z := kB z hb; clear hb hbox hg; have dI := az.out; have dJ := aA.out; obtain ⟨cX, cY, cZ, c0, c1, c2, c4, c5⟩ := bG4 z) | ((with_reducible refine gate_callee (f := 21) rfl ?_); refine gL_ (some 10) Try.func21 #[.agg #[.slice ai Q.length aj, .slice af O.length ag, .slice ao Z.length ap, .slice aq aa.length ar]] ?_; (with_reducible refine (table_Check.calls k _ _ Q _ _ O _ _ Z _ _ aa bd _ ?s1 aR.out ?s3 aE.out ?s5 aX.out ?s7 aZ.out A2.out).mono ?_); (case s1 => exact cB aQ HB); (case s3 => exact cB aD HB); (case s5 => exact cB aW HB); (case s7 => exact cB aY HB); rintro e dZ ⟨rfl, hb⟩; refine ⟨_, rfl, ?_⟩; replace z := kB z hb; replace A := kB A hb; replace HB := hS2 HB F G hb; (try clear hb); obtain ⟨c6, c7, c8, c9, da, db⟩ := bG3 A))
  refine bodyPost_ret (results_ct rfl _ _ am 45 #[.slice none 0 0, .slice none 0 0, .slice none 0 0] (0, 0) _ rfl (by (with_reducible repeat (first | refine blk_drewN ?_ _ | refine blk_drew ?_ | refine blk_alloc ?_ _)); exact blk_put (blk_put (blk_put A.out 0 _ rfl) 1 _ rfl) 2 _ rfl) Try.underlying45 rfl (by kernel_rfl)) rfl ?_; exact ⟨_, _, _, eW, by first | exact Kd.R_nil _ _ _ _ _ | exact Kd.N_nil _ _ _ _ _ | exact Kd.V_nil _ _ _ _ _ | exact Kd.Q_nil _ _ _ _ _ | exact Kd.S_nil _ _ _ _ _, by first | exact Kd.R_nil _ _ _ _ _ | exact Kd.N_nil _ _ _ _ _ | exact Kd.V_nil _ _ _ _ _ | exact Kd.Q_nil _ _ _ _ _ | exact Kd.S_nil _ _ _ _ _, by first | exact Kd.S_nil _ _ _ _ _ | exact Kd.N_nil _ _ _ _ _ | exact Kd.V_nil _ _ _ _ _ | exact Kd.Q_nil _ _ _ _ _ | exact Kd.R_nil _ _ _ _ _, bS2 HB.out F.out G.out⟩

end Go.Proofs.Ytninoenmhcbonaa.X
namespace Go.Proofs.Ytninoenmhcbonaa.X
open Go.RowKit Go.Proofs.YtninoenmhcbonaaW.PrintWords Go.Proofs.YtninoenmhcbonaaW.PrintLast Go.Proofs.YtninoenmhcbonaaW.PrintMore
attribute [local go_sem] max2_int min2_int max_two min_two max_three min_three max_four min_four
set_option linter.unusedVariables false
set_option linter.unusedSimpArgs false
set_option maxHeartbeats 8000000
set_option maxRecDepth 100000

/-! ### slices_Reverse_int_int: function 81 -/
def slices_Reverse_int_int.l0 : Nat → List Int → Int → Int → Option (List Int)
 | 0, _, _, _ => none
 | k + 1, x0, x2, x3 => if x2 < x3 then (if 0 ≤ x3 then (if x3 < (x0.length : Int) then (if 0 ≤ x2 then (if x2 < (x0.length : Int) then (slices_Reverse_int_int.l0 k ((x0.set (x2 : Int).toNat (rd x0 x3)).set (x3 : Int).toNat (rd x0 x2)) (wrap64 (x2 + 1)) (wrap64 (x3 - 1))) else (none)) else (none)) else (none)) else (none)) else (some x0)
def slices_Reverse_int_int.f (k : Nat) (l0 : List Int) : Option (List Int) := slices_Reverse_int_int.l0 k l0 0 (wrap64 ((l0.length : Int) - 1))
theorem slices_Reverse_int_int.mono_l : ∀ k, (∀ y0 y1 y2, LeO (slices_Reverse_int_int.l0 k y0 y1 y2) (slices_Reverse_int_int.l0 (k + 1) y0 y1 y2))
 | 0 => fun _ _ _ r h => by simp [slices_Reverse_int_int.l0] at h
 | k + 1 => by
  have ih0 := slices_Reverse_int_int.mono_l k
  ·intro y0 y1 y2
   unfold slices_Reverse_int_int.l0
   repeat' first | (with_reducible first | exact ih0 _ _ _ | exact lA | apply lI | refine lB ?_ fun _ => ?_) | exact lN _ | apply lI | refine lB ?_ fun _ => ?_
theorem slices_Reverse_int_int.mono : ∀ a0 k, LeO (slices_Reverse_int_int.f k a0) (slices_Reverse_int_int.f (k + 1) a0) := by
 intro a0 k; have ih0 := slices_Reverse_int_int.mono_l k
 unfold slices_Reverse_int_int.f
 repeat' first | (with_reducible first | exact ih0 _ _ _ | exact lA | apply lI | refine lB ?_ fun _ => ?_) | exact lN _ | apply lI | refine lB ?_ fun _ => ?_
def slices_Reverse_int_int.T3 : Bool × List (List Nat × List Nat) := (true, [([], []), ([], []), ([], []), ([], []), ([], []), ([], []), ([4, 5], [4, 5]), ([6], [6]), ([], []), ([], []), ([8, 9], [8, 9]), ([10], [10]), ([0, 1, 0, 1, 4, 5, 6, 7, 11], [0, 1]), ([12, 7, 0, 1, 4, 5, 6, 7, 11], [7, 12]), ([2, 3, 0, 1, 2, 3, 4, 5, 6, 7, 8, 9, 10, 11, 12, 13], [2, 3]), ([14, 11, 13, 0, 1, 2, 3, 4, 5, 6, 7, 8, 9, 10, 11, 12, 13], [11, 14])])
def slices_Reverse_int_int.B3 : List Nat := [0, 0, 0, 0, 0, 0, 48, 112, 0, 0, 768, 1792, 4083, 8179, 16383, 32767]
theorem slices_Reverse_int_int.tab3 : rtab .any (opsOf Try.f81 3) = slices_Reverse_int_int.T3 := by kernel_rfl
theorem slices_Reverse_int_int.bits3 : waitsOk slices_Reverse_int_int.T3.2 slices_Reverse_int_int.B3 = true := by kernel_rfl
theorem slices_Reverse_int_int.calls (k : Nat) (P0_ : Nat → Prop) (E : Value) (V : List Int) (r : List Int) (L w : World) (hB : Below L.heap.size L w) (az : Kd.R (Kd.int .i64) 3 w L.heap.size P0_ E V) (h : slices_Reverse_int_int.f k V = some r) :
  Calls Try.prog 81 #[E] w fun e w' => e = .returned (.tuple #[]) ∧ Kd.R (Kd.int .i64) 3 w' L.heap.size (fun k_ => (P0_ k_ ∨ w.heap.size ≤ k_)) E r ∧ Below L.heap.size L w' ∧ Kept w w' (fun k_ => P0_ k_) := by
 have aj := aM (show Kd.R (Kd.int .i64) 3 w L.heap.size (fun k_ => (P0_ k_ ∨ w.heap.size ≤ k_)) E V from Kd.R_mono az (fun k_ hk => (.inl hk))); have HK := aM (Kept.refl w (fun k_ => P0_ k_)); have HW0 := aM hB.size; have HB := aM hB; clear hB; rw [slices_Reverse_int_int.f] at h; have H := h; clear h; have H' := aM H; clear H; obtain ⟨aA, aB, aC⟩ := sL aj; subst aC
 go_enter Try.func81, Try.ntmps81
 go_wp2
 go_loopg [2, 3] k (fun kq v2 v3 w' => ∃ (B : List Int) (z : Int) (A : Int), v2 = .int .i64 z ∧ v3 = .int .i64 A ∧ Aside0 (slices_Reverse_int_int.l0 kq B z A = some r) ∧ Aside0 (kq ≤ k) ∧ Aside0 (Kd.R (Kd.int .i64) 3 w' L.heap.size (fun k_ => (P0_ k_ ∨ w.heap.size ≤ k_)) (.slice aA V.length aB) B) ∧ Aside0 (Kept w w' (fun k_ => P0_ k_)) ∧ Aside0 (Below L.heap.size L w'))
 case atStart => exact ⟨(V), (0), (wrap64 ((V.length : Int) - 1)), sI, sI, H', ⟨Nat.le_refl _⟩, rQ aj, ⟨by repeat (first | (with_reducible first | exact HK.out | apply Kept.alloc | apply Kept.drewN | apply Kept.drew) | exact HK.out)⟩, bT0 HB⟩
 case round =>
  clear H'
  obtain ⟨B, z, A, rfl, rfl, HA, HK1, C, HK, HB⟩ := hrel; have D := (rR C).1; rw [D] at C
  (try simp only [D])
  cases gk with
  | zero => exact absurd HA.out (by simp [slices_Reverse_int_int.l0])
  | succ k1 =>
   have H := HA.out; clear HA; simp only [slices_Reverse_int_int.l0] at H
   by_cases W : z < A
   ·rw [if_pos W] at H; have am := dT W; clear W
    by_cases Z : 0 ≤ A
    ·rw [if_pos Z] at H; have aF := dT Z; clear Z
     by_cases c5 : A < (B.length : Int)
     ·rw [if_pos c5] at H; have an := dT c5
      (try (have c5b0hl0_1 := an; rw [D] at c5b0hl0_1))
      clear c5
      by_cases c6 : 0 ≤ z
      ·rw [if_pos c6] at H; have aG := dT c6; clear c6
       by_cases c7 : z < (B.length : Int)
       ·rw [if_pos c7] at H; have ao := dT c7
        (try (have c7b0hl0_1 := ao; rw [D] at c7b0hl0_1))
        clear c7; obtain ⟨ap, I⟩ : ∃ y_ : List Int, y_ = (B.set (z : Int).toNat (rd B A)) := ⟨_, rfl⟩
        first | replace H := rI I H | rw [← I] at H
        have ad := aM I; clear I; obtain ⟨aq, J⟩ : ∃ y_ : List Int, y_ = (ap.set (A : Int).toNat (rd B z)) := ⟨_, rfl⟩
        first | replace H := rI J H | rw [← J] at H
        have ae := aM J; clear J; have H' := aM H; clear H
        try go_wp2
        replace C := aM (Kd.R_drew C.out); replace HK := aM (Kept.drew HK.out); replace HB := aM (below_drew1 HB.out); have M : 0 ≤ (A : Int) := oT aO; have O : A < (B.length : Int) := oT aO; obtain ⟨af, ar, F⟩ := Kd.at_int (rR C).2.2 A M O; cases ar; replace M := eq_true M; replace O := eq_true O; have P : 0 ≤ (z : Int) := oT aO; have Q : z < (B.length : Int) := oT aO; obtain ⟨ag, au, G⟩ := Kd.at_int (rR C).2.2 z P Q; have he_ : af = ag := (by injection au); subst he_; replace P := eq_true P; replace Q := eq_true Q; have p8 : 0 ≤ (z : Int) := oT aO; have q8 : (z : Int) < ((B.length : Int) : Int) := oT aO; obtain ⟨go8, aH, ak, al, gl8, cl8, HG8⟩ := Kd.R_form C.out (by omega)
        (first | cases ak | (injection ak with ea_ en_ ec_; (first | subst ea_ | (injection ea_ with ea_; subst ea_)); subst ec_; clear en_))
        have GB8 := aM al; have GG8 := aM HG8; clear al gl8 HG8; have HMgo8 := aM (show (P0_ go8 ∨ w.heap.size ≤ go8) from (C.out.1 _ rfl))
        (first | simp only [add_plain] at F | skip)
        (first | simp only [add_plain] at G | skip)
        obtain ⟨ah, hf8_0⟩ := Kd.R_celln 0 C.out (z : Int) p8 q8; replace p8 := eq_true p8; replace q8 := eq_true q8; have HP11 := Kd.R_putn C.out (z : Int) (rd B A); rw [← ad.out] at HP11; have U := aM HP11; clear HP11; have p9 : 0 ≤ (A : Int) := oT aO; have q9 : (A : Int) < ((B.length : Int) : Int) := oT aO; obtain ⟨ai, hf9_0⟩ := Kd.R_celln 0 U.out (A : Int) p9 q9; replace p9 := eq_true p9; replace q9 := eq_true q9; have HP12 := Kd.R_putn U.out (A : Int) (rd B z); rw [← ae.out] at HP12; have Y := aM HP12; clear HP12; refine start_ (n := 16) (S := fun w' => w'.cell? ⟨go8, (A).toNat, none⟩ = some (.int .i64 (rd B A)) ∧ w'.cell? ⟨go8, (z).toNat, none⟩ = some (.int .i64 (rd B z))) (ds := [13, 15]) (bl 16 0) (by kernel_rfl) rfl rfl ⟨F, G⟩ (fun hHeld => ?_); refine with_tabW slices_Reverse_int_int.tab3 slices_Reverse_int_int.bits3 (fun HT_ HW_ => ?_); generalize wr.drew = aI at C HK HB GG8 U Y hf8_0 hf9_0 F G ah ai hHeld ⊢; refine pu_ 0 14 (bl 16 1) HT_ ?_; refine pu_ 1 15 (bl 16 3) HT_ ?_; refine pu_ 2 16 (bl 16 7) HT_ ?_; refine pu_ 3 17 (bl 16 15) HT_ ?_; refine pu_ 4 18 (bl 16 31) HT_ ?_; refine pu_ 5 19 (bl 16 63) HT_ ?_; refine pu_ 6 20 (bl 16 127) HT_ ?_; refine pu_ 8 22 (bl 16 383) HT_ ?_; refine pu_ 9 23 (bl 16 895) HT_ ?_; refine pu_ 10 24 (bl 16 1919) HT_ ?_; refine tk2_ 7 21 (bl 16 2047) HT_ HW_ hHeld ?_; refine tk2_ 11 25 (bl 16 4095) HT_ HW_ hHeld ?_; refine pu_ 12 26 (bl 16 8191) HT_ ?_; refine last_ (i := 13) (N := none) (bl 16 16383) rfl rfl (one_of HT_.out (by kernel_rfl)) (by decide) (fun K hK => ?_); refine skip_ (w1 := ?_) (by rfl) rfl ?_ ?_; rotate_left
        ·go_simp
         rfl
        refine hK.out _ _ ?_; clear hK K; refine pu_ 14 27 (bl 16 32767) HT_ ?_; refine last_ (i := 15) (N := none) (bl 16 65535) rfl rfl (one_of HT_.out (by kernel_rfl)) (by decide) (fun K hK => ?_); refine skip_ (w1 := ?_) (by rfl) rfl ?_ ?_; rotate_left
        ·go_simp
         rfl
        refine hK.out _ _ ?_; clear hK K; refine done_ (done_of HT_.out (by kernel_rfl)) ?_
        try go_wp2
        (try simp only [← D])
        go_roundg k1
        case measure => have := HK1.out; omega
        case rel => exact ⟨(aq), (wrap64 (z + 1)), (wrap64 (A - 1)), sI, sI, H', ⟨by have := HK1.out; omega⟩, ⟨by (try simp only [D]); (with_reducible repeat (first | apply Kd.R_alloc | apply Kd.R_drewN | apply Kd.R_drew)); exact Y.out⟩, ⟨by repeat (first | (with_reducible first | exact HK.out | apply Kept.alloc | apply Kept.drewN | apply Kept.drew | refine Kept.setCell ?_ HMgo8.out _ | refine Kept.setCell ?_ HMgo8.out _) | exact HK.out)⟩, ⟨by repeat (first | (with_reducible first | exact HB.out | apply below_alloc | apply pw_below_drewN | apply below_drew1 | refine below_set ?_ GB8.out | refine below_set ?_ GB8.out) | exact HB.out)⟩⟩
       ·exact nX c7 H
      ·exact nX c6 H
     ·exact nX c5 H
    ·exact nX Z H
   ·rw [if_neg W] at H; have am := decide_eq_false W; clear W; obtain rfl := Option.some.inj H
    go_wp2
    first | go_end0 | ((try simp only [Exit.inBlock, Exit.then]); refine bodyPost_ret (results_none rfl _ _ _) rfl ?_)
    exact ⟨eW, (by first | exact (rP C) | (simp only [D]; exact (rP C))), bO HB.out, by repeat (first | (with_reducible first | exact HK.out | apply Kept.alloc | apply Kept.drewN | apply Kept.drew) | exact HK.out)⟩

end Go.Proofs.Ytninoenmhcbonaa.X
namespace Go.Proofs.Ytninoenmhcbonaa.X
open Go.RowKit Go.Proofs.YtninoenmhcbonaaW.PrintWords Go.Proofs.YtninoenmhcbonaaW.PrintLast Go.Proofs.YtninoenmhcbonaaW.PrintMore
attribute [local go_sem] max2_int min2_int max_two min_two max_three min_three max_four min_four
set_option linter.unusedVariables false
set_option linter.unusedSimpArgs false
set_option maxHeartbeats 8000000
set_option maxRecDepth 100000

/-! ### pick_way: function 61 -/
def pick_way.l0 : Nat → List (S109) → List Int → Int → Option (List Int)
 | 0, _, _, _ => none
 | k + 1, x0, x7, x8 => if x8 ≥ 0 then (if 0 ≤ x8 then (if x8 < (x0.length : Int) then (if ((rd_T109 x0 x8).f1) ≥ 0 then (if x7.length < 17592186044416 then (pick_way.l0 k x0 (x7 ++ [(rd_T109 x0 x8).f1]) ((rd_T109 x0 x8).f0)) else (none)) else ((slices_Reverse_int_int.f k x7).bind fun t214 => (some t214))) else (none)) else (none)) else ((slices_Reverse_int_int.f k x7).bind fun t215 => (some t215))
def pick_way.f (k : Nat) (l0 : List (S109)) (a1 : Int) (a2 : Int) : Option (List Int) := pick_way.l0 k l0 (([a2] : List Int)) a1
theorem pick_way.mono_l : ∀ k, (∀ y0 y1 y2, LeO (pick_way.l0 k y0 y1 y2) (pick_way.l0 (k + 1) y0 y1 y2))
 | 0 => fun _ _ _ r h => by simp [pick_way.l0] at h
 | k + 1 => by
  have ih0 := pick_way.mono_l k
  ·intro y0 y1 y2
   unfold pick_way.l0
   repeat' first | (with_reducible first | exact ih0 _ _ _ | exact slices_Reverse_int_int.mono _ _ | exact lA | apply lI | refine lB ?_ fun _ => ?_) | exact lN _ | apply lI | refine lB ?_ fun _ => ?_
theorem pick_way.mono : ∀ a0 a1 a2 k, LeO (pick_way.f k a0 a1 a2) (pick_way.f (k + 1) a0 a1 a2) := by
 intro a0 a1 a2 k; have ih0 := pick_way.mono_l k
 unfold pick_way.f
 repeat' first | (with_reducible first | exact ih0 _ _ _ | exact slices_Reverse_int_int.mono _ _ | exact lA | apply lI | refine lB ?_ fun _ => ?_) | exact lN _ | apply lI | refine lB ?_ fun _ => ?_
theorem pick_way.calls (k : Nat) (A0 : Option Addr) (c0 : Nat) (F : List (S109)) (a1 : Int) (Y : Int) (r : List Int) (w : World) (aA : Kd.C k109 w A0 F.length F) (aC : F.length ≤ c0) (h : pick_way.f k F a1 Y = some r) :
  Calls Try.prog 61 #[.slice A0 F.length c0, .int .i64 a1, .int .i64 Y] w fun e w' => ∃ aD : Value, e = .returned (aD) ∧ Kd.R (Kd.int .i64) 3 w' w.heap.size (fun _ => True) aD r ∧ Below w.heap.size w w' := by
 have ai := aM aA; have a8 := aM aC; clear aA aC; have HB := aM (Below.refl w.heap.size w); rw [pick_way.f] at h; have H := h; clear h; obtain ⟨aG, J⟩ : ∃ y_ : List Int, y_ = (([Y] : List Int)) := ⟨_, rfl⟩
 first | replace H := rI J H | rw [← J] at H
 have ap := aM J; clear J; have H' := aM H; clear H
 go_enter Try.func61, Try.ntmps61
 go_wp2_with (first | ((with_reducible refine gate_dst (N := 10) rfl ?_); refine Kd.R_lit (Kd.int .i64) _ 3 ?hg (N := 10) ?hd (xs := ([Y] : List Int)) (inner := [.int .i64 Y]) (ok := fun _ => True) (okp := fun _ => True) ?hr ?hp (fun _ hk => hk) trivial (Below.refl _ _) (Nat.le_refl _) (by simp) ?_; (case hd => rfl); (case hg => rfl); (case hr => first | (go_simp; done) | (go_simp; rfl)); (case hp => exact (Reps.one (show Kd.M (Kd.int .i64) _ _ _ Y [.int .i64 Y] from rfl) (Reps.none _ _))); intro aZ w4 aj hb hg_ hnew_; clear hg_ hnew_; replace aj := nW ap aj; have aq := rW aj (bP0 HB); replace HB := hS0 HB hb; clear hb aj))
 go_loopg [7, 8] k (fun kq v7 v8 w' => ∃ (A : List Int) (z : Int), v8 = .int .i64 z ∧ Aside0 (pick_way.l0 kq F A z = some r) ∧ Aside0 (kq ≤ k) ∧ RA (Kd.int .i64) 3 w' w v7 A ∧ BA w w')
 case atStart => exact ⟨(aG), (a1), sI, H', ⟨Nat.le_refl _⟩, rQ aq, bT0 HB⟩
 case round =>
  clear H'
  obtain ⟨A, z, rfl, HA, HK1, B, HB⟩ := hrel; cases gk with
  | zero => exact absurd HA.out (by simp [pick_way.l0])
  | succ k1 =>
   have H := HA.out; clear HA; simp only [pick_way.l0] at H
   by_cases c6 : z ≥ 0
   ·rw [if_pos c6] at H; have aH := dT c6; clear c6
    by_cases c7 : 0 ≤ z
    ·rw [if_pos c7] at H; have a5 := dT c7; clear c7
     by_cases c8 : z < (F.length : Int)
     ·rw [if_pos c8] at H; have a6 := dT c8; clear c8
      by_cases c9 : ((rd_T109 F z).f1) ≥ 0
      ·rw [if_pos c9] at H; have aI := dT c9; clear c9
       by_cases ak : A.length < 17592186044416
       ·rw [if_pos ak] at H; have av := aM ak; clear ak; obtain ⟨aJ, L⟩ : ∃ y_ : List Int, y_ = (A ++ [(rd_T109 F z).f1]) := ⟨_, rfl⟩
        first | replace H := rI L H | rw [← L] at H
        have aw := aM L; clear L; have H' := aM H; clear H; have G : 0 ≤ (z : Int) := oT aO; have I : z < (F.length : Int) := oT aO; obtain ⟨V, Z, D, E⟩ := at_T109 ai.out z G I; cases Z; replace D := cX HB D; replace E := cX HB E; replace G := eq_true G; replace I := eq_true I; have aa : 0 ≤ (z : Int) := oT aO; have ab : z < (F.length : Int) := oT aO; obtain ⟨ax, aK, O, P⟩ := at_T109 ai.out z aa ab; have he_ : V = ax := (by injection aK); subst he_; replace O := cX HB O; replace P := cX HB P; replace aa := eq_true aa; replace ab := eq_true ab
        go_wp2_with (first | ((with_reducible refine gate_builtin (b := .append) (xs := #[.tmp 27, .tmp 33]) rfl ?_); at_builtin; refine Kd.R_append (Kd.int .i64) (w0 := w) w.heap.size rfl (.tmp 27) (.tmp 33) 24 3 (.int .i64 0) 8 rfl Try.underlying24 info3 rfl (by decide) (by omega) u7 A ((rd_T109 F z).f1) [.int .i64 ((rd_T109 F z).f1)] (fun _ => True) (fun _ => False) rfl rfl ?aP (fun _ hk => hk.elim) ?aF ?aO ?aB ?aS ?aL ?_; (case aP => exact rfl); (case aB => exact (bP0 HB)); (case aF => exact (fun _ _ => trivial)); (case aO => exact (rP B)); (case aS => exact (below_size (bP0 HB))); (case aL => have := av.out; omega); intro a7 a9 ho hb hg hat; rw [← aw.out] at ho; replace HB := aM (hb); have ay := aM (ho); clear B; clear ho hb hg hat; have ac : 0 ≤ (z : Int) := oT aO; have ad : z < (F.length : Int) := oT aO; obtain ⟨az, aN, Q, U⟩ := at_T109 ai.out z ac ad; have he_ : V = az := (by injection aN); subst he_; replace Q := cX HB Q; replace U := cX HB U; replace ac := eq_true ac; replace ad := eq_true ad))
        go_roundg k1
        case measure => have := HK1.out; omega
        case rel => exact ⟨(aJ), ((rd_T109 F z).f0), sI, H', ⟨by have := HK1.out; omega⟩, rQ ay, bT0 HB⟩
       ·exact nX ak H
      ·rw [if_neg c9] at H; have aI := decide_eq_false c9; clear c9; replace H := Option.bind_eq_some_iff.mp H; obtain ⟨aQ, an, H⟩ := H; have aX := aM an; clear an; obtain rfl := Option.some.inj H; have G : 0 ≤ (z : Int) := oT aO; have I : z < (F.length : Int) := oT aO; obtain ⟨V, Z, D, E⟩ := at_T109 ai.out z G I; cases Z; replace D := cX HB D; replace E := cX HB E; replace G := eq_true G; replace I := eq_true I; obtain ⟨ae, af, aR⟩ := sL B; subst aR
       go_wp2_with (first | ((with_reducible refine gate_callee (f := 81) rfl ?_); refine gL_ (some 36) Try.func81 #[.slice ae A.length af] ?_; (with_reducible refine (slices_Reverse_int_int.calls k1 (fun k_ => some k_ = (.slice ae A.length af : Value).ownBlock) (.slice ae A.length af) A aQ w _ ?s1 ?s2 aX.out).mono ?_); (case s1 => repeat (first | (with_reducible first | exact HB.out | apply below_alloc | apply pw_below_drewN | apply below_drew1) | exact HB.out)); (case s2 => exact Kd.R_tight rfl B.out); rintro e ba ⟨rfl, W, hb, hkp⟩; refine ⟨_, rfl, ?_⟩; replace B := aM (Kd.R_reok rfl W (fun k_ e_ => B.out.1 k_ e_)); replace HB := aM (hb); (try clear hb); (try clear hkp); (try clear W)))
       go_ret
       exact ⟨_, eW, rO B.out, bO HB.out⟩
     ·exact nX c8 H
    ·exact nX c7 H
   ·rw [if_neg c6] at H; have aH := decide_eq_false c6; clear c6; replace H := Option.bind_eq_some_iff.mp H; obtain ⟨aT, ao, H⟩ := H; have aY := aM ao; clear ao; obtain rfl := Option.some.inj H; obtain ⟨ag, ah, aU⟩ := sL B; subst aU
    go_wp2_with (first | ((with_reducible refine gate_callee (f := 81) rfl ?_); refine gL_ (some 36) Try.func81 #[.slice ag A.length ah] ?_; (with_reducible refine (slices_Reverse_int_int.calls k1 (fun k_ => some k_ = (.slice ag A.length ah : Value).ownBlock) (.slice ag A.length ah) A aT w _ ?s1 ?s2 aY.out).mono ?_); (case s1 => repeat (first | (with_reducible first | exact HB.out | apply below_alloc | apply pw_below_drewN | apply below_drew1) | exact HB.out)); (case s2 => exact Kd.R_tight rfl B.out); rintro e bb ⟨rfl, W, hb, hkp⟩; refine ⟨_, rfl, ?_⟩; replace B := aM (Kd.R_reok rfl W (fun k_ e_ => B.out.1 k_ e_)); replace HB := aM (hb); (try clear hb); (try clear hkp); (try clear W)))
    go_ret
    exact ⟨_, eW, rO B.out, bO HB.out⟩

end Go.Proofs.Ytninoenmhcbonaa.X

/- Functions of the seat, printed, and that the program's calls come to them; no condition. -/
import Derived.Test.YtninoenmhcbonaaX0
import Derived.Test.YtninoenmhcbonaaX44
namespace Go.Proofs.Ytninoenmhcbonaa.X
open Go.RowKit Go.Proofs.YtninoenmhcbonaaW.PrintWords Go.Proofs.YtninoenmhcbonaaW.PrintLast Go.Proofs.YtninoenmhcbonaaW.PrintMore
attribute [local go_sem] max2_int min2_int max_two min_two max_three min_three max_four min_four
set_option linter.unusedVariables false
set_option linter.unusedSimpArgs false
set_option maxHeartbeats 8000000
set_option maxRecDepth 100000

def Fqc.l0 : Nat → Int → List ByteArray → List Bool → List (List Int) → List ByteArray → List Bool → List Int → List (S73) → Option (List ByteArray × List Bool × List Int × (List (S73)) × Int)
 | 0, _, _, _, _, _, _, _, _ => none
 | k + 1, x5, x611000, x611001, x611002, x628000, x628001, x628002, x628003 => if x5 < (x611002.length : Int) then (if 0 ≤ x5 then ((Fob.f k (rd_L4 x611002 x5)).bind fun bt629 => (if (bt629.1.length : Int) > 32 then (some (([] : List ByteArray), ([] : List Bool), ([] : List Int), ([] : List (S73)), 120)) else (if x628003.length + bt629.1.length < 5864062014805 then ((some (x628003 ++ bt629.1 : List (S73))).bind fun y633 => (if x628002.length < 17592186044416 then (Fqc.l0 k (wrap64 (x5 + 1)) x611000 x611001 x611002 x628000 x628001 (x628002 ++ [(y633.length : Int)]) y633) else (none))) else (none)))) else (none)) else (some (x628000, x628001, x628002, x628003, 0))
def Fqc.f (k : Nat) (l0_0 : List ByteArray) (l0_1 : List Bool) (l0_2 : List (List Int)) : Option (List ByteArray × List Bool × List Int × (List (S73)) × Int) := (some (([] : List ByteArray) : List ByteArray)).bind fun y612 => (if y612.length + l0_0.length < 8796093022208 then ((some (([] : List Bool) : List Bool)).bind fun y618 => (if y618.length + l0_1.length < 140737488355328 then (Fqc.l0 k 0 l0_0 l0_1 l0_2 (y612 ++ l0_0) (y618 ++ l0_1) (([0] : List Int)) ([] : List (S73))) else (none))) else (none))
theorem Fqc.mono_l : ∀ k, (∀ y0 y1 y2 y3 y4 y5 y6 y7, LeO (Fqc.l0 k y0 y1 y2 y3 y4 y5 y6 y7) (Fqc.l0 (k + 1) y0 y1 y2 y3 y4 y5 y6 y7))
 | 0 => fun _ _ _ _ _ _ _ _ r h => by simp [Fqc.l0] at h
 | k + 1 => by
  have ih0 := Fqc.mono_l k
  ·intro y0 y1 y2 y3 y4 y5 y6 y7
   unfold Fqc.l0
   repeat' first | (with_reducible first | exact ih0 _ _ _ _ _ _ _ _ | exact Fob.mono _ _ | exact lA | apply lI | refine lB ?_ fun _ => ?_) | exact lN _ | apply lI | refine lB ?_ fun _ => ?_
theorem Fqc.mono : ∀ a0 a1 a2 k, LeO (Fqc.f k a0 a1 a2) (Fqc.f (k + 1) a0 a1 a2) := by
 intro a0 a1 a2 k; have ih0 := Fqc.mono_l k
 unfold Fqc.f
 repeat' first | (with_reducible first | exact ih0 _ _ _ _ _ _ _ _ | exact Fob.mono _ _ | exact lA | apply lI | refine lB ?_ fun _ => ?_) | exact lN _ | apply lI | refine lB ?_ fun _ => ?_
def Fqc.T1 : Bool × List (List Nat × List Nat) := (true, [([], []), ([], []), ([1], [1]), ([0, 2], [0, 2]), ([], []), ([], []), ([5], [5]), ([4, 6, 3], [4, 6]), ([], []), ([3, 7, 8], [3, 7, 8]), ([], []), ([10, 9, 7, 0, 1, 2, 3, 4, 5, 6, 7, 8, 9, 10], [9, 10])])
def Fqc.B1 : List Nat := [0, 0, 2, 7, 0, 0, 32, 127, 0, 511, 0, 2047]
theorem Fqc.tab1 : rtab .any (opsOf Try.f57 1) = Fqc.T1 := by kernel_rfl
theorem Fqc.bits1 : waitsOk Fqc.T1.2 Fqc.B1 = true := by kernel_rfl
theorem Fqc.calls (k : Nat) (bh : Option Addr) (bi : Nat) (al : List ByteArray) (bj : Option Addr) (bk : Nat) (ap : List Bool) (bv : Option Addr) (bm : Nat) (ay : List (List Int)) (r1 : List ByteArray) (r2 : List Bool) (r3 : List Int) (r4 : List (S73)) (r5 : Int) (w : World) (cm : Kd.C Kd.string w bh al.length al) (cn : al.length ≤ bi) (co : Kd.C Kd.bool w bj ap.length ap) (cp : ap.length ≤ bk) (cq : Kd.C (Kd.slice 3 (Kd.int .i64)) w bv ay.length ay) (cr : ay.length ≤ bm) (h : Fqc.f k al ap ay = some (r1, r2, r3, r4, r5)) :
  Calls Try.prog 57 #[.agg #[.slice bh al.length bi, .slice bj ap.length bk, .slice bv ay.length bm]] w fun e w' => ∃ c5 c6 c7 c8 : Value, e = .returned (.tuple #[.agg #[c5, c6, c7, c8], .int .i64 r5]) ∧ Kd.R Kd.string 9 w' w.heap.size (fun _ => True) c5 r1 ∧ Kd.R Kd.bool 4 w' w.heap.size (fun _ => True) c6 r2 ∧ Kd.R (Kd.int .i64) 3 w' w.heap.size (fun _ => True) c7 r3 ∧ Kd.R k73 73 w' w.heap.size (fun _ => True) c8 r4 ∧ Below w.heap.size w w' := by
 have hu45 := Try.underlying45; have hu27 := Try.underlying27; have aY := aM cm; have eC := aM cn; clear cm cn; have bM := aM co; have eD := aM cp; clear co cp; have ct := aM cq; have eE := aM cr; clear cq cr; have HB := aM (Below.refl w.heap.size w); rw [Fqc.f] at h; have H := h; clear h; obtain ⟨aD, b7⟩ : ∃ y_ : List ByteArray, y_ = (([] : List ByteArray)) := ⟨_, rfl⟩
 replace H : (if aD.length + al.length < 8796093022208 then ((some (([] : List Bool) : List Bool)).bind fun ax => (if ax.length + ap.length < 140737488355328 then (Fqc.l0 k 0 al ap ay (aD ++ al) (ax ++ ap) (([0] : List Int)) ([] : List (S73))) else (none))) else (none)) = some (r1, r2, r3, r4, r5) := rH b7 H
 have aZ := aM b7; clear b7
 apply iN H; clear H; intro c2 H; have bn := aM c2; clear c2; obtain ⟨aq, bN⟩ : ∃ y_ : List ByteArray, y_ = (aD ++ al) := ⟨_, rfl⟩
 first | replace H := rI bN H | rw [← bN] at H
 have a3 := aM bN; clear bN; obtain ⟨ax, b8⟩ : ∃ y_ : List Bool, y_ = (([] : List Bool)) := ⟨_, rfl⟩
 replace H : (if ax.length + ap.length < 140737488355328 then (Fqc.l0 k 0 al ap ay aq (ax ++ ap) (([0] : List Int)) ([] : List (S73))) else (none)) = some (r1, r2, r3, r4, r5) := rH b8 H
 have aI := aM b8; clear b8
 apply iN H; clear H; intro c3 H; have b9 := aM c3; clear c3; obtain ⟨aH, bO⟩ : ∃ y_ : List Bool, y_ = (ax ++ ap) := ⟨_, rfl⟩
 first | replace H := rI bO H | rw [← bO] at H
 have bP := aM bO; clear bO; obtain ⟨aC, bQ⟩ : ∃ y_ : List Int, y_ = (([0] : List Int)) := ⟨_, rfl⟩
 first | replace H := rI bQ H | rw [← bQ] at H
 have aE := aM bQ; clear bQ; have H' := aM H; clear H
 go_enter Try.func57, Try.ntmps57
 try go_wp2_with (first | ((with_reducible refine gate_dst (N := 1) rfl ?_); refine be_ (cs := #[.slice bh al.length bi, .slice bj ap.length bk, .slice bv ay.length bm]) (t := 45) ?_; intro ab hg w4 ag hb; have z := aM (ag); have eF := gE hg (bP0 HB); have B := gE hg (bP0 HB); replace HB := hS0 HB hb; clear hb ag hg) | ((with_reducible refine gate_dst (N := 2) rfl ?_); refine be_ (cs := #[.slice none 0 0, .slice none 0 0, .slice none 0 0, .slice none 0 0]) (t := 27) ?_; intro ae hg w5 ag hb; have A := aM (ag); have eG := gE hg (bP1 HB B); have D := gE hg (bP1 HB B); replace HB := hS1 HB B hb; have bo := nL hg z; have bp := nG hg z; replace z := kB z hb; clear hb ag hg))
 replace z := kD z; replace A := kD A; replace HB := aM (below_drew1 HB.out); refine start_ (n := 12) (S := fun w' => w'.cell? ⟨ab, 0, none⟩ = some (.slice bh al.length bi) ∧ w'.cell? ⟨ab, 1, none⟩ = some (.slice bj ap.length bk) ∧ w'.cell? ⟨ab, 2, none⟩ = some (.slice bv ay.length bm)) (ds := []) (bl 12 0) (by kernel_rfl) rfl rfl (bD3 z) (fun af => ?_); refine with_tabW Fqc.tab1 Fqc.bits1 (fun am ao => ?_); generalize w5.drew = w6 at z A HB af ⊢; refine pu_ 1 9 (bl 12 2) am ?_; refine pu_ 5 13 (bl 12 34) am ?_; refine tk3_ 2 10 (bl 12 38) am ao af ?_; refine tk3_ 6 14 (bl 12 102) am ao af ?_; let q_1 : World → Prop := fun w' => w'.cell? ⟨ab, 0, none⟩ = some (.slice bh al.length bi) ∧ w'.cell? ⟨ab, 1, none⟩ = some (.slice bj ap.length bk) ∧ w'.cell? ⟨ab, 2, none⟩ = some (.slice bv ay.length bm); let q_2 : World → Prop := fun w' => Aside0 (w'.heap[ab]? = some (.cells #[.slice bh al.length bi, .slice bj ap.length bk, .slice bv ay.length bm] 45 (0, 0))); let q_3 : World → Prop := fun w' => Aside0 (w'.heap[ae]? = some (.cells #[.slice none 0 0, .slice none 0 0, .slice none 0 0, .slice none 0 0] 27 (0, 0))); refine join_ (σ := Value × Value × Value × Value × Value × Nat) 1 (bl 12 2047) (fun s_ => [(8, s_.1), (11, s_.2.1), (12, s_.2.2.1), (15, s_.2.2.2.1), (16, s_.2.2.2.2.1), (4, .pointer (some ⟨s_.2.2.2.2.2, 0, none⟩)), (17, .agg #[s_.2.1, s_.2.2.2.1, s_.2.2.2.2.1, .slice none 0 0])]) (fun s_ w' => (q_1 w') ∧ (RA Kd.string 9 w' w s_.2.1 aq) ∧ (RA Kd.bool 4 w' w s_.2.2.2.1 aH) ∧ (RA (Kd.int .i64) 3 w' w s_.2.2.2.2.1 aC) ∧ (q_2 w') ∧ (q_3 w') ∧ (Aside0 (w'.heap[s_.2.2.2.2.2]? = some (.cells #[.slice none 0 0, .slice none 0 0, .slice none 0 0, .slice none 0 0] 27 (0, 0)))) ∧ (Aside0 (w.heap.size ≤ s_.2.2.2.2.2)) ∧ (Aside0 (w.heap.size ≤ s_.2.2.2.2.2)) ∧ (Aside0 (ab ≠ s_.2.2.2.2.2)) ∧ (Aside0 (s_.2.2.2.2.2 ≠ ab)) ∧ (Aside0 (ae ≠ s_.2.2.2.2.2)) ∧ (Aside0 (s_.2.2.2.2.2 ≠ ae)) ∧ BA w w') ?_ ?_
 ·clear z A HB; rintro ⟨Y, ad, Z, a6, aa, V⟩ cu ⟨af, U, ac, O, z, A, G, W, F, E, J, I, L, HB⟩; (try dsimp only at af U ac O z A G W F E J I L HB); obtain ⟨ch, ci, bU⟩ := sL O
  (first | subst bU | obtain ⟨rfl, rfl⟩ := iS bU)
  obtain ⟨bH, bI, bV⟩ := sL ac
  (first | subst bV | obtain ⟨rfl, rfl⟩ := iS bV)
  obtain ⟨ca, cb, cK⟩ := sL U
  (first | subst cK | obtain ⟨rfl, rfl⟩ := iS cK)
  refine norm_ (a' := ?_) ?_ ?_; rotate_left
  ·simp only [putAll, Act.put, sA, sB, sC]
   rfl
  refine one_ (i := 11) (N := none) (bl 12 4095) rfl rfl (one_of am.out (by kernel_rfl)) (by decide) (fun K hK => ?_); have hs23 : cu.cell? ⟨V, 0, none⟩ = some (.slice none 0 0) := (blk_cell G.out 0).trans rfl; have hfs23 := blk_frozen G.out 0; have hns23_0 := E.out; have hns23_1 := I.out; have hms23_0 := J.out; have hms23_1 := L.out; have hs24 : cu.cell? ⟨V, 1, none⟩ = some (.slice none 0 0) := (blk_cell G.out 1).trans rfl; have hfs24 := blk_frozen G.out 1; have hns24_0 := E.out; have hns24_1 := I.out; have hms24_0 := J.out; have hms24_1 := L.out; have hs25 : cu.cell? ⟨V, 2, none⟩ = some (.slice none 0 0) := (blk_cell G.out 2).trans rfl; have hfs25 := blk_frozen G.out 2; have hns25_0 := E.out; have hns25_1 := I.out; have hms25_0 := J.out; have hms25_1 := L.out; have hs26 : cu.cell? ⟨V, 3, none⟩ = some (.slice none 0 0) := (blk_cell G.out 3).trans rfl; have hfs26 := blk_frozen G.out 3; have hns26_0 := E.out; have hns26_1 := I.out; have hms26_0 := J.out; have hms26_1 := L.out; refine skip_ (w1 := ?_) (by rfl) rfl ?_ ?_; rotate_left
  ·go_simp
   rfl
  refine hK.out _ _ ⟨((cell_far (p := ⟨V, _, none⟩) E.out _).trans (((cell_far (p := ⟨V, _, none⟩) E.out _).trans (((cell_far (p := ⟨V, _, none⟩) E.out _).trans (((cell_far (p := ⟨V, _, none⟩) E.out _).trans (af.1)))))))), ((cell_far (p := ⟨V, _, none⟩) E.out _).trans (((cell_far (p := ⟨V, _, none⟩) E.out _).trans (((cell_far (p := ⟨V, _, none⟩) E.out _).trans (((cell_far (p := ⟨V, _, none⟩) E.out _).trans (af.2.1)))))))), ((cell_far (p := ⟨V, _, none⟩) E.out _).trans (((cell_far (p := ⟨V, _, none⟩) E.out _).trans (((cell_far (p := ⟨V, _, none⟩) E.out _).trans (((cell_far (p := ⟨V, _, none⟩) E.out _).trans (af.2.2))))))))⟩ (fun af => ?_); clear hK K; refine done_ (done_of am.out (by kernel_rfl)) ?_
  try go_wp2
  go_loopg [5] k (fun kq v5 w' => ∃ (aG : Int) (az : List Int) (aA : List (S73)) (a7 : Value) (bt : Value), v5 = .int .i64 aG ∧ Aside0 (Fqc.l0 kq aG al ap ay aq aH az aA = some (r1, r2, r3, r4, r5)) ∧ Aside0 (kq ≤ k) ∧ RA Kd.string 9 w' w (.slice ca aq.length cb) aq ∧ RA Kd.bool 4 w' w (.slice bH aH.length bI) aH ∧ RA (Kd.int .i64) 3 w' w a7 az ∧ RA k73 73 w' w bt aA ∧ Aside0 (w'.heap[ab]? = some (.cells #[(.slice bh al.length bi), (.slice bj ap.length bk), (.slice bv ay.length bm)] 45 (0, 0))) ∧ Aside0 (w'.heap[ae]? = some (.cells #[(.slice none 0 0), (.slice none 0 0), (.slice none 0 0), (.slice none 0 0)] 27 (0, 0))) ∧ Aside0 (w'.heap[V]? = some (.cells #[(.slice ca aq.length cb), (.slice bH aH.length bI), a7, bt] 27 (0, 0))) ∧ BA w w')
  case atStart => exact ⟨(0), (aC), (([] : List (S73))), (.slice ch aC.length ci), (.slice none 0 0), sI, H', ⟨Nat.le_refl _⟩, ⟨rZ U G⟩, ⟨rZ ac G⟩, ⟨rZ O G⟩, ⟨by first | exact Kd.R_nil _ _ _ _ _ | exact Kd.N_nil _ _ _ _ _ | exact Kd.V_nil _ _ _ _ _ | exact Kd.Q_nil _ _ _ _ _ | exact Kd.S_nil _ _ _ _ _⟩, ⟨kN z E⟩, ⟨kN A I⟩, ⟨by (with_reducible repeat (first | refine blk_drewN ?_ _ | refine blk_drew ?_ | refine blk_alloc ?_ _)); exact blk_put (blk_put (blk_put (blk_put G.out 0 _ rfl) 1 _ rfl) 2 _ rfl) 3 _ rfl⟩, bT3 HB B D F⟩
  case round =>
   clear H'
   obtain ⟨aG, az, aA, a7, bt, rfl, HA, cF, av, aw, ah, aj, z, A, G, HB⟩ := hrel; cases gk with
   | zero => exact absurd HA.out (by simp [Fqc.l0])
   | succ k1 =>
    have H := HA.out; clear HA; simp only [Fqc.l0] at H
    apply iB H <;> clear H <;> intro b3 H
    ·have cU := dT b3; clear b3
     apply iN H; clear H; intro cv H; have eH := dT cv; clear cv; replace H := Option.bind_eq_some_iff.mp H; obtain ⟨⟨aT, cL⟩, cM, H⟩ := H; replace H : (if (aT.length : Int) > 32 then (some (([] : List ByteArray), ([] : List Bool), ([] : List Int), ([] : List (S73)), 120)) else (if aA.length + aT.length < 5864062014805 then ((some (aA ++ aT : List (S73))).bind fun be => (if az.length < 17592186044416 then (Fqc.l0 k1 (wrap64 (aG + 1)) al ap ay aq aH (az ++ [(be.length : Int)]) be) else (none))) else (none))) = some (r1, r2, r3, r4, r5) := H; have c9 := aM cM; clear cM
     apply iB H <;> clear H <;> intro b4 H
     ·have cV := dT b4; have cW : decide (32 < aT.length) = true := dT (by omega); clear b4; obtain ⟨rfl, rfl, rfl, rfl, rfl⟩ := pE5 H; have eI := bo.out; have eJ := bp.out; have eK := E.out; have eL := J.out; obtain ⟨dt, du, dv, dw, dx, dy⟩ := bG3 z; have bw : 0 ≤ (aG : Int) := oT aO; have bx : aG < (ay.length : Int) := oT aO; obtain ⟨cw, bW, bX, cj, a8, a9, ba⟩ := at_L4 ct.out aG bw bx; cases cj; replace a8 := cX HB a8; have bJ := aM ba; have bK := aM a9; clear ba a9; replace bw := eq_true bw; replace bx := eq_true bx
      go_wp2_with (first | ((with_reducible refine gate_callee (f := 78) rfl ?_); refine gL_ (some 31) Try.func78 #[.slice bW (rd_L4 ay aG).length bX] ?_; (with_reducible refine (Fob.calls k1 _ _ (rd_L4 ay aG) aT cL _ ?s1 bK.out c9.out).mono ?_); (case s1 => exact cB bJ HB); rintro e e7 ⟨da, rfl, bY, hb⟩; refine ⟨_, rfl, ?_⟩; replace av := rB av hb; replace aw := rB aw hb; replace ah := rB ah hb; have aU := rW (Kd.R_new' bY (Kd.R_lt (rP aj))) (bP3 HB B D F); replace aj := aM (Kd.R_elder' (rP aj) (Kd.R_base bY) hb); replace z := kB z hb; replace A := kB A hb; replace G := kB G hb; replace HB := hS3 HB B D F hb; obtain ⟨e3, e4, rfl⟩ := sL aU; have eM := I.out; have eN := L.out; obtain ⟨dz, dA, dB, dC, dD, dE, dF, dG⟩ := bG4 A))
      refine bodyPost_ret (results_ct rfl _ _ ae 27 #[.slice none 0 0, .slice none 0 0, .slice none 0 0, .slice none 0 0] (0, 0) _ rfl (by (with_reducible repeat (first | refine blk_drewN ?_ _ | refine blk_drew ?_ | refine blk_alloc ?_ _)); exact blk_put (blk_put (blk_put (blk_put A.out 0 _ rfl) 1 _ rfl) 2 _ rfl) 3 _ rfl) Try.underlying27 rfl (by kernel_rfl)) rfl ?_; exact ⟨_, _, _, _, eW, by first | exact Kd.R_nil _ _ _ _ _ | exact Kd.N_nil _ _ _ _ _ | exact Kd.V_nil _ _ _ _ _ | exact Kd.Q_nil _ _ _ _ _ | exact Kd.S_nil _ _ _ _ _, by first | exact Kd.R_nil _ _ _ _ _ | exact Kd.N_nil _ _ _ _ _ | exact Kd.V_nil _ _ _ _ _ | exact Kd.Q_nil _ _ _ _ _ | exact Kd.S_nil _ _ _ _ _, by first | exact Kd.R_nil _ _ _ _ _ | exact Kd.N_nil _ _ _ _ _ | exact Kd.V_nil _ _ _ _ _ | exact Kd.Q_nil _ _ _ _ _ | exact Kd.S_nil _ _ _ _ _, by first | exact Kd.R_nil _ _ _ _ _ | exact Kd.N_nil _ _ _ _ _ | exact Kd.V_nil _ _ _ _ _ | exact Kd.Q_nil _ _ _ _ _ | exact Kd.S_nil _ _ _ _ _, bS3 HB.out B.out D.out F.out⟩
     ·have cV := decide_eq_false b4; have cW : decide (32 < aT.length) = false := decide_eq_false (by omega); clear b4
      apply iN H; clear H; intro cx H; have cY := aM cx; clear cx; obtain ⟨be, bR⟩ : ∃ y_ : List (S73), y_ = (aA ++ aT) := ⟨_, rfl⟩
      first | replace H := rI bR H | rw [← bR] at H
      have cZ := aM bR; clear bR
      apply iN H; clear H; intro cy H; have c0 := aM cy; clear cy; obtain ⟨cN, bS⟩ : ∃ y_ : List Int, y_ = (az ++ [(be.length : Int)]) := ⟨_, rfl⟩
      first | replace H := rI bS H | rw [← bS] at H
      have c1 := aM bS; clear bS; have H' := aM H; clear H; have eO := bo.out; have eP := bp.out; have eQ := E.out; have eR := J.out; obtain ⟨dH, dI, dJ, dK, dL, dM⟩ := bG3 z; have bw : 0 ≤ (aG : Int) := oT aO; have bx : aG < (ay.length : Int) := oT aO; obtain ⟨cw, bW, bX, cj, a8, a9, ba⟩ := at_L4 ct.out aG bw bx; cases cj; replace a8 := cX HB a8; have bJ := aM ba; have bK := aM a9; clear ba a9; replace bw := eq_true bw; replace bx := eq_true bx
      go_wp2_with (first | ((with_reducible refine gate_callee (f := 78) rfl ?_); refine gL_ (some 31) Try.func78 #[.slice bW (rd_L4 ay aG).length bX] ?_; (with_reducible refine (Fob.calls k1 _ _ (rd_L4 ay aG) aT cL _ ?s1 bK.out c9.out).mono ?_); (case s1 => exact cB bJ HB); rintro e e8 ⟨da, rfl, bY, hb⟩; refine ⟨_, rfl, ?_⟩; replace av := rB av hb; replace aw := rB aw hb; replace ah := rB ah hb; have aU := rW (Kd.R_new' bY (Kd.R_lt (rP aj))) (bP3 HB B D F); replace aj := aM (Kd.R_elder' (rP aj) (Kd.R_base bY) hb); replace z := kB z hb; replace A := kB A hb; replace G := kB G hb; replace HB := hS3 HB B D F hb; obtain ⟨dc, dd, rfl⟩ := sL aU; have eS := L.out; have eT := I.out; obtain ⟨dN, dO, dP, dQ, dR, dS, dU, dV⟩ := bG4 G) | ((with_reducible refine gate_builtin (b := .append) (xs := #[.tmp 39, .tmp 40]) rfl ?_); at_builtin; refine Kd.R_append_rows k73 (w0 := w) w.heap.size rfl (.tmp 39) (.tmp 40) 25 73 (.agg #[(.int .i64 0), (.int .i64 0), (.int .i64 0)]) 24 rfl Try.underlying25 info73 rfl (by decide) (by omega) bt aA aT _ _ _ (fun k_ => some k_ ≠ (.slice dc aT.length dd : Value).ownBlock) (fun _ => False) rfl rfl ?aO ?aR (fun _ _ h => h) (fun _ h => h.elim) ?aF ?aB ?aS ?aL ?_; (case aR => exact cO (rR aU).2.2); (case aB => exact (bP3 HB B D F)); (case aF => exact (fun k_ hk => Kd.fresh' (Kd.R_lt (rP aU)) k_ hk)); (case aO => exact (rM aj (fun _ hk => hk.2))); (case aS => exact (below_size (bP3 HB B D F))); (case aL => have := cY.out; omega); intro e5 e9 ho hb hg hat; rw [← cZ.out] at ho; replace av := aM (Kd.R_over' (rP av) (Kd.R_typed (rP aj)) (by decide) hg); replace aw := aM (Kd.R_over' (rP aw) (Kd.R_typed (rP aj)) (by decide) hg); replace ah := aM (Kd.R_over' (rP ah) (Kd.R_typed (rP aj)) (by decide) hg); replace z := kG z hg aj; replace A := kG A hg aj; replace G := kG G hg aj; replace aU := aM (Kd.R_after (ok := (fun _ => True)) (rP aU) hg hat); replace HB := aM (hb); have bT := aM (ho); clear aj; clear ho hb hg hat; obtain ⟨cP, cQ, rfl⟩ := sL bT; obtain ⟨dW, dX, dY, dZ, d0, d1, d2, d3⟩ := bG4 G) | ((with_reducible refine gate_builtin (b := .append) (xs := #[.tmp 44, .tmp 48]) rfl ?_); at_builtin; refine Kd.R_append (Kd.int .i64) (w0 := w) w.heap.size rfl (.tmp 44) (.tmp 48) 24 3 (.int .i64 0) 8 rfl Try.underlying24 info3 rfl (by decide) (by omega) a7 az (be.length : Int) [.int .i64 (be.length : Int)] (fun _ => True) (fun _ => False) rfl (by first | (go_simp; done) | (go_simp; rfl)) ?aP (fun _ hk => hk.elim) ?aF ?aO ?aB ?aS ?aL ?_; (case aP => exact rfl); (case aB => exact (bP3 HB B D F)); (case aF => exact (fun _ _ => trivial)); (case aO => exact (rZ ah G)); (case aS => exact (below_size (bP3 HB B D F))); (case aL => have := c0.out; omega); intro e6 fa ho hb hg hat; rw [← c1.out] at ho; replace av := aM (Kd.R_over' (rY av G) (Kd.R_typed (rY ah G)) (by decide) hg); replace aw := aM (Kd.R_over' (rY aw G) (Kd.R_typed (rY ah G)) (by decide) hg); replace z := aM (blk_grown (g := ab) (o := .cells #[.slice bh al.length bi, .slice bj ap.length bk, .slice (some cw) ay.length bm] 45 (0, 0)) (kN z E) hg (Kd.R_ne ah.out z.out (by decide))); replace A := aM (blk_grown (g := ae) (o := .cells #[.slice none 0 0, .slice none 0 0, .slice none 0 0, .slice none 0 0] 27 (0, 0)) (kN A I) hg (Kd.R_ne ah.out A.out (by decide))); replace aU := aM (Kd.R_over' (rY aU G) (Kd.R_typed (rY ah G)) (by decide) hg); replace bT := aM (Kd.R_over' (rY bT G) (Kd.R_typed (rY ah G)) (by decide) hg); replace G := aM (blk_grown (g := V) (o := .cells #[.slice ca aq.length cb, .slice bH aH.length bI, a7, .slice cP be.length cQ] 27 (0, 0)) (by (with_reducible repeat (first | refine blk_drewN ?_ _ | refine blk_drew ?_ | refine blk_alloc ?_ _)); exact blk_put G.out 3 _ rfl) hg (Kd.R_ne ah.out G.out (by decide))); replace HB := aM (hb); have cz := aM (ho); clear ah; clear ho hb hg hat; obtain ⟨dg, dh, rfl⟩ := sL cz; obtain ⟨d4, d5, d6, d7, d8, d9, ea, eb⟩ := bG4 G))
      go_roundg k1
      case measure => have := cF.out; omega
      case rel => exact ⟨(wrap64 (aG + 1)), (cN), (be), (.slice dg cN.length dh), (.slice cP be.length cQ), sI, H', ⟨by have := cF.out; omega⟩, ⟨rZ av G⟩, ⟨rZ aw G⟩, ⟨rZ cz G⟩, ⟨rZ bT G⟩, ⟨kN z E⟩, ⟨kN A I⟩, ⟨by (with_reducible repeat (first | refine blk_drewN ?_ _ | refine blk_drew ?_ | refine blk_alloc ?_ _)); exact blk_put G.out 2 _ rfl⟩, bT3 HB B D F⟩
    ·have cU := decide_eq_false b3; clear b3; obtain ⟨rfl, rfl, rfl, rfl, rfl⟩ := pE5 H; have eU := bo.out; have eV := bp.out; have eX := E.out; have eY := J.out; obtain ⟨ec, ed, ee, ef, eg, eh⟩ := bG3 z; have eZ := L.out; have e0 := I.out; obtain ⟨ei, ej, ek, el, em, en, eo, ep⟩ := bG4 G; obtain ⟨er, es, et, eu, ev, ew, ex, ey⟩ := bG4 A; obtain ⟨dj, dk, rfl⟩ := sL ah; obtain ⟨dm, dn, rfl⟩ := sL aj
     go_wp2
     refine bodyPost_ret (results_ct rfl _ _ ae 27 #[.slice ca aq.length cb, .slice bH aH.length bI, .slice dj az.length dk, .slice dm aA.length dn] (0, 0) _ rfl (by (with_reducible repeat (first | refine blk_drewN ?_ _ | refine blk_drew ?_ | refine blk_alloc ?_ _)); exact blk_put (blk_put (blk_put (blk_put A.out 0 _ rfl) 1 _ rfl) 2 _ rfl) 3 _ rfl) Try.underlying27 rfl (by kernel_rfl)) rfl ?_; exact ⟨_, _, _, _, eW, rZ av A, rZ aw A, rZ ah A, rZ aj A, bS3 HB.out B.out D.out F.out⟩
 intro aQ; refine join_ (σ := Value × Value × Value × Value × Value) 2 (bl 12 1023) (fun s_ => [(8, s_.1), (11, s_.2.1), (12, s_.2.2.1), (15, s_.2.2.2.1), (16, s_.2.2.2.2), (17, .agg #[s_.2.1, s_.2.2.2.1, s_.2.2.2.2, .slice none 0 0])]) (fun s_ w' => (q_1 w') ∧ (RA Kd.string 9 w' w s_.2.1 aq) ∧ (RA Kd.bool 4 w' w s_.2.2.2.1 aH) ∧ (RA (Kd.int .i64) 3 w' w s_.2.2.2.2 aC) ∧ (q_2 w') ∧ (q_3 w') ∧ BA w w') ?_ ?_
 ·clear z A HB; rintro ⟨Y, ad, Z, a6, aa⟩ fb ⟨af, U, ac, O, z, A, HB⟩; (try dsimp only at af U ac O z A HB); obtain ⟨bZ, b0, bq⟩ := sL O
  (first | subst bq | obtain ⟨rfl, rfl⟩ := iS bq)
  obtain ⟨ch, ci, bU⟩ := sL ac
  (first | subst bU | obtain ⟨rfl, rfl⟩ := iS bU)
  obtain ⟨bH, bI, bV⟩ := sL U
  (first | subst bV | obtain ⟨rfl, rfl⟩ := iS bV)
  refine norm_ (a' := ?_) ?_ ?_; rotate_left
  ·simp only [putAll, Act.put, sA, sB, sC]
   rfl
  refine one_ (i := 10) (N := some 4) (bl 12 2047) rfl rfl (one_of am.out (by kernel_rfl)) (by decide) (fun K hK => ?_); refine bs_ (cs := #[.slice none 0 0, .slice none 0 0, .slice none 0 0, .slice none 0 0]) (t := 27) ?_; intro V hg fc ag hb; replace U := rB U hb; replace ac := rB ac hb; replace O := rB O hb; have G := aM (ag); have W := gE hg (bP2 HB B D); have F := gE hg (bP2 HB B D); replace HB := hS2 HB B D hb; have E := nL hg z; have J := nG hg z; replace z := kB z hb; have I := nL hg A; have L := nG hg A; replace A := kB A hb; clear hb ag hg; refine hK.out _ _ (bD3 z) (fun af => ?_); clear hK K; refine nm_ 4 ?_; exact norm_ pO (aQ (Y, .slice bH aq.length bI, Z, .slice ch aH.length ci, .slice bZ aC.length b0, V) _ ⟨af, rQ U, rQ ac, rQ O, kQ z, kQ A, kQ G, W, F, E, J, I, L, bT3 HB B D F⟩)
 intro bu; refine join_ (σ := Value × Value × Value × Value × Nat) 3 (bl 12 1279) (fun s_ => [(8, s_.1), (11, s_.2.1), (12, s_.2.2.1), (15, s_.2.2.2.1), (4, .pointer (some ⟨s_.2.2.2.2, 0, none⟩))]) (fun s_ w' => (q_1 w') ∧ (RA Kd.string 9 w' w s_.2.1 aq) ∧ (RA Kd.bool 4 w' w s_.2.2.2.1 aH) ∧ (q_2 w') ∧ (q_3 w') ∧ (Aside0 (w'.heap[s_.2.2.2.2]? = some (.cells #[.slice none 0 0, .slice none 0 0, .slice none 0 0, .slice none 0 0] 27 (0, 0)))) ∧ (Aside0 (w.heap.size ≤ s_.2.2.2.2)) ∧ (Aside0 (w.heap.size ≤ s_.2.2.2.2)) ∧ (Aside0 (ab ≠ s_.2.2.2.2)) ∧ (Aside0 (s_.2.2.2.2 ≠ ab)) ∧ (Aside0 (ae ≠ s_.2.2.2.2)) ∧ (Aside0 (s_.2.2.2.2 ≠ ae)) ∧ BA w w') ?_ ?_
 ·clear z A HB; rintro ⟨Y, ad, Z, a6, V⟩ bG ⟨af, U, ac, z, A, G, W, F, E, J, I, L, HB⟩; (try dsimp only at af U ac z A G W F E J I L HB); refine norm_ (a' := ?_) ?_ ?_; rotate_left
  ·simp only [putAll, Act.put, sA, sB, sC]
   rfl
  refine one_ (i := 8) (N := some 16) (bl 12 1535) rfl rfl (one_of am.out (by kernel_rfl)) (by decide) (fun K hK => ?_); refine lt_ (Kd.int .i64) 3 16 ([0] : List Int) [.int .i64 0] (Reps.one (show Kd.M (Kd.int .i64) _ _ _ 0 [.int .i64 0] from rfl) (Reps.none _ _)) ?_; intro aa cA cc hb
  replace cc := nW aE cc
  replace U := rB U hb; replace ac := rB ac hb; have O := rW cc (bP3 HB B D F); replace z := kB z hb; replace A := kB A hb; replace G := kB G hb; replace HB := hS3 HB B D F hb; clear hb cc; obtain ⟨bz, bA, aW⟩ := sL O
  (first | subst aW | obtain ⟨rfl, rfl⟩ := iS aW)
  obtain ⟨bB, bC, aX⟩ := sL ac
  (first | subst aX | obtain ⟨rfl, rfl⟩ := iS aX)
  obtain ⟨bZ, b0, bq⟩ := sL U
  (first | subst bq | obtain ⟨rfl, rfl⟩ := iS bq)
  refine hK.out _ _ (bD3 z) (fun af => ?_); clear hK K; refine nm_ 16 ?_; refine pu_ 9 17 (bl 12 2047) am ?_; exact norm_ pO (aQ (Y, .slice bZ aq.length b0, Z, .slice bB aH.length bC, .slice bz aC.length bA, V) _ ⟨af, rQ U, rQ ac, rQ O, kQ z, kQ A, kQ G, W, F, E, J, I, L, bT3 HB B D F⟩)
 intro br; refine join_ (σ := Value × Value × Value × Value × Nat) 3 (bl 12 1407) (fun s_ => [(8, s_.1), (11, s_.2.1), (12, s_.2.2.1), (16, s_.2.2.2.1), (4, .pointer (some ⟨s_.2.2.2.2, 0, none⟩))]) (fun s_ w' => (q_1 w') ∧ (RA Kd.string 9 w' w s_.2.1 aq) ∧ (RA Kd.bool 4 w' w s_.2.2.1 ax) ∧ (RA (Kd.int .i64) 3 w' w s_.2.2.2.1 aC) ∧ (q_2 w') ∧ (q_3 w') ∧ (Aside0 (w'.heap[s_.2.2.2.2]? = some (.cells #[.slice none 0 0, .slice none 0 0, .slice none 0 0, .slice none 0 0] 27 (0, 0)))) ∧ (Aside0 (w.heap.size ≤ s_.2.2.2.2)) ∧ (Aside0 (w.heap.size ≤ s_.2.2.2.2)) ∧ (Aside0 (ab ≠ s_.2.2.2.2)) ∧ (Aside0 (s_.2.2.2.2 ≠ ab)) ∧ (Aside0 (ae ≠ s_.2.2.2.2)) ∧ (Aside0 (s_.2.2.2.2 ≠ ae)) ∧ BA w w') ?_ ?_
 ·clear z A HB; rintro ⟨Y, ad, Z, aa, V⟩ cA ⟨af, U, P, O, z, A, G, W, F, E, J, I, L, HB⟩; (try dsimp only at af U P O z A G W F E J I L HB); refine norm_ (a' := ?_) ?_ ?_; rotate_left
  ·simp only [putAll, Act.put, sA, sB, sC]
   rfl
  refine one_ (i := 7) (N := some 15) (bl 12 1535) rfl rfl (one_of am.out (by kernel_rfl)) (by decide) (fun K hK => ?_); refine Kd.R_append_rows_step Kd.bool (w0 := w) w.heap.size (by rfl) (.tmp 12) (.tmp 14) 23 4 (.bool false) 1 rfl Try.underlying23 info4 rfl (by decide) (by omega) Z ax ap _ _ _ (fun _ => True) (fun _ => False) rfl rfl ?aO ?aR (fun _ _ h => h) (fun _ h => h.elim) ?aF ?aB ?aS ?aL ?_
  (case aR => exact cO (Kd.C_below bM.out HB.out))
  (case aB => exact (bP3 HB B D F))
  (case aF => exact (fun _ _ => trivial))
  (case aO => exact (rP P))
  (case aS => exact (below_size (bP3 HB B D F)))
  (case aL => have := b9.out; omega)
  intro a6 fd ho hb hg hat; rw [← bP.out] at ho; replace z := kG z hg P; replace A := kG A hg P; replace U := aM (Kd.R_over' (rP U) (Kd.R_typed (rP P)) (by decide) hg); replace O := aM (Kd.R_over' (rP O) (Kd.R_typed (rP P)) (by decide) hg); replace G := kG G hg P; replace HB := aM (hb); have ac := aM (ho); clear P; clear ho hb hg hat; obtain ⟨bz, bA, aW⟩ := sL O
  (first | subst aW | obtain ⟨rfl, rfl⟩ := iS aW)
  obtain ⟨bB, bC, aX⟩ := sL ac
  (first | subst aX | obtain ⟨rfl, rfl⟩ := iS aX)
  obtain ⟨bZ, b0, bq⟩ := sL U
  (first | subst bq | obtain ⟨rfl, rfl⟩ := iS bq)
  refine hK.out _ _ (bD3 z) (fun af => ?_); clear hK K; refine nm_ 15 ?_; refine pu_ 9 17 (bl 12 2047) am ?_; exact norm_ pO (aQ (Y, .slice bZ aq.length b0, Z, .slice bB aH.length bC, .slice bz aC.length bA, V) _ ⟨af, rQ U, rQ ac, rQ O, kQ z, kQ A, kQ G, W, F, E, J, I, L, bT3 HB B D F⟩)
 intro aJ; refine join_ (σ := Value × Value × Value × Value) 4 (bl 12 255) (fun s_ => [(8, s_.1), (11, s_.2.1), (12, s_.2.2.1), (15, s_.2.2.2)]) (fun s_ w' => (q_1 w') ∧ (RA Kd.string 9 w' w s_.2.1 aq) ∧ (RA Kd.bool 4 w' w s_.2.2.2 aH) ∧ (q_2 w') ∧ (q_3 w') ∧ BA w w') ?_ ?_
 ·clear z A HB; rintro ⟨Y, ad, Z, a6⟩ bb ⟨af, U, ac, z, A, HB⟩; (try dsimp only at af U ac z A HB); refine norm_ (a' := ?_) ?_ ?_; rotate_left
  ·simp only [putAll, Act.put, sA, sB, sC]
   rfl
  refine two_ (i := 8) (j := 10) (Ni := some 16) (Nj := some 4) (bl 12 511) (bl 12 1279) rfl rfl rfl rfl (two_of am.out (by kernel_rfl)) (by decide) (by decide) (fun K hK => ?_) (fun K hK => ?_)
  ·refine lt_ (Kd.int .i64) 3 16 ([0] : List Int) [.int .i64 0] (Reps.one (show Kd.M (Kd.int .i64) _ _ _ 0 [.int .i64 0] from rfl) (Reps.none _ _)) ?_; intro aa bG aK hb
   replace aK := nW aE aK
   replace U := rB U hb; replace ac := rB ac hb; have O := rW aK (bP2 HB B D); replace z := kB z hb; replace A := kB A hb; replace HB := hS2 HB B D hb; clear hb aK; obtain ⟨ck, cl, b1⟩ := sL O
   (first | subst b1 | obtain ⟨rfl, rfl⟩ := iS b1)
   obtain ⟨bz, bA, aW⟩ := sL ac
   (first | subst aW | obtain ⟨rfl, rfl⟩ := iS aW)
   obtain ⟨bB, bC, aX⟩ := sL U
   (first | subst aX | obtain ⟨rfl, rfl⟩ := iS aX)
   refine hK.out _ _ (bD3 z) (fun af => ?_); clear hK K; refine nm_ 16 ?_; refine pu_ 9 17 (bl 12 1023) am ?_; exact norm_ pO (bu (Y, .slice bB aq.length bC, Z, .slice bz aH.length bA, .slice ck aC.length cl) _ ⟨af, rQ U, rQ ac, rQ O, kQ z, kQ A, bT2 HB B D⟩)
  ·refine bs_ (cs := #[.slice none 0 0, .slice none 0 0, .slice none 0 0, .slice none 0 0]) (t := 27) ?_; intro V hg bG ag hb; replace U := rB U hb; replace ac := rB ac hb; have G := aM (ag); have W := gE hg (bP2 HB B D); have F := gE hg (bP2 HB B D); replace HB := hS2 HB B D hb; have E := nL hg z; have J := nG hg z; replace z := kB z hb; have I := nL hg A; have L := nG hg A; replace A := kB A hb; clear hb ag hg; refine hK.out _ _ (bD3 z) (fun af => ?_); clear hK K; refine nm_ 4 ?_; exact norm_ pO (br (Y, ad, Z, a6, V) _ ⟨af, rQ U, rQ ac, kQ z, kQ A, kQ G, W, F, E, J, I, L, bT3 HB B D F⟩)
 intro cd; refine join_ (σ := Value × Value × Value × Value) 4 (bl 12 383) (fun s_ => [(8, s_.1), (11, s_.2.1), (12, s_.2.2.1), (16, s_.2.2.2)]) (fun s_ w' => (q_1 w') ∧ (RA Kd.string 9 w' w s_.2.1 aq) ∧ (RA Kd.bool 4 w' w s_.2.2.1 ax) ∧ (RA (Kd.int .i64) 3 w' w s_.2.2.2 aC) ∧ (q_2 w') ∧ (q_3 w') ∧ BA w w') ?_ ?_
 ·clear z A HB; rintro ⟨Y, ad, Z, aa⟩ bG ⟨af, U, P, O, z, A, HB⟩; (try dsimp only at af U P O z A HB); refine norm_ (a' := ?_) ?_ ?_; rotate_left
  ·simp only [putAll, Act.put, sA, sB, sC]
   rfl
  refine two_ (i := 7) (j := 10) (Ni := some 15) (Nj := some 4) (bl 12 511) (bl 12 1407) rfl rfl rfl rfl (two_of am.out (by kernel_rfl)) (by decide) (by decide) (fun K hK => ?_) (fun K hK => ?_)
  ·refine Kd.R_append_rows_step Kd.bool (w0 := w) w.heap.size (by rfl) (.tmp 12) (.tmp 14) 23 4 (.bool false) 1 rfl Try.underlying23 info4 rfl (by decide) (by omega) Z ax ap _ _ _ (fun _ => True) (fun _ => False) rfl rfl ?aO ?aR (fun _ _ h => h) (fun _ h => h.elim) ?aF ?aB ?aS ?aL ?_
   (case aR => exact cO (Kd.C_below bM.out HB.out))
   (case aB => exact (bP2 HB B D))
   (case aF => exact (fun _ _ => trivial))
   (case aO => exact (rP P))
   (case aS => exact (below_size (bP2 HB B D)))
   (case aL => have := b9.out; omega)
   intro a6 cA ho hb hg hat; rw [← bP.out] at ho; replace z := kG z hg P; replace A := kG A hg P; replace U := aM (Kd.R_over' (rP U) (Kd.R_typed (rP P)) (by decide) hg); replace O := aM (Kd.R_over' (rP O) (Kd.R_typed (rP P)) (by decide) hg); replace HB := aM (hb); have ac := aM (ho); clear P; clear ho hb hg hat; obtain ⟨ck, cl, b1⟩ := sL O
   (first | subst b1 | obtain ⟨rfl, rfl⟩ := iS b1)
   obtain ⟨bz, bA, aW⟩ := sL ac
   (first | subst aW | obtain ⟨rfl, rfl⟩ := iS aW)
   obtain ⟨bB, bC, aX⟩ := sL U
   (first | subst aX | obtain ⟨rfl, rfl⟩ := iS aX)
   refine hK.out _ _ (bD3 z) (fun af => ?_); clear hK K; refine nm_ 15 ?_; refine pu_ 9 17 (bl 12 1023) am ?_; exact norm_ pO (bu (Y, .slice bB aq.length bC, Z, .slice bz aH.length bA, .slice ck aC.length cl) _ ⟨af, rQ U, rQ ac, rQ O, kQ z, kQ A, bT2 HB B D⟩)
  ·refine bs_ (cs := #[.slice none 0 0, .slice none 0 0, .slice none 0 0, .slice none 0 0]) (t := 27) ?_; intro V hg cA ag hb; replace U := rB U hb; replace P := rB P hb; replace O := rB O hb; have G := aM (ag); have W := gE hg (bP2 HB B D); have F := gE hg (bP2 HB B D); replace HB := hS2 HB B D hb; have E := nL hg z; have J := nG hg z; replace z := kB z hb; have I := nL hg A; have L := nG hg A; replace A := kB A hb; clear hb ag hg; refine hK.out _ _ (bD3 z) (fun af => ?_); clear hK K; refine nm_ 4 ?_; exact norm_ pO (aJ (Y, ad, Z, aa, V) _ ⟨af, rQ U, rQ P, rQ O, kQ z, kQ A, kQ G, W, F, E, J, I, L, bT3 HB B D F⟩)
 intro bs; refine join_ (σ := Value × Value × Value × Nat) 4 (bl 12 1151) (fun s_ => [(8, s_.1), (11, s_.2.1), (12, s_.2.2.1), (4, .pointer (some ⟨s_.2.2.2, 0, none⟩))]) (fun s_ w' => (q_1 w') ∧ (RA Kd.string 9 w' w s_.2.1 aq) ∧ (RA Kd.bool 4 w' w s_.2.2.1 ax) ∧ (q_2 w') ∧ (q_3 w') ∧ (Aside0 (w'.heap[s_.2.2.2]? = some (.cells #[.slice none 0 0, .slice none 0 0, .slice none 0 0, .slice none 0 0] 27 (0, 0)))) ∧ (Aside0 (w.heap.size ≤ s_.2.2.2)) ∧ (Aside0 (w.heap.size ≤ s_.2.2.2)) ∧ (Aside0 (ab ≠ s_.2.2.2)) ∧ (Aside0 (s_.2.2.2 ≠ ab)) ∧ (Aside0 (ae ≠ s_.2.2.2)) ∧ (Aside0 (s_.2.2.2 ≠ ae)) ∧ BA w w') ?_ ?_
 ·clear z A HB; rintro ⟨Y, ad, Z, V⟩ bb ⟨af, U, P, z, A, G, W, F, E, J, I, L, HB⟩; (try dsimp only at af U P z A G W F E J I L HB); refine norm_ (a' := ?_) ?_ ?_; rotate_left
  ·simp only [putAll, Act.put, sA, sB, sC]
   rfl
  refine two_ (i := 7) (j := 8) (Ni := some 15) (Nj := some 16) (bl 12 1279) (bl 12 1407) rfl rfl rfl rfl (two_of am.out (by kernel_rfl)) (by decide) (by decide) (fun K hK => ?_) (fun K hK => ?_)
  ·refine Kd.R_append_rows_step Kd.bool (w0 := w) w.heap.size (by rfl) (.tmp 12) (.tmp 14) 23 4 (.bool false) 1 rfl Try.underlying23 info4 rfl (by decide) (by omega) Z ax ap _ _ _ (fun _ => True) (fun _ => False) rfl rfl ?aO ?aR (fun _ _ h => h) (fun _ h => h.elim) ?aF ?aB ?aS ?aL ?_
   (case aR => exact cO (Kd.C_below bM.out HB.out))
   (case aB => exact (bP3 HB B D F))
   (case aF => exact (fun _ _ => trivial))
   (case aO => exact (rP P))
   (case aS => exact (below_size (bP3 HB B D F)))
   (case aL => have := b9.out; omega)
   intro a6 bG ho hb hg hat; rw [← bP.out] at ho; replace z := kG z hg P; replace A := kG A hg P; replace U := aM (Kd.R_over' (rP U) (Kd.R_typed (rP P)) (by decide) hg); replace G := kG G hg P; replace HB := aM (hb); have ac := aM (ho); clear P; clear ho hb hg hat; refine hK.out _ _ (bD3 z) (fun af => ?_); clear hK K; refine nm_ 15 ?_; exact norm_ pO (br (Y, ad, Z, a6, V) _ ⟨af, rQ U, rQ ac, kQ z, kQ A, kQ G, W, F, E, J, I, L, bT3 HB B D F⟩)
  ·refine lt_ (Kd.int .i64) 3 16 ([0] : List Int) [.int .i64 0] (Reps.one (show Kd.M (Kd.int .i64) _ _ _ 0 [.int .i64 0] from rfl) (Reps.none _ _)) ?_; intro aa bG aK hb
   replace aK := nW aE aK
   replace U := rB U hb; replace P := rB P hb; have O := rW aK (bP3 HB B D F); replace z := kB z hb; replace A := kB A hb; replace G := kB G hb; replace HB := hS3 HB B D F hb; clear hb aK; refine hK.out _ _ (bD3 z) (fun af => ?_); clear hK K; refine nm_ 16 ?_; exact norm_ pO (aJ (Y, ad, Z, aa, V) _ ⟨af, rQ U, rQ P, rQ O, kQ z, kQ A, kQ G, W, F, E, J, I, L, bT3 HB B D F⟩)
 intro bf; refine join_ (σ := Value × Value × Value × Nat) 4 (bl 12 1391) (fun s_ => [(8, s_.1), (11, s_.2.1), (16, s_.2.2.1), (4, .pointer (some ⟨s_.2.2.2, 0, none⟩))]) (fun s_ w' => (q_1 w') ∧ (RA Kd.string 9 w' w s_.2.1 aq) ∧ (RA (Kd.int .i64) 3 w' w s_.2.2.1 aC) ∧ (q_2 w') ∧ (q_3 w') ∧ (Aside0 (w'.heap[s_.2.2.2]? = some (.cells #[.slice none 0 0, .slice none 0 0, .slice none 0 0, .slice none 0 0] 27 (0, 0)))) ∧ (Aside0 (w.heap.size ≤ s_.2.2.2)) ∧ (Aside0 (w.heap.size ≤ s_.2.2.2)) ∧ (Aside0 (ab ≠ s_.2.2.2)) ∧ (Aside0 (s_.2.2.2 ≠ ab)) ∧ (Aside0 (ae ≠ s_.2.2.2)) ∧ (Aside0 (s_.2.2.2 ≠ ae)) ∧ BA w w') ?_ ?_
 ·clear z A HB; rintro ⟨Y, ad, aa, V⟩ bb ⟨af, U, O, z, A, G, W, F, E, J, I, L, HB⟩; (try dsimp only at af U O z A G W F E J I L HB); refine norm_ (a' := ?_) ?_ ?_; rotate_left
  ·simp only [putAll, Act.put, sA, sB, sC]
   rfl
  refine one_ (i := 4) (N := some 12) (bl 12 1407) rfl rfl (one_of am.out (by kernel_rfl)) (by decide) (fun K hK => ?_); refine lt_ Kd.bool 4 12 ([] : List Bool) [] (Reps.none _ _) ?_; intro Z bG aK hb
  replace aK := nW aI aK
  replace U := rB U hb; replace O := rB O hb; have P := rW aK (bP3 HB B D F); replace z := kB z hb; replace A := kB A hb; replace G := kB G hb; replace HB := hS3 HB B D F hb; clear hb aK; refine hK.out _ _ (bD3 z) (fun af => ?_); clear hK K; refine nm_ 12 ?_; exact norm_ pO (aJ (Y, ad, Z, aa, V) _ ⟨af, rQ U, rQ P, rQ O, kQ z, kQ A, kQ G, W, F, E, J, I, L, bT3 HB B D F⟩)
 intro bg; refine join_ (σ := Value × Value × Value × Nat) 4 (bl 12 1399) (fun s_ => [(8, s_.1), (12, s_.2.1), (16, s_.2.2.1), (4, .pointer (some ⟨s_.2.2.2, 0, none⟩))]) (fun s_ w' => (q_1 w') ∧ (RA Kd.string 9 w' w s_.1 aD) ∧ (RA Kd.bool 4 w' w s_.2.1 ax) ∧ (RA (Kd.int .i64) 3 w' w s_.2.2.1 aC) ∧ (q_2 w') ∧ (q_3 w') ∧ (Aside0 (w'.heap[s_.2.2.2]? = some (.cells #[.slice none 0 0, .slice none 0 0, .slice none 0 0, .slice none 0 0] 27 (0, 0)))) ∧ (Aside0 (w.heap.size ≤ s_.2.2.2)) ∧ (Aside0 (w.heap.size ≤ s_.2.2.2)) ∧ (Aside0 (ab ≠ s_.2.2.2)) ∧ (Aside0 (s_.2.2.2 ≠ ab)) ∧ (Aside0 (ae ≠ s_.2.2.2)) ∧ (Aside0 (s_.2.2.2 ≠ ae)) ∧ BA w w') ?_ ?_
 ·clear z A HB; rintro ⟨Y, Z, aa, V⟩ bG ⟨af, Q, P, O, z, A, G, W, F, E, J, I, L, HB⟩; (try dsimp only at af Q P O z A G W F E J I L HB); refine norm_ (a' := ?_) ?_ ?_; rotate_left
  ·simp only [putAll, Act.put, sA, sB, sC]
   rfl
  refine one_ (i := 3) (N := some 11) (bl 12 1407) rfl rfl (one_of am.out (by kernel_rfl)) (by decide) (fun K hK => ?_); refine Kd.R_append_rows_step Kd.string (w0 := w) w.heap.size (by rfl) (.tmp 8) (.tmp 10) 22 9 (.string ⟨#[]⟩) 16 rfl Try.underlying22 info9 rfl (by decide) (by omega) Y aD al _ _ _ (fun _ => True) (fun _ => False) rfl rfl ?aO ?aR (fun _ _ h => h) (fun _ h => h.elim) ?aF ?aB ?aS ?aL ?_
  (case aR => exact cO (Kd.C_below aY.out HB.out))
  (case aB => exact (bP3 HB B D F))
  (case aF => exact (fun _ _ => trivial))
  (case aO => exact (rP Q))
  (case aS => exact (below_size (bP3 HB B D F)))
  (case aL => have := bn.out; omega)
  intro ad cA ho hb hg hat; rw [← a3.out] at ho; replace z := kG z hg Q; replace A := kG A hg Q; replace P := aM (Kd.R_over' (rP P) (Kd.R_typed (rP Q)) (by decide) hg); replace O := aM (Kd.R_over' (rP O) (Kd.R_typed (rP Q)) (by decide) hg); replace G := kG G hg Q; replace HB := aM (hb); have U := aM (ho); clear Q; clear ho hb hg hat; refine hK.out _ _ (bD3 z) (fun af => ?_); clear hK K; refine nm_ 11 ?_; exact norm_ pO (aJ (Y, ad, Z, aa, V) _ ⟨af, rQ U, rQ P, rQ O, kQ z, kQ A, kQ G, W, F, E, J, I, L, bT3 HB B D F⟩)
 intro aV; refine join_ (σ := Value × Value × Value) 5 (bl 12 127) (fun s_ => [(8, s_.1), (11, s_.2.1), (12, s_.2.2)]) (fun s_ w' => (q_1 w') ∧ (RA Kd.string 9 w' w s_.2.1 aq) ∧ (RA Kd.bool 4 w' w s_.2.2 ax) ∧ (q_2 w') ∧ (q_3 w') ∧ BA w w') ?_ ?_
 ·clear z A HB; rintro ⟨Y, ad, Z⟩ a4 ⟨af, U, P, z, A, HB⟩; (try dsimp only at af U P z A HB); refine norm_ (a' := ?_) ?_ ?_; rotate_left
  ·simp only [putAll, Act.put, sA, sB, sC]
   rfl
  refine three_ (i := 7) (j := 8) (k := 10) (Ni := some 15) (Nj := some 16) (Nk := some 4) (bl 12 255) (bl 12 383) (bl 12 1151) rfl rfl rfl rfl rfl rfl (three_of am.out (by kernel_rfl)) (by decide) (by decide) (by decide) (fun K hK => ?_) (fun K hK => ?_) (fun K hK => ?_)
  ·refine Kd.R_append_rows_step Kd.bool (w0 := w) w.heap.size (by rfl) (.tmp 12) (.tmp 14) 23 4 (.bool false) 1 rfl Try.underlying23 info4 rfl (by decide) (by omega) Z ax ap _ _ _ (fun _ => True) (fun _ => False) rfl rfl ?aO ?aR (fun _ _ h => h) (fun _ h => h.elim) ?aF ?aB ?aS ?aL ?_
   (case aR => exact cO (Kd.C_below bM.out HB.out))
   (case aB => exact (bP2 HB B D))
   (case aF => exact (fun _ _ => trivial))
   (case aO => exact (rP P))
   (case aS => exact (below_size (bP2 HB B D)))
   (case aL => have := b9.out; omega)
   intro a6 bb ho hb hg hat; rw [← bP.out] at ho; replace z := kG z hg P; replace A := kG A hg P; replace U := aM (Kd.R_over' (rP U) (Kd.R_typed (rP P)) (by decide) hg); replace HB := aM (hb); have ac := aM (ho); clear P; clear ho hb hg hat; refine hK.out _ _ (bD3 z) (fun af => ?_); clear hK K; refine nm_ 15 ?_; exact norm_ pO (cd (Y, ad, Z, a6) _ ⟨af, rQ U, rQ ac, kQ z, kQ A, bT2 HB B D⟩)
  ·refine lt_ (Kd.int .i64) 3 16 ([0] : List Int) [.int .i64 0] (Reps.one (show Kd.M (Kd.int .i64) _ _ _ 0 [.int .i64 0] from rfl) (Reps.none _ _)) ?_; intro aa bb ar hb
   replace ar := nW aE ar
   replace U := rB U hb; replace P := rB P hb; have O := rW ar (bP2 HB B D); replace z := kB z hb; replace A := kB A hb; replace HB := hS2 HB B D hb; clear hb ar; refine hK.out _ _ (bD3 z) (fun af => ?_); clear hK K; refine nm_ 16 ?_; exact norm_ pO (bs (Y, ad, Z, aa) _ ⟨af, rQ U, rQ P, rQ O, kQ z, kQ A, bT2 HB B D⟩)
  ·refine bs_ (cs := #[.slice none 0 0, .slice none 0 0, .slice none 0 0, .slice none 0 0]) (t := 27) ?_; intro V hg bb ag hb; replace U := rB U hb; replace P := rB P hb; have G := aM (ag); have W := gE hg (bP2 HB B D); have F := gE hg (bP2 HB B D); replace HB := hS2 HB B D hb; have E := nL hg z; have J := nG hg z; replace z := kB z hb; have I := nL hg A; have L := nG hg A; replace A := kB A hb; clear hb ag hg; refine hK.out _ _ (bD3 z) (fun af => ?_); clear hK K; refine nm_ 4 ?_; exact norm_ pO (bf (Y, ad, Z, V) _ ⟨af, rQ U, rQ P, kQ z, kQ A, kQ G, W, F, E, J, I, L, bT3 HB B D F⟩)
 intro b5; refine join_ (σ := Value × Value × Value) 5 (bl 12 367) (fun s_ => [(8, s_.1), (11, s_.2.1), (16, s_.2.2)]) (fun s_ w' => (q_1 w') ∧ (RA Kd.string 9 w' w s_.2.1 aq) ∧ (RA (Kd.int .i64) 3 w' w s_.2.2 aC) ∧ (q_2 w') ∧ (q_3 w') ∧ BA w w') ?_ ?_
 ·clear z A HB; rintro ⟨Y, ad, aa⟩ a4 ⟨af, U, O, z, A, HB⟩; (try dsimp only at af U O z A HB); refine norm_ (a' := ?_) ?_ ?_; rotate_left
  ·simp only [putAll, Act.put, sA, sB, sC]
   rfl
  refine two_ (i := 4) (j := 10) (Ni := some 12) (Nj := some 4) (bl 12 383) (bl 12 1391) rfl rfl rfl rfl (two_of am.out (by kernel_rfl)) (by decide) (by decide) (fun K hK => ?_) (fun K hK => ?_)
  ·refine lt_ Kd.bool 4 12 ([] : List Bool) [] (Reps.none _ _) ?_; intro Z bb ar hb
   replace ar := nW aI ar
   replace U := rB U hb; replace O := rB O hb; have P := rW ar (bP2 HB B D); replace z := kB z hb; replace A := kB A hb; replace HB := hS2 HB B D hb; clear hb ar; refine hK.out _ _ (bD3 z) (fun af => ?_); clear hK K; refine nm_ 12 ?_; exact norm_ pO (bs (Y, ad, Z, aa) _ ⟨af, rQ U, rQ P, rQ O, kQ z, kQ A, bT2 HB B D⟩)
  ·refine bs_ (cs := #[.slice none 0 0, .slice none 0 0, .slice none 0 0, .slice none 0 0]) (t := 27) ?_; intro V hg bb ag hb; replace U := rB U hb; replace O := rB O hb; have G := aM (ag); have W := gE hg (bP2 HB B D); have F := gE hg (bP2 HB B D); replace HB := hS2 HB B D hb; have E := nL hg z; have J := nG hg z; replace z := kB z hb; have I := nL hg A; have L := nG hg A; replace A := kB A hb; clear hb ag hg; refine hK.out _ _ (bD3 z) (fun af => ?_); clear hK K; refine nm_ 4 ?_; exact norm_ pO (bg (Y, ad, aa, V) _ ⟨af, rQ U, rQ O, kQ z, kQ A, kQ G, W, F, E, J, I, L, bT3 HB B D F⟩)
 intro b6; refine join_ (σ := Value × Value × Nat) 5 (bl 12 1135) (fun s_ => [(8, s_.1), (11, s_.2.1), (4, .pointer (some ⟨s_.2.2, 0, none⟩))]) (fun s_ w' => (q_1 w') ∧ (RA Kd.string 9 w' w s_.2.1 aq) ∧ (q_2 w') ∧ (q_3 w') ∧ (Aside0 (w'.heap[s_.2.2]? = some (.cells #[.slice none 0 0, .slice none 0 0, .slice none 0 0, .slice none 0 0] 27 (0, 0)))) ∧ (Aside0 (w.heap.size ≤ s_.2.2)) ∧ (Aside0 (w.heap.size ≤ s_.2.2)) ∧ (Aside0 (ab ≠ s_.2.2)) ∧ (Aside0 (s_.2.2 ≠ ab)) ∧ (Aside0 (ae ≠ s_.2.2)) ∧ (Aside0 (s_.2.2 ≠ ae)) ∧ BA w w') ?_ ?_
 ·clear z A HB; rintro ⟨Y, ad, V⟩ bc ⟨af, U, z, A, G, W, F, E, J, I, L, HB⟩; (try dsimp only at af U z A G W F E J I L HB); refine norm_ (a' := ?_) ?_ ?_; rotate_left
  ·simp only [putAll, Act.put, sA, sB, sC]
   rfl
  refine two_ (i := 4) (j := 8) (Ni := some 12) (Nj := some 16) (bl 12 1151) (bl 12 1391) rfl rfl rfl rfl (two_of am.out (by kernel_rfl)) (by decide) (by decide) (fun K hK => ?_) (fun K hK => ?_)
  ·refine lt_ Kd.bool 4 12 ([] : List Bool) [] (Reps.none _ _) ?_; intro Z a4 au hb
   replace au := nW aI au
   replace U := rB U hb; have P := rW au (bP3 HB B D F); replace z := kB z hb; replace A := kB A hb; replace G := kB G hb; replace HB := hS3 HB B D F hb; clear hb au; refine hK.out _ _ (bD3 z) (fun af => ?_); clear hK K; refine nm_ 12 ?_; exact norm_ pO (bf (Y, ad, Z, V) _ ⟨af, rQ U, rQ P, kQ z, kQ A, kQ G, W, F, E, J, I, L, bT3 HB B D F⟩)
  ·refine lt_ (Kd.int .i64) 3 16 ([0] : List Int) [.int .i64 0] (Reps.one (show Kd.M (Kd.int .i64) _ _ _ 0 [.int .i64 0] from rfl) (Reps.none _ _)) ?_; intro aa a4 au hb
   replace au := nW aE au
   replace U := rB U hb; have O := rW au (bP3 HB B D F); replace z := kB z hb; replace A := kB A hb; replace G := kB G hb; replace HB := hS3 HB B D F hb; clear hb au; refine hK.out _ _ (bD3 z) (fun af => ?_); clear hK K; refine nm_ 16 ?_; exact norm_ pO (bg (Y, ad, aa, V) _ ⟨af, rQ U, rQ O, kQ z, kQ A, kQ G, W, F, E, J, I, L, bT3 HB B D F⟩)
 intro b2; refine join_ (σ := Value × Value × Value) 5 (bl 12 375) (fun s_ => [(8, s_.1), (12, s_.2.1), (16, s_.2.2)]) (fun s_ w' => (q_1 w') ∧ (RA Kd.string 9 w' w s_.1 aD) ∧ (RA Kd.bool 4 w' w s_.2.1 ax) ∧ (RA (Kd.int .i64) 3 w' w s_.2.2 aC) ∧ (q_2 w') ∧ (q_3 w') ∧ BA w w') ?_ ?_
 ·clear z A HB; rintro ⟨Y, Z, aa⟩ bb ⟨af, Q, P, O, z, A, HB⟩; (try dsimp only at af Q P O z A HB); refine norm_ (a' := ?_) ?_ ?_; rotate_left
  ·simp only [putAll, Act.put, sA, sB, sC]
   rfl
  refine two_ (i := 3) (j := 10) (Ni := some 11) (Nj := some 4) (bl 12 383) (bl 12 1399) rfl rfl rfl rfl (two_of am.out (by kernel_rfl)) (by decide) (by decide) (fun K hK => ?_) (fun K hK => ?_)
  ·refine Kd.R_append_rows_step Kd.string (w0 := w) w.heap.size (by rfl) (.tmp 8) (.tmp 10) 22 9 (.string ⟨#[]⟩) 16 rfl Try.underlying22 info9 rfl (by decide) (by omega) Y aD al _ _ _ (fun _ => True) (fun _ => False) rfl rfl ?aO ?aR (fun _ _ h => h) (fun _ h => h.elim) ?aF ?aB ?aS ?aL ?_
   (case aR => exact cO (Kd.C_below aY.out HB.out))
   (case aB => exact (bP2 HB B D))
   (case aF => exact (fun _ _ => trivial))
   (case aO => exact (rP Q))
   (case aS => exact (below_size (bP2 HB B D)))
   (case aL => have := bn.out; omega)
   intro ad bG ho hb hg hat; rw [← a3.out] at ho; replace z := kG z hg Q; replace A := kG A hg Q; replace P := aM (Kd.R_over' (rP P) (Kd.R_typed (rP Q)) (by decide) hg); replace O := aM (Kd.R_over' (rP O) (Kd.R_typed (rP Q)) (by decide) hg); replace HB := aM (hb); have U := aM (ho); clear Q; clear ho hb hg hat; refine hK.out _ _ (bD3 z) (fun af => ?_); clear hK K; refine nm_ 11 ?_; exact norm_ pO (bs (Y, ad, Z, aa) _ ⟨af, rQ U, rQ P, rQ O, kQ z, kQ A, bT2 HB B D⟩)
  ·refine bs_ (cs := #[.slice none 0 0, .slice none 0 0, .slice none 0 0, .slice none 0 0]) (t := 27) ?_; intro V hg bG ag hb; replace Q := rB Q hb; replace P := rB P hb; replace O := rB O hb; have G := aM (ag); have W := gE hg (bP2 HB B D); have F := gE hg (bP2 HB B D); replace HB := hS2 HB B D hb; have E := nL hg z; have J := nG hg z; replace z := kB z hb; have I := nL hg A; have L := nG hg A; replace A := kB A hb; clear hb ag hg; refine hK.out _ _ (bD3 z) (fun af => ?_); clear hK K; refine nm_ 4 ?_; exact norm_ pO (aV (Y, Z, aa, V) _ ⟨af, rQ Q, rQ P, rQ O, kQ z, kQ A, kQ G, W, F, E, J, I, L, bT3 HB B D F⟩)
 intro bL; refine join_ (σ := Value × Value × Nat) 5 (bl 12 1143) (fun s_ => [(8, s_.1), (12, s_.2.1), (4, .pointer (some ⟨s_.2.2, 0, none⟩))]) (fun s_ w' => (q_1 w') ∧ (RA Kd.string 9 w' w s_.1 aD) ∧ (RA Kd.bool 4 w' w s_.2.1 ax) ∧ (q_2 w') ∧ (q_3 w') ∧ (Aside0 (w'.heap[s_.2.2]? = some (.cells #[.slice none 0 0, .slice none 0 0, .slice none 0 0, .slice none 0 0] 27 (0, 0)))) ∧ (Aside0 (w.heap.size ≤ s_.2.2)) ∧ (Aside0 (w.heap.size ≤ s_.2.2)) ∧ (Aside0 (ab ≠ s_.2.2)) ∧ (Aside0 (s_.2.2 ≠ ab)) ∧ (Aside0 (ae ≠ s_.2.2)) ∧ (Aside0 (s_.2.2 ≠ ae)) ∧ BA w w') ?_ ?_
 ·clear z A HB; rintro ⟨Y, Z, V⟩ a4 ⟨af, Q, P, z, A, G, W, F, E, J, I, L, HB⟩; (try dsimp only at af Q P z A G W F E J I L HB); refine norm_ (a' := ?_) ?_ ?_; rotate_left
  ·simp only [putAll, Act.put, sA, sB, sC]
   rfl
  refine two_ (i := 3) (j := 8) (Ni := some 11) (Nj := some 16) (bl 12 1151) (bl 12 1399) rfl rfl rfl rfl (two_of am.out (by kernel_rfl)) (by decide) (by decide) (fun K hK => ?_) (fun K hK => ?_)
  ·refine Kd.R_append_rows_step Kd.string (w0 := w) w.heap.size (by rfl) (.tmp 8) (.tmp 10) 22 9 (.string ⟨#[]⟩) 16 rfl Try.underlying22 info9 rfl (by decide) (by omega) Y aD al _ _ _ (fun _ => True) (fun _ => False) rfl rfl ?aO ?aR (fun _ _ h => h) (fun _ h => h.elim) ?aF ?aB ?aS ?aL ?_
   (case aR => exact cO (Kd.C_below aY.out HB.out))
   (case aB => exact (bP3 HB B D F))
   (case aF => exact (fun _ _ => trivial))
   (case aO => exact (rP Q))
   (case aS => exact (below_size (bP3 HB B D F)))
   (case aL => have := bn.out; omega)
   intro ad bb ho hb hg hat; rw [← a3.out] at ho; replace z := kG z hg Q; replace A := kG A hg Q; replace P := aM (Kd.R_over' (rP P) (Kd.R_typed (rP Q)) (by decide) hg); replace G := kG G hg Q; replace HB := aM (hb); have U := aM (ho); clear Q; clear ho hb hg hat; refine hK.out _ _ (bD3 z) (fun af => ?_); clear hK K; refine nm_ 11 ?_; exact norm_ pO (bf (Y, ad, Z, V) _ ⟨af, rQ U, rQ P, kQ z, kQ A, kQ G, W, F, E, J, I, L, bT3 HB B D F⟩)
  ·refine lt_ (Kd.int .i64) 3 16 ([0] : List Int) [.int .i64 0] (Reps.one (show Kd.M (Kd.int .i64) _ _ _ 0 [.int .i64 0] from rfl) (Reps.none _ _)) ?_; intro aa bb ar hb
   replace ar := nW aE ar
   replace Q := rB Q hb; replace P := rB P hb; have O := rW ar (bP3 HB B D F); replace z := kB z hb; replace A := kB A hb; replace G := kB G hb; replace HB := hS3 HB B D F hb; clear hb ar; refine hK.out _ _ (bD3 z) (fun af => ?_); clear hK K; refine nm_ 16 ?_; exact norm_ pO (aV (Y, Z, aa, V) _ ⟨af, rQ Q, rQ P, rQ O, kQ z, kQ A, kQ G, W, F, E, J, I, L, bT3 HB B D F⟩)
 intro bD; refine join_ (σ := Value × Value × Nat) 5 (bl 12 1383) (fun s_ => [(8, s_.1), (16, s_.2.1), (4, .pointer (some ⟨s_.2.2, 0, none⟩))]) (fun s_ w' => (q_1 w') ∧ (RA Kd.string 9 w' w s_.1 aD) ∧ (RA (Kd.int .i64) 3 w' w s_.2.1 aC) ∧ (q_2 w') ∧ (q_3 w') ∧ (Aside0 (w'.heap[s_.2.2]? = some (.cells #[.slice none 0 0, .slice none 0 0, .slice none 0 0, .slice none 0 0] 27 (0, 0)))) ∧ (Aside0 (w.heap.size ≤ s_.2.2)) ∧ (Aside0 (w.heap.size ≤ s_.2.2)) ∧ (Aside0 (ab ≠ s_.2.2)) ∧ (Aside0 (s_.2.2 ≠ ab)) ∧ (Aside0 (ae ≠ s_.2.2)) ∧ (Aside0 (s_.2.2 ≠ ae)) ∧ BA w w') ?_ ?_
 ·clear z A HB; rintro ⟨Y, aa, V⟩ a4 ⟨af, Q, O, z, A, G, W, F, E, J, I, L, HB⟩; (try dsimp only at af Q O z A G W F E J I L HB); refine norm_ (a' := ?_) ?_ ?_; rotate_left
  ·simp only [putAll, Act.put, sA, sB, sC]
   rfl
  refine two_ (i := 3) (j := 4) (Ni := some 11) (Nj := some 12) (bl 12 1391) (bl 12 1399) rfl rfl rfl rfl (two_of am.out (by kernel_rfl)) (by decide) (by decide) (fun K hK => ?_) (fun K hK => ?_)
  ·refine Kd.R_append_rows_step Kd.string (w0 := w) w.heap.size (by rfl) (.tmp 8) (.tmp 10) 22 9 (.string ⟨#[]⟩) 16 rfl Try.underlying22 info9 rfl (by decide) (by omega) Y aD al _ _ _ (fun _ => True) (fun _ => False) rfl rfl ?aO ?aR (fun _ _ h => h) (fun _ h => h.elim) ?aF ?aB ?aS ?aL ?_
   (case aR => exact cO (Kd.C_below aY.out HB.out))
   (case aB => exact (bP3 HB B D F))
   (case aF => exact (fun _ _ => trivial))
   (case aO => exact (rP Q))
   (case aS => exact (below_size (bP3 HB B D F)))
   (case aL => have := bn.out; omega)
   intro ad bb ho hb hg hat; rw [← a3.out] at ho; replace z := kG z hg Q; replace A := kG A hg Q; replace O := aM (Kd.R_over' (rP O) (Kd.R_typed (rP Q)) (by decide) hg); replace G := kG G hg Q; replace HB := aM (hb); have U := aM (ho); clear Q; clear ho hb hg hat; refine hK.out _ _ (bD3 z) (fun af => ?_); clear hK K; refine nm_ 11 ?_; exact norm_ pO (bg (Y, ad, aa, V) _ ⟨af, rQ U, rQ O, kQ z, kQ A, kQ G, W, F, E, J, I, L, bT3 HB B D F⟩)
  ·refine lt_ Kd.bool 4 12 ([] : List Bool) [] (Reps.none _ _) ?_; intro Z bb ar hb
   replace ar := nW aI ar
   replace Q := rB Q hb; replace O := rB O hb; have P := rW ar (bP3 HB B D F); replace z := kB z hb; replace A := kB A hb; replace G := kB G hb; replace HB := hS3 HB B D F hb; clear hb ar; refine hK.out _ _ (bD3 z) (fun af => ?_); clear hK K; refine nm_ 12 ?_; exact norm_ pO (aV (Y, Z, aa, V) _ ⟨af, rQ Q, rQ P, rQ O, kQ z, kQ A, kQ G, W, F, E, J, I, L, bT3 HB B D F⟩)
 intro bE; refine join_ (σ := Value × Value × Nat) 5 (bl 12 1398) (fun s_ => [(12, s_.1), (16, s_.2.1), (4, .pointer (some ⟨s_.2.2, 0, none⟩))]) (fun s_ w' => (q_1 w') ∧ (RA Kd.bool 4 w' w s_.1 ax) ∧ (RA (Kd.int .i64) 3 w' w s_.2.1 aC) ∧ (q_2 w') ∧ (q_3 w') ∧ (Aside0 (w'.heap[s_.2.2]? = some (.cells #[.slice none 0 0, .slice none 0 0, .slice none 0 0, .slice none 0 0] 27 (0, 0)))) ∧ (Aside0 (w.heap.size ≤ s_.2.2)) ∧ (Aside0 (w.heap.size ≤ s_.2.2)) ∧ (Aside0 (ab ≠ s_.2.2)) ∧ (Aside0 (s_.2.2 ≠ ab)) ∧ (Aside0 (ae ≠ s_.2.2)) ∧ (Aside0 (s_.2.2 ≠ ae)) ∧ BA w w') ?_ ?_
 ·clear z A HB; rintro ⟨Z, aa, V⟩ a4 ⟨af, P, O, z, A, G, W, F, E, J, I, L, HB⟩; (try dsimp only at af P O z A G W F E J I L HB); refine norm_ (a' := ?_) ?_ ?_; rotate_left
  ·simp only [putAll, Act.put, sA, sB, sC]
   rfl
  refine one_ (i := 0) (N := some 8) (bl 12 1399) rfl rfl (one_of am.out (by kernel_rfl)) (by decide) (fun K hK => ?_); refine lt_ Kd.string 9 8 ([] : List ByteArray) [] (Reps.none _ _) ?_; intro Y bb ar hb
  replace ar := nW aZ ar
  replace P := rB P hb; replace O := rB O hb; have Q := rW ar (bP3 HB B D F); replace z := kB z hb; replace A := kB A hb; replace G := kB G hb; replace HB := hS3 HB B D F hb; clear hb ar; refine hK.out _ _ (bD3 z) (fun af => ?_); clear hK K; refine nm_ 8 ?_; exact norm_ pO (aV (Y, Z, aa, V) _ ⟨af, rQ Q, rQ P, rQ O, kQ z, kQ A, kQ G, W, F, E, J, I, L, bT3 HB B D F⟩)
 intro bF; refine join_ (σ := Value × Value) 6 (bl 12 111) (fun s_ => [(8, s_.1), (11, s_.2)]) (fun s_ w' => (q_1 w') ∧ (RA Kd.string 9 w' w s_.2 aq) ∧ (q_2 w') ∧ (q_3 w') ∧ BA w w') ?_ ?_
 ·clear z A HB; rintro ⟨Y, ad⟩ bd ⟨af, U, z, A, HB⟩; (try dsimp only at af U z A HB); refine norm_ (a' := ?_) ?_ ?_; rotate_left
  ·simp only [putAll, Act.put, sA, sB, sC]
   rfl
  refine three_ (i := 4) (j := 8) (k := 10) (Ni := some 12) (Nj := some 16) (Nk := some 4) (bl 12 127) (bl 12 367) (bl 12 1135) rfl rfl rfl rfl rfl rfl (three_of am.out (by kernel_rfl)) (by decide) (by decide) (by decide) (fun K hK => ?_) (fun K hK => ?_) (fun K hK => ?_)
  ·refine lt_ Kd.bool 4 12 ([] : List Bool) [] (Reps.none _ _) ?_; intro Z bc ai hb
   replace ai := nW aI ai
   replace U := rB U hb; have P := rW ai (bP2 HB B D); replace z := kB z hb; replace A := kB A hb; replace HB := hS2 HB B D hb; clear hb ai; refine hK.out _ _ (bD3 z) (fun af => ?_); clear hK K; refine nm_ 12 ?_; exact norm_ pO (b5 (Y, ad, Z) _ ⟨af, rQ U, rQ P, kQ z, kQ A, bT2 HB B D⟩)
  ·refine lt_ (Kd.int .i64) 3 16 ([0] : List Int) [.int .i64 0] (Reps.one (show Kd.M (Kd.int .i64) _ _ _ 0 [.int .i64 0] from rfl) (Reps.none _ _)) ?_; intro aa bc ai hb
   replace ai := nW aE ai
   replace U := rB U hb; have O := rW ai (bP2 HB B D); replace z := kB z hb; replace A := kB A hb; replace HB := hS2 HB B D hb; clear hb ai; refine hK.out _ _ (bD3 z) (fun af => ?_); clear hK K; refine nm_ 16 ?_; exact norm_ pO (b6 (Y, ad, aa) _ ⟨af, rQ U, rQ O, kQ z, kQ A, bT2 HB B D⟩)
  ·refine bs_ (cs := #[.slice none 0 0, .slice none 0 0, .slice none 0 0, .slice none 0 0]) (t := 27) ?_; intro V hg bc ag hb; replace U := rB U hb; have G := aM (ag); have W := gE hg (bP2 HB B D); have F := gE hg (bP2 HB B D); replace HB := hS2 HB B D hb; have E := nL hg z; have J := nG hg z; replace z := kB z hb; have I := nL hg A; have L := nG hg A; replace A := kB A hb; clear hb ag hg; refine hK.out _ _ (bD3 z) (fun af => ?_); clear hK K; refine nm_ 4 ?_; exact norm_ pO (b2 (Y, ad, V) _ ⟨af, rQ U, kQ z, kQ A, kQ G, W, F, E, J, I, L, bT3 HB B D F⟩)
 intro c4; refine join_ (σ := Value × Value) 6 (bl 12 119) (fun s_ => [(8, s_.1), (12, s_.2)]) (fun s_ w' => (q_1 w') ∧ (RA Kd.string 9 w' w s_.1 aD) ∧ (RA Kd.bool 4 w' w s_.2 ax) ∧ (q_2 w') ∧ (q_3 w') ∧ BA w w') ?_ ?_
 ·clear z A HB; rintro ⟨Y, Z⟩ bc ⟨af, Q, P, z, A, HB⟩; (try dsimp only at af Q P z A HB); refine norm_ (a' := ?_) ?_ ?_; rotate_left
  ·simp only [putAll, Act.put, sA, sB, sC]
   rfl
  refine three_ (i := 3) (j := 8) (k := 10) (Ni := some 11) (Nj := some 16) (Nk := some 4) (bl 12 127) (bl 12 375) (bl 12 1143) rfl rfl rfl rfl rfl rfl (three_of am.out (by kernel_rfl)) (by decide) (by decide) (by decide) (fun K hK => ?_) (fun K hK => ?_) (fun K hK => ?_)
  ·refine Kd.R_append_rows_step Kd.string (w0 := w) w.heap.size (by rfl) (.tmp 8) (.tmp 10) 22 9 (.string ⟨#[]⟩) 16 rfl Try.underlying22 info9 rfl (by decide) (by omega) Y aD al _ _ _ (fun _ => True) (fun _ => False) rfl rfl ?aO ?aR (fun _ _ h => h) (fun _ h => h.elim) ?aF ?aB ?aS ?aL ?_
   (case aR => exact cO (Kd.C_below aY.out HB.out))
   (case aB => exact (bP2 HB B D))
   (case aF => exact (fun _ _ => trivial))
   (case aO => exact (rP Q))
   (case aS => exact (below_size (bP2 HB B D)))
   (case aL => have := bn.out; omega)
   intro ad a4 ho hb hg hat; rw [← a3.out] at ho; replace z := kG z hg Q; replace A := kG A hg Q; replace P := aM (Kd.R_over' (rP P) (Kd.R_typed (rP Q)) (by decide) hg); replace HB := aM (hb); have U := aM (ho); clear Q; clear ho hb hg hat; refine hK.out _ _ (bD3 z) (fun af => ?_); clear hK K; refine nm_ 11 ?_; exact norm_ pO (b5 (Y, ad, Z) _ ⟨af, rQ U, rQ P, kQ z, kQ A, bT2 HB B D⟩)
  ·refine lt_ (Kd.int .i64) 3 16 ([0] : List Int) [.int .i64 0] (Reps.one (show Kd.M (Kd.int .i64) _ _ _ 0 [.int .i64 0] from rfl) (Reps.none _ _)) ?_; intro aa a4 au hb
   replace au := nW aE au
   replace Q := rB Q hb; replace P := rB P hb; have O := rW au (bP2 HB B D); replace z := kB z hb; replace A := kB A hb; replace HB := hS2 HB B D hb; clear hb au; refine hK.out _ _ (bD3 z) (fun af => ?_); clear hK K; refine nm_ 16 ?_; exact norm_ pO (bL (Y, Z, aa) _ ⟨af, rQ Q, rQ P, rQ O, kQ z, kQ A, bT2 HB B D⟩)
  ·refine bs_ (cs := #[.slice none 0 0, .slice none 0 0, .slice none 0 0, .slice none 0 0]) (t := 27) ?_; intro V hg a4 ag hb; replace Q := rB Q hb; replace P := rB P hb; have G := aM (ag); have W := gE hg (bP2 HB B D); have F := gE hg (bP2 HB B D); replace HB := hS2 HB B D hb; have E := nL hg z; have J := nG hg z; replace z := kB z hb; have I := nL hg A; have L := nG hg A; replace A := kB A hb; clear hb ag hg; refine hK.out _ _ (bD3 z) (fun af => ?_); clear hK K; refine nm_ 4 ?_; exact norm_ pO (bD (Y, Z, V) _ ⟨af, rQ Q, rQ P, kQ z, kQ A, kQ G, W, F, E, J, I, L, bT3 HB B D F⟩)
 intro cC; refine join_ (σ := Value × Value) 6 (bl 12 359) (fun s_ => [(8, s_.1), (16, s_.2)]) (fun s_ w' => (q_1 w') ∧ (RA Kd.string 9 w' w s_.1 aD) ∧ (RA (Kd.int .i64) 3 w' w s_.2 aC) ∧ (q_2 w') ∧ (q_3 w') ∧ BA w w') ?_ ?_
 ·clear z A HB; rintro ⟨Y, aa⟩ bc ⟨af, Q, O, z, A, HB⟩; (try dsimp only at af Q O z A HB); refine norm_ (a' := ?_) ?_ ?_; rotate_left
  ·simp only [putAll, Act.put, sA, sB, sC]
   rfl
  refine three_ (i := 3) (j := 4) (k := 10) (Ni := some 11) (Nj := some 12) (Nk := some 4) (bl 12 367) (bl 12 375) (bl 12 1383) rfl rfl rfl rfl rfl rfl (three_of am.out (by kernel_rfl)) (by decide) (by decide) (by decide) (fun K hK => ?_) (fun K hK => ?_) (fun K hK => ?_)
  ·refine Kd.R_append_rows_step Kd.string (w0 := w) w.heap.size (by rfl) (.tmp 8) (.tmp 10) 22 9 (.string ⟨#[]⟩) 16 rfl Try.underlying22 info9 rfl (by decide) (by omega) Y aD al _ _ _ (fun _ => True) (fun _ => False) rfl rfl ?aO ?aR (fun _ _ h => h) (fun _ h => h.elim) ?aF ?aB ?aS ?aL ?_
   (case aR => exact cO (Kd.C_below aY.out HB.out))
   (case aB => exact (bP2 HB B D))
   (case aF => exact (fun _ _ => trivial))
   (case aO => exact (rP Q))
   (case aS => exact (below_size (bP2 HB B D)))
   (case aL => have := bn.out; omega)
   intro ad a4 ho hb hg hat; rw [← a3.out] at ho; replace z := kG z hg Q; replace A := kG A hg Q; replace O := aM (Kd.R_over' (rP O) (Kd.R_typed (rP Q)) (by decide) hg); replace HB := aM (hb); have U := aM (ho); clear Q; clear ho hb hg hat; refine hK.out _ _ (bD3 z) (fun af => ?_); clear hK K; refine nm_ 11 ?_; exact norm_ pO (b6 (Y, ad, aa) _ ⟨af, rQ U, rQ O, kQ z, kQ A, bT2 HB B D⟩)
  ·refine lt_ Kd.bool 4 12 ([] : List Bool) [] (Reps.none _ _) ?_; intro Z a4 au hb
   replace au := nW aI au
   replace Q := rB Q hb; replace O := rB O hb; have P := rW au (bP2 HB B D); replace z := kB z hb; replace A := kB A hb; replace HB := hS2 HB B D hb; clear hb au; refine hK.out _ _ (bD3 z) (fun af => ?_); clear hK K; refine nm_ 12 ?_; exact norm_ pO (bL (Y, Z, aa) _ ⟨af, rQ Q, rQ P, rQ O, kQ z, kQ A, bT2 HB B D⟩)
  ·refine bs_ (cs := #[.slice none 0 0, .slice none 0 0, .slice none 0 0, .slice none 0 0]) (t := 27) ?_; intro V hg a4 ag hb; replace Q := rB Q hb; replace O := rB O hb; have G := aM (ag); have W := gE hg (bP2 HB B D); have F := gE hg (bP2 HB B D); replace HB := hS2 HB B D hb; have E := nL hg z; have J := nG hg z; replace z := kB z hb; have I := nL hg A; have L := nG hg A; replace A := kB A hb; clear hb ag hg; refine hK.out _ _ (bD3 z) (fun af => ?_); clear hK K; refine nm_ 4 ?_; exact norm_ pO (bE (Y, aa, V) _ ⟨af, rQ Q, rQ O, kQ z, kQ A, kQ G, W, F, E, J, I, L, bT3 HB B D F⟩)
 intro cD; refine join_ (σ := Value × Nat) 6 (bl 12 1127) (fun s_ => [(8, s_.1), (4, .pointer (some ⟨s_.2, 0, none⟩))]) (fun s_ w' => (q_1 w') ∧ (RA Kd.string 9 w' w s_.1 aD) ∧ (q_2 w') ∧ (q_3 w') ∧ (Aside0 (w'.heap[s_.2]? = some (.cells #[.slice none 0 0, .slice none 0 0, .slice none 0 0, .slice none 0 0] 27 (0, 0)))) ∧ (Aside0 (w.heap.size ≤ s_.2)) ∧ (Aside0 (w.heap.size ≤ s_.2)) ∧ (Aside0 (ab ≠ s_.2)) ∧ (Aside0 (s_.2 ≠ ab)) ∧ (Aside0 (ae ≠ s_.2)) ∧ (Aside0 (s_.2 ≠ ae)) ∧ BA w w') ?_ ?_
 ·clear z A HB; rintro ⟨Y, V⟩ bd ⟨af, Q, z, A, G, W, F, E, J, I, L, HB⟩; (try dsimp only at af Q z A G W F E J I L HB); refine norm_ (a' := ?_) ?_ ?_; rotate_left
  ·simp only [putAll, Act.put, sA, sB, sC]
   rfl
  refine three_ (i := 3) (j := 4) (k := 8) (Ni := some 11) (Nj := some 12) (Nk := some 16) (bl 12 1135) (bl 12 1143) (bl 12 1383) rfl rfl rfl rfl rfl rfl (three_of am.out (by kernel_rfl)) (by decide) (by decide) (by decide) (fun K hK => ?_) (fun K hK => ?_) (fun K hK => ?_)
  ·refine Kd.R_append_rows_step Kd.string (w0 := w) w.heap.size (by rfl) (.tmp 8) (.tmp 10) 22 9 (.string ⟨#[]⟩) 16 rfl Try.underlying22 info9 rfl (by decide) (by omega) Y aD al _ _ _ (fun _ => True) (fun _ => False) rfl rfl ?aO ?aR (fun _ _ h => h) (fun _ h => h.elim) ?aF ?aB ?aS ?aL ?_
   (case aR => exact cO (Kd.C_below aY.out HB.out))
   (case aB => exact (bP3 HB B D F))
   (case aF => exact (fun _ _ => trivial))
   (case aO => exact (rP Q))
   (case aS => exact (below_size (bP3 HB B D F)))
   (case aL => have := bn.out; omega)
   intro ad bc ho hb hg hat; rw [← a3.out] at ho; replace z := kG z hg Q; replace A := kG A hg Q; replace G := kG G hg Q; replace HB := aM (hb); have U := aM (ho); clear Q; clear ho hb hg hat; refine hK.out _ _ (bD3 z) (fun af => ?_); clear hK K; refine nm_ 11 ?_; exact norm_ pO (b2 (Y, ad, V) _ ⟨af, rQ U, kQ z, kQ A, kQ G, W, F, E, J, I, L, bT3 HB B D F⟩)
  ·refine lt_ Kd.bool 4 12 ([] : List Bool) [] (Reps.none _ _) ?_; intro Z bc ai hb
   replace ai := nW aI ai
   replace Q := rB Q hb; have P := rW ai (bP3 HB B D F); replace z := kB z hb; replace A := kB A hb; replace G := kB G hb; replace HB := hS3 HB B D F hb; clear hb ai; refine hK.out _ _ (bD3 z) (fun af => ?_); clear hK K; refine nm_ 12 ?_; exact norm_ pO (bD (Y, Z, V) _ ⟨af, rQ Q, rQ P, kQ z, kQ A, kQ G, W, F, E, J, I, L, bT3 HB B D F⟩)
  ·refine lt_ (Kd.int .i64) 3 16 ([0] : List Int) [.int .i64 0] (Reps.one (show Kd.M (Kd.int .i64) _ _ _ 0 [.int .i64 0] from rfl) (Reps.none _ _)) ?_; intro aa bc ai hb
   replace ai := nW aE ai
   replace Q := rB Q hb; have O := rW ai (bP3 HB B D F); replace z := kB z hb; replace A := kB A hb; replace G := kB G hb; replace HB := hS3 HB B D F hb; clear hb ai; refine hK.out _ _ (bD3 z) (fun af => ?_); clear hK K; refine nm_ 16 ?_; exact norm_ pO (bE (Y, aa, V) _ ⟨af, rQ Q, rQ O, kQ z, kQ A, kQ G, W, F, E, J, I, L, bT3 HB B D F⟩)
 intro ce; refine join_ (σ := Value × Value) 6 (bl 12 374) (fun s_ => [(12, s_.1), (16, s_.2)]) (fun s_ w' => (q_1 w') ∧ (RA Kd.bool 4 w' w s_.1 ax) ∧ (RA (Kd.int .i64) 3 w' w s_.2 aC) ∧ (q_2 w') ∧ (q_3 w') ∧ BA w w') ?_ ?_
 ·clear z A HB; rintro ⟨Z, aa⟩ bc ⟨af, P, O, z, A, HB⟩; (try dsimp only at af P O z A HB); refine norm_ (a' := ?_) ?_ ?_; rotate_left
  ·simp only [putAll, Act.put, sA, sB, sC]
   rfl
  refine two_ (i := 0) (j := 10) (Ni := some 8) (Nj := some 4) (bl 12 375) (bl 12 1398) rfl rfl rfl rfl (two_of am.out (by kernel_rfl)) (by decide) (by decide) (fun K hK => ?_) (fun K hK => ?_)
  ·refine lt_ Kd.string 9 8 ([] : List ByteArray) [] (Reps.none _ _) ?_; intro Y a4 au hb
   replace au := nW aZ au
   replace P := rB P hb; replace O := rB O hb; have Q := rW au (bP2 HB B D); replace z := kB z hb; replace A := kB A hb; replace HB := hS2 HB B D hb; clear hb au; refine hK.out _ _ (bD3 z) (fun af => ?_); clear hK K; refine nm_ 8 ?_; exact norm_ pO (bL (Y, Z, aa) _ ⟨af, rQ Q, rQ P, rQ O, kQ z, kQ A, bT2 HB B D⟩)
  ·refine bs_ (cs := #[.slice none 0 0, .slice none 0 0, .slice none 0 0, .slice none 0 0]) (t := 27) ?_; intro V hg a4 ag hb; replace P := rB P hb; replace O := rB O hb; have G := aM (ag); have W := gE hg (bP2 HB B D); have F := gE hg (bP2 HB B D); replace HB := hS2 HB B D hb; have E := nL hg z; have J := nG hg z; replace z := kB z hb; have I := nL hg A; have L := nG hg A; replace A := kB A hb; clear hb ag hg; refine hK.out _ _ (bD3 z) (fun af => ?_); clear hK K; refine nm_ 4 ?_; exact norm_ pO (bF (Z, aa, V) _ ⟨af, rQ P, rQ O, kQ z, kQ A, kQ G, W, F, E, J, I, L, bT3 HB B D F⟩)
 intro cE; refine join_ (σ := Value × Nat) 6 (bl 12 1142) (fun s_ => [(12, s_.1), (4, .pointer (some ⟨s_.2, 0, none⟩))]) (fun s_ w' => (q_1 w') ∧ (RA Kd.bool 4 w' w s_.1 ax) ∧ (q_2 w') ∧ (q_3 w') ∧ (Aside0 (w'.heap[s_.2]? = some (.cells #[.slice none 0 0, .slice none 0 0, .slice none 0 0, .slice none 0 0] 27 (0, 0)))) ∧ (Aside0 (w.heap.size ≤ s_.2)) ∧ (Aside0 (w.heap.size ≤ s_.2)) ∧ (Aside0 (ab ≠ s_.2)) ∧ (Aside0 (s_.2 ≠ ab)) ∧ (Aside0 (ae ≠ s_.2)) ∧ (Aside0 (s_.2 ≠ ae)) ∧ BA w w') ?_ ?_
 ·clear z A HB; rintro ⟨Z, V⟩ bd ⟨af, P, z, A, G, W, F, E, J, I, L, HB⟩; (try dsimp only at af P z A G W F E J I L HB); refine norm_ (a' := ?_) ?_ ?_; rotate_left
  ·simp only [putAll, Act.put, sA, sB, sC]
   rfl
  refine two_ (i := 0) (j := 8) (Ni := some 8) (Nj := some 16) (bl 12 1143) (bl 12 1398) rfl rfl rfl rfl (two_of am.out (by kernel_rfl)) (by decide) (by decide) (fun K hK => ?_) (fun K hK => ?_)
  ·refine lt_ Kd.string 9 8 ([] : List ByteArray) [] (Reps.none _ _) ?_; intro Y bc ai hb
   replace ai := nW aZ ai
   replace P := rB P hb; have Q := rW ai (bP3 HB B D F); replace z := kB z hb; replace A := kB A hb; replace G := kB G hb; replace HB := hS3 HB B D F hb; clear hb ai; refine hK.out _ _ (bD3 z) (fun af => ?_); clear hK K; refine nm_ 8 ?_; exact norm_ pO (bD (Y, Z, V) _ ⟨af, rQ Q, rQ P, kQ z, kQ A, kQ G, W, F, E, J, I, L, bT3 HB B D F⟩)
  ·refine lt_ (Kd.int .i64) 3 16 ([0] : List Int) [.int .i64 0] (Reps.one (show Kd.M (Kd.int .i64) _ _ _ 0 [.int .i64 0] from rfl) (Reps.none _ _)) ?_; intro aa bc ai hb
   replace ai := nW aE ai
   replace P := rB P hb; have O := rW ai (bP3 HB B D F); replace z := kB z hb; replace A := kB A hb; replace G := kB G hb; replace HB := hS3 HB B D F hb; clear hb ai; refine hK.out _ _ (bD3 z) (fun af => ?_); clear hK K; refine nm_ 16 ?_; exact norm_ pO (bF (Z, aa, V) _ ⟨af, rQ P, rQ O, kQ z, kQ A, kQ G, W, F, E, J, I, L, bT3 HB B D F⟩)
 intro cf; refine join_ (σ := Value × Nat) 6 (bl 12 1382) (fun s_ => [(16, s_.1), (4, .pointer (some ⟨s_.2, 0, none⟩))]) (fun s_ w' => (q_1 w') ∧ (RA (Kd.int .i64) 3 w' w s_.1 aC) ∧ (q_2 w') ∧ (q_3 w') ∧ (Aside0 (w'.heap[s_.2]? = some (.cells #[.slice none 0 0, .slice none 0 0, .slice none 0 0, .slice none 0 0] 27 (0, 0)))) ∧ (Aside0 (w.heap.size ≤ s_.2)) ∧ (Aside0 (w.heap.size ≤ s_.2)) ∧ (Aside0 (ab ≠ s_.2)) ∧ (Aside0 (s_.2 ≠ ab)) ∧ (Aside0 (ae ≠ s_.2)) ∧ (Aside0 (s_.2 ≠ ae)) ∧ BA w w') ?_ ?_
 ·clear z A HB; rintro ⟨aa, V⟩ bd ⟨af, O, z, A, G, W, F, E, J, I, L, HB⟩; (try dsimp only at af O z A G W F E J I L HB); refine norm_ (a' := ?_) ?_ ?_; rotate_left
  ·simp only [putAll, Act.put, sA, sB, sC]
   rfl
  refine two_ (i := 0) (j := 4) (Ni := some 8) (Nj := some 12) (bl 12 1383) (bl 12 1398) rfl rfl rfl rfl (two_of am.out (by kernel_rfl)) (by decide) (by decide) (fun K hK => ?_) (fun K hK => ?_)
  ·refine lt_ Kd.string 9 8 ([] : List ByteArray) [] (Reps.none _ _) ?_; intro Y bc ai hb
   replace ai := nW aZ ai
   replace O := rB O hb; have Q := rW ai (bP3 HB B D F); replace z := kB z hb; replace A := kB A hb; replace G := kB G hb; replace HB := hS3 HB B D F hb; clear hb ai; refine hK.out _ _ (bD3 z) (fun af => ?_); clear hK K; refine nm_ 8 ?_; exact norm_ pO (bE (Y, aa, V) _ ⟨af, rQ Q, rQ O, kQ z, kQ A, kQ G, W, F, E, J, I, L, bT3 HB B D F⟩)
  ·refine lt_ Kd.bool 4 12 ([] : List Bool) [] (Reps.none _ _) ?_; intro Z bc ai hb
   replace ai := nW aI ai
   replace O := rB O hb; have P := rW ai (bP3 HB B D F); replace z := kB z hb; replace A := kB A hb; replace G := kB G hb; replace HB := hS3 HB B D F hb; clear hb ai; refine hK.out _ _ (bD3 z) (fun af => ?_); clear hK K; refine nm_ 12 ?_; exact norm_ pO (bF (Z, aa, V) _ ⟨af, rQ P, rQ O, kQ z, kQ A, kQ G, W, F, E, J, I, L, bT3 HB B D F⟩)
 intro cg; refine join_ (σ := Value) 7 (bl 12 103) (fun s_ => [(8, s_)]) (fun s_ w' => (q_1 w') ∧ (RA Kd.string 9 w' w s_ aD) ∧ (q_2 w') ∧ (q_3 w') ∧ BA w w') ?_ ?_
 ·clear z A HB; rintro Y w9 ⟨af, Q, z, A, HB⟩; (try dsimp only at af Q z A HB); refine norm_ (a' := ?_) ?_ ?_; rotate_left
  ·simp only [putAll, Act.put, sA, sB, sC]
   rfl
  refine four_ (i := 3) (j := 4) (k := 8) (m := 10) (Ni := some 11) (Nj := some 12) (Nk := some 16) (Nm := some 4) (bl 12 111) (bl 12 119) (bl 12 359) (bl 12 1127) rfl rfl rfl rfl rfl rfl rfl rfl (four_of am.out (by kernel_rfl)) (by decide) (by decide) (by decide) (by decide) (fun K hK => ?_) (fun K hK => ?_) (fun K hK => ?_) (fun K hK => ?_)
  ·refine Kd.R_append_rows_step Kd.string (w0 := w) w.heap.size (by rfl) (.tmp 8) (.tmp 10) 22 9 (.string ⟨#[]⟩) 16 rfl Try.underlying22 info9 rfl (by decide) (by omega) Y aD al _ _ _ (fun _ => True) (fun _ => False) rfl rfl ?aO ?aR (fun _ _ h => h) (fun _ h => h.elim) ?aF ?aB ?aS ?aL ?_
   (case aR => exact cO (Kd.C_below aY.out HB.out))
   (case aB => exact (bP2 HB B D))
   (case aF => exact (fun _ _ => trivial))
   (case aO => exact (rP Q))
   (case aS => exact (below_size (bP2 HB B D)))
   (case aL => have := bn.out; omega)
   intro ad bd ho hb hg hat; rw [← a3.out] at ho; replace z := kG z hg Q; replace A := kG A hg Q; replace HB := aM (hb); have U := aM (ho); clear Q; clear ho hb hg hat; refine hK.out _ _ (bD3 z) (fun af => ?_); clear hK K; refine nm_ 11 ?_; exact norm_ pO (c4 (Y, ad) _ ⟨af, rQ U, kQ z, kQ A, bT2 HB B D⟩)
  ·refine lt_ Kd.bool 4 12 ([] : List Bool) [] (Reps.none _ _) ?_; intro Z bd ak hb
   replace ak := nW aI ak
   replace Q := rB Q hb; have P := rW ak (bP2 HB B D); replace z := kB z hb; replace A := kB A hb; replace HB := hS2 HB B D hb; clear hb ak; refine hK.out _ _ (bD3 z) (fun af => ?_); clear hK K; refine nm_ 12 ?_; exact norm_ pO (cC (Y, Z) _ ⟨af, rQ Q, rQ P, kQ z, kQ A, bT2 HB B D⟩)
  ·refine lt_ (Kd.int .i64) 3 16 ([0] : List Int) [.int .i64 0] (Reps.one (show Kd.M (Kd.int .i64) _ _ _ 0 [.int .i64 0] from rfl) (Reps.none _ _)) ?_; intro aa bd ak hb
   replace ak := nW aE ak
   replace Q := rB Q hb; have O := rW ak (bP2 HB B D); replace z := kB z hb; replace A := kB A hb; replace HB := hS2 HB B D hb; clear hb ak; refine hK.out _ _ (bD3 z) (fun af => ?_); clear hK K; refine nm_ 16 ?_; exact norm_ pO (cD (Y, aa) _ ⟨af, rQ Q, rQ O, kQ z, kQ A, bT2 HB B D⟩)
  ·refine bs_ (cs := #[.slice none 0 0, .slice none 0 0, .slice none 0 0, .slice none 0 0]) (t := 27) ?_; intro V hg bd ag hb; replace Q := rB Q hb; have G := aM (ag); have W := gE hg (bP2 HB B D); have F := gE hg (bP2 HB B D); replace HB := hS2 HB B D hb; have E := nL hg z; have J := nG hg z; replace z := kB z hb; have I := nL hg A; have L := nG hg A; replace A := kB A hb; clear hb ag hg; refine hK.out _ _ (bD3 z) (fun af => ?_); clear hK K; refine nm_ 4 ?_; exact norm_ pO (ce (Y, V) _ ⟨af, rQ Q, kQ z, kQ A, kQ G, W, F, E, J, I, L, bT3 HB B D F⟩)
 intro ez; refine join_ (σ := Value) 7 (bl 12 118) (fun s_ => [(12, s_)]) (fun s_ w' => (q_1 w') ∧ (RA Kd.bool 4 w' w s_ ax) ∧ (q_2 w') ∧ (q_3 w') ∧ BA w w') ?_ ?_
 ·clear z A HB; rintro Z w9 ⟨af, P, z, A, HB⟩; (try dsimp only at af P z A HB); refine norm_ (a' := ?_) ?_ ?_; rotate_left
  ·simp only [putAll, Act.put, sA, sB, sC]
   rfl
  refine three_ (i := 0) (j := 8) (k := 10) (Ni := some 8) (Nj := some 16) (Nk := some 4) (bl 12 119) (bl 12 374) (bl 12 1142) rfl rfl rfl rfl rfl rfl (three_of am.out (by kernel_rfl)) (by decide) (by decide) (by decide) (fun K hK => ?_) (fun K hK => ?_) (fun K hK => ?_)
  ·refine lt_ Kd.string 9 8 ([] : List ByteArray) [] (Reps.none _ _) ?_; intro Y bd ak hb
   replace ak := nW aZ ak
   replace P := rB P hb; have Q := rW ak (bP2 HB B D); replace z := kB z hb; replace A := kB A hb; replace HB := hS2 HB B D hb; clear hb ak; refine hK.out _ _ (bD3 z) (fun af => ?_); clear hK K; refine nm_ 8 ?_; exact norm_ pO (cC (Y, Z) _ ⟨af, rQ Q, rQ P, kQ z, kQ A, bT2 HB B D⟩)
  ·refine lt_ (Kd.int .i64) 3 16 ([0] : List Int) [.int .i64 0] (Reps.one (show Kd.M (Kd.int .i64) _ _ _ 0 [.int .i64 0] from rfl) (Reps.none _ _)) ?_; intro aa bd ak hb
   replace ak := nW aE ak
   replace P := rB P hb; have O := rW ak (bP2 HB B D); replace z := kB z hb; replace A := kB A hb; replace HB := hS2 HB B D hb; clear hb ak; refine hK.out _ _ (bD3 z) (fun af => ?_); clear hK K; refine nm_ 16 ?_; exact norm_ pO (cE (Z, aa) _ ⟨af, rQ P, rQ O, kQ z, kQ A, bT2 HB B D⟩)
  ·refine bs_ (cs := #[.slice none 0 0, .slice none 0 0, .slice none 0 0, .slice none 0 0]) (t := 27) ?_; intro V hg bd ag hb; replace P := rB P hb; have G := aM (ag); have W := gE hg (bP2 HB B D); have F := gE hg (bP2 HB B D); replace HB := hS2 HB B D hb; have E := nL hg z; have J := nG hg z; replace z := kB z hb; have I := nL hg A; have L := nG hg A; replace A := kB A hb; clear hb ag hg; refine hK.out _ _ (bD3 z) (fun af => ?_); clear hK K; refine nm_ 4 ?_; exact norm_ pO (cf (Z, V) _ ⟨af, rQ P, kQ z, kQ A, kQ G, W, F, E, J, I, L, bT3 HB B D F⟩)
 intro eA; refine join_ (σ := Value) 7 (bl 12 358) (fun s_ => [(16, s_)]) (fun s_ w' => (q_1 w') ∧ (RA (Kd.int .i64) 3 w' w s_ aC) ∧ (q_2 w') ∧ (q_3 w') ∧ BA w w') ?_ ?_
 ·clear z A HB; rintro aa w9 ⟨af, O, z, A, HB⟩; (try dsimp only at af O z A HB); refine norm_ (a' := ?_) ?_ ?_; rotate_left
  ·simp only [putAll, Act.put, sA, sB, sC]
   rfl
  refine three_ (i := 0) (j := 4) (k := 10) (Ni := some 8) (Nj := some 12) (Nk := some 4) (bl 12 359) (bl 12 374) (bl 12 1382) rfl rfl rfl rfl rfl rfl (three_of am.out (by kernel_rfl)) (by decide) (by decide) (by decide) (fun K hK => ?_) (fun K hK => ?_) (fun K hK => ?_)
  ·refine lt_ Kd.string 9 8 ([] : List ByteArray) [] (Reps.none _ _) ?_; intro Y bd ak hb
   replace ak := nW aZ ak
   replace O := rB O hb; have Q := rW ak (bP2 HB B D); replace z := kB z hb; replace A := kB A hb; replace HB := hS2 HB B D hb; clear hb ak; refine hK.out _ _ (bD3 z) (fun af => ?_); clear hK K; refine nm_ 8 ?_; exact norm_ pO (cD (Y, aa) _ ⟨af, rQ Q, rQ O, kQ z, kQ A, bT2 HB B D⟩)
  ·refine lt_ Kd.bool 4 12 ([] : List Bool) [] (Reps.none _ _) ?_; intro Z bd ak hb
   replace ak := nW aI ak
   replace O := rB O hb; have P := rW ak (bP2 HB B D); replace z := kB z hb; replace A := kB A hb; replace HB := hS2 HB B D hb; clear hb ak; refine hK.out _ _ (bD3 z) (fun af => ?_); clear hK K; refine nm_ 12 ?_; exact norm_ pO (cE (Z, aa) _ ⟨af, rQ P, rQ O, kQ z, kQ A, bT2 HB B D⟩)
  ·refine bs_ (cs := #[.slice none 0 0, .slice none 0 0, .slice none 0 0, .slice none 0 0]) (t := 27) ?_; intro V hg bd ag hb; replace O := rB O hb; have G := aM (ag); have W := gE hg (bP2 HB B D); have F := gE hg (bP2 HB B D); replace HB := hS2 HB B D hb; have E := nL hg z; have J := nG hg z; replace z := kB z hb; have I := nL hg A; have L := nG hg A; replace A := kB A hb; clear hb ag hg; refine hK.out _ _ (bD3 z) (fun af => ?_); clear hK K; refine nm_ 4 ?_; exact norm_ pO (cg (aa, V) _ ⟨af, rQ O, kQ z, kQ A, kQ G, W, F, E, J, I, L, bT3 HB B D F⟩)
 intro eB; refine join_ (σ := Nat) 7 (bl 12 1126) (fun s_ => [(4, .pointer (some ⟨s_, 0, none⟩))]) (fun s_ w' => (q_1 w') ∧ (q_2 w') ∧ (q_3 w') ∧ (Aside0 (w'.heap[s_]? = some (.cells #[.slice none 0 0, .slice none 0 0, .slice none 0 0, .slice none 0 0] 27 (0, 0)))) ∧ (Aside0 (w.heap.size ≤ s_)) ∧ (Aside0 (w.heap.size ≤ s_)) ∧ (Aside0 (ab ≠ s_)) ∧ (Aside0 (s_ ≠ ab)) ∧ (Aside0 (ae ≠ s_)) ∧ (Aside0 (s_ ≠ ae)) ∧ BA w w') ?_ ?_
 ·clear z A HB; rintro V w8 ⟨af, z, A, G, W, F, E, J, I, L, HB⟩; (try dsimp only at af z A G W F E J I L HB); refine norm_ (a' := ?_) ?_ ?_; rotate_left
  ·simp only [putAll, Act.put, sA, sB, sC]
   rfl
  refine three_ (i := 0) (j := 4) (k := 8) (Ni := some 8) (Nj := some 12) (Nk := some 16) (bl 12 1127) (bl 12 1142) (bl 12 1382) rfl rfl rfl rfl rfl rfl (three_of am.out (by kernel_rfl)) (by decide) (by decide) (by decide) (fun K hK => ?_) (fun K hK => ?_) (fun K hK => ?_)
  ·refine lt_ Kd.string 9 8 ([] : List ByteArray) [] (Reps.none _ _) ?_; intro Y w9 aN hb
   replace aN := nW aZ aN
   have Q := rW aN (bP3 HB B D F); replace z := kB z hb; replace A := kB A hb; replace G := kB G hb; replace HB := hS3 HB B D F hb; clear hb aN; refine hK.out _ _ (bD3 z) (fun af => ?_); clear hK K; refine nm_ 8 ?_; exact norm_ pO (ce (Y, V) _ ⟨af, rQ Q, kQ z, kQ A, kQ G, W, F, E, J, I, L, bT3 HB B D F⟩)
  ·refine lt_ Kd.bool 4 12 ([] : List Bool) [] (Reps.none _ _) ?_; intro Z w9 aN hb
   replace aN := nW aI aN
   have P := rW aN (bP3 HB B D F); replace z := kB z hb; replace A := kB A hb; replace G := kB G hb; replace HB := hS3 HB B D F hb; clear hb aN; refine hK.out _ _ (bD3 z) (fun af => ?_); clear hK K; refine nm_ 12 ?_; exact norm_ pO (cf (Z, V) _ ⟨af, rQ P, kQ z, kQ A, kQ G, W, F, E, J, I, L, bT3 HB B D F⟩)
  ·refine lt_ (Kd.int .i64) 3 16 ([0] : List Int) [.int .i64 0] (Reps.one (show Kd.M (Kd.int .i64) _ _ _ 0 [.int .i64 0] from rfl) (Reps.none _ _)) ?_; intro aa w9 aN hb
   replace aN := nW aE aN
   have O := rW aN (bP3 HB B D F); replace z := kB z hb; replace A := kB A hb; replace G := kB G hb; replace HB := hS3 HB B D F hb; clear hb aN; refine hK.out _ _ (bD3 z) (fun af => ?_); clear hK K; refine nm_ 16 ?_; exact norm_ pO (cg (aa, V) _ ⟨af, rQ O, kQ z, kQ A, kQ G, W, F, E, J, I, L, bT3 HB B D F⟩)
 intro dq; refine four_ (i := 0) (j := 4) (k := 8) (m := 10) (Ni := some 8) (Nj := some 12) (Nk := some 16) (Nm := some 4) (bl 12 103) (bl 12 118) (bl 12 358) (bl 12 1126) rfl rfl rfl rfl rfl rfl rfl rfl (four_of am.out (by kernel_rfl)) (by decide) (by decide) (by decide) (by decide) (fun K hK => ?_) (fun K hK => ?_) (fun K hK => ?_) (fun K hK => ?_)
 ·refine lt_ Kd.string 9 8 ([] : List ByteArray) [] (Reps.none _ _) ?_; intro Y w7 a5 hb
  replace a5 := nW aZ a5
  have Q := rW a5 (bP2 HB B D); replace z := kB z hb; replace A := kB A hb; replace HB := hS2 HB B D hb; clear hb a5; refine hK.out _ _ (bD3 z) (fun af => ?_); clear hK K; refine nm_ 8 ?_; exact norm_ pO (ez (Y) _ ⟨af, rQ Q, kQ z, kQ A, bT2 HB B D⟩)
 ·refine lt_ Kd.bool 4 12 ([] : List Bool) [] (Reps.none _ _) ?_; intro Z w7 a5 hb
  replace a5 := nW aI a5
  have P := rW a5 (bP2 HB B D); replace z := kB z hb; replace A := kB A hb; replace HB := hS2 HB B D hb; clear hb a5; refine hK.out _ _ (bD3 z) (fun af => ?_); clear hK K; refine nm_ 12 ?_; exact norm_ pO (eA (Z) _ ⟨af, rQ P, kQ z, kQ A, bT2 HB B D⟩)
 ·refine lt_ (Kd.int .i64) 3 16 ([0] : List Int) [.int .i64 0] (Reps.one (show Kd.M (Kd.int .i64) _ _ _ 0 [.int .i64 0] from rfl) (Reps.none _ _)) ?_; intro aa w7 a5 hb
  replace a5 := nW aE a5
  have O := rW a5 (bP2 HB B D); replace z := kB z hb; replace A := kB A hb; replace HB := hS2 HB B D hb; clear hb a5; refine hK.out _ _ (bD3 z) (fun af => ?_); clear hK K; refine nm_ 16 ?_; exact norm_ pO (eB (aa) _ ⟨af, rQ O, kQ z, kQ A, bT2 HB B D⟩)
 ·refine bs_ (cs := #[.slice none 0 0, .slice none 0 0, .slice none 0 0, .slice none 0 0]) (t := 27) ?_; intro V hg w7 ag hb; have G := aM (ag); have W := gE hg (bP2 HB B D); have F := gE hg (bP2 HB B D); replace HB := hS2 HB B D hb; have E := nL hg z; have J := nG hg z; replace z := kB z hb; have I := nL hg A; have L := nG hg A; replace A := kB A hb; clear hb ag hg; refine hK.out _ _ (bD3 z) (fun af => ?_); clear hK K; refine nm_ 4 ?_; exact norm_ pO (dq (V) _ ⟨af, kQ z, kQ A, kQ G, W, F, E, J, I, L, bT3 HB B D F⟩)
end Go.Proofs.Ytninoenmhcbonaa.X

/- What the functions of this seat compute, and that the program's calls come to just that: written by this session's own program out of the translation; no condition. -/
import Derived.Test.YtbpeloobnjbgkaaX0
import Derived.Test.YtbpeloobnjbgkaaX26
namespace Go.Proofs.Ytbpeloobnjbgkaa.X
open Go.RowKit Go.Proofs.YtbpeloobnjbgkaaW.PrintWords Go.Proofs.YtbpeloobnjbgkaaW.PrintLast Go.Proofs.YtbpeloobnjbgkaaW.PrintMore
attribute [local go_sem] max2_int min2_int max_two min_two max_three min_three max_four min_four
set_option linter.unusedVariables false
set_option linter.unusedSimpArgs false
set_option maxHeartbeats 8000000
set_option maxRecDepth 100000

/-! ### tabardref13_Classes: function 16 -/
mutual
def tabardref13_Classes.l0 : Nat → Int → List Int → List ByteArray → List Bool → List (List Int) → Option (List Int)
 | 0, _, _, _, _, _ => none
 | k + 1, x3, x4, x344000, x344001, x344002 => if 0 ≤ x3 then (if (x3 : Int).toNat ≤ 35184372088832 then (tabardref13_Classes.l1 k x3 x4 (List.replicate (x3 : Int).toNat 0) false 0 x344000 x344001 x344002) else (none)) else (none)
def tabardref13_Classes.l1 : Nat → Int → List Int → List Int → Bool → Int → List ByteArray → List Bool → List (List Int) → Option (List Int)
 | 0, _, _, _, _, _, _, _, _ => none
 | k + 1, x3, x4, x5, x6, x7, x344000, x344001, x344002 => if x7 < x3 then (if 0 ≤ x7 then (if x7 < (x5.length : Int) then (tabardref13_Classes.l2 k x3 x4 (x5.set (x7 : Int).toNat x7) x6 x7 0 x344000 x344001 x344002) else (none)) else (none)) else (if x6 = true then (tabardref13_Classes.l0 k x3 x5 x344000 x344001 x344002) else (some x4))
def tabardref13_Classes.l2 : Nat → Int → List Int → List Int → Bool → Int → Int → List ByteArray → List Bool → List (List Int) → Option (List Int)
 | 0, _, _, _, _, _, _, _, _, _ => none
 | k + 1, x3, x4, x5, x6, x7, x8, x344000, x344001, x344002 => if x8 < x7 then (if 0 ≤ x8 then (if x8 < (x5.length : Int) then (if (rd x5 x8) = x8 then (if x8 < (x4.length : Int) then (if 0 ≤ x7 then (if x7 < (x4.length : Int) then (if (rd x4 x8) = (rd x4 x7) then ((tabardref13_apart.f k x344000 x344001 x344002 x4 x8 x7).bind fun t354 => (if t354 = true then (tabardref13_Classes.l2 k x3 x4 x5 x6 x7 (wrap64 (x8 + 1)) x344000 x344001 x344002) else (if x7 < (x5.length : Int) then ((some (x5.set (x7 : Int).toNat x8 : List Int)).bind fun y355 => (if x6 = true then (tabardref13_Classes.l1 k x3 x4 y355 true (wrap64 (x7 + 1)) x344000 x344001 x344002) else (tabardref13_Classes.l1 k x3 x4 y355 ((rd y355 x7) != (rd x4 x7)) (wrap64 (x7 + 1)) x344000 x344001 x344002))) else (none)))) else (tabardref13_Classes.l2 k x3 x4 x5 x6 x7 (wrap64 (x8 + 1)) x344000 x344001 x344002)) else (none)) else (none)) else (none)) else (tabardref13_Classes.l2 k x3 x4 x5 x6 x7 (wrap64 (x8 + 1)) x344000 x344001 x344002)) else (none)) else (none)) else (if x6 = true then (tabardref13_Classes.l1 k x3 x4 x5 true (wrap64 (x7 + 1)) x344000 x344001 x344002) else (if 0 ≤ x7 then (if x7 < (x5.length : Int) then (if x7 < (x4.length : Int) then (tabardref13_Classes.l1 k x3 x4 x5 ((rd x5 x7) != (rd x4 x7)) (wrap64 (x7 + 1)) x344000 x344001 x344002) else (none)) else (none)) else (none)))
end
def tabardref13_Classes.f (k : Nat) (l0_0 : List ByteArray) (l0_1 : List Bool) (l0_2 : List (List Int)) : Option (List Int) := if 0 ≤ (l0_1.length : Int) then (if ((l0_1.length : Int) : Int).toNat ≤ 35184372088832 then (tabardref13_Classes.l0 k (l0_1.length : Int) (List.replicate ((l0_1.length : Int) : Int).toNat 0) l0_0 l0_1 l0_2) else (none)) else (none)
theorem tabardref13_Classes.mono_l : ∀ k, (∀ y0 y1 y2 y3 y4, LeO (tabardref13_Classes.l0 k y0 y1 y2 y3 y4) (tabardref13_Classes.l0 (k + 1) y0 y1 y2 y3 y4)) ∧ (∀ y0 y1 y2 y3 y4 y5 y6 y7, LeO (tabardref13_Classes.l1 k y0 y1 y2 y3 y4 y5 y6 y7) (tabardref13_Classes.l1 (k + 1) y0 y1 y2 y3 y4 y5 y6 y7)) ∧ (∀ y0 y1 y2 y3 y4 y5 y6 y7 y8, LeO (tabardref13_Classes.l2 k y0 y1 y2 y3 y4 y5 y6 y7 y8) (tabardref13_Classes.l2 (k + 1) y0 y1 y2 y3 y4 y5 y6 y7 y8))
 | 0 => ⟨fun _ _ _ _ _ r h => by simp [tabardref13_Classes.l0] at h, fun _ _ _ _ _ _ _ _ r h => by simp [tabardref13_Classes.l1] at h, fun _ _ _ _ _ _ _ _ _ r h => by simp [tabardref13_Classes.l2] at h⟩
 | k + 1 => by
  obtain ⟨ih0, ih1, ih2⟩ := tabardref13_Classes.mono_l k; refine ⟨?_, ?_, ?_⟩
  ·intro y0 y1 y2 y3 y4
   unfold tabardref13_Classes.l0
   repeat' first | (with_reducible first | exact ih0 _ _ _ _ _ | exact ih1 _ _ _ _ _ _ _ _ | exact ih2 _ _ _ _ _ _ _ _ _ | exact tabardref13_apart.mono _ _ _ _ _ _ _ | exact lA | apply lI | refine lB ?_ fun _ => ?_) | exact lN _ | apply lI | refine lB ?_ fun _ => ?_
  ·intro y0 y1 y2 y3 y4 y5 y6 y7
   unfold tabardref13_Classes.l1
   repeat' first | (with_reducible first | exact ih0 _ _ _ _ _ | exact ih1 _ _ _ _ _ _ _ _ | exact ih2 _ _ _ _ _ _ _ _ _ | exact tabardref13_apart.mono _ _ _ _ _ _ _ | exact lA | apply lI | refine lB ?_ fun _ => ?_) | exact lN _ | apply lI | refine lB ?_ fun _ => ?_
  ·intro y0 y1 y2 y3 y4 y5 y6 y7 y8
   unfold tabardref13_Classes.l2
   repeat' first | (with_reducible first | exact ih0 _ _ _ _ _ | exact ih1 _ _ _ _ _ _ _ _ | exact ih2 _ _ _ _ _ _ _ _ _ | exact tabardref13_apart.mono _ _ _ _ _ _ _ | exact lA | apply lI | refine lB ?_ fun _ => ?_) | exact lN _ | apply lI | refine lB ?_ fun _ => ?_
theorem tabardref13_Classes.mono : ∀ a0 a1 a2 k, LeO (tabardref13_Classes.f k a0 a1 a2) (tabardref13_Classes.f (k + 1) a0 a1 a2) := by
 intro a0 a1 a2 k; obtain ⟨ih0, ih1, ih2⟩ := tabardref13_Classes.mono_l k
 unfold tabardref13_Classes.f
 repeat' first | (with_reducible first | exact ih0 _ _ _ _ _ | exact ih1 _ _ _ _ _ _ _ _ | exact ih2 _ _ _ _ _ _ _ _ _ | exact tabardref13_apart.mono _ _ _ _ _ _ _ | exact lA | apply lI | refine lB ?_ fun _ => ?_) | exact lN _ | apply lI | refine lB ?_ fun _ => ?_
def tabardref13_Classes.T12 : Bool × List (List Nat × List Nat) := (true, [([], []), ([], []), ([0, 1], [0, 1]), ([2], [2]), ([], []), ([3, 4], [3, 4]), ([5], [5]), ([6], [6]), ([6], [6]), ([7, 8, 6], [6, 7, 8]), ([9, 6], [6, 9]), ([6], [6]), ([6], [6]), ([11, 12, 6], [6, 11, 12]), ([13, 6], [6, 13]), ([10, 14, 6], [6, 10, 14]), ([6, 15], [6, 15]), ([16, 6], [16]), ([17], [17]), ([17], [17]), ([17], [17]), ([17], [17]), ([18, 19, 20, 21, 17, 17], [17, 18, 19, 20, 21]), ([22, 17], [17, 22]), ([17, 23], [17, 23])])
def tabardref13_Classes.B12 : List Nat := [0, 0, 3, 7, 0, 31, 63, 127, 127, 511, 1023, 127, 127, 6271, 14463, 32767, 65535, 131071, 262143, 262143, 262143, 262143, 4194303, 8388607, 16777215]
theorem tabardref13_Classes.tab12 : rtab .any (opsOf Try.f16 12) = tabardref13_Classes.T12 := by kernel_rfl
theorem tabardref13_Classes.bits12 : waitsOk tabardref13_Classes.T12.2 tabardref13_Classes.B12 = true := by kernel_rfl
def tabardref13_Classes.T14 : Bool × List (List Nat × List Nat) := (true, [([], []), ([0], [0]), ([1], [1]), ([1], [1]), ([2, 3, 1], [1, 2, 3]), ([4, 1], [1, 4]), ([1], [1]), ([1], [1]), ([6, 7, 1], [1, 6, 7]), ([8, 1], [1, 8]), ([5, 9, 1], [1, 5, 9]), ([1, 10], [1, 10]), ([11, 1, 0, 1, 2, 3, 4, 5, 6, 7, 8, 9, 10, 11], [0, 11])])
def tabardref13_Classes.B14 : List Nat := [0, 1, 3, 3, 15, 31, 3, 3, 195, 451, 1023, 2047, 4095]
theorem tabardref13_Classes.tab14 : rtab .any (opsOf Try.f16 14) = tabardref13_Classes.T14 := by kernel_rfl
theorem tabardref13_Classes.bits14 : waitsOk tabardref13_Classes.T14.2 tabardref13_Classes.B14 = true := by kernel_rfl
theorem tabardref13_Classes.calls (k : Nat) (aj : Option Addr) (ak : Nat) (U : List ByteArray) (al : Option Addr) (am : Nat) (L : List Bool) (an : Option Addr) (ao : Nat) (V : List (List Int)) (r : List Int) (w : World) (a9 : Kd.C Kd.string w aj U.length U) (ba : U.length ≤ ak) (bb : Kd.C Kd.bool w al L.length L) (bc : L.length ≤ am) (bd : Kd.C (Kd.slice 3 (Kd.int .i64)) w an V.length V) (be : V.length ≤ ao) (h : tabardref13_Classes.f k U L V = some r) :
  Calls Try.prog 16 #[.agg #[.slice aj U.length ak, .slice al L.length am, .slice an V.length ao]] w fun e w' => ∃ ci : Value, e = .returned (ci) ∧ Kd.R (Kd.int .i64) 3 w' w.heap.size (fun _ => True) ci r ∧ Below w.heap.size w w' := by
 have hu26 := Try.underlying26; have aP := aM a9; have aQ := aM ba; clear a9 ba; have aR := aM bb; have aS := aM bc; clear bb bc; have aT := aM bd; have aU := aM be; clear bd be; have HB := aM (Below.refl w.heap.size w); rw [tabardref13_Classes.f] at h; have H := h; clear h
 apply iN H; clear H; intro c2 H; have cN := eq_true c2; have cP := dT c2; clear c2
 apply iN H; clear H; intro c3 H; have cQ := eq_true c3; have cR := dT c3; clear c3; obtain ⟨cm, aC⟩ : ∃ y_ : List Int, y_ = (List.replicate ((L.length : Int) : Int).toNat 0) := ⟨_, rfl⟩
 first | replace H := rI aC H | rw [← aC] at H
 have bW := aM aC; clear aC; have H' := aM H; clear H
 go_enter Try.func16, Try.ntmps16
 go_wp2_with (first | ((with_reducible refine gate_dst (N := 1) rfl ?_); refine be_ (cs := #[.slice aj U.length ak, .slice al L.length am, .slice an V.length ao]) (t := 26) ?_; intro ad hg w4 b0 hb; have z := aM (b0); have cD := gE hg (bP0 HB); have O := gE hg (bP0 HB); replace HB := hS0 HB hb; clear hb b0 hg; obtain ⟨cv, cw, cx, cy, cz, cA⟩ := bG3 z) | ((with_reducible refine gate_dst (N := 13) rfl ?_); refine Kd.R_make (Kd.int .i64) _ 3 rfl (N := 13) rfl 28 _ _ rfl (L.length : Int) rfl rfl Try.underlying28 (.int .i64 0) 8 info3 rfl (by decide) (by omega) 0 (ok := fun _ => True) (okp := fun _ => True) rfl (fun _ hk => hk) trivial (oT aO) (Nat.le_trans (Nat.mul_le_mul_right _ (oT aO : (L.length : Int).toNat ≤ 35184372088832)) (by omega)) (Below.refl _ _) (Nat.le_refl _) ?_; intro cS w6 bf hb cT bE; clear cT bE; replace bf := nW bW bf; have bX := rW bf (bP1 HB O); replace z := kB z hb; replace HB := hS1 HB O hb; clear hb bf))
 let q_1 : World → Prop := fun w' => w'.heap[ad]? = some (.cells #[(.slice aj U.length ak), (.slice al L.length am), (.slice an V.length ao)] 26 (0, 0)); go_loopg [4] k (fun kq v4 w' => ∃ (I : List Int), Aside0 (tabardref13_Classes.l0 kq (L.length : Int) I U L V = some r) ∧ Aside0 (kq ≤ k) ∧ RA (Kd.int .i64) 3 w' w v4 I ∧ Aside0 (q_1 w') ∧ BA w w')
 case atStart => exact ⟨(cm), H', ⟨Nat.le_refl _⟩, rQ bX, kQ z, bT1 HB O⟩
 case round =>
  clear H'
  obtain ⟨I, HA, aA, B, z, HB⟩ := hrel; cases gk with
  | zero => exact absurd HA.out (by simp [tabardref13_Classes.l0])
  | succ k1 =>
   have H := HA.out; clear HA; simp only [tabardref13_Classes.l0] at H
   apply iN H; clear H; intro c8 H; have cU := eq_true c8; have cV := dT c8; clear c8
   apply iN H; clear H; intro c9 H; have cW := eq_true c9; have cX := dT c9; clear c9; obtain ⟨cn, aD⟩ : ∃ y_ : List Int, y_ = (List.replicate ((L.length : Int) : Int).toNat 0) := ⟨_, rfl⟩
   first | replace H := rI aD H | rw [← aD] at H
   have bY := aM aD; clear aD; have H' := aM H; clear H
   go_wp2_with (first | ((with_reducible refine gate_dst (N := 15) rfl ?_); refine Kd.R_make (Kd.int .i64) _ 3 rfl (N := 15) rfl 28 _ _ rfl (L.length : Int) rfl rfl Try.underlying28 (.int .i64 0) 8 info3 rfl (by decide) (by omega) 0 (ok := fun _ => True) (okp := fun _ => True) rfl (fun _ hk => hk) trivial (oT aO) (Nat.le_trans (Nat.mul_le_mul_right _ (oT aO : (L.length : Int).toNat ≤ 35184372088832)) (by omega)) (Below.refl _ _) (Nat.le_refl _) ?_; intro bF dc aG hb cT bE; clear cT bE; replace aG := nW bY aG; have bZ := rW (Kd.R_new' aG (Kd.R_lt (rP B))) (bP1 HB O); replace B := aM (Kd.R_elder' (rP B) (Kd.R_base aG) hb); replace z := kB z hb; replace HB := hS1 HB O hb; clear hb aG))
   go_loopg [6, 7] k1 (fun kq v6 v7 w' => ∃ (ae : List Int) (av : Bool) (A : Int), v6 = .bool av ∧ v7 = .int .i64 A ∧ Aside0 (tabardref13_Classes.l1 kq (L.length : Int) I ae av A U L V = some r) ∧ Aside0 (kq ≤ k1) ∧ Aside0 (Kd.R (Kd.int .i64) 3 w' w.heap.size (fun k_ => some k_ ≠ (bF : Value).ownBlock) u4 I) ∧ Aside0 (Kd.R (Kd.int .i64) 3 w' w.heap.size (fun k_ => some k_ ≠ (u4 : Value).ownBlock) bF ae) ∧ Aside0 (q_1 w') ∧ BA w w')
   case atStart => exact ⟨(cn), (false), (0), sI, sI, H', ⟨Nat.le_refl _⟩, ⟨rM B (fun _ hk => hk.2)⟩, ⟨rM bZ (fun _ hk => hk.2)⟩, kQ z, bT1 HB O⟩
   case round =>
    clear H'
    obtain ⟨ae, av, A, rfl, rfl, HA, aB, B, E, z, HB⟩ := hrel; cases gk with
    | zero => exact absurd HA.out (by simp [tabardref13_Classes.l1])
    | succ k2 =>
     have H := HA.out; clear HA; simp only [tabardref13_Classes.l1] at H
     apply iB H <;> clear H <;> intro aJ H
     ·have b1 := dT aJ; clear aJ
      apply iN H; clear H; intro bg H; have cE := dT bg; clear bg
      apply iN H; clear H; intro bh H; have cF := dT bh; clear bh; obtain ⟨bG, aE⟩ : ∃ y_ : List Int, y_ = (ae.set (A : Int).toNat A) := ⟨_, rfl⟩
      first | replace H := rI aE H | rw [← aE] at H
      have b2 := aM aE; clear aE; have H' := aM H; clear H; have bH : 0 ≤ (A : Int) := oT aO; have bI : (A : Int) < ((ae.length : Int) : Int) := oT aO; obtain ⟨go15, ag, bJ, bK, gl15, cl15, HG15⟩ := Kd.R_form E.out (by omega)
      (first | cases bJ | (injection bJ with ea_ en_ ec_; (first | subst ea_ | (injection ea_ with ea_; subst ea_)); subst ec_; clear en_))
      have GB15 := aM bK; have GG15 := aM HG15; clear bK gl15 HG15; obtain ⟨cC, hf15_0⟩ := Kd.R_celln 0 E.out (A : Int) bH bI; replace bH := eq_true bH; replace bI := eq_true bI; have HP16 := Kd.R_putg E.out (A : Int) A
      go_wp2_with (first | ((with_reducible refine gate_store (t := 3) (p := 24) rfl ?_); refine store_event (t := 3) (p := 24) (v := ?vo_w17) (w1 := (wr.setCell ⟨go15, (A : Int).toNat, none⟩ (.int .i64 A))) ?hg ?ho ?hn ?hr ?_; (case ho => rfl); (case hg => rfl); (case hn => rfl); (case hr => first | (go_simp; done) | (go_simp; rfl)); intro bL hw; have hg : wr.grownBy bL (some go15) := (by rw [hw]; exact HP16.2); have hp_ : Kd.R (Kd.int .i64) 3 bL w.heap.size (fun k_ => some k_ ≠ (u4 : Value).ownBlock) (.slice (some ⟨go15, 0, none⟩) ae.length ag) bG := (by rw [hw, b2.out]; exact HP16.1); clear HP16; replace B := aM (Kd.R_after (v := (.slice (some ⟨go15, 0, none⟩) ae.length ag)) (v1 := (.slice (some ⟨go15, 0, none⟩) ae.length ag)) (ok := (fun _ => True)) (by (with_reducible repeat (first | apply Kd.R_alloc | apply Kd.R_drewN | apply Kd.R_drew)); exact Kd.R_mono B.out (fun _ hk => ⟨trivial, hk⟩)) hg (.inl rfl)); replace z := kG z hg E; replace E := aM (hp_); replace HB := aM ((by rw [hw]; exact below_set (HB.out) GB15.out : Below w.heap.size w bL)); clear hg hw hp_))
      go_loopg [8] k2 (fun kq v8 w' => ∃ (J : List Int) (D : Int), v8 = .int .i64 D ∧ Aside0 (tabardref13_Classes.l2 kq (L.length : Int) I J av A D U L V = some r) ∧ Aside0 (kq ≤ k2) ∧ Aside0 (Kd.R (Kd.int .i64) 3 w' w.heap.size (fun k_ => some k_ ≠ ((.slice (some ⟨go15, 0, none⟩) ae.length ag) : Value).ownBlock) u4 I) ∧ Aside0 (Kd.R (Kd.int .i64) 3 w' w.heap.size (fun k_ => some k_ ≠ (u4 : Value).ownBlock) (.slice (some ⟨go15, 0, none⟩) ae.length ag) J) ∧ Aside0 (q_1 w') ∧ BA w w')
      case atStart => exact ⟨(bG), (0), sI, H', ⟨Nat.le_refl _⟩, ⟨rM B (fun _ hk => hk.2)⟩, rQ E, kQ z, bT1 HB O⟩
      case round =>
       clear H'
       obtain ⟨J, D, rfl, HA, bC, B, E, z, HB⟩ := hrel; have G := (rR E).1; rw [G] at E
       (try simp only [G])
       (try simp only [G] at z)
       (try simp only [G] at B)
       cases gk with
       | zero => exact absurd HA.out (by simp [tabardref13_Classes.l2])
       | succ k3 =>
        have H := HA.out; clear HA; simp only [tabardref13_Classes.l2] at H
        apply iB H <;> clear H <;> intro aK H
        ·have b3 := dT aK; clear aK
         apply iN H; clear H; intro bi H; have cG := dT bi; clear bi
         apply iN H; clear H; intro bj H; have b4 := dT bj
         (try (have c20b0hl5_3 := b4; rw [G] at c20b0hl5_3))
         clear bj
         apply iB H <;> clear H <;> intro aW H
         ·obtain ⟨b5, b6⟩ := bq aW; clear aW
          apply iN H; clear H; intro bk H; have b7 := dT bk
          (try (have c22b0hl5_3 := b7; rw [G] at c22b0hl5_3))
          clear bk
          apply iN H; clear H; intro bm H; have cH := dT bm; clear bm
          apply iN H; clear H; intro bo H; have b8 := dT bo
          (try (have c24b0hl5_3 := b8; rw [G] at c24b0hl5_3))
          clear bo
          apply iB H <;> clear H <;> intro aX H
          ·obtain ⟨b9, ca⟩ := bq aX; clear aX; apply bSx H; clear H; intro co bN H
           by_cases bp : co = true
           ·subst bp
            rw [if_pos rfl] at H; have H' := aM H; clear H
            try go_wp2
            replace B := aM (Kd.R_drew B.out); replace E := aM (Kd.R_drew E.out); replace z := kD z; replace HB := aM (below_drew1 HB.out); have W : 0 ≤ (D : Int) := oT aO; have Y : D < (J.length : Int) := oT aO; obtain ⟨af, ar, F⟩ := Kd.at_int (rR E).2.2 D W Y; obtain rfl : (⟨go15, 0, none⟩ : Addr) = af := (by injection ar)
            (first | simp only [add_plain] at F | simp only [add_at] at F | simp only [Addr.add, Nat.zero_add] at F | skip)
            replace W := eq_true W; replace Y := eq_true Y; obtain ⟨c1, cp, bO⟩ := sL B
            (first | subst bO | obtain ⟨rfl, rfl⟩ := iS bO)
            obtain ⟨⟨M, aw, P⟩, Z, aa⟩ := xAt (Kd.at_int (rR B).2.2) D; cases aw; obtain ⟨⟨au, ax, Q⟩, ab, ac⟩ := xAt (Kd.at_int (rR B).2.2) A; obtain rfl := sJJ ax; refine start_ (n := 25) (S := fun w' => w'.cell? ⟨ad, 0, none⟩ = some (.slice aj U.length ak) ∧ w'.cell? ⟨ad, 1, none⟩ = some (.slice al L.length am) ∧ w'.cell? ⟨ad, 2, none⟩ = some (.slice an V.length ao) ∧ w'.cell? ⟨go15, (D).toNat, none⟩ = some (.int .i64 (rd J D)) ∧ w'.cell? (M.add (D).toNat) = some (.int .i64 (rd I D)) ∧ w'.cell? (M.add (A).toNat) = some (.int .i64 (rd I A))) (ds := []) (bl 25 0) (by kernel_rfl) rfl rfl ⟨(blk_cell z.out 0).trans rfl, (blk_cell z.out 1).trans rfl, (blk_cell z.out 2).trans rfl, F, P, Q⟩ (fun ai => ?_); refine with_tabW tabardref13_Classes.tab12 tabardref13_Classes.bits12 (fun ah az => ?_); generalize wr.drew = dd at B E z HB F P Q ai ⊢; refine pu_ 0 30 (bl 25 1) ah ?_; refine pu_ 1 31 (bl 25 3) ah ?_; refine pu_ 2 32 (bl 25 7) ah ?_; refine pu_ 4 34 (bl 25 23) ah ?_; refine tk6_ 3 33 (bl 25 31) ah az ai ?_; refine pu_ 5 35 (bl 25 63) ah ?_; refine pu_ 6 36 (bl 25 127) ah ?_; refine pu_ 7 37 (bl 25 255) ah ?_; refine pu_ 8 38 (bl 25 511) ah ?_; refine pu_ 9 39 (bl 25 1023) ah ?_; refine pu_ 11 41 (bl 25 3071) ah ?_; refine pu_ 12 42 (bl 25 7167) ah ?_; refine pu_ 13 43 (bl 25 15359) ah ?_; refine tk6_ 10 40 (bl 25 16383) ah az ai ?_; refine tk6_ 14 44 (bl 25 32767) ah az ai ?_; refine pu_ 15 45 (bl 25 65535) ah ?_; refine pu_ 16 46 (bl 25 131071) ah ?_; refine pu_ 17 47 (bl 25 262143) ah ?_; refine pu_ 19 49 (bl 25 786431) ah ?_; refine pu_ 20 50 (bl 25 1835007) ah ?_; refine pu_ 21 51 (bl 25 3932159) ah ?_; refine tk6_ 18 48 (bl 25 4194303) ah az ai ?_; refine one_ (i := 22) (N := some 52) (bl 25 8388607) rfl rfl (one_of ah.out (by kernel_rfl)) (by decide) (fun K hK => ?_); refine gS_ Try.func35 #[.agg #[.slice aj U.length ak, .slice al L.length am, .slice an V.length ao], .slice (some M) I.length cp, .int .i64 D, .int .i64 A] ?_
            with_reducible refine (tabardref13_apart.calls k3 _ _ U _ _ L _ _ V _ _ I D A true _ ?s1 ?s2 ?s3 ?s4 ?s5 ?s6 ?s7 ?s8 bN.out).mono ?_
            (case s1 => exact cB aP HB)
            (case s2 => exact aQ.out)
            (case s3 => exact cB aR HB)
            (case s4 => exact aS.out)
            (case s5 => exact cB aT HB)
            (case s6 => exact aU.out)
            (case s7 => exact cO (rR B).2.2)
            (case s8 => exact (rR B).2.1)
            rintro e de ⟨rfl, hb⟩; have HS3_ := (hb.cell (World.block_lt_of_cell? _ _ (ai.2.2.2.1))).trans (ai.2.2.2.1); have HS4_ := (hb.cell (World.block_lt_of_cell? _ _ (ai.2.2.2.2.1))).trans (ai.2.2.2.2.1); have HS5_ := (hb.cell (World.block_lt_of_cell? _ _ (ai.2.2.2.2.2))).trans (ai.2.2.2.2.2); refine ⟨_, rfl, ?_⟩; replace B := rB B hb; replace E := rB E hb; replace z := kB z hb; replace HB := hS1 HB O hb
            (try clear hb)
            (try clear cj)
            (try clear hk)
            (try clear hi)
            refine hK.out _ _ ⟨(blk_cell z.out 0).trans rfl, (blk_cell z.out 1).trans rfl, (blk_cell z.out 2).trans rfl, HS3_, HS4_, HS5_⟩ (fun ai => ?_); clear hK K; refine nm_ 52 ?_; refine pu_ 23 53 (bl 25 16777215) ah ?_; refine pu_ 24 54 (bl 25 33554431) ah ?_; refine done_ (done_of ah.out (by kernel_rfl)) ?_
            try go_wp2
            (try simp only [← G])
            go_roundg k3
            case measure => have := aA.out; have := aB.out; have := bC.out; omega
            case rel => exact ⟨(J), (wrap64 (D + 1)), sI, H', ⟨by have := aA.out; have := aB.out; have := bC.out; omega⟩, ⟨by (try simp only [G]); (with_reducible repeat (first | apply Kd.R_alloc | apply Kd.R_drewN | apply Kd.R_drew)); exact B.out⟩, ⟨by (try simp only [G]); (with_reducible repeat (first | apply Kd.R_alloc | apply Kd.R_drewN | apply Kd.R_drew)); exact E.out⟩, ⟨by (try simp only [G]); (with_reducible repeat (first | refine blk_drewN ?_ _ | refine blk_drew ?_ | refine blk_alloc ?_ _)); exact z.out⟩, bT1 HB O⟩
           ·replace bp := Bool.eq_false_iff.mpr bp; subst bp
            rw [if_neg nF] at H
            apply iN H; clear H; intro br H; have cb := dT br
            (try (have c31b0hl5_3 := cb; rw [G] at c31b0hl5_3))
            clear br; obtain ⟨ay, aF⟩ : ∃ y_ : List Int, y_ = (J.set (A : Int).toNat D) := ⟨_, rfl⟩
            first | replace H := rI aF H | rw [← aF] at H
            have aV := aM aF; clear aF
            by_cases bs : av = true
            ·subst bs
             rw [if_pos rfl] at H; have H' := aM H; clear H
             try go_wp2
             replace B := aM (Kd.R_drew B.out); replace E := aM (Kd.R_drew E.out); replace z := kD z; replace HB := aM (below_drew1 HB.out); have W : 0 ≤ (D : Int) := oT aO; have Y : D < (J.length : Int) := oT aO; obtain ⟨af, ar, F⟩ := Kd.at_int (rR E).2.2 D W Y; obtain rfl : (⟨go15, 0, none⟩ : Addr) = af := (by injection ar)
             (first | simp only [add_plain] at F | simp only [add_at] at F | simp only [Addr.add, Nat.zero_add] at F | skip)
             replace W := eq_true W; replace Y := eq_true Y; obtain ⟨c4, bP, bQ⟩ := sL B
             (first | subst bQ | obtain ⟨rfl, rfl⟩ := iS bQ)
             obtain ⟨⟨M, aw, P⟩, Z, aa⟩ := xAt (Kd.at_int (rR B).2.2) D; cases aw; obtain ⟨⟨au, ax, Q⟩, ab, ac⟩ := xAt (Kd.at_int (rR B).2.2) A; obtain rfl := sJJ ax; refine start_ (n := 25) (S := fun w' => w'.cell? ⟨ad, 0, none⟩ = some (.slice aj U.length ak) ∧ w'.cell? ⟨ad, 1, none⟩ = some (.slice al L.length am) ∧ w'.cell? ⟨ad, 2, none⟩ = some (.slice an V.length ao) ∧ w'.cell? ⟨go15, (D).toNat, none⟩ = some (.int .i64 (rd J D)) ∧ w'.cell? (M.add (D).toNat) = some (.int .i64 (rd I D)) ∧ w'.cell? (M.add (A).toNat) = some (.int .i64 (rd I A))) (ds := []) (bl 25 0) (by kernel_rfl) rfl rfl ⟨(blk_cell z.out 0).trans rfl, (blk_cell z.out 1).trans rfl, (blk_cell z.out 2).trans rfl, F, P, Q⟩ (fun ai => ?_); refine with_tabW tabardref13_Classes.tab12 tabardref13_Classes.bits12 (fun ah az => ?_); generalize wr.drew = df at B E z HB F P Q ai ⊢; refine pu_ 0 30 (bl 25 1) ah ?_; refine pu_ 1 31 (bl 25 3) ah ?_; refine pu_ 2 32 (bl 25 7) ah ?_; refine pu_ 4 34 (bl 25 23) ah ?_; refine tk6_ 3 33 (bl 25 31) ah az ai ?_; refine pu_ 5 35 (bl 25 63) ah ?_; refine pu_ 6 36 (bl 25 127) ah ?_; refine pu_ 7 37 (bl 25 255) ah ?_; refine pu_ 8 38 (bl 25 511) ah ?_; refine pu_ 9 39 (bl 25 1023) ah ?_; refine pu_ 11 41 (bl 25 3071) ah ?_; refine pu_ 12 42 (bl 25 7167) ah ?_; refine pu_ 13 43 (bl 25 15359) ah ?_; refine tk6_ 10 40 (bl 25 16383) ah az ai ?_; refine tk6_ 14 44 (bl 25 32767) ah az ai ?_; refine pu_ 15 45 (bl 25 65535) ah ?_; refine pu_ 16 46 (bl 25 131071) ah ?_; refine pu_ 17 47 (bl 25 262143) ah ?_; refine pu_ 19 49 (bl 25 786431) ah ?_; refine pu_ 20 50 (bl 25 1835007) ah ?_; refine pu_ 21 51 (bl 25 3932159) ah ?_; refine tk6_ 18 48 (bl 25 4194303) ah az ai ?_; refine one_ (i := 22) (N := some 52) (bl 25 8388607) rfl rfl (one_of ah.out (by kernel_rfl)) (by decide) (fun K hK => ?_); refine gS_ Try.func35 #[.agg #[.slice aj U.length ak, .slice al L.length am, .slice an V.length ao], .slice (some M) I.length bP, .int .i64 D, .int .i64 A] ?_
             with_reducible refine (tabardref13_apart.calls k3 _ _ U _ _ L _ _ V _ _ I D A false _ ?s1 ?s2 ?s3 ?s4 ?s5 ?s6 ?s7 ?s8 bN.out).mono ?_
             (case s1 => exact cB aP HB)
             (case s2 => exact aQ.out)
             (case s3 => exact cB aR HB)
             (case s4 => exact aS.out)
             (case s5 => exact cB aT HB)
             (case s6 => exact aU.out)
             (case s7 => exact cO (rR B).2.2)
             (case s8 => exact (rR B).2.1)
             rintro e ck ⟨rfl, hb⟩; have HS3_ := (hb.cell (World.block_lt_of_cell? _ _ (ai.2.2.2.1))).trans (ai.2.2.2.1); have HS4_ := (hb.cell (World.block_lt_of_cell? _ _ (ai.2.2.2.2.1))).trans (ai.2.2.2.2.1); have HS5_ := (hb.cell (World.block_lt_of_cell? _ _ (ai.2.2.2.2.2))).trans (ai.2.2.2.2.2); refine ⟨_, rfl, ?_⟩; replace B := rB B hb; replace E := rB E hb; replace z := kB z hb; replace HB := hS1 HB O hb
             (try clear hb)
             (try clear cj)
             (try clear hk)
             (try clear hi)
             refine hK.out _ _ ⟨(blk_cell z.out 0).trans rfl, (blk_cell z.out 1).trans rfl, (blk_cell z.out 2).trans rfl, HS3_, HS4_, HS5_⟩ (fun ai => ?_); clear hK K; refine nm_ 52 ?_; refine pu_ 23 53 (bl 25 16777215) ah ?_; refine pu_ 24 54 (bl 25 33554431) ah ?_; refine done_ (done_of ah.out (by kernel_rfl)) ?_; have aH : 0 ≤ (A : Int) := oT aO; have aI : (A : Int) < ((J.length : Int) : Int) := oT aO; obtain ⟨bR, hf32_0⟩ := Kd.R_celln 0 E.out (A : Int) aH aI; replace aH := eq_true aH; replace aI := eq_true aI; obtain ⟨cI, cJ⟩ := Kd.R_celln 0 E.out (A : Int) (oT aO) (oT aO); have HP37 := Kd.R_putg E.out (A : Int) D
             try go_wp2_with (first | ((with_reducible refine gate_store (t := 3) (p := 58) rfl ?_); refine store_event (t := 3) (p := 58) (v := ?vo_w38) (w1 := (ck.setCell ⟨go15, (A : Int).toNat, none⟩ (.int .i64 D))) ?hg ?ho ?hn ?hr ?_; (case ho => rfl); (case hg => rfl); (case hn => rfl); (case hr => first | (go_simp; done) | (go_simp; rfl)); intro bt hw; have hg : ck.grownBy bt (some go15) := (by rw [hw]; exact HP37.2); have hp_ : Kd.R (Kd.int .i64) 3 bt w.heap.size (fun k_ => some k_ ≠ (.slice (some M) I.length bP : Value).ownBlock) (.slice (some ⟨go15, 0, none⟩) J.length ag) ay := (by rw [hw, aV.out]; exact HP37.1); clear HP37; replace B := aM (Kd.R_after (v := (.slice (some ⟨go15, 0, none⟩) J.length ag)) (v1 := (.slice (some ⟨go15, 0, none⟩) J.length ag)) (ok := (fun _ => True)) (by (with_reducible repeat (first | apply Kd.R_alloc | apply Kd.R_drewN | apply Kd.R_drew)); exact Kd.R_mono B.out (fun _ hk => ⟨trivial, hk⟩)) hg (.inl rfl)); replace z := kG z hg E; replace E := aM (hp_); replace HB := aM ((by rw [hw]; exact below_set (HB.out) GB15.out : Below w.heap.size w bt)); clear hg hw hp_))
             replace B := aM (Kd.R_drew B.out); replace E := aM (Kd.R_drew E.out); replace z := kD z; replace HB := aM (below_drew1 HB.out); refine start_ (n := 13) (S := fun w' => True) (ds := []) (bl 13 0) (by kernel_rfl) rfl rfl trivial (fun ai => ?_); refine with_tabW tabardref13_Classes.tab14 tabardref13_Classes.bits14 (fun ah az => ?_); generalize bt.drew = dg at B E z HB ai ⊢; refine pu_ 0 59 (bl 13 1) ah ?_; refine pu_ 1 60 (bl 13 3) ah ?_; refine pn_ 2 61 (bl 13 7) ah ?_; refine pn_ 3 62 (bl 13 15) ah ?_; refine pn_ 4 63 (bl 13 31) ah ?_; refine pn_ 5 64 (bl 13 63) ah ?_; refine pn_ 6 65 (bl 13 127) ah ?_; refine pn_ 7 66 (bl 13 255) ah ?_; refine pn_ 8 67 (bl 13 511) ah ?_; refine pn_ 9 68 (bl 13 1023) ah ?_; refine pn_ 10 69 (bl 13 2047) ah ?_; refine pu_ 11 70 (bl 13 4095) ah ?_; refine pu_ 12 6 (bl 13 8191) ah ?_; refine done_ (done_of ah.out (by kernel_rfl)) ?_
             try go_wp2
             (try simp only [← G])
             go_roundg k3
             case measure => have := aA.out; have := aB.out; have := bC.out; omega
             case rel => exact ⟨(ay), (true), (wrap64 (A + 1)), sI, sI, H', ⟨by have := aA.out; have := aB.out; have := bC.out; omega⟩, ⟨by (try simp only [G]); (with_reducible repeat (first | apply Kd.R_alloc | apply Kd.R_drewN | apply Kd.R_drew)); exact Kd.R_mono B.out (fun _ hk => hk.2)⟩, ⟨by (try simp only [G]); (with_reducible repeat (first | apply Kd.R_alloc | apply Kd.R_drewN | apply Kd.R_drew)); exact E.out⟩, ⟨by (try simp only [G]); (with_reducible repeat (first | refine blk_drewN ?_ _ | refine blk_drew ?_ | refine blk_alloc ?_ _)); exact z.out⟩, bT1 HB O⟩
            ·replace bs := Bool.eq_false_iff.mpr bs; subst bs
             rw [if_neg nF] at H; have H' := aM H; clear H
             try go_wp2
             replace B := aM (Kd.R_drew B.out); replace E := aM (Kd.R_drew E.out); replace z := kD z; replace HB := aM (below_drew1 HB.out); have W : 0 ≤ (D : Int) := oT aO; have Y : D < (J.length : Int) := oT aO; obtain ⟨af, ar, F⟩ := Kd.at_int (rR E).2.2 D W Y; obtain rfl : (⟨go15, 0, none⟩ : Addr) = af := (by injection ar)
             (first | simp only [add_plain] at F | simp only [add_at] at F | simp only [Addr.add, Nat.zero_add] at F | skip)
             replace W := eq_true W; replace Y := eq_true Y; obtain ⟨c5, bS, bT⟩ := sL B
             (first | subst bT | obtain ⟨rfl, rfl⟩ := iS bT)
             obtain ⟨⟨M, aw, P⟩, Z, aa⟩ := xAt (Kd.at_int (rR B).2.2) D; cases aw; obtain ⟨⟨au, ax, Q⟩, ab, ac⟩ := xAt (Kd.at_int (rR B).2.2) A; obtain rfl := sJJ ax; refine start_ (n := 25) (S := fun w' => w'.cell? ⟨ad, 0, none⟩ = some (.slice aj U.length ak) ∧ w'.cell? ⟨ad, 1, none⟩ = some (.slice al L.length am) ∧ w'.cell? ⟨ad, 2, none⟩ = some (.slice an V.length ao) ∧ w'.cell? ⟨go15, (D).toNat, none⟩ = some (.int .i64 (rd J D)) ∧ w'.cell? (M.add (D).toNat) = some (.int .i64 (rd I D)) ∧ w'.cell? (M.add (A).toNat) = some (.int .i64 (rd I A))) (ds := []) (bl 25 0) (by kernel_rfl) rfl rfl ⟨(blk_cell z.out 0).trans rfl, (blk_cell z.out 1).trans rfl, (blk_cell z.out 2).trans rfl, F, P, Q⟩ (fun ai => ?_); refine with_tabW tabardref13_Classes.tab12 tabardref13_Classes.bits12 (fun ah az => ?_); generalize wr.drew = dh at B E z HB F P Q ai ⊢; refine pu_ 0 30 (bl 25 1) ah ?_; refine pu_ 1 31 (bl 25 3) ah ?_; refine pu_ 2 32 (bl 25 7) ah ?_; refine pu_ 4 34 (bl 25 23) ah ?_; refine tk6_ 3 33 (bl 25 31) ah az ai ?_; refine pu_ 5 35 (bl 25 63) ah ?_; refine pu_ 6 36 (bl 25 127) ah ?_; refine pu_ 7 37 (bl 25 255) ah ?_; refine pu_ 8 38 (bl 25 511) ah ?_; refine pu_ 9 39 (bl 25 1023) ah ?_; refine pu_ 11 41 (bl 25 3071) ah ?_; refine pu_ 12 42 (bl 25 7167) ah ?_; refine pu_ 13 43 (bl 25 15359) ah ?_; refine tk6_ 10 40 (bl 25 16383) ah az ai ?_; refine tk6_ 14 44 (bl 25 32767) ah az ai ?_; refine pu_ 15 45 (bl 25 65535) ah ?_; refine pu_ 16 46 (bl 25 131071) ah ?_; refine pu_ 17 47 (bl 25 262143) ah ?_; refine pu_ 19 49 (bl 25 786431) ah ?_; refine pu_ 20 50 (bl 25 1835007) ah ?_; refine pu_ 21 51 (bl 25 3932159) ah ?_; refine tk6_ 18 48 (bl 25 4194303) ah az ai ?_; refine one_ (i := 22) (N := some 52) (bl 25 8388607) rfl rfl (one_of ah.out (by kernel_rfl)) (by decide) (fun K hK => ?_); refine gS_ Try.func35 #[.agg #[.slice aj U.length ak, .slice al L.length am, .slice an V.length ao], .slice (some M) I.length bS, .int .i64 D, .int .i64 A] ?_
             with_reducible refine (tabardref13_apart.calls k3 _ _ U _ _ L _ _ V _ _ I D A false _ ?s1 ?s2 ?s3 ?s4 ?s5 ?s6 ?s7 ?s8 bN.out).mono ?_
             (case s1 => exact cB aP HB)
             (case s2 => exact aQ.out)
             (case s3 => exact cB aR HB)
             (case s4 => exact aS.out)
             (case s5 => exact cB aT HB)
             (case s6 => exact aU.out)
             (case s7 => exact cO (rR B).2.2)
             (case s8 => exact (rR B).2.1)
             rintro e cl ⟨rfl, hb⟩; have HS3_ := (hb.cell (World.block_lt_of_cell? _ _ (ai.2.2.2.1))).trans (ai.2.2.2.1); have HS4_ := (hb.cell (World.block_lt_of_cell? _ _ (ai.2.2.2.2.1))).trans (ai.2.2.2.2.1); have HS5_ := (hb.cell (World.block_lt_of_cell? _ _ (ai.2.2.2.2.2))).trans (ai.2.2.2.2.2); refine ⟨_, rfl, ?_⟩; replace B := rB B hb; replace E := rB E hb; replace z := kB z hb; replace HB := hS1 HB O hb
             (try clear hb)
             (try clear cj)
             (try clear hk)
             (try clear hi)
             refine hK.out _ _ ⟨(blk_cell z.out 0).trans rfl, (blk_cell z.out 1).trans rfl, (blk_cell z.out 2).trans rfl, HS3_, HS4_, HS5_⟩ (fun ai => ?_); clear hK K; refine nm_ 52 ?_; refine pu_ 23 53 (bl 25 16777215) ah ?_; refine pu_ 24 54 (bl 25 33554431) ah ?_; refine done_ (done_of ah.out (by kernel_rfl)) ?_; have aH : 0 ≤ (A : Int) := oT aO; have aI : (A : Int) < ((J.length : Int) : Int) := oT aO; obtain ⟨bR, hf32_0⟩ := Kd.R_celln 0 E.out (A : Int) aH aI; replace aH := eq_true aH; replace aI := eq_true aI; obtain ⟨cK, cL⟩ := Kd.R_celln 0 E.out (A : Int) (oT aO) (oT aO); have HP43 := Kd.R_putg E.out (A : Int) D
             try go_wp2_with (first | ((with_reducible refine gate_store (t := 3) (p := 58) rfl ?_); refine store_event (t := 3) (p := 58) (v := ?vo_w44) (w1 := (cl.setCell ⟨go15, (A : Int).toNat, none⟩ (.int .i64 D))) ?hg ?ho ?hn ?hr ?_; (case ho => rfl); (case hg => rfl); (case hn => rfl); (case hr => first | (go_simp; done) | (go_simp; rfl)); intro bu hw; have hg : cl.grownBy bu (some go15) := (by rw [hw]; exact HP43.2); have hp_ : Kd.R (Kd.int .i64) 3 bu w.heap.size (fun k_ => some k_ ≠ (.slice (some M) I.length bS : Value).ownBlock) (.slice (some ⟨go15, 0, none⟩) J.length ag) ay := (by rw [hw, aV.out]; exact HP43.1); clear HP43; replace B := aM (Kd.R_after (v := (.slice (some ⟨go15, 0, none⟩) J.length ag)) (v1 := (.slice (some ⟨go15, 0, none⟩) J.length ag)) (ok := (fun _ => True)) (by (with_reducible repeat (first | apply Kd.R_alloc | apply Kd.R_drewN | apply Kd.R_drew)); exact Kd.R_mono B.out (fun _ hk => ⟨trivial, hk⟩)) hg (.inl rfl)); replace z := kG z hg E; replace E := aM (hp_); replace HB := aM ((by rw [hw]; exact below_set (HB.out) GB15.out : Below w.heap.size w bu)); clear hg hw hp_))
             replace B := aM (Kd.R_drew B.out); replace E := aM (Kd.R_drew E.out); replace z := kD z; replace HB := aM (below_drew1 HB.out); have aY : 0 ≤ (A : Int) := oT aO; have aZ : A < (ay.length : Int) := (by have h_ : (A : Int) < ((J.length : Int) : Int) := oT aO; first | (have e_ := (rR E).1; omega) | simpa only [aV.out, List.length_set] using h_); have ql356 : ((A : Int) < ((J.length : Int) : Int)) = True := eq_true (oT aO); obtain ⟨cc, cq, ap⟩ := Kd.at_int (rR E).2.2 A aY aZ; obtain rfl : (⟨go15, 0, none⟩ : Addr) = cc := (by injection cq)
             (first | simp only [add_plain] at ap | simp only [add_at] at ap | simp only [Addr.add, Nat.zero_add] at ap | skip)
             replace aY := eq_true aY; replace aZ := eq_true aZ; obtain ⟨⟨cd, cr, aL⟩, a3, a4⟩ := xAt (Kd.at_int (rR B).2.2) A; obtain rfl := sJJ cr; refine start_ (n := 13) (S := fun w' => w'.cell? ⟨go15, (A).toNat, none⟩ = some (.int .i64 (rd ay A)) ∧ w'.cell? (M.add (A).toNat) = some (.int .i64 (rd I A))) (ds := []) (bl 13 0) (by kernel_rfl) rfl rfl ⟨ap, aL⟩ (fun ai => ?_); refine with_tabW tabardref13_Classes.tab14 tabardref13_Classes.bits14 (fun ah az => ?_); generalize bu.drew = di at B E z HB ap aL ai ⊢; refine pu_ 0 59 (bl 13 1) ah ?_; refine pu_ 1 60 (bl 13 3) ah ?_; refine pu_ 2 61 (bl 13 7) ah ?_; refine pu_ 3 62 (bl 13 15) ah ?_; refine pu_ 4 63 (bl 13 31) ah ?_; refine pu_ 6 65 (bl 13 95) ah ?_; refine pu_ 7 66 (bl 13 223) ah ?_; refine pu_ 8 67 (bl 13 479) ah ?_; refine tk2_ 5 64 (bl 13 511) ah az ai ?_; refine tk2_ 9 68 (bl 13 1023) ah az ai ?_; refine pu_ 10 69 (bl 13 2047) ah ?_; refine pu_ 11 70 (bl 13 4095) ah ?_; refine pu_ 12 6 (bl 13 8191) ah ?_; refine done_ (done_of ah.out (by kernel_rfl)) ?_
             try go_wp2
             (try simp only [← G])
             go_roundg k3
             case measure => have := aA.out; have := aB.out; have := bC.out; omega
             case rel => exact ⟨(ay), (((rd ay A) != (rd I A))), (wrap64 (A + 1)), sI, sI, H', ⟨by have := aA.out; have := aB.out; have := bC.out; omega⟩, ⟨by (try simp only [G]); (with_reducible repeat (first | apply Kd.R_alloc | apply Kd.R_drewN | apply Kd.R_drew)); exact Kd.R_mono B.out (fun _ hk => hk.2)⟩, ⟨by (try simp only [G]); (with_reducible repeat (first | apply Kd.R_alloc | apply Kd.R_drewN | apply Kd.R_drew)); exact E.out⟩, ⟨by (try simp only [G]); (with_reducible repeat (first | refine blk_drewN ?_ _ | refine blk_drew ?_ | refine blk_alloc ?_ _)); exact z.out⟩, bT1 HB O⟩
          ·obtain ⟨b9, ca⟩ := bn aX; have H' := aM H; clear H
           try go_wp2
           replace B := aM (Kd.R_drew B.out); replace E := aM (Kd.R_drew E.out); replace z := kD z; replace HB := aM (below_drew1 HB.out); have W : 0 ≤ (D : Int) := oT aO; have Y : D < (J.length : Int) := oT aO; obtain ⟨af, ar, F⟩ := Kd.at_int (rR E).2.2 D W Y; obtain rfl : (⟨go15, 0, none⟩ : Addr) = af := (by injection ar)
           (first | simp only [add_plain] at F | simp only [add_at] at F | simp only [Addr.add, Nat.zero_add] at F | skip)
           replace W := eq_true W; replace Y := eq_true Y; obtain ⟨c6, c7, bU⟩ := sL B
           (first | subst bU | obtain ⟨rfl, rfl⟩ := iS bU)
           obtain ⟨⟨M, aw, P⟩, Z, aa⟩ := xAt (Kd.at_int (rR B).2.2) D; cases aw; obtain ⟨⟨au, ax, Q⟩, ab, ac⟩ := xAt (Kd.at_int (rR B).2.2) A; obtain rfl := sJJ ax; refine start_ (n := 25) (S := fun w' => w'.cell? ⟨go15, (D).toNat, none⟩ = some (.int .i64 (rd J D)) ∧ w'.cell? (M.add (D).toNat) = some (.int .i64 (rd I D)) ∧ w'.cell? (M.add (A).toNat) = some (.int .i64 (rd I A))) (ds := []) (bl 25 0) (by kernel_rfl) rfl rfl ⟨F, P, Q⟩ (fun ai => ?_); refine with_tabW tabardref13_Classes.tab12 tabardref13_Classes.bits12 (fun ah az => ?_); generalize wr.drew = dj at B E z HB F P Q ai ⊢; refine pu_ 0 30 (bl 25 1) ah ?_; refine pu_ 1 31 (bl 25 3) ah ?_; refine pu_ 2 32 (bl 25 7) ah ?_; refine pu_ 4 34 (bl 25 23) ah ?_; refine tk3_ 3 33 (bl 25 31) ah az ai ?_; refine pu_ 5 35 (bl 25 63) ah ?_; refine pu_ 6 36 (bl 25 127) ah ?_; refine pu_ 7 37 (bl 25 255) ah ?_; refine pu_ 8 38 (bl 25 511) ah ?_; refine pu_ 9 39 (bl 25 1023) ah ?_; refine pu_ 11 41 (bl 25 3071) ah ?_; refine pu_ 12 42 (bl 25 7167) ah ?_; refine pu_ 13 43 (bl 25 15359) ah ?_; refine tk3_ 10 40 (bl 25 16383) ah az ai ?_; refine tk3_ 14 44 (bl 25 32767) ah az ai ?_; refine pu_ 15 45 (bl 25 65535) ah ?_; refine pu_ 16 46 (bl 25 131071) ah ?_; refine pu_ 17 47 (bl 25 262143) ah ?_; refine pn_ 18 48 (bl 25 524287) ah ?_; refine pn_ 19 49 (bl 25 1048575) ah ?_; refine pn_ 20 50 (bl 25 2097151) ah ?_; refine pn_ 21 51 (bl 25 4194303) ah ?_; refine pn_ 22 52 (bl 25 8388607) ah ?_; refine pn_ 23 53 (bl 25 16777215) ah ?_; refine pu_ 24 54 (bl 25 33554431) ah ?_; refine done_ (done_of ah.out (by kernel_rfl)) ?_
           try go_wp2
           (try simp only [← G])
           go_roundg k3
           case measure => have := aA.out; have := aB.out; have := bC.out; omega
           case rel => exact ⟨(J), (wrap64 (D + 1)), sI, H', ⟨by have := aA.out; have := aB.out; have := bC.out; omega⟩, ⟨by (try simp only [G]); (with_reducible repeat (first | apply Kd.R_alloc | apply Kd.R_drewN | apply Kd.R_drew)); exact B.out⟩, ⟨by (try simp only [G]); (with_reducible repeat (first | apply Kd.R_alloc | apply Kd.R_drewN | apply Kd.R_drew)); exact E.out⟩, ⟨by (try simp only [G]); (with_reducible repeat (first | refine blk_drewN ?_ _ | refine blk_drew ?_ | refine blk_alloc ?_ _)); exact z.out⟩, bT1 HB O⟩
         ·obtain ⟨b5, b6⟩ := bn aW; have H' := aM H; clear H
          try go_wp2
          replace B := aM (Kd.R_drew B.out); replace E := aM (Kd.R_drew E.out); replace z := kD z; replace HB := aM (below_drew1 HB.out); have W : 0 ≤ (D : Int) := oT aO; have Y : D < (J.length : Int) := oT aO; obtain ⟨af, ar, F⟩ := Kd.at_int (rR E).2.2 D W Y; obtain rfl : (⟨go15, 0, none⟩ : Addr) = af := (by injection ar)
          (first | simp only [add_plain] at F | simp only [add_at] at F | simp only [Addr.add, Nat.zero_add] at F | skip)
          replace W := eq_true W; replace Y := eq_true Y; refine start_ (n := 25) (S := fun w' => w'.cell? ⟨go15, (D).toNat, none⟩ = some (.int .i64 (rd J D))) (ds := []) (bl 25 0) (by kernel_rfl) rfl rfl (F) (fun ai => ?_); refine with_tabW tabardref13_Classes.tab12 tabardref13_Classes.bits12 (fun ah az => ?_); generalize wr.drew = dk at B E z HB F ai ⊢; refine pu_ 0 30 (bl 25 1) ah ?_; refine pu_ 1 31 (bl 25 3) ah ?_; refine pu_ 2 32 (bl 25 7) ah ?_; refine pu_ 4 34 (bl 25 23) ah ?_; refine take_ (i := 3) (N := some 33) (v := ?_) (a' := ?_) (bl 25 31) rfl rfl (take_ofW ah.out az.out (by kernel_rfl)) (fun _ _ _ h => h) (Or.inl ⟨by rfl, ?_⟩) ai ?_ ?_; rotate_left
          ·intro w' s0
           go_simp
           with_reducible rfl
          rotate_left
          ·simp only [Act.put, sA, sB, sC, i64_w, i32_w]
           rfl
          refine pu_ 5 35 (bl 25 63) ah ?_; refine pu_ 6 36 (bl 25 127) ah ?_; refine pn_ 7 37 (bl 25 255) ah ?_; refine pn_ 8 38 (bl 25 511) ah ?_; refine pn_ 9 39 (bl 25 1023) ah ?_; refine pn_ 10 40 (bl 25 2047) ah ?_; refine pn_ 11 41 (bl 25 4095) ah ?_; refine pn_ 12 42 (bl 25 8191) ah ?_; refine pn_ 13 43 (bl 25 16383) ah ?_; refine pn_ 14 44 (bl 25 32767) ah ?_; refine pn_ 15 45 (bl 25 65535) ah ?_; refine pu_ 16 46 (bl 25 131071) ah ?_; refine pu_ 17 47 (bl 25 262143) ah ?_; refine pn_ 18 48 (bl 25 524287) ah ?_; refine pn_ 19 49 (bl 25 1048575) ah ?_; refine pn_ 20 50 (bl 25 2097151) ah ?_; refine pn_ 21 51 (bl 25 4194303) ah ?_; refine pn_ 22 52 (bl 25 8388607) ah ?_; refine pn_ 23 53 (bl 25 16777215) ah ?_; refine pu_ 24 54 (bl 25 33554431) ah ?_; refine done_ (done_of ah.out (by kernel_rfl)) ?_
          try go_wp2
          (try simp only [← G])
          go_roundg k3
          case measure => have := aA.out; have := aB.out; have := bC.out; omega
          case rel => exact ⟨(J), (wrap64 (D + 1)), sI, H', ⟨by have := aA.out; have := aB.out; have := bC.out; omega⟩, ⟨by (try simp only [G]); (with_reducible repeat (first | apply Kd.R_alloc | apply Kd.R_drewN | apply Kd.R_drew)); exact B.out⟩, ⟨by (try simp only [G]); (with_reducible repeat (first | apply Kd.R_alloc | apply Kd.R_drewN | apply Kd.R_drew)); exact E.out⟩, ⟨by (try simp only [G]); (with_reducible repeat (first | refine blk_drewN ?_ _ | refine blk_drew ?_ | refine blk_alloc ?_ _)); exact z.out⟩, bT1 HB O⟩
        ·have b3 := decide_eq_false aK; clear aK
         by_cases bv : av = true
         ·subst bv
          rw [if_pos rfl] at H; have H' := aM H; clear H
          try go_wp2
          replace B := aM (Kd.R_drew B.out); replace E := aM (Kd.R_drew E.out); replace z := kD z; replace HB := aM (below_drew1 HB.out); refine start_ (n := 13) (S := fun w' => True) (ds := []) (bl 13 0) (by kernel_rfl) rfl rfl trivial (fun ai => ?_); refine with_tabW tabardref13_Classes.tab14 tabardref13_Classes.bits14 (fun ah az => ?_); generalize wr.drew = dl at B E z HB ai ⊢; refine pu_ 0 59 (bl 13 1) ah ?_; refine pu_ 1 60 (bl 13 3) ah ?_; refine pn_ 2 61 (bl 13 7) ah ?_; refine pn_ 3 62 (bl 13 15) ah ?_; refine pn_ 4 63 (bl 13 31) ah ?_; refine pn_ 5 64 (bl 13 63) ah ?_; refine pn_ 6 65 (bl 13 127) ah ?_; refine pn_ 7 66 (bl 13 255) ah ?_; refine pn_ 8 67 (bl 13 511) ah ?_; refine pn_ 9 68 (bl 13 1023) ah ?_; refine pn_ 10 69 (bl 13 2047) ah ?_; refine pu_ 11 70 (bl 13 4095) ah ?_; refine pu_ 12 6 (bl 13 8191) ah ?_; refine done_ (done_of ah.out (by kernel_rfl)) ?_
          try go_wp2
          (try simp only [← G])
          go_roundg k3
          case measure => have := aA.out; have := aB.out; have := bC.out; omega
          case rel => exact ⟨(J), (true), (wrap64 (A + 1)), sI, sI, H', ⟨by have := aA.out; have := aB.out; have := bC.out; omega⟩, ⟨by (try simp only [G]); (with_reducible repeat (first | apply Kd.R_alloc | apply Kd.R_drewN | apply Kd.R_drew)); exact B.out⟩, ⟨by (try simp only [G]); (with_reducible repeat (first | apply Kd.R_alloc | apply Kd.R_drewN | apply Kd.R_drew)); exact E.out⟩, ⟨by (try simp only [G]); (with_reducible repeat (first | refine blk_drewN ?_ _ | refine blk_drew ?_ | refine blk_alloc ?_ _)); exact z.out⟩, bT1 HB O⟩
         ·replace bv := Bool.eq_false_iff.mpr bv; subst bv
          rw [if_neg nF] at H
          apply iN H; clear H; intro bw H; have cM := dT bw; clear bw
          apply iN H; clear H; intro bx H; have ce := dT bx
          (try (have c52b0hl5_3 := ce; rw [G] at c52b0hl5_3))
          clear bx
          apply iN H; clear H; intro bz H; have cf := dT bz
          (try (have c53b0hl5_3 := cf; rw [G] at c53b0hl5_3))
          clear bz; have H' := aM H; clear H
          try go_wp2
          replace B := aM (Kd.R_drew B.out); replace E := aM (Kd.R_drew E.out); replace z := kD z; replace HB := aM (below_drew1 HB.out); have a5 : 0 ≤ (A : Int) := oT aO; have a6 : A < (J.length : Int) := oT aO; obtain ⟨cg, ct, aq⟩ := Kd.at_int (rR E).2.2 A a5 a6; obtain rfl : (⟨go15, 0, none⟩ : Addr) = cg := (by injection ct)
          (first | simp only [add_plain] at aq | simp only [add_at] at aq | simp only [Addr.add, Nat.zero_add] at aq | skip)
          replace a5 := eq_true a5; replace a6 := eq_true a6; obtain ⟨da, db, bV⟩ := sL B
          (first | subst bV | obtain ⟨rfl, rfl⟩ := iS bV)
          obtain ⟨⟨ch, cu, aN⟩, a7, a8⟩ := xAt (Kd.at_int (rR B).2.2) A; cases cu; refine start_ (n := 13) (S := fun w' => w'.cell? ⟨go15, (A).toNat, none⟩ = some (.int .i64 (rd J A)) ∧ w'.cell? (ch.add (A).toNat) = some (.int .i64 (rd I A))) (ds := []) (bl 13 0) (by kernel_rfl) rfl rfl ⟨aq, aN⟩ (fun ai => ?_); refine with_tabW tabardref13_Classes.tab14 tabardref13_Classes.bits14 (fun ah az => ?_); generalize wr.drew = dm at B E z HB aq aN ai ⊢; refine pu_ 0 59 (bl 13 1) ah ?_; refine pu_ 1 60 (bl 13 3) ah ?_; refine pu_ 2 61 (bl 13 7) ah ?_; refine pu_ 3 62 (bl 13 15) ah ?_; refine pu_ 4 63 (bl 13 31) ah ?_; refine pu_ 6 65 (bl 13 95) ah ?_; refine pu_ 7 66 (bl 13 223) ah ?_; refine pu_ 8 67 (bl 13 479) ah ?_; refine tk2_ 5 64 (bl 13 511) ah az ai ?_; refine tk2_ 9 68 (bl 13 1023) ah az ai ?_; refine pu_ 10 69 (bl 13 2047) ah ?_; refine pu_ 11 70 (bl 13 4095) ah ?_; refine pu_ 12 6 (bl 13 8191) ah ?_; refine done_ (done_of ah.out (by kernel_rfl)) ?_
          try go_wp2
          (try simp only [← G])
          go_roundg k3
          case measure => have := aA.out; have := aB.out; have := bC.out; omega
          case rel => exact ⟨(J), (((rd J A) != (rd I A))), (wrap64 (A + 1)), sI, sI, H', ⟨by have := aA.out; have := aB.out; have := bC.out; omega⟩, ⟨by (try simp only [G]); (with_reducible repeat (first | apply Kd.R_alloc | apply Kd.R_drewN | apply Kd.R_drew)); exact B.out⟩, ⟨by (try simp only [G]); (with_reducible repeat (first | apply Kd.R_alloc | apply Kd.R_drewN | apply Kd.R_drew)); exact E.out⟩, ⟨by (try simp only [G]); (with_reducible repeat (first | refine blk_drewN ?_ _ | refine blk_drew ?_ | refine blk_alloc ?_ _)); exact z.out⟩, bT1 HB O⟩
     ·have b1 := decide_eq_false aJ; clear aJ
      by_cases bA : av = true
      ·subst bA
       rw [if_pos rfl] at H; have H' := aM H; clear H
       go_wp2
       go_roundg k2
       case measure => have := aA.out; have := aB.out; omega
       case rel => exact ⟨(ae), H', ⟨by have := aA.out; have := aB.out; omega⟩, ⟨rM E (fun _ hk => trivial)⟩, kQ z, bT1 HB O⟩
      ·replace bA := Bool.eq_false_iff.mpr bA; subst bA
       rw [if_neg nF] at H; obtain rfl := Option.some.inj H
       go_wp2
       go_ret
       exact ⟨_, eW, rM B (fun _ hk => trivial), bS1 HB.out O.out⟩

end Go.Proofs.Ytbpeloobnjbgkaa.X

/- What the functions of this seat compute, and that the program's calls come to just that: written by this session's own program out of the translation; no condition. -/
import Derived.Test.YtbpeloobnjbgkaaX0
namespace Go.Proofs.Ytbpeloobnjbgkaa.X
open Go.RowKit Go.Proofs.YtbpeloobnjbgkaaW.PrintWords Go.Proofs.YtbpeloobnjbgkaaW.PrintLast Go.Proofs.YtbpeloobnjbgkaaW.PrintMore
attribute [local go_sem] max2_int min2_int max_two min_two max_three min_three max_four min_four
set_option linter.unusedVariables false
set_option linter.unusedSimpArgs false
set_option maxHeartbeats 8000000
set_option maxRecDepth 100000

/-! ### tabardlaw13_apart: function 19 -/
mutual
def tabardlaw13_apart.l0 : Nat → Int → List (List Bool) → Int → Int → List ByteArray → List Bool → List (List Int) → Option ((List (List Bool)))
 | 0, _, _, _, _, _, _, _ => none
 | k + 1, x3, x4, x16, x17, x565000, x565001, x565002 => if x17 < x16 then (if 0 ≤ x3 then (if (x3 : Int).toNat ≤ 281474976710656 then (if 0 ≤ x17 then (if x17 < (x4.length : Int) then (tabardlaw13_apart.l1 k x3 (x4.set (x17 : Int).toNat (List.replicate (x3 : Int).toNat false)) x17 x16 x17 x3 0 x565000 x565001 x565002) else (none)) else (none)) else (none)) else (none)) else (tabardlaw13_apart.l2 k x3 x4 true x565000 x565001 x565002)
def tabardlaw13_apart.l1 : Nat → Int → List (List Bool) → Int → Int → Int → Int → Int → List ByteArray → List Bool → List (List Int) → Option ((List (List Bool)))
 | 0, _, _, _, _, _, _, _, _, _, _ => none
 | k + 1, x3, x4, x5, x16, x17, x25, x26, x565000, x565001, x565002 => if x26 < x25 then (if 0 ≤ x5 then (if x5 < (x4.length : Int) then (if x5 < (x565001.length : Int) then (if 0 ≤ x26 then (if x26 < (x565001.length : Int) then (if x26 < ((rd_L4 x4 x5).length : Int) then (tabardlaw13_apart.l1 k x3 (x4.set (x5 : Int).toNat ((rd_L4 x4 x5).set (x26 : Int).toNat ((rdOf false x565001 x5) != (rdOf false x565001 x26)))) x5 x16 x17 x25 (wrap64 (x26 + 1)) x565000 x565001 x565002) else (none)) else (none)) else (none)) else (none)) else (none)) else (none)) else (tabardlaw13_apart.l0 k x3 x4 x16 (wrap64 (x17 + 1)) x565000 x565001 x565002)
def tabardlaw13_apart.l2 : Nat → Int → List (List Bool) → Bool → List ByteArray → List Bool → List (List Int) → Option ((List (List Bool)))
 | 0, _, _, _, _, _, _ => none
 | k + 1, x3, x4, x7, x565000, x565001, x565002 => if x7 = true then (tabardlaw13_apart.l3 k x3 x4 false x3 0 x565000 x565001 x565002) else (some x4)
def tabardlaw13_apart.l3 : Nat → Int → List (List Bool) → Bool → Int → Int → List ByteArray → List Bool → List (List Int) → Option ((List (List Bool)))
 | 0, _, _, _, _, _, _, _, _ => none
 | k + 1, x3, x4, x7, x49, x50, x565000, x565001, x565002 => if x50 < x49 then (tabardlaw13_apart.l4 k x3 x4 x7 x50 x49 x50 x3 0 x565000 x565001 x565002) else (tabardlaw13_apart.l2 k x3 x4 x7 x565000 x565001 x565002)
def tabardlaw13_apart.l4 : Nat → Int → List (List Bool) → Bool → Int → Int → Int → Int → Int → List ByteArray → List Bool → List (List Int) → Option ((List (List Bool)))
 | 0, _, _, _, _, _, _, _, _, _, _, _ => none
 | k + 1, x3, x4, x7, x8, x49, x50, x53, x54, x565000, x565001, x565002 => if x54 < x53 then (if 0 ≤ x8 then (if x8 < (x4.length : Int) then (if 0 ≤ x54 then (if x54 < ((rd_L4 x4 x8).length : Int) then (if rdOf false (rd_L4 x4 x8) x54 = true then (tabardlaw13_apart.l4 k x3 x4 x7 x8 x49 x50 x53 (wrap64 (x54 + 1)) x565000 x565001 x565002) else (if x8 < (x565002.length : Int) then (tabardlaw13_apart.l5 k x3 x4 x7 x8 x54 x49 x50 x53 x54 ((rd_L1 x565002 x8).length : Int) 0 x565000 x565001 x565002) else (none))) else (none)) else (none)) else (none)) else (none)) else (tabardlaw13_apart.l3 k x3 x4 x7 x49 (wrap64 (x50 + 1)) x565000 x565001 x565002)
def tabardlaw13_apart.l5 : Nat → Int → List (List Bool) → Bool → Int → Int → Int → Int → Int → Int → Int → Int → List ByteArray → List Bool → List (List Int) → Option ((List (List Bool)))
 | 0, _, _, _, _, _, _, _, _, _, _, _, _, _, _ => none
 | k + 1, x3, x4, x7, x8, x9, x49, x50, x53, x54, x69, x70, x565000, x565001, x565002 => if x70 < x69 then (if 0 ≤ x8 then (if x8 < (x565002.length : Int) then (if 0 ≤ x70 then (if x70 < ((rd_L1 x565002 x8).length : Int) then (if 0 ≤ (rd (rd_L1 x565002 x8) x70) then (if (rd (rd_L1 x565002 x8) x70) < (x4.length : Int) then (if 0 ≤ x9 then (if x9 < (x565002.length : Int) then (if x70 < ((rd_L1 x565002 x9).length : Int) then (if 0 ≤ (rd (rd_L1 x565002 x9) x70) then (if (rd (rd_L1 x565002 x9) x70) < ((rd_L4 x4 (rd (rd_L1 x565002 x8) x70)).length : Int) then (if rdOf false (rd_L4 x4 (rd (rd_L1 x565002 x8) x70)) (rd (rd_L1 x565002 x9) x70) = true then (if x8 < (x4.length : Int) then (if x9 < ((rd_L4 x4 x8).length : Int) then (tabardlaw13_apart.l4 k x3 (x4.set (x8 : Int).toNat ((rd_L4 x4 x8).set (x9 : Int).toNat true)) true x8 x49 x50 x53 (wrap64 (x54 + 1)) x565000 x565001 x565002) else (none)) else (none)) else (tabardlaw13_apart.l5 k x3 x4 x7 x8 x9 x49 x50 x53 x54 x69 (wrap64 (x70 + 1)) x565000 x565001 x565002)) else (none)) else (none)) else (none)) else (none)) else (none)) else (none)) else (none)) else (none)) else (none)) else (none)) else (none)) else (tabardlaw13_apart.l4 k x3 x4 x7 x8 x49 x50 x53 (wrap64 (x54 + 1)) x565000 x565001 x565002)
end
def tabardlaw13_apart.f (k : Nat) (l0_0 : List ByteArray) (l0_1 : List Bool) (l0_2 : List (List Int)) : Option ((List (List Bool))) := if 0 ≤ (l0_1.length : Int) then (if ((l0_1.length : Int) : Int).toNat ≤ 11728124029610 then (tabardlaw13_apart.l0 k (l0_1.length : Int) (List.replicate ((l0_1.length : Int) : Int).toNat []) (l0_1.length : Int) 0 l0_0 l0_1 l0_2) else (none)) else (none)
theorem tabardlaw13_apart.mono_l : ∀ k, (∀ z A B D E F G, LeO (tabardlaw13_apart.l0 k z A B D E F G) (tabardlaw13_apart.l0 (k + 1) z A B D E F G)) ∧ (∀ z A B D E F G I J L, LeO (tabardlaw13_apart.l1 k z A B D E F G I J L) (tabardlaw13_apart.l1 (k + 1) z A B D E F G I J L)) ∧ (∀ z A B D E F, LeO (tabardlaw13_apart.l2 k z A B D E F) (tabardlaw13_apart.l2 (k + 1) z A B D E F)) ∧ (∀ z A B D E F G I, LeO (tabardlaw13_apart.l3 k z A B D E F G I) (tabardlaw13_apart.l3 (k + 1) z A B D E F G I)) ∧ (∀ z A B D E F G I J L M, LeO (tabardlaw13_apart.l4 k z A B D E F G I J L M) (tabardlaw13_apart.l4 (k + 1) z A B D E F G I J L M)) ∧ (∀ z A B D E F G I J L M O P Q, LeO (tabardlaw13_apart.l5 k z A B D E F G I J L M O P Q) (tabardlaw13_apart.l5 (k + 1) z A B D E F G I J L M O P Q))
 | 0 => ⟨fun _ _ _ _ _ _ _ r h => by simp [tabardlaw13_apart.l0] at h, fun _ _ _ _ _ _ _ _ _ _ r h => by simp [tabardlaw13_apart.l1] at h, fun _ _ _ _ _ _ r h => by simp [tabardlaw13_apart.l2] at h, fun _ _ _ _ _ _ _ _ r h => by simp [tabardlaw13_apart.l3] at h, fun _ _ _ _ _ _ _ _ _ _ _ r h => by simp [tabardlaw13_apart.l4] at h, fun _ _ _ _ _ _ _ _ _ _ _ _ _ _ r h => by simp [tabardlaw13_apart.l5] at h⟩
 | k + 1 => by
  obtain ⟨ih0, ih1, ih2, ih3, ih4, ih5⟩ := tabardlaw13_apart.mono_l k; refine ⟨?_, ?_, ?_, ?_, ?_, ?_⟩
  ·intro z A B D E F G
   unfold tabardlaw13_apart.l0
   repeat' first | (with_reducible first | exact ih0 _ _ _ _ _ _ _ | exact ih1 _ _ _ _ _ _ _ _ _ _ | exact ih2 _ _ _ _ _ _ | exact ih3 _ _ _ _ _ _ _ _ | exact ih4 _ _ _ _ _ _ _ _ _ _ _ | exact ih5 _ _ _ _ _ _ _ _ _ _ _ _ _ _ | exact lA | apply lI | refine lB ?_ fun _ => ?_) | exact lN _ | apply lI | refine lB ?_ fun _ => ?_
  ·intro z A B D E F G I J L
   unfold tabardlaw13_apart.l1
   repeat' first | (with_reducible first | exact ih0 _ _ _ _ _ _ _ | exact ih1 _ _ _ _ _ _ _ _ _ _ | exact ih2 _ _ _ _ _ _ | exact ih3 _ _ _ _ _ _ _ _ | exact ih4 _ _ _ _ _ _ _ _ _ _ _ | exact ih5 _ _ _ _ _ _ _ _ _ _ _ _ _ _ | exact lA | apply lI | refine lB ?_ fun _ => ?_) | exact lN _ | apply lI | refine lB ?_ fun _ => ?_
  ·intro z A B D E F
   unfold tabardlaw13_apart.l2
   repeat' first | (with_reducible first | exact ih0 _ _ _ _ _ _ _ | exact ih1 _ _ _ _ _ _ _ _ _ _ | exact ih2 _ _ _ _ _ _ | exact ih3 _ _ _ _ _ _ _ _ | exact ih4 _ _ _ _ _ _ _ _ _ _ _ | exact ih5 _ _ _ _ _ _ _ _ _ _ _ _ _ _ | exact lA | apply lI | refine lB ?_ fun _ => ?_) | exact lN _ | apply lI | refine lB ?_ fun _ => ?_
  ·intro z A B D E F G I
   unfold tabardlaw13_apart.l3
   repeat' first | (with_reducible first | exact ih0 _ _ _ _ _ _ _ | exact ih1 _ _ _ _ _ _ _ _ _ _ | exact ih2 _ _ _ _ _ _ | exact ih3 _ _ _ _ _ _ _ _ | exact ih4 _ _ _ _ _ _ _ _ _ _ _ | exact ih5 _ _ _ _ _ _ _ _ _ _ _ _ _ _ | exact lA | apply lI | refine lB ?_ fun _ => ?_) | exact lN _ | apply lI | refine lB ?_ fun _ => ?_
  ·intro z A B D E F G I J L M
   unfold tabardlaw13_apart.l4
   repeat' first | (with_reducible first | exact ih0 _ _ _ _ _ _ _ | exact ih1 _ _ _ _ _ _ _ _ _ _ | exact ih2 _ _ _ _ _ _ | exact ih3 _ _ _ _ _ _ _ _ | exact ih4 _ _ _ _ _ _ _ _ _ _ _ | exact ih5 _ _ _ _ _ _ _ _ _ _ _ _ _ _ | exact lA | apply lI | refine lB ?_ fun _ => ?_) | exact lN _ | apply lI | refine lB ?_ fun _ => ?_
  ·intro z A B D E F G I J L M O P Q
   unfold tabardlaw13_apart.l5
   repeat' first | (with_reducible first | exact ih0 _ _ _ _ _ _ _ | exact ih1 _ _ _ _ _ _ _ _ _ _ | exact ih2 _ _ _ _ _ _ | exact ih3 _ _ _ _ _ _ _ _ | exact ih4 _ _ _ _ _ _ _ _ _ _ _ | exact ih5 _ _ _ _ _ _ _ _ _ _ _ _ _ _ | exact lA | apply lI | refine lB ?_ fun _ => ?_) | exact lN _ | apply lI | refine lB ?_ fun _ => ?_
theorem tabardlaw13_apart.mono : ∀ a0 a1 a2 k, LeO (tabardlaw13_apart.f k a0 a1 a2) (tabardlaw13_apart.f (k + 1) a0 a1 a2) := by
 intro a0 a1 a2 k; obtain ⟨ih0, ih1, ih2, ih3, ih4, ih5⟩ := tabardlaw13_apart.mono_l k
 unfold tabardlaw13_apart.f
 repeat' first | (with_reducible first | exact ih0 _ _ _ _ _ _ _ | exact ih1 _ _ _ _ _ _ _ _ _ _ | exact ih2 _ _ _ _ _ _ | exact ih3 _ _ _ _ _ _ _ _ | exact ih4 _ _ _ _ _ _ _ _ _ _ _ | exact ih5 _ _ _ _ _ _ _ _ _ _ _ _ _ _ | exact lA | apply lI | refine lB ?_ fun _ => ?_) | exact lN _ | apply lI | refine lB ?_ fun _ => ?_
def tabardlaw13_apart.T10 : Bool × List (List Nat × List Nat) := (true, [([], []), ([], []), ([0, 1], [0, 1]), ([2], [2]), ([], []), ([], []), ([5], [5]), ([], []), ([6, 7], [6, 7]), ([8], [8]), ([], []), ([10], [10]), ([], []), ([11, 12], [11, 12]), ([13], [13]), ([9, 14], [9, 14]), ([3, 4, 0, 1, 2, 3, 4, 5, 6, 7, 8, 9, 10, 11, 12, 13, 14, 15], [3, 4]), ([16, 15, 0, 1, 2, 3, 4, 5, 6, 7, 8, 9, 10, 11, 12, 13, 14, 15], [15, 16])])
def tabardlaw13_apart.B10 : List Nat := [0, 0, 3, 7, 0, 0, 32, 0, 224, 480, 0, 1024, 0, 7168, 15360, 32736, 65535, 131071]
theorem tabardlaw13_apart.tab10 : rtab .any (opsOf Try.f19 10) = tabardlaw13_apart.T10 := by kernel_rfl
theorem tabardlaw13_apart.bits10 : waitsOk tabardlaw13_apart.T10.2 tabardlaw13_apart.B10 = true := by kernel_rfl
def tabardlaw13_apart.T26 : Bool × List (List Nat × List Nat) := (true, [([], []), ([], []), ([1], [1]), ([], []), ([2, 3], [2, 3]), ([4], [4]), ([], []), ([5, 6], [5, 6]), ([7], [7]), ([0, 8], [0, 8]), ([9], [9]), ([], []), ([11], [11]), ([], []), ([12, 13], [12, 13]), ([14], [14]), ([], []), ([15, 16], [15, 16]), ([17], [17]), ([10, 18], [10, 18]), ([19], [19])])
def tabardlaw13_apart.B26 : List Nat := [0, 0, 2, 0, 14, 30, 0, 126, 254, 511, 1023, 0, 2048, 0, 14336, 30720, 0, 129024, 260096, 524287, 1048575]
theorem tabardlaw13_apart.tab26 : rtab .any (opsOf Try.f19 26) = tabardlaw13_apart.T26 := by kernel_rfl
theorem tabardlaw13_apart.bits26 : waitsOk tabardlaw13_apart.T26.2 tabardlaw13_apart.B26 = true := by kernel_rfl
theorem tabardlaw13_apart.calls (k : Nat) (aF : Option Addr) (aG : Nat) (Y : List ByteArray) (aP : Option Addr) (aH : Nat) (G : List Bool) (bd : Option Addr) (aI : Nat) (B : List (List Int)) (r : List (List Bool)) (w : World) (cn : Kd.C Kd.string w aF Y.length Y) (co : Y.length ≤ aG) (cp : Kd.C Kd.bool w aP G.length G) (cq : G.length ≤ aH) (cr : Kd.C (Kd.slice 3 (Kd.int .i64)) w bd B.length B) (ct : B.length ≤ aI) (h : tabardlaw13_apart.f k Y G B = some r) :
  Calls Try.prog 19 #[.agg #[.slice aF Y.length aG, .slice aP G.length aH, .slice bd B.length aI]] w fun e w' => ∃ ej : Value, e = .returned (ej) ∧ Kd.S (Kd.slice 4 Kd.bool) 23 w' w.heap.size (fun _ => True) ej r ∧ Below w.heap.size w w' := by
 have hu26 := Try.underlying26; have e2 := aM cn; have e3 := aM co; clear cn co; have cu := aM cp; have e4 := aM cq; clear cp cq; have a9 := aM cr; have e5 := aM ct; clear cr ct; have HB := aM (Below.refl w.heap.size w); rw [tabardlaw13_apart.f] at h; have H := h; clear h
 apply iN H; clear H; intro c2 H; have fo := eq_true c2; have fp := dT c2; clear c2
 apply iN H; clear H; intro c3 H; have fq := eq_true c3; have fr := dT c3; clear c3; obtain ⟨el, bh⟩ : ∃ y_ : List (List Bool), y_ = (List.replicate ((G.length : Int) : Int).toNat []) := ⟨_, rfl⟩
 first | replace H := rI bh H | rw [← bh] at H
 have dU := aM bh; clear bh; have H' := aM H; clear H
 go_enter Try.func19, Try.ntmps19
 go_wp2_with (first | ((with_reducible refine gate_dst (N := 1) rfl ?_); refine be_ (cs := #[.slice aF Y.length aG, .slice aP G.length aH, .slice bd B.length aI]) (t := 26) ?_; intro ag hg w4 fG hb; have F := aM (fG); have e6 := gE hg (bP0 HB); have P := gE hg (bP0 HB); replace HB := hS0 HB hb; clear hb fG hg; obtain ⟨eM, eN, eO, eP, eQ, eR⟩ := bG3 F) | ((with_reducible refine gate_dst (N := 15) rfl ?_); refine Kd.S_make (Kd.slice 4 Kd.bool) _ 23 rfl (N := 15) rfl 39 _ _ rfl (G.length : Int) rfl rfl Try.underlying39 (.slice none 0 0) 24 info23 rfl (by decide) (by omega) [] (ok := fun _ => True) (okp := fun _ => True) ⟨_, rfl, Kd.R_nil _ _ _ _ _⟩ (fun _ hk => hk) trivial (oT aO) (Nat.le_trans (Nat.mul_le_mul_right _ (oT aO : (G.length : Int).toNat ≤ 11728124029610)) (by omega)) (Below.refl _ _) (Nat.le_refl _) ?_; intro bN w6 cv hb fH fF; clear fH fF; rw [← dU.out] at cv; have dV := aM (Kd.S_lower cv (below_size (bP1 HB P))); replace F := kB F hb; replace HB := hS1 HB P hb; clear hb cv))
 let q_1 : World → Prop := fun w' => w'.heap[ag]? = some (.cells #[(.slice aF Y.length aG), (.slice aP G.length aH), (.slice bd B.length aI)] 26 (0, 0)); go_loopg [17] k (fun kq eS w' => ∃ (ai : List (List Bool)) (I : Int), eS = .int .i64 I ∧ Aside0 (tabardlaw13_apart.l0 kq (G.length : Int) ai (G.length : Int) I Y G B = some r) ∧ Aside0 (kq ≤ k) ∧ Aside0 (Kd.S (Kd.slice 4 Kd.bool) 23 w' w.heap.size (fun _ => True) bN ai) ∧ Aside0 (q_1 w') ∧ BA w w')
 case atStart => exact ⟨(el), (0), sI, H', ⟨Nat.le_refl _⟩, ⟨by (with_reducible repeat (first | apply Kd.S_alloc | apply Kd.S_drewN | apply Kd.S_drew)); exact dV.out⟩, kQ F, bT1 HB P⟩
 case round =>
  clear H'
  obtain ⟨ai, I, rfl, HA, fB, D, F, HB⟩ := hrel; cases gk with
  | zero => exact absurd HA.out (by simp [tabardlaw13_apart.l0])
  | succ k1 =>
   have H := HA.out; clear HA; simp only [tabardlaw13_apart.l0] at H
   apply iB H <;> clear H <;> intro c8 H
   ·have em := dT c8; clear c8
    apply iN H; clear H; intro c9 H; have fs := eq_true c9; have ft := dT c9; clear c9
    apply iN H; clear H; intro b4 H; have e7 := eq_true b4; have e8 := dT b4; clear b4; obtain ⟨dl, bi⟩ : ∃ y_ : List Bool, y_ = (List.replicate ((G.length : Int) : Int).toNat false) := ⟨_, rfl⟩
    first | replace H := rI bi H | rw [← bi] at H
    have dW := aM bi; clear bi
    apply iN H; clear H; intro cw H; have e9 := dT cw; clear cw
    apply iN H; clear H; intro cx H; have fa := dT cx; clear cx; obtain ⟨dm, bj⟩ : ∃ y_ : List (List Bool), y_ = (ai.set (I : Int).toNat dl) := ⟨_, rfl⟩
    first | replace H := rI bj H | rw [← bj] at H
    have dX := aM bj; clear bj; have H' := aM H; clear H
    go_wp2_with (first | ((with_reducible refine gate_dst (N := 23) rfl ?_); refine Kd.R_make Kd.bool _ 4 rfl (N := 23) rfl 23 _ _ rfl (G.length : Int) rfl rfl Try.underlying23 (.bool false) 1 info4 rfl (by decide) (by omega) false (ok := fun _ => True) (okp := fun _ => True) rfl (fun _ hk => hk) trivial (oT aO) (Nat.le_trans (Nat.mul_le_mul_right _ (oT aO : (G.length : Int).toNat ≤ 281474976710656)) (by omega)) (Below.refl _ _) (Nat.le_refl _) ?_; intro bO dn bq hb fH fF; clear fH fF; replace bq := nW dW bq; replace D := aM (Kd.S_elder' (by (with_reducible repeat (first | apply Kd.S_alloc | apply Kd.S_drewN | apply Kd.S_drew)); exact D.out) (Kd.R_base bq) hb); have bP := rW bq (bP1 HB P); obtain ⟨Ab_, cb_, rfl⟩ := sL bP; replace F := kB F hb; replace HB := hS1 HB P hb; clear hb bq; have dp : 0 ≤ (I : Int) := oT aO; have dq : (I : Int) < ((ai.length : Int) : Int) := oT aO; obtain ⟨go13, b7, dr, dt, gl13, cl13, HG13⟩ := Kd.S_form D.out (by omega); (first | cases dr | (injection dr with ea_ en_ ec_; (first | subst ea_ | (injection ea_ with ea_; subst ea_)); subst ec_; clear en_)); have GB13 := aM dt; have GG13 := aM HG13; clear dt gl13 HG13; obtain ⟨_, ce13, hcl13, hM13, cy, hfr13, _, _⟩ := Kd.S_elem D.out [] (I : Int) dp dq; obtain ⟨ve13_0, rfl, ge13_0⟩ := hM13; have du := cy 0 _ rfl; have hf13_0 := hfr13 0; (try simp only [show ((Kd.slice 4 Kd.bool)).sz = 1 from rfl, Nat.mul_one, Nat.add_zero] at du); (try simp only [show ((Kd.slice 4 Kd.bool)).sz = 1 from rfl, Nat.mul_one, Nat.add_zero] at hf13_0); clear hcl13 cy hfr13; replace dp := eq_true dp; replace dq := eq_true dq; have n_ := aM (Kd.S_mono (ok' := (fun k_ => some k_ ≠ ((.slice Ab_ dl.length cb_ : Value)).ownBlock)) D.out (fun k_ hk => hk.2)); clear D; have D := n_; clear n_; have en := aM (show Kd.S (Kd.slice 4 Kd.bool) 23 dn w.heap.size (fun k_ => ((fun _ => True)) k_ ∧ ¬ ((fun k_ => some k_ = ((.slice Ab_ dl.length cb_ : Value)).ownBlock)) k_) (.slice (some ⟨go13, 0, none⟩) ai.length b7) ai from (by (with_reducible repeat (first | apply Kd.S_alloc | apply Kd.S_drewN | apply Kd.S_drew)); exact Kd.S_mono D.out (fun k_ hk => ⟨trivial, fun e_ => hk e_⟩))); obtain ⟨oki16, ce16, hcl16, hM16, cz, hfr16, hoki16, hH16⟩ := Kd.S_elem en.out [] (I : Int) (oT aO) (by have h_ : (I : Int) < ((ai.length : Int) : Int) := oT aO; first | exact h_ | (have e_ := (Kd.S_reads' D.out).1; omega) | simpa using h_); obtain ⟨ve16_0, rfl, ge16_0⟩ := hM16; have HP16 := Kd.S_seg hH16 (oT aO) (by have h_ : (I : Int) < ((ai.length : Int) : Int) := oT aO; first | exact h_ | (have e_ := (Kd.S_reads' D.out).1; omega) | simpa using h_) (seg := [(.slice Ab_ dl.length cb_)]) (j := 0) (show 1 ≤ 1 from by decide) (x' := dl) (Kd.M_row (Kd.R_mono (Kd.R_tight rfl (Kd.R_mono (ok' := fun k_ => ((fun _ => True)) k_ ∧ k_ ≠ go13) (Kd.R_apart' (bP.out) (Kd.S_typed D.out) (by decide)) (fun k_ hk => ⟨trivial, fun e_ => (hk.2) (by rw [e_]; rfl)⟩))) (fun _ h_ => Or.inr (h_)))) (fun _ hk => hk) (fun k_ hk_ => ((Kd.R_mono (ok' := fun k_ => ((fun _ => True)) k_ ∧ k_ ≠ go13) (Kd.R_apart' (bP.out) (Kd.S_typed D.out) (by decide)) (fun k_ hk => ⟨trivial, fun e_ => (hk.2) (by rw [e_]; rfl)⟩))).1 k_ hk_.symm); have dv := cz 0 _ rfl; (try simp only [show ((Kd.slice 4 Kd.bool)).sz = 1 from rfl, Nat.mul_one, Nat.add_zero] at dv); have hf16_0 := hfr16 0; (try simp only [show ((Kd.slice 4 Kd.bool)).sz = 1 from rfl, Nat.mul_one, Nat.add_zero] at hf16_0); clear hcl16 cz hfr16 hoki16 hH16; (try simp only [show ((Kd.slice 4 Kd.bool)).sz = 1 from rfl, Nat.mul_one, Nat.add_zero] at HP16)) | ((with_reducible refine gate_store (t := 23) (p := 24) rfl ?_); refine store_event (t := 23) (p := 24) (v := ?vo_w17) (w1 := (dn.setCell ⟨go13, (I : Int).toNat, none⟩ ((.slice Ab_ dl.length cb_)))) ?hg ?ho ?hn ?hr ?_; (case ho => rfl); (case hg => rfl); (case hn => rfl); (case hr => first | (go_simp; done) | (go_simp; rfl)); intro dw hw; have hg : dn.grownBy dw (some go13) := (by rw [hw]; exact HP16.2); have hp_ : Kd.S (Kd.slice 4 Kd.bool) 23 dw w.heap.size (fun _ => True) (.slice (some ⟨go13, 0, none⟩) ai.length b7) dm := (by rw [hw, dX.out]; exact HP16.1); clear HP16; replace F := aM (blk_grown (g := ag) (o := .cells #[.slice aF Y.length aG, .slice aP G.length aH, .slice bd B.length aI] 26 (0, 0)) (kO F.out) hg (Kd.S_ne D.out F.out (by decide))); replace D := aM (hp_); replace HB := aM ((by rw [hw]; exact below_set (HB.out) GB13.out : Below w.heap.size w dw)); clear bP; clear hg hw hp_))
    go_loopg [26] k1 (fun kq eT w' => ∃ (Q : List (List Bool)) (O : Int), eT = .int .i64 O ∧ Aside0 (tabardlaw13_apart.l1 kq (G.length : Int) Q I (G.length : Int) I (G.length : Int) O Y G B = some r) ∧ Aside0 (kq ≤ k1) ∧ Aside0 (Kd.S (Kd.slice 4 Kd.bool) 23 w' w.heap.size (fun _ => True) (.slice (some ⟨go13, 0, none⟩) ai.length b7) Q) ∧ Aside0 (q_1 w') ∧ BA w w')
    case atStart => exact ⟨(dm), (0), sI, H', ⟨Nat.le_refl _⟩, ⟨by (with_reducible repeat (first | apply Kd.S_alloc | apply Kd.S_drewN | apply Kd.S_drew)); exact D.out⟩, kQ F, bT1 HB P⟩
    case round =>
     clear H'
     obtain ⟨Q, O, rfl, HA, dk, D, F, HB⟩ := hrel; have W := (Kd.S_reads' D.out).1; rw [W] at D
     (try simp only [W])
     (try simp only [W] at F)
     cases gk with
     | zero => exact absurd HA.out (by simp [tabardlaw13_apart.l1])
     | succ k2 =>
      have H := HA.out; clear HA; simp only [tabardlaw13_apart.l1] at H
      apply iB H <;> clear H <;> intro bx H
      ·have bQ := dT bx
       (try (have c18b0hl4_2 := bQ; rw [W] at c18b0hl4_2))
       clear bx
       apply iN H; clear H; intro cA H; have fb := dT cA; clear cA
       apply iN H; clear H; intro cB H; have dY := dT cB
       (try (have c20b0hl4_2 := dY; rw [W] at c20b0hl4_2))
       clear cB
       apply iN H; clear H; intro cC H; have dZ := dT cC
       (try (have c21b0hl4_2 := dZ; rw [W] at c21b0hl4_2))
       clear cC
       apply iN H; clear H; intro cD H; have fc := dT cD; clear cD
       apply iN H; clear H; intro cE H; have d0 := dT cE
       (try (have c23b0hl4_2 := d0; rw [W] at c23b0hl4_2))
       clear cE
       apply iN H; clear H; intro cF H; have d1 := dT cF
       (try (have c24b0hl4_2 := d1; rw [W] at c24b0hl4_2))
       clear cF; obtain ⟨dx, bk⟩ : ∃ y_ : List Bool, y_ = ((rd_L4 Q I).set (O : Int).toNat ((rdOf false G I) != (rdOf false G O))) := ⟨_, rfl⟩
       first | replace H := rI bk H | rw [← bk] at H
       have d2 := aM bk; clear bk; obtain ⟨eo, bm⟩ : ∃ y_ : List (List Bool), y_ = (Q.set (I : Int).toNat dx) := ⟨_, rfl⟩
       first | replace H := rI bm H | rw [← bm] at H
       have d3 := aM bm; clear bm; have H' := aM H; clear H
       try go_wp2
       replace D := aM (Kd.S_drew D.out); replace F := kD F; replace HB := aM (below_drew1 HB.out); have bR : 0 ≤ (I : Int) := oT aO; have bS : I < (Q.length : Int) := oT aO; obtain ⟨d4, dy, dz, ep, aj, bz, bA⟩ := at_L4 (Kd.S_reads' D.out).2.2 I bR bS; obtain rfl : (⟨go13, 0, none⟩ : Addr) = d4 := (by injection ep); obtain ⟨ce572, hce572, hMe572, b5⟩ := Kd.S_get D.out [] I bR (by first | exact bS | exact oT aO | (have e_ := (Kd.S_reads' D.out).1; omega)); obtain ⟨ve572_0, rfl, ge572_0⟩ := hMe572; have am := b5 0 _ rfl; rw [Nat.add_zero, show ((Kd.slice 4 Kd.bool)).sz = 1 from rfl, Nat.mul_one] at am; replace am := Option.some.inj (am.symm.trans aj); rw [am] at ge572_0; have HL572_0 := aM (show Kd.R Kd.bool 4 _ _ _ _ (rd_L4 Q I) from ge572_0); clear am ge572_0; have bB := aM aj; clear b5 hce572
       (first | simp only [add_plain] at aj | simp only [add_at] at aj | simp only [Addr.add, Nat.zero_add] at aj | skip)
       have db := aM bA; have eB := aM bz; clear bA bz; replace bR := eq_true bR; replace bS := eq_true bS; have b8 : 0 ≤ (I : Int) := oT aO; have b9 : I < (G.length : Int) := oT aO; obtain ⟨bn, er, aS⟩ := Kd.at_bool cu.out I b8 b9; have bC := aS; cases er; replace aS := cX HB aS; replace b8 := eq_true b8; replace b9 := eq_true b9; have ca : 0 ≤ (O : Int) := oT aO; have cb : O < (G.length : Int) := oT aO; obtain ⟨d5, es, aT⟩ := Kd.at_bool cu.out O ca cb; have bD := aT; obtain rfl := sJJ es; replace aT := cX HB aT; replace ca := eq_true ca; replace cb := eq_true cb; have dA : 0 ≤ (O : Int) := oT aO; have dB : (O : Int) < (((rd_L4 Q I).length : Int) : Int) := oT aO; obtain ⟨go25, fu, dC, dD, gl25, cl25, HG25⟩ := Kd.R_form HL572_0.out (by omega)
       (first | cases dC | (injection dC with ea_ en_ ec_; (first | subst ea_ | (injection ea_ with ea_; subst ea_)); subst ec_; clear en_))
       have GB25 := aM dD; have GG25 := aM HG25; clear dD gl25 HG25; obtain ⟨dE, hf25_0⟩ := Kd.R_celln false HL572_0.out (O : Int) dA dB; replace dA := eq_true dA; replace dB := eq_true dB; have et : (I : Int) < (Q.length : Int) := (by have h_ : (I : Int) < ((Q.length : Int) : Int) := oT aO; first | exact h_ | (have e_ := (Kd.S_reads' D.out).1; omega) | simpa only [List.length_set, List.length_set] using h_); obtain ⟨oki27, ce27, hcl27, hM27, cG, hok27, hbk27⟩ := Kd.S_borrow D.out [] (I : Int) (oT aO) et; obtain ⟨ve27_0, rfl, ge27_0⟩ := hM27; have bT := cG 0 _ rfl; rw [Nat.add_zero, show ((Kd.slice 4 Kd.bool)).sz = 1 from rfl, Nat.mul_one] at bT; replace bT := Option.some.inj (bT.symm.trans bB.out); subst bT; clear cG hcl27; replace ge27_0 := (show Kd.R Kd.bool 4 _ _ _ _ (rd_L4 Q I) from ge27_0); have HP27 := Kd.R_putg ge27_0 (O : Int) ((rdOf false G I) != (rdOf false G O)); rw [← d2.out] at HP27; have HS27 := hbk27 HP27.2 (fun k_ e_ => by injection e_ with e_; subst e_; exact ge27_0.1 _ rfl) (x' := dx) (Kd.M_row HP27.1); rw [← d3.out] at HS27; have dF := aM HS27; clear HP27 HS27 hbk27 hok27; refine start_ (n := 18) (S := fun w' => w'.cell? ⟨ag, 0, none⟩ = some (.slice aF Y.length aG) ∧ w'.cell? ⟨ag, 1, none⟩ = some (.slice (some bn) G.length aH) ∧ w'.cell? ⟨ag, 2, none⟩ = some (.slice bd B.length aI) ∧ w'.cell? ⟨go13, (I).toNat, none⟩ = some (.slice (some ⟨go25, 0, none⟩) (rd_L4 Q I).length dz) ∧ w'.cell? (bn.add (I).toNat) = some (.bool (rdOf false G I)) ∧ w'.cell? (bn.add (O).toNat) = some (.bool (rdOf false G O))) (ds := [17]) (bl 18 0) (by kernel_rfl) rfl rfl ⟨(blk_cell F.out 0).trans rfl, (blk_cell F.out 1).trans rfl, (blk_cell F.out 2).trans rfl, aj, ((HB.out.cell (World.block_lt_of_cell? w _ bC)).trans bC), ((HB.out.cell (World.block_lt_of_cell? w _ bD)).trans bD)⟩ (fun da => ?_); refine with_tabW tabardlaw13_apart.tab10 tabardlaw13_apart.bits10 (fun cc di => ?_); generalize wr.drew = fz at D F HB GG25 HL572_0 dF db bB hf25_0 dE aj aS aT da ⊢; refine pu_ 0 29 (bl 18 1) cc ?_; refine pu_ 1 30 (bl 18 3) cc ?_; refine pu_ 2 31 (bl 18 7) cc ?_; refine pu_ 4 33 (bl 18 23) cc ?_; refine pu_ 5 34 (bl 18 55) cc ?_; refine pu_ 7 36 (bl 18 183) cc ?_; refine pu_ 10 39 (bl 18 1207) cc ?_; refine pu_ 12 41 (bl 18 5303) cc ?_; refine tk6_ 3 32 (bl 18 5311) cc di da ?_; refine tk6_ 6 35 (bl 18 5375) cc di da ?_; refine pu_ 8 37 (bl 18 5631) cc ?_; refine tk6_ 9 38 (bl 18 6143) cc di da ?_; refine tk6_ 11 40 (bl 18 8191) cc di da ?_; refine pu_ 13 42 (bl 18 16383) cc ?_; refine tk6_ 14 43 (bl 18 32767) cc di da ?_; refine pu_ 15 44 (bl 18 65535) cc ?_; refine pu_ 16 45 (bl 18 131071) cc ?_; refine last_ (i := 17) (N := none) (bl 18 262143) rfl rfl (one_of cc.out (by kernel_rfl)) (by decide) (fun K hK => ?_); refine skip_ (w1 := ?_) (by rfl) rfl ?_ ?_; rotate_left
       ·go_simp
        rfl
       refine hK.out _ _ ?_; clear hK K; refine done_ (done_of cc.out (by kernel_rfl)) ?_
       try go_wp2
       (try simp only [← W])
       go_roundg k2
       case measure => have := fB.out; have := dk.out; omega
       case rel => exact ⟨(eo), (wrap64 (O + 1)), sI, H', ⟨by have := fB.out; have := dk.out; omega⟩, ⟨by (try simp only [W]); (with_reducible repeat (first | apply Kd.S_alloc | apply Kd.S_drewN | apply Kd.S_drew)); exact dF.out⟩, ⟨by (try simp only [W]); (with_reducible repeat (first | refine blk_drewN ?_ _ | refine blk_drew ?_ | refine blk_alloc ?_ _)); refine blk_far ?_ (by have h_ := Kd.R_ne HL572_0.out F.out (by decide); intro e_; exact h_ (by rw [e_]; rfl)) _; (with_reducible repeat (first | refine blk_drewN ?_ _ | refine blk_drew ?_ | refine blk_alloc ?_ _)); exact F.out⟩, ⟨by repeat (first | (with_reducible first | exact HB.out | apply below_alloc | apply pw_below_drewN | apply below_drew1 | refine below_set ?_ GB25.out | refine below_set ?_ P.out) | exact HB.out)⟩⟩
      ·have bQ := decide_eq_false bx
       (try (have c18b0hl4_2 := bQ; rw [W] at c18b0hl4_2))
       clear bx; have H' := aM H; clear H
       go_wp2
       (try simp only [← W])
       go_roundg k2
       case measure => have := fB.out; have := dk.out; omega
       case rel => exact ⟨(Q), (wrap64 (I + 1)), sI, H', ⟨by have := fB.out; have := dk.out; omega⟩, ⟨by (try simp only [W]); (with_reducible repeat (first | apply Kd.S_alloc | apply Kd.S_drewN | apply Kd.S_drew)); exact D.out⟩, ⟨by (try simp only [W]); (with_reducible repeat (first | refine blk_drewN ?_ _ | refine blk_drew ?_ | refine blk_alloc ?_ _)); exact F.out⟩, bT1 HB P⟩
   ·have em := decide_eq_false c8; clear c8; have H' := aM H; clear H
    go_wp2
    go_loopg [7] k1 (fun kq v7 w' => ∃ (Q : List (List Bool)) (bU : Bool), v7 = .bool bU ∧ Aside0 (tabardlaw13_apart.l2 kq (G.length : Int) Q bU Y G B = some r) ∧ Aside0 (kq ≤ k1) ∧ Aside0 (Kd.S (Kd.slice 4 Kd.bool) 23 w' w.heap.size (fun _ => True) bN Q) ∧ Aside0 (q_1 w') ∧ BA w w')
    case atStart => exact ⟨(ai), (true), sI, H', ⟨Nat.le_refl _⟩, ⟨by (with_reducible repeat (first | apply Kd.S_alloc | apply Kd.S_drewN | apply Kd.S_drew)); exact D.out⟩, kQ F, bT1 HB P⟩
    case round =>
     clear H'
     obtain ⟨Q, bU, rfl, HA, dk, D, F, HB⟩ := hrel; cases gk with
     | zero => exact absurd HA.out (by simp [tabardlaw13_apart.l2])
     | succ k2 =>
      have H := HA.out; clear HA; simp only [tabardlaw13_apart.l2] at H
      by_cases cH : bU = true
      ·subst cH
       rw [if_pos rfl] at H; have H' := aM H; clear H
       go_wp2
       go_loopg [7, 50] k2 (fun kq v7 eU w' => ∃ (br : List (List Bool)) (bs : Bool) (z : Int), v7 = .bool bs ∧ eU = .int .i64 z ∧ Aside0 (tabardlaw13_apart.l3 kq (G.length : Int) br bs (G.length : Int) z Y G B = some r) ∧ Aside0 (kq ≤ k2) ∧ Aside0 (Kd.S (Kd.slice 4 Kd.bool) 23 w' w.heap.size (fun _ => True) bN br) ∧ Aside0 (q_1 w') ∧ BA w w')
       case atStart => exact ⟨(Q), (false), (0), sI, sI, H', ⟨Nat.le_refl _⟩, ⟨by (with_reducible repeat (first | apply Kd.S_alloc | apply Kd.S_drewN | apply Kd.S_drew)); exact D.out⟩, kQ F, bT1 HB P⟩
       case round =>
        clear H'
        obtain ⟨br, bs, z, rfl, rfl, HA, fD, D, F, HB⟩ := hrel; cases gk with
        | zero => exact absurd HA.out (by simp [tabardlaw13_apart.l3])
        | succ k3 =>
         have H := HA.out; clear HA; simp only [tabardlaw13_apart.l3] at H
         apply iB H <;> clear H <;> intro bE H
         ·have d6 := dT bE; clear bE; have H' := aM H; clear H
          go_wp2
          go_loopg [7, 54] k3 (fun kq v7 eV w' => ∃ (Z : List (List Bool)) (be : Bool) (E : Int), v7 = .bool be ∧ eV = .int .i64 E ∧ Aside0 (tabardlaw13_apart.l4 kq (G.length : Int) Z be z (G.length : Int) z (G.length : Int) E Y G B = some r) ∧ Aside0 (kq ≤ k3) ∧ Aside0 (Kd.S (Kd.slice 4 Kd.bool) 23 w' w.heap.size (fun _ => True) bN Z) ∧ Aside0 (q_1 w') ∧ BA w w')
          case atStart => exact ⟨(br), (bs), (0), sI, sI, H', ⟨Nat.le_refl _⟩, ⟨by (with_reducible repeat (first | apply Kd.S_alloc | apply Kd.S_drewN | apply Kd.S_drew)); exact D.out⟩, kQ F, bT1 HB P⟩
          case round =>
           clear H'
           obtain ⟨Z, be, E, rfl, rfl, HA, fE, D, F, HB⟩ := hrel; cases gk with
           | zero => exact absurd HA.out (by simp [tabardlaw13_apart.l4])
           | succ k4 =>
            have H := HA.out; clear HA; simp only [tabardlaw13_apart.l4] at H
            apply iB H <;> clear H <;> intro bF H
            ·have d7 := dT bF; clear bF
             apply iN H; clear H; intro cI H; have fd := dT cI; clear cI
             apply iN H; clear H; intro cJ H; have fe := dT cJ; clear cJ
             apply iN H; clear H; intro cK H; have ff := dT cK; clear cK
             apply iN H; clear H; intro cL H; have fg := dT cL; clear cL; obtain ⟨eu, bV⟩ : ∃ b_ : Bool, b_ = (rdOf false (rd_L4 Z z) E) := ⟨_, rfl⟩
             rw [← bV] at H
             have Nbq36 := aM bV; clear bV
             by_cases cM : eu = true
             ·subst cM
              rw [if_pos rfl] at H; have H' := aM H; clear H; obtain ⟨fv, fw, ev⟩ := Kd.S_slice D.out; subst ev; have aJ : 0 ≤ (z : Int) := oT aO; have aK : z < (Z.length : Int) := oT aO; obtain ⟨al, dG, dH, cd, an, ao, ap⟩ := at_L4 (Kd.S_reads' D.out).2.2 z aJ aK; cases cd; obtain ⟨ce578, hce578, hMe578, aQ⟩ := Kd.S_get D.out [] z aJ (by first | exact aK | exact oT aO | (have e_ := (Kd.S_reads' D.out).1; omega)); obtain ⟨ve578_0, rfl, ge578_0⟩ := hMe578; have U := aQ 0 _ rfl; rw [Nat.add_zero, show ((Kd.slice 4 Kd.bool)).sz = 1 from rfl, Nat.mul_one] at U; replace U := Option.some.inj (U.symm.trans an); rw [U] at ge578_0; have HL578_0 := aM (show Kd.R Kd.bool 4 _ _ _ _ (rd_L4 Z z) from ge578_0); clear U ge578_0; have dc := aM an; clear aQ hce578; have J := aM ap; have dd := aM ao; clear ap ao; replace aJ := eq_true aJ; replace aK := eq_true aK; have aU : 0 ≤ (E : Int) := oT aO; have aV : E < ((rd_L4 Z z).length : Int) := oT aO; obtain ⟨cN, ce, bf⟩ := Kd.at_bool (by repeat (first | (with_reducible exact J.out) | (with_reducible refine Kd.C_alloc ?_ _) | (with_reducible refine Kd.C_drewN ?_ _) | (with_reducible refine Kd.C_drew ?_) | exact J.out)) E aU aV
              (try rw [← Nbq36.out] at bf)
              cases ce; replace aU := eq_true aU; replace aV := eq_true aV
              go_wp2
              go_roundg k4
              case measure => have := fB.out; have := dk.out; have := fD.out; have := fE.out; omega
              case rel => exact ⟨(Z), (be), (wrap64 (E + 1)), sI, sI, H', ⟨by have := fB.out; have := dk.out; have := fD.out; have := fE.out; omega⟩, ⟨by (with_reducible repeat (first | apply Kd.S_alloc | apply Kd.S_drewN | apply Kd.S_drew)); exact D.out⟩, kQ F, bT1 HB P⟩
             ·replace cM := Bool.eq_false_iff.mpr cM; subst cM
              rw [if_neg nF] at H
              apply iN H; clear H; intro cO H; have fh := dT cO; clear cO; have H' := aM H; clear H; obtain ⟨fx, dI, ew⟩ := Kd.S_slice D.out; subst ew; have aJ : 0 ≤ (z : Int) := oT aO; have aK : z < (Z.length : Int) := oT aO; obtain ⟨al, dG, dH, cd, an, ao, ap⟩ := at_L4 (Kd.S_reads' D.out).2.2 z aJ aK; cases cd; obtain ⟨ce578, hce578, hMe578, aQ⟩ := Kd.S_get D.out [] z aJ (by first | exact aK | exact oT aO | (have e_ := (Kd.S_reads' D.out).1; omega)); obtain ⟨ve578_0, rfl, ge578_0⟩ := hMe578; have U := aQ 0 _ rfl; rw [Nat.add_zero, show ((Kd.slice 4 Kd.bool)).sz = 1 from rfl, Nat.mul_one] at U; replace U := Option.some.inj (U.symm.trans an); rw [U] at ge578_0; have HL578_0 := aM (show Kd.R Kd.bool 4 _ _ _ _ (rd_L4 Z z) from ge578_0); clear U ge578_0; have dc := aM an; clear aQ hce578; have J := aM ap; have dd := aM ao; clear ap ao; replace aJ := eq_true aJ; replace aK := eq_true aK; have aU : 0 ≤ (E : Int) := oT aO; have aV : E < ((rd_L4 Z z).length : Int) := oT aO; obtain ⟨cN, ce, bf⟩ := Kd.at_bool (by repeat (first | (with_reducible exact J.out) | (with_reducible refine Kd.C_alloc ?_ _) | (with_reducible refine Kd.C_drewN ?_ _) | (with_reducible refine Kd.C_drew ?_) | exact J.out)) E aU aV
              (try rw [← Nbq36.out] at bf)
              cases ce; replace aU := eq_true aU; replace aV := eq_true aV; obtain ⟨eC, eD, eE, eF, eG, eH⟩ := bG3 F; have cf : 0 ≤ (z : Int) := oT aO; have cg : z < (B.length : Int) := oT aO; obtain ⟨ah, eX, eY, ex, bG, bH, bI⟩ := at_L1 a9.out z cf cg; cases ex; replace bG := cX HB bG; have eI := aM bI; have eJ := aM bH; clear bI bH; replace cf := eq_true cf; replace cg := eq_true cg
              go_wp2
              go_loopg [7, 70] k4 (fun kq v7 eZ w' => ∃ (L : List (List Bool)) (bt : Bool) (A : Int), v7 = .bool bt ∧ eZ = .int .i64 A ∧ Aside0 (tabardlaw13_apart.l5 kq (G.length : Int) L bt z E (G.length : Int) z (G.length : Int) E ((rd_L1 B z).length : Int) A Y G B = some r) ∧ Aside0 (kq ≤ k4) ∧ Aside0 (Kd.S (Kd.slice 4 Kd.bool) 23 w' w.heap.size (fun _ => True) (.slice (some al) Z.length dI) L) ∧ Aside0 (w'.heap[ag]? = some (.cells #[(.slice aF Y.length aG), (.slice aP G.length aH), (.slice (some ah) B.length aI)] 26 (0, 0))) ∧ Aside0 (Kd.C Kd.bool w' (some cN) (rd_L4 Z z).length (rd_L4 Z z)) ∧ BA w w')
              case atStart => exact ⟨(Z), (be), (0), sI, sI, H', ⟨Nat.le_refl _⟩, ⟨by (with_reducible repeat (first | apply Kd.S_alloc | apply Kd.S_drewN | apply Kd.S_drew)); exact D.out⟩, kQ F, ⟨by repeat (first | (with_reducible exact J.out) | (with_reducible refine Kd.C_alloc ?_ _) | (with_reducible refine Kd.C_drewN ?_ _) | (with_reducible refine Kd.C_drew ?_) | exact J.out)⟩, bT1 HB P⟩
              case round =>
               clear H'
               obtain ⟨L, bt, A, rfl, rfl, HA, HK5, D, F, J, HB⟩ := hrel; have M := (Kd.S_reads' D.out).1; rw [M] at D
               (try simp only [M])
               (try simp only [M] at F)
               cases gk with
               | zero => exact absurd HA.out (by simp [tabardlaw13_apart.l5])
               | succ k5 =>
                have H := HA.out; clear HA; simp only [tabardlaw13_apart.l5] at H
                apply iB H <;> clear H <;> intro bJ H
                ·have bW := dT bJ
                 (try (have c42b0hl4_5 := bW; rw [M] at c42b0hl4_5))
                 clear bJ
                 apply iN H; clear H; intro cP H; have fi := dT cP; clear cP
                 apply iN H; clear H; intro cQ H; have d8 := dT cQ
                 (try (have c44b0hl4_5 := d8; rw [M] at c44b0hl4_5))
                 clear cQ
                 apply iN H; clear H; intro cR H; have fj := dT cR; clear cR
                 apply iN H; clear H; intro cS H; have d9 := dT cS
                 (try (have c46b0hl4_5 := d9; rw [M] at c46b0hl4_5))
                 clear cS
                 apply iN H; clear H; intro cT H; have fk := dT cT; clear cT
                 apply iN H; clear H; intro cU H; have ea := dT cU
                 (try (have c48b0hl4_5 := ea; rw [M] at c48b0hl4_5))
                 clear cU
                 apply iN H; clear H; intro cV H; have fl := dT cV; clear cV
                 apply iN H; clear H; intro cW H; have eb := dT cW
                 (try (have c50b0hl4_5 := eb; rw [M] at c50b0hl4_5))
                 clear cW
                 apply iN H; clear H; intro cY H; have ec := dT cY
                 (try (have c51b0hl4_5 := ec; rw [M] at c51b0hl4_5))
                 clear cY
                 apply iN H; clear H; intro cZ H; have fm := dT cZ; clear cZ
                 apply iN H; clear H; intro c0 H; have ed := dT c0
                 (try (have c53b0hl4_5 := ed; rw [M] at c53b0hl4_5))
                 clear c0; obtain ⟨ey, bX⟩ : ∃ b_ : Bool, b_ = (rdOf false (rd_L4 L (rd (rd_L1 B z) A)) (rd (rd_L1 B E) A)) := ⟨_, rfl⟩
                 rw [← bX] at H
                 have Nbq54 := aM bX; clear bX
                 by_cases c1 : ey = true
                 ·subst c1
                  rw [if_pos rfl] at H
                  apply iN H; clear H; intro c4 H; have ee := dT c4
                  (try (have c56b0hl4_5 := ee; rw [M] at c56b0hl4_5))
                  clear c4
                  apply iN H; clear H; intro c5 H; have ef := dT c5
                  (try (have c57b0hl4_5 := ef; rw [M] at c57b0hl4_5))
                  clear c5; obtain ⟨dJ, bo⟩ : ∃ y_ : List Bool, y_ = ((rd_L4 L z).set (E : Int).toNat true) := ⟨_, rfl⟩
                  first | replace H := rI bo H | rw [← bo] at H
                  have eg := aM bo; clear bo; obtain ⟨dK, bp⟩ : ∃ y_ : List (List Bool), y_ = (L.set (z : Int).toNat dJ) := ⟨_, rfl⟩
                  first | replace H := rI bp H | rw [← bp] at H
                  have eh := aM bp; clear bp; have H' := aM H; clear H
                  try go_wp2
                  replace D := aM (Kd.S_drew D.out); replace F := kD F; replace J := aM (Kd.C_drew J.out); replace HB := aM (below_drew1 HB.out); have aW : 0 ≤ (z : Int) := oT aO; have aX : z < (B.length : Int) := oT aO; obtain ⟨bY, dL, bu, ch, aa, aq, ar⟩ := at_L1 a9.out z aW aX; have au := aa; obtain rfl := sJJ ch; replace aa := cX HB aa; have av := aM ar; have de := aM aq; clear ar aq; replace aW := eq_true aW; replace aX := eq_true aX; have aY : 0 ≤ (A : Int) := oT aO; have aZ : A < ((rd_L1 B z).length : Int) := oT aO; obtain ⟨ba, ci, ab⟩ := Kd.at_int av.out A aY aZ; have aw := ab; cases ci; replace ab := cX HB ab; replace aY := eq_true aY; replace aZ := eq_true aZ; have aL : 0 ≤ ((rd (rd_L1 B z) A) : Int) := oT aO; have aN : (rd (rd_L1 B z) A) < (L.length : Int) := oT aO; obtain ⟨bZ, dM, bv, cj, ac, ax, ay⟩ := at_L4 (Kd.S_reads' D.out).2.2 (rd (rd_L1 B z) A) aL aN; obtain rfl := sJJ cj; obtain ⟨ce583, hce583, hMe583, aR⟩ := Kd.S_get D.out [] (rd (rd_L1 B z) A) aL (by first | exact aN | exact oT aO | (have e_ := (Kd.S_reads' D.out).1; omega)); obtain ⟨ve583_0, rfl, ge583_0⟩ := hMe583; have V := aR 0 _ rfl; rw [Nat.add_zero, show ((Kd.slice 4 Kd.bool)).sz = 1 from rfl, Nat.mul_one] at V; replace V := Option.some.inj (V.symm.trans ac); rw [V] at ge583_0; have HL583_0 := aM (show Kd.R Kd.bool 4 _ _ _ _ (rd_L4 L (rd (rd_L1 B z) A)) from ge583_0); clear V ge583_0; have bg := aM ac; clear aR hce583; have ak := aM ay; have df := aM ax; clear ay ax; replace aL := eq_true aL; replace aN := eq_true aN; have a3 : 0 ≤ (E : Int) := oT aO; have a4 : E < (B.length : Int) := oT aO; obtain ⟨b0, dN, bw, ck, ad, az, aA⟩ := at_L1 a9.out E a3 a4; have aB := ad; obtain rfl := sJJ ck; replace ad := cX HB ad; have aC := aM aA; have dg := aM az; clear aA az; replace a3 := eq_true a3; replace a4 := eq_true a4; have a5 : 0 ≤ (A : Int) := oT aO; have a6 : A < ((rd_L1 B E).length : Int) := oT aO; obtain ⟨bb, cl, ae⟩ := Kd.at_int aC.out A a5 a6; have aD := ae; cases cl; replace ae := cX HB ae; replace a5 := eq_true a5; replace a6 := eq_true a6; have a7 : 0 ≤ ((rd (rd_L1 B E) A) : Int) := oT aO; have a8 : (rd (rd_L1 B E) A) < ((rd_L4 L (rd (rd_L1 B z) A)).length : Int) := oT aO; obtain ⟨bc, cm, af⟩ := Kd.at_bool (by repeat (first | (with_reducible exact ak.out) | (with_reducible refine Kd.C_alloc ?_ _) | (with_reducible refine Kd.C_drewN ?_ _) | (with_reducible refine Kd.C_drew ?_) | exact ak.out)) (rd (rd_L1 B E) A) a7 a8
                  (try rw [← Nbq36.out] at af)
                  (try rw [← Nbq54.out] at af)
                  cases cm; replace a7 := eq_true a7; replace a8 := eq_true a8; refine start_ (n := 21) (S := fun w' => w'.cell? ⟨ag, 0, none⟩ = some (.slice aF Y.length aG) ∧ w'.cell? ⟨ag, 1, none⟩ = some (.slice aP G.length aH) ∧ w'.cell? ⟨ag, 2, none⟩ = some (.slice (some ah) B.length aI) ∧ w'.cell? (ah.add (z).toNat) = some (.slice (some ba) (rd_L1 B z).length bu) ∧ w'.cell? (ba.add (A).toNat) = some (.int .i64 (rd (rd_L1 B z) A)) ∧ w'.cell? (al.add ((rd (rd_L1 B z) A)).toNat) = some (.slice (some bc) (rd_L4 L (rd (rd_L1 B z) A)).length bv) ∧ w'.cell? (ah.add (E).toNat) = some (.slice (some bb) (rd_L1 B E).length bw) ∧ w'.cell? (bb.add (A).toNat) = some (.int .i64 (rd (rd_L1 B E) A)) ∧ w'.cell? (bc.add ((rd (rd_L1 B E) A)).toNat) = some (.bool true)) (ds := []) (bl 21 0) (by kernel_rfl) rfl rfl ⟨(blk_cell F.out 0).trans rfl, (blk_cell F.out 1).trans rfl, (blk_cell F.out 2).trans rfl, ((HB.out.cell (World.block_lt_of_cell? w _ au)).trans au), ((HB.out.cell (World.block_lt_of_cell? w _ aw)).trans aw), ac, ((HB.out.cell (World.block_lt_of_cell? w _ aB)).trans aB), ((HB.out.cell (World.block_lt_of_cell? w _ aD)).trans aD), af⟩ (fun da => ?_); refine with_tabW tabardlaw13_apart.tab26 tabardlaw13_apart.bits26 (fun cc di => ?_); generalize wr.drew = ek at D F J HB HL583_0 av ak aC bg aa ab ac ad ae af da ⊢; refine pu_ 0 73 (bl 21 1) cc ?_; refine pu_ 1 74 (bl 21 3) cc ?_; refine pu_ 3 76 (bl 21 11) cc ?_; refine pu_ 6 79 (bl 21 75) cc ?_; refine pu_ 11 84 (bl 21 2123) cc ?_; refine pu_ 13 86 (bl 21 10315) cc ?_; refine pu_ 16 89 (bl 21 75851) cc ?_; refine take_ (i := 2) (N := some 75) (v := ?_) (a' := ?_) (bl 21 75855) rfl rfl (take_ofW cc.out di.out (by kernel_rfl)) (fun _ _ _ h => h) (Or.inl ⟨by rfl, ?_⟩) da ?_ ?_; rotate_left
                  ·rintro w' ⟨s0, s1, s2, s3, s4, s5, s6, s7, s8⟩
                   go_simp
                   with_reducible rfl
                  rotate_left
                  ·simp only [Act.put, sA, sB, sC, i64_w, i32_w]
                   rfl
                  refine pu_ 4 77 (bl 21 75871) cc ?_; refine take_ (i := 5) (N := some 78) (v := ?_) (a' := ?_) (bl 21 75903) rfl rfl (take_ofW cc.out di.out (by kernel_rfl)) (fun _ _ _ h => h) (Or.inl ⟨by rfl, ?_⟩) da ?_ ?_; rotate_left
                  ·rintro w' ⟨s0, s1, s2, s3, s4, s5, s6, s7, s8⟩
                   go_simp
                   with_reducible rfl
                  rotate_left
                  ·simp only [Act.put, sA, sB, sC, i64_w, i32_w]
                   rfl
                  refine pu_ 7 80 (bl 21 76031) cc ?_; refine take_ (i := 8) (N := some 81) (v := ?_) (a' := ?_) (bl 21 76287) rfl rfl (take_ofW cc.out di.out (by kernel_rfl)) (fun _ _ _ h => h) (Or.inl ⟨by rfl, ?_⟩) da ?_ ?_; rotate_left
                  ·rintro w' ⟨s0, s1, s2, s3, s4, s5, s6, s7, s8⟩
                   go_simp
                   with_reducible rfl
                  rotate_left
                  ·simp only [Act.put, sA, sB, sC, i64_w, i32_w]
                   rfl
                  refine pu_ 9 82 (bl 21 76799) cc ?_; refine take_ (i := 10) (N := some 83) (v := ?_) (a' := ?_) (bl 21 77823) rfl rfl (take_ofW cc.out di.out (by kernel_rfl)) (fun _ _ _ h => h) (Or.inl ⟨by rfl, ?_⟩) da ?_ ?_; rotate_left
                  ·rintro w' ⟨s0, s1, s2, s3, s4, s5, s6, s7, s8⟩
                   go_simp
                   with_reducible rfl
                  rotate_left
                  ·simp only [Act.put, sA, sB, sC, i64_w, i32_w]
                   rfl
                  refine take_ (i := 12) (N := some 85) (v := ?_) (a' := ?_) (bl 21 81919) rfl rfl (take_ofW cc.out di.out (by kernel_rfl)) (fun _ _ _ h => h) (Or.inl ⟨by rfl, ?_⟩) da ?_ ?_; rotate_left
                  ·rintro w' ⟨s0, s1, s2, s3, s4, s5, s6, s7, s8⟩
                   go_simp
                   with_reducible rfl
                  rotate_left
                  ·simp only [Act.put, sA, sB, sC, i64_w, i32_w]
                   rfl
                  refine pu_ 14 87 (bl 21 98303) cc ?_; refine take_ (i := 15) (N := some 88) (v := ?_) (a' := ?_) (bl 21 131071) rfl rfl (take_ofW cc.out di.out (by kernel_rfl)) (fun _ _ _ h => h) (Or.inl ⟨by rfl, ?_⟩) da ?_ ?_; rotate_left
                  ·rintro w' ⟨s0, s1, s2, s3, s4, s5, s6, s7, s8⟩
                   go_simp
                   with_reducible rfl
                  rotate_left
                  ·simp only [Act.put, sA, sB, sC, i64_w, i32_w]
                   rfl
                  refine pu_ 17 90 (bl 21 262143) cc ?_; refine take_ (i := 18) (N := some 91) (v := ?_) (a' := ?_) (bl 21 524287) rfl rfl (take_ofW cc.out di.out (by kernel_rfl)) (fun _ _ _ h => h) (Or.inl ⟨by rfl, ?_⟩) da ?_ ?_; rotate_left
                  ·rintro w' ⟨s0, s1, s2, s3, s4, s5, s6, s7, s8⟩
                   go_simp
                   with_reducible rfl
                  rotate_left
                  ·simp only [Act.put, sA, sB, sC, i64_w, i32_w]
                   rfl
                  refine pu_ 19 92 (bl 21 1048575) cc ?_; refine take_ (i := 20) (N := some 93) (v := ?_) (a' := ?_) (bl 21 2097151) rfl rfl (take_ofW cc.out di.out (by kernel_rfl)) (fun _ _ _ h => h) (Or.inl ⟨by rfl, ?_⟩) da ?_ ?_; rotate_left
                  ·rintro w' ⟨s0, s1, s2, s3, s4, s5, s6, s7, s8⟩
                   go_simp
                   with_reducible rfl
                  rotate_left
                  ·simp only [Act.put, sA, sB, sC, i64_w, i32_w]
                   rfl
                  refine done_ (done_of cc.out (by kernel_rfl)) ?_; have b1 : 0 ≤ (z : Int) := oT aO; have b2 : z < (L.length : Int) := oT aO; obtain ⟨ei, e0, dO, ez, bK, bL, bM⟩ := at_L4 (Kd.S_reads' D.out).2.2 z b1 b2; obtain rfl := sJJ ez; obtain ⟨ce587, hce587, hMe587, b6⟩ := Kd.S_get D.out [] z b1 (by first | exact b2 | exact oT aO | (have e_ := (Kd.S_reads' D.out).1; omega)); obtain ⟨ve587_0, rfl, ge587_0⟩ := hMe587; have aE := b6 0 _ rfl; rw [Nat.add_zero, show ((Kd.slice 4 Kd.bool)).sz = 1 from rfl, Nat.mul_one] at aE; replace aE := Option.some.inj (aE.symm.trans bK); rw [aE] at ge587_0; have HL587_0 := aM (show Kd.R Kd.bool 4 _ _ _ _ (rd_L4 L z) from ge587_0); clear aE ge587_0; have dh := aM bK; clear b6 hce587; have eK := aM bM; have eL := aM bL; clear bM bL; replace b1 := eq_true b1; replace b2 := eq_true b2; have dP : 0 ≤ (E : Int) := oT aO; have dQ : (E : Int) < (((rd_L4 L z).length : Int) : Int) := oT aO; obtain ⟨go58, fy, dR, dS, gl58, cl58, HG58⟩ := Kd.R_form HL587_0.out (by omega)
                  (first | cases dR | (injection dR with ea_ en_ ec_; (first | subst ea_ | (injection ea_ with ea_; subst ea_)); subst ec_; clear en_))
                  have GB58 := aM dS; have GG58 := aM HG58; clear dS gl58 HG58; obtain ⟨e1, hf58_0⟩ := Kd.R_celln false HL587_0.out (E : Int) dP dQ; replace dP := eq_true dP; replace dQ := eq_true dQ; have eA : (z : Int) < (L.length : Int) := (by have h_ : (z : Int) < ((L.length : Int) : Int) := oT aO; first | exact h_ | (have e_ := (Kd.S_reads' D.out).1; omega) | simpa only [List.length_set, List.length_set] using h_); obtain ⟨oki60, ce60, hcl60, hM60, c6, hok60, hbk60⟩ := Kd.S_borrow D.out [] (z : Int) (oT aO) eA; obtain ⟨ve60_0, rfl, ge60_0⟩ := hM60; have b3 := c6 0 _ rfl; rw [Nat.add_zero, show ((Kd.slice 4 Kd.bool)).sz = 1 from rfl, Nat.mul_one] at b3; replace b3 := Option.some.inj (b3.symm.trans dh.out); subst b3; clear c6 hcl60; replace ge60_0 := (show Kd.R Kd.bool 4 _ _ _ _ (rd_L4 L z) from ge60_0); have HP60 := Kd.R_putg ge60_0 (E : Int) true
                  try go_wp2_with (first | ((with_reducible refine gate_store (t := 4) (p := 99) rfl ?_); refine store_event (t := 4) (p := 99) (v := ?vo_w61) (w1 := (ek.setCell ⟨go58, (E : Int).toNat, none⟩ (.bool true))) ?hg ?ho ?hn ?hr ?_; (case ho => rfl); (case hg => rfl); (case hn => rfl); (case hr => first | (go_simp; done) | (go_simp; rfl)); intro c7 hw; have hg : ek.grownBy c7 (some go58) := (by rw [hw]; exact HP60.2); have hz_ : Kd.R Kd.bool 4 c7 w.heap.size oki60 (.slice (some ⟨go58, 0, none⟩) (rd_L4 L z).length dO) dJ := (by rw [hw, eg.out]; exact HP60.1); have hp_ : Kd.S (Kd.slice 4 Kd.bool) 23 c7 w.heap.size (fun _ => True) (.slice (some al) L.length dI) dK := (by rw [eh.out]; exact hbk60 hg (fun k_ e_ => by injection e_ with e_; subst e_; exact ge60_0.1 _ rfl) (Kd.M_row hz_)); have hm_ := Kd.R_mono hz_ hok60; clear HP60 hbk60; replace D := aM (hp_); replace F := kG F hg HL587_0; replace HB := aM ((by rw [hw]; exact below_set (HB.out) GB58.out : Below w.heap.size w c7)); have HL591 := aM (hm_); have fn := aM ((Kd.R_reads' hm_).2.1); clear HL583_0; clear HL587_0; clear hg hw hp_ hz_ hm_ hok60))
                  (try simp only [← M])
                  go_roundg k5
                  case measure => have := fB.out; have := dk.out; have := fD.out; have := fE.out; have := HK5.out; omega
                  case rel => exact ⟨(dK), (true), (wrap64 (E + 1)), sI, sI, H', ⟨by have := fB.out; have := dk.out; have := fD.out; have := fE.out; have := HK5.out; omega⟩, ⟨by (try simp only [M]); (with_reducible repeat (first | apply Kd.S_alloc | apply Kd.S_drewN | apply Kd.S_drew)); exact D.out⟩, ⟨by (try simp only [M]); (with_reducible repeat (first | refine blk_drewN ?_ _ | refine blk_drew ?_ | refine blk_alloc ?_ _)); exact F.out⟩, bT1 HB P⟩
                 ·replace c1 := Bool.eq_false_iff.mpr c1; subst c1
                  rw [if_neg nF] at H; have H' := aM H; clear H
                  try go_wp2
                  replace D := aM (Kd.S_drew D.out); replace F := kD F; replace J := aM (Kd.C_drew J.out); replace HB := aM (below_drew1 HB.out); have aW : 0 ≤ (z : Int) := oT aO; have aX : z < (B.length : Int) := oT aO; obtain ⟨bY, dL, bu, ch, aa, aq, ar⟩ := at_L1 a9.out z aW aX; have au := aa; obtain rfl := sJJ ch; replace aa := cX HB aa; have av := aM ar; have de := aM aq; clear ar aq; replace aW := eq_true aW; replace aX := eq_true aX; have aY : 0 ≤ (A : Int) := oT aO; have aZ : A < ((rd_L1 B z).length : Int) := oT aO; obtain ⟨ba, ci, ab⟩ := Kd.at_int av.out A aY aZ; have aw := ab; cases ci; replace ab := cX HB ab; replace aY := eq_true aY; replace aZ := eq_true aZ; have aL : 0 ≤ ((rd (rd_L1 B z) A) : Int) := oT aO; have aN : (rd (rd_L1 B z) A) < (L.length : Int) := oT aO; obtain ⟨bZ, dM, bv, cj, ac, ax, ay⟩ := at_L4 (Kd.S_reads' D.out).2.2 (rd (rd_L1 B z) A) aL aN; obtain rfl := sJJ cj; obtain ⟨ce583, hce583, hMe583, aR⟩ := Kd.S_get D.out [] (rd (rd_L1 B z) A) aL (by first | exact aN | exact oT aO | (have e_ := (Kd.S_reads' D.out).1; omega)); obtain ⟨ve583_0, rfl, ge583_0⟩ := hMe583; have V := aR 0 _ rfl; rw [Nat.add_zero, show ((Kd.slice 4 Kd.bool)).sz = 1 from rfl, Nat.mul_one] at V; replace V := Option.some.inj (V.symm.trans ac); rw [V] at ge583_0; have HL583_0 := aM (show Kd.R Kd.bool 4 _ _ _ _ (rd_L4 L (rd (rd_L1 B z) A)) from ge583_0); clear V ge583_0; have bg := aM ac; clear aR hce583; have ak := aM ay; have df := aM ax; clear ay ax; replace aL := eq_true aL; replace aN := eq_true aN; have a3 : 0 ≤ (E : Int) := oT aO; have a4 : E < (B.length : Int) := oT aO; obtain ⟨b0, dN, bw, ck, ad, az, aA⟩ := at_L1 a9.out E a3 a4; have aB := ad; obtain rfl := sJJ ck; replace ad := cX HB ad; have aC := aM aA; have dg := aM az; clear aA az; replace a3 := eq_true a3; replace a4 := eq_true a4; have a5 : 0 ≤ (A : Int) := oT aO; have a6 : A < ((rd_L1 B E).length : Int) := oT aO; obtain ⟨bb, cl, ae⟩ := Kd.at_int aC.out A a5 a6; have aD := ae; cases cl; replace ae := cX HB ae; replace a5 := eq_true a5; replace a6 := eq_true a6; have a7 : 0 ≤ ((rd (rd_L1 B E) A) : Int) := oT aO; have a8 : (rd (rd_L1 B E) A) < ((rd_L4 L (rd (rd_L1 B z) A)).length : Int) := oT aO; obtain ⟨bc, cm, af⟩ := Kd.at_bool (by repeat (first | (with_reducible exact ak.out) | (with_reducible refine Kd.C_alloc ?_ _) | (with_reducible refine Kd.C_drewN ?_ _) | (with_reducible refine Kd.C_drew ?_) | exact ak.out)) (rd (rd_L1 B E) A) a7 a8
                  (try rw [← Nbq36.out] at af)
                  (try rw [← Nbq54.out] at af)
                  cases cm; replace a7 := eq_true a7; replace a8 := eq_true a8; refine start_ (n := 21) (S := fun w' => w'.cell? ⟨ag, 0, none⟩ = some (.slice aF Y.length aG) ∧ w'.cell? ⟨ag, 1, none⟩ = some (.slice aP G.length aH) ∧ w'.cell? ⟨ag, 2, none⟩ = some (.slice (some ah) B.length aI) ∧ w'.cell? (ah.add (z).toNat) = some (.slice (some ba) (rd_L1 B z).length bu) ∧ w'.cell? (ba.add (A).toNat) = some (.int .i64 (rd (rd_L1 B z) A)) ∧ w'.cell? (al.add ((rd (rd_L1 B z) A)).toNat) = some (.slice (some bc) (rd_L4 L (rd (rd_L1 B z) A)).length bv) ∧ w'.cell? (ah.add (E).toNat) = some (.slice (some bb) (rd_L1 B E).length bw) ∧ w'.cell? (bb.add (A).toNat) = some (.int .i64 (rd (rd_L1 B E) A)) ∧ w'.cell? (bc.add ((rd (rd_L1 B E) A)).toNat) = some (.bool false)) (ds := []) (bl 21 0) (by kernel_rfl) rfl rfl ⟨(blk_cell F.out 0).trans rfl, (blk_cell F.out 1).trans rfl, (blk_cell F.out 2).trans rfl, ((HB.out.cell (World.block_lt_of_cell? w _ au)).trans au), ((HB.out.cell (World.block_lt_of_cell? w _ aw)).trans aw), ac, ((HB.out.cell (World.block_lt_of_cell? w _ aB)).trans aB), ((HB.out.cell (World.block_lt_of_cell? w _ aD)).trans aD), af⟩ (fun da => ?_); refine with_tabW tabardlaw13_apart.tab26 tabardlaw13_apart.bits26 (fun cc di => ?_); generalize wr.drew = fA at D F J HB HL583_0 av ak aC bg aa ab ac ad ae af da ⊢; refine pu_ 0 73 (bl 21 1) cc ?_; refine pu_ 1 74 (bl 21 3) cc ?_; refine pu_ 3 76 (bl 21 11) cc ?_; refine pu_ 6 79 (bl 21 75) cc ?_; refine pu_ 11 84 (bl 21 2123) cc ?_; refine pu_ 13 86 (bl 21 10315) cc ?_; refine pu_ 16 89 (bl 21 75851) cc ?_; refine take_ (i := 2) (N := some 75) (v := ?_) (a' := ?_) (bl 21 75855) rfl rfl (take_ofW cc.out di.out (by kernel_rfl)) (fun _ _ _ h => h) (Or.inl ⟨by rfl, ?_⟩) da ?_ ?_; rotate_left
                  ·rintro w' ⟨s0, s1, s2, s3, s4, s5, s6, s7, s8⟩
                   go_simp
                   with_reducible rfl
                  rotate_left
                  ·simp only [Act.put, sA, sB, sC, i64_w, i32_w]
                   rfl
                  refine pu_ 4 77 (bl 21 75871) cc ?_; refine take_ (i := 5) (N := some 78) (v := ?_) (a' := ?_) (bl 21 75903) rfl rfl (take_ofW cc.out di.out (by kernel_rfl)) (fun _ _ _ h => h) (Or.inl ⟨by rfl, ?_⟩) da ?_ ?_; rotate_left
                  ·rintro w' ⟨s0, s1, s2, s3, s4, s5, s6, s7, s8⟩
                   go_simp
                   with_reducible rfl
                  rotate_left
                  ·simp only [Act.put, sA, sB, sC, i64_w, i32_w]
                   rfl
                  refine pu_ 7 80 (bl 21 76031) cc ?_; refine take_ (i := 8) (N := some 81) (v := ?_) (a' := ?_) (bl 21 76287) rfl rfl (take_ofW cc.out di.out (by kernel_rfl)) (fun _ _ _ h => h) (Or.inl ⟨by rfl, ?_⟩) da ?_ ?_; rotate_left
                  ·rintro w' ⟨s0, s1, s2, s3, s4, s5, s6, s7, s8⟩
                   go_simp
                   with_reducible rfl
                  rotate_left
                  ·simp only [Act.put, sA, sB, sC, i64_w, i32_w]
                   rfl
                  refine pu_ 9 82 (bl 21 76799) cc ?_; refine take_ (i := 10) (N := some 83) (v := ?_) (a' := ?_) (bl 21 77823) rfl rfl (take_ofW cc.out di.out (by kernel_rfl)) (fun _ _ _ h => h) (Or.inl ⟨by rfl, ?_⟩) da ?_ ?_; rotate_left
                  ·rintro w' ⟨s0, s1, s2, s3, s4, s5, s6, s7, s8⟩
                   go_simp
                   with_reducible rfl
                  rotate_left
                  ·simp only [Act.put, sA, sB, sC, i64_w, i32_w]
                   rfl
                  refine take_ (i := 12) (N := some 85) (v := ?_) (a' := ?_) (bl 21 81919) rfl rfl (take_ofW cc.out di.out (by kernel_rfl)) (fun _ _ _ h => h) (Or.inl ⟨by rfl, ?_⟩) da ?_ ?_; rotate_left
                  ·rintro w' ⟨s0, s1, s2, s3, s4, s5, s6, s7, s8⟩
                   go_simp
                   with_reducible rfl
                  rotate_left
                  ·simp only [Act.put, sA, sB, sC, i64_w, i32_w]
                   rfl
                  refine pu_ 14 87 (bl 21 98303) cc ?_; refine take_ (i := 15) (N := some 88) (v := ?_) (a' := ?_) (bl 21 131071) rfl rfl (take_ofW cc.out di.out (by kernel_rfl)) (fun _ _ _ h => h) (Or.inl ⟨by rfl, ?_⟩) da ?_ ?_; rotate_left
                  ·rintro w' ⟨s0, s1, s2, s3, s4, s5, s6, s7, s8⟩
                   go_simp
                   with_reducible rfl
                  rotate_left
                  ·simp only [Act.put, sA, sB, sC, i64_w, i32_w]
                   rfl
                  refine pu_ 17 90 (bl 21 262143) cc ?_; refine take_ (i := 18) (N := some 91) (v := ?_) (a' := ?_) (bl 21 524287) rfl rfl (take_ofW cc.out di.out (by kernel_rfl)) (fun _ _ _ h => h) (Or.inl ⟨by rfl, ?_⟩) da ?_ ?_; rotate_left
                  ·rintro w' ⟨s0, s1, s2, s3, s4, s5, s6, s7, s8⟩
                   go_simp
                   with_reducible rfl
                  rotate_left
                  ·simp only [Act.put, sA, sB, sC, i64_w, i32_w]
                   rfl
                  refine pu_ 19 92 (bl 21 1048575) cc ?_; refine take_ (i := 20) (N := some 93) (v := ?_) (a' := ?_) (bl 21 2097151) rfl rfl (take_ofW cc.out di.out (by kernel_rfl)) (fun _ _ _ h => h) (Or.inl ⟨by rfl, ?_⟩) da ?_ ?_; rotate_left
                  ·rintro w' ⟨s0, s1, s2, s3, s4, s5, s6, s7, s8⟩
                   go_simp
                   with_reducible rfl
                  rotate_left
                  ·simp only [Act.put, sA, sB, sC, i64_w, i32_w]
                   rfl
                  refine done_ (done_of cc.out (by kernel_rfl)) ?_
                  try go_wp2
                  (try simp only [← M])
                  go_roundg k5
                  case measure => have := fB.out; have := dk.out; have := fD.out; have := fE.out; have := HK5.out; omega
                  case rel => exact ⟨(L), (bt), (wrap64 (A + 1)), sI, sI, H', ⟨by have := fB.out; have := dk.out; have := fD.out; have := fE.out; have := HK5.out; omega⟩, ⟨by (try simp only [M]); (with_reducible repeat (first | apply Kd.S_alloc | apply Kd.S_drewN | apply Kd.S_drew)); exact D.out⟩, ⟨by (try simp only [M]); (with_reducible repeat (first | refine blk_drewN ?_ _ | refine blk_drew ?_ | refine blk_alloc ?_ _)); exact F.out⟩, ⟨by repeat (first | (with_reducible exact J.out) | (with_reducible refine Kd.C_alloc ?_ _) | (with_reducible refine Kd.C_drewN ?_ _) | (with_reducible refine Kd.C_drew ?_) | exact J.out)⟩, bT1 HB P⟩
                ·have bW := decide_eq_false bJ
                 (try (have c42b0hl4_5 := bW; rw [M] at c42b0hl4_5))
                 clear bJ; have H' := aM H; clear H
                 go_wp2
                 (try simp only [← M])
                 go_roundg k5
                 case measure => have := fB.out; have := dk.out; have := fD.out; have := fE.out; have := HK5.out; omega
                 case rel => exact ⟨(L), (bt), (wrap64 (E + 1)), sI, sI, H', ⟨by have := fB.out; have := dk.out; have := fD.out; have := fE.out; have := HK5.out; omega⟩, ⟨by (try simp only [M]); (with_reducible repeat (first | apply Kd.S_alloc | apply Kd.S_drewN | apply Kd.S_drew)); exact D.out⟩, ⟨by (try simp only [M]); (with_reducible repeat (first | refine blk_drewN ?_ _ | refine blk_drew ?_ | refine blk_alloc ?_ _)); exact F.out⟩, bT1 HB P⟩
            ·have d7 := decide_eq_false bF; clear bF; have H' := aM H; clear H
             go_wp2
             go_roundg k4
             case measure => have := fB.out; have := dk.out; have := fD.out; have := fE.out; omega
             case rel => exact ⟨(Z), (be), (wrap64 (z + 1)), sI, sI, H', ⟨by have := fB.out; have := dk.out; have := fD.out; have := fE.out; omega⟩, ⟨by (with_reducible repeat (first | apply Kd.S_alloc | apply Kd.S_drewN | apply Kd.S_drew)); exact D.out⟩, kQ F, bT1 HB P⟩
         ·have d6 := decide_eq_false bE; clear bE; have H' := aM H; clear H
          go_wp2
          go_roundg k3
          case measure => have := fB.out; have := dk.out; have := fD.out; omega
          case rel => exact ⟨(br), (bs), sI, H', ⟨by have := fB.out; have := dk.out; have := fD.out; omega⟩, ⟨by (with_reducible repeat (first | apply Kd.S_alloc | apply Kd.S_drewN | apply Kd.S_drew)); exact D.out⟩, kQ F, bT1 HB P⟩
      ·replace cH := Bool.eq_false_iff.mpr cH; subst cH
       rw [if_neg nF] at H; obtain rfl := Option.some.inj H
       go_wp2
       go_ret
       exact ⟨_, eW, by (with_reducible repeat (first | apply Kd.S_alloc | apply Kd.S_drewN | apply Kd.S_drew)); exact D.out, bS1 HB.out P.out⟩

end Go.Proofs.Ytbpeloobnjbgkaa.X

/- Functions of the seat, printed, and that the program's calls come to them; no condition. -/
import Derived.Test.YtninoenmhcbonaaX0
import Derived.Test.YtninoenmhcbonaaX1
namespace Go.Proofs.Ytninoenmhcbonaa.X
open Go.RowKit Go.Proofs.YtninoenmhcbonaaW.PrintWords Go.Proofs.YtninoenmhcbonaaW.PrintLast Go.Proofs.YtninoenmhcbonaaW.PrintMore
attribute [local go_sem] max2_int min2_int max_two min_two max_three min_three max_four min_four
set_option linter.unusedVariables false
set_option linter.unusedSimpArgs false
set_option maxHeartbeats 8000000
set_option maxRecDepth 100000

mutual
def Fe.j0 : Nat → List (S73) → Int → Bool → Option (List Int × Int)
 | 0, _, _, _ => none
 | k + 1, x0, x1, x18 => if x18 = true then (some (([] : List Int), 150)) else (if 0 ≤ x1 then (if (x0.length : Int) > (shl .i64 1 x1) then (some (([] : List Int), 3)) else (if 0 ≤ (shl .i64 1 x1) then (if (shl .i64 1 x1 : Int).toNat ≤ 35184372088832 then ((some (List.replicate (shl .i64 1 x1 : Int).toNat 0 : List Int)).bind fun y128 => (Fe.l0 k x0 y128 (y128.length : Int) 0)) else (none)) else (none))) else (none))
def Fe.l0 : Nat → List (S73) → List Int → Int → Int → Option (List Int × Int)
 | 0, _, _, _, _ => none
 | k + 1, x0, x7, x28, x29 => if x29 < x28 then ((Fda.f k x0 x29).bind fun bt131 => (if bt131.2 = true then (if 0 ≤ x29 then (if x29 < (x7.length : Int) then (Fe.l0 k x0 (x7.set (x29 : Int).toNat bt131.1) x28 (wrap64 (x29 + 1))) else (none)) else (none)) else (some (([] : List Int), 3)))) else ((Fdb.f k x7).bind fun bt134 => (if bt134.2 = 0 then ((Fa.f k bt134.1 x0).bind fun t138 => (if t138 = true then (some (x7, 0)) else (some (([] : List Int), 3)))) else (some (([] : List Int), 3))))
end
def Fe.f (k : Nat) (l0 : List (S73)) (a1 : Int) : Option (List Int × Int) := if a1 < 0 then (Fe.j0 k l0 a1 true) else (Fe.j0 k l0 a1 (decide (a1 > 6)))
theorem Fe.mono_l : ∀ k, (∀ y0 y1 y2, LeO (Fe.j0 k y0 y1 y2) (Fe.j0 (k + 1) y0 y1 y2)) ∧ (∀ y0 y1 y2 y3, LeO (Fe.l0 k y0 y1 y2 y3) (Fe.l0 (k + 1) y0 y1 y2 y3))
 | 0 => ⟨fun _ _ _ r h => by simp [Fe.j0] at h, fun _ _ _ _ r h => by simp [Fe.l0] at h⟩
 | k + 1 => by
  obtain ⟨ih0, ih1⟩ := Fe.mono_l k; refine ⟨?_, ?_⟩
  ·intro y0 y1 y2
   unfold Fe.j0
   repeat' first | (with_reducible first | exact ih0 _ _ _ | exact ih1 _ _ _ _ | exact Fa.mono _ _ _ | exact Fda.mono _ _ _ | exact Fdb.mono _ _ | exact lA | apply lI | refine lB ?_ fun _ => ?_) | exact lN _ | apply lI | refine lB ?_ fun _ => ?_
  ·intro y0 y1 y2 y3
   unfold Fe.l0
   repeat' first | (with_reducible first | exact ih0 _ _ _ | exact ih1 _ _ _ _ | exact Fa.mono _ _ _ | exact Fda.mono _ _ _ | exact Fdb.mono _ _ | exact lA | apply lI | refine lB ?_ fun _ => ?_) | exact lN _ | apply lI | refine lB ?_ fun _ => ?_
theorem Fe.mono : ∀ a0 a1 k, LeO (Fe.f k a0 a1) (Fe.f (k + 1) a0 a1) := by
 intro a0 a1 k; obtain ⟨ih0, ih1⟩ := Fe.mono_l k
 unfold Fe.f
 repeat' first | (with_reducible first | exact ih0 _ _ _ | exact ih1 _ _ _ _ | exact Fa.mono _ _ _ | exact Fda.mono _ _ _ | exact Fdb.mono _ _ | exact lA | apply lI | refine lB ?_ fun _ => ?_) | exact lN _ | apply lI | refine lB ?_ fun _ => ?_
theorem Fe.calls (k : Nat) (A0 : Option Addr) (c0 : Nat) (I : List (S73)) (J : Int) (r1 : List Int) (r2 : Int) (w : World) (aU : Kd.C k73 w A0 I.length I) (aV : I.length ≤ c0) (h : Fe.f k I J = some (r1, r2)) :
  Calls Try.prog 60 #[.slice A0 I.length c0, .int .i64 J] w fun e w' => ∃ aW : Value, e = .returned (.tuple #[aW, .int .i64 r2]) ∧ Kd.R (Kd.int .i64) 3 w' w.heap.size (fun _ => True) aW r1 ∧ Below w.heap.size w w' := by
 have ah := aM aU; have ai := aM aV; clear aU aV; have HB := aM (Below.refl w.heap.size w); rw [Fe.f] at h; have H := h; clear h; have av := aM H; clear H
 go_enter Try.func60, Try.ntmps60
 go_upto_region 1 with (fail)
 go_cut [18] (fun a7 wc => ∃ (kq : Nat) (P : Bool), a7 = .bool P ∧ Aside0 (Fe.j0 kq I J P = some (r1, r2)) ∧ Aside0 (kq ≤ k) ∧ BA w wc)
 case first =>
  have H := av.out; clear av
  apply iB H <;> clear H <;> intro c4 H
  ·have V := dT c4; clear c4
   (first | rw [V] | (simp only [i64_w, i32_w]; rw [V]) | skip)
   have H' := aM H; clear H
   go_wp2
   go_meet
   case rel => exact ⟨_, (true), sI, H', lE, bT0 HB⟩
  ·have V := decide_eq_false c4; clear c4
   (first | rw [V] | (simp only [i64_w, i32_w]; rw [V]) | skip)
   have H' := aM H; clear H
   go_wp2
   go_meet
   case rel => exact ⟨_, (decide (J > 6)), sI, H', lE, bT0 HB⟩
 case rest =>
  clear av
  obtain ⟨kq, P, rfl, HA, HJ2, HB⟩ := hcut; cases kq with
  | zero => exact absurd HA.out (by simp [Fe.j0])
  | succ aX =>
   have H := HA.out; clear HA; simp only [Fe.j0] at H
   by_cases c5 : P = true
   ·subst c5
    rw [if_pos rfl] at H; obtain ⟨rfl, rfl⟩ := pE2 H
    go_wp2
    go_ret2
    exact ⟨_, eW, by first | exact Kd.R_nil _ _ _ _ _ | exact Kd.N_nil _ _ _ _ _ | exact Kd.V_nil _ _ _ _ _ | exact Kd.Q_nil _ _ _ _ _ | exact Kd.S_nil _ _ _ _ _, bO HB.out⟩
   ·replace c5 := Bool.eq_false_iff.mpr c5; subst c5
    rw [if_neg nF] at H
    apply iN H; clear H; intro c6 H; have bf := eq_true c6; have bg := dT c6; clear c6; obtain ⟨G, E⟩ : ∃ j_ : Int, (shl .i64 1 J) = j_ := ⟨_, rfl⟩
    first | rw [E] at H | simp only [E] at H
    have aj : (IntKind.i64.wrap (1 * 2 ^ min J.toNat 64)) = G := E; have hji7z : J ≤ 64 → (IntKind.i64.wrap (1 * 2 ^ J.toNat)) = G := shl_small E
    have hji7u : (IntKind.i64.wrap (2 ^ min J.toNat 64)) = G := by have h_ := aj; rw [Int.one_mul] at h_; exact h_
    have hji7v : J ≤ 64 → (IntKind.i64.wrap (2 ^ J.toNat)) = G := fun hle_ => by have h_ := hji7z hle_; rw [Int.one_mul] at h_; exact h_
    have hji7y : (wrap64 (1 * 2 ^ min J.toNat 64)) = G := (i64_w _).symm.trans aj
    have hji7x : J ≤ 64 → (wrap64 (1 * 2 ^ J.toNat)) = G := fun h_ => (i64_w _).symm.trans (hji7z h_)
    apply iB H <;> clear H <;> intro c8 H
    ·have a3 := dT c8; clear c8; obtain ⟨rfl, rfl⟩ := pE2 H
     go_wp2
     go_ret2
     exact ⟨_, by first | rfl | (simp [errW_none, errW_some] <;> rfl) | (simp only [← E]; first | rfl | (simp [errW_none, errW_some] <;> rfl)) | (simp [*, errW_none, errW_some] <;> rfl), by first | exact Kd.R_nil _ _ _ _ _ | exact Kd.N_nil _ _ _ _ _ | exact Kd.V_nil _ _ _ _ _ | exact Kd.Q_nil _ _ _ _ _ | exact Kd.S_nil _ _ _ _ _, bO HB.out⟩
    ·have a3 := decide_eq_false c8; clear c8
     apply iN H; clear H; intro c9 H; have bh := eq_true c9; have bi := dT c9; clear c9
     apply iN H; clear H; intro ae H; have ba := eq_true ae; have bb := dT ae; clear ae; obtain ⟨W, Q⟩ : ∃ y_ : List Int, y_ = (List.replicate (G : Int).toNat 0) := ⟨_, rfl⟩
     first | replace H := rI Q H | rw [← Q] at H
     have aP := aM Q; clear Q; have H' := aM H; clear H
     go_wp2_with (first | ((with_reducible refine gate_dst (N := 26) rfl ?_); refine Kd.R_make (Kd.int .i64) _ 3 rfl (N := 26) rfl 24 _ _ rfl G rfl rfl Try.underlying24 (.int .i64 0) 8 info3 rfl (by decide) (by omega) 0 (ok := fun _ => True) (okp := fun _ => True) rfl (fun _ hk => hk) trivial (oT aO) (Nat.le_trans (Nat.mul_le_mul_right _ (oT aO : G.toNat ≤ 35184372088832)) (by omega)) (Below.refl _ _) (Nat.le_refl _) ?_; intro bj br ab hb hg_ hnew_; clear hg_ hnew_; replace ab := nW aP ab; have ak := rW ab (bP0 HB); replace HB := hS0 HB hb; clear hb ab; obtain ⟨ac, Y, rfl⟩ := sL ak))
     go_loopg [29] aX (fun kq a8 w' => ∃ (B : List Int) (z : Int), a8 = .int .i64 z ∧ Aside0 (Fe.l0 kq I B (W.length : Int) z = some (r1, r2)) ∧ Aside0 (kq ≤ aX) ∧ RA (Kd.int .i64) 3 w' w (.slice ac W.length Y) B ∧ BA w w')
     case atStart => exact ⟨(W), (0), sI, H', ⟨Nat.le_refl _⟩, rQ ak, bT0 HB⟩
     case round =>
      clear H'
      obtain ⟨B, z, rfl, HA, ar, A, HB⟩ := hrel; have F := (rR A).1; rw [F] at A
      (try simp only [F])
      cases gk with
      | zero => exact absurd HA.out (by simp [Fe.l0])
      | succ k2 =>
       have H := HA.out; clear HA; simp only [Fe.l0] at H
       apply iB H <;> clear H <;> intro aa H
       ·have ad := dT aa
        (try (have c14b0hl7_2 := ad; rw [F] at c14b0hl7_2))
        clear aa; replace H := Option.bind_eq_some_iff.mp H; obtain ⟨⟨L, ay⟩, az, H⟩ := H; replace H : (if ay = true then (if 0 ≤ z then (if z < (B.length : Int) then (Fe.l0 k2 I (B.set (z : Int).toNat L) (W.length : Int) (wrap64 (z + 1))) else (none)) else (none)) else (some (([] : List Int), 3))) = some (r1, r2) := H; have aY := aM az; clear az
        by_cases al : ay = true
        ·subst al
         rw [if_pos rfl] at H
         apply iN H; clear H; intro am H; have bc := dT am; clear am
         apply iN H; clear H; intro an H; have aQ := dT an
         (try (have c18b0hl7_2 := aQ; rw [F] at c18b0hl7_2))
         clear an; obtain ⟨aA, U⟩ : ∃ y_ : List Int, y_ = (B.set (z : Int).toNat L) := ⟨_, rfl⟩
         first | replace H := rI U H | rw [← U] at H
         have aR := aM U; clear U; have H' := aM H; clear H
         go_wp2_with (first | ((with_reducible refine gate_callee (f := 71) rfl ?_); refine gL_ (some 35) Try.func71 #[.slice A0 I.length c0, .int .i64 z] ?_; (with_reducible refine (Fda.calls k2 _ _ I z L true _ ?s1 ai.out aY.out).mono ?_); (case s1 => exact cB ah HB); rintro e aZ ⟨rfl, hb⟩; refine ⟨_, rfl, ?_⟩; replace A := rB A hb; replace HB := hS0 HB hb; have aB : 0 ≤ (z : Int) := oT aO; have aC : (z : Int) < ((B.length : Int) : Int) := oT aO; obtain ⟨go19, bk, aD, aE, gl19, cl19, HG19⟩ := Kd.R_form A.out (by omega); (first | cases aD | (injection aD with ea_ en_ ec_; (first | subst ea_ | (injection ea_ with ea_; subst ea_)); subst ec_; clear en_)); have GB19 := aM aE; have GG19 := aM HG19; clear aE gl19 HG19; obtain ⟨a9, hf19_0⟩ := Kd.R_celln 0 A.out (z : Int) aB aC; replace aB := eq_true aB; replace aC := eq_true aC; obtain ⟨bd, be⟩ := Kd.R_celln 0 A.out (z : Int) (oT aO) (oT aO); have HP21 := Kd.R_putg A.out (z : Int) L) | ((with_reducible refine gate_store (t := 3) (p := 43) rfl ?_); refine store_event (t := 3) (p := 43) (v := ?vo_w22) (w1 := (aZ.setCell ⟨go19, (z : Int).toNat, none⟩ (.int .i64 L))) ?hg ?ho ?hn ?hr ?_; (case ho => rfl); (case hg => rfl); (case hn => rfl); (case hr => first | (go_simp; done) | (go_simp; rfl)); intro aF hw; have hg : aZ.grownBy aF (some go19) := (by rw [hw]; exact HP21.2); have hp_ : Kd.R (Kd.int .i64) 3 aF w.heap.size (fun _ => True) (.slice (some ⟨go19, 0, none⟩) B.length Y) aA := (by rw [hw, aR.out]; exact HP21.1); clear HP21; replace A := aM (hp_); replace HB := aM ((by rw [hw]; exact below_set (HB.out) GB19.out : Below w.heap.size w aF)); clear hg hw hp_))
         (try simp only [← F])
         go_roundg k2
         case measure => have := HJ2.out; have := ar.out; omega
         case rel => exact ⟨(aA), (wrap64 (z + 1)), sI, H', ⟨by have := HJ2.out; have := ar.out; omega⟩, ⟨by (try simp only [F]); (with_reducible repeat (first | apply Kd.R_alloc | apply Kd.R_drewN | apply Kd.R_drew)); exact A.out⟩, bT0 HB⟩
        ·replace al := Bool.eq_false_iff.mpr al; subst al
         rw [if_neg nF] at H; obtain ⟨rfl, rfl⟩ := pE2 H
         go_wp2_with (first | ((with_reducible refine gate_callee (f := 71) rfl ?_); refine gL_ (some 35) Try.func71 #[.slice A0 I.length c0, .int .i64 z] ?_; (with_reducible refine (Fda.calls k2 _ _ I z L false _ ?s1 ai.out aY.out).mono ?_); (case s1 => exact cB ah HB); rintro e bs ⟨rfl, hb⟩; refine ⟨_, rfl, ?_⟩; replace A := rB A hb; replace HB := hS0 HB hb))
         go_ret2
         exact ⟨_, by first | rfl | (simp [errW_none, errW_some] <;> rfl) | (simp only [← E]; first | rfl | (simp [errW_none, errW_some] <;> rfl)) | (simp [*, errW_none, errW_some] <;> rfl), by first | exact Kd.R_nil _ _ _ _ _ | exact Kd.N_nil _ _ _ _ _ | exact Kd.V_nil _ _ _ _ _ | exact Kd.Q_nil _ _ _ _ _ | exact Kd.S_nil _ _ _ _ _, bO HB.out⟩
       ·have ad := decide_eq_false aa
        (try (have c14b0hl7_2 := ad; rw [F] at c14b0hl7_2))
        clear aa; replace H := Option.bind_eq_some_iff.mp H; obtain ⟨⟨M, Z⟩, aG, H⟩ := H; replace H : (if Z = 0 then ((Fa.f k2 M I).bind fun ag => (if ag = true then (some (B, 0)) else (some (([] : List Int), 3)))) else (some (([] : List Int), 3))) = some (r1, r2) := H; have aH := aM aG; clear aG
        apply iB H <;> clear H <;> intro af H
        ·obtain ⟨aS, aT⟩ := bq af; clear af; apply bSx H; clear H; intro ag a2 H
         by_cases ao : ag = true
         ·subst ao
          rw [if_pos rfl] at H; obtain ⟨rfl, rfl⟩ := pE2 H
          go_wp2_with (first | ((with_reducible refine gate_callee (f := 79) rfl ?_); refine gL_ (some 47) Try.func79 #[.slice ac B.length Y] ?_; (with_reducible refine (Fdb.calls k2 _ _ B M Z _ ?s1 (rR A).2.1 aH.out).mono ?_); (case s1 => exact cO (rR A).2.2); rintro e bt ⟨aJ, rfl, O, hb⟩; refine ⟨_, rfl, ?_⟩; replace A := rB A hb; have D := rW O (bP0 HB); replace HB := hS0 HB hb; obtain ⟨bl, bm, rfl⟩ := sL D) | (go_at_call 80; (with_reducible refine (Fa.calls k2 _ _ M _ _ I true _ ?s1 (rR D).2.1 ?s3 ai.out a2.out).mono ?_); (case s1 => exact cO (rR D).2.2); (case s3 => exact cB ah HB); rintro e w' ⟨rfl, ⟨nd, rfl⟩⟩))
          go_ret2
          exact ⟨_, by first | rfl | (simp [errW_none, errW_some] <;> rfl) | (simp only [← E]; first | rfl | (simp [errW_none, errW_some] <;> rfl)) | (simp [*, errW_none, errW_some] <;> rfl), rO A.out, bO HB.out⟩
         ·replace ao := Bool.eq_false_iff.mpr ao; subst ao
          rw [if_neg nF] at H; obtain ⟨rfl, rfl⟩ := pE2 H
          go_wp2_with (first | ((with_reducible refine gate_callee (f := 79) rfl ?_); refine gL_ (some 47) Try.func79 #[.slice ac B.length Y] ?_; (with_reducible refine (Fdb.calls k2 _ _ B M Z _ ?s1 (rR A).2.1 aH.out).mono ?_); (case s1 => exact cO (rR A).2.2); rintro e bu ⟨aJ, rfl, O, hb⟩; refine ⟨_, rfl, ?_⟩; replace A := rB A hb; have D := rW O (bP0 HB); replace HB := hS0 HB hb; obtain ⟨bo, bp, rfl⟩ := sL D) | (go_at_call 80; (with_reducible refine (Fa.calls k2 _ _ M _ _ I false _ ?s1 (rR D).2.1 ?s3 ai.out a2.out).mono ?_); (case s1 => exact cO (rR D).2.2); (case s3 => exact cB ah HB); rintro e w' ⟨rfl, ⟨nd, rfl⟩⟩))
          go_ret2
          exact ⟨_, by first | rfl | (simp [errW_none, errW_some] <;> rfl) | (simp only [← E]; first | rfl | (simp [errW_none, errW_some] <;> rfl)) | (simp [*, errW_none, errW_some] <;> rfl), by first | exact Kd.R_nil _ _ _ _ _ | exact Kd.N_nil _ _ _ _ _ | exact Kd.V_nil _ _ _ _ _ | exact Kd.Q_nil _ _ _ _ _ | exact Kd.S_nil _ _ _ _ _, bO HB.out⟩
        ·obtain ⟨aS, aT⟩ := bn af; obtain ⟨rfl, rfl⟩ := pE2 H
         go_wp2_with (first | ((with_reducible refine gate_callee (f := 79) rfl ?_); refine gL_ (some 47) Try.func79 #[.slice ac B.length Y] ?_; (with_reducible refine (Fdb.calls k2 _ _ B M Z _ ?s1 (rR A).2.1 aH.out).mono ?_); (case s1 => exact cO (rR A).2.2); rintro e bv ⟨aJ, rfl, O, hb⟩; refine ⟨_, rfl, ?_⟩; replace A := rB A hb; have D := rW O (bP0 HB); replace HB := hS0 HB hb))
         go_ret2
         exact ⟨_, by first | rfl | (simp [errW_none, errW_some] <;> rfl) | (simp only [← E]; first | rfl | (simp [errW_none, errW_some] <;> rfl)) | (simp [*, errW_none, errW_some] <;> rfl), by first | exact Kd.R_nil _ _ _ _ _ | exact Kd.N_nil _ _ _ _ _ | exact Kd.V_nil _ _ _ _ _ | exact Kd.Q_nil _ _ _ _ _ | exact Kd.S_nil _ _ _ _ _, bO HB.out⟩
def Fg.l0 : Nat → List Int → Int → Int → Option (Int)
 | 0, _, _, _ => none
 | k + 1, x0, x3, x4 => if x4 < (x0.length : Int) then (if 0 ≤ x4 then (Fg.l0 k x0 (mx x3 (rd x0 x4)) (wrap64 (x4 + 1))) else (none)) else (some x3)
def Fg.f (k : Nat) (l0 : List Int) : Option (Int) := if (l0.length : Int) < 1 then (none) else (if 0 < (l0.length : Int) then (Fg.l0 k l0 (rd l0 0) 1) else (none))
theorem Fg.mono_l : ∀ k, (∀ y0 y1 y2, LeO (Fg.l0 k y0 y1 y2) (Fg.l0 (k + 1) y0 y1 y2))
 | 0 => fun _ _ _ r h => by simp [Fg.l0] at h
 | k + 1 => by
  have ih0 := Fg.mono_l k
  ·intro y0 y1 y2
   unfold Fg.l0
   repeat' first | (with_reducible first | exact ih0 _ _ _ | exact lA | apply lI | refine lB ?_ fun _ => ?_) | exact lN _ | apply lI | refine lB ?_ fun _ => ?_
theorem Fg.mono : ∀ a0 k, LeO (Fg.f k a0) (Fg.f (k + 1) a0) := by
 intro a0 k; have ih0 := Fg.mono_l k
 unfold Fg.f
 repeat' first | (with_reducible first | exact ih0 _ _ _ | exact lA | apply lI | refine lB ?_ fun _ => ?_) | exact lN _ | apply lI | refine lB ?_ fun _ => ?_
theorem Fg.calls (k : Nat) (A0 : Option Addr) (c0 : Nat) (A : List Int) (r : Int) (w : World) (U : Kd.C (Kd.int .i64) w A0 A.length A) (V : A.length ≤ c0) (h : Fg.f k A = some r) :
  Calls Try.prog 70 #[.slice A0 A.length c0] w fun e w' => e = .returned (.int .i64 r) ∧ Below w.heap.size w w' := by
 have W := aM U; have am := aM V; clear U V; have HB := aM (Below.refl w.heap.size w); rw [Fg.f] at h; have H := h; clear h
 apply iB H <;> clear H <;> intro N H
 ·exact absurd H (by simp)
 ·have af := decide_eq_false N; have ag : decide (A.length < 1) = false := decide_eq_false (by omega); clear N
  apply iN H; clear H; intro O H; have ah := dT O; have ai : decide (0 < A.length) = true := dT (by omega); clear O; have H' := aM H; clear H; have G : 0 ≤ (0 : Int) := (by omega); have I : 0 < (A.length : Int) := oT aO; obtain ⟨P, Z, D⟩ := Kd.at_int W.out 0 G I; cases Z; have qi139 : (0 < A.length) = True := eq_true (by omega)
  (try rw [show ((0 : Int)).toNat = 0 from rfl] at D)
  (try rw [Addr.add_zero'] at D)
  replace G := eq_true G; replace I := eq_true I
  go_enter Try.func70, Try.ntmps70
  go_wp2
  go_loopg [3, 4] k (fun kq v3 v4 w' => ∃ (B : Int) (z : Int), v3 = .int .i64 B ∧ v4 = .int .i64 z ∧ Aside0 (Fg.l0 kq A B z = some r) ∧ Aside0 (kq ≤ k) ∧ BA w w')
  case atStart => exact ⟨(rd A 0), (1), sI, sI, H', ⟨Nat.le_refl _⟩, bT0 HB⟩
  case round =>
   clear H'
   obtain ⟨B, z, rfl, rfl, HA, ak, HB⟩ := hrel; cases gk with
   | zero => exact absurd HA.out (by simp [Fg.l0])
   | succ k1 =>
    have H := HA.out; clear HA; simp only [Fg.l0] at H
    apply iB H <;> clear H <;> intro M H
    ·have aa := dT M; clear M
     apply iN H; clear H; intro Q H; have al := dT Q; clear Q; obtain ⟨Y, F⟩ : ∃ j_ : Int, (mx B (rd A z)) = j_ := ⟨_, rfl⟩
     first | rw [F] at H | simp only [F] at H
     have ae : (if B < (rd A z) then (rd A z) else B) = Y := F; have H' := aM H; clear H; obtain ⟨⟨R, ab, E⟩, J, L⟩ := xAt (Kd.at_int W.out) z; obtain rfl := sJJ ab; replace E := cX HB E
     go_wp2
     go_roundg k1
     case measure => have := ak.out; omega
     case rel => exact ⟨(Y), (wrap64 (z + 1)), (by first | rfl | (simp; done) | (simp only [← F] <;> (first | rfl | simp)) | (simp [*]; done)), sI, H', ⟨by have := ak.out; omega⟩, bT0 HB⟩
    ·have aa := decide_eq_false M; clear M; obtain rfl := Option.some.inj H
     go_wp2
     go_ret
     exact ⟨eW, bO HB.out⟩
def Fdc.f (k : Nat) (l0 : List (S73)) (a1 : Int) (a2 : Int) : Option (Bool) := (Fe.f k l0 a1).bind fun bt141 => (if bt141.2 = 0 then ((Fg.f k bt141.1).bind fun t145 => (some (decide (t145 < a2)))) else (some false))
theorem Fdc.mono : ∀ a0 a1 a2 k, LeO (Fdc.f k a0 a1 a2) (Fdc.f (k + 1) a0 a1 a2) := by
 intro a0 a1 a2 k
 unfold Fdc.f
 repeat' first | (with_reducible first | exact Fe.mono _ _ _ | exact Fg.mono _ _ | exact lA | apply lI | refine lB ?_ fun _ => ?_) | exact lN _ | apply lI | refine lB ?_ fun _ => ?_
theorem Fdc.calls (k : Nat) (J : Option Addr) (L : Nat) (A : List (S73)) (G : Int) (U : Int) (r : Bool) (w : World) (M : Kd.C k73 w J A.length A) (N : A.length ≤ L) (h : Fdc.f k A G U = some r) :
  Calls Try.prog 45 #[.slice J A.length L, .int .i64 G, .int .i64 U] w fun e w' => e = .returned (.bool r) ∧ Below w.heap.size w w' := by
 have O := aM M; have P := aM N; clear M N; have HB := aM (Below.refl w.heap.size w); rw [Fdc.f] at h; have H := h; clear h; replace H := Option.bind_eq_some_iff.mp H; obtain ⟨⟨B, D⟩, Q, H⟩ := H; replace H : (if D = 0 then ((Fg.f k B).bind fun F => (some (decide (F < U)))) else (some false)) = some r := H; have Z := aM Q; clear Q
 apply iB H <;> clear H <;> intro I H
 ·obtain ⟨V, W⟩ := bq I; clear I; apply bSx H; clear H; intro F A6 H; obtain rfl := Option.some.inj H
  go_enter Try.func45, Try.ntmps45
  go_wp2_with (first | ((with_reducible refine gate_callee (f := 60) rfl ?_); refine gL_ (some 12) Try.func60 #[.slice J A.length L, .int .i64 G] ?_; (with_reducible refine (Fe.calls k _ _ A G B D _ ?s1 P.out Z.out).mono ?_); (case s1 => exact cO O.out); rintro e w7 ⟨Y, rfl, E, hb⟩; refine ⟨_, rfl, ?_⟩; have z := rW E (bP0 HB); replace HB := hS0 HB hb; obtain ⟨ac, ad, rfl⟩ := sL z) | (go_at_call 70; (with_reducible refine (Fg.calls k _ _ B F _ ?s1 (rR z).2.1 A6.out).mono ?_); (case s1 => exact cO (rR z).2.2); rintro e w9 ⟨rfl, hb⟩; replace z := rB z hb; replace HB := hS0 HB hb))
  go_ret
  exact ⟨eW, bO HB.out⟩
 ·obtain ⟨V, W⟩ := bn I; obtain rfl := Option.some.inj H
  go_enter Try.func45, Try.ntmps45
  go_wp2_with (first | ((with_reducible refine gate_callee (f := 60) rfl ?_); refine gL_ (some 12) Try.func60 #[.slice J A.length L, .int .i64 G] ?_; (with_reducible refine (Fe.calls k _ _ A G B D _ ?s1 P.out Z.out).mono ?_); (case s1 => exact cO O.out); rintro e ae ⟨Y, rfl, E, hb⟩; refine ⟨_, rfl, ?_⟩; have z := rW E (bP0 HB); replace HB := hS0 HB hb))
  go_ret
  exact ⟨eW, bO HB.out⟩
mutual
def Fsa.j0 : Nat → Int → Bool → List ByteArray → List Bool → List Int → List (S73) → Option (Int)
 | 0, _, _, _, _, _, _ => none
 | k + 1, x3, x45, x147000, x147001, x147002, x147003 => if x45 = true then (some 3) else (Fsa.l0 k x3 x3 0 x147000 x147001 x147002 x147003)
def Fsa.l0 : Nat → Int → Int → Int → List ByteArray → List Bool → List Int → List (S73) → Option (Int)
 | 0, _, _, _, _, _, _, _ => none
 | k + 1, x3, x46, x47, x147000, x147001, x147002, x147003 => if x47 < x46 then ((Fsc.f x147000 x147001 x147002 x147003 x47).bind fun t151 => (if (t151.length : Int) > 32 then (some 3) else ((Fdc.f k t151 (x147000.length : Int) x3).bind fun t154 => (if t154 = true then (Fsa.l0 k x3 x46 (wrap64 (x47 + 1)) x147000 x147001 x147002 x147003) else (some 3))))) else (some 0)
end
def Fsa.f (k : Nat) (l0_0 : List ByteArray) (l0_1 : List Bool) (l0_2 : List Int) (l0_3 : List (S73)) : Option (Int) := (Ft.f k l0_0 (l0_1.length : Int)).bind fun t147 => (if t147 = true then (if (l0_2.length : Int) = (wrap64 ((l0_1.length : Int) + 1)) then (if 0 < (l0_2.length : Int) then (if (rd l0_2 0) = 0 then (if 0 ≤ (l0_1.length : Int) then (if (l0_1.length : Int) < (l0_2.length : Int) then (if (rd l0_2 (l0_1.length : Int)) = (l0_3.length : Int) then ((Ffc.f k l0_2).bind fun t150 => (Fsa.j0 k (l0_1.length : Int) (!t150) l0_0 l0_1 l0_2 l0_3)) else (Fsa.j0 k (l0_1.length : Int) true l0_0 l0_1 l0_2 l0_3)) else (none)) else (none)) else (Fsa.j0 k (l0_1.length : Int) true l0_0 l0_1 l0_2 l0_3)) else (none)) else (Fsa.j0 k (l0_1.length : Int) true l0_0 l0_1 l0_2 l0_3)) else (Fsa.j0 k (l0_1.length : Int) true l0_0 l0_1 l0_2 l0_3))
theorem Fsa.mono_l : ∀ k, (∀ y0 y1 y2 y3 y4 y5, LeO (Fsa.j0 k y0 y1 y2 y3 y4 y5) (Fsa.j0 (k + 1) y0 y1 y2 y3 y4 y5)) ∧ (∀ y0 y1 y2 y3 y4 y5 y6, LeO (Fsa.l0 k y0 y1 y2 y3 y4 y5 y6) (Fsa.l0 (k + 1) y0 y1 y2 y3 y4 y5 y6))
 | 0 => ⟨fun _ _ _ _ _ _ r h => by simp [Fsa.j0] at h, fun _ _ _ _ _ _ _ r h => by simp [Fsa.l0] at h⟩
 | k + 1 => by
  obtain ⟨ih0, ih1⟩ := Fsa.mono_l k; refine ⟨?_, ?_⟩
  ·intro y0 y1 y2 y3 y4 y5
   unfold Fsa.j0
   repeat' first | (with_reducible first | exact ih0 _ _ _ _ _ _ | exact ih1 _ _ _ _ _ _ _ | exact Fdc.mono _ _ _ _ | exact Ffc.mono _ _ | exact Ft.mono _ _ _ | exact lA | apply lI | refine lB ?_ fun _ => ?_) | exact lN _ | apply lI | refine lB ?_ fun _ => ?_
  ·intro y0 y1 y2 y3 y4 y5 y6
   unfold Fsa.l0
   repeat' first | (with_reducible first | exact ih0 _ _ _ _ _ _ | exact ih1 _ _ _ _ _ _ _ | exact Fdc.mono _ _ _ _ | exact Ffc.mono _ _ | exact Ft.mono _ _ _ | exact lA | apply lI | refine lB ?_ fun _ => ?_) | exact lN _ | apply lI | refine lB ?_ fun _ => ?_
theorem Fsa.mono : ∀ a0 a1 a2 a3 k, LeO (Fsa.f k a0 a1 a2 a3) (Fsa.f (k + 1) a0 a1 a2 a3) := by
 intro a0 a1 a2 a3 k; obtain ⟨ih0, ih1⟩ := Fsa.mono_l k
 unfold Fsa.f
 repeat' first | (with_reducible first | exact ih0 _ _ _ _ _ _ | exact ih1 _ _ _ _ _ _ _ | exact Fdc.mono _ _ _ _ | exact Ffc.mono _ _ | exact Ft.mono _ _ _ | exact lA | apply lI | refine lB ?_ fun _ => ?_) | exact lN _ | apply lI | refine lB ?_ fun _ => ?_
def Fsa.T2 : Bool × List (List Nat × List Nat) := (true, [([], []), ([0], [0]), ([], []), ([1, 2], [1, 2]), ([3], [3]), ([4, 3], [4]), ([5], [5]), ([6, 5], [5, 6]), ([7, 5], [5, 7]), ([5], [5]), ([9, 5], [5, 9]), ([8, 10, 5], [5, 8, 10]), ([5, 11], [5, 11]), ([12, 5], [12]), ([13], [13]), ([14, 13], [13, 14]), ([15, 13], [13, 15]), ([16, 13], [13, 16]), ([17, 13], [13, 17]), ([13, 18], [13, 18]), ([19, 13], [19]), ([20], [20]), ([21, 20], [20, 21]), ([20], [20]), ([22, 23, 20], [20, 22, 23]), ([24, 20], [20, 24]), ([20], [20]), ([26, 20], [20, 26]), ([27, 20], [20, 27]), ([25, 28, 20], [20, 25, 28]), ([20, 29], [20, 29]), ([30, 20], [30]), ([31], [31]), ([32, 31], [31, 32]), ([33, 31, 31], [31, 33]), ([34, 31], [31, 34]), ([31, 35], [31, 35])])
def Fsa.B2 : List Nat := [0, 1, 0, 7, 15, 31, 63, 127, 255, 63, 575, 2047, 4095, 8191, 16383, 32767, 65535, 131071, 262143, 524287, 1048575, 2097151, 4194303, 2097151, 16777215, 33554431, 2097151, 69206015, 203423743, 536870911, 1073741823, 2147483647, 4294967295, 8589934591, 17179869183, 34359738367, 68719476735]
theorem Fsa.tab2 : rtab .any (opsOf Try.f21 2) = Fsa.T2 := by kernel_rfl
theorem Fsa.bits2 : waitsOk Fsa.T2.2 Fsa.B2 = true := by kernel_rfl
theorem Fsa.calls (k : Nat) (L : Option Addr) (M : Nat) (E : List ByteArray) (V : Option Addr) (W : Nat) (A : List Bool) (ab : Option Addr) (Q : Nat) (B : List Int) (Y : Option Addr) (Z : Nat) (J : List (S73)) (r : Int) (w : World) (aC : Kd.C Kd.string w L E.length E) (aD : E.length ≤ M) (aE : Kd.C Kd.bool w V A.length A) (aF : A.length ≤ W) (aG : Kd.C (Kd.int .i64) w ab B.length B) (aH : B.length ≤ Q) (aI : Kd.C k73 w Y J.length J) (aJ : J.length ≤ Z) (h : Fsa.f k E A B J = some r) :
  Calls Try.prog 21 #[.agg #[.slice L E.length M, .slice V A.length W, .slice ab B.length Q, .slice Y J.length Z]] w fun e w' => e = .returned (.int .i64 r) ∧ Below w.heap.size w w' := by
 have hu27 := Try.underlying27; have af := aM aC; have ag := aM aD; clear aC aD; have ar := aM aE; have au := aM aF; clear aE aF; have ac := aM aG; have al := aM aH; clear aG aH; have av := aM aI; have aw := aM aJ; clear aI aJ; have HB := aM (Below.refl w.heap.size w); rw [Fsa.f] at h; have H := h; clear h; have aQ := aM H; clear H
 go_enter Try.func21, Try.ntmps21
 go_upto_region 2 with (first | ((with_reducible refine gate_dst (N := 1) rfl ?_); (try (refine gate_guard (by rfl) ?_; dsimp only)); refine be_ (cs := #[.slice L E.length M, .slice V A.length W, .slice ab B.length Q, .slice Y J.length Z]) (t := 27) ?_; intro G hg w3 a6 hb; have z := aM (a6); have ax := gE hg (bP0 HB); have I := gE hg (bP0 HB); replace HB := hS0 HB hb; clear hb a6 hg; obtain ⟨b5, b6, b7, b8, b9, ca, cb, cc⟩ := bG4 z))
 (try simp only [Act.put, sA, sB, sC])
 go_cut [45] (fun cd wc => ∃ (kq : Nat) (am : Bool), cd = .bool am ∧ Aside0 (Fsa.j0 kq (A.length : Int) am E A B J = some r) ∧ Aside0 (kq ≤ k) ∧ Aside0 (wc.heap[G]? = some (.cells #[(.slice L E.length M), (.slice V A.length W), (.slice ab B.length Q), (.slice Y J.length Z)] 27 (0, 0))) ∧ BA w wc)
 case first =>
  have H := aQ.out; clear aQ; apply bSx H; clear H; intro bf A5 H
  by_cases c6 : bf = true
  ·subst c6
   rw [if_pos rfl] at H
   apply iB H <;> clear H <;> intro c7 H
   ·obtain ⟨an, bg⟩ := bq c7; clear c7
    (first | rw [an] | (simp only [i64_w, i32_w]; rw [an]) | skip)
    apply iN H; clear H; intro c8 H; have ck := dT c8; have cl : decide (0 < B.length) = true := dT (by omega); clear c8
    apply iB H <;> clear H <;> intro c9 H
    ·obtain ⟨bh, bi⟩ := bq c9; clear c9
     apply iN H; clear H; intro aK H; have cg := dT aK; have ch : decide (0 ≤ A.length) = true := dT (by omega); clear aK
     apply iN H; clear H; intro az H; have ci := dT az; have cj : decide (A.length < B.length) = true := dT (Int.ofNat_lt.mp az); clear az
     apply iB H <;> clear H <;> intro aA H
     ·obtain ⟨a7, a8⟩ := bq aA; clear aA; apply bSx H; clear H; intro aV ce H; have H' := aM H; clear H
      replace z := kD z; replace HB := aM (below_drew1 HB.out); have ad : 0 ≤ (0 : Int) := (by omega); have ae : 0 < (B.length : Int) := oT aO; obtain ⟨R, ao, F⟩ := Kd.at_int ac.out 0 ad ae; have D := F
      (try rw [show ((0 : Int)).toNat = 0 from rfl] at D)
      (try rw [show 0 * 1 = 0 from rfl] at D)
      (try rw [Addr.add_zero'] at D)
      cases ao; have qi148 : (0 < B.length) = True := eq_true (by omega)
      (try rw [show ((0 : Int)).toNat = 0 from rfl] at F)
      (try rw [Addr.add_zero'] at F)
      replace F := cX HB F; replace ad := eq_true ad; replace ae := eq_true ae; have ai : 0 ≤ ((A.length : Int) : Int) := oT aO; have aj : (A.length : Int) < (B.length : Int) := oT aO; obtain ⟨ay, aB, O⟩ := Kd.at_int ac.out (A.length : Int) ai aj; have P := O; obtain rfl := sJJ aB; replace O := cX HB O
      (try simp only [Go.IntWalk.toNatUp] at O)
      replace ai := eq_true ai; replace aj := eq_true aj; refine start_ (n := 37) (S := fun w' => w'.cell? ⟨G, 0, none⟩ = some (.slice L E.length M) ∧ w'.cell? ⟨G, 1, none⟩ = some (.slice V A.length W) ∧ w'.cell? ⟨G, 2, none⟩ = some (.slice (some R) B.length Q) ∧ w'.cell? ⟨G, 3, none⟩ = some (.slice Y J.length Z) ∧ w'.cell? R = some (.int .i64 (rd B 0)) ∧ w'.cell? (R.add A.length) = some (.int .i64 (rd B (A.length : Int)))) (ds := []) (bl 37 0) (by kernel_rfl) rfl rfl ⟨(blk_cell z.out 0).trans rfl, (blk_cell z.out 1).trans rfl, (blk_cell z.out 2).trans rfl, (blk_cell z.out 3).trans rfl, ((HB.out.cell (World.block_lt_of_cell? w _ D)).trans D), ((HB.out.cell (World.block_lt_of_cell? w _ P)).trans P)⟩ (fun aS => ?_); refine with_tabW Fsa.tab2 Fsa.bits2 (fun aR aT => ?_); generalize w3.drew = ct at z HB F O aS ⊢; refine pu_ 0 9 (bl 37 1) aR ?_; refine pu_ 2 11 (bl 37 5) aR ?_; refine tk6_ 1 10 (bl 37 7) aR aT aS ?_; refine one_ (i := 3) (N := some 12) (bl 37 15) rfl rfl (one_of aR.out (by kernel_rfl)) (by decide) (fun K hK => ?_); refine gS_ Try.func42 #[.slice L E.length M, .int .i64 (A.length : Int)] ?_
      with_reducible refine (Ft.calls k _ _ E (A.length : Int) true _ ?s1 ?s2 A5.out).mono ?_
      (case s1 => exact cB af HB)
      (case s2 => exact ag.out)
      rintro e cu ⟨rfl, hb⟩; refine ⟨_, rfl, ?_⟩; replace z := kB z hb; replace HB := hS1 HB I hb
      refine hK.out _ _ ⟨(blk_cell z.out 0).trans rfl, (blk_cell z.out 1).trans rfl, (blk_cell z.out 2).trans rfl, (blk_cell z.out 3).trans rfl, ((HB.out.cell (World.block_lt_of_cell? w _ D)).trans D), ((HB.out.cell (World.block_lt_of_cell? w _ P)).trans P)⟩ (fun aS => ?_); clear hK K; refine nm_ 12 ?_; refine pu_ 4 13 (bl 37 31) aR ?_; refine pu_ 5 14 (bl 37 63) aR ?_; refine pu_ 6 15 (bl 37 127) aR ?_; refine pu_ 9 18 (bl 37 639) aR ?_; refine pu_ 10 19 (bl 37 1663) aR ?_; refine tk6_ 7 16 (bl 37 1791) aR aT aS ?_; refine pu_ 8 17 (bl 37 2047) aR ?_; refine pu_ 11 20 (bl 37 4095) aR ?_; refine pu_ 12 21 (bl 37 8191) aR ?_; refine pu_ 13 22 (bl 37 16383) aR ?_; refine pu_ 14 23 (bl 37 32767) aR ?_; refine tk6_ 15 24 (bl 37 65535) aR aT aS ?_; refine pu_ 16 25 (bl 37 131071) aR ?_; refine tk6_ 17 26 (bl 37 262143) aR aT aS ?_; refine pu_ 18 27 (bl 37 524287) aR ?_; refine pu_ 19 28 (bl 37 1048575) aR ?_; refine pu_ 20 29 (bl 37 2097151) aR ?_; refine pu_ 21 30 (bl 37 4194303) aR ?_; refine pu_ 23 32 (bl 37 12582911) aR ?_; refine pu_ 26 35 (bl 37 79691775) aR ?_; refine tk6_ 22 31 (bl 37 83886079) aR aT aS ?_; refine pu_ 24 33 (bl 37 100663295) aR ?_; refine tk6_ 25 34 (bl 37 134217727) aR aT aS ?_; refine tk6_ 27 36 (bl 37 268435455) aR aT aS ?_; refine pu_ 28 37 (bl 37 536870911) aR ?_; refine pu_ 29 38 (bl 37 1073741823) aR ?_; refine pu_ 30 39 (bl 37 2147483647) aR ?_; refine pu_ 31 40 (bl 37 4294967295) aR ?_; refine pu_ 32 41 (bl 37 8589934591) aR ?_; refine tk6_ 33 42 (bl 37 17179869183) aR aT aS ?_; refine one_ (i := 34) (N := some 43) (bl 37 34359738367) rfl rfl (one_of aR.out (by kernel_rfl)) (by decide) (fun K hK => ?_); refine gS_ Try.func43 #[.slice (some R) B.length Q] ?_
      with_reducible refine (Ffc.calls k _ _ B aV _ ?s1 ?s2 ce.out).mono ?_
      (case s1 => exact cB ac HB)
      (case s2 => exact al.out)
      rintro e w' ⟨rfl, ⟨nd, rfl⟩⟩; refine ⟨_, rfl, ?_⟩; refine hK.out _ _ ⟨(blk_cell z.out 0).trans rfl, (blk_cell z.out 1).trans rfl, (blk_cell z.out 2).trans rfl, (blk_cell z.out 3).trans rfl, ((HB.out.cell (World.block_lt_of_cell? w _ D)).trans D), ((HB.out.cell (World.block_lt_of_cell? w _ P)).trans P)⟩ (fun aS => ?_); clear hK K; refine nm_ 43 ?_; refine pu_ 35 44 (bl 37 68719476735) aR ?_; refine pu_ 36 45 (bl 37 137438953471) aR ?_; refine done_ (done_of aR.out (by kernel_rfl)) ?_
      try go_wp2
      go_meet
      case rel => exact ⟨_, (!aV), sI, H', lE, kQ z, bT1 HB I⟩
     ·obtain ⟨a7, a8⟩ := bn aA; have H' := aM H; clear H
      replace z := kD z; replace HB := aM (below_drew1 HB.out); have ad : 0 ≤ (0 : Int) := (by omega); have ae : 0 < (B.length : Int) := oT aO; obtain ⟨R, ao, F⟩ := Kd.at_int ac.out 0 ad ae; have D := F
      (try rw [show ((0 : Int)).toNat = 0 from rfl] at D)
      (try rw [show 0 * 1 = 0 from rfl] at D)
      (try rw [Addr.add_zero'] at D)
      cases ao; have qi148 : (0 < B.length) = True := eq_true (by omega)
      (try rw [show ((0 : Int)).toNat = 0 from rfl] at F)
      (try rw [Addr.add_zero'] at F)
      replace F := cX HB F; replace ad := eq_true ad; replace ae := eq_true ae; have ai : 0 ≤ ((A.length : Int) : Int) := oT aO; have aj : (A.length : Int) < (B.length : Int) := oT aO; obtain ⟨ay, aB, O⟩ := Kd.at_int ac.out (A.length : Int) ai aj; have P := O; obtain rfl := sJJ aB; replace O := cX HB O
      (try simp only [Go.IntWalk.toNatUp] at O)
      replace ai := eq_true ai; replace aj := eq_true aj; refine start_ (n := 37) (S := fun w' => w'.cell? ⟨G, 0, none⟩ = some (.slice L E.length M) ∧ w'.cell? ⟨G, 1, none⟩ = some (.slice V A.length W) ∧ w'.cell? ⟨G, 2, none⟩ = some (.slice (some R) B.length Q) ∧ w'.cell? ⟨G, 3, none⟩ = some (.slice Y J.length Z) ∧ w'.cell? R = some (.int .i64 (rd B 0)) ∧ w'.cell? (R.add A.length) = some (.int .i64 (rd B (A.length : Int)))) (ds := []) (bl 37 0) (by kernel_rfl) rfl rfl ⟨(blk_cell z.out 0).trans rfl, (blk_cell z.out 1).trans rfl, (blk_cell z.out 2).trans rfl, (blk_cell z.out 3).trans rfl, ((HB.out.cell (World.block_lt_of_cell? w _ D)).trans D), ((HB.out.cell (World.block_lt_of_cell? w _ P)).trans P)⟩ (fun aS => ?_); refine with_tabW Fsa.tab2 Fsa.bits2 (fun aR aT => ?_); generalize w3.drew = cv at z HB F O aS ⊢; refine pu_ 0 9 (bl 37 1) aR ?_; refine pu_ 2 11 (bl 37 5) aR ?_; refine tk6_ 1 10 (bl 37 7) aR aT aS ?_; refine one_ (i := 3) (N := some 12) (bl 37 15) rfl rfl (one_of aR.out (by kernel_rfl)) (by decide) (fun K hK => ?_); refine gS_ Try.func42 #[.slice L E.length M, .int .i64 (A.length : Int)] ?_
      with_reducible refine (Ft.calls k _ _ E (A.length : Int) true _ ?s1 ?s2 A5.out).mono ?_
      (case s1 => exact cB af HB)
      (case s2 => exact ag.out)
      rintro e cw ⟨rfl, hb⟩; refine ⟨_, rfl, ?_⟩; replace z := kB z hb; replace HB := hS1 HB I hb
      refine hK.out _ _ ⟨(blk_cell z.out 0).trans rfl, (blk_cell z.out 1).trans rfl, (blk_cell z.out 2).trans rfl, (blk_cell z.out 3).trans rfl, ((HB.out.cell (World.block_lt_of_cell? w _ D)).trans D), ((HB.out.cell (World.block_lt_of_cell? w _ P)).trans P)⟩ (fun aS => ?_); clear hK K; refine nm_ 12 ?_; refine pu_ 4 13 (bl 37 31) aR ?_; refine pu_ 5 14 (bl 37 63) aR ?_; refine pu_ 6 15 (bl 37 127) aR ?_; refine pu_ 9 18 (bl 37 639) aR ?_; refine pu_ 10 19 (bl 37 1663) aR ?_; refine tk6_ 7 16 (bl 37 1791) aR aT aS ?_; refine pu_ 8 17 (bl 37 2047) aR ?_; refine pu_ 11 20 (bl 37 4095) aR ?_; refine pu_ 12 21 (bl 37 8191) aR ?_; refine pu_ 13 22 (bl 37 16383) aR ?_; refine pu_ 14 23 (bl 37 32767) aR ?_; refine tk6_ 15 24 (bl 37 65535) aR aT aS ?_; refine pu_ 16 25 (bl 37 131071) aR ?_; refine tk6_ 17 26 (bl 37 262143) aR aT aS ?_; refine pu_ 18 27 (bl 37 524287) aR ?_; refine pu_ 19 28 (bl 37 1048575) aR ?_; refine pu_ 20 29 (bl 37 2097151) aR ?_; refine pu_ 21 30 (bl 37 4194303) aR ?_; refine pu_ 23 32 (bl 37 12582911) aR ?_; refine pu_ 26 35 (bl 37 79691775) aR ?_; refine tk6_ 22 31 (bl 37 83886079) aR aT aS ?_; refine pu_ 24 33 (bl 37 100663295) aR ?_; refine tk6_ 25 34 (bl 37 134217727) aR aT aS ?_; refine tk6_ 27 36 (bl 37 268435455) aR aT aS ?_; refine pu_ 28 37 (bl 37 536870911) aR ?_; refine pu_ 29 38 (bl 37 1073741823) aR ?_; refine pu_ 30 39 (bl 37 2147483647) aR ?_; refine pu_ 31 40 (bl 37 4294967295) aR ?_; refine pn_ 32 41 (bl 37 8589934591) aR ?_; refine pn_ 33 42 (bl 37 17179869183) aR ?_; refine pn_ 34 43 (bl 37 34359738367) aR ?_; refine pn_ 35 44 (bl 37 68719476735) aR ?_; refine pu_ 36 45 (bl 37 137438953471) aR ?_; refine done_ (done_of aR.out (by kernel_rfl)) ?_
      try go_wp2
      go_meet
      case rel => exact ⟨_, (true), sI, H', lE, kQ z, bT1 HB I⟩
    ·obtain ⟨bh, bi⟩ := bn c9; have H' := aM H; clear H
     replace z := kD z; replace HB := aM (below_drew1 HB.out); have ad : 0 ≤ (0 : Int) := (by omega); have ae : 0 < (B.length : Int) := oT aO; obtain ⟨R, ao, F⟩ := Kd.at_int ac.out 0 ad ae; have D := F
     (try rw [show ((0 : Int)).toNat = 0 from rfl] at D)
     (try rw [show 0 * 1 = 0 from rfl] at D)
     (try rw [Addr.add_zero'] at D)
     cases ao; have qi148 : (0 < B.length) = True := eq_true (by omega)
     (try rw [show ((0 : Int)).toNat = 0 from rfl] at F)
     (try rw [Addr.add_zero'] at F)
     replace F := cX HB F; replace ad := eq_true ad; replace ae := eq_true ae; refine start_ (n := 37) (S := fun w' => w'.cell? ⟨G, 0, none⟩ = some (.slice L E.length M) ∧ w'.cell? ⟨G, 1, none⟩ = some (.slice V A.length W) ∧ w'.cell? ⟨G, 2, none⟩ = some (.slice (some R) B.length Q) ∧ w'.cell? ⟨G, 3, none⟩ = some (.slice Y J.length Z) ∧ w'.cell? R = some (.int .i64 (rd B 0))) (ds := []) (bl 37 0) (by kernel_rfl) rfl rfl ⟨(blk_cell z.out 0).trans rfl, (blk_cell z.out 1).trans rfl, (blk_cell z.out 2).trans rfl, (blk_cell z.out 3).trans rfl, ((HB.out.cell (World.block_lt_of_cell? w _ D)).trans D)⟩ (fun aS => ?_); refine with_tabW Fsa.tab2 Fsa.bits2 (fun aR aT => ?_); generalize w3.drew = cx at z HB F aS ⊢; refine pu_ 0 9 (bl 37 1) aR ?_; refine pu_ 2 11 (bl 37 5) aR ?_; refine tk5_ 1 10 (bl 37 7) aR aT aS ?_; refine one_ (i := 3) (N := some 12) (bl 37 15) rfl rfl (one_of aR.out (by kernel_rfl)) (by decide) (fun K hK => ?_); refine gS_ Try.func42 #[.slice L E.length M, .int .i64 (A.length : Int)] ?_
     with_reducible refine (Ft.calls k _ _ E (A.length : Int) true _ ?s1 ?s2 A5.out).mono ?_
     (case s1 => exact cB af HB)
     (case s2 => exact ag.out)
     rintro e cy ⟨rfl, hb⟩; refine ⟨_, rfl, ?_⟩; replace z := kB z hb; replace HB := hS1 HB I hb
     refine hK.out _ _ ⟨(blk_cell z.out 0).trans rfl, (blk_cell z.out 1).trans rfl, (blk_cell z.out 2).trans rfl, (blk_cell z.out 3).trans rfl, ((HB.out.cell (World.block_lt_of_cell? w _ D)).trans D)⟩ (fun aS => ?_); clear hK K; refine nm_ 12 ?_; refine pu_ 4 13 (bl 37 31) aR ?_; refine pu_ 5 14 (bl 37 63) aR ?_; refine pu_ 6 15 (bl 37 127) aR ?_; refine pu_ 9 18 (bl 37 639) aR ?_; refine pu_ 10 19 (bl 37 1663) aR ?_; refine tk5_ 7 16 (bl 37 1791) aR aT aS ?_; refine pu_ 8 17 (bl 37 2047) aR ?_; refine pu_ 11 20 (bl 37 4095) aR ?_; refine pu_ 12 21 (bl 37 8191) aR ?_; refine pu_ 13 22 (bl 37 16383) aR ?_; refine pu_ 14 23 (bl 37 32767) aR ?_; refine tk5_ 15 24 (bl 37 65535) aR aT aS ?_; refine pu_ 16 25 (bl 37 131071) aR ?_; refine tk5_ 17 26 (bl 37 262143) aR aT aS ?_; refine pu_ 18 27 (bl 37 524287) aR ?_; refine pu_ 19 28 (bl 37 1048575) aR ?_; refine pu_ 20 29 (bl 37 2097151) aR ?_; refine pn_ 21 30 (bl 37 4194303) aR ?_; refine pn_ 22 31 (bl 37 8388607) aR ?_; refine pn_ 23 32 (bl 37 16777215) aR ?_; refine pn_ 24 33 (bl 37 33554431) aR ?_; refine pn_ 25 34 (bl 37 67108863) aR ?_; refine pn_ 26 35 (bl 37 134217727) aR ?_; refine pn_ 27 36 (bl 37 268435455) aR ?_; refine pn_ 28 37 (bl 37 536870911) aR ?_; refine pn_ 29 38 (bl 37 1073741823) aR ?_; refine pu_ 30 39 (bl 37 2147483647) aR ?_; refine pu_ 31 40 (bl 37 4294967295) aR ?_; refine pn_ 32 41 (bl 37 8589934591) aR ?_; refine pn_ 33 42 (bl 37 17179869183) aR ?_; refine pn_ 34 43 (bl 37 34359738367) aR ?_; refine pn_ 35 44 (bl 37 68719476735) aR ?_; refine pu_ 36 45 (bl 37 137438953471) aR ?_; refine done_ (done_of aR.out (by kernel_rfl)) ?_
     try go_wp2
     go_meet
     case rel => exact ⟨_, (true), sI, H', lE, kQ z, bT1 HB I⟩
   ·obtain ⟨an, bg⟩ := bn c7
    (first | rw [an] | (simp only [i64_w, i32_w]; rw [an]) | skip)
    have H' := aM H; clear H
    replace z := kD z; replace HB := aM (below_drew1 HB.out); refine start_ (n := 37) (S := fun w' => w'.cell? ⟨G, 0, none⟩ = some (.slice L E.length M) ∧ w'.cell? ⟨G, 1, none⟩ = some (.slice V A.length W) ∧ w'.cell? ⟨G, 2, none⟩ = some (.slice ab B.length Q) ∧ w'.cell? ⟨G, 3, none⟩ = some (.slice Y J.length Z)) (ds := []) (bl 37 0) (by kernel_rfl) rfl rfl (bD4 z) (fun aS => ?_); refine with_tabW Fsa.tab2 Fsa.bits2 (fun aR aT => ?_); generalize w3.drew = cz at z HB aS ⊢; refine pu_ 0 9 (bl 37 1) aR ?_; refine pu_ 2 11 (bl 37 5) aR ?_; refine tk4_ 1 10 (bl 37 7) aR aT aS ?_; refine one_ (i := 3) (N := some 12) (bl 37 15) rfl rfl (one_of aR.out (by kernel_rfl)) (by decide) (fun K hK => ?_); refine gS_ Try.func42 #[.slice L E.length M, .int .i64 (A.length : Int)] ?_
    with_reducible refine (Ft.calls k _ _ E (A.length : Int) true _ ?s1 ?s2 A5.out).mono ?_
    (case s1 => exact cB af HB)
    (case s2 => exact ag.out)
    rintro e cA ⟨rfl, hb⟩; refine ⟨_, rfl, ?_⟩; replace z := kB z hb; replace HB := hS1 HB I hb
    refine hK.out _ _ (bD4 z) (fun aS => ?_); clear hK K; refine nm_ 12 ?_; refine pu_ 4 13 (bl 37 31) aR ?_; refine pu_ 5 14 (bl 37 63) aR ?_; refine pu_ 6 15 (bl 37 127) aR ?_; refine pu_ 9 18 (bl 37 639) aR ?_; refine pu_ 10 19 (bl 37 1663) aR ?_; refine tk4_ 7 16 (bl 37 1791) aR aT aS ?_; refine pu_ 8 17 (bl 37 2047) aR ?_; refine pu_ 11 20 (bl 37 4095) aR ?_; refine pu_ 12 21 (bl 37 8191) aR ?_; refine pu_ 13 22 (bl 37 16383) aR ?_; refine pn_ 14 23 (bl 37 32767) aR ?_; refine pn_ 15 24 (bl 37 65535) aR ?_; refine pn_ 16 25 (bl 37 131071) aR ?_; refine pn_ 17 26 (bl 37 262143) aR ?_; refine pn_ 18 27 (bl 37 524287) aR ?_; refine pu_ 19 28 (bl 37 1048575) aR ?_; refine pu_ 20 29 (bl 37 2097151) aR ?_; refine pn_ 21 30 (bl 37 4194303) aR ?_; refine pn_ 22 31 (bl 37 8388607) aR ?_; refine pn_ 23 32 (bl 37 16777215) aR ?_; refine pn_ 24 33 (bl 37 33554431) aR ?_; refine pn_ 25 34 (bl 37 67108863) aR ?_; refine pn_ 26 35 (bl 37 134217727) aR ?_; refine pn_ 27 36 (bl 37 268435455) aR ?_; refine pn_ 28 37 (bl 37 536870911) aR ?_; refine pn_ 29 38 (bl 37 1073741823) aR ?_; refine pu_ 30 39 (bl 37 2147483647) aR ?_; refine pu_ 31 40 (bl 37 4294967295) aR ?_; refine pn_ 32 41 (bl 37 8589934591) aR ?_; refine pn_ 33 42 (bl 37 17179869183) aR ?_; refine pn_ 34 43 (bl 37 34359738367) aR ?_; refine pn_ 35 44 (bl 37 68719476735) aR ?_; refine pu_ 36 45 (bl 37 137438953471) aR ?_; refine done_ (done_of aR.out (by kernel_rfl)) ?_
    try go_wp2
    go_meet
    case rel => exact ⟨_, (true), sI, H', lE, kQ z, bT1 HB I⟩
  ·replace c6 := Bool.eq_false_iff.mpr c6; subst c6
   rw [if_neg nF] at H; have H' := aM H; clear H
   replace z := kD z; replace HB := aM (below_drew1 HB.out); refine start_ (n := 37) (S := fun w' => w'.cell? ⟨G, 0, none⟩ = some (.slice L E.length M) ∧ w'.cell? ⟨G, 1, none⟩ = some (.slice V A.length W) ∧ w'.cell? ⟨G, 2, none⟩ = some (.slice ab B.length Q) ∧ w'.cell? ⟨G, 3, none⟩ = some (.slice Y J.length Z)) (ds := []) (bl 37 0) (by kernel_rfl) rfl rfl (bD4 z) (fun aS => ?_); refine with_tabW Fsa.tab2 Fsa.bits2 (fun aR aT => ?_); generalize w3.drew = cC at z HB aS ⊢; refine pu_ 0 9 (bl 37 1) aR ?_; refine pu_ 2 11 (bl 37 5) aR ?_; refine tk4_ 1 10 (bl 37 7) aR aT aS ?_; refine one_ (i := 3) (N := some 12) (bl 37 15) rfl rfl (one_of aR.out (by kernel_rfl)) (by decide) (fun K hK => ?_); refine gS_ Try.func42 #[.slice L E.length M, .int .i64 (A.length : Int)] ?_
   with_reducible refine (Ft.calls k _ _ E (A.length : Int) false _ ?s1 ?s2 A5.out).mono ?_
   (case s1 => exact cB af HB)
   (case s2 => exact ag.out)
   rintro e cD ⟨rfl, hb⟩; refine ⟨_, rfl, ?_⟩; replace z := kB z hb; replace HB := hS1 HB I hb
   refine hK.out _ _ (bD4 z) (fun aS => ?_); clear hK K; refine nm_ 12 ?_; refine pu_ 4 13 (bl 37 31) aR ?_; refine pu_ 5 14 (bl 37 63) aR ?_; refine pn_ 6 15 (bl 37 127) aR ?_; refine pn_ 7 16 (bl 37 255) aR ?_; refine pn_ 8 17 (bl 37 511) aR ?_; refine pn_ 9 18 (bl 37 1023) aR ?_; refine pn_ 10 19 (bl 37 2047) aR ?_; refine pn_ 11 20 (bl 37 4095) aR ?_; refine pu_ 12 21 (bl 37 8191) aR ?_; refine pu_ 13 22 (bl 37 16383) aR ?_; refine pn_ 14 23 (bl 37 32767) aR ?_; refine pn_ 15 24 (bl 37 65535) aR ?_; refine pn_ 16 25 (bl 37 131071) aR ?_; refine pn_ 17 26 (bl 37 262143) aR ?_; refine pn_ 18 27 (bl 37 524287) aR ?_; refine pu_ 19 28 (bl 37 1048575) aR ?_; refine pu_ 20 29 (bl 37 2097151) aR ?_; refine pn_ 21 30 (bl 37 4194303) aR ?_; refine pn_ 22 31 (bl 37 8388607) aR ?_; refine pn_ 23 32 (bl 37 16777215) aR ?_; refine pn_ 24 33 (bl 37 33554431) aR ?_; refine pn_ 25 34 (bl 37 67108863) aR ?_; refine pn_ 26 35 (bl 37 134217727) aR ?_; refine pn_ 27 36 (bl 37 268435455) aR ?_; refine pn_ 28 37 (bl 37 536870911) aR ?_; refine pn_ 29 38 (bl 37 1073741823) aR ?_; refine pu_ 30 39 (bl 37 2147483647) aR ?_; refine pu_ 31 40 (bl 37 4294967295) aR ?_; refine pn_ 32 41 (bl 37 8589934591) aR ?_; refine pn_ 33 42 (bl 37 17179869183) aR ?_; refine pn_ 34 43 (bl 37 34359738367) aR ?_; refine pn_ 35 44 (bl 37 68719476735) aR ?_; refine pu_ 36 45 (bl 37 137438953471) aR ?_; refine done_ (done_of aR.out (by kernel_rfl)) ?_
   try go_wp2
   go_meet
   case rel => exact ⟨_, (true), sI, H', lE, kQ z, bT1 HB I⟩
 case rest =>
  clear aQ
  obtain ⟨kq, am, rfl, HA, HJ1, z, HB⟩ := hcut; cases kq with
  | zero => exact absurd HA.out (by simp [Fsa.j0])
  | succ bd =>
   have H := HA.out; clear HA; simp only [Fsa.j0] at H
   by_cases aN : am = true
   ·subst aN
    rw [if_pos rfl] at H; obtain rfl := Option.some.inj H
    go_wp2
    go_ret
    exact ⟨eW, bS1 HB.out I.out⟩
   ·replace aN := Bool.eq_false_iff.mpr aN; subst aN
    rw [if_neg nF] at H; have H' := aM H; clear H
    go_wp2
    go_loopg [47] bd (fun kq cf w' => ∃ (aa : Int), cf = .int .i64 aa ∧ Aside0 (Fsa.l0 kq (A.length : Int) (A.length : Int) aa E A B J = some r) ∧ Aside0 (kq ≤ bd) ∧ Aside0 (w'.heap[G]? = some (.cells #[(.slice L E.length M), (.slice V A.length W), (.slice ab B.length Q), (.slice Y J.length Z)] 27 (0, 0))) ∧ BA w w')
    case atStart => exact ⟨(0), sI, H', ⟨Nat.le_refl _⟩, kQ z, bT1 HB I⟩
    case round =>
     clear H'
     obtain ⟨aa, rfl, HA, cJ, z, HB⟩ := hrel; cases gk with
     | zero => exact absurd HA.out (by simp [Fsa.l0])
     | succ k2 =>
      have H := HA.out; clear HA; simp only [Fsa.l0] at H
      apply iB H <;> clear H <;> intro ap H
      ·have a9 := dT ap; clear ap; apply bSx H; clear H; intro ah aY H
       apply iB H <;> clear H <;> intro aq H
       ·have ba := dT aq; have bb : decide (32 < ah.length) = true := dT (by omega); clear aq; obtain rfl := Option.some.inj H; obtain ⟨bp, br, bs, bt, bu, bv, bw, bx⟩ := bG4 z
        go_wp2_with (first | ((with_reducible refine gate_callee (f := 44) rfl ?_); refine gL_ (some 52) Try.func44 #[.agg #[.slice L E.length M, .slice V A.length W, .slice ab B.length Q, .slice Y J.length Z], .int .i64 aa] ?_; (with_reducible refine (Fsc.calls _ _ E _ _ A _ _ B (fun k_ => k_ < w.heap.size) _ _ J aa ah _ ?s1 ag.out ?s3 au.out ?s5 al.out ?s7 aY.out).mono ?_); (case s1 => exact cB af HB); (case s3 => exact cB ar HB); (case s5 => exact cB ac HB); (case s7 => exact Kd.V_mk aw.out (Kd.F_below (Kd.C_F k73_heap av.out) (bP1 HB I))); rintro e cE ⟨aZ, rfl, ak, hb⟩; refine ⟨_, rfl, ?_⟩; have U := aM (Kd.V_lower (Kd.V_mono (ok' := fun k_ => k_ ≠ G) ak (fun k_ hk_ => Or.elim hk_ (fun hs_ => fun e_ => Nat.not_le.2 hs_ (by rw [e_]; exact ax.out)) (fun hn_ => (Kd.freshB (g := G) (o := .cells #[.slice L E.length M, .slice V A.length W, .slice ab B.length Q, .slice Y J.length Z] 27 (0, 0)) (kO z.out) k_ hn_)))) (below_size (bP1 HB I))); replace z := kB z hb; replace HB := hS1 HB I hb; obtain ⟨cm, cn, bj⟩ := Kd.V_slice U.out; subst bj))
        go_ret
        exact ⟨eW, bS1 HB.out I.out⟩
       ·have ba := decide_eq_false aq; have bb : decide (32 < ah.length) = false := decide_eq_false (by omega); clear aq; apply bSx H; clear H; intro bk be H
        by_cases aP : bk = true
        ·subst aP
         rw [if_pos rfl] at H; have H' := aM H; clear H; obtain ⟨bz, bA, bB, bC, bD, bE, bF, bG⟩ := bG4 z
         go_wp2_with (first | ((with_reducible refine gate_callee (f := 44) rfl ?_); refine gL_ (some 52) Try.func44 #[.agg #[.slice L E.length M, .slice V A.length W, .slice ab B.length Q, .slice Y J.length Z], .int .i64 aa] ?_; (with_reducible refine (Fsc.calls _ _ E _ _ A _ _ B (fun k_ => k_ < w.heap.size) _ _ J aa ah _ ?s1 ag.out ?s3 au.out ?s5 al.out ?s7 aY.out).mono ?_); (case s1 => exact cB af HB); (case s3 => exact cB ar HB); (case s5 => exact cB ac HB); (case s7 => exact Kd.V_mk aw.out (Kd.F_below (Kd.C_F k73_heap av.out) (bP1 HB I))); rintro e cF ⟨aZ, rfl, ak, hb⟩; refine ⟨_, rfl, ?_⟩; have U := aM (Kd.V_lower (Kd.V_mono (ok' := fun k_ => k_ ≠ G) ak (fun k_ hk_ => Or.elim hk_ (fun hs_ => fun e_ => Nat.not_le.2 hs_ (by rw [e_]; exact ax.out)) (fun hn_ => (Kd.freshB (g := G) (o := .cells #[.slice L E.length M, .slice V A.length W, .slice ab B.length Q, .slice Y J.length Z] 27 (0, 0)) (kO z.out) k_ hn_)))) (below_size (bP1 HB I))); replace z := kB z hb; replace HB := hS1 HB I hb; obtain ⟨co, cp, bm⟩ := Kd.V_slice U.out; subst bm; obtain ⟨bH, bI, bJ, bK, bL, bM, bN, bO⟩ := bG4 z) | (go_at_call 45; (with_reducible refine (Fdc.calls k2 _ _ ah (E.length : Int) (A.length : Int) true _ ?s1 ?s2 be.out).mono ?_); (case s1 => exact cO (Kd.V_reads' U.out).2.2); (case s2 => exact (Kd.V_reads' U.out).2.1); rintro e cG ⟨rfl, hb⟩; replace U := aM (Kd.V_below (vO U.out) hb); replace z := kB z hb; replace HB := hS1 HB I hb))
         go_roundg k2
         case measure => have := HJ1.out; have := cJ.out; omega
         case rel => exact ⟨(wrap64 (aa + 1)), sI, H', ⟨by have := HJ1.out; have := cJ.out; omega⟩, kQ z, bT1 HB I⟩
        ·replace aP := Bool.eq_false_iff.mpr aP; subst aP
         rw [if_neg nF] at H; obtain rfl := Option.some.inj H; obtain ⟨bP, bQ, bR, bS, bT, bU, bV, bW⟩ := bG4 z
         go_wp2_with (first | ((with_reducible refine gate_callee (f := 44) rfl ?_); refine gL_ (some 52) Try.func44 #[.agg #[.slice L E.length M, .slice V A.length W, .slice ab B.length Q, .slice Y J.length Z], .int .i64 aa] ?_; (with_reducible refine (Fsc.calls _ _ E _ _ A _ _ B (fun k_ => k_ < w.heap.size) _ _ J aa ah _ ?s1 ag.out ?s3 au.out ?s5 al.out ?s7 aY.out).mono ?_); (case s1 => exact cB af HB); (case s3 => exact cB ar HB); (case s5 => exact cB ac HB); (case s7 => exact Kd.V_mk aw.out (Kd.F_below (Kd.C_F k73_heap av.out) (bP1 HB I))); rintro e cH ⟨aZ, rfl, ak, hb⟩; refine ⟨_, rfl, ?_⟩; have U := aM (Kd.V_lower (Kd.V_mono (ok' := fun k_ => k_ ≠ G) ak (fun k_ hk_ => Or.elim hk_ (fun hs_ => fun e_ => Nat.not_le.2 hs_ (by rw [e_]; exact ax.out)) (fun hn_ => (Kd.freshB (g := G) (o := .cells #[.slice L E.length M, .slice V A.length W, .slice ab B.length Q, .slice Y J.length Z] 27 (0, 0)) (kO z.out) k_ hn_)))) (below_size (bP1 HB I))); replace z := kB z hb; replace HB := hS1 HB I hb; obtain ⟨cq, cr, bo⟩ := Kd.V_slice U.out; subst bo; obtain ⟨bX, bY, bZ, b0, b1, b2, b3, b4⟩ := bG4 z) | (go_at_call 45; (with_reducible refine (Fdc.calls k2 _ _ ah (E.length : Int) (A.length : Int) false _ ?s1 ?s2 be.out).mono ?_); (case s1 => exact cO (Kd.V_reads' U.out).2.2); (case s2 => exact (Kd.V_reads' U.out).2.1); rintro e cI ⟨rfl, hb⟩; replace U := aM (Kd.V_below (vO U.out) hb); replace z := kB z hb; replace HB := hS1 HB I hb))
         go_ret
         exact ⟨eW, bS1 HB.out I.out⟩
      ·have a9 := decide_eq_false ap; clear ap; obtain rfl := Option.some.inj H
       go_wp2
       go_ret
       exact ⟨eW, bS1 HB.out I.out⟩
def Fec.f (l0 : List (ByteArray)) : Option (List (ByteArray)) := if l0.length < 8796093022208 then some l0 else none
theorem Fec.calls (J : Option Addr) (L : Nat) (z : List (ByteArray)) (r : List (ByteArray)) (w : World) (A : Kd.C Kd.string w J z.length z) (V : z.length ≤ L) (h : Fec.f z = some r) :
  Calls Try.prog 58 #[.slice J z.length L] w fun e w' => ∃ B : Value, e = .returned (B) ∧ Kd.R Kd.string 9 w' w.heap.size (fun _ => True) B r ∧ Below w.heap.size w w' := by
 have HB := aM (Below.refl w.heap.size w)
 have hlim : z.length < 8796093022208 ∧ z = r := by
  unfold Fec.f at h
  by_cases hc : z.length < 8796093022208
  ·rw [if_pos hc] at h; exact ⟨hc, Option.some.inj h⟩
  ·rw [if_neg hc] at h; cases h
 obtain ⟨hlim, rfl⟩ := hlim; have HL := aM hlim; have D := aM A; clear A hlim h; cases J with
 | none =>
  have M : z.length = 0 := by
   rcases Nat.eq_zero_or_pos z.length with h | h
   ·exact h
   ·obtain ⟨ad, Q, _⟩ := D.out.2.2 h; cases Q
  obtain rfl := List.eq_nil_of_length_eq_zero M; clear M
  have hn := fun (W : World) (n c : Nat) => Lib.run_eql_slice_nil (P := Try.prog) W 22 9 none n c 0 0 Try.underlying22
  go_enter Try.func58, Try.ntmps58
  go_wp2
  go_ret
  exact ⟨_, rfl, Kd.R_nil _ _ _ _ _, HB.out⟩
 | some ad =>
  have hn := fun (W : World) (n c : Nat) => Lib.run_eql_slice_nil (P := Try.prog) W 22 9 (some ad) n c 0 0 Try.underlying22
  go_enter Try.func58, Try.ntmps58
  go_wp2_with (first
   | ((with_reducible refine gate_dst (N := 5) rfl ?_); refine Kd.R_lit Kd.string _ 9 ?hg (N := 5) ?hd (xs := ([] : List (ByteArray))) (inner := []) (ok := fun _ => True) (okp := fun _ => True) ?hr ?hp (fun _ hk => hk) trivial (Below.refl _ _) (Nat.le_refl _) (by simp) ?_; (case hd => rfl); (case hg => rfl); (case hr => first | (go_simp; done) | (go_simp; rfl)); (case hp => exact (Reps.none _ _)); intro U Y E hb hg_ hnew_; clear hg_ hnew_; have F := aM (Kd.R_lower E (below_size HB.out)); replace HB := aM (below_step HB.out hb); clear hb E)
   | ((with_reducible refine gate_builtin (b := .append) (xs := #[.tmp 5, .tmp 6]) rfl ?_); at_builtin; refine Kd.R_append_rows Kd.string (w0 := w) w.heap.size rfl (.tmp 5) (.tmp 6) 22 9 (.string ⟨#[]⟩) 16 rfl Try.underlying22 info9 rfl (by decide) (by omega) U [] z _ _ _ (fun _ => True) (fun _ => False) rfl rfl ?aO ?aR (fun _ _ h => h) (fun _ h => h.elim) ?aF ?aB ?aS ?aL ?_; (case aR => exact (Kd.C_below D.out HB.out)); (case aB => exact HB.out); (case aF => exact (fun _ _ => trivial)); (case aO => exact F.out); (case aS => exact (below_size HB.out)); (case aL => have := HL.out; simp only [List.length_nil]; omega); intro Z w2 ho hb hg hat; have G := aM (hb); have I := aM (ho); clear HB F; have HB := G; have O := I; clear G I; clear ho hb hg hat))
  go_ret
  exact ⟨_, rfl, O.out, HB.out⟩
def Feb.f (l0 : List (Bool)) : Option (List (Bool)) := if l0.length < 140737488355328 then some l0 else none
theorem Feb.calls (J : Option Addr) (L : Nat) (z : List (Bool)) (r : List (Bool)) (w : World) (A : Kd.C Kd.bool w J z.length z) (V : z.length ≤ L) (h : Feb.f z = some r) :
  Calls Try.prog 59 #[.slice J z.length L] w fun e w' => ∃ B : Value, e = .returned (B) ∧ Kd.R Kd.bool 4 w' w.heap.size (fun _ => True) B r ∧ Below w.heap.size w w' := by
 have HB := aM (Below.refl w.heap.size w)
 have hlim : z.length < 140737488355328 ∧ z = r := by
  unfold Feb.f at h
  by_cases hc : z.length < 140737488355328
  ·rw [if_pos hc] at h; exact ⟨hc, Option.some.inj h⟩
  ·rw [if_neg hc] at h; cases h
 obtain ⟨hlim, rfl⟩ := hlim; have HL := aM hlim; have D := aM A; clear A hlim h; cases J with
 | none =>
  have M : z.length = 0 := by
   rcases Nat.eq_zero_or_pos z.length with h | h
   ·exact h
   ·obtain ⟨ad, Q, _⟩ := D.out.2.2 h; cases Q
  obtain rfl := List.eq_nil_of_length_eq_zero M; clear M
  have hn := fun (W : World) (n c : Nat) => Lib.run_eql_slice_nil (P := Try.prog) W 23 4 none n c 0 0 Try.underlying23
  go_enter Try.func59, Try.ntmps59
  go_wp2
  go_ret
  exact ⟨_, rfl, Kd.R_nil _ _ _ _ _, HB.out⟩
 | some ad =>
  have hn := fun (W : World) (n c : Nat) => Lib.run_eql_slice_nil (P := Try.prog) W 23 4 (some ad) n c 0 0 Try.underlying23
  go_enter Try.func59, Try.ntmps59
  go_wp2_with (first
   | ((with_reducible refine gate_dst (N := 5) rfl ?_); refine Kd.R_lit Kd.bool _ 4 ?hg (N := 5) ?hd (xs := ([] : List (Bool))) (inner := []) (ok := fun _ => True) (okp := fun _ => True) ?hr ?hp (fun _ hk => hk) trivial (Below.refl _ _) (Nat.le_refl _) (by simp) ?_; (case hd => rfl); (case hg => rfl); (case hr => first | (go_simp; done) | (go_simp; rfl)); (case hp => exact (Reps.none _ _)); intro U Y E hb hg_ hnew_; clear hg_ hnew_; have F := aM (Kd.R_lower E (below_size HB.out)); replace HB := aM (below_step HB.out hb); clear hb E)
   | ((with_reducible refine gate_builtin (b := .append) (xs := #[.tmp 5, .tmp 6]) rfl ?_); at_builtin; refine Kd.R_append_rows Kd.bool (w0 := w) w.heap.size rfl (.tmp 5) (.tmp 6) 23 4 (.bool false) 1 rfl Try.underlying23 info4 rfl (by decide) (by omega) U [] z _ _ _ (fun _ => True) (fun _ => False) rfl rfl ?aO ?aR (fun _ _ h => h) (fun _ h => h.elim) ?aF ?aB ?aS ?aL ?_; (case aR => exact (Kd.C_below D.out HB.out)); (case aB => exact HB.out); (case aF => exact (fun _ _ => trivial)); (case aO => exact F.out); (case aS => exact (below_size HB.out)); (case aL => have := HL.out; simp only [List.length_nil]; omega); intro Z w2 ho hb hg hat; have G := aM (hb); have I := aM (ho); clear HB F; have HB := G; have O := I; clear G I; clear ho hb hg hat))
  go_ret
  exact ⟨_, rfl, O.out, HB.out⟩
def Fsb.l0 : Nat → Int → Int → List ByteArray → List Bool → List Int → List (S73) → List ByteArray → List Bool → List (List Int) → Option (List ByteArray × List Bool × (List (List Int)) × Int)
 | 0, _, _, _, _, _, _, _, _, _ => none
 | k + 1, x24, x25, x156000, x156001, x156002, x156003, x165000, x165001, x165002 => if x25 < x24 then ((Fsc.f x156000 x156001 x156002 x156003 x25).bind fun t165 => ((Fe.f k t165 (x156000.length : Int)).bind fun bt168 => (if bt168.2 = 0 then (if x165002.length < 5864062014805 then (Fsb.l0 k x24 (wrap64 (x25 + 1)) x156000 x156001 x156002 x156003 x165000 x165001 (x165002 ++ [bt168.1])) else (none)) else (some (([] : List ByteArray), ([] : List Bool), ([] : List (List Int)), bt168.2))))) else (some (x165000, x165001, x165002, 0))
def Fsb.f (k : Nat) (l0_0 : List ByteArray) (l0_1 : List Bool) (l0_2 : List Int) (l0_3 : List (S73)) : Option (List ByteArray × List Bool × (List (List Int)) × Int) := (Fsa.f k l0_0 l0_1 l0_2 l0_3).bind fun t157 => (if t157 = 0 then ((Fec.f l0_0).bind fun t158 => ((Feb.f l0_1).bind fun t161 => (Fsb.l0 k (l0_1.length : Int) 0 l0_0 l0_1 l0_2 l0_3 t158 t161 ([] : List (List Int))))) else (some (([] : List ByteArray), ([] : List Bool), ([] : List (List Int)), t157)))
theorem Fsb.mono_l : ∀ k, (∀ y0 y1 y2 y3 y4 y5 y6 y7 y8, LeO (Fsb.l0 k y0 y1 y2 y3 y4 y5 y6 y7 y8) (Fsb.l0 (k + 1) y0 y1 y2 y3 y4 y5 y6 y7 y8))
 | 0 => fun _ _ _ _ _ _ _ _ _ r h => by simp [Fsb.l0] at h
 | k + 1 => by
  have ih0 := Fsb.mono_l k
  ·intro y0 y1 y2 y3 y4 y5 y6 y7 y8
   unfold Fsb.l0
   repeat' first | (with_reducible first | exact ih0 _ _ _ _ _ _ _ _ _ | exact Fe.mono _ _ _ | exact Fsa.mono _ _ _ _ _ | exact lA | apply lI | refine lB ?_ fun _ => ?_) | exact lN _ | apply lI | refine lB ?_ fun _ => ?_
theorem Fsb.mono : ∀ a0 a1 a2 a3 k, LeO (Fsb.f k a0 a1 a2 a3) (Fsb.f (k + 1) a0 a1 a2 a3) := by
 intro a0 a1 a2 a3 k; have ih0 := Fsb.mono_l k
 unfold Fsb.f
 repeat' first | (with_reducible first | exact ih0 _ _ _ _ _ _ _ _ _ | exact Fe.mono _ _ _ | exact Fsa.mono _ _ _ _ _ | exact lA | apply lI | refine lB ?_ fun _ => ?_) | exact lN _ | apply lI | refine lB ?_ fun _ => ?_
def Fsb.T4 : Bool × List (List Nat × List Nat) := (true, [([], []), ([0], [0]), ([1], [1]), ([], []), ([3], [3]), ([4, 2], [4]), ([2, 5], [2, 5]), ([], []), ([7, 6, 5, 0, 1, 2, 3, 4, 5, 6, 7], [6, 7])])
def Fsb.B4 : List Nat := [0, 1, 3, 0, 8, 31, 63, 0, 255]
theorem Fsb.tab4 : rtab .any (opsOf Try.f29 4) = Fsb.T4 := by kernel_rfl
theorem Fsb.bits4 : waitsOk Fsb.T4.2 Fsb.B4 = true := by kernel_rfl
def Fsb.T8 : Bool × List (List Nat × List Nat) := (true, [([], []), ([], []), ([0, 1], [0, 1]), ([], []), ([3], [3]), ([4], [4]), ([2, 5, 2], [2, 5]), ([6], [6]), ([7], [7]), ([7], [7]), ([8, 6, 0, 1, 2, 3, 4, 5, 6, 7, 8], [8]), ([9, 10, 0, 1, 2, 3, 4, 5, 6, 7, 8, 9, 10], [9])])
def Fsb.B8 : List Nat := [0, 0, 3, 0, 8, 24, 63, 127, 255, 255, 511, 2047]
theorem Fsb.tab8 : rtab .any (opsOf Try.f29 8) = Fsb.T8 := by kernel_rfl
theorem Fsb.bits8 : waitsOk Fsb.T8.2 Fsb.B8 = true := by kernel_rfl
theorem Fsb.calls (k : Nat) (ai : Option Addr) (aj : Nat) (Q : List ByteArray) (af : Option Addr) (ag : Nat) (O : List Bool) (ao : Option Addr) (ap : Nat) (Z : List Int) (aq : Option Addr) (ar : Nat) (aa : List (S73)) (r1 : List ByteArray) (r2 : List Bool) (r3 : List (List Int)) (r4 : Int) (w : World) (bj : Kd.C Kd.string w ai Q.length Q) (bk : Q.length ≤ aj) (bm : Kd.C Kd.bool w af O.length O) (bo : O.length ≤ ag) (bp : Kd.C (Kd.int .i64) w ao Z.length Z) (br : Z.length ≤ ap) (bs : Kd.C k73 w aq aa.length aa) (bt : aa.length ≤ ar) (h : Fsb.f k Q O Z aa = some (r1, r2, r3, r4)) :
  Calls Try.prog 29 #[.agg #[.slice ai Q.length aj, .slice af O.length ag, .slice ao Z.length ap, .slice aq aa.length ar]] w fun e w' => ∃ bR bS bT : Value, e = .returned (.tuple #[.agg #[bR, bS, bT], .int .i64 r4]) ∧ Kd.R Kd.string 9 w' w.heap.size (fun _ => True) bR r1 ∧ Kd.R Kd.bool 4 w' w.heap.size (fun _ => True) bS r2 ∧ Kd.S (Kd.slice 3 (Kd.int .i64)) 24 w' w.heap.size (fun _ => True) bT r3 ∧ Below w.heap.size w w' := by
 have hu27 := Try.underlying27; have hu45 := Try.underlying45; have aQ := aM bj; have aR := aM bk; clear bj bk; have aD := aM bm; have aE := aM bo; clear bm bo; have aW := aM bp; have aX := aM br; clear bp br; have aY := aM bs; have aZ := aM bt; clear bs bt; have HB := aM (Below.refl w.heap.size w); rw [Fsb.f] at h; have H := h; clear h; apply bSx H; clear H; intro bd A2 H
 apply iB H <;> clear H <;> intro c3 H
 ·obtain ⟨b0, b1⟩ := bq c3; clear c3; apply bSx H; clear H; intro al A4 H; apply bSx H; clear H; intro ak A5 H; have H' := aM H; clear H
  go_enter Try.func29, Try.ntmps29
  try go_wp2_with (first | ((with_reducible refine gate_dst (N := 1) rfl ?_); refine be_ (cs := #[.slice ai Q.length aj, .slice af O.length ag, .slice ao Z.length ap, .slice aq aa.length ar]) (t := 27) ?_; intro U hg w6 av hb; have z := aM (av); have ba := gE hg (bP0 HB); have F := gE hg (bP0 HB); replace HB := hS0 HB hb; clear hb av hg) | ((with_reducible refine gate_dst (N := 2) rfl ?_); refine be_ (cs := #[.slice none 0 0, .slice none 0 0, .slice none 0 0]) (t := 45) ?_; intro am hg w7 av hb; have A := aM (av); have bb := gE hg (bP1 HB F); have G := gE hg (bP1 HB F); replace HB := hS1 HB F hb; have az := nL hg z; have aA := nG hg z; replace z := kB z hb; clear hb av hg; have dK := az.out; have dL := aA.out; obtain ⟨de, df, dg, dh, di, dj, dk, dl⟩ := bG4 z) | ((with_reducible refine gate_callee (f := 21) rfl ?_); refine gL_ (some 10) Try.func21 #[.agg #[.slice ai Q.length aj, .slice af O.length ag, .slice ao Z.length ap, .slice aq aa.length ar]] ?_; (with_reducible refine (Fsa.calls k _ _ Q _ _ O _ _ Z _ _ aa bd _ ?s1 aR.out ?s3 aE.out ?s5 aX.out ?s7 aZ.out A2.out).mono ?_); (case s1 => exact cB aQ HB); (case s3 => exact cB aD HB); (case s5 => exact cB aW HB); (case s7 => exact cB aY HB); rintro e dm ⟨rfl, hb⟩; refine ⟨_, rfl, ?_⟩; replace z := kB z hb; replace A := kB A hb; replace HB := hS2 HB F G hb))
  replace z := kD z; replace A := kD A; replace HB := aM (below_drew1 HB.out); refine start_ (n := 9) (S := fun w' => w'.cell? ⟨U, 0, none⟩ = some (.slice ai Q.length aj) ∧ w'.cell? ⟨U, 1, none⟩ = some (.slice af O.length ag) ∧ w'.cell? ⟨U, 2, none⟩ = some (.slice ao Z.length ap) ∧ w'.cell? ⟨U, 3, none⟩ = some (.slice aq aa.length ar)) (ds := []) (bl 9 0) (by kernel_rfl) rfl rfl (bD4 z) (fun ac => ?_); refine with_tabW Fsb.tab4 Fsb.bits4 (fun ad aw => ?_); generalize dm.drew = dN at z A HB ac ⊢; refine pu_ 0 15 (bl 9 1) ad ?_; refine pu_ 3 18 (bl 9 9) ad ?_; refine tk4_ 1 16 (bl 9 11) ad aw ac ?_; refine tk4_ 4 19 (bl 9 27) ad aw ac ?_; refine join_ (σ := Value × Value × Nat) 1 (bl 9 255) (fun s_ => [(17, s_.1), (20, s_.2.1), (5, .pointer (some ⟨s_.2.2, 0, none⟩)), (21, .agg #[s_.1, s_.2.1, .slice none 0 0])]) (fun s_ w' => (w'.cell? ⟨U, 0, none⟩ = some (.slice ai Q.length aj) ∧ w'.cell? ⟨U, 1, none⟩ = some (.slice af O.length ag) ∧ w'.cell? ⟨U, 2, none⟩ = some (.slice ao Z.length ap) ∧ w'.cell? ⟨U, 3, none⟩ = some (.slice aq aa.length ar)) ∧ (RA Kd.string 9 w' w s_.1 al) ∧ (RA Kd.bool 4 w' w s_.2.1 ak) ∧ (Aside0 (w'.heap[U]? = some (.cells #[.slice ai Q.length aj, .slice af O.length ag, .slice ao Z.length ap, .slice aq aa.length ar] 27 (0, 0)))) ∧ (Aside0 (w'.heap[am]? = some (.cells #[.slice none 0 0, .slice none 0 0, .slice none 0 0] 45 (0, 0)))) ∧ (Aside0 (w'.heap[s_.2.2]? = some (.cells #[.slice none 0 0, .slice none 0 0, .slice none 0 0] 45 (0, 0)))) ∧ (Aside0 (w.heap.size ≤ s_.2.2)) ∧ (Aside0 (w.heap.size ≤ s_.2.2)) ∧ (Aside0 (U ≠ s_.2.2)) ∧ (Aside0 (s_.2.2 ≠ U)) ∧ (Aside0 (am ≠ s_.2.2)) ∧ (Aside0 (s_.2.2 ≠ am)) ∧ BA w w') ?_ ?_
  ·clear z A HB; rintro ⟨bx, be, M⟩ bz ⟨ac, Y, an, z, A, E, aC, L, D, V, P, W, HB⟩; (try dsimp only at ac Y an z A E aC L D V P W HB); obtain ⟨aG, aH, bA⟩ := sL an
   (first | subst bA | obtain ⟨rfl, rfl⟩ := iS bA)
   obtain ⟨aI, aJ, bB⟩ := sL Y
   (first | subst bB | obtain ⟨rfl, rfl⟩ := iS bB)
   refine norm_ (a' := ?_) ?_ ?_; rotate_left
   ·simp only [putAll, Act.put, sA, sB, sC]
    rfl
   refine one_ (i := 8) (N := none) (bl 9 511) rfl rfl (one_of ad.out (by kernel_rfl)) (by decide) (fun K hK => ?_); have hs20 : bz.cell? ⟨M, 0, none⟩ = some (.slice none 0 0) := (blk_cell E.out 0).trans rfl; have hfs20 := blk_frozen E.out 0; have hns20_0 := D.out; have hns20_1 := P.out; have hms20_0 := V.out; have hms20_1 := W.out; have hs21 : bz.cell? ⟨M, 1, none⟩ = some (.slice none 0 0) := (blk_cell E.out 1).trans rfl; have hfs21 := blk_frozen E.out 1; have hns21_0 := D.out; have hns21_1 := P.out; have hms21_0 := V.out; have hms21_1 := W.out; have hs22 : bz.cell? ⟨M, 2, none⟩ = some (.slice none 0 0) := (blk_cell E.out 2).trans rfl; have hfs22 := blk_frozen E.out 2; have hns22_0 := D.out; have hns22_1 := P.out; have hms22_0 := V.out; have hms22_1 := W.out; refine skip_ (w1 := ?_) (by rfl) rfl ?_ ?_; rotate_left
   ·go_simp
    rfl
   refine hK.out _ _ ⟨((cell_far (p := ⟨M, _, none⟩) D.out _).trans (((cell_far (p := ⟨M, _, none⟩) D.out _).trans (((cell_far (p := ⟨M, _, none⟩) D.out _).trans (ac.1)))))), ((cell_far (p := ⟨M, _, none⟩) D.out _).trans (((cell_far (p := ⟨M, _, none⟩) D.out _).trans (((cell_far (p := ⟨M, _, none⟩) D.out _).trans (ac.2.1)))))), ((cell_far (p := ⟨M, _, none⟩) D.out _).trans (((cell_far (p := ⟨M, _, none⟩) D.out _).trans (((cell_far (p := ⟨M, _, none⟩) D.out _).trans (ac.2.2.1)))))), ((cell_far (p := ⟨M, _, none⟩) D.out _).trans (((cell_far (p := ⟨M, _, none⟩) D.out _).trans (((cell_far (p := ⟨M, _, none⟩) D.out _).trans (ac.2.2.2))))))⟩ (fun ac => ?_); clear hK K; refine done_ (done_of ad.out (by kernel_rfl)) ?_; have dr := D.out; have dt := V.out; obtain ⟨ci, cj, ck, cl, cm, cn, co, cp⟩ := bG4 z
   try go_wp2
   go_loopg [25] k (fun kq dn w' => ∃ (ay : Int) (ae : List (List Int)) (ah : Value), dn = .int .i64 ay ∧ Aside0 (Fsb.l0 kq (O.length : Int) ay Q O Z aa al ak ae = some (r1, r2, r3, r4)) ∧ Aside0 (kq ≤ k) ∧ RA Kd.string 9 w' w (.slice aI al.length aJ) al ∧ RA Kd.bool 4 w' w (.slice aG ak.length aH) ak ∧ Aside0 (Kd.S (Kd.slice 3 (Kd.int .i64)) 24 w' w.heap.size (fun _ => True) ah ae) ∧ Aside0 (w'.heap[U]? = some (.cells #[(.slice ai Q.length aj), (.slice af O.length ag), (.slice ao Z.length ap), (.slice aq aa.length ar)] 27 (0, 0))) ∧ Aside0 (w'.heap[am]? = some (.cells #[(.slice none 0 0), (.slice none 0 0), (.slice none 0 0)] 45 (0, 0))) ∧ Aside0 (w'.heap[M]? = some (.cells #[(.slice aI al.length aJ), (.slice aG ak.length aH), ah] 45 (0, 0))) ∧ BA w w')
   case atStart => exact ⟨(0), (([] : List (List Int))), (.slice none 0 0), sI, H', ⟨Nat.le_refl _⟩, ⟨rZ Y E⟩, ⟨rZ an E⟩, ⟨by first | exact Kd.S_nil _ _ _ _ _ | exact Kd.N_nil _ _ _ _ _ | exact Kd.V_nil _ _ _ _ _ | exact Kd.Q_nil _ _ _ _ _ | exact Kd.R_nil _ _ _ _ _⟩, ⟨kN z D⟩, ⟨kN A P⟩, ⟨by (with_reducible repeat (first | refine blk_drewN ?_ _ | refine blk_drew ?_ | refine blk_alloc ?_ _)); exact blk_put (blk_put (blk_put E.out 0 _ rfl) 1 _ rfl) 2 _ rfl⟩, bT3 HB F G L⟩
   case round =>
    clear H'
    obtain ⟨ay, ae, ah, rfl, HA, bI, I, J, B, z, A, E, HB⟩ := hrel; cases gk with
    | zero => exact absurd HA.out (by simp [Fsb.l0])
    | succ k1 =>
     have H := HA.out; clear HA; simp only [Fsb.l0] at H
     apply iB H <;> clear H <;> intro a9 H
     ·have bM := dT a9; clear a9; apply bSx H; clear H; intro aU bX H; replace H := Option.bind_eq_some_iff.mp H; obtain ⟨⟨aK, a5⟩, bD, H⟩ := H; replace H : (if a5 = 0 then (if ae.length < 5864062014805 then (Fsb.l0 k1 (O.length : Int) (wrap64 (ay + 1)) Q O Z aa al ak (ae ++ [aK])) else (none)) else (some (([] : List ByteArray), ([] : List Bool), ([] : List (List Int)), a5))) = some (r1, r2, r3, r4) := H; have bY := aM bD; clear bD
      apply iB H <;> clear H <;> intro bc H
      ·obtain ⟨bN, bO⟩ := bq bc; clear bc
       apply iN H; clear H; intro bu H; have bP := aM bu; clear bu; obtain ⟨bE, a4⟩ : ∃ y_ : List (List Int), y_ = (ae ++ [aK]) := ⟨_, rfl⟩
       first | replace H := rI a4 H | rw [← a4] at H
       have bQ := aM a4; clear a4; have H' := aM H; clear H
       try go_wp2
       replace I := aM (Kd.R_drew I.out); replace J := aM (Kd.R_drew J.out); replace B := aM (Kd.S_drew B.out); replace z := kD z; replace A := kD A; replace E := kD E; replace HB := aM (below_drew1 HB.out); refine start_ (n := 12) (S := fun w' => w'.cell? ⟨U, 0, none⟩ = some (.slice ai Q.length aj) ∧ w'.cell? ⟨U, 1, none⟩ = some (.slice af O.length ag) ∧ w'.cell? ⟨U, 2, none⟩ = some (.slice ao Z.length ap) ∧ w'.cell? ⟨U, 3, none⟩ = some (.slice aq aa.length ar)) (ds := []) (bl 12 0) (by kernel_rfl) rfl rfl (bD4 z) (fun ac => ?_); refine with_tabW Fsb.tab8 Fsb.bits8 (fun ad aw => ?_); generalize wr.drew = dO at I J B z A E HB ac ⊢; refine pu_ 1 30 (bl 12 2) ad ?_; refine pu_ 3 32 (bl 12 10) ad ?_; refine tk4_ 0 29 (bl 12 11) ad aw ac ?_; refine tk4_ 4 33 (bl 12 27) ad aw ac ?_; refine pu_ 5 34 (bl 12 59) ad ?_; refine one_ (i := 2) (N := some 31) (bl 12 63) rfl rfl (one_of ad.out (by kernel_rfl)) (by decide) (fun K hK => ?_); refine gS_ Try.func44 #[.agg #[.slice ai Q.length aj, .slice af O.length ag, .slice ao Z.length ap, .slice aq aa.length ar], .int .i64 ay] ?_
       with_reducible refine (Fsc.calls _ _ Q _ _ O _ _ Z (fun k_ => k_ < w.heap.size) _ _ aa ay aU _ ?s1 ?s2 ?s3 ?s4 ?s5 ?s6 ?s7 bX.out).mono ?_
       (case s1 => exact cB aQ HB)
       (case s2 => exact aR.out)
       (case s3 => exact cB aD HB)
       (case s4 => exact aE.out)
       (case s5 => exact cB aW HB)
       (case s6 => exact aX.out)
       (case s7 => exact Kd.V_mk aZ.out (Kd.F_below (Kd.C_F k73_heap aY.out) (bP3 HB F G L)))
       rintro e dP ⟨b3, rfl, ab, hb⟩; refine ⟨_, rfl, ?_⟩; have au := aM (Kd.V_lower (Kd.V_mono (ok' := fun k_ => some k_ ≠ (.slice aI al.length aJ : Value).ownBlock ∧ some k_ ≠ (.slice aG ak.length aH : Value).ownBlock ∧ some k_ ≠ (ah : Value).ownBlock ∧ k_ ≠ U ∧ k_ ≠ am ∧ k_ ≠ M) ab (fun k_ hk_ => ⟨Or.elim hk_ (fun hs_ => fun e_ => Nat.not_le.2 hs_ (Kd.R_base I.out k_ e_.symm)) (fun hn_ => (Kd.fresh' (Kd.R_lt (rP I)) k_ hn_)), Or.elim hk_ (fun hs_ => fun e_ => Nat.not_le.2 hs_ (Kd.R_base J.out k_ e_.symm)) (fun hn_ => (Kd.fresh' (Kd.R_lt (rP J)) k_ hn_)), Or.elim hk_ (fun hs_ => fun e_ => Nat.not_le.2 hs_ (Kd.S_base B.out k_ e_.symm)) (fun hn_ => (Kd.fresh' (Kd.S_lt (by (with_reducible repeat (first | apply Kd.S_alloc | apply Kd.S_drewN | apply Kd.S_drew)); exact B.out)) k_ hn_)), Or.elim hk_ (fun hs_ => fun e_ => Nat.not_le.2 hs_ (by rw [e_]; exact ba.out)) (fun hn_ => (Kd.freshB (g := U) (o := .cells #[.slice ai Q.length aj, .slice af O.length ag, .slice ao Z.length ap, .slice aq aa.length ar] 27 (0, 0)) (kO z.out) k_ hn_)), Or.elim hk_ (fun hs_ => fun e_ => Nat.not_le.2 hs_ (by rw [e_]; exact bb.out)) (fun hn_ => (Kd.freshB (g := am) (o := .cells #[.slice none 0 0, .slice none 0 0, .slice none 0 0] 45 (0, 0)) (kO A.out) k_ hn_)), Or.elim hk_ (fun hs_ => fun e_ => Nat.not_le.2 hs_ (by rw [e_]; exact aC.out)) (fun hn_ => (Kd.freshB (g := M) (o := .cells #[.slice aI al.length aJ, .slice aG ak.length aH, ah] 45 (0, 0)) (kO E.out) k_ hn_))⟩)) (below_size (bP3 HB F G L))); replace I := rB I hb; replace J := rB J hb; replace B := aM (Kd.S_below (by (with_reducible repeat (first | apply Kd.S_alloc | apply Kd.S_drewN | apply Kd.S_drew)); exact B.out) hb); replace z := kB z hb; replace A := kB A hb; replace E := kB E hb; replace HB := hS3 HB F G L hb
       obtain ⟨b4, b5, bF⟩ := Kd.V_slice au.out
       (first | subst bF | obtain ⟨rfl, rfl⟩ := iS bF)
       refine hK.out _ _ (bD4 z) (fun ac => ?_); clear hK K; refine nm_ 31 ?_; refine one_ (i := 6) (N := some 35) (bl 12 127) rfl rfl (one_of ad.out (by kernel_rfl)) (by decide) (fun K hK => ?_); refine gS_ Try.func60 #[.slice b4 aU.length b5, .int .i64 (Q.length : Int)] ?_
       with_reducible refine (Fe.calls k1 _ _ aU (Q.length : Int) aK a5 _ ?s1 ?s2 bY.out).mono ?_
       (case s1 => exact cO (Kd.V_reads' au.out).2.2)
       (case s2 => exact (Kd.V_reads' au.out).2.1)
       rintro e dQ ⟨b6, rfl, ab, hb⟩; refine ⟨_, rfl, ?_⟩; replace I := rB I hb; replace J := rB J hb; replace B := aM (Kd.S_elder' (by (with_reducible repeat (first | apply Kd.S_alloc | apply Kd.S_drewN | apply Kd.S_drew)); exact B.out) (Kd.R_base ab) hb); replace au := aM (Kd.V_elder' (vO au.out) (Kd.R_base ab) hb); have aT := rW ab (bP3 HB F G L); replace z := kB z hb; replace A := kB A hb; replace E := kB E hb; replace HB := hS3 HB F G L hb
       refine hK.out _ _ (bD4 z) (fun ac => ?_); clear hK K; refine nm_ 35 ?_; refine pu_ 7 28 (bl 12 255) ad ?_; refine pu_ 8 36 (bl 12 511) ad ?_; refine pu_ 9 37 (bl 12 1023) ad ?_; refine pu_ 10 7 (bl 12 2047) ad ?_; refine pu_ 11 8 (bl 12 4095) ad ?_; refine done_ (done_of ad.out (by kernel_rfl)) ?_; have du := V.out; have dv := D.out; have dw := W.out; have dx := P.out; obtain ⟨cq, cr, ct, cu, cv, cw⟩ := bG3 E; obtain ⟨bf, bg, rfl⟩ := sL aT
       try go_wp2_with (first | ((with_reducible refine gate_builtin (b := .append) (xs := #[.tmp 43, .tmp 45]) rfl ?_); at_builtin; refine Kd.S_append (Kd.slice 3 (Kd.int .i64)) (w0 := w) w.heap.size rfl (.tmp 43) (.tmp 45) 43 24 (.slice none 0 0) 24 rfl Try.underlying43 info24 rfl (by decide) (by omega) ah ae aK [.slice bf aK.length bg] (fun _ => True) (fun k_ => some k_ = (.slice bf aK.length bg : Value).ownBlock) rfl rfl ?aP (fun k_ hk_ => ((Kd.R_mono (ok' := fun k_ => ((fun _ => True)) k_ ∧ some k_ ≠ (ah : Value).ownBlock) (Kd.R_apart' (aT.out) (Kd.S_typed B.out) (by decide)) (fun k_ hk => ⟨trivial, hk.2⟩))).1 k_ hk_.symm) ?aF ?aO ?aB ?aS ?aL ?_; (case aP => exact Kd.M_row (Kd.R_mono (Kd.R_tight rfl (Kd.R_mono (ok' := fun k_ => ((fun _ => True)) k_ ∧ some k_ ≠ (ah : Value).ownBlock) (Kd.R_apart' (aT.out) (Kd.S_typed B.out) (by decide)) (fun k_ hk => ⟨trivial, hk.2⟩))) (fun _ h_ => h_))); (case aB => exact (bP3 HB F G L)); (case aF => exact (fun _ _ => trivial)); (case aO => exact (by (with_reducible repeat (first | apply Kd.S_alloc | apply Kd.S_drewN | apply Kd.S_drew)); exact Kd.S_mono B.out (fun k_ hk => ⟨trivial, fun e_ => hk.2 e_⟩))); (case aS => exact (below_size (bP3 HB F G L))); (case aL => have := bP.out; omega); intro dM dR ho hb hg hat; rw [← bQ.out] at ho; replace I := aM (Kd.R_over' (rP I) (Kd.S_typed (by (with_reducible repeat (first | apply Kd.S_alloc | apply Kd.S_drewN | apply Kd.S_drew)); exact B.out)) (by decide) hg); replace J := aM (Kd.R_over' (rP J) (Kd.S_typed (by (with_reducible repeat (first | apply Kd.S_alloc | apply Kd.S_drewN | apply Kd.S_drew)); exact B.out)) (by decide) hg); replace z := aM (blk_grown (g := U) (o := .cells #[.slice ai Q.length aj, .slice af O.length ag, .slice ao Z.length ap, .slice aq aa.length ar] 27 (0, 0)) (kO z.out) hg (Kd.S_ne B.out z.out (by decide))); replace A := aM (blk_grown (g := am) (o := .cells #[.slice none 0 0, .slice none 0 0, .slice none 0 0] 45 (0, 0)) (kO A.out) hg (Kd.S_ne B.out A.out (by decide))); replace E := aM (blk_grown (g := M) (o := .cells #[.slice aI al.length aJ, .slice aG ak.length aH, ah] 45 (0, 0)) (kO E.out) hg (Kd.S_ne B.out E.out (by decide))); replace au := aM (Kd.V_afterv (ok := (fun k_ => some k_ ≠ (.slice aI al.length aJ : Value).ownBlock ∧ some k_ ≠ (.slice aG ak.length aH : Value).ownBlock ∧ some k_ ≠ (.slice bf aK.length bg : Value).ownBlock ∧ k_ ≠ U ∧ k_ ≠ am ∧ k_ ≠ M)) (by (with_reducible repeat (first | apply Kd.V_alloc | apply Kd.V_drewN | apply Kd.V_drew)); exact Kd.V_mono au.out (fun _ hk => ⟨⟨hk.1.1, ⟨hk.1.2.1, ⟨hk.2, ⟨hk.1.2.2.2.1, ⟨hk.1.2.2.2.2.1, hk.1.2.2.2.2.2⟩⟩⟩⟩⟩, hk.1.2.2.1⟩)) hg hat); replace HB := aM (hb); have bv := aM (ho); clear B; clear aT; clear ho hb hg hat; obtain ⟨b8, b9, ca⟩ := Kd.S_slice bv.out; subst ca; obtain ⟨cx, cy, cz, cA, cC, cD⟩ := bG3 E))
       go_roundg k1
       case measure => have := bI.out; omega
       case rel => exact ⟨(wrap64 (ay + 1)), (bE), (.slice b8 bE.length b9), sI, H', ⟨by have := bI.out; omega⟩, ⟨rZ I E⟩, ⟨rZ J E⟩, ⟨sZ bv E⟩, ⟨kN z D⟩, ⟨kN A P⟩, ⟨by (with_reducible repeat (first | refine blk_drewN ?_ _ | refine blk_drew ?_ | refine blk_alloc ?_ _)); exact blk_put E.out 2 _ rfl⟩, bT3 HB F G L⟩
      ·obtain ⟨bN, bO⟩ := bn bc; obtain ⟨rfl, rfl, rfl, rfl⟩ := pE4 H
       try go_wp2
       replace I := aM (Kd.R_drew I.out); replace J := aM (Kd.R_drew J.out); replace B := aM (Kd.S_drew B.out); replace z := kD z; replace A := kD A; replace E := kD E; replace HB := aM (below_drew1 HB.out); refine start_ (n := 12) (S := fun w' => w'.cell? ⟨U, 0, none⟩ = some (.slice ai Q.length aj) ∧ w'.cell? ⟨U, 1, none⟩ = some (.slice af O.length ag) ∧ w'.cell? ⟨U, 2, none⟩ = some (.slice ao Z.length ap) ∧ w'.cell? ⟨U, 3, none⟩ = some (.slice aq aa.length ar)) (ds := []) (bl 12 0) (by kernel_rfl) rfl rfl (bD4 z) (fun ac => ?_); refine with_tabW Fsb.tab8 Fsb.bits8 (fun ad aw => ?_); generalize wr.drew = dS at I J B z A E HB ac ⊢; refine pu_ 1 30 (bl 12 2) ad ?_; refine pu_ 3 32 (bl 12 10) ad ?_; refine tk4_ 0 29 (bl 12 11) ad aw ac ?_; refine tk4_ 4 33 (bl 12 27) ad aw ac ?_; refine pu_ 5 34 (bl 12 59) ad ?_; refine one_ (i := 2) (N := some 31) (bl 12 63) rfl rfl (one_of ad.out (by kernel_rfl)) (by decide) (fun K hK => ?_); refine gS_ Try.func44 #[.agg #[.slice ai Q.length aj, .slice af O.length ag, .slice ao Z.length ap, .slice aq aa.length ar], .int .i64 ay] ?_
       with_reducible refine (Fsc.calls _ _ Q _ _ O _ _ Z (fun k_ => k_ < w.heap.size) _ _ aa ay aU _ ?s1 ?s2 ?s3 ?s4 ?s5 ?s6 ?s7 bX.out).mono ?_
       (case s1 => exact cB aQ HB)
       (case s2 => exact aR.out)
       (case s3 => exact cB aD HB)
       (case s4 => exact aE.out)
       (case s5 => exact cB aW HB)
       (case s6 => exact aX.out)
       (case s7 => exact Kd.V_mk aZ.out (Kd.F_below (Kd.C_F k73_heap aY.out) (bP3 HB F G L)))
       rintro e dU ⟨b3, rfl, ab, hb⟩; refine ⟨_, rfl, ?_⟩; have au := aM (Kd.V_lower (Kd.V_mono (ok' := fun k_ => some k_ ≠ (.slice aI al.length aJ : Value).ownBlock ∧ some k_ ≠ (.slice aG ak.length aH : Value).ownBlock ∧ some k_ ≠ (ah : Value).ownBlock ∧ k_ ≠ U ∧ k_ ≠ am ∧ k_ ≠ M) ab (fun k_ hk_ => ⟨Or.elim hk_ (fun hs_ => fun e_ => Nat.not_le.2 hs_ (Kd.R_base I.out k_ e_.symm)) (fun hn_ => (Kd.fresh' (Kd.R_lt (rP I)) k_ hn_)), Or.elim hk_ (fun hs_ => fun e_ => Nat.not_le.2 hs_ (Kd.R_base J.out k_ e_.symm)) (fun hn_ => (Kd.fresh' (Kd.R_lt (rP J)) k_ hn_)), Or.elim hk_ (fun hs_ => fun e_ => Nat.not_le.2 hs_ (Kd.S_base B.out k_ e_.symm)) (fun hn_ => (Kd.fresh' (Kd.S_lt (by (with_reducible repeat (first | apply Kd.S_alloc | apply Kd.S_drewN | apply Kd.S_drew)); exact B.out)) k_ hn_)), Or.elim hk_ (fun hs_ => fun e_ => Nat.not_le.2 hs_ (by rw [e_]; exact ba.out)) (fun hn_ => (Kd.freshB (g := U) (o := .cells #[.slice ai Q.length aj, .slice af O.length ag, .slice ao Z.length ap, .slice aq aa.length ar] 27 (0, 0)) (kO z.out) k_ hn_)), Or.elim hk_ (fun hs_ => fun e_ => Nat.not_le.2 hs_ (by rw [e_]; exact bb.out)) (fun hn_ => (Kd.freshB (g := am) (o := .cells #[.slice none 0 0, .slice none 0 0, .slice none 0 0] 45 (0, 0)) (kO A.out) k_ hn_)), Or.elim hk_ (fun hs_ => fun e_ => Nat.not_le.2 hs_ (by rw [e_]; exact aC.out)) (fun hn_ => (Kd.freshB (g := M) (o := .cells #[.slice aI al.length aJ, .slice aG ak.length aH, ah] 45 (0, 0)) (kO E.out) k_ hn_))⟩)) (below_size (bP3 HB F G L))); replace I := rB I hb; replace J := rB J hb; replace B := aM (Kd.S_below (by (with_reducible repeat (first | apply Kd.S_alloc | apply Kd.S_drewN | apply Kd.S_drew)); exact B.out) hb); replace z := kB z hb; replace A := kB A hb; replace E := kB E hb; replace HB := hS3 HB F G L hb
       obtain ⟨cb, cc, bG⟩ := Kd.V_slice au.out
       (first | subst bG | obtain ⟨rfl, rfl⟩ := iS bG)
       refine hK.out _ _ (bD4 z) (fun ac => ?_); clear hK K; refine nm_ 31 ?_; refine one_ (i := 6) (N := some 35) (bl 12 127) rfl rfl (one_of ad.out (by kernel_rfl)) (by decide) (fun K hK => ?_); refine gS_ Try.func60 #[.slice cb aU.length cc, .int .i64 (Q.length : Int)] ?_
       with_reducible refine (Fe.calls k1 _ _ aU (Q.length : Int) aK a5 _ ?s1 ?s2 bY.out).mono ?_
       (case s1 => exact cO (Kd.V_reads' au.out).2.2)
       (case s2 => exact (Kd.V_reads' au.out).2.1)
       rintro e dV ⟨b6, rfl, ab, hb⟩; refine ⟨_, rfl, ?_⟩; replace I := rB I hb; replace J := rB J hb; replace B := aM (Kd.S_elder' (by (with_reducible repeat (first | apply Kd.S_alloc | apply Kd.S_drewN | apply Kd.S_drew)); exact B.out) (Kd.R_base ab) hb); replace au := aM (Kd.V_elder' (vO au.out) (Kd.R_base ab) hb); have aT := rW ab (bP3 HB F G L); replace z := kB z hb; replace A := kB A hb; replace E := kB E hb; replace HB := hS3 HB F G L hb
       refine hK.out _ _ (bD4 z) (fun ac => ?_); clear hK K; refine nm_ 35 ?_; refine pu_ 7 28 (bl 12 255) ad ?_; refine pu_ 8 36 (bl 12 511) ad ?_; refine pu_ 9 37 (bl 12 1023) ad ?_; refine pu_ 10 7 (bl 12 2047) ad ?_; refine pu_ 11 8 (bl 12 4095) ad ?_; refine done_ (done_of ad.out (by kernel_rfl)) ?_; have dy := aA.out; have dz := az.out; have dA := P.out; have dB := W.out; obtain ⟨cE, cF, cG, cH, cI, cJ⟩ := bG3 A
       try go_wp2
       refine bodyPost_ret (results_ct rfl _ _ am 45 #[.slice none 0 0, .slice none 0 0, .slice none 0 0] (0, 0) _ rfl (by (with_reducible repeat (first | refine blk_drewN ?_ _ | refine blk_drew ?_ | refine blk_alloc ?_ _)); exact blk_put (blk_put (blk_put A.out 0 _ rfl) 1 _ rfl) 2 _ rfl) Try.underlying45 rfl (by kernel_rfl)) rfl ?_; exact ⟨_, _, _, eW, by first | exact Kd.R_nil _ _ _ _ _ | exact Kd.N_nil _ _ _ _ _ | exact Kd.V_nil _ _ _ _ _ | exact Kd.Q_nil _ _ _ _ _ | exact Kd.S_nil _ _ _ _ _, by first | exact Kd.R_nil _ _ _ _ _ | exact Kd.N_nil _ _ _ _ _ | exact Kd.V_nil _ _ _ _ _ | exact Kd.Q_nil _ _ _ _ _ | exact Kd.S_nil _ _ _ _ _, by first | exact Kd.S_nil _ _ _ _ _ | exact Kd.N_nil _ _ _ _ _ | exact Kd.V_nil _ _ _ _ _ | exact Kd.Q_nil _ _ _ _ _ | exact Kd.R_nil _ _ _ _ _, bS3 HB.out F.out G.out L.out⟩
     ·have bM := decide_eq_false a9; clear a9; obtain ⟨rfl, rfl, rfl, rfl⟩ := pE4 H; have dC := V.out; have dD := D.out; have dE := W.out; have dF := P.out; obtain ⟨cK, cL, cM, cN, cP, cQ⟩ := bG3 E; have dG := aA.out; have dH := az.out; obtain ⟨cR, cS, cT, cU, cV, cW⟩ := bG3 A; obtain ⟨cd, ce, cf⟩ := Kd.S_slice B.out; subst cf
      go_wp2
      refine bodyPost_ret (results_ct rfl _ _ am 45 #[.slice aI al.length aJ, .slice aG ak.length aH, .slice cd ae.length ce] (0, 0) _ rfl (by (with_reducible repeat (first | refine blk_drewN ?_ _ | refine blk_drew ?_ | refine blk_alloc ?_ _)); exact blk_put (blk_put (blk_put A.out 0 _ rfl) 1 _ rfl) 2 _ rfl) Try.underlying45 rfl (by kernel_rfl)) rfl ?_; exact ⟨_, _, _, eW, rZ I A, rZ J A, sZ B A, bS3 HB.out F.out G.out L.out⟩
  intro ax; refine two_ (i := 2) (j := 7) (Ni := some 17) (Nj := some 5) (bl 9 31) (bl 9 155) rfl rfl rfl rfl (two_of ad.out (by kernel_rfl)) (by decide) (by decide) (fun K hK => ?_) (fun K hK => ?_)
  ·refine gS_ Try.func58 #[.slice ai Q.length aj] ?_
   with_reducible refine (Fec.calls _ _ Q al _ ?s1 ?s2 A4.out).mono ?_
   (case s1 => exact cB aQ HB)
   (case s2 => exact aR.out)
   rintro e dp ⟨bx, rfl, ab, hb⟩; refine ⟨_, rfl, ?_⟩; have Y := rW ab (bP2 HB F G); replace z := kB z hb; replace A := kB A hb; replace HB := hS2 HB F G hb
   refine hK.out _ _ (bD4 z) (fun ac => ?_); clear hK K; refine nm_ 17 ?_; refine two_ (i := 5) (j := 7) (Ni := some 20) (Nj := some 5) (bl 9 63) (bl 9 159) rfl rfl rfl rfl (two_of ad.out (by kernel_rfl)) (by decide) (by decide) (fun K hK => ?_) (fun K hK => ?_)
   ·refine gS_ Try.func59 #[.slice af O.length ag] ?_
    with_reducible refine (Feb.calls _ _ O ak _ ?s1 ?s2 A5.out).mono ?_
    (case s1 => exact cB aD HB)
    (case s2 => exact aE.out)
    rintro e bZ ⟨be, rfl, ab, hb⟩; refine ⟨_, rfl, ?_⟩; replace Y := rB Y hb; have an := rW ab (bP2 HB F G); replace z := kB z hb; replace A := kB A hb; replace HB := hS2 HB F G hb
    obtain ⟨cg, ch, bH⟩ := sL an
    (first | subst bH | obtain ⟨rfl, rfl⟩ := iS bH)
    obtain ⟨a6, a7, aN⟩ := sL Y
    (first | subst aN | obtain ⟨rfl, rfl⟩ := iS aN)
    refine hK.out _ _ (bD4 z) (fun ac => ?_); clear hK K; refine nm_ 20 ?_; refine pu_ 6 21 (bl 9 127) ad ?_; refine one_ (i := 7) (N := some 5) (bl 9 255) rfl rfl (one_of ad.out (by kernel_rfl)) (by decide) (fun K hK => ?_); refine bs_ (cs := #[.slice none 0 0, .slice none 0 0, .slice none 0 0]) (t := 45) ?_; intro M hg dW av hb; replace Y := rB Y hb; replace an := rB an hb; have E := aM (av); have aC := gE hg (bP2 HB F G); have L := gE hg (bP2 HB F G); replace HB := hS2 HB F G hb; have D := nL hg z; have V := nG hg z; replace z := kB z hb; have P := nL hg A; have W := nG hg A; replace A := kB A hb; clear hb av hg; refine hK.out _ _ (bD4 z) (fun ac => ?_); clear hK K; refine nm_ 5 ?_; exact norm_ (by simp only [putAll, Act.put, sA, sB, sC]) (ax (.slice a6 al.length a7, .slice cg ak.length ch, M) _ ⟨ac, rQ Y, rQ an, kQ z, kQ A, kQ E, aC, L, D, V, P, W, bT3 HB F G L⟩)
   ·refine bs_ (cs := #[.slice none 0 0, .slice none 0 0, .slice none 0 0]) (t := 45) ?_; intro M hg bZ av hb; replace Y := rB Y hb; have E := aM (av); have aC := gE hg (bP2 HB F G); have L := gE hg (bP2 HB F G); replace HB := hS2 HB F G hb; have D := nL hg z; have V := nG hg z; replace z := kB z hb; have P := nL hg A; have W := nG hg A; replace A := kB A hb; clear hb av hg; refine hK.out _ _ (bD4 z) (fun ac => ?_); clear hK K; refine nm_ 5 ?_; refine one_ (i := 5) (N := some 20) (bl 9 191) rfl rfl (one_of ad.out (by kernel_rfl)) (by decide) (fun K hK => ?_); refine gS_ Try.func59 #[.slice af O.length ag] ?_
    with_reducible refine (Feb.calls _ _ O ak _ ?s1 ?s2 A5.out).mono ?_
    (case s1 => exact cB aD HB)
    (case s2 => exact aE.out)
    rintro e dq ⟨be, rfl, ab, hb⟩; refine ⟨_, rfl, ?_⟩; replace Y := rB Y hb; have an := rW ab (bP3 HB F G L); replace z := kB z hb; replace A := kB A hb; replace E := kB E hb; replace HB := hS3 HB F G L hb
    obtain ⟨a6, a7, aN⟩ := sL an
    (first | subst aN | obtain ⟨rfl, rfl⟩ := iS aN)
    obtain ⟨bh, bi, a8⟩ := sL Y
    (first | subst a8 | obtain ⟨rfl, rfl⟩ := iS a8)
    refine hK.out _ _ (bD4 z) (fun ac => ?_); clear hK K; refine nm_ 20 ?_; refine pu_ 6 21 (bl 9 255) ad ?_; exact norm_ (by simp only [putAll, Act.put, sA, sB, sC]) (ax (.slice bh al.length bi, .slice a6 ak.length a7, M) _ ⟨ac, rQ Y, rQ an, kQ z, kQ A, kQ E, aC, L, D, V, P, W, bT3 HB F G L⟩)
  ·refine bs_ (cs := #[.slice none 0 0, .slice none 0 0, .slice none 0 0]) (t := 45) ?_; intro M hg dp av hb; have E := aM (av); have aC := gE hg (bP2 HB F G); have L := gE hg (bP2 HB F G); replace HB := hS2 HB F G hb; have D := nL hg z; have V := nG hg z; replace z := kB z hb; have P := nL hg A; have W := nG hg A; replace A := kB A hb; clear hb av hg; refine hK.out _ _ (bD4 z) (fun ac => ?_); clear hK K; refine nm_ 5 ?_; refine one_ (i := 2) (N := some 17) (bl 9 159) rfl rfl (one_of ad.out (by kernel_rfl)) (by decide) (fun K hK => ?_); refine gS_ Try.func58 #[.slice ai Q.length aj] ?_
   with_reducible refine (Fec.calls _ _ Q al _ ?s1 ?s2 A4.out).mono ?_
   (case s1 => exact cB aQ HB)
   (case s2 => exact aR.out)
   rintro e bZ ⟨bx, rfl, ab, hb⟩; refine ⟨_, rfl, ?_⟩; have Y := rW ab (bP3 HB F G L); replace z := kB z hb; replace A := kB A hb; replace E := kB E hb; replace HB := hS3 HB F G L hb
   refine hK.out _ _ (bD4 z) (fun ac => ?_); clear hK K; refine nm_ 17 ?_; refine one_ (i := 5) (N := some 20) (bl 9 191) rfl rfl (one_of ad.out (by kernel_rfl)) (by decide) (fun K hK => ?_); refine gS_ Try.func59 #[.slice af O.length ag] ?_
   with_reducible refine (Feb.calls _ _ O ak _ ?s1 ?s2 A5.out).mono ?_
   (case s1 => exact cB aD HB)
   (case s2 => exact aE.out)
   rintro e dq ⟨be, rfl, ab, hb⟩; refine ⟨_, rfl, ?_⟩; replace Y := rB Y hb; have an := rW ab (bP3 HB F G L); replace z := kB z hb; replace A := kB A hb; replace E := kB E hb; replace HB := hS3 HB F G L hb
   obtain ⟨a6, a7, aN⟩ := sL an
   (first | subst aN | obtain ⟨rfl, rfl⟩ := iS aN)
   obtain ⟨bh, bi, a8⟩ := sL Y
   (first | subst a8 | obtain ⟨rfl, rfl⟩ := iS a8)
   refine hK.out _ _ (bD4 z) (fun ac => ?_); clear hK K; refine nm_ 20 ?_; refine pu_ 6 21 (bl 9 255) ad ?_; exact norm_ (by simp only [putAll, Act.put, sA, sB, sC]) (ax (.slice bh al.length bi, .slice a6 ak.length a7, M) _ ⟨ac, rQ Y, rQ an, kQ z, kQ A, kQ E, aC, L, D, V, P, W, bT3 HB F G L⟩)
 ·obtain ⟨b0, b1⟩ := bn c3; obtain ⟨rfl, rfl, rfl, rfl⟩ := pE4 H
  go_enter Try.func29, Try.ntmps29
  go_wp2_with (first | ((with_reducible refine gate_dst (N := 1) rfl ?_); refine be_ (cs := #[.slice ai Q.length aj, .slice af O.length ag, .slice ao Z.length ap, .slice aq aa.length ar]) (t := 27) ?_; intro U hg dX av hb; have z := aM (av); have ba := gE hg (bP0 HB); have F := gE hg (bP0 HB); replace HB := hS0 HB hb; clear hb av hg) | ((with_reducible refine gate_dst (N := 2) rfl ?_); refine be_ (cs := #[.slice none 0 0, .slice none 0 0, .slice none 0 0]) (t := 45) ?_; intro am hg dY av hb; have A := aM (av); have bb := gE hg (bP1 HB F); have G := gE hg (bP1 HB F); replace HB := hS1 HB F hb; have az := nL hg z; have aA := nG hg z; replace z := kB z hb; clear hb av hg; have dI := az.out; have dJ := aA.out; obtain ⟨cX, cY, cZ, c0, c1, c2, c4, c5⟩ := bG4 z) | ((with_reducible refine gate_callee (f := 21) rfl ?_); refine gL_ (some 10) Try.func21 #[.agg #[.slice ai Q.length aj, .slice af O.length ag, .slice ao Z.length ap, .slice aq aa.length ar]] ?_; (with_reducible refine (Fsa.calls k _ _ Q _ _ O _ _ Z _ _ aa bd _ ?s1 aR.out ?s3 aE.out ?s5 aX.out ?s7 aZ.out A2.out).mono ?_); (case s1 => exact cB aQ HB); (case s3 => exact cB aD HB); (case s5 => exact cB aW HB); (case s7 => exact cB aY HB); rintro e dZ ⟨rfl, hb⟩; refine ⟨_, rfl, ?_⟩; replace z := kB z hb; replace A := kB A hb; replace HB := hS2 HB F G hb; obtain ⟨c6, c7, c8, c9, da, db⟩ := bG3 A))
  refine bodyPost_ret (results_ct rfl _ _ am 45 #[.slice none 0 0, .slice none 0 0, .slice none 0 0] (0, 0) _ rfl (by (with_reducible repeat (first | refine blk_drewN ?_ _ | refine blk_drew ?_ | refine blk_alloc ?_ _)); exact blk_put (blk_put (blk_put A.out 0 _ rfl) 1 _ rfl) 2 _ rfl) Try.underlying45 rfl (by kernel_rfl)) rfl ?_; exact ⟨_, _, _, eW, by first | exact Kd.R_nil _ _ _ _ _ | exact Kd.N_nil _ _ _ _ _ | exact Kd.V_nil _ _ _ _ _ | exact Kd.Q_nil _ _ _ _ _ | exact Kd.S_nil _ _ _ _ _, by first | exact Kd.R_nil _ _ _ _ _ | exact Kd.N_nil _ _ _ _ _ | exact Kd.V_nil _ _ _ _ _ | exact Kd.Q_nil _ _ _ _ _ | exact Kd.S_nil _ _ _ _ _, by first | exact Kd.S_nil _ _ _ _ _ | exact Kd.N_nil _ _ _ _ _ | exact Kd.V_nil _ _ _ _ _ | exact Kd.Q_nil _ _ _ _ _ | exact Kd.R_nil _ _ _ _ _, bS2 HB.out F.out G.out⟩
def Fgb.l0 : Nat → List Int → Int → Int → Option (List Int)
 | 0, _, _, _ => none
 | k + 1, x0, x2, x3 => if x2 < x3 then (if 0 ≤ x3 then (if x3 < (x0.length : Int) then (if 0 ≤ x2 then (if x2 < (x0.length : Int) then (Fgb.l0 k ((x0.set (x2 : Int).toNat (rd x0 x3)).set (x3 : Int).toNat (rd x0 x2)) (wrap64 (x2 + 1)) (wrap64 (x3 - 1))) else (none)) else (none)) else (none)) else (none)) else (some x0)
def Fgb.f (k : Nat) (l0 : List Int) : Option (List Int) := Fgb.l0 k l0 0 (wrap64 ((l0.length : Int) - 1))
theorem Fgb.mono_l : ∀ k, (∀ y0 y1 y2, LeO (Fgb.l0 k y0 y1 y2) (Fgb.l0 (k + 1) y0 y1 y2))
 | 0 => fun _ _ _ r h => by simp [Fgb.l0] at h
 | k + 1 => by
  have ih0 := Fgb.mono_l k
  ·intro y0 y1 y2
   unfold Fgb.l0
   repeat' first | (with_reducible first | exact ih0 _ _ _ | exact lA | apply lI | refine lB ?_ fun _ => ?_) | exact lN _ | apply lI | refine lB ?_ fun _ => ?_
theorem Fgb.mono : ∀ a0 k, LeO (Fgb.f k a0) (Fgb.f (k + 1) a0) := by
 intro a0 k; have ih0 := Fgb.mono_l k
 unfold Fgb.f
 repeat' first | (with_reducible first | exact ih0 _ _ _ | exact lA | apply lI | refine lB ?_ fun _ => ?_) | exact lN _ | apply lI | refine lB ?_ fun _ => ?_
def Fgb.T3 : Bool × List (List Nat × List Nat) := (true, [([], []), ([], []), ([], []), ([], []), ([], []), ([], []), ([4, 5], [4, 5]), ([6], [6]), ([], []), ([], []), ([8, 9], [8, 9]), ([10], [10]), ([0, 1, 0, 1, 4, 5, 6, 7, 11], [0, 1]), ([12, 7, 0, 1, 4, 5, 6, 7, 11], [7, 12]), ([2, 3, 0, 1, 2, 3, 4, 5, 6, 7, 8, 9, 10, 11, 12, 13], [2, 3]), ([14, 11, 13, 0, 1, 2, 3, 4, 5, 6, 7, 8, 9, 10, 11, 12, 13], [11, 14])])
def Fgb.B3 : List Nat := [0, 0, 0, 0, 0, 0, 48, 112, 0, 0, 768, 1792, 4083, 8179, 16383, 32767]
theorem Fgb.tab3 : rtab .any (opsOf Try.f81 3) = Fgb.T3 := by kernel_rfl
theorem Fgb.bits3 : waitsOk Fgb.T3.2 Fgb.B3 = true := by kernel_rfl
theorem Fgb.calls (k : Nat) (P0_ : Nat → Prop) (E : Value) (V : List Int) (r : List Int) (L w : World) (hB : Below L.heap.size L w) (az : Kd.R (Kd.int .i64) 3 w L.heap.size P0_ E V) (h : Fgb.f k V = some r) :
  Calls Try.prog 81 #[E] w fun e w' => e = .returned (.tuple #[]) ∧ Kd.R (Kd.int .i64) 3 w' L.heap.size (fun k_ => (P0_ k_ ∨ w.heap.size ≤ k_)) E r ∧ Below L.heap.size L w' ∧ Kept w w' (fun k_ => P0_ k_) := by
 have aj := aM (show Kd.R (Kd.int .i64) 3 w L.heap.size (fun k_ => (P0_ k_ ∨ w.heap.size ≤ k_)) E V from Kd.R_mono az (fun k_ hk => (.inl hk))); have HK := aM (Kept.refl w (fun k_ => P0_ k_)); have HW0 := aM hB.size; have HB := aM hB; clear hB; rw [Fgb.f] at h; have H := h; clear h; have H' := aM H; clear H; obtain ⟨aA, aB, rfl⟩ := sL aj
 go_enter Try.func81, Try.ntmps81
 go_wp2
 go_loopg [2, 3] k (fun kq v2 v3 w' => ∃ (B : List Int) (z : Int) (A : Int), v2 = .int .i64 z ∧ v3 = .int .i64 A ∧ Aside0 (Fgb.l0 kq B z A = some r) ∧ Aside0 (kq ≤ k) ∧ Aside0 (Kd.R (Kd.int .i64) 3 w' L.heap.size (fun k_ => (P0_ k_ ∨ w.heap.size ≤ k_)) (.slice aA V.length aB) B) ∧ Aside0 (Kept w w' (fun k_ => P0_ k_)) ∧ Aside0 (Below L.heap.size L w'))
 case atStart => exact ⟨(V), (0), (wrap64 ((V.length : Int) - 1)), sI, sI, H', ⟨Nat.le_refl _⟩, rQ aj, ⟨by repeat (first | (with_reducible first | exact HK.out | apply Kept.alloc | apply Kept.drewN | apply Kept.drew) | exact HK.out)⟩, bT0 HB⟩
 case round =>
  clear H'
  obtain ⟨B, z, A, rfl, rfl, HA, aw, C, HK, HB⟩ := hrel; have D := (rR C).1; rw [D] at C
  (try simp only [D])
  cases gk with
  | zero => exact absurd HA.out (by simp [Fgb.l0])
  | succ k1 =>
   have H := HA.out; clear HA; simp only [Fgb.l0] at H
   apply iB H <;> clear H <;> intro W H
   ·have am := dT W; clear W
    apply iN H; clear H; intro Z H; have aF := dT Z; clear Z
    apply iN H; clear H; intro c5 H; have an := dT c5
    (try (have c5b0hl0_1 := an; rw [D] at c5b0hl0_1))
    clear c5
    apply iN H; clear H; intro c6 H; have aG := dT c6; clear c6
    apply iN H; clear H; intro c7 H; have ao := dT c7
    (try (have c7b0hl0_1 := ao; rw [D] at c7b0hl0_1))
    clear c7; obtain ⟨ap, I⟩ : ∃ y_ : List Int, y_ = (B.set (z : Int).toNat (rd B A)) := ⟨_, rfl⟩
    first | replace H := rI I H | rw [← I] at H
    have ad := aM I; clear I; obtain ⟨aq, J⟩ : ∃ y_ : List Int, y_ = (ap.set (A : Int).toNat (rd B z)) := ⟨_, rfl⟩
    first | replace H := rI J H | rw [← J] at H
    have ae := aM J; clear J; have H' := aM H; clear H
    try go_wp2
    replace C := aM (Kd.R_drew C.out); replace HK := aM (Kept.drew HK.out); replace HB := aM (below_drew1 HB.out); obtain ⟨⟨af, ar, F⟩, M, O⟩ := xAt (Kd.at_int (rR C).2.2) A; cases ar; obtain ⟨⟨ag, au, G⟩, P, Q⟩ := xAt (Kd.at_int (rR C).2.2) z; obtain rfl := sJJ au; have p8 : 0 ≤ (z : Int) := oT aO; have q8 : (z : Int) < ((B.length : Int) : Int) := oT aO; obtain ⟨go8, aH, ak, al, gl8, cl8, HG8⟩ := Kd.R_form C.out (by omega)
    (first | cases ak | (injection ak with ea_ en_ ec_; (first | subst ea_ | (injection ea_ with ea_; subst ea_)); subst ec_; clear en_))
    have GB8 := aM al; have GG8 := aM HG8; clear al gl8 HG8; have HMgo8 := aM (show (P0_ go8 ∨ w.heap.size ≤ go8) from (C.out.1 _ rfl))
    (first | simp only [add_plain] at F | skip)
    (first | simp only [add_plain] at G | skip)
    obtain ⟨ah, hf8_0⟩ := Kd.R_celln 0 C.out (z : Int) p8 q8; replace p8 := eq_true p8; replace q8 := eq_true q8; have HP11 := Kd.R_putn C.out (z : Int) (rd B A); rw [← ad.out] at HP11; have U := aM HP11; clear HP11; have p9 : 0 ≤ (A : Int) := oT aO; have q9 : (A : Int) < ((B.length : Int) : Int) := oT aO; obtain ⟨ai, hf9_0⟩ := Kd.R_celln 0 U.out (A : Int) p9 q9; replace p9 := eq_true p9; replace q9 := eq_true q9; have HP12 := Kd.R_putn U.out (A : Int) (rd B z); rw [← ae.out] at HP12; have Y := aM HP12; clear HP12; refine start_ (n := 16) (S := fun w' => w'.cell? ⟨go8, (A).toNat, none⟩ = some (.int .i64 (rd B A)) ∧ w'.cell? ⟨go8, (z).toNat, none⟩ = some (.int .i64 (rd B z))) (ds := [13, 15]) (bl 16 0) (by kernel_rfl) rfl rfl ⟨F, G⟩ (fun ab => ?_); refine with_tabW Fgb.tab3 Fgb.bits3 (fun aa av => ?_); generalize wr.drew = aI at C HK HB GG8 U Y hf8_0 hf9_0 F G ah ai ab ⊢; refine pu_ 0 14 (bl 16 1) aa ?_; refine pu_ 1 15 (bl 16 3) aa ?_; refine pu_ 2 16 (bl 16 7) aa ?_; refine pu_ 3 17 (bl 16 15) aa ?_; refine pu_ 4 18 (bl 16 31) aa ?_; refine pu_ 5 19 (bl 16 63) aa ?_; refine pu_ 6 20 (bl 16 127) aa ?_; refine pu_ 8 22 (bl 16 383) aa ?_; refine pu_ 9 23 (bl 16 895) aa ?_; refine pu_ 10 24 (bl 16 1919) aa ?_; refine tk2_ 7 21 (bl 16 2047) aa av ab ?_; refine tk2_ 11 25 (bl 16 4095) aa av ab ?_; refine pu_ 12 26 (bl 16 8191) aa ?_; refine last_ (i := 13) (N := none) (bl 16 16383) rfl rfl (one_of aa.out (by kernel_rfl)) (by decide) (fun K hK => ?_); refine skip_ (w1 := ?_) (by rfl) rfl ?_ ?_; rotate_left
    ·go_simp
     rfl
    refine hK.out _ _ ?_; clear hK K; refine pu_ 14 27 (bl 16 32767) aa ?_; refine last_ (i := 15) (N := none) (bl 16 65535) rfl rfl (one_of aa.out (by kernel_rfl)) (by decide) (fun K hK => ?_); refine skip_ (w1 := ?_) (by rfl) rfl ?_ ?_; rotate_left
    ·go_simp
     rfl
    refine hK.out _ _ ?_; clear hK K; refine done_ (done_of aa.out (by kernel_rfl)) ?_
    try go_wp2
    (try simp only [← D])
    go_roundg k1
    case measure => have := aw.out; omega
    case rel => exact ⟨(aq), (wrap64 (z + 1)), (wrap64 (A - 1)), sI, sI, H', ⟨by have := aw.out; omega⟩, ⟨by (try simp only [D]); (with_reducible repeat (first | apply Kd.R_alloc | apply Kd.R_drewN | apply Kd.R_drew)); exact Y.out⟩, ⟨by repeat (first | (with_reducible first | exact HK.out | apply Kept.alloc | apply Kept.drewN | apply Kept.drew | refine Kept.setCell ?_ HMgo8.out _ | refine Kept.setCell ?_ HMgo8.out _) | exact HK.out)⟩, ⟨by repeat (first | (with_reducible first | exact HB.out | apply below_alloc | apply pw_below_drewN | apply below_drew1 | refine below_set ?_ GB8.out | refine below_set ?_ GB8.out) | exact HB.out)⟩⟩
   ·have am := decide_eq_false W; clear W; obtain rfl := Option.some.inj H
    go_wp2
    first | go_end0 | ((try simp only [Exit.inBlock, Exit.then]); refine bodyPost_ret (results_none rfl _ _ _) rfl ?_)
    exact ⟨eW, (by first | exact (rP C) | (simp only [D]; exact (rP C))), bO HB.out, by repeat (first | (with_reducible first | exact HK.out | apply Kept.alloc | apply Kept.drewN | apply Kept.drew) | exact HK.out)⟩
end Go.Proofs.Ytninoenmhcbonaa.X

/- What the functions of this seat compute, and that the program's calls come to just that: written by this session's own program out of the translation; no condition. -/
import Derived.Test.YtghfclgcgecgdaaX0
import Derived.Test.YtghfclgcgecgdaaX10
import Derived.Test.YtghfclgcgecgdaaX13
namespace Go.Proofs.Ytghfclgcgecgdaa.X
open Go.RowKit Go.Proofs.YtghfclgcgecgdaaW.PrintWords Go.Proofs.YtghfclgcgecgdaaW.PrintLast Go.Proofs.YtghfclgcgecgdaaW.PrintMore
attribute [local go_sem] max2_int min2_int max_two min_two max_three min_three max_four min_four
set_option linter.unusedVariables false
set_option linter.unusedSimpArgs false
set_option maxHeartbeats 8000000
set_option maxRecDepth 100000

/-! ### row_Unpack: function 53 -/
mutual
def row_Unpack.j0 : Nat → List (S58) → Int → Bool → Option (List Int × Int)
 | 0, _, _, _ => none
 | k + 1, x0, x1, x18 => if x18 = true then (some (([] : List Int), 150)) else (if 0 ≤ x1 then (if (x0.length : Int) > (shl .i64 1 x1) then (some (([] : List Int), 3)) else (if 0 ≤ (shl .i64 1 x1) then (if (shl .i64 1 x1 : Int).toNat ≤ 35184372088832 then ((some (List.replicate (shl .i64 1 x1 : Int).toNat 0 : List Int)).bind fun y184 => (row_Unpack.l0 k x0 y184 (y184.length : Int) 0)) else (none)) else (none))) else (none))
def row_Unpack.l0 : Nat → List (S58) → List Int → Int → Int → Option (List Int × Int)
 | 0, _, _, _, _ => none
 | k + 1, x0, x7, x28, x29 => if x29 < x28 then ((row_At.f k x0 x29).bind fun bt187 => (if bt187.2 = true then (if 0 ≤ x29 then (if x29 < (x7.length : Int) then (row_Unpack.l0 k x0 (x7.set (x29 : Int).toNat bt187.1) x28 (wrap64 (x29 + 1))) else (none)) else (none)) else (some (([] : List Int), 3)))) else ((row_Pack.f k x7).bind fun bt190 => (if bt190.2 = 0 then ((api_Cube.f k bt190.1 x0).bind fun t194 => (if t194 = true then (some (x7, 0)) else (some (([] : List Int), 3)))) else (some (([] : List Int), 3))))
end
def row_Unpack.f (k : Nat) (l0 : List (S58)) (a1 : Int) : Option (List Int × Int) := if a1 < 0 then (row_Unpack.j0 k l0 a1 true) else (row_Unpack.j0 k l0 a1 (decide (a1 > 6)))
theorem row_Unpack.mono_l : ∀ k, (∀ y0 y1 y2, LeO (row_Unpack.j0 k y0 y1 y2) (row_Unpack.j0 (k + 1) y0 y1 y2)) ∧ (∀ y0 y1 y2 y3, LeO (row_Unpack.l0 k y0 y1 y2 y3) (row_Unpack.l0 (k + 1) y0 y1 y2 y3))
 | 0 => ⟨fun _ _ _ r h => by simp [row_Unpack.j0] at h, fun _ _ _ _ r h => by simp [row_Unpack.l0] at h⟩
 | k + 1 => by
  obtain ⟨ih0, ih1⟩ := row_Unpack.mono_l k; refine ⟨?_, ?_⟩
  ·intro y0 y1 y2
   unfold row_Unpack.j0
   repeat' first | (with_reducible first | exact ih0 _ _ _ | exact ih1 _ _ _ _ | exact api_Cube.mono _ _ _ | exact row_At.mono _ _ _ | exact row_Pack.mono _ _ | exact lA | apply lI | refine lB ?_ fun _ => ?_) | exact lN _ | apply lI | refine lB ?_ fun _ => ?_
  ·intro y0 y1 y2 y3
   unfold row_Unpack.l0
   repeat' first | (with_reducible first | exact ih0 _ _ _ | exact ih1 _ _ _ _ | exact api_Cube.mono _ _ _ | exact row_At.mono _ _ _ | exact row_Pack.mono _ _ | exact lA | apply lI | refine lB ?_ fun _ => ?_) | exact lN _ | apply lI | refine lB ?_ fun _ => ?_
theorem row_Unpack.mono : ∀ a0 a1 k, LeO (row_Unpack.f k a0 a1) (row_Unpack.f (k + 1) a0 a1) := by
 intro a0 a1 k; obtain ⟨ih0, ih1⟩ := row_Unpack.mono_l k
 unfold row_Unpack.f
 repeat' first | (with_reducible first | exact ih0 _ _ _ | exact ih1 _ _ _ _ | exact api_Cube.mono _ _ _ | exact row_At.mono _ _ _ | exact row_Pack.mono _ _ | exact lA | apply lI | refine lB ?_ fun _ => ?_) | exact lN _ | apply lI | refine lB ?_ fun _ => ?_
theorem row_Unpack.calls (k : Nat) (A0 : Option Addr) (c0 : Nat) (I : List (S58)) (J : Int) (r1 : List Int) (r2 : Int) (w : World) (aU : Kd.C k58 w A0 I.length I) (aV : I.length ≤ c0) (h : row_Unpack.f k I J = some (r1, r2)) :
  Calls Try.prog 53 #[.slice A0 I.length c0, .int .i64 J] w fun e w' => ∃ aW : Value, e = .returned (.tuple #[aW, .int .i64 r2]) ∧ Kd.R (Kd.int .i64) 3 w' w.heap.size (fun _ => True) aW r1 ∧ Below w.heap.size w w' := by
 have ah := aM aU; have ai := aM aV; clear aU aV; have HB := aM (Below.refl w.heap.size w); rw [row_Unpack.f] at h; have H := h; clear h; have av := aM H; clear H
 go_enter Try.func53, Try.ntmps53
 go_upto_region 1 with (fail)
 go_cut [18] (fun a7 wc => ∃ (kq : Nat) (P : Bool), a7 = .bool P ∧ Aside0 (row_Unpack.j0 kq I J P = some (r1, r2)) ∧ Aside0 (kq ≤ k) ∧ BA w wc)
 case first =>
  have H := av.out; clear av
  apply iB H <;> clear H <;> intro c4 H
  ·have V := dT c4; clear c4
   (first | rw [V] | (simp only [i64_w, i32_w]; rw [V]) | skip)
   have H' := aM H; clear H
   go_wp2
   go_meet
   case rel => exact ⟨_, (true), sI, H', lE, bT0 HB⟩
  ·have V := decide_eq_false c4; clear c4
   (first | rw [V] | (simp only [i64_w, i32_w]; rw [V]) | skip)
   have H' := aM H; clear H
   go_wp2
   go_meet
   case rel => exact ⟨_, (decide (J > 6)), sI, H', lE, bT0 HB⟩
 case rest =>
  clear av
  obtain ⟨kq, P, rfl, HA, HJ2, HB⟩ := hcut; cases kq with
  | zero => exact absurd HA.out (by simp [row_Unpack.j0])
  | succ aX =>
   have H := HA.out; clear HA; simp only [row_Unpack.j0] at H
   by_cases c5 : P = true
   ·subst c5
    rw [if_pos rfl] at H; obtain ⟨rfl, rfl⟩ := pE2 H
    go_wp2
    go_ret2
    exact ⟨_, eW, by first | exact Kd.R_nil _ _ _ _ _ | exact Kd.N_nil _ _ _ _ _ | exact Kd.V_nil _ _ _ _ _ | exact Kd.Q_nil _ _ _ _ _ | exact Kd.S_nil _ _ _ _ _, bO HB.out⟩
   ·replace c5 := Bool.eq_false_iff.mpr c5; subst c5
    rw [if_neg nF] at H
    apply iN H; clear H; intro c6 H; have bf := eq_true c6; have bg := dT c6; clear c6; obtain ⟨G, E⟩ : ∃ j_ : Int, (shl .i64 1 J) = j_ := ⟨_, rfl⟩
    first | rw [E] at H | simp only [E] at H
    have aj : (IntKind.i64.wrap (1 * 2 ^ min J.toNat 64)) = G := E; have hji7z : J ≤ 64 → (IntKind.i64.wrap (1 * 2 ^ J.toNat)) = G := shl_small E
    have hji7u : (IntKind.i64.wrap (2 ^ min J.toNat 64)) = G := by have h_ := aj; rw [Int.one_mul] at h_; exact h_
    have hji7v : J ≤ 64 → (IntKind.i64.wrap (2 ^ J.toNat)) = G := fun hle_ => by have h_ := hji7z hle_; rw [Int.one_mul] at h_; exact h_
    have hji7y : (wrap64 (1 * 2 ^ min J.toNat 64)) = G := (i64_w _).symm.trans aj
    have hji7x : J ≤ 64 → (wrap64 (1 * 2 ^ J.toNat)) = G := fun h_ => (i64_w _).symm.trans (hji7z h_)
    apply iB H <;> clear H <;> intro c8 H
    ·have a3 := dT c8; clear c8; obtain ⟨rfl, rfl⟩ := pE2 H
     go_wp2
     go_ret2
     exact ⟨_, by first | rfl | (simp [errW_none, errW_some] <;> rfl) | (simp only [← E]; first | rfl | (simp [errW_none, errW_some] <;> rfl)) | (simp [*, errW_none, errW_some] <;> rfl), by first | exact Kd.R_nil _ _ _ _ _ | exact Kd.N_nil _ _ _ _ _ | exact Kd.V_nil _ _ _ _ _ | exact Kd.Q_nil _ _ _ _ _ | exact Kd.S_nil _ _ _ _ _, bO HB.out⟩
    ·have a3 := decide_eq_false c8; clear c8
     apply iN H; clear H; intro c9 H; have bh := eq_true c9; have bi := dT c9; clear c9
     apply iN H; clear H; intro ae H; have ba := eq_true ae; have bb := dT ae; clear ae; obtain ⟨W, Q⟩ : ∃ y_ : List Int, y_ = (List.replicate (G : Int).toNat 0) := ⟨_, rfl⟩
     first | replace H := rI Q H | rw [← Q] at H
     have aP := aM Q; clear Q; have H' := aM H; clear H
     go_wp2_with (first | ((with_reducible refine gate_dst (N := 26) rfl ?_); refine Kd.R_make (Kd.int .i64) _ 3 rfl (N := 26) rfl 29 _ _ rfl G rfl rfl Try.underlying29 (.int .i64 0) 8 info3 rfl (by decide) (by omega) 0 (ok := fun _ => True) (okp := fun _ => True) rfl (fun _ hk => hk) trivial (oT aO) (Nat.le_trans (Nat.mul_le_mul_right _ (oT aO : G.toNat ≤ 35184372088832)) (by omega)) (Below.refl _ _) (Nat.le_refl _) ?_; intro bj br ab hb hg_ hnew_; clear hg_ hnew_; replace ab := nW aP ab; have ak := rW ab (bP0 HB); replace HB := hS0 HB hb; clear hb ab; obtain ⟨ac, Y, rfl⟩ := sL ak))
     go_loopg [29] aX (fun kq a8 w' => ∃ (B : List Int) (z : Int), a8 = .int .i64 z ∧ Aside0 (row_Unpack.l0 kq I B (W.length : Int) z = some (r1, r2)) ∧ Aside0 (kq ≤ aX) ∧ RA (Kd.int .i64) 3 w' w (.slice ac W.length Y) B ∧ BA w w')
     case atStart => exact ⟨(W), (0), sI, H', ⟨Nat.le_refl _⟩, rQ ak, bT0 HB⟩
     case round =>
      clear H'
      obtain ⟨B, z, rfl, HA, ar, A, HB⟩ := hrel; have F := (rR A).1; rw [F] at A
      (try simp only [F])
      cases gk with
      | zero => exact absurd HA.out (by simp [row_Unpack.l0])
      | succ k2 =>
       have H := HA.out; clear HA; simp only [row_Unpack.l0] at H
       apply iB H <;> clear H <;> intro aa H
       ·have ad := dT aa
        (try (have c14b0hl7_2 := ad; rw [F] at c14b0hl7_2))
        clear aa; replace H := Option.bind_eq_some_iff.mp H; obtain ⟨⟨L, ay⟩, az, H⟩ := H; replace H : (if ay = true then (if 0 ≤ z then (if z < (B.length : Int) then (row_Unpack.l0 k2 I (B.set (z : Int).toNat L) (W.length : Int) (wrap64 (z + 1))) else (none)) else (none)) else (some (([] : List Int), 3))) = some (r1, r2) := H; have aY := aM az; clear az
        by_cases al : ay = true
        ·subst al
         rw [if_pos rfl] at H
         apply iN H; clear H; intro am H; have bc := dT am; clear am
         apply iN H; clear H; intro an H; have aQ := dT an
         (try (have c18b0hl7_2 := aQ; rw [F] at c18b0hl7_2))
         clear an; obtain ⟨aA, U⟩ : ∃ y_ : List Int, y_ = (B.set (z : Int).toNat L) := ⟨_, rfl⟩
         first | replace H := rI U H | rw [← U] at H
         have aR := aM U; clear U; have H' := aM H; clear H
         go_wp2_with (first | ((with_reducible refine gate_callee (f := 47) rfl ?_); refine gL_ (some 35) Try.func47 #[.slice A0 I.length c0, .int .i64 z] ?_; (with_reducible refine (row_At.calls k2 _ _ I z L true _ ?s1 ai.out aY.out).mono ?_); (case s1 => exact cB ah HB); rintro e aZ ⟨rfl, hb⟩; refine ⟨_, rfl, ?_⟩; replace A := rB A hb; replace HB := hS0 HB hb; (try clear hb); have aB : 0 ≤ (z : Int) := oT aO; have aC : (z : Int) < ((B.length : Int) : Int) := oT aO; obtain ⟨go19, bk, aD, aE, gl19, cl19, HG19⟩ := Kd.R_form A.out (by omega); (first | cases aD | (injection aD with ea_ en_ ec_; (first | subst ea_ | (injection ea_ with ea_; subst ea_)); subst ec_; clear en_)); have GB19 := aM aE; have GG19 := aM HG19; clear aE gl19 HG19; obtain ⟨a9, hf19_0⟩ := Kd.R_celln 0 A.out (z : Int) aB aC; replace aB := eq_true aB; replace aC := eq_true aC; obtain ⟨bd, be⟩ := Kd.R_celln 0 A.out (z : Int) (oT aO) (oT aO); have HP21 := Kd.R_putg A.out (z : Int) L) | ((with_reducible refine gate_store (t := 3) (p := 43) rfl ?_); refine store_event (t := 3) (p := 43) (v := ?vo_w22) (w1 := (aZ.setCell ⟨go19, (z : Int).toNat, none⟩ (.int .i64 L))) ?hg ?ho ?hn ?hr ?_; (case ho => rfl); (case hg => rfl); (case hn => rfl); (case hr => first | (go_simp; done) | (go_simp; rfl)); intro aF hw; have hg : aZ.grownBy aF (some go19) := (by rw [hw]; exact HP21.2); have hp_ : Kd.R (Kd.int .i64) 3 aF w.heap.size (fun _ => True) (.slice (some ⟨go19, 0, none⟩) B.length Y) aA := (by rw [hw, aR.out]; exact HP21.1); clear HP21; replace A := aM (hp_); replace HB := aM ((by rw [hw]; exact below_set (HB.out) GB19.out : Below w.heap.size w aF)); clear hg hw hp_))
         (try simp only [← F])
         go_roundg k2
         case measure => have := HJ2.out; have := ar.out; omega
         case rel => exact ⟨(aA), (wrap64 (z + 1)), sI, H', ⟨by have := HJ2.out; have := ar.out; omega⟩, ⟨by (try simp only [F]); (with_reducible repeat (first | apply Kd.R_alloc | apply Kd.R_drewN | apply Kd.R_drew)); exact A.out⟩, bT0 HB⟩
        ·replace al := Bool.eq_false_iff.mpr al; subst al
         rw [if_neg nF] at H; obtain ⟨rfl, rfl⟩ := pE2 H
         go_wp2_with (first | ((with_reducible refine gate_callee (f := 47) rfl ?_); refine gL_ (some 35) Try.func47 #[.slice A0 I.length c0, .int .i64 z] ?_; (with_reducible refine (row_At.calls k2 _ _ I z L false _ ?s1 ai.out aY.out).mono ?_); (case s1 => exact cB ah HB); rintro e bs ⟨rfl, hb⟩; refine ⟨_, rfl, ?_⟩; replace A := rB A hb; replace HB := hS0 HB hb; (try clear hb)))
         go_ret2
         exact ⟨_, by first | rfl | (simp [errW_none, errW_some] <;> rfl) | (simp only [← E]; first | rfl | (simp [errW_none, errW_some] <;> rfl)) | (simp [*, errW_none, errW_some] <;> rfl), by first | exact Kd.R_nil _ _ _ _ _ | exact Kd.N_nil _ _ _ _ _ | exact Kd.V_nil _ _ _ _ _ | exact Kd.Q_nil _ _ _ _ _ | exact Kd.S_nil _ _ _ _ _, bO HB.out⟩
       ·have ad := decide_eq_false aa
        (try (have c14b0hl7_2 := ad; rw [F] at c14b0hl7_2))
        clear aa; replace H := Option.bind_eq_some_iff.mp H; obtain ⟨⟨M, Z⟩, aG, H⟩ := H; replace H : (if Z = 0 then ((api_Cube.f k2 M I).bind fun ag => (if ag = true then (some (B, 0)) else (some (([] : List Int), 3)))) else (some (([] : List Int), 3))) = some (r1, r2) := H; have aH := aM aG; clear aG
        apply iB H <;> clear H <;> intro af H
        ·obtain ⟨aS, aT⟩ := bq af; clear af; apply bSx H; clear H; intro ag a2 H
         by_cases ao : ag = true
         ·subst ao
          rw [if_pos rfl] at H; obtain ⟨rfl, rfl⟩ := pE2 H
          go_wp2_with (first | ((with_reducible refine gate_callee (f := 36) rfl ?_); refine gL_ (some 47) Try.func36 #[.slice ac B.length Y] ?_; (with_reducible refine (row_Pack.calls k2 _ _ B M Z _ ?s1 (rR A).2.1 aH.out).mono ?_); (case s1 => exact cO (rR A).2.2); rintro e bt ⟨aJ, rfl, O, hb⟩; refine ⟨_, rfl, ?_⟩; replace A := rB A hb; have D := rW O (bP0 HB); replace HB := hS0 HB hb; (try clear hb); (try clear O); obtain ⟨bl, bm, rfl⟩ := sL D) | (go_at_call 52; (with_reducible refine (api_Cube.calls k2 _ _ M _ _ I true _ ?s1 (rR D).2.1 ?s3 ai.out a2.out).mono ?_); (case s1 => exact cO (rR D).2.2); (case s3 => exact cB ah HB); rintro e w' ⟨rfl, ⟨nd, rfl⟩⟩))
          go_ret2
          exact ⟨_, by first | rfl | (simp [errW_none, errW_some] <;> rfl) | (simp only [← E]; first | rfl | (simp [errW_none, errW_some] <;> rfl)) | (simp [*, errW_none, errW_some] <;> rfl), rO A.out, bO HB.out⟩
         ·replace ao := Bool.eq_false_iff.mpr ao; subst ao
          rw [if_neg nF] at H; obtain ⟨rfl, rfl⟩ := pE2 H
          go_wp2_with (first | ((with_reducible refine gate_callee (f := 36) rfl ?_); refine gL_ (some 47) Try.func36 #[.slice ac B.length Y] ?_; (with_reducible refine (row_Pack.calls k2 _ _ B M Z _ ?s1 (rR A).2.1 aH.out).mono ?_); (case s1 => exact cO (rR A).2.2); rintro e bu ⟨aJ, rfl, O, hb⟩; refine ⟨_, rfl, ?_⟩; replace A := rB A hb; have D := rW O (bP0 HB); replace HB := hS0 HB hb; (try clear hb); (try clear O); obtain ⟨bo, bp, rfl⟩ := sL D) | (go_at_call 52; (with_reducible refine (api_Cube.calls k2 _ _ M _ _ I false _ ?s1 (rR D).2.1 ?s3 ai.out a2.out).mono ?_); (case s1 => exact cO (rR D).2.2); (case s3 => exact cB ah HB); rintro e w' ⟨rfl, ⟨nd, rfl⟩⟩))
          go_ret2
          exact ⟨_, by first | rfl | (simp [errW_none, errW_some] <;> rfl) | (simp only [← E]; first | rfl | (simp [errW_none, errW_some] <;> rfl)) | (simp [*, errW_none, errW_some] <;> rfl), by first | exact Kd.R_nil _ _ _ _ _ | exact Kd.N_nil _ _ _ _ _ | exact Kd.V_nil _ _ _ _ _ | exact Kd.Q_nil _ _ _ _ _ | exact Kd.S_nil _ _ _ _ _, bO HB.out⟩
        ·obtain ⟨aS, aT⟩ := bn af; obtain ⟨rfl, rfl⟩ := pE2 H
         go_wp2_with (first | ((with_reducible refine gate_callee (f := 36) rfl ?_); refine gL_ (some 47) Try.func36 #[.slice ac B.length Y] ?_; (with_reducible refine (row_Pack.calls k2 _ _ B M Z _ ?s1 (rR A).2.1 aH.out).mono ?_); (case s1 => exact cO (rR A).2.2); rintro e bv ⟨aJ, rfl, O, hb⟩; refine ⟨_, rfl, ?_⟩; replace A := rB A hb; have D := rW O (bP0 HB); replace HB := hS0 HB hb; (try clear hb); (try clear O)))
         go_ret2
         exact ⟨_, by first | rfl | (simp [errW_none, errW_some] <;> rfl) | (simp only [← E]; first | rfl | (simp [errW_none, errW_some] <;> rfl)) | (simp [*, errW_none, errW_some] <;> rfl), by first | exact Kd.R_nil _ _ _ _ _ | exact Kd.N_nil _ _ _ _ _ | exact Kd.V_nil _ _ _ _ _ | exact Kd.Q_nil _ _ _ _ _ | exact Kd.S_nil _ _ _ _ _, bO HB.out⟩

end Go.Proofs.Ytghfclgcgecgdaa.X

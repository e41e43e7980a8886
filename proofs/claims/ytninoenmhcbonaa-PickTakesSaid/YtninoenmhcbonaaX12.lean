/- What the functions of this seat compute, and that the program's calls come to just that: written by this session's own program out of the translation; no condition. -/
import Derived.Test.YtninoenmhcbonaaX0
import Derived.Test.YtninoenmhcbonaaX5
namespace Go.Proofs.Ytninoenmhcbonaa.X
open Go.RowKit Go.Proofs.YtninoenmhcbonaaW.PrintWords Go.Proofs.YtninoenmhcbonaaW.PrintLast Go.Proofs.YtninoenmhcbonaaW.PrintMore
attribute [local go_sem] max2_int min2_int max_two min_two max_three min_three max_four min_four
set_option linter.unusedVariables false
set_option linter.unusedSimpArgs false
set_option maxHeartbeats 8000000
set_option maxRecDepth 100000

/-! ### row_Unpack: function 60 -/
mutual
def row_Unpack.j0 : Nat → List (S73) → Int → Bool → Option (List Int × Int)
 | 0, _, _, _ => none
 | k + 1, x0, x1, x18 => if x18 = true then (some (([] : List Int), 150)) else (if 0 ≤ x1 then (if (x0.length : Int) > (shl .i64 1 x1) then (some (([] : List Int), 3)) else (if 0 ≤ (shl .i64 1 x1) then (if (shl .i64 1 x1 : Int).toNat ≤ 35184372088832 then ((some (List.replicate (shl .i64 1 x1 : Int).toNat 0 : List Int)).bind fun y154 => (row_Unpack.l0 k x0 y154 (y154.length : Int) 0)) else (none)) else (none))) else (none))
def row_Unpack.l0 : Nat → List (S73) → List Int → Int → Int → Option (List Int × Int)
 | 0, _, _, _, _ => none
 | k + 1, x0, x7, x28, x29 => if x29 < x28 then ((row_At.f k x0 x29).bind fun bt157 => (if bt157.2 = true then (if 0 ≤ x29 then (if x29 < (x7.length : Int) then (row_Unpack.l0 k x0 (x7.set (x29 : Int).toNat bt157.1) x28 (wrap64 (x29 + 1))) else (none)) else (none)) else (some (([] : List Int), 3)))) else ((row_Pack.f k x7).bind fun bt160 => (if bt160.2 = 0 then ((api_Cube.f k bt160.1 x0).bind fun t164 => (if t164 = true then (some (x7, 0)) else (some (([] : List Int), 3)))) else (some (([] : List Int), 3))))
end
def row_Unpack.f (k : Nat) (l0 : List (S73)) (a1 : Int) : Option (List Int × Int) := if a1 < 0 then (row_Unpack.j0 k l0 a1 true) else (row_Unpack.j0 k l0 a1 (decide (a1 > 6)))
theorem row_Unpack.mono_l : ∀ k, (∀ y0 y1 y2, LeO (row_Unpack.j0 k y0 y1 y2) (row_Unpack.j0 (k + 1) y0 y1 y2)) ∧ (∀ y0 y1 y2 y3, LeO (row_Unpack.l0 k y0 y1 y2 y3) (row_Unpack.l0 (k + 1) y0 y1 y2 y3))
 | 0 => ⟨fun _ _ _ r h => by simp [row_Unpack.j0] at h, fun _ _ _ _ r h => by simp [row_Unpack.l0] at h⟩
 | k + 1 => by
  obtain ⟨ih0, ih1⟩ := row_Unpack.mono_l k; refine ⟨?_, ?_⟩
  ·intro y0 y1 y2
   unfold row_Unpack.j0
   repeat' first | (with_reducible first | exact ih0 _ _ _ | exact ih1 _ _ _ _ | exact api_Cube.mono _ _ _ | exact row_At.mono _ _ _ | exact row_Pack.mono _ _ | exact lA | apply lI | refine lB ?_ fun _ => ?_) | exact lN _ | apply lI | refine lB ?_ fun _ => ?_
  ·intro y0 y1 y2 y3
   unfold row_Unpack.l0
   repeat' first | (with_reducible first | exact ih0 _ _ _ | exact ih1 _ _ _ _ | exact api_Cube.mono _ _ _ | exact row_At.mono _ _ _ | exact row_Pack.mono _ _ | exact lA | apply lI | refine lB ?_ fun _ => ?_) | exact lN _ | apply lI | refine lB ?_ fun _ => ?_
theorem row_Unpack.mono : ∀ a0 a1 k, LeO (row_Unpack.f k a0 a1) (row_Unpack.f (k + 1) a0 a1) := by
 intro a0 a1 k; obtain ⟨ih0, ih1⟩ := row_Unpack.mono_l k
 unfold row_Unpack.f
 repeat' first | (with_reducible first | exact ih0 _ _ _ | exact ih1 _ _ _ _ | exact api_Cube.mono _ _ _ | exact row_At.mono _ _ _ | exact row_Pack.mono _ _ | exact lA | apply lI | refine lB ?_ fun _ => ?_) | exact lN _ | apply lI | refine lB ?_ fun _ => ?_
theorem row_Unpack.calls (k : Nat) (A0 : Option Addr) (c0 : Nat) (I : List (S73)) (J : Int) (r1 : List Int) (r2 : Int) (w : World) (aU : Kd.C k73 w A0 I.length I) (aV : I.length ≤ c0) (h : row_Unpack.f k I J = some (r1, r2)) :
  Calls Try.prog 60 #[.slice A0 I.length c0, .int .i64 J] w fun e w' => ∃ aW : Value, e = .returned (.tuple #[aW, .int .i64 r2]) ∧ Kd.R (Kd.int .i64) 3 w' w.heap.size (fun _ => True) aW r1 ∧ Below w.heap.size w w' := by
 have ah := aM aU; have ai := aM aV; clear aU aV; have HB := aM (Below.refl w.heap.size w); rw [row_Unpack.f] at h; have H := h; clear h; have av := aM H; clear H
 go_enter Try.func60, Try.ntmps60
 go_upto_region 1 with (fail)
 go_cut [18] (fun a7 wc => ∃ (kq : Nat) (P : Bool), a7 = .bool P ∧ Aside0 (row_Unpack.j0 kq I J P = some (r1, r2)) ∧ Aside0 (kq ≤ k) ∧ BA w wc)
 case first =>
  have H := av.out; clear av
  by_cases c4 : J < 0
  ·rw [if_pos c4] at H; have V := dT c4; clear c4
   (first | rw [V] | (simp only [i64_w, i32_w]; rw [V]) | skip)
   have H' := aM H; clear H
   go_wp2
   go_meet
   case rel => exact ⟨_, (true), sI, H', ⟨by first | omega | exact Nat.le_refl _⟩, bT0 HB⟩
  ·rw [if_neg c4] at H; have V := decide_eq_false c4; clear c4
   (first | rw [V] | (simp only [i64_w, i32_w]; rw [V]) | skip)
   have H' := aM H; clear H
   go_wp2
   go_meet
   case rel => exact ⟨_, (decide (J > 6)), sI, H', ⟨by first | omega | exact Nat.le_refl _⟩, bT0 HB⟩
 case rest =>
  clear av
  obtain ⟨kq, P, rfl, HA, HJ2, HB⟩ := hcut; cases kq with
  | zero => exact absurd HA.out (by simp [row_Unpack.j0])
  | succ aX =>
   have H := HA.out; clear HA; simp only [row_Unpack.j0] at H
   by_cases c5 : P = true
   ·subst c5
    rw [if_pos rfl] at H; simp only [Option.some.injEq, Prod.mk.injEq] at H; obtain ⟨rfl, rfl⟩ := H
    go_wp2
    go_ret2
    exact ⟨_, eW, by first | exact Kd.R_nil _ _ _ _ _ | exact Kd.N_nil _ _ _ _ _ | exact Kd.V_nil _ _ _ _ _ | exact Kd.Q_nil _ _ _ _ _ | exact Kd.S_nil _ _ _ _ _, bO HB.out⟩
   ·replace c5 := Bool.eq_false_iff.mpr c5; subst c5
    rw [if_neg nF] at H
    by_cases c6 : 0 ≤ J
    ·rw [if_pos c6] at H; have bf := eq_true c6; have bg := dT c6; clear c6; obtain ⟨G, E⟩ : ∃ j_ : Int, (shl .i64 1 J) = j_ := ⟨_, rfl⟩
     first | rw [E] at H | simp only [E] at H
     have aj : (IntKind.i64.wrap (1 * 2 ^ min J.toNat 64)) = G := E; have hji7z : J ≤ 64 → (IntKind.i64.wrap (1 * 2 ^ J.toNat)) = G := shl_small E
     have hji7u : (IntKind.i64.wrap (2 ^ min J.toNat 64)) = G := by have h_ := aj; rw [Int.one_mul] at h_; exact h_
     have hji7v : J ≤ 64 → (IntKind.i64.wrap (2 ^ J.toNat)) = G := fun hle_ => by have h_ := hji7z hle_; rw [Int.one_mul] at h_; exact h_
     have hji7y : (wrap64 (1 * 2 ^ min J.toNat 64)) = G := (i64_w _).symm.trans aj
     have hji7x : J ≤ 64 → (wrap64 (1 * 2 ^ J.toNat)) = G := fun h_ => (i64_w _).symm.trans (hji7z h_)
     by_cases c8 : (I.length : Int) > (G)
     ·rw [if_pos c8] at H; have a3 := dT c8; clear c8; simp only [Option.some.injEq, Prod.mk.injEq] at H; obtain ⟨rfl, rfl⟩ := H
      go_wp2
      go_ret2
      exact ⟨_, by first | rfl | (simp [errW_none, errW_some] <;> rfl) | (simp only [← E]; first | rfl | (simp [errW_none, errW_some] <;> rfl)) | (simp [*, errW_none, errW_some] <;> rfl), by first | exact Kd.R_nil _ _ _ _ _ | exact Kd.N_nil _ _ _ _ _ | exact Kd.V_nil _ _ _ _ _ | exact Kd.Q_nil _ _ _ _ _ | exact Kd.S_nil _ _ _ _ _, bO HB.out⟩
     ·rw [if_neg c8] at H; have a3 := decide_eq_false c8; clear c8
      by_cases c9 : 0 ≤ (G)
      ·rw [if_pos c9] at H; have bh := eq_true c9; have bi := dT c9; clear c9
       by_cases ae : (G : Int).toNat ≤ 35184372088832
       ·rw [if_pos ae] at H; have ba := eq_true ae; have bb := dT ae; clear ae; obtain ⟨W, Q⟩ : ∃ y_ : List Int, y_ = (List.replicate (G : Int).toNat 0) := ⟨_, rfl⟩
        first | replace H := rI Q H | rw [← Q] at H
        have aP := aM Q; clear Q; have H' := aM H; clear H
        go_wp2_with (first | ((with_reducible refine gate_dst (N := 26) rfl ?_); refine Kd.R_make (Kd.int .i64) _ 3 rfl (N := 26) rfl 24 _ _ rfl G rfl rfl Try.underlying24 (.int .i64 0) 8 info3 rfl (by decide) (by omega) 0 (ok := fun _ => True) (okp := fun _ => True) rfl (fun _ hk => hk) trivial (oT aO) (Nat.le_trans (Nat.mul_le_mul_right _ (oT aO : G.toNat ≤ 35184372088832)) (by omega)) (Below.refl _ _) (Nat.le_refl _) ?_; intro bj br ab hb hg_ hnew_; clear hg_ hnew_; replace ab := nW aP ab; have ak := rW ab (bP0 HB); replace HB := hS0 HB hb; clear hb ab; obtain ⟨ac, Y, a4⟩ := sL ak; subst a4))
        go_loopg [29] aX (fun kq a8 w' => ∃ (B : List Int) (z : Int), a8 = .int .i64 z ∧ Aside0 (row_Unpack.l0 kq I B (W.length : Int) z = some (r1, r2)) ∧ Aside0 (kq ≤ aX) ∧ RA (Kd.int .i64) 3 w' w (.slice ac W.length Y) B ∧ BA w w')
        case atStart => exact ⟨(W), (0), sI, H', ⟨Nat.le_refl _⟩, rQ ak, bT0 HB⟩
        case round =>
         clear H'
         obtain ⟨B, z, rfl, HA, HK2, A, HB⟩ := hrel; have F := (rR A).1; rw [F] at A
         (try simp only [F])
         cases gk with
         | zero => exact absurd HA.out (by simp [row_Unpack.l0])
         | succ k2 =>
          have H := HA.out; clear HA; simp only [row_Unpack.l0] at H
          by_cases aa : z < (W.length : Int)
          ·rw [if_pos aa] at H; have ad := dT aa
           (try (have c14b0hl7_2 := ad; rw [F] at c14b0hl7_2))
           clear aa; replace H := Option.bind_eq_some_iff.mp H; obtain ⟨⟨L, ay⟩, az, H⟩ := H; replace H : (if ay = true then (if 0 ≤ z then (if z < (B.length : Int) then (row_Unpack.l0 k2 I (B.set (z : Int).toNat L) (W.length : Int) (wrap64 (z + 1))) else (none)) else (none)) else (some (([] : List Int), 3))) = some (r1, r2) := H; have aY := aM az; clear az
           by_cases al : ay = true
           ·subst al
            rw [if_pos rfl] at H
            by_cases am : 0 ≤ z
            ·rw [if_pos am] at H; have bc := dT am; clear am
             by_cases an : z < (B.length : Int)
             ·rw [if_pos an] at H; have aQ := dT an
              (try (have c18b0hl7_2 := aQ; rw [F] at c18b0hl7_2))
              clear an; obtain ⟨aA, U⟩ : ∃ y_ : List Int, y_ = (B.set (z : Int).toNat L) := ⟨_, rfl⟩
              first | replace H := rI U H | rw [← U] at H
              have aR := aM U; clear U; have H' := aM H; clear H
              go_wp2_with (first | ((with_reducible refine gate_callee (f := 71) rfl ?_); refine gL_ (some 35) Try.func71 #[.slice A0 I.length c0, .int .i64 z] ?_; (with_reducible refine (row_At.calls k2 _ _ I z L true _ ?s1 ai.out aY.out).mono ?_); (case s1 => exact cB ah HB); rintro e aZ ⟨rfl, hb⟩; refine ⟨_, rfl, ?_⟩; replace A := rB A hb; replace HB := hS0 HB hb; (try clear hb); have aB : 0 ≤ (z : Int) := oT aO; have aC : (z : Int) < ((B.length : Int) : Int) := oT aO; obtain ⟨go19, bk, aD, aE, gl19, cl19, HG19⟩ := Kd.R_form A.out (by omega); (first | cases aD | (injection aD with ea_ en_ ec_; (first | subst ea_ | (injection ea_ with ea_; subst ea_)); subst ec_; clear en_)); have GB19 := aM aE; have GG19 := aM HG19; clear aE gl19 HG19; obtain ⟨a9, hf19_0⟩ := Kd.R_celln 0 A.out (z : Int) aB aC; replace aB := eq_true aB; replace aC := eq_true aC; obtain ⟨bd, be⟩ := Kd.R_celln 0 A.out (z : Int) (oT aO) (oT aO); have HP21 := Kd.R_putg A.out (z : Int) L) | ((with_reducible refine gate_store (t := 3) (p := 43) rfl ?_); refine store_event (t := 3) (p := 43) (v := ?vo_w22) (w1 := (aZ.setCell ⟨go19, (z : Int).toNat, none⟩ (.int .i64 L))) ?hg ?ho ?hn ?hr ?_; (case ho => rfl); (case hg => rfl); (case hn => rfl); (case hr => first | (go_simp; done) | (go_simp; rfl)); intro aF hw; have hg : aZ.grownBy aF (some go19) := (by rw [hw]; exact HP21.2); have hp_ : Kd.R (Kd.int .i64) 3 aF w.heap.size (fun _ => True) (.slice (some ⟨go19, 0, none⟩) B.length Y) aA := (by rw [hw, aR.out]; exact HP21.1); clear HP21; replace A := aM (hp_); replace HB := aM ((by rw [hw]; exact below_set (HB.out) GB19.out : Below w.heap.size w aF)); clear hg hw hp_))
              (try simp only [← F])
              go_roundg k2
              case measure => have := HJ2.out; have := HK2.out; omega
              case rel => exact ⟨(aA), (wrap64 (z + 1)), sI, H', ⟨by have := HJ2.out; have := HK2.out; omega⟩, ⟨by (try simp only [F]); (with_reducible repeat (first | apply Kd.R_alloc | apply Kd.R_drewN | apply Kd.R_drew)); exact A.out⟩, bT0 HB⟩
             ·exact nX an H
            ·exact nX am H
           ·replace al := Bool.eq_false_iff.mpr al; subst al
            rw [if_neg nF] at H; simp only [Option.some.injEq, Prod.mk.injEq] at H; obtain ⟨rfl, rfl⟩ := H
            go_wp2_with (first | ((with_reducible refine gate_callee (f := 71) rfl ?_); refine gL_ (some 35) Try.func71 #[.slice A0 I.length c0, .int .i64 z] ?_; (with_reducible refine (row_At.calls k2 _ _ I z L false _ ?s1 ai.out aY.out).mono ?_); (case s1 => exact cB ah HB); rintro e bs ⟨rfl, hb⟩; refine ⟨_, rfl, ?_⟩; replace A := rB A hb; replace HB := hS0 HB hb; (try clear hb)))
            go_ret2
            exact ⟨_, by first | rfl | (simp [errW_none, errW_some] <;> rfl) | (simp only [← E]; first | rfl | (simp [errW_none, errW_some] <;> rfl)) | (simp [*, errW_none, errW_some] <;> rfl), by first | exact Kd.R_nil _ _ _ _ _ | exact Kd.N_nil _ _ _ _ _ | exact Kd.V_nil _ _ _ _ _ | exact Kd.Q_nil _ _ _ _ _ | exact Kd.S_nil _ _ _ _ _, bO HB.out⟩
          ·rw [if_neg aa] at H; have ad := decide_eq_false aa
           (try (have c14b0hl7_2 := ad; rw [F] at c14b0hl7_2))
           clear aa; replace H := Option.bind_eq_some_iff.mp H; obtain ⟨⟨M, Z⟩, aG, H⟩ := H; replace H : (if Z = 0 then ((api_Cube.f k2 M I).bind fun ag => (if ag = true then (some (B, 0)) else (some (([] : List Int), 3)))) else (some (([] : List Int), 3))) = some (r1, r2) := H; have aH := aM aG; clear aG
           by_cases af : Z = 0
           ·rw [if_pos af] at H; obtain ⟨aS, aT⟩ := bq af; clear af; replace H := Option.bind_eq_some_iff.mp H; obtain ⟨ag, aI, H⟩ := H; have a2 := aM aI; clear aI
            by_cases ao : ag = true
            ·subst ao
             rw [if_pos rfl] at H; simp only [Option.some.injEq, Prod.mk.injEq] at H; obtain ⟨rfl, rfl⟩ := H
             go_wp2_with (first | ((with_reducible refine gate_callee (f := 79) rfl ?_); refine gL_ (some 47) Try.func79 #[.slice ac B.length Y] ?_; (with_reducible refine (row_Pack.calls k2 _ _ B M Z _ ?s1 (rR A).2.1 aH.out).mono ?_); (case s1 => exact cO (rR A).2.2); rintro e bt ⟨aJ, rfl, O, hb⟩; refine ⟨_, rfl, ?_⟩; replace A := rB A hb; have D := rW O (bP0 HB); replace HB := hS0 HB hb; (try clear hb); (try clear O); obtain ⟨bl, bm, a5⟩ := sL D; subst a5) | (go_at_call 80; (with_reducible refine (api_Cube.calls k2 _ _ M _ _ I true _ ?s1 (rR D).2.1 ?s3 ai.out a2.out).mono ?_); (case s1 => exact cO (rR D).2.2); (case s3 => exact cB ah HB); rintro e w' ⟨rfl, ⟨nd, rfl⟩⟩))
             go_ret2
             exact ⟨_, by first | rfl | (simp [errW_none, errW_some] <;> rfl) | (simp only [← E]; first | rfl | (simp [errW_none, errW_some] <;> rfl)) | (simp [*, errW_none, errW_some] <;> rfl), rO A.out, bO HB.out⟩
            ·replace ao := Bool.eq_false_iff.mpr ao; subst ao
             rw [if_neg nF] at H; simp only [Option.some.injEq, Prod.mk.injEq] at H; obtain ⟨rfl, rfl⟩ := H
             go_wp2_with (first | ((with_reducible refine gate_callee (f := 79) rfl ?_); refine gL_ (some 47) Try.func79 #[.slice ac B.length Y] ?_; (with_reducible refine (row_Pack.calls k2 _ _ B M Z _ ?s1 (rR A).2.1 aH.out).mono ?_); (case s1 => exact cO (rR A).2.2); rintro e bu ⟨aJ, rfl, O, hb⟩; refine ⟨_, rfl, ?_⟩; replace A := rB A hb; have D := rW O (bP0 HB); replace HB := hS0 HB hb; (try clear hb); (try clear O); obtain ⟨bo, bp, a6⟩ := sL D; subst a6) | (go_at_call 80; (with_reducible refine (api_Cube.calls k2 _ _ M _ _ I false _ ?s1 (rR D).2.1 ?s3 ai.out a2.out).mono ?_); (case s1 => exact cO (rR D).2.2); (case s3 => exact cB ah HB); rintro e w' ⟨rfl, ⟨nd, rfl⟩⟩))
             go_ret2
             exact ⟨_, by first | rfl | (simp [errW_none, errW_some] <;> rfl) | (simp only [← E]; first | rfl | (simp [errW_none, errW_some] <;> rfl)) | (simp [*, errW_none, errW_some] <;> rfl), by first | exact Kd.R_nil _ _ _ _ _ | exact Kd.N_nil _ _ _ _ _ | exact Kd.V_nil _ _ _ _ _ | exact Kd.Q_nil _ _ _ _ _ | exact Kd.S_nil _ _ _ _ _, bO HB.out⟩
           ·rw [if_neg af] at H; obtain ⟨aS, aT⟩ := bn af; simp only [Option.some.injEq, Prod.mk.injEq] at H; obtain ⟨rfl, rfl⟩ := H
            go_wp2_with (first | ((with_reducible refine gate_callee (f := 79) rfl ?_); refine gL_ (some 47) Try.func79 #[.slice ac B.length Y] ?_; (with_reducible refine (row_Pack.calls k2 _ _ B M Z _ ?s1 (rR A).2.1 aH.out).mono ?_); (case s1 => exact cO (rR A).2.2); rintro e bv ⟨aJ, rfl, O, hb⟩; refine ⟨_, rfl, ?_⟩; replace A := rB A hb; have D := rW O (bP0 HB); replace HB := hS0 HB hb; (try clear hb); (try clear O)))
            go_ret2
            exact ⟨_, by first | rfl | (simp [errW_none, errW_some] <;> rfl) | (simp only [← E]; first | rfl | (simp [errW_none, errW_some] <;> rfl)) | (simp [*, errW_none, errW_some] <;> rfl), by first | exact Kd.R_nil _ _ _ _ _ | exact Kd.N_nil _ _ _ _ _ | exact Kd.V_nil _ _ _ _ _ | exact Kd.Q_nil _ _ _ _ _ | exact Kd.S_nil _ _ _ _ _, bO HB.out⟩
       ·exact nX ae H
      ·exact nX c9 H
    ·exact nX c6 H

end Go.Proofs.Ytninoenmhcbonaa.X
namespace Go.Proofs.Ytninoenmhcbonaa.X
open Go.RowKit Go.Proofs.YtninoenmhcbonaaW.PrintWords Go.Proofs.YtninoenmhcbonaaW.PrintLast Go.Proofs.YtninoenmhcbonaaW.PrintMore
attribute [local go_sem] max2_int min2_int max_two min_two max_three min_three max_four min_four
set_option linter.unusedVariables false
set_option linter.unusedSimpArgs false
set_option maxHeartbeats 8000000
set_option maxRecDepth 100000

/-! ### slices_Max_int_int: function 70 -/
def slices_Max_int_int.l0 : Nat → List Int → Int → Int → Option (Int)
 | 0, _, _, _ => none
 | k + 1, x0, x3, x4 => if x4 < (x0.length : Int) then (if 0 ≤ x4 then (slices_Max_int_int.l0 k x0 (mx x3 (rd x0 x4)) (wrap64 (x4 + 1))) else (none)) else (some x3)
def slices_Max_int_int.f (k : Nat) (l0 : List Int) : Option (Int) := if (l0.length : Int) < 1 then (none) else (if 0 < (l0.length : Int) then (slices_Max_int_int.l0 k l0 (rd l0 0) 1) else (none))
theorem slices_Max_int_int.mono_l : ∀ k, (∀ y0 y1 y2, LeO (slices_Max_int_int.l0 k y0 y1 y2) (slices_Max_int_int.l0 (k + 1) y0 y1 y2))
 | 0 => fun _ _ _ r h => by simp [slices_Max_int_int.l0] at h
 | k + 1 => by
  have ih0 := slices_Max_int_int.mono_l k
  ·intro y0 y1 y2
   unfold slices_Max_int_int.l0
   repeat' first | (with_reducible first | exact ih0 _ _ _ | exact lA | apply lI | refine lB ?_ fun _ => ?_) | exact lN _ | apply lI | refine lB ?_ fun _ => ?_
theorem slices_Max_int_int.mono : ∀ a0 k, LeO (slices_Max_int_int.f k a0) (slices_Max_int_int.f (k + 1) a0) := by
 intro a0 k; have ih0 := slices_Max_int_int.mono_l k
 unfold slices_Max_int_int.f
 repeat' first | (with_reducible first | exact ih0 _ _ _ | exact lA | apply lI | refine lB ?_ fun _ => ?_) | exact lN _ | apply lI | refine lB ?_ fun _ => ?_
theorem slices_Max_int_int.calls (k : Nat) (A0 : Option Addr) (c0 : Nat) (A : List Int) (r : Int) (w : World) (U : Kd.C (Kd.int .i64) w A0 A.length A) (V : A.length ≤ c0) (h : slices_Max_int_int.f k A = some r) :
  Calls Try.prog 70 #[.slice A0 A.length c0] w fun e w' => e = .returned (.int .i64 r) ∧ Below w.heap.size w w' := by
 have W := aM U; have am := aM V; clear U V; have HB := aM (Below.refl w.heap.size w); rw [slices_Max_int_int.f] at h; have H := h; clear h
 by_cases N : (A.length : Int) < 1
 ·rw [if_pos N] at H; exact absurd H (by simp)
 ·rw [if_neg N] at H; have af := decide_eq_false N; have ag : decide (A.length < 1) = false := decide_eq_false (by omega); clear N
  by_cases O : 0 < (A.length : Int)
  ·rw [if_pos O] at H; have ah := dT O; have ai : decide (0 < A.length) = true := dT (by omega); clear O; have H' := aM H; clear H; have G : 0 ≤ (0 : Int) := (by omega); have I : 0 < (A.length : Int) := oT aO; obtain ⟨P, Z, D⟩ := Kd.at_int W.out 0 G I; cases Z; have qi165 : (0 < A.length) = True := eq_true (by omega)
   (try rw [show ((0 : Int)).toNat = 0 from rfl] at D)
   (try rw [Addr.add_zero'] at D)
   replace G := eq_true G; replace I := eq_true I
   go_enter Try.func70, Try.ntmps70
   go_wp2
   go_loopg [3, 4] k (fun kq v3 v4 w' => ∃ (B : Int) (z : Int), v3 = .int .i64 B ∧ v4 = .int .i64 z ∧ Aside0 (slices_Max_int_int.l0 kq A B z = some r) ∧ Aside0 (kq ≤ k) ∧ BA w w')
   case atStart => exact ⟨(rd A 0), (1), sI, sI, H', ⟨Nat.le_refl _⟩, bT0 HB⟩
   case round =>
    clear H'
    obtain ⟨B, z, rfl, rfl, HA, HK1, HB⟩ := hrel; cases gk with
    | zero => exact absurd HA.out (by simp [slices_Max_int_int.l0])
    | succ k1 =>
     have H := HA.out; clear HA; simp only [slices_Max_int_int.l0] at H
     by_cases M : z < (A.length : Int)
     ·rw [if_pos M] at H; have aa := dT M; clear M
      by_cases Q : 0 ≤ z
      ·rw [if_pos Q] at H; have al := dT Q; clear Q; obtain ⟨Y, F⟩ : ∃ j_ : Int, (mx B (rd A z)) = j_ := ⟨_, rfl⟩
       first | rw [F] at H | simp only [F] at H
       have ae : (if B < (rd A z) then (rd A z) else B) = Y := F; have H' := aM H; clear H; have J : 0 ≤ (z : Int) := oT aO; have L : z < (A.length : Int) := oT aO; obtain ⟨R, ab, E⟩ := Kd.at_int W.out z J L; have he_ : P = R := (by injection ab); subst he_; replace E := cX HB E; replace J := eq_true J; replace L := eq_true L
       go_wp2
       go_roundg k1
       case measure => have := HK1.out; omega
       case rel => exact ⟨(Y), (wrap64 (z + 1)), (by first | rfl | (simp; done) | (simp only [← F] <;> (first | rfl | simp)) | (simp [*]; done)), sI, H', ⟨by have := HK1.out; omega⟩, bT0 HB⟩
      ·exact nX Q H
     ·rw [if_neg M] at H; have aa := decide_eq_false M; clear M; obtain rfl := Option.some.inj H
      go_wp2
      go_ret
      exact ⟨eW, bO HB.out⟩
  ·exact nX O H

/-! ### row_Right: function 45 -/
def row_Right.f (k : Nat) (l0 : List (S73)) (a1 : Int) (a2 : Int) : Option (Bool) := (row_Unpack.f k l0 a1).bind fun bt167 => (if bt167.2 = 0 then ((slices_Max_int_int.f k bt167.1).bind fun t171 => (some (decide (t171 < a2)))) else (some false))
theorem row_Right.mono : ∀ a0 a1 a2 k, LeO (row_Right.f k a0 a1 a2) (row_Right.f (k + 1) a0 a1 a2) := by
 intro a0 a1 a2 k
 unfold row_Right.f
 repeat' first | (with_reducible first | exact row_Unpack.mono _ _ _ | exact slices_Max_int_int.mono _ _ | exact lA | apply lI | refine lB ?_ fun _ => ?_) | exact lN _ | apply lI | refine lB ?_ fun _ => ?_
theorem row_Right.calls (k : Nat) (J : Option Addr) (L : Nat) (A : List (S73)) (G : Int) (U : Int) (r : Bool) (w : World) (M : Kd.C k73 w J A.length A) (N : A.length ≤ L) (h : row_Right.f k A G U = some r) :
  Calls Try.prog 45 #[.slice J A.length L, .int .i64 G, .int .i64 U] w fun e w' => e = .returned (.bool r) ∧ Below w.heap.size w w' := by
 have O := aM M; have P := aM N; clear M N; have HB := aM (Below.refl w.heap.size w); rw [row_Right.f] at h; have H := h; clear h; replace H := Option.bind_eq_some_iff.mp H; obtain ⟨⟨B, D⟩, Q, H⟩ := H; replace H : (if D = 0 then ((slices_Max_int_int.f k B).bind fun F => (some (decide (F < U)))) else (some false)) = some r := H; have Z := aM Q; clear Q
 by_cases I : D = 0
 ·rw [if_pos I] at H; obtain ⟨V, W⟩ := bq I; clear I; replace H := Option.bind_eq_some_iff.mp H; obtain ⟨F, R, H⟩ := H; have A6 := aM R; clear R; obtain rfl := Option.some.inj H
  go_enter Try.func45, Try.ntmps45
  go_wp2_with (first | ((with_reducible refine gate_callee (f := 60) rfl ?_); refine gL_ (some 12) Try.func60 #[.slice J A.length L, .int .i64 G] ?_; (with_reducible refine (row_Unpack.calls k _ _ A G B D _ ?s1 P.out Z.out).mono ?_); (case s1 => exact cO O.out); rintro e w7 ⟨Y, rfl, E, hb⟩; refine ⟨_, rfl, ?_⟩; have z := rW E (bP0 HB); replace HB := hS0 HB hb; (try clear hb); (try clear E); obtain ⟨ac, ad, aa⟩ := sL z; subst aa) | (go_at_call 70; (with_reducible refine (slices_Max_int_int.calls k _ _ B F _ ?s1 (rR z).2.1 A6.out).mono ?_); (case s1 => exact cO (rR z).2.2); rintro e w9 ⟨rfl, hb⟩; replace z := rB z hb; replace HB := hS0 HB hb; (try clear hb)))
  go_ret
  exact ⟨eW, bO HB.out⟩
 ·rw [if_neg I] at H; obtain ⟨V, W⟩ := bn I; obtain rfl := Option.some.inj H
  go_enter Try.func45, Try.ntmps45
  go_wp2_with (first | ((with_reducible refine gate_callee (f := 60) rfl ?_); refine gL_ (some 12) Try.func60 #[.slice J A.length L, .int .i64 G] ?_; (with_reducible refine (row_Unpack.calls k _ _ A G B D _ ?s1 P.out Z.out).mono ?_); (case s1 => exact cO O.out); rintro e ae ⟨Y, rfl, E, hb⟩; refine ⟨_, rfl, ?_⟩; have z := rW E (bP0 HB); replace HB := hS0 HB hb; (try clear hb); (try clear E)))
  go_ret
  exact ⟨eW, bO HB.out⟩

end Go.Proofs.Ytninoenmhcbonaa.X
namespace Go.Proofs.Ytninoenmhcbonaa.X
open Go.RowKit Go.Proofs.YtninoenmhcbonaaW.PrintWords Go.Proofs.YtninoenmhcbonaaW.PrintLast Go.Proofs.YtninoenmhcbonaaW.PrintMore
attribute [local go_sem] max2_int min2_int max_two min_two max_three min_three max_four min_four
set_option linter.unusedVariables false
set_option linter.unusedSimpArgs false
set_option maxHeartbeats 8000000
set_option maxRecDepth 100000

/-! ### table_Check: function 21 -/
mutual
def table_Check.j0 : Nat → Int → Bool → List ByteArray → List Bool → List Int → List (S73) → Option (Int)
 | 0, _, _, _, _, _, _ => none
 | k + 1, x3, x45, x173000, x173001, x173002, x173003 => if x45 = true then (some 3) else (table_Check.l0 k x3 x3 0 x173000 x173001 x173002 x173003)
def table_Check.l0 : Nat → Int → Int → Int → List ByteArray → List Bool → List Int → List (S73) → Option (Int)
 | 0, _, _, _, _, _, _, _ => none
 | k + 1, x3, x46, x47, x173000, x173001, x173002, x173003 => if x47 < x46 then ((table_rowOf.f x173000 x173001 x173002 x173003 x47).bind fun t177 => (if (t177.length : Int) > 32 then (some 3) else ((row_Right.f k t177 (x173000.length : Int) x3).bind fun t180 => (if t180 = true then (table_Check.l0 k x3 x46 (wrap64 (x47 + 1)) x173000 x173001 x173002 x173003) else (some 3))))) else (some 0)
end
def table_Check.f (k : Nat) (l0_0 : List ByteArray) (l0_1 : List Bool) (l0_2 : List Int) (l0_3 : List (S73)) : Option (Int) := (table_tracks.f k l0_0 (l0_1.length : Int)).bind fun t173 => (if t173 = true then (if (l0_2.length : Int) = (wrap64 ((l0_1.length : Int) + 1)) then (if 0 < (l0_2.length : Int) then (if (rd l0_2 0) = 0 then (if 0 ≤ (l0_1.length : Int) then (if (l0_1.length : Int) < (l0_2.length : Int) then (if (rd l0_2 (l0_1.length : Int)) = (l0_3.length : Int) then ((slices_IsSorted_int_int.f k l0_2).bind fun t176 => (table_Check.j0 k (l0_1.length : Int) (!t176) l0_0 l0_1 l0_2 l0_3)) else (table_Check.j0 k (l0_1.length : Int) true l0_0 l0_1 l0_2 l0_3)) else (none)) else (none)) else (table_Check.j0 k (l0_1.length : Int) true l0_0 l0_1 l0_2 l0_3)) else (none)) else (table_Check.j0 k (l0_1.length : Int) true l0_0 l0_1 l0_2 l0_3)) else (table_Check.j0 k (l0_1.length : Int) true l0_0 l0_1 l0_2 l0_3))
theorem table_Check.mono_l : ∀ k, (∀ y0 y1 y2 y3 y4 y5, LeO (table_Check.j0 k y0 y1 y2 y3 y4 y5) (table_Check.j0 (k + 1) y0 y1 y2 y3 y4 y5)) ∧ (∀ y0 y1 y2 y3 y4 y5 y6, LeO (table_Check.l0 k y0 y1 y2 y3 y4 y5 y6) (table_Check.l0 (k + 1) y0 y1 y2 y3 y4 y5 y6))
 | 0 => ⟨fun _ _ _ _ _ _ r h => by simp [table_Check.j0] at h, fun _ _ _ _ _ _ _ r h => by simp [table_Check.l0] at h⟩
 | k + 1 => by
  obtain ⟨ih0, ih1⟩ := table_Check.mono_l k; refine ⟨?_, ?_⟩
  ·intro y0 y1 y2 y3 y4 y5
   unfold table_Check.j0
   repeat' first | (with_reducible first | exact ih0 _ _ _ _ _ _ | exact ih1 _ _ _ _ _ _ _ | exact row_Right.mono _ _ _ _ | exact slices_IsSorted_int_int.mono _ _ | exact table_tracks.mono _ _ _ | exact lA | apply lI | refine lB ?_ fun _ => ?_) | exact lN _ | apply lI | refine lB ?_ fun _ => ?_
  ·intro y0 y1 y2 y3 y4 y5 y6
   unfold table_Check.l0
   repeat' first | (with_reducible first | exact ih0 _ _ _ _ _ _ | exact ih1 _ _ _ _ _ _ _ | exact row_Right.mono _ _ _ _ | exact slices_IsSorted_int_int.mono _ _ | exact table_tracks.mono _ _ _ | exact lA | apply lI | refine lB ?_ fun _ => ?_) | exact lN _ | apply lI | refine lB ?_ fun _ => ?_
theorem table_Check.mono : ∀ a0 a1 a2 a3 k, LeO (table_Check.f k a0 a1 a2 a3) (table_Check.f (k + 1) a0 a1 a2 a3) := by
 intro a0 a1 a2 a3 k; obtain ⟨ih0, ih1⟩ := table_Check.mono_l k
 unfold table_Check.f
 repeat' first | (with_reducible first | exact ih0 _ _ _ _ _ _ | exact ih1 _ _ _ _ _ _ _ | exact row_Right.mono _ _ _ _ | exact slices_IsSorted_int_int.mono _ _ | exact table_tracks.mono _ _ _ | exact lA | apply lI | refine lB ?_ fun _ => ?_) | exact lN _ | apply lI | refine lB ?_ fun _ => ?_
def table_Check.T2 : Bool × List (List Nat × List Nat) := (true, [([], []), ([0], [0]), ([], []), ([1, 2], [1, 2]), ([3], [3]), ([4, 3], [4]), ([5], [5]), ([6, 5], [5, 6]), ([7, 5], [5, 7]), ([5], [5]), ([9, 5], [5, 9]), ([8, 10, 5], [5, 8, 10]), ([5, 11], [5, 11]), ([12, 5], [12]), ([13], [13]), ([14, 13], [13, 14]), ([15, 13], [13, 15]), ([16, 13], [13, 16]), ([17, 13], [13, 17]), ([13, 18], [13, 18]), ([19, 13], [19]), ([20], [20]), ([21, 20], [20, 21]), ([20], [20]), ([22, 23, 20], [20, 22, 23]), ([24, 20], [20, 24]), ([20], [20]), ([26, 20], [20, 26]), ([27, 20], [20, 27]), ([25, 28, 20], [20, 25, 28]), ([20, 29], [20, 29]), ([30, 20], [30]), ([31], [31]), ([32, 31], [31, 32]), ([33, 31, 31], [31, 33]), ([34, 31], [31, 34]), ([31, 35], [31, 35])])
def table_Check.B2 : List Nat := [0, 1, 0, 7, 15, 31, 63, 127, 255, 63, 575, 2047, 4095, 8191, 16383, 32767, 65535, 131071, 262143, 524287, 1048575, 2097151, 4194303, 2097151, 16777215, 33554431, 2097151, 69206015, 203423743, 536870911, 1073741823, 2147483647, 4294967295, 8589934591, 17179869183, 34359738367, 68719476735]
theorem table_Check.tab2 : rtab .any (opsOf Try.f21 2) = table_Check.T2 := by kernel_rfl
theorem table_Check.bits2 : waitsOk table_Check.T2.2 table_Check.B2 = true := by kernel_rfl
theorem table_Check.calls (k : Nat) (L : Option Addr) (M : Nat) (E : List ByteArray) (V : Option Addr) (W : Nat) (A : List Bool) (ab : Option Addr) (Q : Nat) (B : List Int) (Y : Option Addr) (Z : Nat) (J : List (S73)) (r : Int) (w : World) (aC : Kd.C Kd.string w L E.length E) (aD : E.length ≤ M) (aE : Kd.C Kd.bool w V A.length A) (aF : A.length ≤ W) (aG : Kd.C (Kd.int .i64) w ab B.length B) (aH : B.length ≤ Q) (aI : Kd.C k73 w Y J.length J) (aJ : J.length ≤ Z) (h : table_Check.f k E A B J = some r) :
  Calls Try.prog 21 #[.agg #[.slice L E.length M, .slice V A.length W, .slice ab B.length Q, .slice Y J.length Z]] w fun e w' => e = .returned (.int .i64 r) ∧ Below w.heap.size w w' := by
 have hu27 := Try.underlying27; have af := aM aC; have ag := aM aD; clear aC aD; have ar := aM aE; have au := aM aF; clear aE aF; have ac := aM aG; have al := aM aH; clear aG aH; have av := aM aI; have aw := aM aJ; clear aI aJ; have HB := aM (Below.refl w.heap.size w); rw [table_Check.f] at h; have H := h; clear h; have aQ := aM H; clear H
 go_enter Try.func21, Try.ntmps21
 go_upto_region 2 with (first | ((with_reducible refine gate_dst (N := 1) rfl ?_); (try (refine gate_guard (by rfl) ?_; dsimp only)); refine be_ (cs := #[.slice L E.length M, .slice V A.length W, .slice ab B.length Q, .slice Y J.length Z]) (t := 27) ?_; intro G hg w3 hbox hb; have z := aM (hbox); have ax := gE hg (bP0 HB); have I := gE hg (bP0 HB); replace HB := hS0 HB hb; clear hb hbox hg; obtain ⟨b5, b6, b7, b8, b9, ca, cb, cc⟩ := bG4 z))
 (try simp only [Act.put, sA, sB, sC])
 go_cut [45] (fun cd wc => ∃ (kq : Nat) (am : Bool), cd = .bool am ∧ Aside0 (table_Check.j0 kq (A.length : Int) am E A B J = some r) ∧ Aside0 (kq ≤ k) ∧ Aside0 (wc.heap[G]? = some (.cells #[(.slice L E.length M), (.slice V A.length W), (.slice ab B.length Q), (.slice Y J.length Z)] 27 (0, 0))) ∧ BA w wc)
 case first =>
  have H := aQ.out; clear aQ; replace H := Option.bind_eq_some_iff.mp H; obtain ⟨bf, bc, H⟩ := H; have A5 := aM bc; clear bc
  by_cases c6 : bf = true
  ·subst c6
   rw [if_pos rfl] at H
   by_cases c7 : (B.length : Int) = (wrap64 ((A.length : Int) + 1))
   ·rw [if_pos c7] at H; obtain ⟨an, bg⟩ := bq c7; clear c7
    (first | rw [an] | (simp only [i64_w, i32_w]; rw [an]) | skip)
    by_cases c8 : 0 < (B.length : Int)
    ·rw [if_pos c8] at H; have ck := dT c8; have cl : decide (0 < B.length) = true := dT (by omega); clear c8
     by_cases c9 : (rd B 0) = 0
     ·rw [if_pos c9] at H; obtain ⟨bh, bi⟩ := bq c9; clear c9
      by_cases aK : 0 ≤ (A.length : Int)
      ·rw [if_pos aK] at H; have cg := dT aK; have ch : decide (0 ≤ A.length) = true := dT (by omega); clear aK
       by_cases az : (A.length : Int) < (B.length : Int)
       ·rw [if_pos az] at H; have ci := dT az; have cj : decide (A.length < B.length) = true := dT (Int.ofNat_lt.mp az); clear az
        by_cases aA : (rd B (A.length : Int)) = (J.length : Int)
        ·rw [if_pos aA] at H; obtain ⟨a7, a8⟩ := bq aA; clear aA; replace H := Option.bind_eq_some_iff.mp H; obtain ⟨aV, aW, H⟩ := H; have ce := aM aW; clear aW; have H' := aM H; clear H
         replace z := kD z; replace HB := aM (below_drew1 HB.out); have ad : 0 ≤ (0 : Int) := (by omega); have ae : 0 < (B.length : Int) := oT aO; obtain ⟨R, ao, F⟩ := Kd.at_int ac.out 0 ad ae; have D := F
         (try rw [show ((0 : Int)).toNat = 0 from rfl] at D)
         (try rw [show 0 * 1 = 0 from rfl] at D)
         (try rw [Addr.add_zero'] at D)
         cases ao; have qi174 : (0 < B.length) = True := eq_true (by omega)
         (try rw [show ((0 : Int)).toNat = 0 from rfl] at F)
         (try rw [Addr.add_zero'] at F)
         replace F := cX HB F; replace ad := eq_true ad; replace ae := eq_true ae; have ai : 0 ≤ ((A.length : Int) : Int) := oT aO; have aj : (A.length : Int) < (B.length : Int) := oT aO; obtain ⟨ay, aB, O⟩ := Kd.at_int ac.out (A.length : Int) ai aj; have P := O; have he_ : R = ay := (by injection aB); subst he_; replace O := cX HB O
         (try simp only [Go.IntWalk.toNatUp] at O)
         replace ai := eq_true ai; replace aj := eq_true aj; refine start_ (n := 37) (S := fun w' => w'.cell? ⟨G, 0, none⟩ = some (.slice L E.length M) ∧ w'.cell? ⟨G, 1, none⟩ = some (.slice V A.length W) ∧ w'.cell? ⟨G, 2, none⟩ = some (.slice (some R) B.length Q) ∧ w'.cell? ⟨G, 3, none⟩ = some (.slice Y J.length Z) ∧ w'.cell? R = some (.int .i64 (rd B 0)) ∧ w'.cell? (R.add A.length) = some (.int .i64 (rd B (A.length : Int)))) (ds := []) (bl 37 0) (by kernel_rfl) rfl rfl ⟨(blk_cell z.out 0).trans rfl, (blk_cell z.out 1).trans rfl, (blk_cell z.out 2).trans rfl, (blk_cell z.out 3).trans rfl, ((HB.out.cell (World.block_lt_of_cell? w _ D)).trans D), ((HB.out.cell (World.block_lt_of_cell? w _ P)).trans P)⟩ (fun hHeld => ?_); refine with_tabW table_Check.tab2 table_Check.bits2 (fun HT_ HW_ => ?_); generalize w3.drew = ct at z HB F O hHeld ⊢; refine pu_ 0 9 (bl 37 1) HT_ ?_; refine pu_ 2 11 (bl 37 5) HT_ ?_; refine tk6_ 1 10 (bl 37 7) HT_ HW_ hHeld ?_; refine one_ (i := 3) (N := some 12) (bl 37 15) rfl rfl (one_of HT_.out (by kernel_rfl)) (by decide) (fun K hK => ?_); refine gS_ Try.func42 #[.slice L E.length M, .int .i64 (A.length : Int)] ?_
         with_reducible refine (table_tracks.calls k _ _ E (A.length : Int) true _ ?s1 ?s2 A5.out).mono ?_
         (case s1 => exact cB af HB)
         (case s2 => exact ag.out)
         rintro e cu ⟨rfl, hb⟩; refine ⟨_, rfl, ?_⟩; replace z := kB z hb; replace HB := hS1 HB I hb
         (try clear hb)
         (try clear aL)
         (try clear hk)
         (try clear hi)
         refine hK.out _ _ ⟨(blk_cell z.out 0).trans rfl, (blk_cell z.out 1).trans rfl, (blk_cell z.out 2).trans rfl, (blk_cell z.out 3).trans rfl, ((HB.out.cell (World.block_lt_of_cell? w _ D)).trans D), ((HB.out.cell (World.block_lt_of_cell? w _ P)).trans P)⟩ (fun hHeld => ?_); clear hK K; refine nm_ 12 ?_; refine pu_ 4 13 (bl 37 31) HT_ ?_; refine pu_ 5 14 (bl 37 63) HT_ ?_; refine pu_ 6 15 (bl 37 127) HT_ ?_; refine pu_ 9 18 (bl 37 639) HT_ ?_; refine pu_ 10 19 (bl 37 1663) HT_ ?_; refine tk6_ 7 16 (bl 37 1791) HT_ HW_ hHeld ?_; refine pu_ 8 17 (bl 37 2047) HT_ ?_; refine pu_ 11 20 (bl 37 4095) HT_ ?_; refine pu_ 12 21 (bl 37 8191) HT_ ?_; refine pu_ 13 22 (bl 37 16383) HT_ ?_; refine pu_ 14 23 (bl 37 32767) HT_ ?_; refine tk6_ 15 24 (bl 37 65535) HT_ HW_ hHeld ?_; refine pu_ 16 25 (bl 37 131071) HT_ ?_; refine tk6_ 17 26 (bl 37 262143) HT_ HW_ hHeld ?_; refine pu_ 18 27 (bl 37 524287) HT_ ?_; refine pu_ 19 28 (bl 37 1048575) HT_ ?_; refine pu_ 20 29 (bl 37 2097151) HT_ ?_; refine pu_ 21 30 (bl 37 4194303) HT_ ?_; refine pu_ 23 32 (bl 37 12582911) HT_ ?_; refine pu_ 26 35 (bl 37 79691775) HT_ ?_; refine tk6_ 22 31 (bl 37 83886079) HT_ HW_ hHeld ?_; refine pu_ 24 33 (bl 37 100663295) HT_ ?_; refine tk6_ 25 34 (bl 37 134217727) HT_ HW_ hHeld ?_; refine tk6_ 27 36 (bl 37 268435455) HT_ HW_ hHeld ?_; refine pu_ 28 37 (bl 37 536870911) HT_ ?_; refine pu_ 29 38 (bl 37 1073741823) HT_ ?_; refine pu_ 30 39 (bl 37 2147483647) HT_ ?_; refine pu_ 31 40 (bl 37 4294967295) HT_ ?_; refine pu_ 32 41 (bl 37 8589934591) HT_ ?_; refine tk6_ 33 42 (bl 37 17179869183) HT_ HW_ hHeld ?_; refine one_ (i := 34) (N := some 43) (bl 37 34359738367) rfl rfl (one_of HT_.out (by kernel_rfl)) (by decide) (fun K hK => ?_); refine gS_ Try.func43 #[.slice (some R) B.length Q] ?_
         with_reducible refine (slices_IsSorted_int_int.calls k _ _ B aV _ ?s1 ?s2 ce.out).mono ?_
         (case s1 => exact cB ac HB)
         (case s2 => exact al.out)
         rintro e w' ⟨rfl, ⟨nd, rfl⟩⟩; refine ⟨_, rfl, ?_⟩; refine hK.out _ _ ⟨(blk_cell z.out 0).trans rfl, (blk_cell z.out 1).trans rfl, (blk_cell z.out 2).trans rfl, (blk_cell z.out 3).trans rfl, ((HB.out.cell (World.block_lt_of_cell? w _ D)).trans D), ((HB.out.cell (World.block_lt_of_cell? w _ P)).trans P)⟩ (fun hHeld => ?_); clear hK K; refine nm_ 43 ?_; refine pu_ 35 44 (bl 37 68719476735) HT_ ?_; refine pu_ 36 45 (bl 37 137438953471) HT_ ?_; refine done_ (done_of HT_.out (by kernel_rfl)) ?_
         try go_wp2
         go_meet
         case rel => exact ⟨_, (!aV), sI, H', ⟨by first | omega | exact Nat.le_refl _⟩, kQ z, bT1 HB I⟩
        ·rw [if_neg aA] at H; obtain ⟨a7, a8⟩ := bn aA; have H' := aM H; clear H
         replace z := kD z; replace HB := aM (below_drew1 HB.out); have ad : 0 ≤ (0 : Int) := (by omega); have ae : 0 < (B.length : Int) := oT aO; obtain ⟨R, ao, F⟩ := Kd.at_int ac.out 0 ad ae; have D := F
         (try rw [show ((0 : Int)).toNat = 0 from rfl] at D)
         (try rw [show 0 * 1 = 0 from rfl] at D)
         (try rw [Addr.add_zero'] at D)
         cases ao; have qi174 : (0 < B.length) = True := eq_true (by omega)
         (try rw [show ((0 : Int)).toNat = 0 from rfl] at F)
         (try rw [Addr.add_zero'] at F)
         replace F := cX HB F; replace ad := eq_true ad; replace ae := eq_true ae; have ai : 0 ≤ ((A.length : Int) : Int) := oT aO; have aj : (A.length : Int) < (B.length : Int) := oT aO; obtain ⟨ay, aB, O⟩ := Kd.at_int ac.out (A.length : Int) ai aj; have P := O; have he_ : R = ay := (by injection aB); subst he_; replace O := cX HB O
         (try simp only [Go.IntWalk.toNatUp] at O)
         replace ai := eq_true ai; replace aj := eq_true aj; refine start_ (n := 37) (S := fun w' => w'.cell? ⟨G, 0, none⟩ = some (.slice L E.length M) ∧ w'.cell? ⟨G, 1, none⟩ = some (.slice V A.length W) ∧ w'.cell? ⟨G, 2, none⟩ = some (.slice (some R) B.length Q) ∧ w'.cell? ⟨G, 3, none⟩ = some (.slice Y J.length Z) ∧ w'.cell? R = some (.int .i64 (rd B 0)) ∧ w'.cell? (R.add A.length) = some (.int .i64 (rd B (A.length : Int)))) (ds := []) (bl 37 0) (by kernel_rfl) rfl rfl ⟨(blk_cell z.out 0).trans rfl, (blk_cell z.out 1).trans rfl, (blk_cell z.out 2).trans rfl, (blk_cell z.out 3).trans rfl, ((HB.out.cell (World.block_lt_of_cell? w _ D)).trans D), ((HB.out.cell (World.block_lt_of_cell? w _ P)).trans P)⟩ (fun hHeld => ?_); refine with_tabW table_Check.tab2 table_Check.bits2 (fun HT_ HW_ => ?_); generalize w3.drew = cv at z HB F O hHeld ⊢; refine pu_ 0 9 (bl 37 1) HT_ ?_; refine pu_ 2 11 (bl 37 5) HT_ ?_; refine tk6_ 1 10 (bl 37 7) HT_ HW_ hHeld ?_; refine one_ (i := 3) (N := some 12) (bl 37 15) rfl rfl (one_of HT_.out (by kernel_rfl)) (by decide) (fun K hK => ?_); refine gS_ Try.func42 #[.slice L E.length M, .int .i64 (A.length : Int)] ?_
         with_reducible refine (table_tracks.calls k _ _ E (A.length : Int) true _ ?s1 ?s2 A5.out).mono ?_
         (case s1 => exact cB af HB)
         (case s2 => exact ag.out)
         rintro e cw ⟨rfl, hb⟩; refine ⟨_, rfl, ?_⟩; replace z := kB z hb; replace HB := hS1 HB I hb
         (try clear hb)
         (try clear aL)
         (try clear hk)
         (try clear hi)
         refine hK.out _ _ ⟨(blk_cell z.out 0).trans rfl, (blk_cell z.out 1).trans rfl, (blk_cell z.out 2).trans rfl, (blk_cell z.out 3).trans rfl, ((HB.out.cell (World.block_lt_of_cell? w _ D)).trans D), ((HB.out.cell (World.block_lt_of_cell? w _ P)).trans P)⟩ (fun hHeld => ?_); clear hK K; refine nm_ 12 ?_; refine pu_ 4 13 (bl 37 31) HT_ ?_; refine pu_ 5 14 (bl 37 63) HT_ ?_; refine pu_ 6 15 (bl 37 127) HT_ ?_; refine pu_ 9 18 (bl 37 639) HT_ ?_; refine pu_ 10 19 (bl 37 1663) HT_ ?_; refine tk6_ 7 16 (bl 37 1791) HT_ HW_ hHeld ?_; refine pu_ 8 17 (bl 37 2047) HT_ ?_; refine pu_ 11 20 (bl 37 4095) HT_ ?_; refine pu_ 12 21 (bl 37 8191) HT_ ?_; refine pu_ 13 22 (bl 37 16383) HT_ ?_; refine pu_ 14 23 (bl 37 32767) HT_ ?_; refine tk6_ 15 24 (bl 37 65535) HT_ HW_ hHeld ?_; refine pu_ 16 25 (bl 37 131071) HT_ ?_; refine tk6_ 17 26 (bl 37 262143) HT_ HW_ hHeld ?_; refine pu_ 18 27 (bl 37 524287) HT_ ?_; refine pu_ 19 28 (bl 37 1048575) HT_ ?_; refine pu_ 20 29 (bl 37 2097151) HT_ ?_; refine pu_ 21 30 (bl 37 4194303) HT_ ?_; refine pu_ 23 32 (bl 37 12582911) HT_ ?_; refine pu_ 26 35 (bl 37 79691775) HT_ ?_; refine tk6_ 22 31 (bl 37 83886079) HT_ HW_ hHeld ?_; refine pu_ 24 33 (bl 37 100663295) HT_ ?_; refine tk6_ 25 34 (bl 37 134217727) HT_ HW_ hHeld ?_; refine tk6_ 27 36 (bl 37 268435455) HT_ HW_ hHeld ?_; refine pu_ 28 37 (bl 37 536870911) HT_ ?_; refine pu_ 29 38 (bl 37 1073741823) HT_ ?_; refine pu_ 30 39 (bl 37 2147483647) HT_ ?_; refine pu_ 31 40 (bl 37 4294967295) HT_ ?_; refine pn_ 32 41 (bl 37 8589934591) HT_ ?_; refine pn_ 33 42 (bl 37 17179869183) HT_ ?_; refine pn_ 34 43 (bl 37 34359738367) HT_ ?_; refine pn_ 35 44 (bl 37 68719476735) HT_ ?_; refine pu_ 36 45 (bl 37 137438953471) HT_ ?_; refine done_ (done_of HT_.out (by kernel_rfl)) ?_
         try go_wp2
         go_meet
         case rel => exact ⟨_, (true), sI, H', ⟨by first | omega | exact Nat.le_refl _⟩, kQ z, bT1 HB I⟩
       ·exact nX az H
      ·exact nX aK H
     ·rw [if_neg c9] at H; obtain ⟨bh, bi⟩ := bn c9; have H' := aM H; clear H
      replace z := kD z; replace HB := aM (below_drew1 HB.out); have ad : 0 ≤ (0 : Int) := (by omega); have ae : 0 < (B.length : Int) := oT aO; obtain ⟨R, ao, F⟩ := Kd.at_int ac.out 0 ad ae; have D := F
      (try rw [show ((0 : Int)).toNat = 0 from rfl] at D)
      (try rw [show 0 * 1 = 0 from rfl] at D)
      (try rw [Addr.add_zero'] at D)
      cases ao; have qi174 : (0 < B.length) = True := eq_true (by omega)
      (try rw [show ((0 : Int)).toNat = 0 from rfl] at F)
      (try rw [Addr.add_zero'] at F)
      replace F := cX HB F; replace ad := eq_true ad; replace ae := eq_true ae; refine start_ (n := 37) (S := fun w' => w'.cell? ⟨G, 0, none⟩ = some (.slice L E.length M) ∧ w'.cell? ⟨G, 1, none⟩ = some (.slice V A.length W) ∧ w'.cell? ⟨G, 2, none⟩ = some (.slice (some R) B.length Q) ∧ w'.cell? ⟨G, 3, none⟩ = some (.slice Y J.length Z) ∧ w'.cell? R = some (.int .i64 (rd B 0))) (ds := []) (bl 37 0) (by kernel_rfl) rfl rfl ⟨(blk_cell z.out 0).trans rfl, (blk_cell z.out 1).trans rfl, (blk_cell z.out 2).trans rfl, (blk_cell z.out 3).trans rfl, ((HB.out.cell (World.block_lt_of_cell? w _ D)).trans D)⟩ (fun hHeld => ?_); refine with_tabW table_Check.tab2 table_Check.bits2 (fun HT_ HW_ => ?_); generalize w3.drew = cx at z HB F hHeld ⊢; refine pu_ 0 9 (bl 37 1) HT_ ?_; refine pu_ 2 11 (bl 37 5) HT_ ?_; refine tk5_ 1 10 (bl 37 7) HT_ HW_ hHeld ?_; refine one_ (i := 3) (N := some 12) (bl 37 15) rfl rfl (one_of HT_.out (by kernel_rfl)) (by decide) (fun K hK => ?_); refine gS_ Try.func42 #[.slice L E.length M, .int .i64 (A.length : Int)] ?_
      with_reducible refine (table_tracks.calls k _ _ E (A.length : Int) true _ ?s1 ?s2 A5.out).mono ?_
      (case s1 => exact cB af HB)
      (case s2 => exact ag.out)
      rintro e cy ⟨rfl, hb⟩; refine ⟨_, rfl, ?_⟩; replace z := kB z hb; replace HB := hS1 HB I hb
      (try clear hb)
      (try clear aL)
      (try clear hk)
      (try clear hi)
      refine hK.out _ _ ⟨(blk_cell z.out 0).trans rfl, (blk_cell z.out 1).trans rfl, (blk_cell z.out 2).trans rfl, (blk_cell z.out 3).trans rfl, ((HB.out.cell (World.block_lt_of_cell? w _ D)).trans D)⟩ (fun hHeld => ?_); clear hK K; refine nm_ 12 ?_; refine pu_ 4 13 (bl 37 31) HT_ ?_; refine pu_ 5 14 (bl 37 63) HT_ ?_; refine pu_ 6 15 (bl 37 127) HT_ ?_; refine pu_ 9 18 (bl 37 639) HT_ ?_; refine pu_ 10 19 (bl 37 1663) HT_ ?_; refine tk5_ 7 16 (bl 37 1791) HT_ HW_ hHeld ?_; refine pu_ 8 17 (bl 37 2047) HT_ ?_; refine pu_ 11 20 (bl 37 4095) HT_ ?_; refine pu_ 12 21 (bl 37 8191) HT_ ?_; refine pu_ 13 22 (bl 37 16383) HT_ ?_; refine pu_ 14 23 (bl 37 32767) HT_ ?_; refine tk5_ 15 24 (bl 37 65535) HT_ HW_ hHeld ?_; refine pu_ 16 25 (bl 37 131071) HT_ ?_; refine tk5_ 17 26 (bl 37 262143) HT_ HW_ hHeld ?_; refine pu_ 18 27 (bl 37 524287) HT_ ?_; refine pu_ 19 28 (bl 37 1048575) HT_ ?_; refine pu_ 20 29 (bl 37 2097151) HT_ ?_; refine pn_ 21 30 (bl 37 4194303) HT_ ?_; refine pn_ 22 31 (bl 37 8388607) HT_ ?_; refine pn_ 23 32 (bl 37 16777215) HT_ ?_; refine pn_ 24 33 (bl 37 33554431) HT_ ?_; refine pn_ 25 34 (bl 37 67108863) HT_ ?_; refine pn_ 26 35 (bl 37 134217727) HT_ ?_; refine pn_ 27 36 (bl 37 268435455) HT_ ?_; refine pn_ 28 37 (bl 37 536870911) HT_ ?_; refine pn_ 29 38 (bl 37 1073741823) HT_ ?_; refine pu_ 30 39 (bl 37 2147483647) HT_ ?_; refine pu_ 31 40 (bl 37 4294967295) HT_ ?_; refine pn_ 32 41 (bl 37 8589934591) HT_ ?_; refine pn_ 33 42 (bl 37 17179869183) HT_ ?_; refine pn_ 34 43 (bl 37 34359738367) HT_ ?_; refine pn_ 35 44 (bl 37 68719476735) HT_ ?_; refine pu_ 36 45 (bl 37 137438953471) HT_ ?_; refine done_ (done_of HT_.out (by kernel_rfl)) ?_
      try go_wp2
      go_meet
      case rel => exact ⟨_, (true), sI, H', ⟨by first | omega | exact Nat.le_refl _⟩, kQ z, bT1 HB I⟩
    ·exact nX c8 H
   ·rw [if_neg c7] at H; obtain ⟨an, bg⟩ := bn c7
    (first | rw [an] | (simp only [i64_w, i32_w]; rw [an]) | skip)
    have H' := aM H; clear H
    replace z := kD z; replace HB := aM (below_drew1 HB.out); refine start_ (n := 37) (S := fun w' => w'.cell? ⟨G, 0, none⟩ = some (.slice L E.length M) ∧ w'.cell? ⟨G, 1, none⟩ = some (.slice V A.length W) ∧ w'.cell? ⟨G, 2, none⟩ = some (.slice ab B.length Q) ∧ w'.cell? ⟨G, 3, none⟩ = some (.slice Y J.length Z)) (ds := []) (bl 37 0) (by kernel_rfl) rfl rfl (bD4 z) (fun hHeld => ?_); refine with_tabW table_Check.tab2 table_Check.bits2 (fun HT_ HW_ => ?_); generalize w3.drew = cz at z HB hHeld ⊢; refine pu_ 0 9 (bl 37 1) HT_ ?_; refine pu_ 2 11 (bl 37 5) HT_ ?_; refine tk4_ 1 10 (bl 37 7) HT_ HW_ hHeld ?_; refine one_ (i := 3) (N := some 12) (bl 37 15) rfl rfl (one_of HT_.out (by kernel_rfl)) (by decide) (fun K hK => ?_); refine gS_ Try.func42 #[.slice L E.length M, .int .i64 (A.length : Int)] ?_
    with_reducible refine (table_tracks.calls k _ _ E (A.length : Int) true _ ?s1 ?s2 A5.out).mono ?_
    (case s1 => exact cB af HB)
    (case s2 => exact ag.out)
    rintro e cA ⟨rfl, hb⟩; refine ⟨_, rfl, ?_⟩; replace z := kB z hb; replace HB := hS1 HB I hb
    (try clear hb)
    (try clear aL)
    (try clear hk)
    (try clear hi)
    refine hK.out _ _ (bD4 z) (fun hHeld => ?_); clear hK K; refine nm_ 12 ?_; refine pu_ 4 13 (bl 37 31) HT_ ?_; refine pu_ 5 14 (bl 37 63) HT_ ?_; refine pu_ 6 15 (bl 37 127) HT_ ?_; refine pu_ 9 18 (bl 37 639) HT_ ?_; refine pu_ 10 19 (bl 37 1663) HT_ ?_; refine tk4_ 7 16 (bl 37 1791) HT_ HW_ hHeld ?_; refine pu_ 8 17 (bl 37 2047) HT_ ?_; refine pu_ 11 20 (bl 37 4095) HT_ ?_; refine pu_ 12 21 (bl 37 8191) HT_ ?_; refine pu_ 13 22 (bl 37 16383) HT_ ?_; refine pn_ 14 23 (bl 37 32767) HT_ ?_; refine pn_ 15 24 (bl 37 65535) HT_ ?_; refine pn_ 16 25 (bl 37 131071) HT_ ?_; refine pn_ 17 26 (bl 37 262143) HT_ ?_; refine pn_ 18 27 (bl 37 524287) HT_ ?_; refine pu_ 19 28 (bl 37 1048575) HT_ ?_; refine pu_ 20 29 (bl 37 2097151) HT_ ?_; refine pn_ 21 30 (bl 37 4194303) HT_ ?_; refine pn_ 22 31 (bl 37 8388607) HT_ ?_; refine pn_ 23 32 (bl 37 16777215) HT_ ?_; refine pn_ 24 33 (bl 37 33554431) HT_ ?_; refine pn_ 25 34 (bl 37 67108863) HT_ ?_; refine pn_ 26 35 (bl 37 134217727) HT_ ?_; refine pn_ 27 36 (bl 37 268435455) HT_ ?_; refine pn_ 28 37 (bl 37 536870911) HT_ ?_; refine pn_ 29 38 (bl 37 1073741823) HT_ ?_; refine pu_ 30 39 (bl 37 2147483647) HT_ ?_; refine pu_ 31 40 (bl 37 4294967295) HT_ ?_; refine pn_ 32 41 (bl 37 8589934591) HT_ ?_; refine pn_ 33 42 (bl 37 17179869183) HT_ ?_; refine pn_ 34 43 (bl 37 34359738367) HT_ ?_; refine pn_ 35 44 (bl 37 68719476735) HT_ ?_; refine pu_ 36 45 (bl 37 137438953471) HT_ ?_; refine done_ (done_of HT_.out (by kernel_rfl)) ?_
    try go_wp2
    go_meet
    case rel => exact ⟨_, (true), sI, H', ⟨by first | omega | exact Nat.le_refl _⟩, kQ z, bT1 HB I⟩
  ·replace c6 := Bool.eq_false_iff.mpr c6; subst c6
   rw [if_neg nF] at H; have H' := aM H; clear H
   replace z := kD z; replace HB := aM (below_drew1 HB.out); refine start_ (n := 37) (S := fun w' => w'.cell? ⟨G, 0, none⟩ = some (.slice L E.length M) ∧ w'.cell? ⟨G, 1, none⟩ = some (.slice V A.length W) ∧ w'.cell? ⟨G, 2, none⟩ = some (.slice ab B.length Q) ∧ w'.cell? ⟨G, 3, none⟩ = some (.slice Y J.length Z)) (ds := []) (bl 37 0) (by kernel_rfl) rfl rfl (bD4 z) (fun hHeld => ?_); refine with_tabW table_Check.tab2 table_Check.bits2 (fun HT_ HW_ => ?_); generalize w3.drew = cC at z HB hHeld ⊢; refine pu_ 0 9 (bl 37 1) HT_ ?_; refine pu_ 2 11 (bl 37 5) HT_ ?_; refine tk4_ 1 10 (bl 37 7) HT_ HW_ hHeld ?_; refine one_ (i := 3) (N := some 12) (bl 37 15) rfl rfl (one_of HT_.out (by kernel_rfl)) (by decide) (fun K hK => ?_); refine gS_ Try.func42 #[.slice L E.length M, .int .i64 (A.length : Int)] ?_
   with_reducible refine (table_tracks.calls k _ _ E (A.length : Int) false _ ?s1 ?s2 A5.out).mono ?_
   (case s1 => exact cB af HB)
   (case s2 => exact ag.out)
   rintro e cD ⟨rfl, hb⟩; refine ⟨_, rfl, ?_⟩; replace z := kB z hb; replace HB := hS1 HB I hb
   (try clear hb)
   (try clear aL)
   (try clear hk)
   (try clear hi)
   refine hK.out _ _ (bD4 z) (fun hHeld => ?_); clear hK K; refine nm_ 12 ?_; refine pu_ 4 13 (bl 37 31) HT_ ?_; refine pu_ 5 14 (bl 37 63) HT_ ?_; refine pn_ 6 15 (bl 37 127) HT_ ?_; refine pn_ 7 16 (bl 37 255) HT_ ?_; refine pn_ 8 17 (bl 37 511) HT_ ?_; refine pn_ 9 18 (bl 37 1023) HT_ ?_; refine pn_ 10 19 (bl 37 2047) HT_ ?_; refine pn_ 11 20 (bl 37 4095) HT_ ?_; refine pu_ 12 21 (bl 37 8191) HT_ ?_; refine pu_ 13 22 (bl 37 16383) HT_ ?_; refine pn_ 14 23 (bl 37 32767) HT_ ?_; refine pn_ 15 24 (bl 37 65535) HT_ ?_; refine pn_ 16 25 (bl 37 131071) HT_ ?_; refine pn_ 17 26 (bl 37 262143) HT_ ?_; refine pn_ 18 27 (bl 37 524287) HT_ ?_; refine pu_ 19 28 (bl 37 1048575) HT_ ?_; refine pu_ 20 29 (bl 37 2097151) HT_ ?_; refine pn_ 21 30 (bl 37 4194303) HT_ ?_; refine pn_ 22 31 (bl 37 8388607) HT_ ?_; refine pn_ 23 32 (bl 37 16777215) HT_ ?_; refine pn_ 24 33 (bl 37 33554431) HT_ ?_; refine pn_ 25 34 (bl 37 67108863) HT_ ?_; refine pn_ 26 35 (bl 37 134217727) HT_ ?_; refine pn_ 27 36 (bl 37 268435455) HT_ ?_; refine pn_ 28 37 (bl 37 536870911) HT_ ?_; refine pn_ 29 38 (bl 37 1073741823) HT_ ?_; refine pu_ 30 39 (bl 37 2147483647) HT_ ?_; refine pu_ 31 40 (bl 37 4294967295) HT_ ?_; refine pn_ 32 41 (bl 37 8589934591) HT_ ?_; refine pn_ 33 42 (bl 37 17179869183) HT_ ?_; refine pn_ 34 43 (bl 37 34359738367) HT_ ?_; refine pn_ 35 44 (bl 37 68719476735) HT_ ?_; refine pu_ 36 45 (bl 37 137438953471) HT_ ?_; refine done_ (done_of HT_.out (by kernel_rfl)) ?_
   try go_wp2
   go_meet
   case rel => exact ⟨_, (true), sI, H', ⟨by first | omega | exact Nat.le_refl _⟩, kQ z, bT1 HB I⟩
 case rest =>
  clear aQ
  obtain ⟨kq, am, rfl, HA, HJ1, z, HB⟩ := hcut; cases kq with
  | zero => exact absurd HA.out (by simp [table_Check.j0])
  | succ bd =>
   have H := HA.out; clear HA; simp only [table_Check.j0] at H
   by_cases aN : am = true
   ·subst aN
    rw [if_pos rfl] at H; obtain rfl := Option.some.inj H
    go_wp2
    go_ret
    exact ⟨eW, bS1 HB.out I.out⟩
   ·replace aN := Bool.eq_false_iff.mpr aN; subst aN
    rw [if_neg nF] at H; have H' := aM H; clear H
    go_wp2
    go_loopg [47] bd (fun kq cf w' => ∃ (aa : Int), cf = .int .i64 aa ∧ Aside0 (table_Check.l0 kq (A.length : Int) (A.length : Int) aa E A B J = some r) ∧ Aside0 (kq ≤ bd) ∧ Aside0 (w'.heap[G]? = some (.cells #[(.slice L E.length M), (.slice V A.length W), (.slice ab B.length Q), (.slice Y J.length Z)] 27 (0, 0))) ∧ BA w w')
    case atStart => exact ⟨(0), sI, H', ⟨Nat.le_refl _⟩, kQ z, bT1 HB I⟩
    case round =>
     clear H'
     obtain ⟨aa, rfl, HA, HK2, z, HB⟩ := hrel; cases gk with
     | zero => exact absurd HA.out (by simp [table_Check.l0])
     | succ k2 =>
      have H := HA.out; clear HA; simp only [table_Check.l0] at H
      by_cases ap : aa < (A.length : Int)
      ·rw [if_pos ap] at H; have a9 := dT ap; clear ap; replace H := Option.bind_eq_some_iff.mp H; obtain ⟨ah, aX, H⟩ := H; have aY := aM aX; clear aX
       by_cases aq : (ah.length : Int) > 32
       ·rw [if_pos aq] at H; have ba := dT aq; have bb : decide (32 < ah.length) = true := dT (by omega); clear aq; obtain rfl := Option.some.inj H; obtain ⟨bp, br, bs, bt, bu, bv, bw, bx⟩ := bG4 z
        go_wp2_with (first | ((with_reducible refine gate_callee (f := 44) rfl ?_); refine gL_ (some 52) Try.func44 #[.agg #[.slice L E.length M, .slice V A.length W, .slice ab B.length Q, .slice Y J.length Z], .int .i64 aa] ?_; (with_reducible refine (table_rowOf.calls _ _ E _ _ A _ _ B (fun k_ => k_ < w.heap.size) _ _ J aa ah _ ?s1 ag.out ?s3 au.out ?s5 al.out ?s7 aY.out).mono ?_); (case s1 => exact cB af HB); (case s3 => exact cB ar HB); (case s5 => exact cB ac HB); (case s7 => exact Kd.V_mk aw.out (Kd.F_below (Kd.C_F k73_heap av.out) (bP1 HB I))); rintro e cE ⟨aZ, rfl, ak, hb⟩; refine ⟨_, rfl, ?_⟩; have U := aM (Kd.V_lower (Kd.V_mono (ok' := fun k_ => k_ ≠ G) ak (fun k_ hk_ => Or.elim hk_ (fun hs_ => fun e_ => Nat.not_le.2 hs_ (by rw [e_]; exact ax.out)) (fun hn_ => (Kd.freshB (g := G) (o := .cells #[.slice L E.length M, .slice V A.length W, .slice ab B.length Q, .slice Y J.length Z] 27 (0, 0)) (kO z.out) k_ hn_)))) (below_size (bP1 HB I))); replace z := kB z hb; replace HB := hS1 HB I hb; (try clear hb); (try clear ak); obtain ⟨cm, cn, bj⟩ := Kd.V_slice U.out; subst bj))
        go_ret
        exact ⟨eW, bS1 HB.out I.out⟩
       ·rw [if_neg aq] at H; have ba := decide_eq_false aq; have bb : decide (32 < ah.length) = false := decide_eq_false (by omega); clear aq; replace H := Option.bind_eq_some_iff.mp H; obtain ⟨bk, a4, H⟩ := H; have be := aM a4; clear a4
        by_cases aP : bk = true
        ·subst aP
         rw [if_pos rfl] at H; have H' := aM H; clear H; obtain ⟨bz, bA, bB, bC, bD, bE, bF, bG⟩ := bG4 z
         go_wp2_with (first | ((with_reducible refine gate_callee (f := 44) rfl ?_); refine gL_ (some 52) Try.func44 #[.agg #[.slice L E.length M, .slice V A.length W, .slice ab B.length Q, .slice Y J.length Z], .int .i64 aa] ?_; (with_reducible refine (table_rowOf.calls _ _ E _ _ A _ _ B (fun k_ => k_ < w.heap.size) _ _ J aa ah _ ?s1 ag.out ?s3 au.out ?s5 al.out ?s7 aY.out).mono ?_); (case s1 => exact cB af HB); (case s3 => exact cB ar HB); (case s5 => exact cB ac HB); (case s7 => exact Kd.V_mk aw.out (Kd.F_below (Kd.C_F k73_heap av.out) (bP1 HB I))); rintro e cF ⟨aZ, rfl, ak, hb⟩; refine ⟨_, rfl, ?_⟩; have U := aM (Kd.V_lower (Kd.V_mono (ok' := fun k_ => k_ ≠ G) ak (fun k_ hk_ => Or.elim hk_ (fun hs_ => fun e_ => Nat.not_le.2 hs_ (by rw [e_]; exact ax.out)) (fun hn_ => (Kd.freshB (g := G) (o := .cells #[.slice L E.length M, .slice V A.length W, .slice ab B.length Q, .slice Y J.length Z] 27 (0, 0)) (kO z.out) k_ hn_)))) (below_size (bP1 HB I))); replace z := kB z hb; replace HB := hS1 HB I hb; (try clear hb); (try clear ak); obtain ⟨co, cp, bm⟩ := Kd.V_slice U.out; subst bm; obtain ⟨bH, bI, bJ, bK, bL, bM, bN, bO⟩ := bG4 z) | (go_at_call 45; (with_reducible refine (row_Right.calls k2 _ _ ah (E.length : Int) (A.length : Int) true _ ?s1 ?s2 be.out).mono ?_); (case s1 => exact cO (Kd.V_reads' U.out).2.2); (case s2 => exact (Kd.V_reads' U.out).2.1); rintro e cG ⟨rfl, hb⟩; replace U := aM (Kd.V_below (vO U.out) hb); replace z := kB z hb; replace HB := hS1 HB I hb; (try clear hb)))
         go_roundg k2
         case measure => have := HJ1.out; have := HK2.out; omega
         case rel => exact ⟨(wrap64 (aa + 1)), sI, H', ⟨by have := HJ1.out; have := HK2.out; omega⟩, kQ z, bT1 HB I⟩
        ·replace aP := Bool.eq_false_iff.mpr aP; subst aP
         rw [if_neg nF] at H; obtain rfl := Option.some.inj H; obtain ⟨bP, bQ, bR, bS, bT, bU, bV, bW⟩ := bG4 z
         go_wp2_with (first | ((with_reducible refine gate_callee (f := 44) rfl ?_); refine gL_ (some 52) Try.func44 #[.agg #[.slice L E.length M, .slice V A.length W, .slice ab B.length Q, .slice Y J.length Z], .int .i64 aa] ?_; (with_reducible refine (table_rowOf.calls _ _ E _ _ A _ _ B (fun k_ => k_ < w.heap.size) _ _ J aa ah _ ?s1 ag.out ?s3 au.out ?s5 al.out ?s7 aY.out).mono ?_); (case s1 => exact cB af HB); (case s3 => exact cB ar HB); (case s5 => exact cB ac HB); (case s7 => exact Kd.V_mk aw.out (Kd.F_below (Kd.C_F k73_heap av.out) (bP1 HB I))); rintro e cH ⟨aZ, rfl, ak, hb⟩; refine ⟨_, rfl, ?_⟩; have U := aM (Kd.V_lower (Kd.V_mono (ok' := fun k_ => k_ ≠ G) ak (fun k_ hk_ => Or.elim hk_ (fun hs_ => fun e_ => Nat.not_le.2 hs_ (by rw [e_]; exact ax.out)) (fun hn_ => (Kd.freshB (g := G) (o := .cells #[.slice L E.length M, .slice V A.length W, .slice ab B.length Q, .slice Y J.length Z] 27 (0, 0)) (kO z.out) k_ hn_)))) (below_size (bP1 HB I))); replace z := kB z hb; replace HB := hS1 HB I hb; (try clear hb); (try clear ak); obtain ⟨cq, cr, bo⟩ := Kd.V_slice U.out; subst bo; obtain ⟨bX, bY, bZ, b0, b1, b2, b3, b4⟩ := bG4 z) | (go_at_call 45; (with_reducible refine (row_Right.calls k2 _ _ ah (E.length : Int) (A.length : Int) false _ ?s1 ?s2 be.out).mono ?_); (case s1 => exact cO (Kd.V_reads' U.out).2.2); (case s2 => exact (Kd.V_reads' U.out).2.1); rintro e cI ⟨rfl, hb⟩; replace U := aM (Kd.V_below (vO U.out) hb); replace z := kB z hb; replace HB := hS1 HB I hb; (try clear hb)))
         go_ret
         exact ⟨eW, bS1 HB.out I.out⟩
      ·rw [if_neg ap] at H; have a9 := decide_eq_false ap; clear ap; obtain rfl := Option.some.inj H
       go_wp2
       go_ret
       exact ⟨eW, bS1 HB.out I.out⟩

end Go.Proofs.Ytninoenmhcbonaa.X
namespace Go.Proofs.Ytninoenmhcbonaa.X
open Go.RowKit Go.Proofs.YtninoenmhcbonaaW.PrintWords Go.Proofs.YtninoenmhcbonaaW.PrintLast Go.Proofs.YtninoenmhcbonaaW.PrintMore
attribute [local go_sem] max2_int min2_int max_two min_two max_three min_three max_four min_four
set_option linter.unusedVariables false
set_option linter.unusedSimpArgs false
set_option maxHeartbeats 8000000
set_option maxRecDepth 100000

/-! ### slices_Clone_string_string: function 58 -/
def slices_Clone_string_string.f (l0 : List (ByteArray)) : Option (List (ByteArray)) := if l0.length < 8796093022208 then some l0 else none
theorem slices_Clone_string_string.calls (J : Option Addr) (L : Nat) (z : List (ByteArray)) (r : List (ByteArray)) (w : World) (A : Kd.C Kd.string w J z.length z) (V : z.length ≤ L) (h : slices_Clone_string_string.f z = some r) :
  Calls Try.prog 58 #[.slice J z.length L] w fun e w' => ∃ B : Value, e = .returned (B) ∧ Kd.R Kd.string 9 w' w.heap.size (fun _ => True) B r ∧ Below w.heap.size w w' := by
 have HB := aM (Below.refl w.heap.size w)
 have hlim : z.length < 8796093022208 ∧ z = r := by
  unfold slices_Clone_string_string.f at h
  by_cases hc : z.length < 8796093022208
  ·rw [if_pos hc] at h; exact ⟨hc, Option.some.inj h⟩
  ·rw [if_neg hc] at h; cases h
 obtain ⟨hlim, rfl⟩ := hlim; have HL := aM hlim; have D := aM A; clear A hlim h; cases J with
 | none =>
  have M : z.length = 0 := by
   rcases Nat.eq_zero_or_pos z.length with h | h
   ·exact h
   ·obtain ⟨ad, Q, _⟩ := D.out.2.2 h; cases Q
  obtain rfl := List.eq_nil_of_length_eq_zero M; clear M
  have hn := fun (W : World) (n c : Nat) => Lib.run_eql_slice_nil (P := Try.prog) W 22 9 none n c 0 0 Try.underlying22
  go_enter Try.func58, Try.ntmps58
  go_wp2
  go_ret
  exact ⟨_, rfl, Kd.R_nil _ _ _ _ _, HB.out⟩
 | some ad =>
  have hn := fun (W : World) (n c : Nat) => Lib.run_eql_slice_nil (P := Try.prog) W 22 9 (some ad) n c 0 0 Try.underlying22
  go_enter Try.func58, Try.ntmps58
  go_wp2_with (first
   | ((with_reducible refine gate_dst (N := 5) rfl ?_); refine Kd.R_lit Kd.string _ 9 ?hg (N := 5) ?hd (xs := ([] : List (ByteArray))) (inner := []) (ok := fun _ => True) (okp := fun _ => True) ?hr ?hp (fun _ hk => hk) trivial (Below.refl _ _) (Nat.le_refl _) (by simp) ?_; (case hd => rfl); (case hg => rfl); (case hr => first | (go_simp; done) | (go_simp; rfl)); (case hp => exact (Reps.none _ _)); intro U Y E hb hg_ hnew_; clear hg_ hnew_; have F := aM (Kd.R_lower E (below_size HB.out)); replace HB := aM (below_step HB.out hb); clear hb E)
   | ((with_reducible refine gate_builtin (b := .append) (xs := #[.tmp 5, .tmp 6]) rfl ?_); at_builtin; refine Kd.R_append_rows Kd.string (w0 := w) w.heap.size rfl (.tmp 5) (.tmp 6) 22 9 (.string ⟨#[]⟩) 16 rfl Try.underlying22 info9 rfl (by decide) (by omega) U [] z _ _ _ (fun _ => True) (fun _ => False) rfl rfl ?aO ?aR (fun _ _ h => h) (fun _ h => h.elim) ?aF ?aB ?aS ?aL ?_; (case aR => exact (Kd.C_below D.out HB.out)); (case aB => exact HB.out); (case aF => exact (fun _ _ => trivial)); (case aO => exact F.out); (case aS => exact (below_size HB.out)); (case aL => have := HL.out; simp only [List.length_nil]; omega); intro Z w2 ho hb hg hat; have G := aM (hb); have I := aM (ho); clear HB F; have HB := G; have O := I; clear G I; clear ho hb hg hat))
  go_ret
  exact ⟨_, rfl, O.out, HB.out⟩

/-! ### slices_Clone_bool_bool: function 59 -/
def slices_Clone_bool_bool.f (l0 : List (Bool)) : Option (List (Bool)) := if l0.length < 140737488355328 then some l0 else none
theorem slices_Clone_bool_bool.calls (J : Option Addr) (L : Nat) (z : List (Bool)) (r : List (Bool)) (w : World) (A : Kd.C Kd.bool w J z.length z) (V : z.length ≤ L) (h : slices_Clone_bool_bool.f z = some r) :
  Calls Try.prog 59 #[.slice J z.length L] w fun e w' => ∃ B : Value, e = .returned (B) ∧ Kd.R Kd.bool 4 w' w.heap.size (fun _ => True) B r ∧ Below w.heap.size w w' := by
 have HB := aM (Below.refl w.heap.size w)
 have hlim : z.length < 140737488355328 ∧ z = r := by
  unfold slices_Clone_bool_bool.f at h
  by_cases hc : z.length < 140737488355328
  ·rw [if_pos hc] at h; exact ⟨hc, Option.some.inj h⟩
  ·rw [if_neg hc] at h; cases h
 obtain ⟨hlim, rfl⟩ := hlim; have HL := aM hlim; have D := aM A; clear A hlim h; cases J with
 | none =>
  have M : z.length = 0 := by
   rcases Nat.eq_zero_or_pos z.length with h | h
   ·exact h
   ·obtain ⟨ad, Q, _⟩ := D.out.2.2 h; cases Q
  obtain rfl := List.eq_nil_of_length_eq_zero M; clear M
  have hn := fun (W : World) (n c : Nat) => Lib.run_eql_slice_nil (P := Try.prog) W 23 4 none n c 0 0 Try.underlying23
  go_enter Try.func59, Try.ntmps59
  go_wp2
  go_ret
  exact ⟨_, rfl, Kd.R_nil _ _ _ _ _, HB.out⟩
 | some ad =>
  have hn := fun (W : World) (n c : Nat) => Lib.run_eql_slice_nil (P := Try.prog) W 23 4 (some ad) n c 0 0 Try.underlying23
  go_enter Try.func59, Try.ntmps59
  go_wp2_with (first
   | ((with_reducible refine gate_dst (N := 5) rfl ?_); refine Kd.R_lit Kd.bool _ 4 ?hg (N := 5) ?hd (xs := ([] : List (Bool))) (inner := []) (ok := fun _ => True) (okp := fun _ => True) ?hr ?hp (fun _ hk => hk) trivial (Below.refl _ _) (Nat.le_refl _) (by simp) ?_; (case hd => rfl); (case hg => rfl); (case hr => first | (go_simp; done) | (go_simp; rfl)); (case hp => exact (Reps.none _ _)); intro U Y E hb hg_ hnew_; clear hg_ hnew_; have F := aM (Kd.R_lower E (below_size HB.out)); replace HB := aM (below_step HB.out hb); clear hb E)
   | ((with_reducible refine gate_builtin (b := .append) (xs := #[.tmp 5, .tmp 6]) rfl ?_); at_builtin; refine Kd.R_append_rows Kd.bool (w0 := w) w.heap.size rfl (.tmp 5) (.tmp 6) 23 4 (.bool false) 1 rfl Try.underlying23 info4 rfl (by decide) (by omega) U [] z _ _ _ (fun _ => True) (fun _ => False) rfl rfl ?aO ?aR (fun _ _ h => h) (fun _ h => h.elim) ?aF ?aB ?aS ?aL ?_; (case aR => exact (Kd.C_below D.out HB.out)); (case aB => exact HB.out); (case aF => exact (fun _ _ => trivial)); (case aO => exact F.out); (case aS => exact (below_size HB.out)); (case aL => have := HL.out; simp only [List.length_nil]; omega); intro Z w2 ho hb hg hat; have G := aM (hb); have I := aM (ho); clear HB F; have HB := G; have O := I; clear G I; clear ho hb hg hat))
  go_ret
  exact ⟨_, rfl, O.out, HB.out⟩

end Go.Proofs.Ytninoenmhcbonaa.X

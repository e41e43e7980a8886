/- What the functions of this seat compute, and that the program's calls come to just that: written by this session's own program out of the translation; no condition. -/
import Derived.Test.YthgoonohpfoagaaX0
import Derived.Test.YthgoonohpfoagaaX37
namespace Go.Proofs.Ythgoonohpfoagaa.X
open Go.RowKit Go.Proofs.YthgoonohpfoagaaW.PrintWords Go.Proofs.YthgoonohpfoagaaW.PrintLast Go.Proofs.YthgoonohpfoagaaW.PrintMore
attribute [local go_sem] max2_int min2_int max_two min_two max_three min_three max_four min_four
set_option linter.unusedVariables false
set_option linter.unusedSimpArgs false
set_option maxHeartbeats 8000000
set_option maxRecDepth 100000

/-! ### canon_classes: function 62 -/
mutual
def canon_classes.l0 : Nat → List Int → List Bool → Int → Int → List ByteArray → List Bool → List (List Int) → Option (List Int)
 | 0, _, _, _, _, _, _, _ => none
 | k + 1, x3, x14, x15, x16, x263000, x263001, x263002 => if x16 < x15 then (if 0 ≤ x16 then (if x16 < (x14.length : Int) then (if rdOf false x14 x16 = true then (if x16 < (x3.length : Int) then (canon_classes.l0 k (x3.set (x16 : Int).toNat 1) x14 x15 (wrap64 (x16 + 1)) x263000 x263001 x263002) else (none)) else (canon_classes.l0 k x3 x14 x15 (wrap64 (x16 + 1)) x263000 x263001 x263002)) else (none)) else (none)) else (canon_classes.l1 k x3 0 x263000 x263001 x263002)
def canon_classes.l1 : Nat → List Int → Int → List ByteArray → List Bool → List (List Int) → Option (List Int)
 | 0, _, _, _, _, _ => none
 | k + 1, x3, x6, x263000, x263001, x263002 => (canon_split.f x263000 x263001 x263002 x3).bind fun bt268 => (if bt268.2 = x6 then (some bt268.1) else (canon_classes.l1 k bt268.1 bt268.2 x263000 x263001 x263002))
end
def canon_classes.f (k : Nat) (l0_0 : List ByteArray) (l0_1 : List Bool) (l0_2 : List (List Int)) : Option (List Int) := if 0 ≤ (l0_1.length : Int) then (if ((l0_1.length : Int) : Int).toNat ≤ 35184372088832 then (canon_classes.l0 k (List.replicate ((l0_1.length : Int) : Int).toNat 0) l0_1 (l0_1.length : Int) 0 l0_0 l0_1 l0_2) else (none)) else (none)
theorem canon_classes.mono_l : ∀ k, (∀ y0 y1 y2 y3 y4 y5 y6, LeO (canon_classes.l0 k y0 y1 y2 y3 y4 y5 y6) (canon_classes.l0 (k + 1) y0 y1 y2 y3 y4 y5 y6)) ∧ (∀ y0 y1 y2 y3 y4, LeO (canon_classes.l1 k y0 y1 y2 y3 y4) (canon_classes.l1 (k + 1) y0 y1 y2 y3 y4))
 | 0 => ⟨fun _ _ _ _ _ _ _ r h => by simp [canon_classes.l0] at h, fun _ _ _ _ _ r h => by simp [canon_classes.l1] at h⟩
 | k + 1 => by
  obtain ⟨ih0, ih1⟩ := canon_classes.mono_l k; refine ⟨?_, ?_⟩
  ·intro y0 y1 y2 y3 y4 y5 y6
   unfold canon_classes.l0
   repeat' first | (with_reducible first | exact ih0 _ _ _ _ _ _ _ | exact ih1 _ _ _ _ _ | exact lA | apply lI | refine lB ?_ fun _ => ?_) | exact lN _ | apply lI | refine lB ?_ fun _ => ?_
  ·intro y0 y1 y2 y3 y4
   unfold canon_classes.l1
   repeat' first | (with_reducible first | exact ih0 _ _ _ _ _ _ _ | exact ih1 _ _ _ _ _ | exact lA | apply lI | refine lB ?_ fun _ => ?_) | exact lN _ | apply lI | refine lB ?_ fun _ => ?_
theorem canon_classes.mono : ∀ a0 a1 a2 k, LeO (canon_classes.f k a0 a1 a2) (canon_classes.f (k + 1) a0 a1 a2) := by
 intro a0 a1 a2 k; obtain ⟨ih0, ih1⟩ := canon_classes.mono_l k
 unfold canon_classes.f
 repeat' first | (with_reducible first | exact ih0 _ _ _ _ _ _ _ | exact ih1 _ _ _ _ _ | exact lA | apply lI | refine lB ?_ fun _ => ?_) | exact lN _ | apply lI | refine lB ?_ fun _ => ?_
theorem canon_classes.calls (k : Nat) (L : Option Addr) (M : Nat) (F : List ByteArray) (O : Option Addr) (P : Nat) (A : List Bool) (Q : Option Addr) (U : Nat) (G : List (List Int)) (r : List Int) (w : World) (ak : Kd.C Kd.string w L F.length F) (al : F.length ≤ M) (am : Kd.C Kd.bool w O A.length A) (an : A.length ≤ P) (ao : Kd.C (Kd.slice 3 (Kd.int .i64)) w Q G.length G) (ap : G.length ≤ U) (h : canon_classes.f k F A G = some r) :
  Calls Try.prog 62 #[.agg #[.slice L F.length M, .slice O A.length P, .slice Q G.length U]] w fun e w' => ∃ aV : Value, e = .returned (aV) ∧ Kd.R (Kd.int .i64) 3 w' w.heap.size (fun _ => True) aV r ∧ Below w.heap.size w w' := by
 have hu31 := Try.underlying31; have aq := aM ak; have ar := aM al; clear ak al; have aa := aM am; have au := aM an; clear am an; have av := aM ao; have aw := aM ap; clear ao ap; have HB := aM (Below.refl w.heap.size w); rw [canon_classes.f] at h; have H := h; clear h
 by_cases c2 : 0 ≤ (A.length : Int)
 ·rw [if_pos c2] at H; have bJ := eq_true c2; have bK := dT c2; clear c2
  by_cases c3 : ((A.length : Int) : Int).toNat ≤ 35184372088832
  ·rw [if_pos c3] at H; have bL := eq_true c3; have bM := dT c3; clear c3; obtain ⟨aX, ab⟩ : ∃ y_ : List Int, y_ = (List.replicate ((A.length : Int) : Int).toNat 0) := ⟨_, rfl⟩
   first | replace H := rI ab H | rw [← ab] at H
   have aP := aM ab; clear ab; have H' := aM H; clear H
   go_enter Try.func62, Try.ntmps62
   go_wp2_with (first | ((with_reducible refine gate_dst (N := 1) rfl ?_); refine be_ (cs := #[.slice L F.length M, .slice O A.length P, .slice Q G.length U]) (t := 31) ?_; intro ax hg w4 hbox hb; have B := aM (hbox); have bF := gE hg (bP0 HB); have E := gE hg (bP0 HB); replace HB := hS0 HB hb; clear hb hbox hg; obtain ⟨bp, br, bs, bt, bu, bv⟩ := bG3 B) | ((with_reducible refine gate_dst (N := 12) rfl ?_); refine Kd.R_make (Kd.int .i64) _ 3 rfl (N := 12) rfl 42 _ _ rfl (A.length : Int) rfl rfl Try.underlying42 (.int .i64 0) 8 info3 rfl (by decide) (by omega) 0 (ok := fun _ => True) (okp := fun _ => True) rfl (fun _ hk => hk) trivial (oT aO) (Nat.le_trans (Nat.mul_le_mul_right _ (oT aO : (A.length : Int).toNat ≤ 35184372088832)) (by omega)) (Below.refl _ _) (Nat.le_refl _) ?_; intro aY w6 ay hb hg_ hnew_; clear hg_ hnew_; replace ay := nW aP ay; have aQ := rW ay (bP1 HB E); replace B := kB B hb; replace HB := hS1 HB E hb; clear hb ay; obtain ⟨bw, bx, bz, bA, bB, bC⟩ := bG3 B))
   go_loopg [16] k (fun kq bD w' => ∃ (J : List Int) (z : Int), bD = .int .i64 z ∧ Aside0 (canon_classes.l0 kq J A (A.length : Int) z F A G = some r) ∧ Aside0 (kq ≤ k) ∧ RA (Kd.int .i64) 3 w' w aY J ∧ Aside0 (w'.heap[ax]? = some (.cells #[(.slice L F.length M), (.slice O A.length P), (.slice Q G.length U)] 31 (0, 0))) ∧ BA w w')
   case atStart => exact ⟨(aX), (0), sI, H', ⟨Nat.le_refl _⟩, rQ aQ, kQ B, bT1 HB E⟩
   case round =>
    clear H'
    obtain ⟨J, z, rfl, HA, HK1, D, B, HB⟩ := hrel; cases gk with
    | zero => exact absurd HA.out (by simp [canon_classes.l0])
    | succ k1 =>
     have H := HA.out; clear HA; simp only [canon_classes.l0] at H
     by_cases c9 : z < (A.length : Int)
     ·rw [if_pos c9] at H; have aZ := dT c9; clear c9
      by_cases az : 0 ≤ z
      ·rw [if_pos az] at H; have bG := dT az; clear az
       by_cases aA : z < (A.length : Int)
       ·rw [if_pos aA] at H; have bH := dT aA; clear aA; obtain ⟨a3, ag⟩ : ∃ b_ : Bool, b_ = (rdOf false A z) := ⟨_, rfl⟩
        rw [← ag] at H
        have Nbq12 := aM ag; clear ag
        by_cases aB : a3 = true
        ·subst aB
         rw [if_pos rfl] at H
         by_cases aC : z < (J.length : Int)
         ·rw [if_pos aC] at H; have bI := dT aC; clear aC; obtain ⟨aG, ac⟩ : ∃ y_ : List Int, y_ = (J.set (z : Int).toNat 1) := ⟨_, rfl⟩
          first | replace H := rI ac H | rw [← ac] at H
          have aR := aM ac; clear ac; have H' := aM H; clear H; have V : 0 ≤ (z : Int) := oT aO; have W : z < (A.length : Int) := oT aO; obtain ⟨aS, aj, I⟩ := Kd.at_bool aa.out z V W
          (try rw [← Nbq12.out] at I)
          cases aj; replace I := cX HB I; replace V := eq_true V; replace W := eq_true W; have aH : 0 ≤ (z : Int) := oT aO; have aI : (z : Int) < ((J.length : Int) : Int) := oT aO; obtain ⟨go15, a4, aJ, aK, gl15, cl15, HG15⟩ := Kd.R_form D.out (by omega)
          (first | cases aJ | (injection aJ with ea_ en_ ec_; (first | subst ea_ | (injection ea_ with ea_; subst ea_)); subst ec_; clear en_))
          have GB15 := aM aK; have GG15 := aM HG15; clear aK gl15 HG15; obtain ⟨bE, hf15_0⟩ := Kd.R_celln 0 D.out (z : Int) aH aI; replace aH := eq_true aH; replace aI := eq_true aI; have HP16 := Kd.R_putg D.out (z : Int) 1
          go_wp2_with (first | ((with_reducible refine gate_store (t := 3) (p := 24) rfl ?_); refine store_event (t := 3) (p := 24) (v := ?vo_w17) (w1 := (wr.setCell ⟨go15, (z : Int).toNat, none⟩ (.int .i64 1))) ?hg ?ho ?hn ?hr ?_; (case ho => rfl); (case hg => rfl); (case hn => rfl); (case hr => first | (go_simp; done) | (go_simp; rfl)); intro aL hw; have hg : wr.grownBy aL (some go15) := (by rw [hw]; exact HP16.2); have hp_ : Kd.R (Kd.int .i64) 3 aL w.heap.size (fun _ => True) (.slice (some ⟨go15, 0, none⟩) J.length a4) aG := (by rw [hw, aR.out]; exact HP16.1); clear HP16; replace B := kG B hg D; replace D := aM (hp_); replace HB := aM ((by rw [hw]; exact below_set (HB.out) GB15.out : Below w.heap.size w aL)); clear hg hw hp_))
          go_roundg k1
          case measure => have := HK1.out; omega
          case rel => exact ⟨(aG), (wrap64 (z + 1)), sI, H', ⟨by have := HK1.out; omega⟩, rQ D, kQ B, bT1 HB E⟩
         ·exact nX aC H
        ·replace aB := Bool.eq_false_iff.mpr aB; subst aB
         rw [if_neg nF] at H; have H' := aM H; clear H; have V : 0 ≤ (z : Int) := oT aO; have W : z < (A.length : Int) := oT aO; obtain ⟨aS, aj, I⟩ := Kd.at_bool aa.out z V W
         (try rw [← Nbq12.out] at I)
         cases aj; replace I := cX HB I; replace V := eq_true V; replace W := eq_true W
         go_wp2
         go_roundg k1
         case measure => have := HK1.out; omega
         case rel => exact ⟨(J), (wrap64 (z + 1)), sI, H', ⟨by have := HK1.out; omega⟩, rQ D, kQ B, bT1 HB E⟩
       ·exact nX aA H
      ·exact nX az H
     ·rw [if_neg c9] at H; have aZ := decide_eq_false c9; clear c9; have H' := aM H; clear H
      go_wp2
      go_loopg [3, 6] k1 (fun kq v3 v6 w' => ∃ (Y : List Int) (ad : Int), v6 = .int .i64 ad ∧ Aside0 (canon_classes.l1 kq Y ad F A G = some r) ∧ Aside0 (kq ≤ k1) ∧ RA (Kd.int .i64) 3 w' w v3 Y ∧ Aside0 (w'.heap[ax]? = some (.cells #[(.slice L F.length M), (.slice O A.length P), (.slice Q G.length U)] 31 (0, 0))) ∧ BA w w')
      case atStart => exact ⟨(J), (0), sI, H', ⟨Nat.le_refl _⟩, rQ D, kQ B, bT1 HB E⟩
      case round =>
       clear H'
       obtain ⟨Y, ad, rfl, HA, HK2, D, B, HB⟩ := hrel; cases gk with
       | zero => exact absurd HA.out (by simp [canon_classes.l1])
       | succ k2 =>
        have H := HA.out; clear HA; simp only [canon_classes.l1] at H; replace H := Option.bind_eq_some_iff.mp H; obtain ⟨⟨ae, Z⟩, aN, H⟩ := H; replace H : (if Z = ad then (some ae) else (canon_classes.l1 k2 ae Z F A G)) = some r := H; have aW := aM aN; clear aN
        by_cases ai : Z = ad
        ·rw [if_pos ai] at H; obtain ⟨aT, aU⟩ := bq ai; clear ai; obtain rfl := Option.some.inj H; obtain ⟨bc, bd, be, bf, bg, bh⟩ := bG3 B; obtain ⟨a5, a6, a7⟩ := sL D; subst a7
         go_wp2_with (first | ((with_reducible refine gate_callee (f := 87) rfl ?_); refine gL_ (some 29) Try.func87 #[.agg #[.slice L F.length M, .slice O A.length P, .slice Q G.length U], .slice a5 Y.length a6] ?_; (with_reducible refine (canon_split.calls _ _ F _ _ A _ _ G _ _ Y ae Z _ ?s1 ar.out ?s3 au.out ?s5 aw.out ?s7 (rR D).2.1 aW.out).mono ?_); (case s1 => exact cB aq HB); (case s3 => exact cB aa HB); (case s5 => exact cB av HB); (case s7 => exact cO (rR D).2.2); rintro e bP ⟨a8, rfl, af, hb⟩; refine ⟨_, rfl, ?_⟩; have ah := rW (Kd.R_new' af (Kd.R_lt (rP D))) (bP1 HB E); replace D := aM (Kd.R_elder' (rP D) (Kd.R_base af) hb); replace B := kB B hb; replace HB := hS1 HB E hb; (try clear hb); (try clear af)))
         go_ret
         exact ⟨_, eW, rM ah (fun _ hk => trivial), bS1 HB.out E.out⟩
        ·rw [if_neg ai] at H; obtain ⟨aT, aU⟩ := bn ai; have H' := aM H; clear H; obtain ⟨bi, bj, bk, bl, bm, bo⟩ := bG3 B; obtain ⟨a9, ba, bb⟩ := sL D; subst bb
         go_wp2_with (first | ((with_reducible refine gate_callee (f := 87) rfl ?_); refine gL_ (some 29) Try.func87 #[.agg #[.slice L F.length M, .slice O A.length P, .slice Q G.length U], .slice a9 Y.length ba] ?_; (with_reducible refine (canon_split.calls _ _ F _ _ A _ _ G _ _ Y ae Z _ ?s1 ar.out ?s3 au.out ?s5 aw.out ?s7 (rR D).2.1 aW.out).mono ?_); (case s1 => exact cB aq HB); (case s3 => exact cB aa HB); (case s5 => exact cB av HB); (case s7 => exact cO (rR D).2.2); rintro e bQ ⟨a8, rfl, af, hb⟩; refine ⟨_, rfl, ?_⟩; have ah := rW (Kd.R_new' af (Kd.R_lt (rP D))) (bP1 HB E); replace D := aM (Kd.R_elder' (rP D) (Kd.R_base af) hb); replace B := kB B hb; replace HB := hS1 HB E hb; (try clear hb); (try clear af)))
         go_roundg k2
         case measure => have := HK1.out; have := HK2.out; omega
         case rel => exact ⟨(ae), (Z), sI, H', ⟨by have := HK1.out; have := HK2.out; omega⟩, ⟨rM ah (fun _ hk => trivial)⟩, kQ B, bT1 HB E⟩
  ·exact nX c3 H
 ·exact nX c2 H

end Go.Proofs.Ythgoonohpfoagaa.X

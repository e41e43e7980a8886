/- What the functions of this seat compute, and that the program's calls come to just that: written by this session's own program out of the translation; no condition. -/
import Derived.Test.YtbpeloobnjbgkaaX0
namespace Go.Proofs.Ytbpeloobnjbgkaa.X
open Go.RowKit Go.Proofs.YtbpeloobnjbgkaaW.PrintWords Go.Proofs.YtbpeloobnjbgkaaW.PrintLast Go.Proofs.YtbpeloobnjbgkaaW.PrintMore
attribute [local go_sem] max2_int min2_int max_two min_two max_three min_three max_four min_four
set_option linter.unusedVariables false
set_option linter.unusedSimpArgs false
set_option maxHeartbeats 8000000
set_option maxRecDepth 100000

/-! ### tabardref13_apart: function 35 -/
def tabardref13_apart.l0 : Nat → List Int → Int → Int → Int → List ByteArray → List Bool → List (List Int) → Option (Bool)
 | 0, _, _, _, _, _, _, _ => none
 | k + 1, x1, x2, x3, x9, x334000, x334001, x334002 => if 0 ≤ x2 then (if x2 < (x334002.length : Int) then (if x9 < ((rd_L1 x334002 x2).length : Int) then (if 0 ≤ x9 then (if 0 ≤ (rd (rd_L1 x334002 x2) x9) then (if (rd (rd_L1 x334002 x2) x9) < (x1.length : Int) then (if 0 ≤ x3 then (if x3 < (x334002.length : Int) then (if x9 < ((rd_L1 x334002 x3).length : Int) then (if 0 ≤ (rd (rd_L1 x334002 x3) x9) then (if (rd (rd_L1 x334002 x3) x9) < (x1.length : Int) then (if (rd x1 (rd (rd_L1 x334002 x2) x9)) = (rd x1 (rd (rd_L1 x334002 x3) x9)) then (tabardref13_apart.l0 k x1 x2 x3 (wrap64 (x9 + 1)) x334000 x334001 x334002) else (some true)) else (none)) else (none)) else (none)) else (none)) else (none)) else (none)) else (none)) else (none)) else (some false)) else (none)) else (none)
def tabardref13_apart.f (k : Nat) (l0_0 : List ByteArray) (l0_1 : List Bool) (l0_2 : List (List Int)) (l1 : List Int) (a2 : Int) (a3 : Int) : Option (Bool) := if 0 ≤ a2 then (if a2 < (l0_1.length : Int) then (if 0 ≤ a3 then (if a3 < (l0_1.length : Int) then (if ((rdOf false l0_1 a2) != (rdOf false l0_1 a3)) = true then (some true) else (tabardref13_apart.l0 k l1 a2 a3 0 l0_0 l0_1 l0_2)) else (none)) else (none)) else (none)) else (none)
theorem tabardref13_apart.mono_l : ∀ k, (∀ y0 y1 y2 y3 y4 y5 y6, LeO (tabardref13_apart.l0 k y0 y1 y2 y3 y4 y5 y6) (tabardref13_apart.l0 (k + 1) y0 y1 y2 y3 y4 y5 y6))
 | 0 => fun _ _ _ _ _ _ _ r h => by simp [tabardref13_apart.l0] at h
 | k + 1 => by
  have ih0 := tabardref13_apart.mono_l k
  ·intro y0 y1 y2 y3 y4 y5 y6
   unfold tabardref13_apart.l0
   repeat' first | (with_reducible first | exact ih0 _ _ _ _ _ _ _ | exact lA | apply lI | refine lB ?_ fun _ => ?_) | exact lN _ | apply lI | refine lB ?_ fun _ => ?_
theorem tabardref13_apart.mono : ∀ a0 a1 a2 a3 a4 a5 k, LeO (tabardref13_apart.f k a0 a1 a2 a3 a4 a5) (tabardref13_apart.f (k + 1) a0 a1 a2 a3 a4 a5) := by
 intro a0 a1 a2 a3 a4 a5 k; have ih0 := tabardref13_apart.mono_l k
 unfold tabardref13_apart.f
 repeat' first | (with_reducible first | exact ih0 _ _ _ _ _ _ _ | exact lA | apply lI | refine lB ?_ fun _ => ?_) | exact lN _ | apply lI | refine lB ?_ fun _ => ?_
theorem tabardref13_apart.calls (k : Nat) (ao : Option Addr) (ap : Nat) (Y : List ByteArray) (aw : Option Addr) (aq : Nat) (A : List Bool) (ar : Option Addr) (au : Nat) (z : List (List Int)) (A1 : Option Addr) (c1 : Nat) (l1 : List Int) (F : Int) (G : Int) (r : Bool) (w : World) (bt : Kd.C Kd.string w ao Y.length Y) (bu : Y.length ≤ ap) (bv : Kd.C Kd.bool w aw A.length A) (bw : A.length ≤ aq) (bx : Kd.C (Kd.slice 3 (Kd.int .i64)) w ar z.length z) (bz : z.length ≤ au) (b0 : Kd.C (Kd.int .i64) w A1 l1.length l1) (b1 : l1.length ≤ c1) (h : tabardref13_apart.f k Y A z l1 F G = some r) :
  Calls Try.prog 35 #[.agg #[.slice ao Y.length ap, .slice aw A.length aq, .slice ar z.length au], .slice A1 l1.length c1, .int .i64 F, .int .i64 G] w fun e w' => e = .returned (.bool r) ∧ Below w.heap.size w w' := by
 have hu26 := Try.underlying26; have cr := aM bt; have ct := aM bu; clear bt bu; have Q := aM bv; have cu := aM bw; clear bv bw; have av := aM bx; have cv := aM bz; clear bx bz; have bA := aM b0; have cM := aM b1; clear b0 b1; have HB := aM (Below.refl w.heap.size w); rw [tabardref13_apart.f] at h; have H := h; clear h
 apply iN H; clear H; intro c5 H; have cG := dT c5; clear c5
 apply iN H; clear H; intro c6 H; have cH := dT c6; clear c6
 apply iN H; clear H; intro c7 H; have cI := dT c7; clear c7
 apply iN H; clear H; intro c8 H; have cJ := dT c8; clear c8
 apply iB H <;> clear H <;> intro c9 H
 ·have b4 : ((rdOf false A F) != (rdOf false A G)) = true := c9
  (try (have b5 : decide ((rdOf false A F) = (rdOf false A G)) = false := by simpa using c9))
  (try (have b6 : ((rdOf false A F) == (rdOf false A G)) = false := by simpa using c9))
  (try (have cK : ¬ ((rdOf false A F) = (rdOf false A G)) := by simpa using c9))
  clear c9; obtain rfl := Option.some.inj H
  go_enter Try.func35, Try.ntmps35
  go_wp2_with (first | ((with_reducible refine gate_dst (N := 4) rfl ?_); refine be_ (cs := #[.slice ao Y.length ap, .slice aw A.length aq, .slice ar z.length au]) (t := 26) ?_; intro ax hg b2 aL hb; have O := aM (aL); have aN := gE hg (bP0 HB); have aa := gE hg (bP0 HB); replace HB := hS0 HB hb; clear hb aL hg; obtain ⟨aT, aU, aV, aW, aX, aY⟩ := bG3 O; obtain ⟨⟨R, ab, D⟩, I, J⟩ := xAt (Kd.at_bool Q.out) F; cases ab; replace D := cX HB D; obtain ⟨⟨W, ac, E⟩, L, M⟩ := xAt (Kd.at_bool Q.out) G; obtain rfl := sJJ ac; replace E := cX HB E; ))
  repeat (go_quiet (first | ((with_reducible refine gate_dst (N := 4) rfl ?_); refine be_ (cs := #[.slice ao Y.length ap, .slice aw A.length aq, .slice ar z.length au]) (t := 26) ?_; intro ax hg b2 aL hb; have O := aM (aL); have aN := gE hg (bP0 HB); have aa := gE hg (bP0 HB); replace HB := hS0 HB hb; clear hb aL hg; obtain ⟨aT, aU, aV, aW, aX, aY⟩ := bG3 O; obtain ⟨⟨R, ab, D⟩, I, J⟩ := xAt (Kd.at_bool Q.out) F; cases ab; replace D := cX HB D; obtain ⟨⟨W, ac, E⟩, L, M⟩ := xAt (Kd.at_bool Q.out) G; obtain rfl := sJJ ac; replace E := cX HB E; )); try go_wp2_with (first | ((with_reducible refine gate_dst (N := 4) rfl ?_); refine be_ (cs := #[.slice ao Y.length ap, .slice aw A.length aq, .slice ar z.length au]) (t := 26) ?_; intro ax hg b2 aL hb; have O := aM (aL); have aN := gE hg (bP0 HB); have aa := gE hg (bP0 HB); replace HB := hS0 HB hb; clear hb aL hg; obtain ⟨aT, aU, aV, aW, aX, aY⟩ := bG3 O; obtain ⟨⟨R, ab, D⟩, I, J⟩ := xAt (Kd.at_bool Q.out) F; cases ab; replace D := cX HB D; obtain ⟨⟨W, ac, E⟩, L, M⟩ := xAt (Kd.at_bool Q.out) G; obtain rfl := sJJ ac; replace E := cX HB E; )))
  go_ret
  exact ⟨eW, bS1 HB.out aa.out⟩
 ·have b4 : ((rdOf false A F) != (rdOf false A G)) = false := by simpa using c9
  (try (have b5 : decide ((rdOf false A F) = (rdOf false A G)) = true := by simpa using c9))
  (try (have b6 : ((rdOf false A F) == (rdOf false A G)) = true := by simpa using c9))
  clear c9; have H' := aM H; clear H
  go_enter Try.func35, Try.ntmps35
  go_wp2_with (first | ((with_reducible refine gate_dst (N := 4) rfl ?_); refine be_ (cs := #[.slice ao Y.length ap, .slice aw A.length aq, .slice ar z.length au]) (t := 26) ?_; intro ax hg b3 aL hb; have O := aM (aL); have aN := gE hg (bP0 HB); have aa := gE hg (bP0 HB); replace HB := hS0 HB hb; clear hb aL hg; obtain ⟨aZ, a6, a7, a8, a9, ba⟩ := bG3 O; obtain ⟨⟨R, ab, D⟩, I, J⟩ := xAt (Kd.at_bool Q.out) F; cases ab; replace D := cX HB D; obtain ⟨⟨W, ac, E⟩, L, M⟩ := xAt (Kd.at_bool Q.out) G; obtain rfl := sJJ ac; replace E := cX HB E; ))
  repeat (go_quiet (first | ((with_reducible refine gate_dst (N := 4) rfl ?_); refine be_ (cs := #[.slice ao Y.length ap, .slice aw A.length aq, .slice ar z.length au]) (t := 26) ?_; intro ax hg b3 aL hb; have O := aM (aL); have aN := gE hg (bP0 HB); have aa := gE hg (bP0 HB); replace HB := hS0 HB hb; clear hb aL hg; obtain ⟨aZ, a6, a7, a8, a9, ba⟩ := bG3 O; obtain ⟨⟨R, ab, D⟩, I, J⟩ := xAt (Kd.at_bool Q.out) F; cases ab; replace D := cX HB D; obtain ⟨⟨W, ac, E⟩, L, M⟩ := xAt (Kd.at_bool Q.out) G; obtain rfl := sJJ ac; replace E := cX HB E; )); try go_wp2_with (first | ((with_reducible refine gate_dst (N := 4) rfl ?_); refine be_ (cs := #[.slice ao Y.length ap, .slice aw A.length aq, .slice ar z.length au]) (t := 26) ?_; intro ax hg b3 aL hb; have O := aM (aL); have aN := gE hg (bP0 HB); have aa := gE hg (bP0 HB); replace HB := hS0 HB hb; clear hb aL hg; obtain ⟨aZ, a6, a7, a8, a9, ba⟩ := bG3 O; obtain ⟨⟨R, ab, D⟩, I, J⟩ := xAt (Kd.at_bool Q.out) F; cases ab; replace D := cX HB D; obtain ⟨⟨W, ac, E⟩, L, M⟩ := xAt (Kd.at_bool Q.out) G; obtain rfl := sJJ ac; replace E := cX HB E; )))
  go_loopg [9] k (fun kq v9 w' => ∃ (B : Int), v9 = .int .i64 B ∧ Aside0 (tabardref13_apart.l0 kq l1 F G B Y A z = some r) ∧ Aside0 (kq ≤ k) ∧ Aside0 (w'.heap[ax]? = some (.cells #[(.slice ao Y.length ap), (.slice (some R) A.length aq), (.slice ar z.length au)] 26 (0, 0))) ∧ BA w w')
  case atStart => exact ⟨(0), sI, H', ⟨Nat.le_refl _⟩, kQ O, bT1 HB aa⟩
  case round =>
   clear H'
   obtain ⟨B, rfl, HA, bR, O, HB⟩ := hrel; cases gk with
   | zero => exact absurd HA.out (by simp [tabardref13_apart.l0])
   | succ k1 =>
    have H := HA.out; clear HA; simp only [tabardref13_apart.l0] at H
    apply iN H; clear H; intro bB H; have cw := dT bB; clear bB
    apply iN H; clear H; intro bC H; have cx := dT bC; clear bC
    apply iB H <;> clear H <;> intro bb H
    ·have bV := dT bb; clear bb
     apply iN H; clear H; intro bD H; have cy := dT bD; clear bD
     apply iN H; clear H; intro bE H; have cz := dT bE; clear bE
     apply iN H; clear H; intro bF H; have cA := dT bF; clear bF
     apply iN H; clear H; intro bG H; have cB := dT bG; clear bG
     apply iN H; clear H; intro bH H; have cC := dT bH; clear bH
     apply iN H; clear H; intro bI H; have cD := dT bI; clear bI
     apply iN H; clear H; intro bJ H; have cE := dT bJ; clear bJ
     apply iN H; clear H; intro bK H; have cF := dT bK; clear bK
     apply iB H <;> clear H <;> intro bi H
     ·obtain ⟨bW, bX⟩ := bq bi; clear bi; have H' := aM H; clear H; obtain ⟨b7, b8, b9, ca, cb, cc⟩ := bG3 O; have ad : 0 ≤ (F : Int) := oT aO; have ae : F < (z.length : Int) := oT aO; obtain ⟨ay, bj, bk, aS, P, U, V⟩ := at_L1 av.out F ad ae; cases aS; replace P := cX HB P; have bc := aM V; have bd := aM U; clear V U; replace ad := eq_true ad; replace ae := eq_true ae; have az : 0 ≤ (F : Int) := oT aO; have aA : F < (z.length : Int) := oT aO; obtain ⟨be, bN, bO, bl, Z, af, ag⟩ := at_L1 av.out F az aA; obtain rfl := sJJ bl; replace Z := cX HB Z; have aP := aM ag; have bL := aM af; clear ag af; replace az := eq_true az; replace aA := eq_true aA; have ea_ := Option.some.inj (P.symm.trans Z)
      injection ea_ with ea_ en_ ec_
      subst ea_; subst ec_; clear en_; obtain ⟨⟨bY, bm, ah⟩, aB, aC⟩ := xAt (Kd.at_int aP.out) B; cases bm; replace ah := cX HB ah; obtain ⟨⟨bf, bo, ai⟩, aD, aE⟩ := xAt (Kd.at_int bA.out) (rd (rd_L1 z F) B); cases bo; replace ai := cX HB ai; have aF : 0 ≤ (G : Int) := oT aO; have aG : G < (z.length : Int) := oT aO; obtain ⟨bg, bP, bQ, bp, aj, ak, al⟩ := at_L1 av.out G aF aG; obtain rfl := sJJ bp; replace aj := cX HB aj; have aQ := aM al; have bM := aM ak; clear al ak; replace aF := eq_true aF; replace aG := eq_true aG; obtain ⟨⟨bZ, br, am⟩, aH, aI⟩ := xAt (Kd.at_int aQ.out) B; cases br; replace am := cX HB am; obtain ⟨⟨bh, bs, an⟩, aJ, aK⟩ := xAt (Kd.at_int bA.out) (rd (rd_L1 z G) B); obtain rfl := sJJ bs; replace an := cX HB an
      go_wp2
      repeat (go_quiet (fail); try go_wp2)
      go_roundg k1
      case measure => have := bR.out; omega
      case rel => exact ⟨(wrap64 (B + 1)), sI, H', ⟨by have := bR.out; omega⟩, kQ O, bT1 HB aa⟩
     ·obtain ⟨bW, bX⟩ := bn bi; obtain rfl := Option.some.inj H; obtain ⟨cd, ce, cf, cg, ch, ci⟩ := bG3 O; have ad : 0 ≤ (F : Int) := oT aO; have ae : F < (z.length : Int) := oT aO; obtain ⟨ay, bj, bk, aS, P, U, V⟩ := at_L1 av.out F ad ae; cases aS; replace P := cX HB P; have bc := aM V; have bd := aM U; clear V U; replace ad := eq_true ad; replace ae := eq_true ae; have az : 0 ≤ (F : Int) := oT aO; have aA : F < (z.length : Int) := oT aO; obtain ⟨be, bN, bO, bl, Z, af, ag⟩ := at_L1 av.out F az aA; obtain rfl := sJJ bl; replace Z := cX HB Z; have aP := aM ag; have bL := aM af; clear ag af; replace az := eq_true az; replace aA := eq_true aA; have ea_ := Option.some.inj (P.symm.trans Z)
      injection ea_ with ea_ en_ ec_
      subst ea_; subst ec_; clear en_; obtain ⟨⟨bY, bm, ah⟩, aB, aC⟩ := xAt (Kd.at_int aP.out) B; cases bm; replace ah := cX HB ah; obtain ⟨⟨bf, bo, ai⟩, aD, aE⟩ := xAt (Kd.at_int bA.out) (rd (rd_L1 z F) B); cases bo; replace ai := cX HB ai; have aF : 0 ≤ (G : Int) := oT aO; have aG : G < (z.length : Int) := oT aO; obtain ⟨bg, bP, bQ, bp, aj, ak, al⟩ := at_L1 av.out G aF aG; obtain rfl := sJJ bp; replace aj := cX HB aj; have aQ := aM al; have bM := aM ak; clear al ak; replace aF := eq_true aF; replace aG := eq_true aG; obtain ⟨⟨bZ, br, am⟩, aH, aI⟩ := xAt (Kd.at_int aQ.out) B; cases br; replace am := cX HB am; obtain ⟨⟨bh, bs, an⟩, aJ, aK⟩ := xAt (Kd.at_int bA.out) (rd (rd_L1 z G) B); obtain rfl := sJJ bs; replace an := cX HB an
      go_wp2
      repeat (go_quiet (fail); try go_wp2)
      go_ret
      exact ⟨eW, bS1 HB.out aa.out⟩
    ·have bV := decide_eq_false bb; clear bb; obtain rfl := Option.some.inj H; obtain ⟨cj, ck, cl, cm, cn, co⟩ := bG3 O; have ad : 0 ≤ (F : Int) := oT aO; have ae : F < (z.length : Int) := oT aO; obtain ⟨ay, bj, bk, aS, P, U, V⟩ := at_L1 av.out F ad ae; cases aS; replace P := cX HB P; have bc := aM V; have bd := aM U; clear V U; replace ad := eq_true ad; replace ae := eq_true ae
     go_wp2
     repeat (go_quiet (fail); try go_wp2)
     go_ret
     exact ⟨eW, bS1 HB.out aa.out⟩

end Go.Proofs.Ytbpeloobnjbgkaa.X

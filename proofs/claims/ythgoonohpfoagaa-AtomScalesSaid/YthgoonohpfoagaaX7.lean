/- What the functions of this seat compute, and that the program's calls come to just that: written by this session's own program out of the translation; no condition. -/
import Derived.Test.YthgoonohpfoagaaX0
import Derived.Test.YthgoonohpfoagaaX2
import Derived.Test.YthgoonohpfoagaaX6
namespace Go.Proofs.Ythgoonohpfoagaa.X
open Go.RowKit Go.Proofs.YthgoonohpfoagaaW.PrintWords Go.Proofs.YthgoonohpfoagaaW.PrintLast Go.Proofs.YthgoonohpfoagaaW.PrintMore
attribute [local go_sem] max2_int min2_int max_two min_two max_three min_three max_four min_four
set_option linter.unusedVariables false
set_option linter.unusedSimpArgs false
set_option maxHeartbeats 8000000
set_option maxRecDepth 100000

/-! ### norm_Check: function 24 -/
mutual
def norm_Check.j0 : Nat → List Int → Bool → Int → List ByteArray → List Int → Int → Int → Option (Int)
 | 0, _, _, _, _, _, _, _ => none
 | k + 1, x3, x6, x129000, x129001, x129002, x129003, x129004 => if x129000 = 2 then (if x6 = true then (norm_Check.j1 k x3 (decide (x129004 ≥ 1)) x129000 x129001 x129002 x129003 x129004) else (norm_Check.j1 k x3 false x129000 x129001 x129002 x129003 x129004)) else (if x6 = true then (if x129004 = 0 then (some 0) else (some 3)) else (some 3))
def norm_Check.j1 : Nat → List Int → Bool → Int → List ByteArray → List Int → Int → Int → Option (Int)
 | 0, _, _, _, _, _, _, _ => none
 | k + 1, x3, x6, x129000, x129001, x129002, x129003, x129004 => norm_Check.l0 k x6 x3 (x3.length : Int) 0 x129000 x129001 x129002 x129003 x129004
def norm_Check.l0 : Nat → Bool → List Int → Int → Int → Int → List ByteArray → List Int → Int → Int → Option (Int)
 | 0, _, _, _, _, _, _, _, _, _ => none
 | k + 1, x6, x55, x56, x57, x129000, x129001, x129002, x129003, x129004 => if x57 < x56 then (if 0 ≤ x57 then (if x57 < (x55.length : Int) then (if x6 = true then (if (rd x55 x57) ≥ 0 then (norm_Check.l0 k (decide ((rd x55 x57) < x129004)) x55 x56 (wrap64 (x57 + 1)) x129000 x129001 x129002 x129003 x129004) else (norm_Check.l0 k false x55 x56 (wrap64 (x57 + 1)) x129000 x129001 x129002 x129003 x129004)) else (norm_Check.l0 k false x55 x56 (wrap64 (x57 + 1)) x129000 x129001 x129002 x129003 x129004)) else (none)) else (none)) else (if x6 = true then (some 0) else (some 3))
end
def norm_Check.f (k : Nat) (a0_0 : Int) (l0_1 : List ByteArray) (l0_2 : List Int) (a0_3 : Int) (a0_4 : Int) : Option (Int) := (some (([a0_3] : List Int) : List Int)).bind fun y129 => (if y129.length + l0_2.length < 17592186044416 then ((some (y129 ++ l0_2 : List Int)).bind fun y132 => ((chk_Total.f k y132).bind fun bt135 => (if a0_0 ≥ 0 then (if a0_0 ≤ 2 then ((glyph_Rises.f k l0_1).bind fun t137 => (if t137 = true then (if (l0_1.length : Int) = (l0_2.length : Int) then (norm_Check.j0 k y132 (bt135.2 == 0) a0_0 l0_1 l0_2 a0_3 a0_4) else (norm_Check.j0 k y132 false a0_0 l0_1 l0_2 a0_3 a0_4)) else (norm_Check.j0 k y132 false a0_0 l0_1 l0_2 a0_3 a0_4))) else (norm_Check.j0 k y132 false a0_0 l0_1 l0_2 a0_3 a0_4)) else (norm_Check.j0 k y132 false a0_0 l0_1 l0_2 a0_3 a0_4)))) else (none))
theorem norm_Check.mono_l : ∀ k, (∀ y0 y1 y2 y3 y4 y5 y6, LeO (norm_Check.j0 k y0 y1 y2 y3 y4 y5 y6) (norm_Check.j0 (k + 1) y0 y1 y2 y3 y4 y5 y6)) ∧ (∀ y0 y1 y2 y3 y4 y5 y6, LeO (norm_Check.j1 k y0 y1 y2 y3 y4 y5 y6) (norm_Check.j1 (k + 1) y0 y1 y2 y3 y4 y5 y6)) ∧ (∀ y0 y1 y2 y3 y4 y5 y6 y7 y8, LeO (norm_Check.l0 k y0 y1 y2 y3 y4 y5 y6 y7 y8) (norm_Check.l0 (k + 1) y0 y1 y2 y3 y4 y5 y6 y7 y8))
 | 0 => ⟨fun _ _ _ _ _ _ _ r h => by simp [norm_Check.j0] at h, fun _ _ _ _ _ _ _ r h => by simp [norm_Check.j1] at h, fun _ _ _ _ _ _ _ _ _ r h => by simp [norm_Check.l0] at h⟩
 | k + 1 => by
  obtain ⟨ih0, ih1, ih2⟩ := norm_Check.mono_l k; refine ⟨?_, ?_, ?_⟩
  ·intro y0 y1 y2 y3 y4 y5 y6
   unfold norm_Check.j0
   repeat' first | (with_reducible first | exact ih0 _ _ _ _ _ _ _ | exact ih1 _ _ _ _ _ _ _ | exact ih2 _ _ _ _ _ _ _ _ _ | exact chk_Total.mono _ _ | exact glyph_Rises.mono _ _ | exact lA | apply lI | refine lB ?_ fun _ => ?_) | exact lN _ | apply lI | refine lB ?_ fun _ => ?_
  ·intro y0 y1 y2 y3 y4 y5 y6
   unfold norm_Check.j1
   repeat' first | (with_reducible first | exact ih0 _ _ _ _ _ _ _ | exact ih1 _ _ _ _ _ _ _ | exact ih2 _ _ _ _ _ _ _ _ _ | exact chk_Total.mono _ _ | exact glyph_Rises.mono _ _ | exact lA | apply lI | refine lB ?_ fun _ => ?_) | exact lN _ | apply lI | refine lB ?_ fun _ => ?_
  ·intro y0 y1 y2 y3 y4 y5 y6 y7 y8
   unfold norm_Check.l0
   repeat' first | (with_reducible first | exact ih0 _ _ _ _ _ _ _ | exact ih1 _ _ _ _ _ _ _ | exact ih2 _ _ _ _ _ _ _ _ _ | exact chk_Total.mono _ _ | exact glyph_Rises.mono _ _ | exact lA | apply lI | refine lB ?_ fun _ => ?_) | exact lN _ | apply lI | refine lB ?_ fun _ => ?_
theorem norm_Check.mono : ∀ a0 a1 a2 a3 a4 k, LeO (norm_Check.f k a0 a1 a2 a3 a4) (norm_Check.f (k + 1) a0 a1 a2 a3 a4) := by
 intro a0 a1 a2 a3 a4 k; obtain ⟨ih0, ih1, ih2⟩ := norm_Check.mono_l k
 unfold norm_Check.f
 repeat' first | (with_reducible first | exact ih0 _ _ _ _ _ _ _ | exact ih1 _ _ _ _ _ _ _ | exact ih2 _ _ _ _ _ _ _ _ _ | exact chk_Total.mono _ _ | exact glyph_Rises.mono _ _ | exact lA | apply lI | refine lB ?_ fun _ => ?_) | exact lN _ | apply lI | refine lB ?_ fun _ => ?_
theorem norm_Check.calls (k : Nat) (G : Int) (Y : Option Addr) (Z : Nat) (D : List ByteArray) (aa : Option Addr) (ab : Nat) (E : List Int) (I : Int) (L : Int) (r : Int) (w : World) (aA : Kd.C Kd.string w Y D.length D) (aC : D.length ≤ Z) (aD : Kd.C (Kd.int .i64) w aa E.length E) (aE : E.length ≤ ab) (h : norm_Check.f k G D E I L = some r) :
  Calls Try.prog 24 #[.agg #[.int .i64 G, .slice Y D.length Z, .slice aa E.length ab, .int .i64 I, .int .i64 L]] w fun e w' => e = .returned (.int .i64 r) ∧ Below w.heap.size w w' := by
 have hu26 := Try.underlying26; have al := aM aA; have am := aM aC; clear aA aC; have aZ := aM aD; have dY := aM aE; clear aD aE; have HB := aM (Below.refl w.heap.size w); rw [norm_Check.f] at h; have H := h; clear h; obtain ⟨aw, ac⟩ : ∃ y_ : List Int, y_ = (([I] : List Int)) := ⟨_, rfl⟩
 first | replace H := rI ac H | rw [← ac] at H
 have a5 := aM ac; clear ac
 by_cases c2 : aw.length + E.length < 17592186044416
 ·rw [if_pos c2] at H; have bj := aM c2; clear c2; obtain ⟨F, ad⟩ : ∃ y_ : List Int, y_ = (aw ++ E) := ⟨_, rfl⟩
  first | replace H := rI ad H | rw [← ad] at H
  have a7 := aM ad; clear ad; replace H := Option.bind_eq_some_iff.mp H; obtain ⟨⟨bk, ax⟩, bi, H⟩ := H; replace H : (if G ≥ 0 then (if G ≤ 2 then ((glyph_Rises.f k D).bind fun ay => (if ay = true then (if (D.length : Int) = (E.length : Int) then (norm_Check.j0 k F (ax == 0) G D E I L) else (norm_Check.j0 k F false G D E I L)) else (norm_Check.j0 k F false G D E I L))) else (norm_Check.j0 k F false G D E I L)) else (norm_Check.j0 k F false G D E I L)) = some r := H; have A3 := aM bi; clear bi; have aU := aM H; clear H
  go_enter Try.func24, Try.ntmps24
  go_upto_region 3 with (first | ((with_reducible refine gate_dst (N := 1) rfl ?_); (try (refine gate_guard (by rfl) ?_; dsimp only)); refine be_ (cs := #[.int .i64 G, .slice Y D.length Z, .slice aa E.length ab, .int .i64 I, .int .i64 L]) (t := 26) ?_; intro an hg w5 hbox hb; have z := aM (hbox); have dZ := gE hg (bP0 HB); have A := gE hg (bP0 HB); replace HB := hS0 HB hb; clear hb hbox hg; obtain ⟨dB, dC, dD, dE, dF, dG, dH, dI, dJ, dK⟩ := bG5 z) | ((with_reducible refine gate_dst (N := 11) rfl ?_); (try (refine gate_guard (by rfl) ?_; dsimp only)); refine Kd.R_lit (Kd.int .i64) _ 2 ?hg (N := 11) ?hd (xs := ([I] : List Int)) (inner := [.int .i64 I]) (ok := fun _ => True) (okp := fun _ => True) ?hr ?hp (fun _ hk => hk) trivial (Below.refl _ _) (Nat.le_refl _) (by simp) ?_; (case hd => rfl); (case hg => rfl); (case hr => first | (go_simp; done) | (go_simp; rfl)); (case hp => exact (Reps.one (show Kd.M (Kd.int .i64) _ _ _ I [.int .i64 I] from rfl) (Reps.none _ _))); intro bl w7 aG hb hg_ hnew_; clear hg_ hnew_; replace aG := nW a5 aG; have ao := rW aG (bP1 HB A); replace z := kB z hb; replace HB := hS1 HB A hb; clear hb aG; obtain ⟨dL, dM, dN, dO, dP, dQ, dR, dS, dU, dV⟩ := bG5 z) | ((with_reducible refine gate_builtin (b := .append) (xs := #[.tmp 11, .tmp 13]) rfl ?_); (try (refine gate_guard (by rfl) ?_; dsimp only)); at_builtin; refine Kd.R_append_rows (Kd.int .i64) (w0 := w) w.heap.size rfl (.tmp 11) (.tmp 13) 24 2 (.int .i64 0) 8 rfl Try.underlying24 info2 rfl (by decide) (by omega) bl aw E _ _ _ (fun _ => True) (fun _ => False) rfl rfl ?aO ?aR (fun _ _ h => h) (fun _ h => h.elim) ?aF ?aB ?aS ?aL ?_; (case aR => exact cO (Kd.C_below aZ.out HB.out)); (case aB => exact (bP1 HB A)); (case aF => exact (fun _ _ => trivial)); (case aO => exact (rP ao)); (case aS => exact (below_size (bP1 HB A))); (case aL => have := bj.out; omega); intro d3 d4 ho hb hg hat; rw [← a7.out] at ho; replace z := kG z hg ao; replace HB := aM (hb); have J := aM (ho); clear ao; clear ho hb hg hat; obtain ⟨ap, aq, bm⟩ := sL J; subst bm) | ((with_reducible refine gate_callee (f := 46) rfl ?_); refine gL_ (some 17) Try.func46 #[.slice ap F.length aq] ?_; (with_reducible refine (chk_Total.calls k _ _ F bk ax _ ?s1 (rR J).2.1 A3.out).mono ?_); (case s1 => exact cO (rR J).2.2); rintro e w' ⟨rfl, ⟨nd, rfl⟩⟩; refine ⟨_, rfl, ?_⟩))
  (try simp only [Act.put, sA, sB, sC])
  go_cut [6] (fun v6 wc => ∃ (kq : Nat) (O : Bool), v6 = .bool O ∧ Aside0 (norm_Check.j0 kq F O G D E I L = some r) ∧ Aside0 (kq ≤ k) ∧ RA (Kd.int .i64) 2 wc w (.slice ap F.length aq) F ∧ Aside0 (wc.heap[an]? = some (.cells #[.int .i64 G, (.slice Y D.length Z), (.slice aa E.length ab), .int .i64 I, .int .i64 L] 26 (0, 0))) ∧ BA w wc)
  case first =>
   have H := aU.out; clear aU
   by_cases ag : G ≥ 0
   ·rw [if_pos ag] at H; have V := dT ag; clear ag
    (first | rw [V] | (simp only [i64_w, i32_w]; rw [V]) | skip)
    by_cases ah : G ≤ 2
    ·rw [if_pos ah] at H; have a8 := dT ah; clear ah; replace H := Option.bind_eq_some_iff.mp H; obtain ⟨ay, aW, H⟩ := H; have aX := aM aW; clear aW
     by_cases aH : ay = true
     ·subst aH
      rw [if_pos rfl] at H
      by_cases W : (D.length : Int) = (E.length : Int)
      ·rw [if_pos W] at H; obtain ⟨a9, ba⟩ := bq W
       have bb : (D.length == E.length) = true := by first | simpa using W | (simp at W ⊢; omega)
       clear W; have H' := aM H; clear H; obtain ⟨bo, bp, br, bs, bt, bu, bv, bw, bx, bz⟩ := bG5 z
       go_wp2_with (first | (go_at_call 47; (with_reducible refine (glyph_Rises.calls k _ _ D true _ ?s1 am.out aX.out).mono ?_); (case s1 => exact cB al HB); rintro e d5 ⟨rfl, hb⟩; replace J := rB J hb; replace z := kB z hb; replace HB := hS1 HB A hb; (try clear hb); obtain ⟨bA, bB, bC, bD, bE, bF, bG, bH, bI, bJ⟩ := bG5 z))
       go_meet
       case rel => exact ⟨_, ((ax == 0)), sI, H', ⟨by first | omega | exact Nat.le_refl _⟩, rQ J, kQ z, bT1 HB A⟩
      ·rw [if_neg W] at H; obtain ⟨a9, ba⟩ := bn W
       have bb : (D.length == E.length) = false := by first | simpa using W | (simp at W ⊢; omega)
       have H' := aM H; clear H; obtain ⟨bK, bL, bM, bN, bO, bP, bQ, bR, bS, bT⟩ := bG5 z
       go_wp2_with (first | (go_at_call 47; (with_reducible refine (glyph_Rises.calls k _ _ D true _ ?s1 am.out aX.out).mono ?_); (case s1 => exact cB al HB); rintro e d6 ⟨rfl, hb⟩; replace J := rB J hb; replace z := kB z hb; replace HB := hS1 HB A hb; (try clear hb); obtain ⟨bU, bV, bW, bX, bY, bZ, b0, b1, b2, b3⟩ := bG5 z))
       go_meet
       case rel => exact ⟨_, (false), sI, H', ⟨by first | omega | exact Nat.le_refl _⟩, rQ J, kQ z, bT1 HB A⟩
     ·replace aH := Bool.eq_false_iff.mpr aH; subst aH
      rw [if_neg nF] at H; have H' := aM H; clear H; obtain ⟨b4, b5, b6, b7, b8, b9, ca, cb, cc, cd⟩ := bG5 z
      go_wp2_with (first | (go_at_call 47; (with_reducible refine (glyph_Rises.calls k _ _ D false _ ?s1 am.out aX.out).mono ?_); (case s1 => exact cB al HB); rintro e d7 ⟨rfl, hb⟩; replace J := rB J hb; replace z := kB z hb; replace HB := hS1 HB A hb; (try clear hb)))
      go_meet
      case rel => exact ⟨_, (false), sI, H', ⟨by first | omega | exact Nat.le_refl _⟩, rQ J, kQ z, bT1 HB A⟩
    ·rw [if_neg ah] at H; have a8 := decide_eq_false ah; clear ah; have H' := aM H; clear H; obtain ⟨ce, cf, cg, ch, ci, cj, ck, cl, cm, cn⟩ := bG5 z
     go_wp2
     go_meet
     case rel => exact ⟨_, (false), sI, H', ⟨by first | omega | exact Nat.le_refl _⟩, rQ J, kQ z, bT1 HB A⟩
   ·rw [if_neg ag] at H; have V := decide_eq_false ag; clear ag
    (first | rw [V] | (simp only [i64_w, i32_w]; rw [V]) | skip)
    have H' := aM H; clear H; obtain ⟨co, cp, cq, cr, ct, cu, cv, cw, cx, cy⟩ := bG5 z
    go_wp2
    go_meet
    case rel => exact ⟨_, (false), sI, H', ⟨by first | omega | exact Nat.le_refl _⟩, rQ J, kQ z, bT1 HB A⟩
  case rest =>
   clear aU
   obtain ⟨kq, O, rfl, HA, HJ3, ar, z, HB⟩ := hcut; cases kq with
   | zero => exact absurd HA.out (by simp [norm_Check.j0])
   | succ dW =>
    have H := HA.out; clear HA; simp only [norm_Check.j0] at H
    by_cases au : G = 2
    ·rw [if_pos au] at H; obtain ⟨bc, bd⟩ := bq au; clear au; have az := aM H; clear H; obtain ⟨cz, cA, cC, cD, cE, cF, cG, cH, cI, cJ⟩ := bG5 z
     go_upto_region 5 with (fail)
     go_cut [6] (fun v6 wc => ∃ (kq : Nat) (ae : Bool), v6 = .bool ae ∧ Aside0 (norm_Check.j1 kq F ae G D E I L = some r) ∧ Aside0 (kq ≤ dW) ∧ RA (Kd.int .i64) 2 wc w (.slice ap F.length aq) F ∧ Aside0 (wc.heap[an]? = some (.cells #[.int .i64 G, (.slice Y D.length Z), (.slice aa E.length ab), .int .i64 I, .int .i64 L] 26 (0, 0))) ∧ BA w wc)
     case first =>
      have H := az.out; clear az
      by_cases aI : O = true
      ·subst aI
       rw [if_pos rfl] at H; have H' := aM H; clear H; obtain ⟨cK, cL, cM, cN, cP, cQ, cR, cS, cT, cU⟩ := bG5 z
       go_wp2
       go_meet
       case rel => exact ⟨_, (decide (L ≥ 1)), sI, H', ⟨by have := HJ3.out; first | omega | exact Nat.le_refl _⟩, rQ ar, kQ z, bT1 HB A⟩
      ·replace aI := Bool.eq_false_iff.mpr aI; subst aI
       rw [if_neg nF] at H; have H' := aM H; clear H
       go_wp2
       go_meet
       case rel => exact ⟨_, (false), sI, H', ⟨by have := HJ3.out; first | omega | exact Nat.le_refl _⟩, rQ ar, kQ z, bT1 HB A⟩
     case rest =>
      clear az
      obtain ⟨kq, ae, rfl, HA, HJ27, ar, z, HB⟩ := hcut; cases kq with
      | zero => exact absurd HA.out (by simp [norm_Check.j1])
      | succ aY =>
       have H := HA.out; clear HA; simp only [norm_Check.j1] at H; have H' := aM H; clear H
       go_wp2
       go_loopg [6, 57] aY (fun kq v6 dX w' => ∃ (O : Bool) (B : Int), v6 = .bool O ∧ dX = .int .i64 B ∧ Aside0 (norm_Check.l0 kq O F (F.length : Int) B G D E I L = some r) ∧ Aside0 (kq ≤ aY) ∧ RA (Kd.int .i64) 2 w' w (.slice ap F.length aq) F ∧ Aside0 (w'.heap[an]? = some (.cells #[.int .i64 G, (.slice Y D.length Z), (.slice aa E.length ab), .int .i64 I, .int .i64 L] 26 (0, 0))) ∧ BA w w')
       case atStart => exact ⟨(ae), (0), sI, sI, H', ⟨Nat.le_refl _⟩, rQ ar, kQ z, bT1 HB A⟩
       case round =>
        clear H'
        obtain ⟨O, B, rfl, rfl, HA, HK3, U, z, HB⟩ := hrel; cases gk with
        | zero => exact absurd HA.out (by simp [norm_Check.l0])
        | succ k3 =>
         have H := HA.out; clear HA; simp only [norm_Check.l0] at H
         by_cases ai : B < (F.length : Int)
         ·rw [if_pos ai] at H; have be := dT ai; clear ai
          by_cases aJ : 0 ≤ B
          ·rw [if_pos aJ] at H; have d0 := dT aJ; clear aJ
           by_cases aK : B < (F.length : Int)
           ·rw [if_pos aK] at H; have d1 := dT aK; clear aK
            by_cases aN : O = true
            ·subst aN
             rw [if_pos rfl] at H
             by_cases aj : (rd F B) ≥ 0
             ·rw [if_pos aj] at H; have bf := dT aj; clear aj; have H' := aM H; clear H; have P : 0 ≤ (B : Int) := oT aO; have Q : B < (F.length : Int) := oT aO; obtain ⟨aP, af, ak⟩ := Kd.at_int (rR U).2.2 B P Q; cases af; replace P := eq_true P; replace Q := eq_true Q; obtain ⟨cV, cW, cX, cY, cZ, c0, c1, c3, c4, c5⟩ := bG5 z
              go_wp2
              go_roundg k3
              case measure => have := HJ3.out; have := HJ27.out; have := HK3.out; omega
              case rel => exact ⟨(decide ((rd F B) < L)), (wrap64 (B + 1)), sI, sI, H', ⟨by have := HJ3.out; have := HJ27.out; have := HK3.out; omega⟩, rQ U, kQ z, bT1 HB A⟩
             ·rw [if_neg aj] at H; have bf := decide_eq_false aj; clear aj; have H' := aM H; clear H; have P : 0 ≤ (B : Int) := oT aO; have Q : B < (F.length : Int) := oT aO; obtain ⟨aP, af, ak⟩ := Kd.at_int (rR U).2.2 B P Q; cases af; replace P := eq_true P; replace Q := eq_true Q
              go_wp2
              go_roundg k3
              case measure => have := HJ3.out; have := HJ27.out; have := HK3.out; omega
              case rel => exact ⟨(false), (wrap64 (B + 1)), sI, sI, H', ⟨by have := HJ3.out; have := HJ27.out; have := HK3.out; omega⟩, rQ U, kQ z, bT1 HB A⟩
            ·replace aN := Bool.eq_false_iff.mpr aN; subst aN
             rw [if_neg nF] at H; have H' := aM H; clear H; have P : 0 ≤ (B : Int) := oT aO; have Q : B < (F.length : Int) := oT aO; obtain ⟨aP, af, ak⟩ := Kd.at_int (rR U).2.2 B P Q; cases af; replace P := eq_true P; replace Q := eq_true Q
             go_wp2
             go_roundg k3
             case measure => have := HJ3.out; have := HJ27.out; have := HK3.out; omega
             case rel => exact ⟨(false), (wrap64 (B + 1)), sI, sI, H', ⟨by have := HJ3.out; have := HJ27.out; have := HK3.out; omega⟩, rQ U, kQ z, bT1 HB A⟩
           ·exact nX aK H
          ·exact nX aJ H
         ·rw [if_neg ai] at H; have be := decide_eq_false ai; clear ai
          by_cases aQ : O = true
          ·subst aQ
           rw [if_pos rfl] at H; obtain rfl := Option.some.inj H
           go_wp2
           go_ret
           exact ⟨eW, bS1 HB.out A.out⟩
          ·replace aQ := Bool.eq_false_iff.mpr aQ; subst aQ
           rw [if_neg nF] at H; obtain rfl := Option.some.inj H
           go_wp2
           go_ret
           exact ⟨eW, bS1 HB.out A.out⟩
    ·rw [if_neg au] at H; obtain ⟨bc, bd⟩ := bn au
     by_cases aT : O = true
     ·subst aT
      rw [if_pos rfl] at H
      by_cases av : L = 0
      ·rw [if_pos av] at H; obtain ⟨bg, bh⟩ := bq av; clear av; obtain rfl := Option.some.inj H; obtain ⟨c6, c7, c8, c9, da, db, dc, dd, de, df⟩ := bG5 z
       go_wp2
       go_ret
       exact ⟨eW, bS1 HB.out A.out⟩
      ·rw [if_neg av] at H; obtain ⟨bg, bh⟩ := bn av; obtain rfl := Option.some.inj H; obtain ⟨dg, dh, di, dj, dk, dl, dm, dn, dp, dq⟩ := bG5 z
       go_wp2
       go_ret
       exact ⟨eW, bS1 HB.out A.out⟩
     ·replace aT := Bool.eq_false_iff.mpr aT; subst aT
      rw [if_neg nF] at H; obtain rfl := Option.some.inj H; obtain ⟨dr, ds, dt, du, dv, dw, dx, dy, dz, dA⟩ := bG5 z
      go_wp2
      go_ret
      exact ⟨eW, bS1 HB.out A.out⟩
 ·exact nX c2 H

end Go.Proofs.Ythgoonohpfoagaa.X

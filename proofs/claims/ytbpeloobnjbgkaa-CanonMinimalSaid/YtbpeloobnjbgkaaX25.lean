/- What the functions of this seat compute, and that the program's calls come to just that: written by this session's own program out of the translation; no condition. -/
import Derived.Test.YtbpeloobnjbgkaaX0
import Derived.Test.YtbpeloobnjbgkaaX24
namespace Go.Proofs.Ytbpeloobnjbgkaa.X
open Go.RowKit Go.Proofs.YtbpeloobnjbgkaaW.PrintWords Go.Proofs.YtbpeloobnjbgkaaW.PrintLast Go.Proofs.YtbpeloobnjbgkaaW.PrintMore
attribute [local go_sem] max2_int min2_int max_two min_two max_three min_three max_four min_four
set_option linter.unusedVariables false
set_option linter.unusedSimpArgs false
set_option maxHeartbeats 8000000
set_option maxRecDepth 100000

/-! ### tabardref12_Right: function 14 -/
mutual
def tabardref12_Right.j0 : Nat → Int → Bool → List ByteArray → List Bool → List (List Int) → Option (Bool)
 | 0, _, _, _, _, _ => none
 | k + 1, x3, x20, x325000, x325001, x325002 => if x20 = true then (some false) else (tabardref12_Right.l0 k x3 0 x325000 x325001 x325002)
def tabardref12_Right.l0 : Nat → Int → Int → List ByteArray → List Bool → List (List Int) → Option (Bool)
 | 0, _, _, _, _, _ => none
 | k + 1, x3, x4, x325000, x325001, x325002 => if x4 < x3 then (if 0 ≤ x4 then (if x4 < (x325002.length : Int) then ((tabardref12_Letters.f k (x325000.length : Int)).bind fun t327 => (if ((rd_L1 x325002 x4).length : Int) = t327 then (tabardref12_Right.l1 k x3 x4 0 x325000 x325001 x325002) else (some false))) else (none)) else (none)) else (some true)
def tabardref12_Right.l1 : Nat → Int → Int → Int → List ByteArray → List Bool → List (List Int) → Option (Bool)
 | 0, _, _, _, _, _, _ => none
 | k + 1, x3, x4, x5, x325000, x325001, x325002 => if 0 ≤ x4 then (if x4 < (x325002.length : Int) then (if x5 < ((rd_L1 x325002 x4).length : Int) then (if 0 ≤ x5 then (if (rd (rd_L1 x325002 x4) x5) < 0 then (some false) else (if (rd (rd_L1 x325002 x4) x5) ≥ x3 then (some false) else (tabardref12_Right.l1 k x3 x4 (wrap64 (x5 + 1)) x325000 x325001 x325002))) else (none)) else (tabardref12_Right.l0 k x3 (wrap64 (x4 + 1)) x325000 x325001 x325002)) else (none)) else (none)
end
def tabardref12_Right.f (k : Nat) (l0_0 : List ByteArray) (l0_1 : List Bool) (l0_2 : List (List Int)) : Option (Bool) := (tabardref12_Frame.f k l0_0 (l0_1.length : Int)).bind fun t325 => (if t325 = true then (tabardref12_Right.j0 k (l0_1.length : Int) ((l0_2.length : Int) != (l0_1.length : Int)) l0_0 l0_1 l0_2) else (tabardref12_Right.j0 k (l0_1.length : Int) true l0_0 l0_1 l0_2))
theorem tabardref12_Right.mono_l : ∀ k, (∀ y0 y1 y2 y3 y4, LeO (tabardref12_Right.j0 k y0 y1 y2 y3 y4) (tabardref12_Right.j0 (k + 1) y0 y1 y2 y3 y4)) ∧ (∀ y0 y1 y2 y3 y4, LeO (tabardref12_Right.l0 k y0 y1 y2 y3 y4) (tabardref12_Right.l0 (k + 1) y0 y1 y2 y3 y4)) ∧ (∀ y0 y1 y2 y3 y4 y5, LeO (tabardref12_Right.l1 k y0 y1 y2 y3 y4 y5) (tabardref12_Right.l1 (k + 1) y0 y1 y2 y3 y4 y5))
 | 0 => ⟨fun _ _ _ _ _ r h => by simp [tabardref12_Right.j0] at h, fun _ _ _ _ _ r h => by simp [tabardref12_Right.l0] at h, fun _ _ _ _ _ _ r h => by simp [tabardref12_Right.l1] at h⟩
 | k + 1 => by
  obtain ⟨ih0, ih1, ih2⟩ := tabardref12_Right.mono_l k; refine ⟨?_, ?_, ?_⟩
  ·intro y0 y1 y2 y3 y4
   unfold tabardref12_Right.j0
   repeat' first | (with_reducible first | exact ih0 _ _ _ _ _ | exact ih1 _ _ _ _ _ | exact ih2 _ _ _ _ _ _ | exact tabardref12_Frame.mono _ _ _ | exact tabardref12_Letters.mono _ _ | exact lA | apply lI | refine lB ?_ fun _ => ?_) | exact lN _ | apply lI | refine lB ?_ fun _ => ?_
  ·intro y0 y1 y2 y3 y4
   unfold tabardref12_Right.l0
   repeat' first | (with_reducible first | exact ih0 _ _ _ _ _ | exact ih1 _ _ _ _ _ | exact ih2 _ _ _ _ _ _ | exact tabardref12_Frame.mono _ _ _ | exact tabardref12_Letters.mono _ _ | exact lA | apply lI | refine lB ?_ fun _ => ?_) | exact lN _ | apply lI | refine lB ?_ fun _ => ?_
  ·intro y0 y1 y2 y3 y4 y5
   unfold tabardref12_Right.l1
   repeat' first | (with_reducible first | exact ih0 _ _ _ _ _ | exact ih1 _ _ _ _ _ | exact ih2 _ _ _ _ _ _ | exact tabardref12_Frame.mono _ _ _ | exact tabardref12_Letters.mono _ _ | exact lA | apply lI | refine lB ?_ fun _ => ?_) | exact lN _ | apply lI | refine lB ?_ fun _ => ?_
theorem tabardref12_Right.mono : ∀ a0 a1 a2 k, LeO (tabardref12_Right.f k a0 a1 a2) (tabardref12_Right.f (k + 1) a0 a1 a2) := by
 intro a0 a1 a2 k; obtain ⟨ih0, ih1, ih2⟩ := tabardref12_Right.mono_l k
 unfold tabardref12_Right.f
 repeat' first | (with_reducible first | exact ih0 _ _ _ _ _ | exact ih1 _ _ _ _ _ | exact ih2 _ _ _ _ _ _ | exact tabardref12_Frame.mono _ _ _ | exact tabardref12_Letters.mono _ _ | exact lA | apply lI | refine lB ?_ fun _ => ?_) | exact lN _ | apply lI | refine lB ?_ fun _ => ?_
theorem tabardref12_Right.calls (k : Nat) (al : Option Addr) (am : Nat) (E : List ByteArray) (an : Option Addr) (ao : Nat) (F : List Bool) (au : Option Addr) (ap : Nat) (B : List (List Int)) (r : Bool) (w : World) (bh : Kd.C Kd.string w al E.length E) (bi : E.length ≤ am) (bj : Kd.C Kd.bool w an F.length F) (bk : F.length ≤ ao) (bl : Kd.C (Kd.slice 3 (Kd.int .i64)) w au B.length B) (bm : B.length ≤ ap) (h : tabardref12_Right.f k E F B = some r) :
  Calls Try.prog 14 #[.agg #[.slice al E.length am, .slice an F.length ao, .slice au B.length ap]] w fun e w' => e = .returned (.bool r) ∧ Below w.heap.size w w' := by
 have hu26 := Try.underlying26; have aq := aM bh; have ar := aM bi; clear bh bi; have cL := aM bj; have cM := aM bk; clear bj bk; have V := aM bl; have cN := aM bm; clear bl bm; have HB := aM (Below.refl w.heap.size w); rw [tabardref12_Right.f] at h; have H := h; clear h; have bC := aM H; clear H
 go_enter Try.func14, Try.ntmps14
 go_upto_region 2 with (first | ((with_reducible refine gate_dst (N := 1) rfl ?_); (try (refine gate_guard (by rfl) ?_; dsimp only)); refine be_ (cs := #[.slice al E.length am, .slice an F.length ao, .slice au B.length ap]) (t := 26) ?_; intro aD hg w3 bx hb; have A := aM (bx); have bo := gE hg (bP0 HB); have G := gE hg (bP0 HB); replace HB := hS0 HB hb; clear hb bx hg; obtain ⟨aW, aX, aY, aZ, a3, a4⟩ := bG3 A))
 repeat (go_quiet (first | ((with_reducible refine gate_dst (N := 1) rfl ?_); (try (refine gate_guard (by rfl) ?_; dsimp only)); refine be_ (cs := #[.slice al E.length am, .slice an F.length ao, .slice au B.length ap]) (t := 26) ?_; intro aD hg w3 bx hb; have A := aM (bx); have bo := gE hg (bP0 HB); have G := gE hg (bP0 HB); replace HB := hS0 HB hb; clear hb bx hg; obtain ⟨aW, aX, aY, aZ, a3, a4⟩ := bG3 A)); go_upto_region 2 with (first | ((with_reducible refine gate_dst (N := 1) rfl ?_); (try (refine gate_guard (by rfl) ?_; dsimp only)); refine be_ (cs := #[.slice al E.length am, .slice an F.length ao, .slice au B.length ap]) (t := 26) ?_; intro aD hg w3 bx hb; have A := aM (bx); have bo := gE hg (bP0 HB); have G := gE hg (bP0 HB); replace HB := hS0 HB hb; clear hb bx hg; obtain ⟨aW, aX, aY, aZ, a3, a4⟩ := bG3 A)))
 (try simp only [Act.put, sA, sB, sC])
 go_cut [20] (fun cD wc => ∃ (kq : Nat) (aI : Bool), cD = .bool aI ∧ Aside0 (tabardref12_Right.j0 kq (F.length : Int) aI E F B = some r) ∧ Aside0 (kq ≤ k) ∧ Aside0 (wc.heap[aD]? = some (.cells #[(.slice al E.length am), (.slice an F.length ao), (.slice au B.length ap)] 26 (0, 0))) ∧ BA w wc)
 case first =>
  have H := bC.out; clear bC; apply bSx H; clear H; intro bT A5 H
  by_cases c6 : bT = true
  ·subst c6
   rw [if_pos rfl] at H; have H' := aM H; clear H; obtain ⟨cE, cF, cG, cH, cI, cJ⟩ := bG3 A
   go_wp2_with (first | (go_at_call 33; (with_reducible refine (tabardref12_Frame.calls k _ _ E (F.length : Int) true _ ?s1 ar.out A5.out).mono ?_); (case s1 => exact cB aq HB); rintro e w8 ⟨rfl, hb⟩; replace A := kB A hb; replace HB := hS1 HB G hb; (try clear hb); obtain ⟨a5, a6, a7, a8, a9, ba⟩ := bG3 A))
   repeat (go_quiet (first | (go_at_call 33; (with_reducible refine (tabardref12_Frame.calls k _ _ E (F.length : Int) true _ ?s1 ar.out A5.out).mono ?_); (case s1 => exact cB aq HB); rintro e w8 ⟨rfl, hb⟩; replace A := kB A hb; replace HB := hS1 HB G hb; (try clear hb); obtain ⟨a5, a6, a7, a8, a9, ba⟩ := bG3 A)); try go_wp2_with (first | (go_at_call 33; (with_reducible refine (tabardref12_Frame.calls k _ _ E (F.length : Int) true _ ?s1 ar.out A5.out).mono ?_); (case s1 => exact cB aq HB); rintro e w8 ⟨rfl, hb⟩; replace A := kB A hb; replace HB := hS1 HB G hb; (try clear hb); obtain ⟨a5, a6, a7, a8, a9, ba⟩ := bG3 A)))
   go_meet
   case rel => exact ⟨_, (((B.length : Int) != (F.length : Int))), sI, H', lE, kQ A, bT1 HB G⟩
  ·replace c6 := Bool.eq_false_iff.mpr c6; subst c6
   rw [if_neg nF] at H; have H' := aM H; clear H; obtain ⟨bU, bV, bW, bX, bY, bZ⟩ := bG3 A
   go_wp2_with (first | (go_at_call 33; (with_reducible refine (tabardref12_Frame.calls k _ _ E (F.length : Int) false _ ?s1 ar.out A5.out).mono ?_); (case s1 => exact cB aq HB); rintro e bR ⟨rfl, hb⟩; replace A := kB A hb; replace HB := hS1 HB G hb; (try clear hb)))
   repeat (go_quiet (first | (go_at_call 33; (with_reducible refine (tabardref12_Frame.calls k _ _ E (F.length : Int) false _ ?s1 ar.out A5.out).mono ?_); (case s1 => exact cB aq HB); rintro e bR ⟨rfl, hb⟩; replace A := kB A hb; replace HB := hS1 HB G hb; (try clear hb))); try go_wp2_with (first | (go_at_call 33; (with_reducible refine (tabardref12_Frame.calls k _ _ E (F.length : Int) false _ ?s1 ar.out A5.out).mono ?_); (case s1 => exact cB aq HB); rintro e bR ⟨rfl, hb⟩; replace A := kB A hb; replace HB := hS1 HB G hb; (try clear hb))))
   go_meet
   case rel => exact ⟨_, (true), sI, H', lE, kQ A, bT1 HB G⟩
 case rest =>
  clear bC
  obtain ⟨kq, aI, rfl, HA, HJ1, A, HB⟩ := hcut; cases kq with
  | zero => exact absurd HA.out (by simp [tabardref12_Right.j0])
  | succ bS =>
   have H := HA.out; clear HA; simp only [tabardref12_Right.j0] at H
   by_cases bp : aI = true
   ·subst bp
    rw [if_pos rfl] at H; obtain rfl := Option.some.inj H
    go_wp2
    repeat (go_quiet (fail); try go_wp2)
    go_ret
    exact ⟨eW, bS1 HB.out G.out⟩
   ·replace bp := Bool.eq_false_iff.mpr bp; subst bp
    rw [if_neg nF] at H; have H' := aM H; clear H
    go_wp2
    repeat (go_quiet (fail); try go_wp2)
    go_loopg [4] bS (fun kq v4 w' => ∃ (z : Int), v4 = .int .i64 z ∧ Aside0 (tabardref12_Right.l0 kq (F.length : Int) z E F B = some r) ∧ Aside0 (kq ≤ bS) ∧ Aside0 (w'.heap[aD]? = some (.cells #[(.slice al E.length am), (.slice an F.length ao), (.slice au B.length ap)] 26 (0, 0))) ∧ BA w w')
    case atStart => exact ⟨(0), sI, H', ⟨Nat.le_refl _⟩, kQ A, bT1 HB G⟩
    case round =>
     clear H'
     obtain ⟨z, rfl, HA, cK, A, HB⟩ := hrel; cases gk with
     | zero => exact absurd HA.out (by simp [tabardref12_Right.l0])
     | succ k2 =>
      have H := HA.out; clear HA; simp only [tabardref12_Right.l0] at H
      apply iB H <;> clear H <;> intro aP H
      ·have bJ := dT aP; clear aP
       apply iN H; clear H; intro br H; have cO := dT br; clear br
       apply iN H; clear H; intro bs H; have cP := dT bs; clear bs; apply bSx H; clear H; intro av aQ H
       apply iB H <;> clear H <;> intro bb H
       ·obtain ⟨bK, bL⟩ := bq bb; clear bb; have H' := aM H; clear H; obtain ⟨b0, b1, b2, b3, b4, b5⟩ := bG3 A; have aw : 0 ≤ (z : Int) := oT aO; have ax : z < (B.length : Int) := oT aO; obtain ⟨W, bE, bF, be, ad, ae, af⟩ := at_L1 V.out z aw ax; cases be; replace ad := cX HB ad; have bz := aM af; have bA := aM ae; clear af ae; replace aw := eq_true aw; replace ax := eq_true ax
        go_wp2_with (first | (go_at_call 34; (with_reducible refine (tabardref12_Letters.calls k2 (E.length : Int) av _ aQ.out).mono ?_); rintro e w' ⟨rfl, ⟨nd, rfl⟩⟩; (try exact dN)))
        repeat (go_quiet (first | (go_at_call 34; (with_reducible refine (tabardref12_Letters.calls k2 (E.length : Int) av _ aQ.out).mono ?_); rintro e w' ⟨rfl, ⟨nd, rfl⟩⟩; (try exact dN))); try go_wp2_with (first | (go_at_call 34; (with_reducible refine (tabardref12_Letters.calls k2 (E.length : Int) av _ aQ.out).mono ?_); rintro e w' ⟨rfl, ⟨nd, rfl⟩⟩; (try exact dN))))
        go_loopg [5] k2 (fun kq v5 w' => ∃ (I : Int), v5 = .int .i64 I ∧ Aside0 (tabardref12_Right.l1 kq (F.length : Int) z I E F B = some r) ∧ Aside0 (kq ≤ k2) ∧ Aside0 (w'.heap[aD]? = some (.cells #[(.slice al E.length am), (.slice an F.length ao), (.slice (some W) B.length ap)] 26 (0, 0))) ∧ BA w w')
        case atStart => exact ⟨(0), sI, H', ⟨Nat.le_refl _⟩, kQ A, bT1 HB G⟩
        case round =>
         clear H'
         obtain ⟨I, rfl, HA, cT, A, HB⟩ := hrel; cases gk with
         | zero => exact absurd HA.out (by simp [tabardref12_Right.l1])
         | succ k3 =>
          have H := HA.out; clear HA; simp only [tabardref12_Right.l1] at H
          apply iN H; clear H; intro bt H; have cQ := dT bt; clear bt
          apply iN H; clear H; intro bu H; have cR := dT bu; clear bu
          apply iB H <;> clear H <;> intro aR H
          ·have bM := dT aR; clear aR
           apply iN H; clear H; intro bv H; have cS := dT bv; clear bv
           apply iB H <;> clear H <;> intro aS H
           ·have bN := dT aS; clear aS; obtain rfl := Option.some.inj H; obtain ⟨b6, b7, b8, b9, ca, cb⟩ := bG3 A; have O : 0 ≤ (z : Int) := oT aO; have P : z < (B.length : Int) := oT aO; obtain ⟨ak, aJ, aK, ay, D, J, L⟩ := at_L1 V.out z O P; obtain rfl := sJJ ay; replace D := cX HB D; have aF := aM L; have aG := aM J; clear L J; replace O := eq_true O; replace P := eq_true P; have Z : 0 ≤ (z : Int) := oT aO; have aa : z < (B.length : Int) := oT aO; obtain ⟨aE, bc, bd, aL, M, Q, R⟩ := at_L1 V.out z Z aa; obtain rfl := sJJ aL; replace M := cX HB M; have ag := aM R; have aT := aM Q; clear R Q; replace Z := eq_true Z; replace aa := eq_true aa; have ea_ := Option.some.inj (D.symm.trans M)
            injection ea_ with ea_ en_ ec_
            subst ea_; subst ec_; clear en_; obtain ⟨⟨bw, aN, U⟩, ab, ac⟩ := xAt (Kd.at_int ag.out) I; cases aN; replace U := cX HB U
            go_wp2
            repeat (go_quiet (fail); try go_wp2)
            go_ret
            exact ⟨eW, bS1 HB.out G.out⟩
           ·have bN := decide_eq_false aS; clear aS
            apply iB H <;> clear H <;> intro aU H
            ·have bO := dT aU; clear aU; obtain rfl := Option.some.inj H; obtain ⟨cc, cd, ce, cf, cg, ch⟩ := bG3 A; have O : 0 ≤ (z : Int) := oT aO; have P : z < (B.length : Int) := oT aO; obtain ⟨ak, aJ, aK, ay, D, J, L⟩ := at_L1 V.out z O P; obtain rfl := sJJ ay; replace D := cX HB D; have aF := aM L; have aG := aM J; clear L J; replace O := eq_true O; replace P := eq_true P; have Z : 0 ≤ (z : Int) := oT aO; have aa : z < (B.length : Int) := oT aO; obtain ⟨aE, bc, bd, aL, M, Q, R⟩ := at_L1 V.out z Z aa; obtain rfl := sJJ aL; replace M := cX HB M; have ag := aM R; have aT := aM Q; clear R Q; replace Z := eq_true Z; replace aa := eq_true aa; have ea_ := Option.some.inj (D.symm.trans M)
             injection ea_ with ea_ en_ ec_
             subst ea_; subst ec_; clear en_; obtain ⟨⟨bw, aN, U⟩, ab, ac⟩ := xAt (Kd.at_int ag.out) I; cases aN; replace U := cX HB U; have az : 0 ≤ (z : Int) := oT aO; have aA : z < (B.length : Int) := oT aO; obtain ⟨aV, bG, bH, bf, Y, ah, ai⟩ := at_L1 V.out z az aA; obtain rfl := sJJ bf; replace Y := cX HB Y; have aH := aM ai; have bB := aM ah; clear ai ah; replace az := eq_true az; replace aA := eq_true aA; have ea_ := Option.some.inj (D.symm.trans Y)
             injection ea_ with ea_ en_ ec_
             subst ea_; subst ec_; clear en_; obtain ⟨⟨bP, bg, aj⟩, aB, aC⟩ := xAt (Kd.at_int aH.out) I; cases bg; replace aj := cX HB aj
             go_wp2
             repeat (go_quiet (fail); try go_wp2)
             go_ret
             exact ⟨eW, bS1 HB.out G.out⟩
            ·have bO := decide_eq_false aU; clear aU; have H' := aM H; clear H; obtain ⟨ci, cj, ck, cl, cm, cn⟩ := bG3 A; have O : 0 ≤ (z : Int) := oT aO; have P : z < (B.length : Int) := oT aO; obtain ⟨ak, aJ, aK, ay, D, J, L⟩ := at_L1 V.out z O P; obtain rfl := sJJ ay; replace D := cX HB D; have aF := aM L; have aG := aM J; clear L J; replace O := eq_true O; replace P := eq_true P; have Z : 0 ≤ (z : Int) := oT aO; have aa : z < (B.length : Int) := oT aO; obtain ⟨aE, bc, bd, aL, M, Q, R⟩ := at_L1 V.out z Z aa; obtain rfl := sJJ aL; replace M := cX HB M; have ag := aM R; have aT := aM Q; clear R Q; replace Z := eq_true Z; replace aa := eq_true aa; have ea_ := Option.some.inj (D.symm.trans M)
             injection ea_ with ea_ en_ ec_
             subst ea_; subst ec_; clear en_; obtain ⟨⟨bw, aN, U⟩, ab, ac⟩ := xAt (Kd.at_int ag.out) I; cases aN; replace U := cX HB U; have az : 0 ≤ (z : Int) := oT aO; have aA : z < (B.length : Int) := oT aO; obtain ⟨aV, bG, bH, bf, Y, ah, ai⟩ := at_L1 V.out z az aA; obtain rfl := sJJ bf; replace Y := cX HB Y; have aH := aM ai; have bB := aM ah; clear ai ah; replace az := eq_true az; replace aA := eq_true aA; have ea_ := Option.some.inj (D.symm.trans Y)
             injection ea_ with ea_ en_ ec_
             subst ea_; subst ec_; clear en_; obtain ⟨⟨bP, bg, aj⟩, aB, aC⟩ := xAt (Kd.at_int aH.out) I; cases bg; replace aj := cX HB aj
             go_wp2
             repeat (go_quiet (fail); try go_wp2)
             go_roundg k3
             case measure => have := HJ1.out; have := cK.out; have := cT.out; omega
             case rel => exact ⟨(wrap64 (I + 1)), sI, H', ⟨by have := HJ1.out; have := cK.out; have := cT.out; omega⟩, kQ A, bT1 HB G⟩
          ·have bM := decide_eq_false aR; clear aR; have H' := aM H; clear H; obtain ⟨co, cp, cq, cr, ct, cu⟩ := bG3 A; have O : 0 ≤ (z : Int) := oT aO; have P : z < (B.length : Int) := oT aO; obtain ⟨ak, aJ, aK, ay, D, J, L⟩ := at_L1 V.out z O P; obtain rfl := sJJ ay; replace D := cX HB D; have aF := aM L; have aG := aM J; clear L J; replace O := eq_true O; replace P := eq_true P
           go_wp2
           repeat (go_quiet (fail); try go_wp2)
           go_roundg k3
           case measure => have := HJ1.out; have := cK.out; have := cT.out; omega
           case rel => exact ⟨(wrap64 (z + 1)), sI, H', ⟨by have := HJ1.out; have := cK.out; have := cT.out; omega⟩, kQ A, bT1 HB G⟩
       ·obtain ⟨bK, bL⟩ := bn bb; obtain rfl := Option.some.inj H; obtain ⟨cv, cw, cx, cy, cz, cA⟩ := bG3 A; have aw : 0 ≤ (z : Int) := oT aO; have ax : z < (B.length : Int) := oT aO; obtain ⟨W, bE, bF, be, ad, ae, af⟩ := at_L1 V.out z aw ax; cases be; replace ad := cX HB ad; have bz := aM af; have bA := aM ae; clear af ae; replace aw := eq_true aw; replace ax := eq_true ax
        go_wp2_with (first | (go_at_call 34; (with_reducible refine (tabardref12_Letters.calls k2 (E.length : Int) av _ aQ.out).mono ?_); rintro e w' ⟨rfl, ⟨nd, rfl⟩⟩; (try exact dN)))
        repeat (go_quiet (first | (go_at_call 34; (with_reducible refine (tabardref12_Letters.calls k2 (E.length : Int) av _ aQ.out).mono ?_); rintro e w' ⟨rfl, ⟨nd, rfl⟩⟩; (try exact dN))); try go_wp2_with (first | (go_at_call 34; (with_reducible refine (tabardref12_Letters.calls k2 (E.length : Int) av _ aQ.out).mono ?_); rintro e w' ⟨rfl, ⟨nd, rfl⟩⟩; (try exact dN))))
        go_ret
        exact ⟨eW, bS1 HB.out G.out⟩
      ·have bJ := decide_eq_false aP; clear aP; obtain rfl := Option.some.inj H
       go_wp2
       repeat (go_quiet (fail); try go_wp2)
       go_ret
       exact ⟨eW, bS1 HB.out G.out⟩

end Go.Proofs.Ytbpeloobnjbgkaa.X

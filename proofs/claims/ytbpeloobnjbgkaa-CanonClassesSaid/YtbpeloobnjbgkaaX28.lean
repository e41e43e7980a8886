/- What the functions of this seat compute, and that the program's calls come to just that: written by this session's own program out of the translation; no condition. -/
import Derived.Test.YtbpeloobnjbgkaaX0
import Derived.Test.YtbpeloobnjbgkaaX1
import Derived.Test.YtbpeloobnjbgkaaX11
import Derived.Test.YtbpeloobnjbgkaaX14
import Derived.Test.YtbpeloobnjbgkaaX15
import Derived.Test.YtbpeloobnjbgkaaX19
import Derived.Test.YtbpeloobnjbgkaaX25
import Derived.Test.YtbpeloobnjbgkaaX27
namespace Go.Proofs.Ytbpeloobnjbgkaa.X
open Go.RowKit Go.Proofs.YtbpeloobnjbgkaaW.PrintWords Go.Proofs.YtbpeloobnjbgkaaW.PrintLast Go.Proofs.YtbpeloobnjbgkaaW.PrintMore
attribute [local go_sem] max2_int min2_int max_two min_two max_three min_three max_four min_four
set_option linter.unusedVariables false
set_option linter.unusedSimpArgs false
set_option maxHeartbeats 8000000
set_option maxRecDepth 100000

/-! ### tabardlaw13_CanonClasses: function 3 -/
def tabardlaw13_CanonClasses.j0 : Nat → List Int → Int → Bool → List ByteArray → List Bool → List (List Int) → Option (Bool)
 | 0, _, _, _, _, _, _ => none
 | k + 1, x4, x5, x20, x361000, x361001, x361002 => if x20 = true then (some false) else ((tabardref12_Right.f k x361000 x361001 x361002).bind fun t377 => (if t377 = true then (if x5 = 0 then ((tabardref13_Classes.f k x361000 x361001 x361002).bind fun t378 => ((tabardlaw13_ints.f k x4 t378).bind fun t381 => (some t381))) else (some false)) else (if (x4.length : Int) = 0 then (some (x5 == 3)) else (some false))))
def tabardlaw13_CanonClasses.f (k : Nat) (l0_0 : List ByteArray) (l0_1 : List Bool) (l0_2 : List (List Int)) : Option (Bool) := (tabardref12_CopyDense.f k l0_0 l0_1 l0_2).bind fun bt361 => ((canon_Classes.f k bt361.1 bt361.2.1 bt361.2.2).bind fun bt371 => ((tabardlaw13_fixed.f k).bind fun t375 => (if t375 = true then ((tabardref12_SameDense.f k bt361.1 bt361.2.1 bt361.2.2 l0_0 l0_1 l0_2).bind fun t376 => (tabardlaw13_CanonClasses.j0 k bt371.1 bt371.2 (!t376) l0_0 l0_1 l0_2)) else (tabardlaw13_CanonClasses.j0 k bt371.1 bt371.2 true l0_0 l0_1 l0_2))))
theorem tabardlaw13_CanonClasses.mono_l : ∀ k, (∀ y0 y1 y2 y3 y4 y5, LeO (tabardlaw13_CanonClasses.j0 k y0 y1 y2 y3 y4 y5) (tabardlaw13_CanonClasses.j0 (k + 1) y0 y1 y2 y3 y4 y5))
 | 0 => fun _ _ _ _ _ _ r h => by simp [tabardlaw13_CanonClasses.j0] at h
 | k + 1 => by
  have ih0 := tabardlaw13_CanonClasses.mono_l k
  ·intro y0 y1 y2 y3 y4 y5
   unfold tabardlaw13_CanonClasses.j0
   repeat' first | (with_reducible first | exact ih0 _ _ _ _ _ _ | exact canon_Classes.mono _ _ _ _ | exact tabardlaw13_fixed.mono _ | exact tabardlaw13_ints.mono _ _ _ | exact tabardref12_CopyDense.mono _ _ _ _ | exact tabardref12_Right.mono _ _ _ _ | exact tabardref12_SameDense.mono _ _ _ _ _ _ _ | exact tabardref13_Classes.mono _ _ _ _ | exact lA | apply lI | refine lB ?_ fun _ => ?_) | exact lN _ | apply lI | refine lB ?_ fun _ => ?_
theorem tabardlaw13_CanonClasses.mono : ∀ a0 a1 a2 k, LeO (tabardlaw13_CanonClasses.f k a0 a1 a2) (tabardlaw13_CanonClasses.f (k + 1) a0 a1 a2) := by
 intro a0 a1 a2 k; have ih0 := tabardlaw13_CanonClasses.mono_l k
 unfold tabardlaw13_CanonClasses.f
 repeat' first | (with_reducible first | exact ih0 _ _ _ _ _ _ | exact canon_Classes.mono _ _ _ _ | exact tabardlaw13_fixed.mono _ | exact tabardlaw13_ints.mono _ _ _ | exact tabardref12_CopyDense.mono _ _ _ _ | exact tabardref12_Right.mono _ _ _ _ | exact tabardref12_SameDense.mono _ _ _ _ _ _ _ | exact tabardref13_Classes.mono _ _ _ _ | exact lA | apply lI | refine lB ?_ fun _ => ?_) | exact lN _ | apply lI | refine lB ?_ fun _ => ?_
theorem tabardlaw13_CanonClasses.calls (k : Nat) (ab : Option Addr) (ac : Nat) (D : List ByteArray) (ad : Option Addr) (ae : Nat) (E : List Bool) (af : Option Addr) (ag : Nat) (F : List (List Int)) (r : Bool) (w : World) (aE : Kd.C Kd.string w ab D.length D) (aF : D.length ≤ ac) (aG : Kd.C Kd.bool w ad E.length E) (aH : E.length ≤ ae) (aI : Kd.C (Kd.slice 3 (Kd.int .i64)) w af F.length F) (aJ : F.length ≤ ag) (h : tabardlaw13_CanonClasses.f k D E F = some r) :
  Calls Try.prog 3 #[.agg #[.slice ab D.length ac, .slice ad E.length ae, .slice af F.length ag]] w fun e w' => e = .returned (.bool r) ∧ Below w.heap.size w w' := by
 have hu26 := Try.underlying26; have ah := aM aE; have ai := aM aF; clear aE aF; have aj := aM aG; have ak := aM aH; clear aG aH; have al := aM aI; have am := aM aJ; clear aI aJ; have HB := aM (Below.refl w.heap.size w); rw [tabardlaw13_CanonClasses.f] at h; have H := h; clear h; replace H := Option.bind_eq_some_iff.mp H; obtain ⟨⟨W, Y, Z⟩, a8, H⟩ := H; replace H : ((canon_Classes.f k W Y Z).bind fun aq => ((tabardlaw13_fixed.f k).bind fun au => (if au = true then ((tabardref12_SameDense.f k W Y Z D E F).bind fun ap => (tabardlaw13_CanonClasses.j0 k aq.1 aq.2 (!ap) D E F)) else (tabardlaw13_CanonClasses.j0 k aq.1 aq.2 true D E F)))) = some r := H; have A2 := aM a8; clear a8; replace H := Option.bind_eq_some_iff.mp H; obtain ⟨⟨an, av⟩, a9, H⟩ := H; replace H : ((tabardlaw13_fixed.f k).bind fun au => (if au = true then ((tabardref12_SameDense.f k W Y Z D E F).bind fun ap => (tabardlaw13_CanonClasses.j0 k an av (!ap) D E F)) else (tabardlaw13_CanonClasses.j0 k an av true D E F))) = some r := H; have A3 := aM a9; clear a9; have aQ := aM H; clear H
 go_enter Try.func3, Try.ntmps3
 go_upto_region 3 with (first | ((with_reducible refine gate_dst (N := 1) rfl ?_); refine be_ (cs := #[.slice ab D.length ac, .slice ad E.length ae, .slice af F.length ag]) (t := 26) ?_; intro aZ hg w5 R hb; have z := aM (R); have cl := gE hg (bP0 HB); have B := gE hg (bP0 HB); replace HB := hS0 HB hb; clear hb R hg; obtain ⟨ca, cb, cc, cd, ce, cf⟩ := bG3 z) | ((with_reducible refine gate_callee (f := 10) rfl ?_); refine gL_ (some 7) Try.func10 #[.agg #[.slice ab D.length ac, .slice ad E.length ae, .slice af F.length ag]] ?_; (with_reducible refine (tabardref12_CopyDense.calls k _ _ D _ _ E _ _ F W Y Z _ ?s1 ai.out ?s3 ak.out ?s5 am.out A2.out).mono ?_); (case s1 => exact cB ah HB); (case s3 => exact cB aj HB); (case s5 => exact cB al HB); rintro e w7 ⟨cE, cF, cG, rfl, ao, ba, bb, hb⟩; refine ⟨_, rfl, ?_⟩; have M := rW ao (bP1 HB B); have O := rW ba (bP1 HB B); have P := aM (Kd.S_lower bb (below_size (bP1 HB B))); replace z := kB z hb; replace HB := hS1 HB B hb; (try clear hb); (try clear ao); (try clear ba); (try clear bb)) | ((with_reducible refine gate_dst (N := 3) rfl ?_); refine be_ (cs := #[.slice none 0 0, .slice none 0 0, .slice none 0 0]) (t := 26) ?_; intro a3 hg w8 R hb; replace M := rB M hb; replace O := rB O hb; replace P := aM (Kd.S_below (by (with_reducible repeat (first | apply Kd.S_alloc | apply Kd.S_drewN | apply Kd.S_drew)); exact P.out) hb); have A := aM (R); have cm := gE hg (bP1 HB B); have L := gE hg (bP1 HB B); replace HB := hS1 HB B hb; have Q := nL hg z; have V := nG hg z; replace z := kB z hb; clear hb R hg; obtain ⟨aR, aK, rfl⟩ := sL M; have cn := V.out; have co := Q.out; obtain ⟨bl, bm, bo, bp, br, bs⟩ := bG3 A; obtain ⟨aC, ay, rfl⟩ := sL O; obtain ⟨aD, az, be⟩ := Kd.S_slice P.out; subst be) | ((with_reducible refine gate_callee (f := 11) rfl ?_); refine gL_ (some 10) Try.func11 #[.agg #[.slice aR W.length aK, .slice aC Y.length ay, .slice aD Z.length az]] ?_; (with_reducible refine (canon_Classes.calls k _ _ W _ _ Y _ _ Z an av _ ?s1 (rR M).2.1 ?s3 (rR O).2.1 ?s5 ?s6 A3.out).mono ?_); (case s1 => refine (Kd.R_reads' (e := 9) (base := w.heap.size) (ok := fun k_ => True) (n := W.length) (c := aK) ?_).2.2; exact (rY M A)); (case s3 => refine (Kd.R_reads' (e := 4) (base := w.heap.size) (ok := fun k_ => True) (n := Y.length) (c := ay) ?_).2.2; exact (rY O A)); (case s5 => refine (Kd.S_reads' (e := 28) (base := w.heap.size) (ok := fun k_ => True) (n := Z.length) (c := az) ?_).2.2; exact (sY P A)); (case s6 => exact (Kd.S_reads' P.out).2.1); rintro e cR ⟨aS, rfl, ao, hb⟩; refine ⟨_, rfl, ?_⟩; replace M := rX M A hb; replace O := rX O A hb; replace P := aM (Kd.S_elder' (sY P A) (Kd.R_base ao) hb); have aa := rW ao (bP2 HB B L); replace z := kX1 z Q hb; replace A := kP3 A hb; replace HB := hS2 HB B L hb; (try clear hb); (try clear ao)))
 (try simp only [Act.put, sA, sB, sC])
 go_cut [20] (fun ch wc => ∃ (kq : Nat) (ar : Bool), ch = .bool ar ∧ Aside0 (tabardlaw13_CanonClasses.j0 kq an av ar D E F = some r) ∧ Aside0 (kq ≤ k) ∧ RA (Kd.int .i64) 3 wc w aS an ∧ RA Kd.string 9 wc w (.slice aR W.length aK) W ∧ RA Kd.bool 4 wc w (.slice aC Y.length ay) Y ∧ Aside0 (Kd.S (Kd.slice 3 (Kd.int .i64)) 28 wc w.heap.size (fun k_ => some k_ ≠ (aS : Value).ownBlock) (.slice aD Z.length az) Z) ∧ Aside0 (wc.heap[aZ]? = some (.cells #[(.slice ab D.length ac), (.slice ad E.length ae), (.slice af F.length ag)] 26 (0, 0))) ∧ Aside0 (wc.heap[a3]? = some (.cells #[(.slice aR W.length aK), (.slice aC Y.length ay), (.slice aD Z.length az)] 26 (0, 0))) ∧ BA w wc)
 case first =>
  have H := aQ.out; clear aQ; apply bSx H; clear H; intro au bc H
  by_cases aL : au = true
  ·subst aL
   rw [if_pos rfl] at H; apply bSx H; clear H; intro ap ci H; have H' := aM H; clear H
   go_wp2_with (first | ((with_reducible refine gate_callee (f := 12) rfl ?_); refine gL_ (some 13) Try.func12 #[] ?_; (with_reducible refine (tabardlaw13_fixed.calls k  true _ bc.out).mono ?_); rintro e cS ⟨rfl, hb⟩; refine ⟨_, rfl, ?_⟩; replace M := rB M hb; replace O := rB O hb; replace P := aM (Kd.S_below (by (with_reducible repeat (first | apply Kd.S_alloc | apply Kd.S_drewN | apply Kd.S_drew)); exact P.out) hb); replace aa := rB aa hb; replace z := kB z hb; replace A := kB A hb; replace HB := hS2 HB B L hb; (try clear hb); have cp := V.out; have cq := Q.out; obtain ⟨bt, bu, bv, bw, bx, bz⟩ := bG3 A; obtain ⟨bA, bB, bC, bD, bE, bF⟩ := bG3 z) | (go_at_call 13; (with_reducible refine (tabardref12_SameDense.calls k _ _ W _ _ Y _ _ Z _ _ D _ _ E _ _ F ap _ ?s1 (rR M).2.1 ?s3 (rR O).2.1 ?s5 ?s6 ?s7 ai.out ?s9 ak.out ?s11 am.out ci.out).mono ?_); (case s1 => exact cO (rR M).2.2); (case s3 => exact cO (rR O).2.2); (case s5 => exact cO (Kd.S_reads' P.out).2.2); (case s6 => exact (Kd.S_reads' P.out).2.1); (case s7 => exact cB ah HB); (case s9 => exact cB aj HB); (case s11 => exact cB al HB); rintro e cT ⟨rfl, hb⟩; replace M := rB M hb; replace O := rB O hb; replace P := aM (Kd.S_below (by (with_reducible repeat (first | apply Kd.S_alloc | apply Kd.S_drewN | apply Kd.S_drew)); exact P.out) hb); replace aa := rB aa hb; replace z := kB z hb; replace A := kB A hb; replace HB := hS2 HB B L hb; (try clear hb)))
   go_meet
   case rel => exact ⟨_, (!ap), sI, H', lE, rQ aa, rQ M, rQ O, ⟨by (with_reducible repeat (first | apply Kd.S_alloc | apply Kd.S_drewN | apply Kd.S_drew)); exact Kd.S_mono P.out (fun _ hk => hk.2)⟩, kQ z, kQ A, bT2 HB B L⟩
  ·replace aL := Bool.eq_false_iff.mpr aL; subst aL
   rw [if_neg nF] at H; have H' := aM H; clear H
   go_wp2_with (first | ((with_reducible refine gate_callee (f := 12) rfl ?_); refine gL_ (some 13) Try.func12 #[] ?_; (with_reducible refine (tabardlaw13_fixed.calls k  false _ bc.out).mono ?_); rintro e cU ⟨rfl, hb⟩; refine ⟨_, rfl, ?_⟩; replace M := rB M hb; replace O := rB O hb; replace P := aM (Kd.S_below (by (with_reducible repeat (first | apply Kd.S_alloc | apply Kd.S_drewN | apply Kd.S_drew)); exact P.out) hb); replace aa := rB aa hb; replace z := kB z hb; replace A := kB A hb; replace HB := hS2 HB B L hb; (try clear hb)))
   go_meet
   case rel => exact ⟨_, (true), sI, H', lE, rQ aa, rQ M, rQ O, ⟨by (with_reducible repeat (first | apply Kd.S_alloc | apply Kd.S_drewN | apply Kd.S_drew)); exact Kd.S_mono P.out (fun _ hk => hk.2)⟩, kQ z, kQ A, bT2 HB B L⟩
 case rest =>
  clear aQ
  obtain ⟨kq, ar, rfl, HA, HJ3, U, G, I, J, z, A, HB⟩ := hcut; cases kq with
  | zero => exact absurd HA.out (by simp [tabardlaw13_CanonClasses.j0])
  | succ aw =>
   have H := HA.out; clear HA; simp only [tabardlaw13_CanonClasses.j0] at H
   by_cases aN : ar = true
   ·subst aN
    rw [if_pos rfl] at H; obtain rfl := Option.some.inj H
    go_wp2
    go_ret
    exact ⟨eW, bS2 HB.out B.out L.out⟩
   ·replace aN := Bool.eq_false_iff.mpr aN; subst aN
    rw [if_neg nF] at H; apply bSx H; clear H; intro bf aO H
    by_cases aP : bf = true
    ·subst aP
     rw [if_pos rfl] at H
     apply iB H <;> clear H <;> intro aB H
     ·obtain ⟨a4, a5⟩ := bq aB; clear aB; apply bSx H; clear H; intro aW cj H; apply bSx H; clear H; intro bg ck H; obtain rfl := Option.some.inj H; have cr := Q.out; have ct := V.out; obtain ⟨bG, bH, bI, bJ, bK, bL⟩ := bG3 z
      go_wp2_with (first | ((with_reducible refine gate_callee (f := 14) rfl ?_); refine gL_ (some 22) Try.func14 #[.agg #[.slice ab D.length ac, .slice ad E.length ae, .slice af F.length ag]] ?_; (with_reducible refine (tabardref12_Right.calls aw _ _ D _ _ E _ _ F true _ ?s1 ai.out ?s3 ak.out ?s5 am.out aO.out).mono ?_); (case s1 => exact cB ah HB); (case s3 => exact cB aj HB); (case s5 => exact cB al HB); rintro e cV ⟨rfl, hb⟩; refine ⟨_, rfl, ?_⟩; replace U := rB U hb; replace G := rB G hb; replace I := rB I hb; replace J := aM (Kd.S_below (by (with_reducible repeat (first | apply Kd.S_alloc | apply Kd.S_drewN | apply Kd.S_drew)); exact J.out) hb); replace z := kB z hb; replace A := kB A hb; replace HB := hS2 HB B L hb; (try clear hb); obtain ⟨bM, bN, bO, bP, bQ, bR⟩ := bG3 z) | (go_at_call 16; (with_reducible refine (tabardref13_Classes.calls aw _ _ D _ _ E _ _ F aW _ ?s1 ai.out ?s3 ak.out ?s5 am.out cj.out).mono ?_); (case s1 => exact cB ah HB); (case s3 => exact cB aj HB); (case s5 => exact cB al HB); rintro e cW ⟨cH, rfl, ao, hb⟩; replace G := rB G hb; replace I := rB I hb; replace J := aM (Kd.S_elder' (by (with_reducible repeat (first | apply Kd.S_alloc | apply Kd.S_drewN | apply Kd.S_drew)); exact J.out) (Kd.R_base ao) hb); have aA := rW (Kd.R_new' ao (Kd.R_lt (rP U))) (bP2 HB B L); replace U := aM (Kd.R_elder' (rP U) (Kd.R_base ao) hb); replace z := kB z hb; replace A := kB A hb; replace HB := hS2 HB B L hb; (try clear hb); (try clear ao); obtain ⟨cI, cJ, rfl⟩ := sL U; obtain ⟨cK, cL, rfl⟩ := sL aA) | (go_at_call 15; (with_reducible refine (tabardlaw13_ints.calls aw _ _ an _ _ aW bg _ ?s1 (rR U).2.1 ?s3 (rR aA).2.1 ck.out).mono ?_); (case s1 => exact cO (rR U).2.2); (case s3 => exact cO (rR aA).2.2); rintro e w' ⟨rfl, ⟨nd, rfl⟩⟩))
      go_ret
      exact ⟨eW, bS2 HB.out B.out L.out⟩
     ·obtain ⟨a4, a5⟩ := bn aB; obtain rfl := Option.some.inj H; have cu := Q.out; have cv := V.out; obtain ⟨bS, bT, bU, bV, bW, bX⟩ := bG3 z
      go_wp2_with (first | ((with_reducible refine gate_callee (f := 14) rfl ?_); refine gL_ (some 22) Try.func14 #[.agg #[.slice ab D.length ac, .slice ad E.length ae, .slice af F.length ag]] ?_; (with_reducible refine (tabardref12_Right.calls aw _ _ D _ _ E _ _ F true _ ?s1 ai.out ?s3 ak.out ?s5 am.out aO.out).mono ?_); (case s1 => exact cB ah HB); (case s3 => exact cB aj HB); (case s5 => exact cB al HB); rintro e cX ⟨rfl, hb⟩; refine ⟨_, rfl, ?_⟩; replace U := rB U hb; replace G := rB G hb; replace I := rB I hb; replace J := aM (Kd.S_below (by (with_reducible repeat (first | apply Kd.S_alloc | apply Kd.S_drewN | apply Kd.S_drew)); exact J.out) hb); replace z := kB z hb; replace A := kB A hb; replace HB := hS2 HB B L hb; (try clear hb)))
      go_ret
      exact ⟨eW, bS2 HB.out B.out L.out⟩
    ·replace aP := Bool.eq_false_iff.mpr aP; subst aP
     rw [if_neg nF] at H
     apply iB H <;> clear H <;> intro ax H
     ·obtain ⟨a6, a7⟩ := bq ax; clear ax; obtain rfl := Option.some.inj H; have cw := Q.out; have cx := V.out; obtain ⟨bY, bZ, b0, b1, b2, b3⟩ := bG3 z
      go_wp2_with (first | ((with_reducible refine gate_callee (f := 14) rfl ?_); refine gL_ (some 22) Try.func14 #[.agg #[.slice ab D.length ac, .slice ad E.length ae, .slice af F.length ag]] ?_; (with_reducible refine (tabardref12_Right.calls aw _ _ D _ _ E _ _ F false _ ?s1 ai.out ?s3 ak.out ?s5 am.out aO.out).mono ?_); (case s1 => exact cB ah HB); (case s3 => exact cB aj HB); (case s5 => exact cB al HB); rintro e cY ⟨rfl, hb⟩; refine ⟨_, rfl, ?_⟩; replace U := rB U hb; replace G := rB G hb; replace I := rB I hb; replace J := aM (Kd.S_below (by (with_reducible repeat (first | apply Kd.S_alloc | apply Kd.S_drewN | apply Kd.S_drew)); exact J.out) hb); replace z := kB z hb; replace A := kB A hb; replace HB := hS2 HB B L hb; (try clear hb); obtain ⟨cM, cN, rfl⟩ := sL U))
      go_ret
      exact ⟨eW, bS2 HB.out B.out L.out⟩
     ·obtain ⟨a6, a7⟩ := bn ax
      have cy : ¬ (an = []) := fun h_ => ax (by rw [h_]; rfl)
      obtain rfl := Option.some.inj H; have cz := Q.out; have cA := V.out; obtain ⟨b4, b5, b6, b7, b8, b9⟩ := bG3 z
      go_wp2_with (first | ((with_reducible refine gate_callee (f := 14) rfl ?_); refine gL_ (some 22) Try.func14 #[.agg #[.slice ab D.length ac, .slice ad E.length ae, .slice af F.length ag]] ?_; (with_reducible refine (tabardref12_Right.calls aw _ _ D _ _ E _ _ F false _ ?s1 ai.out ?s3 ak.out ?s5 am.out aO.out).mono ?_); (case s1 => exact cB ah HB); (case s3 => exact cB aj HB); (case s5 => exact cB al HB); rintro e cZ ⟨rfl, hb⟩; refine ⟨_, rfl, ?_⟩; replace U := rB U hb; replace G := rB G hb; replace I := rB I hb; replace J := aM (Kd.S_below (by (with_reducible repeat (first | apply Kd.S_alloc | apply Kd.S_drewN | apply Kd.S_drew)); exact J.out) hb); replace z := kB z hb; replace A := kB A hb; replace HB := hS2 HB B L hb; (try clear hb); obtain ⟨cP, cQ, rfl⟩ := sL U))
      go_ret
      exact ⟨eW, bS2 HB.out B.out L.out⟩

end Go.Proofs.Ytbpeloobnjbgkaa.X

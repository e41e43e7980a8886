/- What the functions of this seat compute, and that the program's calls come to just that: written by this session's own program out of the translation; no condition. -/
import Derived.Test.YtbpeloobnjbgkaaX0
import Derived.Test.YtbpeloobnjbgkaaX16
import Derived.Test.YtbpeloobnjbgkaaX17
namespace Go.Proofs.Ytbpeloobnjbgkaa.X
open Go.RowKit Go.Proofs.YtbpeloobnjbgkaaW.PrintWords Go.Proofs.YtbpeloobnjbgkaaW.PrintLast Go.Proofs.YtbpeloobnjbgkaaW.PrintMore
attribute [local go_sem] max2_int min2_int max_two min_two max_three min_three max_four min_four
set_option linter.unusedVariables false
set_option linter.unusedSimpArgs false
set_option maxHeartbeats 8000000
set_option maxRecDepth 100000

/-! ### canon_Is_1: function 39 -/
def canon_Is_1.f (k : Nat) (l0 : List Int) (l1 : List Int) : Option (Bool) := (slices_Equal_int_int.f k l0 l1).bind fun t223 => (some t223)
theorem canon_Is_1.mono : ∀ a0 a1 k, LeO (canon_Is_1.f k a0 a1) (canon_Is_1.f (k + 1) a0 a1) := by
 intro a0 a1 k
 unfold canon_Is_1.f
 repeat' first | (with_reducible first | exact slices_Equal_int_int.mono _ _ _ | exact lA | apply lI | refine lB ?_ fun _ => ?_) | exact lN _ | apply lI | refine lB ?_ fun _ => ?_
theorem canon_Is_1.calls (k : Nat) (I : Option Addr) (J : Nat) (z : List Int) (L : Option Addr) (M : Nat) (A : List Int) (r : Bool) (w : World) (B : Kd.C (Kd.int .i64) w I z.length z) (D : z.length ≤ J) (E : Kd.C (Kd.int .i64) w L A.length A) (F : A.length ≤ M) (h : canon_Is_1.f k z A = some r) :
  Calls Try.prog 39 #[.slice I z.length J, .slice L A.length M] w fun e w' => e = .returned (.bool r) ∧ Drawn0 w w' := by
 have P := aM B; have Q := aM D; clear B D; have R := aM E; have U := aM F; clear E F; rw [canon_Is_1.f] at h; have H := h; clear h; apply bSx H; clear H; intro O V H; obtain rfl := Option.some.inj H
 go_enter Try.func39, Try.ntmps39
 go_wp2_with (first | ((with_reducible refine gate_callee (f := 40) rfl ?_); refine gL_ (some 7) Try.func40 #[.slice I z.length J, .slice L A.length M] ?_; (with_reducible refine (slices_Equal_int_int.calls k _ _ z _ _ A O _ ?s1 Q.out ?s3 U.out V.out).mono ?_); (case s1 => exact cO P.out); (case s3 => exact cO R.out); rintro e w' ⟨rfl, ⟨nd, rfl⟩⟩; refine ⟨_, rfl, ?_⟩))
 go_ret
 exact ⟨eVl, dRw⟩

/-! ### slices_EqualFunc_int_int_int_int: function 38 -/
def slices_EqualFunc_int_int_int_int.go (k : Nat) : List (List Int) → List (List Int) → Option Bool
 | [], _ => some true
 | _ :: _, [] => none
 | x :: l, y :: m => (canon_Is_1.f k x y).bind fun t => if t = true then slices_EqualFunc_int_int_int_int.go k l m else some false
def slices_EqualFunc_int_int_int_int.f (k : Nat) (l0 l1 : List (List Int)) : Option Bool := if l0.length = l1.length then slices_EqualFunc_int_int_int_int.go k l0 l1 else some false
theorem slices_EqualFunc_int_int_int_int.mono_l : ∀ (a0 a1 : List (List Int)) (k : Nat), LeO (slices_EqualFunc_int_int_int_int.go k a0 a1) (slices_EqualFunc_int_int_int_int.go (k + 1) a0 a1)
 | [], _, _ => LeO.refl _
 | _ :: _, [], _ => LeO.refl _
 | x :: l, y :: m, k => by
  rw [slices_EqualFunc_int_int_int_int.go, slices_EqualFunc_int_int_int_int.go]; exact LeO.bind (canon_Is_1.mono _ _ _) (fun _ => LeO.ite (slices_EqualFunc_int_int_int_int.mono_l l m k) (LeO.refl _))
theorem slices_EqualFunc_int_int_int_int.mono : ∀ a0 a1 k, LeO (slices_EqualFunc_int_int_int_int.f k a0 a1) (slices_EqualFunc_int_int_int_int.f (k + 1) a0 a1) := by
 intro a0 a1 k
 unfold slices_EqualFunc_int_int_int_int.f
 exact LeO.ite (slices_EqualFunc_int_int_int_int.mono_l a0 a1 k) (LeO.refl _)
theorem slices_EqualFunc_int_int_int_int.calls (k : Nat) (P : Option Addr) (Q : Nat) (z : List (List Int)) (R : Option Addr) (U : Nat) (A : List (List Int)) (r : Bool) (w : World) (B : Kd.C (Kd.slice 3 (Kd.int .i64)) w P z.length z) (L : z.length ≤ Q) (D : Kd.C (Kd.slice 3 (Kd.int .i64)) w R A.length A) (M : A.length ≤ U) (h : slices_EqualFunc_int_int_int_int.f k z A = some r) :
  Calls Try.prog 38 #[.slice P z.length Q, .slice R A.length U, .func (.func 39) #[] #[]] w fun e w' => e = .returned (.bool r) ∧ Drawn0 w w' := by
 have hm : z.length ≤ 9223372036854775807 := B.2.1
 unfold slices_EqualFunc_int_int_int_int.f at h
 by_cases hl : z.length = A.length
 case neg =>
  rw [if_neg hl] at h; obtain rfl := Option.some.inj h; have hb : ((z.length : Int) != (A.length : Int)) = true := bne_iff_ne.2 (by omega); clear B D L M h
  go_enter Try.func38, Try.ntmps38
  go_wp2
  go_ret
  exact ⟨rfl, Drawn0.refl _⟩
 rw [if_pos hl] at h; have V := aM B; have W := aM D; have HH := aM h
 have hb : ((z.length : Int) != (A.length : Int)) = false := by simp [hl]
 have HB := aM (Below.refl w.heap.size w); have HLE := aM hl; clear B L D M h hl
 go_enter Try.func38, Try.ntmps38
 go_wp2
 go_loopw [17] (fun E wr => ∃ j : Nat, j ≤ z.length ∧ E = .int .i64 j ∧ Aside0 (slices_EqualFunc_int_int_int_int.go k (z.drop j) (A.drop j) = some r) ∧ Aside0 (Drawn0 w wr)) (fun E _ => z.length - (intOf E).toNat)
 case atStart => exact ⟨0, Nat.zero_le _, rfl, HH, ⟨Drawn0.refl _⟩⟩
 case round =>
  clear HH; obtain ⟨j, hj, rfl, HH, HD⟩ := hrel; obtain ⟨nd, hnd⟩ := HD.out; subst hnd
  by_cases c : j < z.length
  ·have c1' : j < A.length := by have := HLE.out; omega
   obtain ⟨ad, A2, c2, e0, hx, F, G⟩ := at_L1 V.out (j : Int) (by omega) (by omega); obtain ⟨ae, A3, c3, e1, O, I, J⟩ := at_L1 W.out (j : Int) (by omega) (by omega); cases e0; cases e1; have h := HH.out
   have Y : rd_L1 z (j : Int) = z[j] := by simp [rd_L1, List.getD_eq_getElem?_getD, List.getElem?_eq_getElem c]
   have Z : rd_L1 A (j : Int) = A[j] := by simp [rd_L1, List.getD_eq_getElem?_getD, List.getElem?_eq_getElem c1']
   rw [List.drop_eq_getElem_cons c, List.drop_eq_getElem_cons c1', slices_EqualFunc_int_int_int_int.go, ← Y, ← Z] at h; obtain ⟨x, hxx⟩ : ∃ x, x = rd_L1 z (j : Int) := ⟨_, rfl⟩; obtain ⟨y, hyy⟩ : ∃ y, y = rd_L1 A (j : Int) := ⟨_, rfl⟩; rw [← hxx] at h hx F G; rw [← hyy] at h O I J; rw [Int.toNat_natCast] at hx O; replace h := Option.bind_eq_some_iff.mp h; obtain ⟨t, he, h⟩ := h; have HE := aM he; have HG := aM h; have HL2 := aM F; have HL3 := aM I; have HI2 := aM G; have HI3 := aM J; clear he h F I G J hxx hyy Y Z; cases t
   ·have hr : r = false := by
     have := HG.out; rw [if_neg (by decide)] at this; exact (Option.some.inj this).symm
    subst hr
    go_wp2_with (go_at_call 39; (with_reducible refine (canon_Is_1.calls k _ _ x _ _ y false _ ?s0 ?s1 ?s2 ?s3 HE.out).mono ?_); (case s0 => exact cO HI2.out); (case s1 => exact HL2.out); (case s2 => exact cO HI3.out); (case s3 => exact HL3.out); rintro e w' ⟨rfl, hd⟩; obtain ⟨n2, rfl⟩ := hd)
    go_ret
    exact ⟨rfl, by first | exact ⟨_, rfl⟩ | exact ⟨_, World.drewN_drewN _ _ _⟩⟩
   ·go_wp2_with (go_at_call 39; (with_reducible refine (canon_Is_1.calls k _ _ x _ _ y true _ ?s0 ?s1 ?s2 ?s3 HE.out).mono ?_); (case s0 => exact cO HI2.out); (case s1 => exact HL2.out); (case s2 => exact cO HI3.out); (case s3 => exact HL3.out); rintro e w' ⟨rfl, hd⟩; obtain ⟨n2, rfl⟩ := hd)
    go_roundw
    case rel => exact ⟨j + 1, by omega, by go_num, ⟨by have := HG.out; simpa using this⟩, ⟨by first | exact ⟨_, rfl⟩ | exact ⟨_, World.drewN_drewN _ _ _⟩⟩⟩
    case measure => simp [intOf]; omega
  ·have hj' : j = z.length := by omega
   subst hj'
   have hr : r = true := by
    have := HH.out; rw [List.drop_length, slices_EqualFunc_int_int_int_int.go] at this; exact (Option.some.inj this).symm
   subst hr
   go_wp2
   go_ret
   exact ⟨rfl, ⟨_, rfl⟩⟩

/-! ### canon_Is: function 21 -/
def canon_Is.f (k : Nat) (l0_0 : List ByteArray) (l0_1 : List Bool) (l0_2 : List (List Int)) : Option (Bool) := (canon_Minimal.f k l0_0 l0_1 l0_2).bind fun bt225 => (if bt225.2.2.2 = 0 then ((slices_Equal_bool_bool.f k bt225.2.1 l0_1).bind fun t236 => (if t236 = true then ((slices_EqualFunc_int_int_int_int.f k bt225.2.2.1 l0_2).bind fun t237 => (some t237)) else (some false))) else (some false))
theorem canon_Is.mono : ∀ a0 a1 a2 k, LeO (canon_Is.f k a0 a1 a2) (canon_Is.f (k + 1) a0 a1 a2) := by
 intro a0 a1 a2 k
 unfold canon_Is.f
 repeat' first | (with_reducible first | exact canon_Minimal.mono _ _ _ _ | exact slices_EqualFunc_int_int_int_int.mono _ _ _ | exact slices_Equal_bool_bool.mono _ _ _ | exact lA | apply lI | refine lB ?_ fun _ => ?_) | exact lN _ | apply lI | refine lB ?_ fun _ => ?_
theorem canon_Is.calls (k : Nat) (P : Option Addr) (Q : Nat) (G : List ByteArray) (R : Option Addr) (U : Nat) (D : List Bool) (V : Option Addr) (W : Nat) (F : List (List Int)) (r : Bool) (w : World) (ao : Kd.C Kd.string w P G.length G) (ap : G.length ≤ Q) (aq : Kd.C Kd.bool w R D.length D) (ar : D.length ≤ U) (au : Kd.C (Kd.slice 3 (Kd.int .i64)) w V F.length F) (av : F.length ≤ W) (h : canon_Is.f k G D F = some r) :
  Calls Try.prog 21 #[.agg #[.slice P G.length Q, .slice R D.length U, .slice V F.length W]] w fun e w' => e = .returned (.bool r) ∧ Below w.heap.size w w' := by
 have hu26 := Try.underlying26; have aj := aM ao; have ak := aM ap; clear ao ap; have Z := aM aq; have aa := aM ar; clear aq ar; have ag := aM au; have ah := aM av; clear au av; have HB := aM (Below.refl w.heap.size w); rw [canon_Is.f] at h; have H := h; clear h; replace H := Option.bind_eq_some_iff.mp H; obtain ⟨⟨al, Y, ab, ai⟩, aF, H⟩ := H; replace H : (if ai = 0 then ((slices_Equal_bool_bool.f k Y D).bind fun am => (if am = true then ((slices_EqualFunc_int_int_int_int.f k ab F).bind fun an => (some an)) else (some false))) else (some false)) = some r := H; have A2 := aM aF; clear aF
 apply iB H <;> clear H <;> intro c3 H
 ·obtain ⟨aJ, aK⟩ := bq c3; clear c3; apply bSx H; clear H; intro am A4 H
  by_cases c5 : am = true
  ·subst c5
   rw [if_pos rfl] at H; apply bSx H; clear H; intro an A6 H; obtain rfl := Option.some.inj H
   go_enter Try.func21, Try.ntmps21
   go_wp2_with (first | ((with_reducible refine gate_dst (N := 1) rfl ?_); refine be_ (cs := #[.slice P G.length Q, .slice R D.length U, .slice V F.length W]) (t := 26) ?_; intro aw hg w7 aA hb; have A := aM (aA); have ax := gE hg (bP0 HB); have z := gE hg (bP0 HB); replace HB := hS0 HB hb; clear hb aA hg; obtain ⟨bL, bM, bN, bO, bP, bQ⟩ := bG3 A) | ((with_reducible refine gate_callee (f := 17) rfl ?_); refine gL_ (some 7) Try.func17 #[.agg #[.slice P G.length Q, .slice R D.length U, .slice V F.length W]] ?_; (with_reducible refine (canon_Minimal.calls k _ _ G _ _ D _ _ F al Y ab ai _ ?s1 ak.out ?s3 aa.out ?s5 ah.out A2.out).mono ?_); (case s1 => exact cB aj HB); (case s3 => exact cB Z HB); (case s5 => exact cB ag HB); rintro e w9 ⟨aB, aC, aD, rfl, ac, ae, af, hb⟩; refine ⟨_, rfl, ?_⟩; have I := rW ac (bP1 HB z); have B := rW ae (bP1 HB z); have E := aM (Kd.S_lower af (below_size (bP1 HB z))); replace A := kB A hb; replace HB := hS1 HB z hb; (try clear hb); (try clear ac); (try clear ae); (try clear af)) | ((with_reducible refine gate_dst (N := 3) rfl ?_); refine be_ (cs := #[.slice none 0 0, .slice none 0 0, .slice none 0 0]) (t := 26) ?_; intro ay hg cd aA hb; replace I := rB I hb; replace B := rB B hb; replace E := aM (Kd.S_below (by (with_reducible repeat (first | apply Kd.S_alloc | apply Kd.S_drewN | apply Kd.S_drew)); exact E.out) hb); have M := aM (aA); have az := gE hg (bP1 HB z); have O := gE hg (bP1 HB z); replace HB := hS1 HB z hb; have J := nL hg A; have L := nG hg A; replace A := kB A hb; clear hb aA hg; obtain ⟨bY, bZ, rfl⟩ := sL I; have bR := L.out; have bS := J.out; obtain ⟨aY, aZ, a3, a4, a5, a6⟩ := bG3 M; obtain ⟨b0, aN, rfl⟩ := sL B; obtain ⟨b1, aP, aQ⟩ := Kd.S_slice E.out; subst aQ; obtain ⟨a7, a8, a9, ba, bb, bc⟩ := bG3 A) | (go_at_call 37; (with_reducible refine (slices_Equal_bool_bool.calls k _ _ Y _ _ D true _ ?s1 (rR B).2.1 ?s3 aa.out A4.out).mono ?_); (case s1 => refine (Kd.R_reads' (e := 4) (base := w.heap.size) (ok := fun k_ => True) (n := Y.length) (c := aN) ?_).2.2; exact (rY B M)); (case s3 => exact Kd.C_below Z.out (bP2 HB z O)); rintro e w' ⟨rfl, ⟨nd, rfl⟩⟩) | (go_at_call 38; (with_reducible refine (slices_EqualFunc_int_int_int_int.calls k _ _ ab _ _ F  an _ ?s1 ?s2 ?s3 ah.out A6.out).mono ?_); (case s1 => refine (Kd.S_reads' (e := 28) (base := w.heap.size) (ok := fun k_ => True) (n := ab.length) (c := aP) ?_).2.2; exact (sY E M)); (case s2 => exact (Kd.S_reads' E.out).2.1); (case s3 => exact Kd.C_below ag.out (bP2 HB z O)); rintro e w' ⟨rfl, ⟨nd, rfl⟩⟩))
   go_ret
   exact ⟨eW, bS2 HB.out z.out O.out⟩
  ·replace c5 := Bool.eq_false_iff.mpr c5; subst c5
   rw [if_neg nF] at H; obtain rfl := Option.some.inj H
   go_enter Try.func21, Try.ntmps21
   go_wp2_with (first | ((with_reducible refine gate_dst (N := 1) rfl ?_); refine be_ (cs := #[.slice P G.length Q, .slice R D.length U, .slice V F.length W]) (t := 26) ?_; intro aw hg ce aA hb; have A := aM (aA); have ax := gE hg (bP0 HB); have z := gE hg (bP0 HB); replace HB := hS0 HB hb; clear hb aA hg; obtain ⟨bd, be, bf, bg, bh, bi⟩ := bG3 A) | ((with_reducible refine gate_callee (f := 17) rfl ?_); refine gL_ (some 7) Try.func17 #[.agg #[.slice P G.length Q, .slice R D.length U, .slice V F.length W]] ?_; (with_reducible refine (canon_Minimal.calls k _ _ G _ _ D _ _ F al Y ab ai _ ?s1 ak.out ?s3 aa.out ?s5 ah.out A2.out).mono ?_); (case s1 => exact cB aj HB); (case s3 => exact cB Z HB); (case s5 => exact cB ag HB); rintro e cf ⟨aB, aC, aD, rfl, ac, ae, af, hb⟩; refine ⟨_, rfl, ?_⟩; have I := rW ac (bP1 HB z); have B := rW ae (bP1 HB z); have E := aM (Kd.S_lower af (below_size (bP1 HB z))); replace A := kB A hb; replace HB := hS1 HB z hb; (try clear hb); (try clear ac); (try clear ae); (try clear af)) | ((with_reducible refine gate_dst (N := 3) rfl ?_); refine be_ (cs := #[.slice none 0 0, .slice none 0 0, .slice none 0 0]) (t := 26) ?_; intro ay hg cg aA hb; replace I := rB I hb; replace B := rB B hb; replace E := aM (Kd.S_below (by (with_reducible repeat (first | apply Kd.S_alloc | apply Kd.S_drewN | apply Kd.S_drew)); exact E.out) hb); have M := aM (aA); have az := gE hg (bP1 HB z); have O := gE hg (bP1 HB z); replace HB := hS1 HB z hb; have J := nL hg A; have L := nG hg A; replace A := kB A hb; clear hb aA hg; obtain ⟨b2, b3, rfl⟩ := sL I; have bT := L.out; have bU := J.out; obtain ⟨bj, bk, bl, bm, bo, bp⟩ := bG3 M; obtain ⟨b4, aS, rfl⟩ := sL B; obtain ⟨b5, b6, aU⟩ := Kd.S_slice E.out; subst aU; obtain ⟨br, bs, bt, bu, bv, bw⟩ := bG3 A) | (go_at_call 37; (with_reducible refine (slices_Equal_bool_bool.calls k _ _ Y _ _ D false _ ?s1 (rR B).2.1 ?s3 aa.out A4.out).mono ?_); (case s1 => refine (Kd.R_reads' (e := 4) (base := w.heap.size) (ok := fun k_ => True) (n := Y.length) (c := aS) ?_).2.2; exact (rY B M)); (case s3 => exact Kd.C_below Z.out (bP2 HB z O)); rintro e w' ⟨rfl, ⟨nd, rfl⟩⟩))
   go_ret
   exact ⟨eW, bS2 HB.out z.out O.out⟩
 ·obtain ⟨aJ, aK⟩ := bn c3; obtain rfl := Option.some.inj H
  go_enter Try.func21, Try.ntmps21
  go_wp2_with (first | ((with_reducible refine gate_dst (N := 1) rfl ?_); refine be_ (cs := #[.slice P G.length Q, .slice R D.length U, .slice V F.length W]) (t := 26) ?_; intro aw hg ch aA hb; have A := aM (aA); have ax := gE hg (bP0 HB); have z := gE hg (bP0 HB); replace HB := hS0 HB hb; clear hb aA hg; obtain ⟨bx, bz, bA, bB, bC, bD⟩ := bG3 A) | ((with_reducible refine gate_callee (f := 17) rfl ?_); refine gL_ (some 7) Try.func17 #[.agg #[.slice P G.length Q, .slice R D.length U, .slice V F.length W]] ?_; (with_reducible refine (canon_Minimal.calls k _ _ G _ _ D _ _ F al Y ab ai _ ?s1 ak.out ?s3 aa.out ?s5 ah.out A2.out).mono ?_); (case s1 => exact cB aj HB); (case s3 => exact cB Z HB); (case s5 => exact cB ag HB); rintro e ci ⟨aB, aC, aD, rfl, ac, ae, af, hb⟩; refine ⟨_, rfl, ?_⟩; have I := rW ac (bP1 HB z); have B := rW ae (bP1 HB z); have E := aM (Kd.S_lower af (below_size (bP1 HB z))); replace A := kB A hb; replace HB := hS1 HB z hb; (try clear hb); (try clear ac); (try clear ae); (try clear af)) | ((with_reducible refine gate_dst (N := 3) rfl ?_); refine be_ (cs := #[.slice none 0 0, .slice none 0 0, .slice none 0 0]) (t := 26) ?_; intro ay hg cj aA hb; replace I := rB I hb; replace B := rB B hb; replace E := aM (Kd.S_below (by (with_reducible repeat (first | apply Kd.S_alloc | apply Kd.S_drewN | apply Kd.S_drew)); exact E.out) hb); have M := aM (aA); have az := gE hg (bP1 HB z); have O := gE hg (bP1 HB z); replace HB := hS1 HB z hb; have J := nL hg A; have L := nG hg A; replace A := kB A hb; clear hb aA hg; obtain ⟨b7, b8, rfl⟩ := sL I; have bV := L.out; have bW := J.out; obtain ⟨bE, bF, bG, bH, bI, bJ⟩ := bG3 M; obtain ⟨b9, ca, rfl⟩ := sL B; obtain ⟨cb, cc, aX⟩ := Kd.S_slice E.out; subst aX))
  go_ret
  exact ⟨eW, bS2 HB.out z.out O.out⟩

end Go.Proofs.Ytbpeloobnjbgkaa.X

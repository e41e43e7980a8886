/- What the functions of this seat compute, and that the program's calls come to just that: written by this session's own program out of the translation; no condition. -/
import Derived.Test.YtbpeloobnjbgkaaX0
import Derived.Test.YtbpeloobnjbgkaaX19
import Derived.Test.YtbpeloobnjbgkaaX25
import Derived.Test.YtbpeloobnjbgkaaX31
import Derived.Test.YtbpeloobnjbgkaaX35
import Derived.Test.YtbpeloobnjbgkaaX36
namespace Go.Proofs.Ytbpeloobnjbgkaa.X
open Go.RowKit Go.Proofs.YtbpeloobnjbgkaaW.PrintWords Go.Proofs.YtbpeloobnjbgkaaW.PrintLast Go.Proofs.YtbpeloobnjbgkaaW.PrintMore
attribute [local go_sem] max2_int min2_int max_two min_two max_three min_three max_four min_four
set_option linter.unusedVariables false
set_option linter.unusedSimpArgs false
set_option maxHeartbeats 8000000
set_option maxRecDepth 100000

/-! ### tabardlaw13_CanonSound: function 9 -/
mutual
def tabardlaw13_CanonSound.j0 : Nat → List (List Int) → Int → Bool → List ByteArray → List Bool → List (List Int) → Option (Bool)
 | 0, _, _, _, _, _, _ => none
 | k + 1, x1, x2, x20, x647000, x647001, x647002 => if x20 = true then (some false) else ((canon_Sound.f k x647000 x647001 x647002).bind fun t650 => (if t650 = true then ((tabardref12_Takes.f k x647000 x647001 x647002 ([] : List Int)).bind fun t651 => (if t651 = true then (some false) else (tabardlaw13_CanonSound.l0 k x2 x1 (x1.length : Int) 0 x647000 x647001 x647002))) else (some true)))
def tabardlaw13_CanonSound.l0 : Nat → Int → List (List Int) → Int → Int → List ByteArray → List Bool → List (List Int) → Option (Bool)
 | 0, _, _, _, _, _, _, _ => none
 | k + 1, x2, x26, x27, x28, x647000, x647001, x647002 => if x28 < x27 then (if 0 ≤ x28 then (if x28 < (x26.length : Int) then (if ((rd_L1 x26 x28).length : Int) = 0 then (tabardlaw13_CanonSound.j2 k x2 (rd_L1 x26 x28) x26 x27 x28 true x647000 x647001 x647002) else ((tabardref12_Word.f k (rd_L1 x26 x28) (x647000.length : Int)).bind fun t653 => (tabardlaw13_CanonSound.j2 k x2 (rd_L1 x26 x28) x26 x27 x28 (!t653) x647000 x647001 x647002))) else (none)) else (none)) else (some true)
def tabardlaw13_CanonSound.j2 : Nat → Int → List Int → List (List Int) → Int → Int → Bool → List ByteArray → List Bool → List (List Int) → Option (Bool)
 | 0, _, _, _, _, _, _, _, _, _ => none
 | k + 1, x2, x8, x26, x27, x28, x42, x647000, x647001, x647002 => if x42 = true then (tabardlaw13_CanonSound.l0 k x2 x26 x27 (wrap64 (x28 + 1)) x647000 x647001 x647002) else ((some (([] : List Int) : List Int)).bind fun y654 => (if y654.length + x8.length < 17592186044416 then (tabardlaw13_CanonSound.l1 k x2 x8 (y654 ++ x8) x26 x27 x28 (wrap64 ((wrap64 (Int.tmod (IntKind.u64.wrap (x2)) 10)) + 1)) 0 x647000 x647001 x647002) else (none)))
def tabardlaw13_CanonSound.l1 : Nat → Int → List Int → List Int → List (List Int) → Int → Int → Int → Int → List ByteArray → List Bool → List (List Int) → Option (Bool)
 | 0, _, _, _, _, _, _, _, _, _, _, _ => none
 | k + 1, x2, x8, x9, x26, x27, x28, x50, x51, x647000, x647001, x647002 => if x51 < x50 then (if 0 ≤ (wrap64 ((x8.length : Int) - 1)) then (if (wrap64 ((x8.length : Int) - 1)) < (x8.length : Int) then (if x9.length < 17592186044416 then (tabardlaw13_CanonSound.l1 k x2 x8 (x9 ++ [rd x8 (wrap64 ((x8.length : Int) - 1))]) x26 x27 x28 x50 (wrap64 (x51 + 1)) x647000 x647001 x647002) else (none)) else (none)) else (none)) else ((tabardref12_Takes.f k x647000 x647001 x647002 x8).bind fun t664 => ((tabardref12_Takes.f k x647000 x647001 x647002 x9).bind fun t665 => (if (t664 != t665) = true then (some false) else (tabardlaw13_CanonSound.l0 k x2 x26 x27 (wrap64 (x28 + 1)) x647000 x647001 x647002))))
end
def tabardlaw13_CanonSound.f (k : Nat) (l0_0 : List ByteArray) (l0_1 : List Bool) (l0_2 : List (List Int)) (l1 : List (List Int)) (a2 : Int) : Option (Bool) := (tabardlaw13_fixed.f k).bind fun t647 => (if t647 = true then ((canon_Sound.f k l0_0 l0_1 l0_2).bind fun t648 => (if t648 = true then ((tabardref12_Right.f k l0_0 l0_1 l0_2).bind fun t649 => (tabardlaw13_CanonSound.j0 k l1 a2 (!t649) l0_0 l0_1 l0_2)) else (tabardlaw13_CanonSound.j0 k l1 a2 false l0_0 l0_1 l0_2))) else (tabardlaw13_CanonSound.j0 k l1 a2 true l0_0 l0_1 l0_2))
theorem tabardlaw13_CanonSound.mono_l : ∀ k, (∀ z A B D E F, LeO (tabardlaw13_CanonSound.j0 k z A B D E F) (tabardlaw13_CanonSound.j0 (k + 1) z A B D E F)) ∧ (∀ z A B D E F G, LeO (tabardlaw13_CanonSound.l0 k z A B D E F G) (tabardlaw13_CanonSound.l0 (k + 1) z A B D E F G)) ∧ (∀ z A B D E F G I J, LeO (tabardlaw13_CanonSound.j2 k z A B D E F G I J) (tabardlaw13_CanonSound.j2 (k + 1) z A B D E F G I J)) ∧ (∀ z A B D E F G I J M L, LeO (tabardlaw13_CanonSound.l1 k z A B D E F G I J M L) (tabardlaw13_CanonSound.l1 (k + 1) z A B D E F G I J M L))
 | 0 => ⟨fun _ _ _ _ _ _ r h => by simp [tabardlaw13_CanonSound.j0] at h, fun _ _ _ _ _ _ _ r h => by simp [tabardlaw13_CanonSound.l0] at h, fun _ _ _ _ _ _ _ _ _ r h => by simp [tabardlaw13_CanonSound.j2] at h, fun _ _ _ _ _ _ _ _ _ _ _ r h => by simp [tabardlaw13_CanonSound.l1] at h⟩
 | k + 1 => by
  obtain ⟨ih0, ih1, ih2, ih3⟩ := tabardlaw13_CanonSound.mono_l k; refine ⟨?_, ?_, ?_, ?_⟩
  ·intro z A B D E F
   unfold tabardlaw13_CanonSound.j0
   repeat' first | (with_reducible first | exact ih0 _ _ _ _ _ _ | exact ih1 _ _ _ _ _ _ _ | exact ih2 _ _ _ _ _ _ _ _ _ | exact ih3 _ _ _ _ _ _ _ _ _ _ _ | exact canon_Sound.mono _ _ _ _ | exact tabardlaw13_fixed.mono _ | exact tabardref12_Right.mono _ _ _ _ | exact tabardref12_Takes.mono _ _ _ _ _ | exact tabardref12_Word.mono _ _ _ | exact lA | apply lI | refine lB ?_ fun _ => ?_) | exact lN _ | apply lI | refine lB ?_ fun _ => ?_
  ·intro z A B D E F G
   unfold tabardlaw13_CanonSound.l0
   repeat' first | (with_reducible first | exact ih0 _ _ _ _ _ _ | exact ih1 _ _ _ _ _ _ _ | exact ih2 _ _ _ _ _ _ _ _ _ | exact ih3 _ _ _ _ _ _ _ _ _ _ _ | exact canon_Sound.mono _ _ _ _ | exact tabardlaw13_fixed.mono _ | exact tabardref12_Right.mono _ _ _ _ | exact tabardref12_Takes.mono _ _ _ _ _ | exact tabardref12_Word.mono _ _ _ | exact lA | apply lI | refine lB ?_ fun _ => ?_) | exact lN _ | apply lI | refine lB ?_ fun _ => ?_
  ·intro z A B D E F G I J
   unfold tabardlaw13_CanonSound.j2
   repeat' first | (with_reducible first | exact ih0 _ _ _ _ _ _ | exact ih1 _ _ _ _ _ _ _ | exact ih2 _ _ _ _ _ _ _ _ _ | exact ih3 _ _ _ _ _ _ _ _ _ _ _ | exact canon_Sound.mono _ _ _ _ | exact tabardlaw13_fixed.mono _ | exact tabardref12_Right.mono _ _ _ _ | exact tabardref12_Takes.mono _ _ _ _ _ | exact tabardref12_Word.mono _ _ _ | exact lA | apply lI | refine lB ?_ fun _ => ?_) | exact lN _ | apply lI | refine lB ?_ fun _ => ?_
  ·intro z A B D E F G I J M L
   unfold tabardlaw13_CanonSound.l1
   repeat' first | (with_reducible first | exact ih0 _ _ _ _ _ _ | exact ih1 _ _ _ _ _ _ _ | exact ih2 _ _ _ _ _ _ _ _ _ | exact ih3 _ _ _ _ _ _ _ _ _ _ _ | exact canon_Sound.mono _ _ _ _ | exact tabardlaw13_fixed.mono _ | exact tabardref12_Right.mono _ _ _ _ | exact tabardref12_Takes.mono _ _ _ _ _ | exact tabardref12_Word.mono _ _ _ | exact lA | apply lI | refine lB ?_ fun _ => ?_) | exact lN _ | apply lI | refine lB ?_ fun _ => ?_
theorem tabardlaw13_CanonSound.mono : ∀ a0 a1 a2 a3 a4 k, LeO (tabardlaw13_CanonSound.f k a0 a1 a2 a3 a4) (tabardlaw13_CanonSound.f (k + 1) a0 a1 a2 a3 a4) := by
 intro a0 a1 a2 a3 a4 k; obtain ⟨ih0, ih1, ih2, ih3⟩ := tabardlaw13_CanonSound.mono_l k
 unfold tabardlaw13_CanonSound.f
 repeat' first | (with_reducible first | exact ih0 _ _ _ _ _ _ | exact ih1 _ _ _ _ _ _ _ | exact ih2 _ _ _ _ _ _ _ _ _ | exact ih3 _ _ _ _ _ _ _ _ _ _ _ | exact canon_Sound.mono _ _ _ _ | exact tabardlaw13_fixed.mono _ | exact tabardref12_Right.mono _ _ _ _ | exact tabardref12_Takes.mono _ _ _ _ _ | exact tabardref12_Word.mono _ _ _ | exact lA | apply lI | refine lB ?_ fun _ => ?_) | exact lN _ | apply lI | refine lB ?_ fun _ => ?_
theorem tabardlaw13_CanonSound.calls (k : Nat) (I : Option Addr) (J : Nat) (D : List ByteArray) (L : Option Addr) (M : Nat) (E : List Bool) (O : Option Addr) (P : Nat) (F : List (List Int)) (A1 : Option Addr) (c1 : Nat) (Q : List (List Int)) (a2 : Int) (r : Bool) (w : World) (aX : Kd.C Kd.string w I D.length D) (aY : D.length ≤ J) (aZ : Kd.C Kd.bool w L E.length E) (a5 : E.length ≤ M) (a6 : Kd.C (Kd.slice 3 (Kd.int .i64)) w O F.length F) (a7 : F.length ≤ P) (bR : Kd.C (Kd.slice 3 (Kd.int .i64)) w A1 Q.length Q) (bS : Q.length ≤ c1) (h : tabardlaw13_CanonSound.f k D E F Q a2 = some r) :
  Calls Try.prog 9 #[.agg #[.slice I D.length J, .slice L E.length M, .slice O F.length P], .slice A1 Q.length c1, .int .i64 a2] w fun e w' => e = .returned (.bool r) ∧ Below w.heap.size w w' := by
 have hu26 := Try.underlying26; have U := aM aX; have V := aM aY; clear aX aY; have W := aM aZ; have Y := aM a5; clear aZ a5; have Z := aM a6; have aa := aM a7; clear a6 a7; have dd := aM bR; have dz := aM bS; clear bR bS; have HB := aM (Below.refl w.heap.size w); rw [tabardlaw13_CanonSound.f] at h; have H := h; clear h; have bi := aM H; clear H
 go_enter Try.func9, Try.ntmps9
 go_upto_region 1 with (first | ((with_reducible refine gate_dst (N := 3) rfl ?_); (try (refine gate_guard (by rfl) ?_; dsimp only)); refine be_ (cs := #[.slice I D.length J, .slice L E.length M, .slice O F.length P]) (t := 26) ?_; intro ab hg w5 bz hb; have z := aM (bz); have dl := gE hg (bP0 HB); have A := gE hg (bP0 HB); replace HB := hS0 HB hb; clear hb bz hg))
 (try simp only [Act.put, sA, sB, sC])
 go_cut [20] (fun de wc => ∃ (kq : Nat) (am : Bool), de = .bool am ∧ Aside0 (tabardlaw13_CanonSound.j0 kq Q a2 am D E F = some r) ∧ Aside0 (kq ≤ k) ∧ Aside0 (wc.heap[ab]? = some (.cells #[(.slice I D.length J), (.slice L E.length M), (.slice O F.length P)] 26 (0, 0))) ∧ BA w wc)
 case first =>
  have H := bi.out; clear bi; apply bSx H; clear H; intro bY A6 H
  by_cases c7 : bY = true
  ·subst c7
   rw [if_pos rfl] at H; apply bSx H; clear H; intro b0 A8 H
   by_cases c9 : b0 = true
   ·subst c9
    rw [if_pos rfl] at H; apply bSx H; clear H; intro bj dg H; have H' := aM H; clear H
    go_wp2_with (first | ((with_reducible refine gate_callee (f := 12) rfl ?_); refine gL_ (some 10) Try.func12 #[] ?_; (with_reducible refine (tabardlaw13_fixed.calls k  true _ A6.out).mono ?_); rintro e dA ⟨rfl, hb⟩; refine ⟨_, rfl, ?_⟩; replace z := kB z hb; replace HB := hS1 HB A hb; (try clear hb); obtain ⟨cc, cd, ce, cf, cg, ch⟩ := bG3 z) | (go_at_call 23; (with_reducible refine (canon_Sound.calls k _ _ D _ _ E _ _ F true _ ?s1 V.out ?s3 Y.out ?s5 aa.out A8.out).mono ?_); (case s1 => exact cB U HB); (case s3 => exact cB W HB); (case s5 => exact cB Z HB); rintro e dB ⟨rfl, hb⟩; replace z := kB z hb; replace HB := hS1 HB A hb; (try clear hb); obtain ⟨ci, cj, ck, cl, cm, cn⟩ := bG3 z) | (go_at_call 14; (with_reducible refine (tabardref12_Right.calls k _ _ D _ _ E _ _ F bj _ ?s1 V.out ?s3 Y.out ?s5 aa.out dg.out).mono ?_); (case s1 => exact cB U HB); (case s3 => exact cB W HB); (case s5 => exact cB Z HB); rintro e dC ⟨rfl, hb⟩; replace z := kB z hb; replace HB := hS1 HB A hb; (try clear hb)))
    go_meet
    case rel => exact ⟨_, (!bj), sI, H', lE, kQ z, bT1 HB A⟩
   ·replace c9 := Bool.eq_false_iff.mpr c9; subst c9
    rw [if_neg nF] at H; have H' := aM H; clear H
    go_wp2_with (first | ((with_reducible refine gate_callee (f := 12) rfl ?_); refine gL_ (some 10) Try.func12 #[] ?_; (with_reducible refine (tabardlaw13_fixed.calls k  true _ A6.out).mono ?_); rintro e dD ⟨rfl, hb⟩; refine ⟨_, rfl, ?_⟩; replace z := kB z hb; replace HB := hS1 HB A hb; (try clear hb); obtain ⟨co, cp, cq, cr, ct, cu⟩ := bG3 z) | (go_at_call 23; (with_reducible refine (canon_Sound.calls k _ _ D _ _ E _ _ F false _ ?s1 V.out ?s3 Y.out ?s5 aa.out A8.out).mono ?_); (case s1 => exact cB U HB); (case s3 => exact cB W HB); (case s5 => exact cB Z HB); rintro e dE ⟨rfl, hb⟩; replace z := kB z hb; replace HB := hS1 HB A hb; (try clear hb)))
    go_meet
    case rel => exact ⟨_, (false), sI, H', lE, kQ z, bT1 HB A⟩
  ·replace c7 := Bool.eq_false_iff.mpr c7; subst c7
   rw [if_neg nF] at H; have H' := aM H; clear H
   go_wp2_with (first | ((with_reducible refine gate_callee (f := 12) rfl ?_); refine gL_ (some 10) Try.func12 #[] ?_; (with_reducible refine (tabardlaw13_fixed.calls k  false _ A6.out).mono ?_); rintro e dF ⟨rfl, hb⟩; refine ⟨_, rfl, ?_⟩; replace z := kB z hb; replace HB := hS1 HB A hb; (try clear hb)))
   go_meet
   case rel => exact ⟨_, (true), sI, H', lE, kQ z, bT1 HB A⟩
 case rest =>
  clear bi
  obtain ⟨kq, am, rfl, HA, HJ3, z, HB⟩ := hcut; cases kq with
  | zero => exact absurd HA.out (by simp [tabardlaw13_CanonSound.j0])
  | succ aq =>
   have H := HA.out; clear HA; simp only [tabardlaw13_CanonSound.j0] at H
   by_cases a8 : am = true
   ·subst a8
    rw [if_pos rfl] at H; obtain rfl := Option.some.inj H
    go_wp2
    go_ret
    exact ⟨eW, bS1 HB.out A.out⟩
   ·replace a8 := Bool.eq_false_iff.mpr a8; subst a8
    rw [if_neg nF] at H; apply bSx H; clear H; intro b1 bo H
    by_cases a9 : b1 = true
    ·subst a9
     rw [if_pos rfl] at H; apply bSx H; clear H; intro b2 bV H
     by_cases ba : b2 = true
     ·subst ba
      rw [if_pos rfl] at H; obtain rfl := Option.some.inj H; obtain ⟨cv, cw, cx, cy, cz, cA⟩ := bG3 z
      go_wp2_with (first | ((with_reducible refine gate_callee (f := 23) rfl ?_); refine gL_ (some 22) Try.func23 #[.agg #[.slice I D.length J, .slice L E.length M, .slice O F.length P]] ?_; (with_reducible refine (canon_Sound.calls aq _ _ D _ _ E _ _ F true _ ?s1 V.out ?s3 Y.out ?s5 aa.out bo.out).mono ?_); (case s1 => exact cB U HB); (case s3 => exact cB W HB); (case s5 => exact cB Z HB); rintro e dG ⟨rfl, hb⟩; refine ⟨_, rfl, ?_⟩; replace z := kB z hb; replace HB := hS1 HB A hb; (try clear hb); obtain ⟨cC, cD, cE, cF, cG, cH⟩ := bG3 z) | ((with_reducible refine gate_callee (f := 26) rfl ?_); refine gL_ (some 25) Try.func26 #[.agg #[.slice I D.length J, .slice L E.length M, .slice O F.length P], .slice none 0 0] ?_; (refine (tabardref12_Takes.calls aq _ _ D _ _ E _ _ F _ _ ([] : List Int) true _ ?s1 V.out ?s3 Y.out ?s5 aa.out ?s7 ?s8 bV.out).mono ?_); (case s1 => exact cB U HB); (case s3 => exact cB W HB); (case s5 => exact cB Z HB); (case s7 => exact Kd.C_nil _ _); (case s8 => exact Nat.le_refl _); rintro e dH ⟨rfl, hb⟩; refine ⟨_, rfl, ?_⟩; replace z := kB z hb; replace HB := hS1 HB A hb; (try clear hb)))
      go_ret
      exact ⟨eW, bS1 HB.out A.out⟩
     ·replace ba := Bool.eq_false_iff.mpr ba; subst ba
      rw [if_neg nF] at H; have H' := aM H; clear H; obtain ⟨cI, cJ, cK, cL, cM, cN⟩ := bG3 z
      go_wp2_with (first | ((with_reducible refine gate_callee (f := 23) rfl ?_); refine gL_ (some 22) Try.func23 #[.agg #[.slice I D.length J, .slice L E.length M, .slice O F.length P]] ?_; (with_reducible refine (canon_Sound.calls aq _ _ D _ _ E _ _ F true _ ?s1 V.out ?s3 Y.out ?s5 aa.out bo.out).mono ?_); (case s1 => exact cB U HB); (case s3 => exact cB W HB); (case s5 => exact cB Z HB); rintro e dI ⟨rfl, hb⟩; refine ⟨_, rfl, ?_⟩; replace z := kB z hb; replace HB := hS1 HB A hb; (try clear hb); obtain ⟨cP, cQ, cR, cS, cT, cU⟩ := bG3 z) | ((with_reducible refine gate_callee (f := 26) rfl ?_); refine gL_ (some 25) Try.func26 #[.agg #[.slice I D.length J, .slice L E.length M, .slice O F.length P], .slice none 0 0] ?_; (refine (tabardref12_Takes.calls aq _ _ D _ _ E _ _ F _ _ ([] : List Int) false _ ?s1 V.out ?s3 Y.out ?s5 aa.out ?s7 ?s8 bV.out).mono ?_); (case s1 => exact cB U HB); (case s3 => exact cB W HB); (case s5 => exact cB Z HB); (case s7 => exact Kd.C_nil _ _); (case s8 => exact Nat.le_refl _); rintro e dJ ⟨rfl, hb⟩; refine ⟨_, rfl, ?_⟩; replace z := kB z hb; replace HB := hS1 HB A hb; (try clear hb)))
      go_loopg [28] aq (fun kq dh w' => ∃ (B : Int), dh = .int .i64 B ∧ Aside0 (tabardlaw13_CanonSound.l0 kq a2 Q (Q.length : Int) B D E F = some r) ∧ Aside0 (kq ≤ aq) ∧ Aside0 (w'.heap[ab]? = some (.cells #[(.slice I D.length J), (.slice L E.length M), (.slice O F.length P)] 26 (0, 0))) ∧ BA w w')
      case atStart => exact ⟨(0), sI, H', ⟨Nat.le_refl _⟩, kQ z, bT1 HB A⟩
      case round =>
       clear H'
       obtain ⟨B, rfl, HA, aJ, z, HB⟩ := hrel; cases gk with
       | zero => exact absurd HA.out (by simp [tabardlaw13_CanonSound.l0])
       | succ k2 =>
        have H := HA.out; clear HA; simp only [tabardlaw13_CanonSound.l0] at H
        apply iB H <;> clear H <;> intro ar H
        ·have bE := dT ar; clear ar
         apply iN H; clear H; intro bb H; have dm := dT bb; clear bb
         apply iN H; clear H; intro bc H; have dn := dT bc; clear bc; have aK := aM H; clear H; have aN : 0 ≤ (B : Int) := oT aO; have aQ : B < (Q.length : Int) := oT aO; obtain ⟨dp, aG, aH, b3, au, av, aw⟩ := at_L1 dd.out B aN aQ; cases b3; replace au := cX HB au; have af := aM aw; have al := aM av; clear aw av; replace aN := eq_true aN; replace aQ := eq_true aQ
         go_upto_region 10 with (fail)
         go_cut [42] (fun di wc => ∃ (kq : Nat) (ai : Bool), di = .bool ai ∧ Aside0 (tabardlaw13_CanonSound.j2 kq a2 (rd_L1 Q B) Q (Q.length : Int) B ai D E F = some r) ∧ Aside0 (kq ≤ k2) ∧ Aside0 (wc.heap[ab]? = some (.cells #[(.slice I D.length J), (.slice L E.length M), (.slice O F.length P)] 26 (0, 0))) ∧ BA w wc)
         case first =>
          have H := aK.out; clear aK
          apply iB H <;> clear H <;> intro ax H
          ·obtain ⟨aj, bF⟩ := bq ax; clear ax
           (first | rw [aj] | (simp only [i64_w, i32_w]; rw [aj]) | skip)
           have H' := aM H; clear H
           go_wp2
           go_meet
           case rel => exact ⟨_, (true), sI, H', ⟨by have := HJ3.out; have := aJ.out; first | omega | exact Nat.le_refl _⟩, kQ z, bT1 HB A⟩
          ·obtain ⟨aj, bF⟩ := bn ax
           have dq : ¬ ((rd_L1 Q B) = []) := fun h_ => ax (by rw [h_]; rfl)
           (first | rw [aj] | (simp only [i64_w, i32_w]; rw [aj]) | skip)
           apply bSx H; clear H; intro br dj H; have H' := aM H; clear H; obtain ⟨cV, cW, cY, cZ, c0, c2⟩ := bG3 z
           go_wp2_with (first | (go_at_call 25; (with_reducible refine (tabardref12_Word.calls k2 _ _ (rd_L1 Q B) (D.length : Int) br _ ?s1 al.out dj.out).mono ?_); (case s1 => exact cB af HB); rintro e w' ⟨rfl, ⟨nd, rfl⟩⟩))
           go_meet
           case rel => exact ⟨_, (!br), sI, H', ⟨by have := HJ3.out; have := aJ.out; first | omega | exact Nat.le_refl _⟩, kQ z, bT1 HB A⟩
         case rest =>
          clear aK
          obtain ⟨kq, ai, rfl, HA, HJ35, z, HB⟩ := hcut; cases kq with
          | zero => exact absurd HA.out (by simp [tabardlaw13_CanonSound.j2])
          | succ aT =>
           have H := HA.out; clear HA; simp only [tabardlaw13_CanonSound.j2] at H
           by_cases bd : ai = true
           ·subst bd
            rw [if_pos rfl] at H; have H' := aM H; clear H
            go_wp2
            go_roundg aT
            case measure => have := HJ3.out; have := aJ.out; have := HJ35.out; omega
            case rel => exact ⟨(wrap64 (B + 1)), sI, H', ⟨by have := HJ3.out; have := aJ.out; have := HJ35.out; omega⟩, kQ z, bT1 HB A⟩
           ·replace bd := Bool.eq_false_iff.mpr bd; subst bd
            rw [if_neg nF] at H; obtain ⟨aU, an⟩ : ∃ y_ : List Int, y_ = (([] : List Int)) := ⟨_, rfl⟩
            first | replace H := rI an H | rw [← an] at H
            have bG := aM an; clear an
            apply iN H; clear H; intro be H; have bH := aM be; clear be; obtain ⟨b4, ao⟩ : ∃ y_ : List Int, y_ = (aU ++ (rd_L1 Q B)) := ⟨_, rfl⟩
            first | replace H := rI ao H | rw [← ao] at H
            have bI := aM ao; clear ao; have H' := aM H; clear H
            go_wp2_with (first | ((with_reducible refine gate_dst (N := 43) rfl ?_); (try (refine gate_guard (by rfl) ?_; dsimp only)); refine Kd.R_lit (Kd.int .i64) _ 3 ?hg (N := 43) ?hd (xs := ([] : List Int)) (inner := []) (ok := fun _ => True) (okp := fun _ => True) ?hr ?hp (fun _ hk => hk) trivial (Below.refl _ _) (Nat.le_refl _) (by simp) ?_; (case hd => rfl); (case hg => rfl); (case hr => first | (go_simp; done) | (go_simp; rfl)); (case hp => exact (Reps.none _ _)); intro b5 dK aA hb hg_ hnew_; clear hg_ hnew_; replace aA := nW bG aA; have aC := rW aA (bP1 HB A); replace z := kB z hb; replace HB := hS1 HB A hb; clear hb aA) | ((with_reducible refine gate_builtin (b := .append) (xs := #[.tmp 43, .tmp 44]) rfl ?_); (try (refine gate_guard (by rfl) ?_; dsimp only)); at_builtin; refine Kd.R_append_rows (Kd.int .i64) (w0 := w) w.heap.size rfl (.tmp 43) (.tmp 44) 28 3 (.int .i64 0) 8 rfl Try.underlying28 info3 rfl (by decide) (by omega) b5 aU (rd_L1 Q B) _ _ _ (fun _ => True) (fun _ => False) rfl rfl ?aO ?aR (fun _ _ h => h) (fun _ h => h.elim) ?aF ?aB ?aS ?aL ?_; (case aR => exact cO (Kd.C_below af.out HB.out)); (case aB => exact (bP1 HB A)); (case aF => exact (fun _ _ => trivial)); (case aO => exact (rP aC)); (case aS => exact (below_size (bP1 HB A))); (case aL => have := bH.out; omega); intro dw dL ho hb hg hat; rw [← bI.out] at ho; replace z := kG z hg aC; replace HB := aM (hb); have bJ := aM (ho); clear aC; clear ho hb hg hat))
            go_loopg [9, 51] aT (fun kq v9 dk w' => ∃ (ac : List Int) (ak : Int), dk = .int .i64 ak ∧ Aside0 (tabardlaw13_CanonSound.l1 kq a2 (rd_L1 Q B) ac Q (Q.length : Int) B (wrap64 ((wrap64 (Int.tmod (IntKind.u64.wrap (a2)) 10)) + 1)) ak D E F = some r) ∧ Aside0 (kq ≤ aT) ∧ RA (Kd.int .i64) 3 w' w v9 ac ∧ Aside0 (w'.heap[ab]? = some (.cells #[(.slice I D.length J), (.slice L E.length M), (.slice O F.length P)] 26 (0, 0))) ∧ BA w w')
            case atStart => exact ⟨(b4), (0), sI, H', ⟨Nat.le_refl _⟩, rQ bJ, kQ z, bT1 HB A⟩
            case round =>
             clear H'
             obtain ⟨ac, ak, rfl, HA, bx, G, z, HB⟩ := hrel; cases gk with
             | zero => exact absurd HA.out (by simp [tabardlaw13_CanonSound.l1])
             | succ k4 =>
              have H := HA.out; clear HA; simp only [tabardlaw13_CanonSound.l1] at H
              apply iB H <;> clear H <;> intro ay H
              ·have bK := dT ay; clear ay; obtain ⟨ag, aD⟩ : ∃ j_ : Int, (wrap64 (((rd_L1 Q B).length : Int) - 1)) = j_ := ⟨_, rfl⟩
               first | rw [aD] at H | simp only [aD] at H
               have hji46w : (IntKind.i64.wrap (((rd_L1 Q B).length : Int) - 1)) = ag := (i64_w _).trans aD
               apply iN H; clear H; intro bf H; have dr := dT bf; clear bf
               apply iN H; clear H; intro bg H; have dt := dT bg; clear bg
               apply iN H; clear H; intro bh H; have bL := aM bh; clear bh; obtain ⟨b6, ap⟩ : ∃ y_ : List Int, y_ = (ac ++ [rd (rd_L1 Q B) (ag)]) := ⟨_, rfl⟩
               first | replace H := rI ap H | rw [← ap] at H
               have bM := aM ap; clear ap; have H' := aM H; clear H; obtain ⟨⟨du, b7, az⟩, aV, aW⟩ := xAt (Kd.at_int af.out) (ag); cases b7; replace az := cX HB az
               go_wp2_with (first | ((with_reducible refine gate_builtin (b := .append) (xs := #[.tmp 53, .tmp 60]) rfl ?_); (try (refine gate_guard (by rfl) ?_; dsimp only)); at_builtin; refine Kd.R_append (Kd.int .i64) (w0 := w) w.heap.size rfl (.tmp 53) (.tmp 60) 28 3 (.int .i64 0) 8 rfl Try.underlying28 info3 rfl (by decide) (by omega) u9 ac (rd (rd_L1 Q B) (ag)) [.int .i64 (rd (rd_L1 Q B) (ag))] (fun _ => True) (fun _ => False) rfl rfl ?aP (fun _ hk => hk.elim) ?aF ?aO ?aB ?aS ?aL ?_; (case aP => exact rfl); (case aB => exact (bP1 HB A)); (case aF => exact (fun _ _ => trivial)); (case aO => exact (rP G)); (case aS => exact (below_size (bP1 HB A))); (case aL => have := bL.out; omega); intro dy dM ho hb hg hat; rw [← bM.out] at ho; replace z := kG z hg G; replace HB := aM (hb); have bN := aM (ho); clear G; clear ho hb hg hat))
               go_roundg k4
               case measure => have := HJ3.out; have := aJ.out; have := HJ35.out; have := bx.out; omega
               case rel => exact ⟨(b6), (wrap64 (ak + 1)), sI, H', ⟨by have := HJ3.out; have := aJ.out; have := HJ35.out; have := bx.out; omega⟩, rQ bN, kQ z, bT1 HB A⟩
              ·have bK := decide_eq_false ay; clear ay; apply bSx H; clear H; intro ad bW H; apply bSx H; clear H; intro ae bX H
               apply iB H <;> clear H <;> intro ah H
               ·have bO : (ad != ae) = true := ah
                (try (have bP : decide (ad = ae) = false := by simpa using ah))
                (try (have bQ : (ad == ae) = false := by simpa using ah))
                (try (have dv : ¬ (ad = ae) := by simpa using ah))
                clear ah; obtain rfl := Option.some.inj H
                try go_wp2
                replace G := aM (Kd.R_drew G.out); replace z := kD z; replace HB := aM (below_drew1 HB.out); refine start_ (n := 7) (S := fun w' => w'.cell? ⟨ab, 0, none⟩ = some (.slice I D.length J) ∧ w'.cell? ⟨ab, 1, none⟩ = some (.slice L E.length M) ∧ w'.cell? ⟨ab, 2, none⟩ = some (.slice O F.length P)) (ds := []) (bl 7 0) (by kernel_rfl) rfl rfl (bD3 z) (fun R => ?_); generalize wr.drew = dN at G z HB R ⊢; refine pure_ (i := 1) (N := some 64) (v := ?_) (a' := ?_) (bl 7 2) rfl rfl (by kernel_rfl) (fun _ _ _ h => h) (Or.inl ⟨by rfl, ?_⟩) ?_ ?_; rotate_left
                ·intro w'
                 go_simp
                 with_reducible rfl
                rotate_left
                ·simp only [Act.put, sA, sB, sC, i64_w, i32_w]
                 rfl
                refine pure_ (i := 4) (N := some 67) (v := ?_) (a' := ?_) (bl 7 18) rfl rfl (by kernel_rfl) (fun _ _ _ h => h) (Or.inl ⟨by rfl, ?_⟩) ?_ ?_; rotate_left
                ·intro w'
                 go_simp
                 with_reducible rfl
                rotate_left
                ·simp only [Act.put, sA, sB, sC, i64_w, i32_w]
                 rfl
                refine take_ (i := 0) (N := some 63) (v := ?_) (a' := ?_) (bl 7 19) rfl rfl (by kernel_rfl) (fun _ _ _ h => h) (Or.inl ⟨by rfl, ?_⟩) R ?_ ?_; rotate_left
                ·rintro w' ⟨s0, s1, s2⟩
                 go_simp
                 with_reducible rfl
                rotate_left
                ·simp only [Act.put, sA, sB, sC, i64_w, i32_w]
                 rfl
                refine take_ (i := 3) (N := some 66) (v := ?_) (a' := ?_) (bl 7 27) rfl rfl (by kernel_rfl) (fun _ _ _ h => h) (Or.inl ⟨by rfl, ?_⟩) R ?_ ?_; rotate_left
                ·rintro w' ⟨s0, s1, s2⟩
                 go_simp
                 with_reducible rfl
                rotate_left
                ·simp only [Act.put, sA, sB, sC, i64_w, i32_w]
                 rfl
                refine one_ (i := 2) (N := some 65) (bl 7 31) rfl rfl (by kernel_rfl) (by decide) (fun K hK => ?_); refine gS_ Try.func26 #[.agg #[.slice I D.length J, .slice L E.length M, .slice O F.length P], .slice aG (rd_L1 Q B).length aH] ?_
                with_reducible refine (tabardref12_Takes.calls k4 _ _ D _ _ E _ _ F _ _ (rd_L1 Q B) ad _ ?s1 ?s2 ?s3 ?s4 ?s5 ?s6 ?s7 ?s8 bW.out).mono ?_
                (case s1 => exact cB U HB)
                (case s2 => exact V.out)
                (case s3 => exact cB W HB)
                (case s4 => exact Y.out)
                (case s5 => exact cB Z HB)
                (case s6 => exact aa.out)
                (case s7 => exact cB af HB)
                (case s8 => exact al.out)
                rintro e dO ⟨rfl, hb⟩; refine ⟨_, rfl, ?_⟩; replace G := rB G hb; replace z := kB z hb; replace HB := hS1 HB A hb
                (try clear hb)
                (try clear bv)
                (try clear hk)
                (try clear hi)
                obtain ⟨b8, b9, bw⟩ := sL G
                (first | subst bw | obtain ⟨rfl, rfl⟩ := iS bw)
                refine hK.out _ _ (bD3 z) (fun R => ?_); clear hK K; refine nm_ 65 ?_; refine one_ (i := 5) (N := some 68) (bl 7 63) rfl rfl (by kernel_rfl) (by decide) (fun K hK => ?_); refine gS_ Try.func26 #[.agg #[.slice I D.length J, .slice L E.length M, .slice O F.length P], .slice b8 ac.length b9] ?_
                with_reducible refine (tabardref12_Takes.calls k4 _ _ D _ _ E _ _ F _ _ ac ae _ ?s1 ?s2 ?s3 ?s4 ?s5 ?s6 ?s7 ?s8 bX.out).mono ?_
                (case s1 => exact cB U HB)
                (case s2 => exact V.out)
                (case s3 => exact cB W HB)
                (case s4 => exact Y.out)
                (case s5 => exact cB Z HB)
                (case s6 => exact aa.out)
                (case s7 => exact cO (rR G).2.2)
                (case s8 => exact (rR G).2.1)
                rintro e dP ⟨rfl, hb⟩; refine ⟨_, rfl, ?_⟩; replace G := rB G hb; replace z := kB z hb; replace HB := hS1 HB A hb
                (try clear hb)
                (try clear bv)
                (try clear hk)
                (try clear hi)
                refine hK.out _ _ (bD3 z) (fun R => ?_); clear hK K; refine nm_ 68 ?_; refine pure_ (i := 6) (N := some 69) (v := ?_) (a' := ?_) (bl 7 127) rfl rfl (by kernel_rfl) (fun _ _ _ h => h) (Or.inl ⟨by rfl, ?_⟩) ?_ ?_; rotate_left
                ·intro w'
                 go_simp
                 with_reducible rfl
                rotate_left
                ·simp only [Act.put, sA, sB, sC, i64_w, i32_w]
                 rfl
                refine done_ (by kernel_rfl) ?_
                try go_wp2
                go_ret
                exact ⟨eW, bS1 HB.out A.out⟩
               ·have bO : (ad != ae) = false := by simpa using ah
                (try (have bP : decide (ad = ae) = true := by simpa using ah))
                (try (have bQ : (ad == ae) = true := by simpa using ah))
                clear ah; have H' := aM H; clear H
                try go_wp2
                replace G := aM (Kd.R_drew G.out); replace z := kD z; replace HB := aM (below_drew1 HB.out); refine start_ (n := 7) (S := fun w' => w'.cell? ⟨ab, 0, none⟩ = some (.slice I D.length J) ∧ w'.cell? ⟨ab, 1, none⟩ = some (.slice L E.length M) ∧ w'.cell? ⟨ab, 2, none⟩ = some (.slice O F.length P)) (ds := []) (bl 7 0) (by kernel_rfl) rfl rfl (bD3 z) (fun R => ?_); generalize wr.drew = dQ at G z HB R ⊢; refine pure_ (i := 1) (N := some 64) (v := ?_) (a' := ?_) (bl 7 2) rfl rfl (by kernel_rfl) (fun _ _ _ h => h) (Or.inl ⟨by rfl, ?_⟩) ?_ ?_; rotate_left
                ·intro w'
                 go_simp
                 with_reducible rfl
                rotate_left
                ·simp only [Act.put, sA, sB, sC, i64_w, i32_w]
                 rfl
                refine pure_ (i := 4) (N := some 67) (v := ?_) (a' := ?_) (bl 7 18) rfl rfl (by kernel_rfl) (fun _ _ _ h => h) (Or.inl ⟨by rfl, ?_⟩) ?_ ?_; rotate_left
                ·intro w'
                 go_simp
                 with_reducible rfl
                rotate_left
                ·simp only [Act.put, sA, sB, sC, i64_w, i32_w]
                 rfl
                refine take_ (i := 0) (N := some 63) (v := ?_) (a' := ?_) (bl 7 19) rfl rfl (by kernel_rfl) (fun _ _ _ h => h) (Or.inl ⟨by rfl, ?_⟩) R ?_ ?_; rotate_left
                ·rintro w' ⟨s0, s1, s2⟩
                 go_simp
                 with_reducible rfl
                rotate_left
                ·simp only [Act.put, sA, sB, sC, i64_w, i32_w]
                 rfl
                refine take_ (i := 3) (N := some 66) (v := ?_) (a' := ?_) (bl 7 27) rfl rfl (by kernel_rfl) (fun _ _ _ h => h) (Or.inl ⟨by rfl, ?_⟩) R ?_ ?_; rotate_left
                ·rintro w' ⟨s0, s1, s2⟩
                 go_simp
                 with_reducible rfl
                rotate_left
                ·simp only [Act.put, sA, sB, sC, i64_w, i32_w]
                 rfl
                refine one_ (i := 2) (N := some 65) (bl 7 31) rfl rfl (by kernel_rfl) (by decide) (fun K hK => ?_); refine gS_ Try.func26 #[.agg #[.slice I D.length J, .slice L E.length M, .slice O F.length P], .slice aG (rd_L1 Q B).length aH] ?_
                with_reducible refine (tabardref12_Takes.calls k4 _ _ D _ _ E _ _ F _ _ (rd_L1 Q B) ad _ ?s1 ?s2 ?s3 ?s4 ?s5 ?s6 ?s7 ?s8 bW.out).mono ?_
                (case s1 => exact cB U HB)
                (case s2 => exact V.out)
                (case s3 => exact cB W HB)
                (case s4 => exact Y.out)
                (case s5 => exact cB Z HB)
                (case s6 => exact aa.out)
                (case s7 => exact cB af HB)
                (case s8 => exact al.out)
                rintro e dR ⟨rfl, hb⟩; refine ⟨_, rfl, ?_⟩; replace G := rB G hb; replace z := kB z hb; replace HB := hS1 HB A hb
                (try clear hb)
                (try clear bv)
                (try clear hk)
                (try clear hi)
                obtain ⟨ca, cb, bB⟩ := sL G
                (first | subst bB | obtain ⟨rfl, rfl⟩ := iS bB)
                refine hK.out _ _ (bD3 z) (fun R => ?_); clear hK K; refine nm_ 65 ?_; refine one_ (i := 5) (N := some 68) (bl 7 63) rfl rfl (by kernel_rfl) (by decide) (fun K hK => ?_); refine gS_ Try.func26 #[.agg #[.slice I D.length J, .slice L E.length M, .slice O F.length P], .slice ca ac.length cb] ?_
                with_reducible refine (tabardref12_Takes.calls k4 _ _ D _ _ E _ _ F _ _ ac ae _ ?s1 ?s2 ?s3 ?s4 ?s5 ?s6 ?s7 ?s8 bX.out).mono ?_
                (case s1 => exact cB U HB)
                (case s2 => exact V.out)
                (case s3 => exact cB W HB)
                (case s4 => exact Y.out)
                (case s5 => exact cB Z HB)
                (case s6 => exact aa.out)
                (case s7 => exact cO (rR G).2.2)
                (case s8 => exact (rR G).2.1)
                rintro e dS ⟨rfl, hb⟩; refine ⟨_, rfl, ?_⟩; replace G := rB G hb; replace z := kB z hb; replace HB := hS1 HB A hb
                (try clear hb)
                (try clear bv)
                (try clear hk)
                (try clear hi)
                refine hK.out _ _ (bD3 z) (fun R => ?_); clear hK K; refine nm_ 68 ?_; refine pure_ (i := 6) (N := some 69) (v := ?_) (a' := ?_) (bl 7 127) rfl rfl (by kernel_rfl) (fun _ _ _ h => h) (Or.inl ⟨by rfl, ?_⟩) ?_ ?_; rotate_left
                ·intro w'
                 go_simp
                 with_reducible rfl
                rotate_left
                ·simp only [Act.put, sA, sB, sC, i64_w, i32_w]
                 rfl
                refine done_ (by kernel_rfl) ?_
                try go_wp2
                go_roundg k4
                case measure => have := HJ3.out; have := aJ.out; have := HJ35.out; have := bx.out; omega
                case rel => exact ⟨(wrap64 (B + 1)), sI, H', ⟨by have := HJ3.out; have := aJ.out; have := HJ35.out; have := bx.out; omega⟩, kQ z, bT1 HB A⟩
        ·have bE := decide_eq_false ar; clear ar; obtain rfl := Option.some.inj H
         go_wp2
         go_ret
         exact ⟨eW, bS1 HB.out A.out⟩
    ·replace a9 := Bool.eq_false_iff.mpr a9; subst a9
     rw [if_neg nF] at H; obtain rfl := Option.some.inj H; obtain ⟨c3, c4, c5, c6, c8, da⟩ := bG3 z
     go_wp2_with (first | ((with_reducible refine gate_callee (f := 23) rfl ?_); refine gL_ (some 22) Try.func23 #[.agg #[.slice I D.length J, .slice L E.length M, .slice O F.length P]] ?_; (with_reducible refine (canon_Sound.calls aq _ _ D _ _ E _ _ F false _ ?s1 V.out ?s3 Y.out ?s5 aa.out bo.out).mono ?_); (case s1 => exact cB U HB); (case s3 => exact cB W HB); (case s5 => exact cB Z HB); rintro e dU ⟨rfl, hb⟩; refine ⟨_, rfl, ?_⟩; replace z := kB z hb; replace HB := hS1 HB A hb; (try clear hb)))
     go_ret
     exact ⟨eW, bS1 HB.out A.out⟩

end Go.Proofs.Ytbpeloobnjbgkaa.X

/- What the functions of this seat compute, and that the program's calls come to just that: written by this session's own program out of the translation; no condition. -/
import Derived.Test.YtbpeloobnjbgkaaX0
import Derived.Test.YtbpeloobnjbgkaaX25
import Derived.Test.YtbpeloobnjbgkaaX32
namespace Go.Proofs.Ytbpeloobnjbgkaa.X
open Go.RowKit Go.Proofs.YtbpeloobnjbgkaaW.PrintWords Go.Proofs.YtbpeloobnjbgkaaW.PrintLast Go.Proofs.YtbpeloobnjbgkaaW.PrintMore
attribute [local go_sem] max2_int min2_int max_two min_two max_three min_three max_four min_four
set_option linter.unusedVariables false
set_option linter.unusedSimpArgs false
set_option maxHeartbeats 8000000
set_option maxRecDepth 100000

/-! ### tabardref13_Sound: function 24 -/
mutual
def tabardref13_Sound.j0 : Nat → Bool → List ByteArray → List Bool → List (List Int) → Option (Bool)
 | 0, _, _, _, _ => none
 | k + 1, x15, x481000, x481001, x481002 => if x15 = true then (some false) else ((tabardref13_Reached.f k x481000 x481001 x481002).bind fun t483 => (tabardref13_Sound.l0 k t483 0 x481000 x481001 x481002))
def tabardref13_Sound.l0 : Nat → List Bool → Int → List ByteArray → List Bool → List (List Int) → Option (Bool)
 | 0, _, _, _, _, _ => none
 | k + 1, x3, x4, x481000, x481001, x481002 => if x4 < (x3.length : Int) then (tabardref13_Sound.l1 k x3 x4 0 x481000 x481001 x481002) else (some true)
def tabardref13_Sound.l1 : Nat → List Bool → Int → Int → List ByteArray → List Bool → List (List Int) → Option (Bool)
 | 0, _, _, _, _, _, _ => none
 | k + 1, x3, x4, x5, x481000, x481001, x481002 => if 0 ≤ x4 then (if x4 < (x481002.length : Int) then (if x5 < ((rd_L1 x481002 x4).length : Int) then (if x4 < (x3.length : Int) then (tabardref13_Sound.j3 k x3 x4 x5 (rdOf false x3 x4) x481000 x481001 x481002) else (none)) else (tabardref13_Sound.j3 k x3 x4 x5 false x481000 x481001 x481002)) else (none)) else (none)
def tabardref13_Sound.j3 : Nat → List Bool → Int → Int → Bool → List ByteArray → List Bool → List (List Int) → Option (Bool)
 | 0, _, _, _, _, _, _, _ => none
 | k + 1, x3, x4, x5, x37, x481000, x481001, x481002 => if x37 = true then (if 0 ≤ x4 then (if x4 < (x481002.length : Int) then (if 0 ≤ x5 then (if x5 < ((rd_L1 x481002 x4).length : Int) then (if 0 ≤ (rd (rd_L1 x481002 x4) x5) then (if (rd (rd_L1 x481002 x4) x5) < (x481001.length : Int) then (if (rd (rd_L1 x481002 x4) x5) < (x481002.length : Int) then (if x5 < ((rd_L1 x481002 (rd (rd_L1 x481002 x4) x5)).length : Int) then (if 0 ≤ (rd (rd_L1 x481002 (rd (rd_L1 x481002 x4) x5)) x5) then (if (rd (rd_L1 x481002 (rd (rd_L1 x481002 x4) x5)) x5) < (x481001.length : Int) then (if ((rdOf false x481001 (rd (rd_L1 x481002 x4) x5)) != (rdOf false x481001 (rd (rd_L1 x481002 (rd (rd_L1 x481002 x4) x5)) x5))) = true then (some false) else (tabardref13_Sound.l1 k x3 x4 (wrap64 (x5 + 1)) x481000 x481001 x481002)) else (none)) else (none)) else (none)) else (none)) else (none)) else (none)) else (none)) else (none)) else (none)) else (none)) else (tabardref13_Sound.l0 k x3 (wrap64 (x4 + 1)) x481000 x481001 x481002)
end
def tabardref13_Sound.f (k : Nat) (l0_0 : List ByteArray) (l0_1 : List Bool) (l0_2 : List (List Int)) : Option (Bool) := (tabardref12_Right.f k l0_0 l0_1 l0_2).bind fun t481 => (if t481 = true then (if 0 < (l0_1.length : Int) then (tabardref13_Sound.j0 k (rdOf false l0_1 0) l0_0 l0_1 l0_2) else (none)) else (tabardref13_Sound.j0 k true l0_0 l0_1 l0_2))
theorem tabardref13_Sound.mono_l : ∀ k, (∀ y0 y1 y2 y3, LeO (tabardref13_Sound.j0 k y0 y1 y2 y3) (tabardref13_Sound.j0 (k + 1) y0 y1 y2 y3)) ∧ (∀ y0 y1 y2 y3 y4, LeO (tabardref13_Sound.l0 k y0 y1 y2 y3 y4) (tabardref13_Sound.l0 (k + 1) y0 y1 y2 y3 y4)) ∧ (∀ y0 y1 y2 y3 y4 y5, LeO (tabardref13_Sound.l1 k y0 y1 y2 y3 y4 y5) (tabardref13_Sound.l1 (k + 1) y0 y1 y2 y3 y4 y5)) ∧ (∀ y0 y1 y2 y3 y4 y5 y6, LeO (tabardref13_Sound.j3 k y0 y1 y2 y3 y4 y5 y6) (tabardref13_Sound.j3 (k + 1) y0 y1 y2 y3 y4 y5 y6))
 | 0 => ⟨fun _ _ _ _ r h => by simp [tabardref13_Sound.j0] at h, fun _ _ _ _ _ r h => by simp [tabardref13_Sound.l0] at h, fun _ _ _ _ _ _ r h => by simp [tabardref13_Sound.l1] at h, fun _ _ _ _ _ _ _ r h => by simp [tabardref13_Sound.j3] at h⟩
 | k + 1 => by
  obtain ⟨ih0, ih1, ih2, ih3⟩ := tabardref13_Sound.mono_l k; refine ⟨?_, ?_, ?_, ?_⟩
  ·intro y0 y1 y2 y3
   unfold tabardref13_Sound.j0
   repeat' first | (with_reducible first | exact ih0 _ _ _ _ | exact ih1 _ _ _ _ _ | exact ih2 _ _ _ _ _ _ | exact ih3 _ _ _ _ _ _ _ | exact tabardref12_Right.mono _ _ _ _ | exact tabardref13_Reached.mono _ _ _ _ | exact lA | apply lI | refine lB ?_ fun _ => ?_) | exact lN _ | apply lI | refine lB ?_ fun _ => ?_
  ·intro y0 y1 y2 y3 y4
   unfold tabardref13_Sound.l0
   repeat' first | (with_reducible first | exact ih0 _ _ _ _ | exact ih1 _ _ _ _ _ | exact ih2 _ _ _ _ _ _ | exact ih3 _ _ _ _ _ _ _ | exact tabardref12_Right.mono _ _ _ _ | exact tabardref13_Reached.mono _ _ _ _ | exact lA | apply lI | refine lB ?_ fun _ => ?_) | exact lN _ | apply lI | refine lB ?_ fun _ => ?_
  ·intro y0 y1 y2 y3 y4 y5
   unfold tabardref13_Sound.l1
   repeat' first | (with_reducible first | exact ih0 _ _ _ _ | exact ih1 _ _ _ _ _ | exact ih2 _ _ _ _ _ _ | exact ih3 _ _ _ _ _ _ _ | exact tabardref12_Right.mono _ _ _ _ | exact tabardref13_Reached.mono _ _ _ _ | exact lA | apply lI | refine lB ?_ fun _ => ?_) | exact lN _ | apply lI | refine lB ?_ fun _ => ?_
  ·intro y0 y1 y2 y3 y4 y5 y6
   unfold tabardref13_Sound.j3
   repeat' first | (with_reducible first | exact ih0 _ _ _ _ | exact ih1 _ _ _ _ _ | exact ih2 _ _ _ _ _ _ | exact ih3 _ _ _ _ _ _ _ | exact tabardref12_Right.mono _ _ _ _ | exact tabardref13_Reached.mono _ _ _ _ | exact lA | apply lI | refine lB ?_ fun _ => ?_) | exact lN _ | apply lI | refine lB ?_ fun _ => ?_
theorem tabardref13_Sound.mono : ∀ a0 a1 a2 k, LeO (tabardref13_Sound.f k a0 a1 a2) (tabardref13_Sound.f (k + 1) a0 a1 a2) := by
 intro a0 a1 a2 k; obtain ⟨ih0, ih1, ih2, ih3⟩ := tabardref13_Sound.mono_l k
 unfold tabardref13_Sound.f
 repeat' first | (with_reducible first | exact ih0 _ _ _ _ | exact ih1 _ _ _ _ _ | exact ih2 _ _ _ _ _ _ | exact ih3 _ _ _ _ _ _ _ | exact tabardref12_Right.mono _ _ _ _ | exact tabardref13_Reached.mono _ _ _ _ | exact lA | apply lI | refine lB ?_ fun _ => ?_) | exact lN _ | apply lI | refine lB ?_ fun _ => ?_
theorem tabardref13_Sound.calls (k : Nat) (am : Option Addr) (an : Nat) (I : List ByteArray) (ao : Option Addr) (ap : Nat) (D : List Bool) (aq : Option Addr) (ar : Nat) (z : List (List Int)) (r : Bool) (w : World) (bk : Kd.C Kd.string w am I.length I) (bl : I.length ≤ an) (bm : Kd.C Kd.bool w ao D.length D) (bn : D.length ≤ ap) (bo : Kd.C (Kd.slice 3 (Kd.int .i64)) w aq z.length z) (bp : z.length ≤ ar) (h : tabardref13_Sound.f k I D z = some r) :
  Calls Try.prog 24 #[.agg #[.slice am I.length an, .slice ao D.length ap, .slice aq z.length ar]] w fun e w' => e = .returned (.bool r) ∧ Below w.heap.size w w' := by
 have hu26 := Try.underlying26; have O := aM bk; have P := aM bl; clear bk bl; have J := aM bm; have Q := aM bn; clear bm bn; have L := aM bo; have U := aM bp; clear bo bp; have HB := aM (Below.refl w.heap.size w); rw [tabardref13_Sound.f] at h; have H := h; clear h; have bO := aM H; clear H
 go_enter Try.func24, Try.ntmps24
 go_upto_region 1 with (first | ((with_reducible refine gate_dst (N := 1) rfl ?_); refine be_ (cs := #[.slice am I.length an, .slice ao D.length ap, .slice aq z.length ar]) (t := 26) ?_; intro av hg w3 R hb; have E := aM (R); have bq := gE hg (bP0 HB); have F := gE hg (bP0 HB); replace HB := hS0 HB hb; clear hb R hg))
 repeat (go_quiet (first | ((with_reducible refine gate_dst (N := 1) rfl ?_); refine be_ (cs := #[.slice am I.length an, .slice ao D.length ap, .slice aq z.length ar]) (t := 26) ?_; intro av hg w3 R hb; have E := aM (R); have bq := gE hg (bP0 HB); have F := gE hg (bP0 HB); replace HB := hS0 HB hb; clear hb R hg)); go_upto_region 1 with (first | ((with_reducible refine gate_dst (N := 1) rfl ?_); refine be_ (cs := #[.slice am I.length an, .slice ao D.length ap, .slice aq z.length ar]) (t := 26) ?_; intro av hg w3 R hb; have E := aM (R); have bq := gE hg (bP0 HB); have F := gE hg (bP0 HB); replace HB := hS0 HB hb; clear hb R hg)))
 (try simp only [Act.put, sA, sB, sC])
 go_cut [15] (fun cW wc => ∃ (kq : Nat) (aQ : Bool), cW = .bool aQ ∧ Aside0 (tabardref13_Sound.j0 kq aQ I D z = some r) ∧ Aside0 (kq ≤ k) ∧ Aside0 (wc.heap[av]? = some (.cells #[(.slice am I.length an), (.slice ao D.length ap), (.slice aq z.length ar)] 26 (0, 0))) ∧ BA w wc)
 case first =>
  have H := bO.out; clear bO; apply bSx H; clear H; intro ce A4 H
  by_cases c5 : ce = true
  ·subst c5
   rw [if_pos rfl] at H
   apply iN H; clear H; intro c6 H; have bP := dT c6; have dm : decide (0 < D.length) = true := dT (by omega); clear c6
   (first | rw [bP] | (simp only [i64_w, i32_w]; rw [bP]) | skip)
   have H' := aM H; clear H; obtain ⟨cY, cZ, c0, c1, c2, c3⟩ := bG3 E
   go_wp2_with (first | (go_at_call 14; (with_reducible refine (tabardref12_Right.calls k _ _ I _ _ D _ _ z true _ ?s1 P.out ?s3 Q.out ?s5 U.out A4.out).mono ?_); (case s1 => exact cB O HB); (case s3 => exact cB J HB); (case s5 => exact cB L HB); rintro e w8 ⟨rfl, hb⟩; replace E := kB E hb; replace HB := hS1 HB F hb; (try clear hb); obtain ⟨aZ, a3, a4, a5, a6, a7⟩ := bG3 E; have V : 0 ≤ (0 : Int) := (by omega); have W : 0 < (D.length : Int) := oT aO; obtain ⟨br, aR, G⟩ := Kd.at_bool J.out 0 V W; cases aR; have qi482 : (0 < D.length) = True := eq_true (by omega); (try rw [show ((0 : Int)).toNat = 0 from rfl] at G); (try rw [Addr.add_zero'] at G); replace G := cX HB G; replace V := eq_true V; replace W := eq_true W))
   repeat (go_quiet (first | (go_at_call 14; (with_reducible refine (tabardref12_Right.calls k _ _ I _ _ D _ _ z true _ ?s1 P.out ?s3 Q.out ?s5 U.out A4.out).mono ?_); (case s1 => exact cB O HB); (case s3 => exact cB J HB); (case s5 => exact cB L HB); rintro e w8 ⟨rfl, hb⟩; replace E := kB E hb; replace HB := hS1 HB F hb; (try clear hb); obtain ⟨aZ, a3, a4, a5, a6, a7⟩ := bG3 E; have V : 0 ≤ (0 : Int) := (by omega); have W : 0 < (D.length : Int) := oT aO; obtain ⟨br, aR, G⟩ := Kd.at_bool J.out 0 V W; cases aR; have qi482 : (0 < D.length) = True := eq_true (by omega); (try rw [show ((0 : Int)).toNat = 0 from rfl] at G); (try rw [Addr.add_zero'] at G); replace G := cX HB G; replace V := eq_true V; replace W := eq_true W)); try go_wp2_with (first | (go_at_call 14; (with_reducible refine (tabardref12_Right.calls k _ _ I _ _ D _ _ z true _ ?s1 P.out ?s3 Q.out ?s5 U.out A4.out).mono ?_); (case s1 => exact cB O HB); (case s3 => exact cB J HB); (case s5 => exact cB L HB); rintro e w8 ⟨rfl, hb⟩; replace E := kB E hb; replace HB := hS1 HB F hb; (try clear hb); obtain ⟨aZ, a3, a4, a5, a6, a7⟩ := bG3 E; have V : 0 ≤ (0 : Int) := (by omega); have W : 0 < (D.length : Int) := oT aO; obtain ⟨br, aR, G⟩ := Kd.at_bool J.out 0 V W; cases aR; have qi482 : (0 < D.length) = True := eq_true (by omega); (try rw [show ((0 : Int)).toNat = 0 from rfl] at G); (try rw [Addr.add_zero'] at G); replace G := cX HB G; replace V := eq_true V; replace W := eq_true W)))
   go_meet
   case rel => exact ⟨_, (rdOf false D 0), sI, H', lE, kQ E, bT1 HB F⟩
  ·replace c5 := Bool.eq_false_iff.mpr c5; subst c5
   rw [if_neg nF] at H; have H' := aM H; clear H; obtain ⟨ci, cj, ck, cl, cm, cn⟩ := bG3 E
   go_wp2_with (first | (go_at_call 14; (with_reducible refine (tabardref12_Right.calls k _ _ I _ _ D _ _ z false _ ?s1 P.out ?s3 Q.out ?s5 U.out A4.out).mono ?_); (case s1 => exact cB O HB); (case s3 => exact cB J HB); (case s5 => exact cB L HB); rintro e cc ⟨rfl, hb⟩; replace E := kB E hb; replace HB := hS1 HB F hb; (try clear hb)))
   repeat (go_quiet (first | (go_at_call 14; (with_reducible refine (tabardref12_Right.calls k _ _ I _ _ D _ _ z false _ ?s1 P.out ?s3 Q.out ?s5 U.out A4.out).mono ?_); (case s1 => exact cB O HB); (case s3 => exact cB J HB); (case s5 => exact cB L HB); rintro e cc ⟨rfl, hb⟩; replace E := kB E hb; replace HB := hS1 HB F hb; (try clear hb))); try go_wp2_with (first | (go_at_call 14; (with_reducible refine (tabardref12_Right.calls k _ _ I _ _ D _ _ z false _ ?s1 P.out ?s3 Q.out ?s5 U.out A4.out).mono ?_); (case s1 => exact cB O HB); (case s3 => exact cB J HB); (case s5 => exact cB L HB); rintro e cc ⟨rfl, hb⟩; replace E := kB E hb; replace HB := hS1 HB F hb; (try clear hb))))
   go_meet
   case rel => exact ⟨_, (true), sI, H', lE, kQ E, bT1 HB F⟩
 case rest =>
  clear bO
  obtain ⟨kq, aQ, rfl, HA, HJ1, E, HB⟩ := hcut; cases kq with
  | zero => exact absurd HA.out (by simp [tabardref13_Sound.j0])
  | succ a8 =>
   have H := HA.out; clear HA; simp only [tabardref13_Sound.j0] at H
   by_cases bs : aQ = true
   ·subst bs
    rw [if_pos rfl] at H; obtain rfl := Option.some.inj H
    go_wp2
    repeat (go_quiet (fail); try go_wp2)
    go_ret
    exact ⟨eW, bS1 HB.out F.out⟩
   ·replace bs := Bool.eq_false_iff.mpr bs; subst bs
    rw [if_neg nF] at H; apply bSx H; clear H; intro M bR H; have H' := aM H; clear H; obtain ⟨co, cp, cq, cr, ct, cu⟩ := bG3 E
    go_wp2_with (first | (go_at_call 41; (with_reducible refine (tabardref13_Reached.calls a8 _ _ I _ _ D _ _ z M _ ?s1 P.out ?s3 Q.out ?s5 U.out bR.out).mono ?_); (case s1 => exact cB O HB); (case s3 => exact cB J HB); (case s5 => exact cB L HB); rintro e cd ⟨a9, rfl, aP, hb⟩; have aU := rW aP (bP1 HB F); replace E := kB E hb; replace HB := hS1 HB F hb; (try clear hb); (try clear aP)))
    repeat (go_quiet (first | (go_at_call 41; (with_reducible refine (tabardref13_Reached.calls a8 _ _ I _ _ D _ _ z M _ ?s1 P.out ?s3 Q.out ?s5 U.out bR.out).mono ?_); (case s1 => exact cB O HB); (case s3 => exact cB J HB); (case s5 => exact cB L HB); rintro e cd ⟨a9, rfl, aP, hb⟩; have aU := rW aP (bP1 HB F); replace E := kB E hb; replace HB := hS1 HB F hb; (try clear hb); (try clear aP))); try go_wp2_with (first | (go_at_call 41; (with_reducible refine (tabardref13_Reached.calls a8 _ _ I _ _ D _ _ z M _ ?s1 P.out ?s3 Q.out ?s5 U.out bR.out).mono ?_); (case s1 => exact cB O HB); (case s3 => exact cB J HB); (case s5 => exact cB L HB); rintro e cd ⟨a9, rfl, aP, hb⟩; have aU := rW aP (bP1 HB F); replace E := kB E hb; replace HB := hS1 HB F hb; (try clear hb); (try clear aP))))
    go_loopg [4] a8 (fun kq v4 w' => ∃ (B : Int), v4 = .int .i64 B ∧ Aside0 (tabardref13_Sound.l0 kq M B I D z = some r) ∧ Aside0 (kq ≤ a8) ∧ RA Kd.bool 4 w' w a9 M ∧ Aside0 (w'.heap[av]? = some (.cells #[(.slice am I.length an), (.slice ao D.length ap), (.slice aq z.length ar)] 26 (0, 0))) ∧ BA w w')
    case atStart => exact ⟨(0), sI, H', ⟨Nat.le_refl _⟩, rQ aU, kQ E, bT1 HB F⟩
    case round =>
     clear H'
     obtain ⟨B, rfl, HA, b2, Y, E, HB⟩ := hrel; cases gk with
     | zero => exact absurd HA.out (by simp [tabardref13_Sound.l0])
     | succ k2 =>
      have H := HA.out; clear HA; simp only [tabardref13_Sound.l0] at H
      apply iB H <;> clear H <;> intro aS H
      ·have b3 := dT aS; clear aS; have H' := aM H; clear H; obtain ⟨bS, bT, rfl⟩ := sL Y
       go_wp2
       repeat (go_quiet (fail); try go_wp2)
       go_loopg [5] k2 (fun kq v5 w' => ∃ (A : Int), v5 = .int .i64 A ∧ Aside0 (tabardref13_Sound.l1 kq M B A I D z = some r) ∧ Aside0 (kq ≤ k2) ∧ RA Kd.bool 4 w' w (.slice bS M.length bT) M ∧ Aside0 (w'.heap[av]? = some (.cells #[(.slice am I.length an), (.slice ao D.length ap), (.slice aq z.length ar)] 26 (0, 0))) ∧ BA w w')
       case atStart => exact ⟨(0), sI, H', ⟨Nat.le_refl _⟩, rQ Y, kQ E, bT1 HB F⟩
       case round =>
        clear H'
        obtain ⟨A, rfl, HA, cf, Y, E, HB⟩ := hrel; cases gk with
        | zero => exact absurd HA.out (by simp [tabardref13_Sound.l1])
        | succ k3 =>
         have H := HA.out; clear HA; simp only [tabardref13_Sound.l1] at H; have ba := aM H; clear H
         go_upto_region 8 with (fail)
         repeat (go_quiet (fail); go_upto_region 8 with (fail))
         go_cut [37] (fun c7 wc => ∃ (kq : Nat) (aK : Bool), c7 = .bool aK ∧ Aside0 (tabardref13_Sound.j3 kq M B A aK I D z = some r) ∧ Aside0 (kq ≤ k3) ∧ RA Kd.bool 4 wc w (.slice bS M.length bT) M ∧ Aside0 (wc.heap[av]? = some (.cells #[(.slice am I.length an), (.slice ao D.length ap), (.slice aq z.length ar)] 26 (0, 0))) ∧ BA w wc)
         case first =>
          have H := ba.out; clear ba
          apply iN H; clear H; intro bt H; have bu := dT bt; clear bt
          (first | rw [bu] | (simp only [i64_w, i32_w]; rw [bu]) | skip)
          apply iN H; clear H; intro bv H; have c8 := dT bv; clear bv
          apply iB H <;> clear H <;> intro aT H
          ·have b4 := dT aT; clear aT
           apply iN H; clear H; intro bw H; have c9 := dT bw; clear bw; have H' := aM H; clear H; obtain ⟨cv, cw, cx, cy, cz, cA⟩ := bG3 E; have aw : 0 ≤ (B : Int) := oT aO; have ax : B < (z.length : Int) := oT aO; obtain ⟨b5, bU, bV, bb, Z, aa, ab⟩ := at_L1 L.out B aw ax; cases bb; replace Z := cX HB Z; have bK := aM ab; have bL := aM aa; clear ab aa; replace aw := eq_true aw; replace ax := eq_true ax; obtain ⟨⟨da, cg, cC⟩, bc, bd⟩ := xAt (Kd.at_bool (rR Y).2.2) B; cases cg
           go_wp2
           repeat (go_quiet (fail); try go_wp2)
           go_meet
           case rel => exact ⟨_, (rdOf false M B), sI, H', ⟨by have := HJ1.out; have := b2.out; have := cf.out; first | omega | exact Nat.le_refl _⟩, rQ Y, kQ E, bT1 HB F⟩
          ·have b4 := decide_eq_false aT; clear aT; have H' := aM H; clear H; obtain ⟨cD, cE, cF, cG, cH, cI⟩ := bG3 E; have aw : 0 ≤ (B : Int) := oT aO; have ax : B < (z.length : Int) := oT aO; obtain ⟨b5, bU, bV, bb, Z, aa, ab⟩ := at_L1 L.out B aw ax; cases bb; replace Z := cX HB Z; have bK := aM ab; have bL := aM aa; clear ab aa; replace aw := eq_true aw; replace ax := eq_true ax
           go_wp2
           repeat (go_quiet (fail); try go_wp2)
           go_meet
           case rel => exact ⟨_, (false), sI, H', ⟨by have := HJ1.out; have := b2.out; have := cf.out; first | omega | exact Nat.le_refl _⟩, rQ Y, kQ E, bT1 HB F⟩
         case rest =>
          clear ba
          obtain ⟨kq, aK, rfl, HA, HJ17, Y, E, HB⟩ := hcut; cases kq with
          | zero => exact absurd HA.out (by simp [tabardref13_Sound.j3])
          | succ bW =>
           have H := HA.out; clear HA; simp only [tabardref13_Sound.j3] at H
           by_cases bx : aK = true
           ·subst bx
            rw [if_pos rfl] at H
            apply iN H; clear H; intro bz H; have db := dT bz; clear bz
            apply iN H; clear H; intro bA H; have dc := dT bA; clear bA
            apply iN H; clear H; intro bB H; have dd := dT bB; clear bB
            apply iN H; clear H; intro bC H; have de := dT bC; clear bC
            apply iN H; clear H; intro bD H; have df := dT bD; clear bD
            apply iN H; clear H; intro bE H; have dg := dT bE; clear bE
            apply iN H; clear H; intro bF H; have dh := dT bF; clear bF
            apply iN H; clear H; intro bG H; have di := dT bG; clear bG
            apply iN H; clear H; intro bH H; have dj := dT bH; clear bH
            apply iN H; clear H; intro bI H; have dk := dT bI; clear bI
            apply iB H <;> clear H <;> intro au H
            ·have b6 : ((rdOf false D (rd (rd_L1 z B) A)) != (rdOf false D (rd (rd_L1 z (rd (rd_L1 z B) A)) A))) = true := au
             (try (have b7 : decide ((rdOf false D (rd (rd_L1 z B) A)) = (rdOf false D (rd (rd_L1 z (rd (rd_L1 z B) A)) A))) = false := by simpa using au))
             (try (have b8 : ((rdOf false D (rd (rd_L1 z B) A)) == (rdOf false D (rd (rd_L1 z (rd (rd_L1 z B) A)) A))) = false := by simpa using au))
             (try (have dl : ¬ ((rdOf false D (rd (rd_L1 z B) A)) = (rdOf false D (rd (rd_L1 z (rd (rd_L1 z B) A)) A))) := by simpa using au))
             clear au; obtain rfl := Option.some.inj H; obtain ⟨cJ, cK, cL, cM, cN, cO⟩ := bG3 E; have ay : 0 ≤ (B : Int) := oT aO; have az : B < (z.length : Int) := oT aO; obtain ⟨aV, bX, bY, be, ac, ad, ae⟩ := at_L1 L.out B ay az; cases be; replace ac := cX HB ac; have aL := aM ae; have bM := aM ad; clear ae ad; replace ay := eq_true ay; replace az := eq_true az; obtain ⟨⟨b9, bf, af⟩, aA, aB⟩ := xAt (Kd.at_int aL.out) A; cases bf; replace af := cX HB af; obtain ⟨⟨aW, bg, ag⟩, aC, aD⟩ := xAt (Kd.at_bool J.out) (rd (rd_L1 z B) A); cases bg; replace ag := cX HB ag; have aE : 0 ≤ ((rd (rd_L1 z B) A) : Int) := oT aO; have aF : (rd (rd_L1 z B) A) < (z.length : Int) := oT aO; obtain ⟨aX, bZ, b0, bh, ah, ai, aj⟩ := at_L1 L.out (rd (rd_L1 z B) A) aE aF; obtain rfl := sJJ bh; replace ah := cX HB ah; have aN := aM aj; have bN := aM ai; clear aj ai; replace aE := eq_true aE; replace aF := eq_true aF; obtain ⟨⟨ca, bi, ak⟩, aG, aH⟩ := xAt (Kd.at_int aN.out) A; cases bi; replace ak := cX HB ak; obtain ⟨⟨aY, bj, al⟩, aI, aJ⟩ := xAt (Kd.at_bool J.out) (rd (rd_L1 z (rd (rd_L1 z B) A)) A); obtain rfl := sJJ bj; replace al := cX HB al
             go_wp2
             repeat (go_quiet (fail); try go_wp2)
             go_ret
             exact ⟨eW, bS1 HB.out F.out⟩
            ·have b6 : ((rdOf false D (rd (rd_L1 z B) A)) != (rdOf false D (rd (rd_L1 z (rd (rd_L1 z B) A)) A))) = false := by simpa using au
             (try (have b7 : decide ((rdOf false D (rd (rd_L1 z B) A)) = (rdOf false D (rd (rd_L1 z (rd (rd_L1 z B) A)) A))) = true := by simpa using au))
             (try (have b8 : ((rdOf false D (rd (rd_L1 z B) A)) == (rdOf false D (rd (rd_L1 z (rd (rd_L1 z B) A)) A))) = true := by simpa using au))
             clear au; have H' := aM H; clear H; obtain ⟨cP, cQ, cR, cS, cT, cU⟩ := bG3 E; have ay : 0 ≤ (B : Int) := oT aO; have az : B < (z.length : Int) := oT aO; obtain ⟨aV, bX, bY, be, ac, ad, ae⟩ := at_L1 L.out B ay az; cases be; replace ac := cX HB ac; have aL := aM ae; have bM := aM ad; clear ae ad; replace ay := eq_true ay; replace az := eq_true az; obtain ⟨⟨b9, bf, af⟩, aA, aB⟩ := xAt (Kd.at_int aL.out) A; cases bf; replace af := cX HB af; obtain ⟨⟨aW, bg, ag⟩, aC, aD⟩ := xAt (Kd.at_bool J.out) (rd (rd_L1 z B) A); cases bg; replace ag := cX HB ag; have aE : 0 ≤ ((rd (rd_L1 z B) A) : Int) := oT aO; have aF : (rd (rd_L1 z B) A) < (z.length : Int) := oT aO; obtain ⟨aX, bZ, b0, bh, ah, ai, aj⟩ := at_L1 L.out (rd (rd_L1 z B) A) aE aF; obtain rfl := sJJ bh; replace ah := cX HB ah; have aN := aM aj; have bN := aM ai; clear aj ai; replace aE := eq_true aE; replace aF := eq_true aF; obtain ⟨⟨ca, bi, ak⟩, aG, aH⟩ := xAt (Kd.at_int aN.out) A; cases bi; replace ak := cX HB ak; obtain ⟨⟨aY, bj, al⟩, aI, aJ⟩ := xAt (Kd.at_bool J.out) (rd (rd_L1 z (rd (rd_L1 z B) A)) A); obtain rfl := sJJ bj; replace al := cX HB al
             go_wp2
             repeat (go_quiet (fail); try go_wp2)
             go_roundg bW
             case measure => have := HJ1.out; have := b2.out; have := cf.out; have := HJ17.out; omega
             case rel => exact ⟨(wrap64 (A + 1)), sI, H', ⟨by have := HJ1.out; have := b2.out; have := cf.out; have := HJ17.out; omega⟩, rQ Y, kQ E, bT1 HB F⟩
           ·replace bx := Bool.eq_false_iff.mpr bx; subst bx
            rw [if_neg nF] at H; have H' := aM H; clear H
            go_wp2
            repeat (go_quiet (fail); try go_wp2)
            go_roundg bW
            case measure => have := HJ1.out; have := b2.out; have := cf.out; have := HJ17.out; omega
            case rel => exact ⟨(wrap64 (B + 1)), sI, H', ⟨by have := HJ1.out; have := b2.out; have := cf.out; have := HJ17.out; omega⟩, rQ Y, kQ E, bT1 HB F⟩
      ·have b3 := decide_eq_false aS; clear aS; obtain rfl := Option.some.inj H; obtain ⟨dq, dr, rfl⟩ := sL Y
       go_wp2
       repeat (go_quiet (fail); try go_wp2)
       go_ret
       exact ⟨eW, bS1 HB.out F.out⟩

end Go.Proofs.Ytbpeloobnjbgkaa.X

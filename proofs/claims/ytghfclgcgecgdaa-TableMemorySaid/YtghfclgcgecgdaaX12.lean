/- What the functions of this seat compute, and that the program's calls come to just that: written by this session's own program out of the translation; no condition. -/
import Derived.Test.YtghfclgcgecgdaaX0
namespace Go.Proofs.Ytghfclgcgecgdaa.X
open Go.RowKit Go.Proofs.YtghfclgcgecgdaaW.PrintWords Go.Proofs.YtghfclgcgecgdaaW.PrintLast Go.Proofs.YtghfclgcgecgdaaW.PrintMore
attribute [local go_sem] max2_int min2_int max_two min_two max_three min_three max_four min_four
set_option linter.unusedVariables false
set_option linter.unusedSimpArgs false
set_option maxHeartbeats 8000000
set_option maxRecDepth 100000

/-! ### table_rowOf: function 48 -/
def table_rowOf.f (l0_0 : List ByteArray) (l0_1 : List Bool) (l0_2 : List Int) (l0_3 : List (S58)) (a1 : Int) : Option ((List (S58))) := if 0 ≤ a1 then (if a1 < (l0_2.length : Int) then (if 0 ≤ (wrap64 (a1 + 1)) then (if (wrap64 (a1 + 1)) < (l0_2.length : Int) then (if 0 ≤ (rd l0_2 a1) then (if (rd l0_2 a1) ≤ (rd l0_2 (wrap64 (a1 + 1))) then (if (rd l0_2 (wrap64 (a1 + 1))) ≤ (l0_3.length : Int) then (some ((l0_3.take ((rd l0_2 (wrap64 (a1 + 1))) : Int).toNat).drop ((rd l0_2 a1) : Int).toNat)) else (none)) else (none)) else (none)) else (none)) else (none)) else (none)) else (none)
theorem table_rowOf.calls (ap : Option Addr) (aq : Nat) (ad : List ByteArray) (ar : Option Addr) (au : Nat) (ae : List Bool) (av : Option Addr) (aw : Nat) (z : List Int) (P0_3_ : Nat → Prop) (J : Option Addr) (G : Nat) (B : List (S58)) (E : Int) (r : List (S58)) (w : World) (aN : Kd.C Kd.string w ap ad.length ad) (aP : ad.length ≤ aq) (aQ : Kd.C Kd.bool w ar ae.length ae) (aR : ae.length ≤ au) (aS : Kd.C (Kd.int .i64) w av z.length z) (aT : z.length ≤ aw) (hs0_3 : Kd.V k58 58 w w.heap.size (fun k_ => P0_3_ k_) (.slice J B.length G) B) (h : table_rowOf.f ad ae z B E = some r) :
  Calls Try.prog 48 #[.agg #[.slice ap ad.length aq, .slice ar ae.length au, .slice av z.length aw, .slice J B.length G], .int .i64 E] w fun e w' => ∃ a6 : Value, e = .returned (a6) ∧ Kd.V k58 58 w' w.heap.size (fun k_ => (P0_3_ k_ ∨ w.heap.size ≤ k_)) a6 r ∧ Below w.heap.size w w' := by
 have hu32 := Try.underlying32; have a8 := aM aN; have a9 := aM aP; clear aN aP; have ba := aM aQ; have bb := aM aR; clear aQ aR; have ag := aM aS; have bc := aM aT; clear aS aT; have O := aM (show Kd.V k58 58 w w.heap.size (fun k_ => (P0_3_ k_ ∨ w.heap.size ≤ k_)) (.slice J B.length G) B from Kd.V_mono hs0_3 (fun k_ hk => .inl hk)); have HB := aM (Below.refl w.heap.size w); rw [table_rowOf.f] at h; have H := h; clear h
 apply iN H; clear H; intro c3 H; have bf := dT c3; clear c3
 apply iN H; clear H; intro c4 H; have bg := dT c4; clear c4; obtain ⟨D, aI⟩ : ∃ j_ : Int, (wrap64 (E + 1)) = j_ := ⟨_, rfl⟩
 first | rw [aI] at H | simp only [aI] at H
 have hji5w : (IntKind.i64.wrap (E + 1)) = D := (i64_w _).trans aI
 apply iN H; clear H; intro c6 H; have bh := dT c6; clear c6
 apply iN H; clear H; intro c7 H; have bi := dT c7; clear c7
 apply iN H; clear H; intro c8 H; have bj := eq_true c8; have bk := dT c8; clear c8
 apply iN H; clear H; intro c9 H; have bl := eq_true c9; have bm := dT c9; clear c9
 apply iN H; clear H; intro aL H; have bd := eq_true aL; have be := dT aL; clear aL; obtain ⟨I, ao⟩ : ∃ y_ : List (S58), y_ = ((B.take ((rd z (D)) : Int).toNat).drop ((rd z E) : Int).toNat) := ⟨_, rfl⟩
 first | replace H := rI ao H | rw [← ao] at H
 have ah := aM ao; clear ao; obtain rfl := Option.some.inj H
 go_enter Try.func48, Try.ntmps48
 go_wp2_with (first | ((with_reducible refine gate_dst (N := 2) rfl ?_); refine be_ (cs := #[.slice ap ad.length aq, .slice ar ae.length au, .slice av z.length aw, .slice J B.length G]) (t := 32) ?_; intro ai hg a7 aW hb; replace O := aM (Kd.V_below (Kd.V_elderB (vO O.out) ai (Nat.le_of_eq hg.symm)) hb); have aj := aM (aW); have aU := gE hg (bP0 HB); have aJ := gE hg (bP0 HB); replace HB := hS0 HB hb; clear hb aW hg; obtain ⟨aA, aB, aC, aD, aE, aF, aG, aH⟩ := bG4 aj; obtain ⟨⟨ak, ax, Q⟩, Y, Z⟩ := xAt (Kd.at_int ag.out) E; cases ax; replace Q := cX HB Q; obtain ⟨⟨al, ay, R⟩, aa, ab⟩ := xAt (Kd.at_int ag.out) (D); obtain rfl := sJJ ay; replace R := cX HB R; have af : ((rd z (D)) : Int) ≤ ((B.length : Int) : Int) := oT aO; obtain ⟨i013, ac, _, hsz13, _⟩ := info_parts info58; have A : B.length ≤ G := (Kd.V_reads' O.out).2.1; have hC13 : Kd.F k58 _ _ J B.length B := (Kd.V_at (base := w.heap.size) O.out).2.2; have ql13 : ((rd z E) : Int) ≤ ((rd z (D)) : Int) := oT aO; have az : (0 : Int) ≤ ((rd z E) : Int) := oT aO; have hcut13 := cut_mid (P := Try.prog) 30 58 .i64 .i64 Try.underlying30 ac 3 hsz13 J B.length G (rd z E) (rd z (D)) az ql13 af A; have L := Kd.F_mid (lo := ((rd z E) : Int).toNat) (hi := ((rd z (D)) : Int).toNat) (c := G) hC13 (by omega) (by omega) A; obtain ⟨am, U⟩ : ∃ A1, A1 = (if G = ((rd z E) : Int).toNat then J else (J : Option Addr).map (·.add (((rd z E) : Int).toNat * 3))) := ⟨_, rfl⟩; obtain ⟨an, W⟩ : ∃ c1, c1 = G - ((rd z E) : Int).toNat := ⟨_, rfl⟩; have M : I.length = ((rd z (D)) : Int).toNat - ((rd z E) : Int).toNat := (by rw [ah.out, List.length_drop, List.length_take] <;> omega); rw [show ((B).take ((rd z (D)) : Int).toNat).drop ((rd z E) : Int).toNat = I from ah.out.symm] at L; replace L : Kd.F k58 _ _ am I.length I := (by rw [U]; exact L); rw [← M, ← U, ← W] at hcut13; have aK := aM (show Kd.V k58 58 _ w.heap.size _ (.slice am I.length an) I from Kd.V_mk (by rw [M, W]; exact Nat.sub_le_sub_right (Nat.le_trans (by omega) A) _) L); have aV := aM (show I.length ≤ an from by rw [M, W]; exact Nat.sub_le_sub_right (Nat.le_trans (by omega) A) _); clear L hC13 A ac hsz13 W; have KY13 := aM M; have KA13 := aM U; clear M U; replace af := eq_true af))
 repeat (go_quiet (first | ((with_reducible refine gate_dst (N := 2) rfl ?_); refine be_ (cs := #[.slice ap ad.length aq, .slice ar ae.length au, .slice av z.length aw, .slice J B.length G]) (t := 32) ?_; intro ai hg a7 aW hb; replace O := aM (Kd.V_below (Kd.V_elderB (vO O.out) ai (Nat.le_of_eq hg.symm)) hb); have aj := aM (aW); have aU := gE hg (bP0 HB); have aJ := gE hg (bP0 HB); replace HB := hS0 HB hb; clear hb aW hg; obtain ⟨aA, aB, aC, aD, aE, aF, aG, aH⟩ := bG4 aj; obtain ⟨⟨ak, ax, Q⟩, Y, Z⟩ := xAt (Kd.at_int ag.out) E; cases ax; replace Q := cX HB Q; obtain ⟨⟨al, ay, R⟩, aa, ab⟩ := xAt (Kd.at_int ag.out) (D); obtain rfl := sJJ ay; replace R := cX HB R; have af : ((rd z (D)) : Int) ≤ ((B.length : Int) : Int) := oT aO; obtain ⟨i013, ac, _, hsz13, _⟩ := info_parts info58; have A : B.length ≤ G := (Kd.V_reads' O.out).2.1; have hC13 : Kd.F k58 _ _ J B.length B := (Kd.V_at (base := w.heap.size) O.out).2.2; have ql13 : ((rd z E) : Int) ≤ ((rd z (D)) : Int) := oT aO; have az : (0 : Int) ≤ ((rd z E) : Int) := oT aO; have hcut13 := cut_mid (P := Try.prog) 30 58 .i64 .i64 Try.underlying30 ac 3 hsz13 J B.length G (rd z E) (rd z (D)) az ql13 af A; have L := Kd.F_mid (lo := ((rd z E) : Int).toNat) (hi := ((rd z (D)) : Int).toNat) (c := G) hC13 (by omega) (by omega) A; obtain ⟨am, U⟩ : ∃ A1, A1 = (if G = ((rd z E) : Int).toNat then J else (J : Option Addr).map (·.add (((rd z E) : Int).toNat * 3))) := ⟨_, rfl⟩; obtain ⟨an, W⟩ : ∃ c1, c1 = G - ((rd z E) : Int).toNat := ⟨_, rfl⟩; have M : I.length = ((rd z (D)) : Int).toNat - ((rd z E) : Int).toNat := (by rw [ah.out, List.length_drop, List.length_take] <;> omega); rw [show ((B).take ((rd z (D)) : Int).toNat).drop ((rd z E) : Int).toNat = I from ah.out.symm] at L; replace L : Kd.F k58 _ _ am I.length I := (by rw [U]; exact L); rw [← M, ← U, ← W] at hcut13; have aK := aM (show Kd.V k58 58 _ w.heap.size _ (.slice am I.length an) I from Kd.V_mk (by rw [M, W]; exact Nat.sub_le_sub_right (Nat.le_trans (by omega) A) _) L); have aV := aM (show I.length ≤ an from by rw [M, W]; exact Nat.sub_le_sub_right (Nat.le_trans (by omega) A) _); clear L hC13 A ac hsz13 W; have KY13 := aM M; have KA13 := aM U; clear M U; replace af := eq_true af)); try go_wp2_with (first | ((with_reducible refine gate_dst (N := 2) rfl ?_); refine be_ (cs := #[.slice ap ad.length aq, .slice ar ae.length au, .slice av z.length aw, .slice J B.length G]) (t := 32) ?_; intro ai hg a7 aW hb; replace O := aM (Kd.V_below (Kd.V_elderB (vO O.out) ai (Nat.le_of_eq hg.symm)) hb); have aj := aM (aW); have aU := gE hg (bP0 HB); have aJ := gE hg (bP0 HB); replace HB := hS0 HB hb; clear hb aW hg; obtain ⟨aA, aB, aC, aD, aE, aF, aG, aH⟩ := bG4 aj; obtain ⟨⟨ak, ax, Q⟩, Y, Z⟩ := xAt (Kd.at_int ag.out) E; cases ax; replace Q := cX HB Q; obtain ⟨⟨al, ay, R⟩, aa, ab⟩ := xAt (Kd.at_int ag.out) (D); obtain rfl := sJJ ay; replace R := cX HB R; have af : ((rd z (D)) : Int) ≤ ((B.length : Int) : Int) := oT aO; obtain ⟨i013, ac, _, hsz13, _⟩ := info_parts info58; have A : B.length ≤ G := (Kd.V_reads' O.out).2.1; have hC13 : Kd.F k58 _ _ J B.length B := (Kd.V_at (base := w.heap.size) O.out).2.2; have ql13 : ((rd z E) : Int) ≤ ((rd z (D)) : Int) := oT aO; have az : (0 : Int) ≤ ((rd z E) : Int) := oT aO; have hcut13 := cut_mid (P := Try.prog) 30 58 .i64 .i64 Try.underlying30 ac 3 hsz13 J B.length G (rd z E) (rd z (D)) az ql13 af A; have L := Kd.F_mid (lo := ((rd z E) : Int).toNat) (hi := ((rd z (D)) : Int).toNat) (c := G) hC13 (by omega) (by omega) A; obtain ⟨am, U⟩ : ∃ A1, A1 = (if G = ((rd z E) : Int).toNat then J else (J : Option Addr).map (·.add (((rd z E) : Int).toNat * 3))) := ⟨_, rfl⟩; obtain ⟨an, W⟩ : ∃ c1, c1 = G - ((rd z E) : Int).toNat := ⟨_, rfl⟩; have M : I.length = ((rd z (D)) : Int).toNat - ((rd z E) : Int).toNat := (by rw [ah.out, List.length_drop, List.length_take] <;> omega); rw [show ((B).take ((rd z (D)) : Int).toNat).drop ((rd z E) : Int).toNat = I from ah.out.symm] at L; replace L : Kd.F k58 _ _ am I.length I := (by rw [U]; exact L); rw [← M, ← U, ← W] at hcut13; have aK := aM (show Kd.V k58 58 _ w.heap.size _ (.slice am I.length an) I from Kd.V_mk (by rw [M, W]; exact Nat.sub_le_sub_right (Nat.le_trans (by omega) A) _) L); have aV := aM (show I.length ≤ an from by rw [M, W]; exact Nat.sub_le_sub_right (Nat.le_trans (by omega) A) _); clear L hC13 A ac hsz13 W; have KY13 := aM M; have KA13 := aM U; clear M U; replace af := eq_true af)))
 go_ret
 exact ⟨_, by first | rfl | (simp [errW_none, errW_some] <;> rfl) | (simp only [← aI]; first | rfl | (simp [errW_none, errW_some] <;> rfl)) | (simp [*, errW_none, errW_some] <;> rfl), by (with_reducible repeat (first | apply Kd.V_alloc | apply Kd.V_drewN | apply Kd.V_drew)); exact Kd.V_mono aK.out (fun _ hk => hk.1), bS1 HB.out aJ.out⟩

/-! ### cmp_isNaN_int: function 71 -/
def cmp_isNaN_int.f (a0 : Int) : Option (Bool) := some (a0 != a0)
theorem cmp_isNaN_int.calls (z : Int) (r : Bool) (w : World) (h : cmp_isNaN_int.f z = some r) :
  Calls Try.prog 71 #[.int .i64 z] w fun e w' => e = .returned (.bool r) ∧ Drawn0 w w' := by
 rw [cmp_isNaN_int.f] at h; have H := h; clear h; obtain rfl := Option.some.inj H
 go_enter Try.func71, Try.ntmps71
 go_wp2
 go_ret
 exact ⟨eVl, dRw⟩

/-! ### cmp_Less_int: function 65 -/
def cmp_Less_int.f (a0 : Int) (a1 : Int) : Option (Bool) := (cmp_isNaN_int.f a0).bind fun t175 => (if t175 = true then ((cmp_isNaN_int.f a1).bind fun t176 => (if t176 = true then (some (decide (a0 < a1))) else (some true))) else (some (decide (a0 < a1))))
theorem cmp_Less_int.calls (z : Int) (A : Int) (r : Bool) (w : World) (h : cmp_Less_int.f z A = some r) :
  Calls Try.prog 65 #[.int .i64 z, .int .i64 A] w fun e w' => e = .returned (.bool r) ∧ Drawn0 w w' := by
 rw [cmp_Less_int.f] at h; have H := h; clear h; apply bSx H; clear H; intro I J H
 by_cases B : I = true
 ·subst B
  rw [if_pos rfl] at H; apply bSx H; clear H; intro L M H
  by_cases D : L = true
  ·subst D
   rw [if_pos rfl] at H; obtain rfl := Option.some.inj H
   go_enter Try.func65, Try.ntmps65
   go_wp2_with (first | ((with_reducible refine gate_callee (f := 71) rfl ?_); refine gL_ (some 6) Try.func71 #[.int .i64 z] ?_; (with_reducible refine (cmp_isNaN_int.calls z true _ J.out).mono ?_); rintro e w' ⟨rfl, ⟨nd, rfl⟩⟩; refine ⟨_, rfl, ?_⟩) | (go_at_call 71; (with_reducible refine (cmp_isNaN_int.calls A true _ M.out).mono ?_); rintro e w' ⟨rfl, ⟨nd, rfl⟩⟩))
   go_ret
   exact ⟨eVl, dRw⟩
  ·replace D := Bool.eq_false_iff.mpr D; subst D
   rw [if_neg nF] at H; obtain rfl := Option.some.inj H
   go_enter Try.func65, Try.ntmps65
   go_wp2_with (first | ((with_reducible refine gate_callee (f := 71) rfl ?_); refine gL_ (some 6) Try.func71 #[.int .i64 z] ?_; (with_reducible refine (cmp_isNaN_int.calls z true _ J.out).mono ?_); rintro e w' ⟨rfl, ⟨nd, rfl⟩⟩; refine ⟨_, rfl, ?_⟩) | (go_at_call 71; (with_reducible refine (cmp_isNaN_int.calls A false _ M.out).mono ?_); rintro e w' ⟨rfl, ⟨nd, rfl⟩⟩))
   go_ret
   exact ⟨eVl, dRw⟩
 ·replace B := Bool.eq_false_iff.mpr B; subst B
  rw [if_neg nF] at H; obtain rfl := Option.some.inj H
  go_enter Try.func65, Try.ntmps65
  go_wp2_with (first | ((with_reducible refine gate_callee (f := 71) rfl ?_); refine gL_ (some 6) Try.func71 #[.int .i64 z] ?_; (with_reducible refine (cmp_isNaN_int.calls z false _ J.out).mono ?_); rintro e w' ⟨rfl, ⟨nd, rfl⟩⟩; refine ⟨_, rfl, ?_⟩))
  go_ret
  exact ⟨eVl, dRw⟩

/-! ### slices_IsSorted_int_int: function 54 -/
def slices_IsSorted_int_int.l0 : Nat → List Int → Int → Option (Bool)
 | 0, _, _ => none
 | k + 1, x0, x3 => if x3 > 0 then (if 0 ≤ x3 then (if x3 < (x0.length : Int) then (if 0 ≤ (wrap64 (x3 - 1)) then (if (wrap64 (x3 - 1)) < (x0.length : Int) then ((cmp_Less_int.f (rd x0 x3) (rd x0 (wrap64 (x3 - 1)))).bind fun t179 => (if t179 = true then (some false) else (slices_IsSorted_int_int.l0 k x0 (wrap64 (x3 - 1))))) else (none)) else (none)) else (none)) else (none)) else (some true)
def slices_IsSorted_int_int.f (k : Nat) (l0 : List Int) : Option (Bool) := slices_IsSorted_int_int.l0 k l0 (wrap64 ((l0.length : Int) - 1))
theorem slices_IsSorted_int_int.mono_l : ∀ k, (∀ y0 y1, LeO (slices_IsSorted_int_int.l0 k y0 y1) (slices_IsSorted_int_int.l0 (k + 1) y0 y1))
 | 0 => fun _ _ r h => by simp [slices_IsSorted_int_int.l0] at h
 | k + 1 => by
  have ih0 := slices_IsSorted_int_int.mono_l k
  ·intro y0 y1
   unfold slices_IsSorted_int_int.l0
   repeat' first | (with_reducible first | exact ih0 _ _ | exact lA | apply lI | refine lB ?_ fun _ => ?_) | exact lN _ | apply lI | refine lB ?_ fun _ => ?_
theorem slices_IsSorted_int_int.mono : ∀ a0 k, LeO (slices_IsSorted_int_int.f k a0) (slices_IsSorted_int_int.f (k + 1) a0) := by
 intro a0 k; have ih0 := slices_IsSorted_int_int.mono_l k
 unfold slices_IsSorted_int_int.f
 repeat' first | (with_reducible first | exact ih0 _ _ | exact lA | apply lI | refine lB ?_ fun _ => ?_) | exact lN _ | apply lI | refine lB ?_ fun _ => ?_
theorem slices_IsSorted_int_int.calls (k : Nat) (A0 : Option Addr) (c0 : Nat) (A : List Int) (r : Bool) (w : World) (af : Kd.C (Kd.int .i64) w A0 A.length A) (ag : A.length ≤ c0) (h : slices_IsSorted_int_int.f k A = some r) :
  Calls Try.prog 54 #[.slice A0 A.length c0] w fun e w' => e = .returned (.bool r) ∧ Drawn0 w w' := by
 have R := aM af; have ar := aM ag; clear af ag; rw [slices_IsSorted_int_int.f] at h; have H := h; clear h; have H' := aM H; clear H
 go_enter Try.func54, Try.ntmps54
 go_wp2
 repeat (go_quiet (fail); try go_wp2)
 go_loopg [3] k (fun kq v3 w' => ∃ (z : Int), v3 = .int .i64 z ∧ Aside0 (slices_IsSorted_int_int.l0 kq A z = some r) ∧ Aside0 (kq ≤ k) ∧ Drawn0 w w')
 case atStart => exact ⟨(wrap64 ((A.length : Int) - 1)), sI, H', ⟨Nat.le_refl _⟩, dRw⟩
 case round =>
  clear H'; obtain ⟨z, rfl, HA, aX, ⟨m1, rfl⟩⟩ := hrel; cases gk with
  | zero => exact absurd HA.out (by simp [slices_IsSorted_int_int.l0])
  | succ k1 =>
   have H := HA.out; clear HA; simp only [slices_IsSorted_int_int.l0] at H
   apply iB H <;> clear H <;> intro U H
   ·have ai := dT U; clear U
    apply iN H; clear H; intro c3 H; have an := dT c3; clear c3
    apply iN H; clear H; intro c4 H; have ao := dT c4; clear c4; obtain ⟨B, J⟩ : ∃ j_ : Int, (wrap64 (z - 1)) = j_ := ⟨_, rfl⟩
    first | rw [J] at H | simp only [J] at H
    have hji5w : (IntKind.i64.wrap (z - 1)) = B := (i64_w _).trans J
    apply iN H; clear H; intro c6 H; have ap := dT c6; clear c6
    apply iN H; clear H; intro c7 H; have aq := dT c7; clear c7; apply bSx H; clear H; intro aj W H
    by_cases c9 : aj = true
    ·subst c9
     rw [if_pos rfl] at H; obtain rfl := Option.some.inj H; obtain ⟨⟨L, O, Y⟩, D, E⟩ := xAt (Kd.at_int R.out) z; cases O; obtain ⟨⟨M, Q, Z⟩, G, I⟩ := xAt (Kd.at_int R.out) (B); obtain rfl := sJJ Q
     go_wp2_with (first | (go_at_call 65; (with_reducible refine (cmp_Less_int.calls (rd A z) (rd A (B)) true _ W.out).mono ?_); rintro e w' ⟨rfl, ⟨nd, rfl⟩⟩; (try exact dN)))
     repeat (go_quiet (first | (go_at_call 65; (with_reducible refine (cmp_Less_int.calls (rd A z) (rd A (B)) true _ W.out).mono ?_); rintro e w' ⟨rfl, ⟨nd, rfl⟩⟩; (try exact dN))); try go_wp2_with (first | (go_at_call 65; (with_reducible refine (cmp_Less_int.calls (rd A z) (rd A (B)) true _ W.out).mono ?_); rintro e w' ⟨rfl, ⟨nd, rfl⟩⟩; (try exact dN))))
     go_ret
     exact ⟨by first | rfl | (simp; done) | (simp only [← J] <;> (first | rfl | simp)) | (simp [*]; done), dRw⟩
    ·replace c9 := Bool.eq_false_iff.mpr c9; subst c9
     rw [if_neg nF] at H; have H' := aM H; clear H; obtain ⟨⟨L, O, Y⟩, D, E⟩ := xAt (Kd.at_int R.out) z; cases O; obtain ⟨⟨M, Q, Z⟩, G, I⟩ := xAt (Kd.at_int R.out) (B); obtain rfl := sJJ Q
     go_wp2_with (first | (go_at_call 65; (with_reducible refine (cmp_Less_int.calls (rd A z) (rd A (B)) false _ W.out).mono ?_); rintro e w' ⟨rfl, ⟨nd, rfl⟩⟩; (try exact dN)))
     repeat (go_quiet (first | (go_at_call 65; (with_reducible refine (cmp_Less_int.calls (rd A z) (rd A (B)) false _ W.out).mono ?_); rintro e w' ⟨rfl, ⟨nd, rfl⟩⟩; (try exact dN))); try go_wp2_with (first | (go_at_call 65; (with_reducible refine (cmp_Less_int.calls (rd A z) (rd A (B)) false _ W.out).mono ?_); rintro e w' ⟨rfl, ⟨nd, rfl⟩⟩; (try exact dN))))
     go_roundg k1
     case measure => have := aX.out; omega
     case rel => exact ⟨(B), (by first | rfl | (simp; done) | (simp only [← J] <;> (first | rfl | simp)) | (simp [*]; done)), H', ⟨by have := aX.out; omega⟩, dRw⟩
   ·have ai := decide_eq_false U; clear U; obtain rfl := Option.some.inj H
    go_wp2
    repeat (go_quiet (fail); try go_wp2)
    go_ret
    exact ⟨eVl, dRw⟩

end Go.Proofs.Ytghfclgcgecgdaa.X

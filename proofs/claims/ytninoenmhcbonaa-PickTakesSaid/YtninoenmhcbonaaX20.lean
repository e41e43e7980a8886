/- What the functions of this seat compute, and that the program's calls come to just that: written by this session's own program out of the translation; no condition. -/
import Derived.Test.YtninoenmhcbonaaX0
import Derived.Test.YtninoenmhcbonaaX16
import Derived.Test.YtninoenmhcbonaaX19
namespace Go.Proofs.Ytninoenmhcbonaa.X
open Go.RowKit Go.Proofs.YtninoenmhcbonaaW.PrintWords Go.Proofs.YtninoenmhcbonaaW.PrintLast Go.Proofs.YtninoenmhcbonaaW.PrintMore
attribute [local go_sem] max2_int min2_int max_two min_two max_three min_three max_four min_four
set_option linter.unusedVariables false
set_option linter.unusedSimpArgs false
set_option maxHeartbeats 8000000
set_option maxRecDepth 100000

/-! ### pick_Shortest: function 13 -/
def pick_Shortest.f (k : Nat) (l0_0 : List ByteArray) (l0_1 : List Bool) (l0_2 : List Int) (l0_3 : List (S73)) : Option (List Int × Int) := (table_Unpack.f k l0_0 l0_1 l0_2 l0_3).bind fun bt244 => (if bt244.2.2.2 = 0 then ((pick_shortest.f k bt244.1 bt244.2.1 bt244.2.2.1).bind fun bt255 => (if bt255.2 = true then (some (bt255.1, 0)) else (some (([] : List Int), 190)))) else (some (([] : List Int), bt244.2.2.2)))
theorem pick_Shortest.mono : ∀ a0 a1 a2 a3 k, LeO (pick_Shortest.f k a0 a1 a2 a3) (pick_Shortest.f (k + 1) a0 a1 a2 a3) := by
 intro a0 a1 a2 a3 k
 unfold pick_Shortest.f
 repeat' first | (with_reducible first | exact pick_shortest.mono _ _ _ _ | exact table_Unpack.mono _ _ _ _ _ | exact lA | apply lI | refine lB ?_ fun _ => ?_) | exact lN _ | apply lI | refine lB ?_ fun _ => ?_
theorem pick_Shortest.calls (k : Nat) (Z : Option Addr) (aa : Nat) (I : List ByteArray) (ab : Option Addr) (ac : Nat) (J : List Bool) (ae : Option Addr) (af : Nat) (L : List Int) (ag : Option Addr) (ah : Nat) (M : List (S73)) (r1 : List Int) (r2 : Int) (w : World) (aw : Kd.C Kd.string w Z I.length I) (ax : I.length ≤ aa) (ay : Kd.C Kd.bool w ab J.length J) (az : J.length ≤ ac) (aA : Kd.C (Kd.int .i64) w ae L.length L) (aB : L.length ≤ af) (aC : Kd.C k73 w ag M.length M) (aD : M.length ≤ ah) (h : pick_Shortest.f k I J L M = some (r1, r2)) :
  Calls Try.prog 13 #[.agg #[.slice Z I.length aa, .slice ab J.length ac, .slice ae L.length af, .slice ag M.length ah]] w fun e w' => ∃ aZ : Value, e = .returned (.tuple #[aZ, .int .i64 r2]) ∧ Kd.R (Kd.int .i64) 3 w' w.heap.size (fun _ => True) aZ r1 ∧ Below w.heap.size w w' := by
 have hu27 := Try.underlying27; have hu45 := Try.underlying45; have al := aM aw; have am := aM ax; clear aw ax; have an := aM ay; have ao := aM az; clear ay az; have ap := aM aA; have aq := aM aB; clear aA aB; have ar := aM aC; have au := aM aD; clear aC aD; have HB := aM (Below.refl w.heap.size w); rw [pick_Shortest.f] at h; have H := h; clear h; replace H := Option.bind_eq_some_iff.mp H; obtain ⟨⟨U, V, Y, ai⟩, a4, H⟩ := H; replace H : (if ai = 0 then ((pick_shortest.f k U V Y).bind fun aE => (if aE.2 = true then (some (aE.1, 0)) else (some (([] : List Int), 190)))) else (some (([] : List Int), ai))) = some (r1, r2) := H; have A2 := aM a4; clear a4
 by_cases c3 : ai = 0
 ·rw [if_pos c3] at H; obtain ⟨a7, a8⟩ := bq c3; clear c3; replace H := Option.bind_eq_some_iff.mp H; obtain ⟨⟨av, aL⟩, a5, H⟩ := H; replace H : (if aL = true then (some (av, 0)) else (some (([] : List Int), 190))) = some (r1, r2) := H; have A4 := aM a5; clear a5
  by_cases c5 : aL = true
  ·subst c5
   rw [if_pos rfl] at H; simp only [Option.some.injEq, Prod.mk.injEq] at H; obtain ⟨rfl, rfl⟩ := H
   go_enter Try.func13, Try.ntmps13
   go_wp2_with (first | ((with_reducible refine gate_dst (N := 1) rfl ?_); refine be_ (cs := #[.slice Z I.length aa, .slice ab J.length ac, .slice ae L.length af, .slice ag M.length ah]) (t := 27) ?_; intro aF hg w6 hbox hb; have A := aM (hbox); have aG := gE hg (bP0 HB); have z := gE hg (bP0 HB); replace HB := hS0 HB hb; clear hb hbox hg; obtain ⟨b3, b4, b5, b6, b7, b8, b9, ca⟩ := bG4 A) | ((with_reducible refine gate_callee (f := 29) rfl ?_); refine gL_ (some 10) Try.func29 #[.agg #[.slice Z I.length aa, .slice ab J.length ac, .slice ae L.length af, .slice ag M.length ah]] ?_; (with_reducible refine (table_Unpack.calls k _ _ I _ _ J _ _ L _ _ M U V Y ai _ ?s1 am.out ?s3 ao.out ?s5 aq.out ?s7 au.out A2.out).mono ?_); (case s1 => exact cB al HB); (case s3 => exact cB an HB); (case s5 => exact cB ap HB); (case s7 => exact cB ar HB); rintro e w8 ⟨aN, aO, aP, rfl, P, aj, ak, hb⟩; refine ⟨_, rfl, ?_⟩; have D := rW P (bP1 HB z); have E := rW aj (bP1 HB z); have F := aM (Kd.S_lower ak (below_size (bP1 HB z))); replace A := kB A hb; replace HB := hS1 HB z hb; (try clear hb); (try clear P); (try clear aj); (try clear ak)) | ((with_reducible refine gate_dst (N := 4) rfl ?_); refine be_ (cs := #[.slice none 0 0, .slice none 0 0, .slice none 0 0]) (t := 45) ?_; intro aH hg w9 hbox hb; replace D := rB D hb; replace E := rB E hb; replace F := aM (Kd.S_below (by (with_reducible repeat (first | apply Kd.S_alloc | apply Kd.S_drewN | apply Kd.S_drew)); exact F.out) hb); have B := aM (hbox); have aI := gE hg (bP1 HB z); have Q := gE hg (bP1 HB z); replace HB := hS1 HB z hb; have G := nL hg A; have O := nG hg A; replace A := kB A hb; clear hb hbox hg; obtain ⟨a9, aQ, ba⟩ := sL D; subst ba; have cb := O.out; have cc := G.out; obtain ⟨br, bs, bt, bu, bv, bw⟩ := bG3 B; obtain ⟨bb, aR, bc⟩ := sL E; subst bc; obtain ⟨bd, aS, be⟩ := Kd.S_slice F.out; subst be) | ((with_reducible refine gate_callee (f := 30) rfl ?_); refine gL_ (some 18) Try.func30 #[.agg #[.slice a9 U.length aQ, .slice bb V.length aR, .slice bd Y.length aS]] ?_; (with_reducible refine (pick_shortest.calls k _ _ U _ _ V _ _ Y av true _ ?s1 (rR D).2.1 ?s3 (rR E).2.1 ?s5 ?s6 A4.out).mono ?_); (case s1 => refine (Kd.R_reads' (e := 9) (base := w.heap.size) (ok := fun k_ => True) (n := U.length) (c := aQ) ?_).2.2; exact (rY D B)); (case s3 => refine (Kd.R_reads' (e := 4) (base := w.heap.size) (ok := fun k_ => True) (n := V.length) (c := aR) ?_).2.2; exact (rY E B)); (case s5 => refine (Kd.S_reads' (e := 24) (base := w.heap.size) (ok := fun k_ => True) (n := Y.length) (c := aS) ?_).2.2; exact (sY F B)); (case s6 => exact (Kd.S_reads' F.out).2.1); rintro e cn ⟨bf, rfl, P, hb⟩; refine ⟨_, rfl, ?_⟩; replace D := rX D B hb; replace E := rX E B hb; replace F := aM (Kd.S_elder' (sY F B) (Kd.R_base P) hb); have aJ := rW P (bP2 HB z Q); replace A := kX1 A G hb; replace B := kP3 B hb; replace HB := hS2 HB z Q hb; (try clear hb); (try clear P)))
   go_ret2
   exact ⟨_, eW, rO aJ.out, bS2 HB.out z.out Q.out⟩
  ·replace c5 := Bool.eq_false_iff.mpr c5; subst c5
   rw [if_neg nF] at H; simp only [Option.some.injEq, Prod.mk.injEq] at H; obtain ⟨rfl, rfl⟩ := H
   go_enter Try.func13, Try.ntmps13
   go_wp2_with (first | ((with_reducible refine gate_dst (N := 1) rfl ?_); refine be_ (cs := #[.slice Z I.length aa, .slice ab J.length ac, .slice ae L.length af, .slice ag M.length ah]) (t := 27) ?_; intro aF hg co hbox hb; have A := aM (hbox); have aG := gE hg (bP0 HB); have z := gE hg (bP0 HB); replace HB := hS0 HB hb; clear hb hbox hg; obtain ⟨bx, bz, bA, bB, bC, bD, bE, bF⟩ := bG4 A) | ((with_reducible refine gate_callee (f := 29) rfl ?_); refine gL_ (some 10) Try.func29 #[.agg #[.slice Z I.length aa, .slice ab J.length ac, .slice ae L.length af, .slice ag M.length ah]] ?_; (with_reducible refine (table_Unpack.calls k _ _ I _ _ J _ _ L _ _ M U V Y ai _ ?s1 am.out ?s3 ao.out ?s5 aq.out ?s7 au.out A2.out).mono ?_); (case s1 => exact cB al HB); (case s3 => exact cB an HB); (case s5 => exact cB ap HB); (case s7 => exact cB ar HB); rintro e cp ⟨aN, aO, aP, rfl, P, aj, ak, hb⟩; refine ⟨_, rfl, ?_⟩; have D := rW P (bP1 HB z); have E := rW aj (bP1 HB z); have F := aM (Kd.S_lower ak (below_size (bP1 HB z))); replace A := kB A hb; replace HB := hS1 HB z hb; (try clear hb); (try clear P); (try clear aj); (try clear ak)) | ((with_reducible refine gate_dst (N := 4) rfl ?_); refine be_ (cs := #[.slice none 0 0, .slice none 0 0, .slice none 0 0]) (t := 45) ?_; intro aH hg cq hbox hb; replace D := rB D hb; replace E := rB E hb; replace F := aM (Kd.S_below (by (with_reducible repeat (first | apply Kd.S_alloc | apply Kd.S_drewN | apply Kd.S_drew)); exact F.out) hb); have B := aM (hbox); have aI := gE hg (bP1 HB z); have Q := gE hg (bP1 HB z); replace HB := hS1 HB z hb; have G := nL hg A; have O := nG hg A; replace A := kB A hb; clear hb hbox hg; obtain ⟨bg, aT, bh⟩ := sL D; subst bh; have cd := O.out; have ce := G.out; obtain ⟨bG, bH, bI, bJ, bK, bL⟩ := bG3 B; obtain ⟨bi, aU, bj⟩ := sL E; subst bj; obtain ⟨bk, aV, bl⟩ := Kd.S_slice F.out; subst bl) | ((with_reducible refine gate_callee (f := 30) rfl ?_); refine gL_ (some 18) Try.func30 #[.agg #[.slice bg U.length aT, .slice bi V.length aU, .slice bk Y.length aV]] ?_; (with_reducible refine (pick_shortest.calls k _ _ U _ _ V _ _ Y av false _ ?s1 (rR D).2.1 ?s3 (rR E).2.1 ?s5 ?s6 A4.out).mono ?_); (case s1 => refine (Kd.R_reads' (e := 9) (base := w.heap.size) (ok := fun k_ => True) (n := U.length) (c := aT) ?_).2.2; exact (rY D B)); (case s3 => refine (Kd.R_reads' (e := 4) (base := w.heap.size) (ok := fun k_ => True) (n := V.length) (c := aU) ?_).2.2; exact (rY E B)); (case s5 => refine (Kd.S_reads' (e := 24) (base := w.heap.size) (ok := fun k_ => True) (n := Y.length) (c := aV) ?_).2.2; exact (sY F B)); (case s6 => exact (Kd.S_reads' F.out).2.1); rintro e cr ⟨bf, rfl, P, hb⟩; refine ⟨_, rfl, ?_⟩; replace D := rX D B hb; replace E := rX E B hb; replace F := aM (Kd.S_elder' (sY F B) (Kd.R_base P) hb); have aJ := rW P (bP2 HB z Q); replace A := kX1 A G hb; replace B := kP3 B hb; replace HB := hS2 HB z Q hb; (try clear hb); (try clear P)))
   go_ret2
   exact ⟨_, eW, by first | exact Kd.R_nil _ _ _ _ _ | exact Kd.N_nil _ _ _ _ _ | exact Kd.V_nil _ _ _ _ _ | exact Kd.Q_nil _ _ _ _ _ | exact Kd.S_nil _ _ _ _ _, bS2 HB.out z.out Q.out⟩
 ·rw [if_neg c3] at H; obtain ⟨a7, a8⟩ := bn c3; simp only [Option.some.injEq, Prod.mk.injEq] at H; obtain ⟨rfl, rfl⟩ := H
  go_enter Try.func13, Try.ntmps13
  go_wp2_with (first | ((with_reducible refine gate_dst (N := 1) rfl ?_); refine be_ (cs := #[.slice Z I.length aa, .slice ab J.length ac, .slice ae L.length af, .slice ag M.length ah]) (t := 27) ?_; intro aF hg ct hbox hb; have A := aM (hbox); have aG := gE hg (bP0 HB); have z := gE hg (bP0 HB); replace HB := hS0 HB hb; clear hb hbox hg; obtain ⟨bM, bN, bO, bP, bQ, bR, bS, bT⟩ := bG4 A) | ((with_reducible refine gate_callee (f := 29) rfl ?_); refine gL_ (some 10) Try.func29 #[.agg #[.slice Z I.length aa, .slice ab J.length ac, .slice ae L.length af, .slice ag M.length ah]] ?_; (with_reducible refine (table_Unpack.calls k _ _ I _ _ J _ _ L _ _ M U V Y ai _ ?s1 am.out ?s3 ao.out ?s5 aq.out ?s7 au.out A2.out).mono ?_); (case s1 => exact cB al HB); (case s3 => exact cB an HB); (case s5 => exact cB ap HB); (case s7 => exact cB ar HB); rintro e cu ⟨aN, aO, aP, rfl, P, aj, ak, hb⟩; refine ⟨_, rfl, ?_⟩; have D := rW P (bP1 HB z); have E := rW aj (bP1 HB z); have F := aM (Kd.S_lower ak (below_size (bP1 HB z))); replace A := kB A hb; replace HB := hS1 HB z hb; (try clear hb); (try clear P); (try clear aj); (try clear ak)) | ((with_reducible refine gate_dst (N := 4) rfl ?_); refine be_ (cs := #[.slice none 0 0, .slice none 0 0, .slice none 0 0]) (t := 45) ?_; intro aH hg cv hbox hb; replace D := rB D hb; replace E := rB E hb; replace F := aM (Kd.S_below (by (with_reducible repeat (first | apply Kd.S_alloc | apply Kd.S_drewN | apply Kd.S_drew)); exact F.out) hb); have B := aM (hbox); have aI := gE hg (bP1 HB z); have Q := gE hg (bP1 HB z); replace HB := hS1 HB z hb; have G := nL hg A; have O := nG hg A; replace A := kB A hb; clear hb hbox hg; obtain ⟨ch, ci, bm⟩ := sL D; subst bm; have cf := O.out; have cg := G.out; obtain ⟨bU, bV, bW, bX, bY, bZ⟩ := bG3 B; obtain ⟨cj, ck, bo⟩ := sL E; subst bo; obtain ⟨cl, cm, bp⟩ := Kd.S_slice F.out; subst bp))
  go_ret2
  exact ⟨_, eW, by first | exact Kd.R_nil _ _ _ _ _ | exact Kd.N_nil _ _ _ _ _ | exact Kd.V_nil _ _ _ _ _ | exact Kd.Q_nil _ _ _ _ _ | exact Kd.S_nil _ _ _ _ _, bS2 HB.out z.out Q.out⟩

/-! ### bits_Digit: function 52 -/
def bits_Digit.f (a0 : Int) (a1 : Int) : Option (Int) := if a0 < 0 then (some 0) else (if a1 < 0 then (some 0) else (if a1 > 61 then (some 0) else (if 0 ≤ a1 then (some (Go.bits .and .i64 (shr .i64 a0 a1) 1)) else (none))))
theorem bits_Digit.calls (B : Int) (A : Int) (r : Int) (w : World) (h : bits_Digit.f B A = some r) :
  Calls Try.prog 52 #[.int .i64 B, .int .i64 A] w fun e w' => e = .returned (.int .i64 r) ∧ Drawn0 w w' := by
 rw [bits_Digit.f] at h; have H := h; clear h
 by_cases D : B < 0
 ·rw [if_pos D] at H; have J := dT D; clear D; obtain rfl := Option.some.inj H
  go_enter Try.func52, Try.ntmps52
  go_wp2
  go_ret
  exact ⟨by first | rfl | (simp; done) | (simp [*]; done), by repeat (first | exact Drawn0.refl _ | apply Drawn0.step)⟩
 ·rw [if_neg D] at H; have J := decide_eq_false D; clear D
  by_cases E : A < 0
  ·rw [if_pos E] at H; have L := dT E; clear E; obtain rfl := Option.some.inj H
   go_enter Try.func52, Try.ntmps52
   go_wp2
   go_ret
   exact ⟨by first | rfl | (simp; done) | (simp [*]; done), by repeat (first | exact Drawn0.refl _ | apply Drawn0.step)⟩
  ·rw [if_neg E] at H; have L := decide_eq_false E; clear E
   by_cases F : A > 61
   ·rw [if_pos F] at H; have M := dT F; clear F; obtain rfl := Option.some.inj H
    go_enter Try.func52, Try.ntmps52
    go_wp2
    go_ret
    exact ⟨by first | rfl | (simp; done) | (simp [*]; done), by repeat (first | exact Drawn0.refl _ | apply Drawn0.step)⟩
   ·rw [if_neg F] at H; have M := decide_eq_false F; clear F
    by_cases G : 0 ≤ A
    ·rw [if_pos G] at H; have P := eq_true G; have Q := dT G; clear G; obtain ⟨I, z⟩ : ∃ j_ : Int, (shr .i64 B A) = j_ := ⟨_, rfl⟩
     first | rw [z] at H | simp only [z] at H
     have O : (B / 2 ^ min A.toNat 64) = I := z; have hji7z : A ≤ 64 → (B / 2 ^ A.toNat) = I := shr_small z; obtain rfl := Option.some.inj H
     go_enter Try.func52, Try.ntmps52
     go_wp2
     go_ret
     exact ⟨by first | rfl | (simp; done) | (simp only [← z] <;> (first | rfl | simp)) | (simp [*]; done), by repeat (first | exact Drawn0.refl _ | apply Drawn0.step)⟩
    ·exact nX G H

/-! ### slices_IndexFunc_int_int: function 87 -/
/-- The function value that word.Number hands over: is it no digit? -/
def noDigit (d : Int) : Bool := d != 0 && d != 1
theorem noDigit_calls (d : Int) (w : World) : Calls Try.prog 75 #[.int .i64 d] w fun e w' => e = .returned (.bool (noDigit d)) ∧ w = w' := by
 by_cases h0 : d = 0
 ·subst h0
  go_enter Try.func75, Try.ntmps75
  go_wp2
  go_ret
  exact ⟨rfl, rfl⟩
 ·have b0 : (d != 0) = true := by simpa using h0
  have b1 : (d == 0) = false := by simpa using h0
  have e : noDigit d = (d != 1) := by unfold noDigit; rw [b0, Bool.true_and]
  rw [e]; clear e h0
  go_enter Try.func75, Try.ntmps75
  go_wp2
  go_ret
  exact ⟨rfl, rfl⟩
def slices_IndexFunc_int_int.f (l0 : List Int) : Option Int := some (((l0.findIdx? noDigit).map fun i : Nat => (i : Int)).getD (-1))
theorem slices_IndexFunc_int_int.hit {l : List Int} {k : Nat} (hk : k < l.length) (hb : ∀ j : Nat, j < k → noDigit (rd l (j : Int)) = false) (hh : noDigit (rd l (k : Int)) = true) : slices_IndexFunc_int_int.f l = some (k : Int) := by
 simp only [rd, Int.toNat_natCast] at hb hh
 have : l.findIdx? noDigit = some k := by
  rw [List.findIdx?_eq_some_iff_getElem]; refine ⟨hk, ?_, fun j hj => ?_⟩
  ·rw [List.getD_eq_getElem?_getD, List.getElem?_eq_getElem hk] at hh; exact hh
  ·have := hb j hj; rw [List.getD_eq_getElem?_getD, List.getElem?_eq_getElem (Nat.lt_trans hj hk)] at this
   simpa using this
 unfold slices_IndexFunc_int_int.f
 rw [this]; rfl
theorem slices_IndexFunc_int_int.miss {l : List Int} (hb : ∀ j : Nat, j < l.length → noDigit (rd l (j : Int)) = false) : slices_IndexFunc_int_int.f l = some (-1) := by
 simp only [rd, Int.toNat_natCast] at hb
 have : l.findIdx? noDigit = none := by
  rw [List.findIdx?_eq_none_iff]; intro x hx; obtain ⟨j, hj, rfl⟩ := List.getElem_of_mem hx; have := hb j hj; rw [List.getD_eq_getElem?_getD, List.getElem?_eq_getElem hj] at this; exact this
 unfold slices_IndexFunc_int_int.f
 rw [this]; rfl
theorem slices_IndexFunc_int_int.calls (D : Option Addr) (E : Nat) (z : List Int) (r : Int) (w : World) (A : Kd.C (Kd.int .i64) w D z.length z) (F : z.length ≤ E) (h : slices_IndexFunc_int_int.f z = some r) :
  Calls Try.prog 87 #[.slice D z.length E, .func (.func 75) #[] #[]] w fun e w' => e = .returned (.int .i64 r) ∧ Drawn0 w w' := by
 have G := aM A; have HH := aM h; have hm : z.length ≤ 9223372036854775807 := A.2.1; clear A F h; have hrefl : ∀ W : World, Drawn0 W W := Drawn0.refl; have HRE := aM hrefl; clear hrefl
 go_enter Try.func87, Try.ntmps87
 go_wp2
 go_loop [8] (fun B => ∃ k : Nat, k ≤ z.length ∧ B = .int .i64 k ∧ Aside0 (∀ j : Nat, j < k → noDigit (rd z (j : Int)) = false)) (fun B => z.length - (intOf B).toNat)
 case atStart => exact ⟨0, Nat.zero_le _, rfl, ⟨fun j hj => absurd hj (Nat.not_lt_zero _)⟩⟩
 case round =>
  obtain ⟨k, hk, rfl, HJ⟩ := hrel
  by_cases hlt : k < z.length
  ·obtain ⟨ad, I, hx⟩ := Kd.at_int G.out (k : Int) (by omega) (by omega); cases I; rw [Int.toNat_natCast] at hx; obtain ⟨y, hy⟩ : ∃ y, y = rd z (k : Int) := ⟨_, rfl⟩; rw [← hy] at hx
   by_cases hp : noDigit y = true
   ·have hr : r = (k : Int) := by
     have := slices_IndexFunc_int_int.hit hlt HJ.out (by rw [← hy]; exact hp); rw [HH.out] at this; exact Option.some.inj this
    subst hr; clear hy
    go_wp2_with (go_at_call 75; (with_reducible refine (noDigit_calls _ _).mono ?_); rintro e w' ⟨rfl, rfl⟩)
    go_ret
    exact ⟨rfl, HRE.out _⟩
   ·have hp' : noDigit y = false := by simpa using hp
    clear hp; have HP := aM (show noDigit (rd z (k : Int)) = false by rw [← hy]; exact hp'); clear hy
    go_wp2_with (go_at_call 75; (with_reducible refine (noDigit_calls _ _).mono ?_); rintro e w' ⟨rfl, rfl⟩)
    go_round
    case rel =>
     refine ⟨k + 1, by omega, by go_num, ⟨fun j hj => ?_⟩⟩
     rcases Nat.lt_succ_iff_lt_or_eq.1 hj with h | rfl
     ·exact HJ.out j h
     ·exact HP.out
    case measure => simp [intOf]; omega
  ·have hr : r = -1 := by
    have : k = z.length := by omega
    subst this; have := slices_IndexFunc_int_int.miss HJ.out; rw [HH.out] at this; exact Option.some.inj this
   subst hr
   go_wp2
   go_ret
   exact ⟨rfl, HRE.out _⟩

/-! ### slices_ContainsFunc_int_int: function 74 -/
def slices_ContainsFunc_int_int.f (l0 : List Int) : Option Bool := some (l0.any noDigit)
theorem slices_ContainsFunc_int_int.calls (D : Option Addr) (E : Nat) (z : List Int) (r : Bool) (w : World) (A : Kd.C (Kd.int .i64) w D z.length z) (B : z.length ≤ E) (h : slices_ContainsFunc_int_int.f z = some r) :
  Calls Try.prog 74 #[.slice D z.length E, .func (.func 75) #[] #[]] w fun e w' => e = .returned (.bool r) ∧ Drawn0 w w' := by
 obtain ⟨i, hi⟩ : ∃ i, slices_IndexFunc_int_int.f z = some i := ⟨_, rfl⟩
 have hr : decide (i ≥ 0) = r := by
  have G : z.any noDigit = r := Option.some.inj h; rw [← G]
  unfold slices_IndexFunc_int_int.f at hi
  have hi := Option.some.inj hi
  by_cases ha : z.any noDigit = true
  ·rw [ha]; cases hf : z.findIdx? noDigit with
   | none =>
    rw [List.findIdx?_eq_none_iff] at hf; rw [List.any_eq_true] at ha; obtain ⟨x, hx, hp⟩ := ha; rw [hf x hx] at hp; cases hp
   | some j =>
    rw [hf] at hi
    simp at hi
    simp; omega
  ·have ha' : z.any noDigit = false := by simpa using ha
   rw [ha']
   have hf : z.findIdx? noDigit = none := by
    rw [List.findIdx?_eq_none_iff]; intro x hx; rw [List.any_eq_false] at ha'
    simpa using ha' x hx
   rw [hf] at hi
   simp at hi
   simp; omega
 subst hr; have F := aM A; have HI := aM hi; have HC := aM B; clear A hi B h
 go_enter Try.func74, Try.ntmps74
 go_wp2_with (go_at_call 87; (with_reducible refine (slices_IndexFunc_int_int.calls _ _ z i _ F.out HC.out HI.out).mono ?_); rintro e w' ⟨rfl, hd⟩; have HD := aM hd; clear hd)
 go_ret
 exact ⟨rfl, HD.out⟩

end Go.Proofs.Ytninoenmhcbonaa.X
namespace Go.Proofs.Ytninoenmhcbonaa.X
open Go.RowKit Go.Proofs.YtninoenmhcbonaaW.PrintWords Go.Proofs.YtninoenmhcbonaaW.PrintLast Go.Proofs.YtninoenmhcbonaaW.PrintMore
attribute [local go_sem] max2_int min2_int max_two min_two max_three min_three max_four min_four
set_option linter.unusedVariables false
set_option linter.unusedSimpArgs false
set_option maxHeartbeats 8000000
set_option maxRecDepth 100000

/-! ### word_Number: function 53 -/
mutual
def word_Number.j0 : Nat → List Int → Bool → Option (Int × Int)
 | 0, _, _ => none
 | k + 1, x0, x14 => if x14 = true then (some (0, 3)) else (if (x0.length : Int) > 64 then (some (0, 31)) else (word_Number.l0 k x0 0 x0 (x0.length : Int) 0))
def word_Number.l0 : Nat → List Int → Int → List Int → Int → Int → Option (Int × Int)
 | 0, _, _, _, _, _ => none
 | k + 1, x0, x4, x18, x19, x20 => if x20 < x19 then (if 0 ≤ x20 then (if x20 < (x18.length : Int) then (word_Number.l0 k x0 (Go.bits .or .i64 x4 (shl .i64 (rd x18 x20) x20)) x18 x19 (wrap64 (x20 + 1))) else (none)) else (none)) else (if 0 ≤ (wrap64 (64 - (x0.length : Int))) then (some (shr .i64 (shl .i64 x4 (wrap64 (64 - (x0.length : Int)))) (wrap64 (64 - (x0.length : Int))), 0)) else (none))
end
def word_Number.f (k : Nat) (l0 : List Int) : Option (Int × Int) := if (l0.length : Int) = 0 then (word_Number.j0 k l0 true) else ((slices_ContainsFunc_int_int.f l0).bind fun t259 => (word_Number.j0 k l0 t259))
theorem word_Number.mono_l : ∀ k, (∀ y0 y1, LeO (word_Number.j0 k y0 y1) (word_Number.j0 (k + 1) y0 y1)) ∧ (∀ y0 y1 y2 y3 y4, LeO (word_Number.l0 k y0 y1 y2 y3 y4) (word_Number.l0 (k + 1) y0 y1 y2 y3 y4))
 | 0 => ⟨fun _ _ r h => by simp [word_Number.j0] at h, fun _ _ _ _ _ r h => by simp [word_Number.l0] at h⟩
 | k + 1 => by
  obtain ⟨ih0, ih1⟩ := word_Number.mono_l k; refine ⟨?_, ?_⟩
  ·intro y0 y1
   unfold word_Number.j0
   repeat' first | (with_reducible first | exact ih0 _ _ | exact ih1 _ _ _ _ _ | exact lA | apply lI | refine lB ?_ fun _ => ?_) | exact lN _ | apply lI | refine lB ?_ fun _ => ?_
  ·intro y0 y1 y2 y3 y4
   unfold word_Number.l0
   repeat' first | (with_reducible first | exact ih0 _ _ | exact ih1 _ _ _ _ _ | exact lA | apply lI | refine lB ?_ fun _ => ?_) | exact lN _ | apply lI | refine lB ?_ fun _ => ?_
theorem word_Number.mono : ∀ a0 k, LeO (word_Number.f k a0) (word_Number.f (k + 1) a0) := by
 intro a0 k; obtain ⟨ih0, ih1⟩ := word_Number.mono_l k
 unfold word_Number.f
 repeat' first | (with_reducible first | exact ih0 _ _ | exact ih1 _ _ _ _ _ | exact lA | apply lI | refine lB ?_ fun _ => ?_) | exact lN _ | apply lI | refine lB ?_ fun _ => ?_
theorem word_Number.calls (k : Nat) (A0 : Option Addr) (c0 : Nat) (B : List Int) (r1 : Int) (r2 : Int) (w : World) (ah : Kd.C (Kd.int .i64) w A0 B.length B) (ai : B.length ≤ c0) (h : word_Number.f k B = some (r1, r2)) :
  Calls Try.prog 53 #[.slice A0 B.length c0] w fun e w' => e = .returned (.tuple #[.int .i64 r1, .int .i64 r2]) ∧ Drawn0 w w' := by
 have aj := aM ah; have aw := aM ai; clear ah ai; rw [word_Number.f] at h; have H := h; clear h; have W := aM H; clear H
 go_enter Try.func53, Try.ntmps53
 go_upto_region 1 with (fail)
 go_cut [14] (fun ax wc => ∃ (kq : Nat) (J : Bool), ax = .bool J ∧ Aside0 (word_Number.j0 kq B J = some (r1, r2)) ∧ Aside0 (kq ≤ k) ∧ Drawn0 w wc)
 case first =>
  have H := W.out; clear W
  by_cases R : (B.length : Int) = 0
  ·rw [if_pos R] at H; obtain ⟨M, am⟩ := bq R; clear R
   (first | rw [M] | (simp only [i64_w, i32_w]; rw [M]) | skip)
   have H' := aM H; clear H
   go_wp2
   go_meet
   case rel => exact ⟨_, (true), sI, H', ⟨by first | omega | exact Nat.le_refl _⟩, by repeat (first | exact Drawn0.refl _ | apply Drawn0.step)⟩
  ·rw [if_neg R] at H; obtain ⟨M, am⟩ := bn R
   have aF : ¬ (B = []) := fun h_ => R (by rw [h_]; rfl)
   (first | rw [M] | (simp only [i64_w, i32_w]; rw [M]) | skip)
   replace H := Option.bind_eq_some_iff.mp H; obtain ⟨Y, ak, H⟩ := H; have A4 := aM ak; clear ak; have H' := aM H; clear H
   go_wp2_with (first | (go_at_call 74; (with_reducible refine (slices_ContainsFunc_int_int.calls _ _ B  Y _ ?s1 aw.out A4.out).mono ?_); (case s1 => exact cO aj.out); rintro e w' ⟨rfl, ⟨nd, rfl⟩⟩))
   go_meet
   case rel => exact ⟨_, (Y), sI, H', ⟨by first | omega | exact Nat.le_refl _⟩, by repeat (first | exact Drawn0.refl _ | apply Drawn0.step)⟩
 case rest =>
  clear W
  obtain ⟨kq, J, rfl, HA, HJ1, ⟨mc1, rfl⟩⟩ := hcut; cases kq with
  | zero => exact absurd HA.out (by simp [word_Number.j0])
  | succ al =>
   have H := HA.out; clear HA; simp only [word_Number.j0] at H
   by_cases c5 : J = true
   ·subst c5
    rw [if_pos rfl] at H; simp only [Option.some.injEq, Prod.mk.injEq] at H; obtain ⟨rfl, rfl⟩ := H
    go_wp2
    go_ret2
    exact ⟨by first | rfl | (simp; done) | (simp [*]; done), by repeat (first | exact Drawn0.refl _ | apply Drawn0.step)⟩
   ·replace c5 := Bool.eq_false_iff.mpr c5; subst c5
    rw [if_neg nF] at H
    by_cases U : (B.length : Int) > 64
    ·rw [if_pos U] at H; have an := dT U; have ao : decide (64 < B.length) = true := dT (by omega); clear U; simp only [Option.some.injEq, Prod.mk.injEq] at H; obtain ⟨rfl, rfl⟩ := H
     go_wp2
     go_ret2
     exact ⟨by first | rfl | (simp; done) | (simp [*]; done), by repeat (first | exact Drawn0.refl _ | apply Drawn0.step)⟩
    ·rw [if_neg U] at H; have an := decide_eq_false U; have ao : decide (64 < B.length) = false := decide_eq_false (by omega); clear U; have H' := aM H; clear H
     go_wp2
     go_loopg [4, 20] al (fun kq v4 ay w' => ∃ (D : Int) (z : Int), v4 = .int .i64 D ∧ ay = .int .i64 z ∧ Aside0 (word_Number.l0 kq B D B (B.length : Int) z = some (r1, r2)) ∧ Aside0 (kq ≤ al) ∧ Drawn0 w w')
     case atStart => exact ⟨(0), (0), sI, sI, H', ⟨Nat.le_refl _⟩, by repeat (first | exact Drawn0.refl _ | apply Drawn0.step)⟩
     case round =>
      clear H'
      obtain ⟨D, z, rfl, rfl, HA, HK2, ⟨m2, rfl⟩⟩ := hrel; cases gk with
      | zero => exact absurd HA.out (by simp [word_Number.l0])
      | succ k2 =>
       have H := HA.out; clear HA; simp only [word_Number.l0] at H
       by_cases V : z < (B.length : Int)
       ·rw [if_pos V] at H; have ap := dT V; clear V
        by_cases c8 : 0 ≤ z
        ·rw [if_pos c8] at H; have aI := dT c8; clear c8
         by_cases c9 : z < (B.length : Int)
         ·rw [if_pos c9] at H; have aJ := dT c9; clear c9; have aA := eq_true (oT aO : 0 ≤ z); obtain ⟨N, F⟩ : ∃ j_ : Int, (shl .i64 (rd B z) z) = j_ := ⟨_, rfl⟩
          first | rw [F] at H | simp only [F] at H
          have Z : (IntKind.i64.wrap ((rd B z) * 2 ^ min z.toNat 64)) = N := F; have hji11z : z ≤ 64 → (IntKind.i64.wrap ((rd B z) * 2 ^ z.toNat)) = N := shl_small F; have hji11y : (wrap64 ((rd B z) * 2 ^ min z.toNat 64)) = N := (i64_w _).symm.trans Z
          have hji11x : z ≤ 64 → (wrap64 ((rd B z) * 2 ^ z.toNat)) = N := fun h_ => (i64_w _).symm.trans (hji11z h_)
          have H' := aM H; clear H; have P : 0 ≤ (z : Int) := oT aO; have Q : z < (B.length : Int) := oT aO; obtain ⟨aB, aq, ar⟩ := Kd.at_int aj.out z P Q; cases aq; replace P := eq_true P; replace Q := eq_true Q
          go_wp2
          go_roundg k2
          case measure => have := HJ1.out; have := HK2.out; omega
          case rel => exact ⟨(Go.bits .or .i64 D (N)), (wrap64 (z + 1)), (by first | rfl | (simp; done) | (simp only [← F] <;> (first | rfl | simp)) | (simp [*]; done)), sI, H', ⟨by have := HJ1.out; have := HK2.out; omega⟩, by repeat (first | exact Drawn0.refl _ | apply Drawn0.step)⟩
         ·exact nX c9 H
        ·exact nX c8 H
       ·rw [if_neg V] at H; have ap := decide_eq_false V; clear V; obtain ⟨A, L⟩ : ∃ j_ : Int, (wrap64 (64 - (B.length : Int))) = j_ := ⟨_, rfl⟩
        first | rw [L] at H | simp only [L] at H
        have hji12w : (IntKind.i64.wrap (64 - (B.length : Int))) = A := (i64_w _).trans L
        by_cases O : 0 ≤ (A)
        ·rw [if_pos O] at H; have aC := eq_true O; have aD := dT O; clear O; obtain ⟨E, G⟩ : ∃ j_ : Int, (shl .i64 D (A)) = j_ := ⟨_, rfl⟩
         first | rw [G] at H | simp only [G] at H
         have aa : (IntKind.i64.wrap (D * 2 ^ min (A).toNat 64)) = E := G; have hji14z : (A) ≤ 64 → (IntKind.i64.wrap (D * 2 ^ (A).toNat)) = E := shl_small G; have hji14y : (wrap64 (D * 2 ^ min (A).toNat 64)) = E := (i64_w _).symm.trans aa
         have hji14x : (A) ≤ 64 → (wrap64 (D * 2 ^ (A).toNat)) = E := fun h_ => (i64_w _).symm.trans (hji14z h_)
         have aE := eq_true (oT aO : 0 ≤ (A)); obtain ⟨ab, I⟩ : ∃ j_ : Int, (shr .i64 (E) (A)) = j_ := ⟨_, rfl⟩
         first | rw [I] at H | simp only [I] at H
         have az : ((E) / 2 ^ min (A).toNat 64) = ab := I; have hji16z : (A) ≤ 64 → ((E) / 2 ^ (A).toNat) = ab := shr_small I; simp only [Option.some.injEq, Prod.mk.injEq] at H; obtain ⟨rfl, rfl⟩ := H
         go_wp2
         go_ret2
         exact ⟨by first | rfl | (simp; done) | (simp only [← L, ← G, ← I] <;> (first | rfl | simp)) | (simp [*]; done), by repeat (first | exact Drawn0.refl _ | apply Drawn0.step)⟩
        ·exact nX O H

end Go.Proofs.Ytninoenmhcbonaa.X
namespace Go.Proofs.Ytninoenmhcbonaa.X
open Go.RowKit Go.Proofs.YtninoenmhcbonaaW.PrintWords Go.Proofs.YtninoenmhcbonaaW.PrintLast Go.Proofs.YtninoenmhcbonaaW.PrintMore
attribute [local go_sem] max2_int min2_int max_two min_two max_three min_three max_four min_four
set_option linter.unusedVariables false
set_option linter.unusedSimpArgs false
set_option maxHeartbeats 8000000
set_option maxRecDepth 100000

/-! ### word_Decode: function 26 -/
mutual
def word_Decode.j0 : Nat → List Int → Int → Bool → Option (List Int × Int)
 | 0, _, _, _ => none
 | k + 1, x0, x1, x13 => if x13 = true then (some (([] : List Int), 150)) else (if (x0.length : Int) = 0 then (some (([] : List Int), 3)) else (if (x0.length : Int) > 64 then (some (([] : List Int), 31)) else (word_Decode.l0 k x0 x1 x0 (x0.length : Int) 0)))
def word_Decode.l0 : Nat → List Int → Int → List Int → Int → Int → Option (List Int × Int)
 | 0, _, _, _, _, _ => none
 | k + 1, x0, x1, x28, x29, x30 => if x30 < x29 then (if 0 ≤ x30 then (if x30 < (x28.length : Int) then (if (rd x28 x30) < 0 then (some (([] : List Int), 30)) else (if 0 ≤ x1 then (if (rd x28 x30) ≥ (shl .i64 1 x1) then (some (([] : List Int), 30)) else (word_Decode.l0 k x0 x1 x28 x29 (wrap64 (x30 + 1)))) else (none))) else (none)) else (none)) else (if 0 ≤ x1 then (if (x1 : Int).toNat ≤ 35184372088832 then ((some (List.replicate (x1 : Int).toNat 0 : List Int)).bind fun y262 => (if 0 ≤ (x0.length : Int) then (if ((x0.length : Int) : Int).toNat ≤ 35184372088832 then (word_Decode.l1 k x0 y262 (List.replicate ((x0.length : Int) : Int).toNat 0) (y262.length : Int) 0) else (none)) else (none))) else (none)) else (none))
def word_Decode.l1 : Nat → List Int → List Int → List Int → Int → Int → Option (List Int × Int)
 | 0, _, _, _, _, _ => none
 | k + 1, x0, x8, x9, x49, x50 => if x50 < x49 then (word_Decode.l2 k x0 x8 x9 x50 x49 x50 x0 (x0.length : Int) 0) else (some (x8, 0))
def word_Decode.l2 : Nat → List Int → List Int → List Int → Int → Int → Int → List Int → Int → Int → Option (List Int × Int)
 | 0, _, _, _, _, _, _, _, _, _ => none
 | k + 1, x0, x8, x9, x10, x49, x50, x53, x54, x55 => if x55 < x54 then (if 0 ≤ x55 then (if x55 < (x53.length : Int) then ((bits_Digit.f (rd x53 x55) x10).bind fun t269 => (if x55 < (x9.length : Int) then (word_Decode.l2 k x0 x8 (x9.set (x55 : Int).toNat t269) x10 x49 x50 x53 x54 (wrap64 (x55 + 1))) else (none))) else (none)) else (none)) else ((word_Number.f k x9).bind fun bt271 => (if 0 ≤ x10 then (if x10 < (x8.length : Int) then (word_Decode.l1 k x0 (x8.set (x10 : Int).toNat bt271.1) x9 x49 (wrap64 (x50 + 1))) else (none)) else (none)))
end
def word_Decode.f (k : Nat) (l0 : List Int) (a1 : Int) : Option (List Int × Int) := if a1 < 0 then (word_Decode.j0 k l0 a1 true) else (word_Decode.j0 k l0 a1 (decide (a1 > 6)))
theorem word_Decode.mono_l : ∀ k, (∀ y0 y1 y2, LeO (word_Decode.j0 k y0 y1 y2) (word_Decode.j0 (k + 1) y0 y1 y2)) ∧ (∀ y0 y1 y2 y3 y4, LeO (word_Decode.l0 k y0 y1 y2 y3 y4) (word_Decode.l0 (k + 1) y0 y1 y2 y3 y4)) ∧ (∀ y0 y1 y2 y3 y4, LeO (word_Decode.l1 k y0 y1 y2 y3 y4) (word_Decode.l1 (k + 1) y0 y1 y2 y3 y4)) ∧ (∀ y0 y1 y2 y3 y4 y5 y6 y7 y8, LeO (word_Decode.l2 k y0 y1 y2 y3 y4 y5 y6 y7 y8) (word_Decode.l2 (k + 1) y0 y1 y2 y3 y4 y5 y6 y7 y8))
 | 0 => ⟨fun _ _ _ r h => by simp [word_Decode.j0] at h, fun _ _ _ _ _ r h => by simp [word_Decode.l0] at h, fun _ _ _ _ _ r h => by simp [word_Decode.l1] at h, fun _ _ _ _ _ _ _ _ _ r h => by simp [word_Decode.l2] at h⟩
 | k + 1 => by
  obtain ⟨ih0, ih1, ih2, ih3⟩ := word_Decode.mono_l k; refine ⟨?_, ?_, ?_, ?_⟩
  ·intro y0 y1 y2
   unfold word_Decode.j0
   repeat' first | (with_reducible first | exact ih0 _ _ _ | exact ih1 _ _ _ _ _ | exact ih2 _ _ _ _ _ | exact ih3 _ _ _ _ _ _ _ _ _ | exact word_Number.mono _ _ | exact lA | apply lI | refine lB ?_ fun _ => ?_) | exact lN _ | apply lI | refine lB ?_ fun _ => ?_
  ·intro y0 y1 y2 y3 y4
   unfold word_Decode.l0
   repeat' first | (with_reducible first | exact ih0 _ _ _ | exact ih1 _ _ _ _ _ | exact ih2 _ _ _ _ _ | exact ih3 _ _ _ _ _ _ _ _ _ | exact word_Number.mono _ _ | exact lA | apply lI | refine lB ?_ fun _ => ?_) | exact lN _ | apply lI | refine lB ?_ fun _ => ?_
  ·intro y0 y1 y2 y3 y4
   unfold word_Decode.l1
   repeat' first | (with_reducible first | exact ih0 _ _ _ | exact ih1 _ _ _ _ _ | exact ih2 _ _ _ _ _ | exact ih3 _ _ _ _ _ _ _ _ _ | exact word_Number.mono _ _ | exact lA | apply lI | refine lB ?_ fun _ => ?_) | exact lN _ | apply lI | refine lB ?_ fun _ => ?_
  ·intro y0 y1 y2 y3 y4 y5 y6 y7 y8
   unfold word_Decode.l2
   repeat' first | (with_reducible first | exact ih0 _ _ _ | exact ih1 _ _ _ _ _ | exact ih2 _ _ _ _ _ | exact ih3 _ _ _ _ _ _ _ _ _ | exact word_Number.mono _ _ | exact lA | apply lI | refine lB ?_ fun _ => ?_) | exact lN _ | apply lI | refine lB ?_ fun _ => ?_
theorem word_Decode.mono : ∀ a0 a1 k, LeO (word_Decode.f k a0 a1) (word_Decode.f (k + 1) a0 a1) := by
 intro a0 a1 k; obtain ⟨ih0, ih1, ih2, ih3⟩ := word_Decode.mono_l k
 unfold word_Decode.f
 repeat' first | (with_reducible first | exact ih0 _ _ _ | exact ih1 _ _ _ _ _ | exact ih2 _ _ _ _ _ | exact ih3 _ _ _ _ _ _ _ _ _ | exact word_Number.mono _ _ | exact lA | apply lI | refine lB ?_ fun _ => ?_) | exact lN _ | apply lI | refine lB ?_ fun _ => ?_
theorem word_Decode.calls (k : Nat) (A0 : Option Addr) (c0 : Nat) (G : List Int) (P : Int) (r1 : List Int) (r2 : Int) (w : World) (bv : Kd.C (Kd.int .i64) w A0 G.length G) (bw : G.length ≤ c0) (h : word_Decode.f k G P = some (r1, r2)) :
  Calls Try.prog 26 #[.slice A0 G.length c0, .int .i64 P] w fun e w' => ∃ bx : Value, e = .returned (.tuple #[bx, .int .i64 r2]) ∧ Kd.R (Kd.int .i64) 2 w' w.heap.size (fun _ => True) bx r1 ∧ Below w.heap.size w w' := by
 have aJ := aM bv; have ch := aM bw; clear bv bw; have HB := aM (Below.refl w.heap.size w); rw [word_Decode.f] at h; have H := h; clear h; have aX := aM H; clear H
 go_enter Try.func26, Try.ntmps26
 go_upto_region 1 with (fail)
 go_cut [13] (fun bM wc => ∃ (kq : Nat) (Y : Bool), bM = .bool Y ∧ Aside0 (word_Decode.j0 kq G P Y = some (r1, r2)) ∧ Aside0 (kq ≤ k) ∧ BA w wc)
 case first =>
  have H := aX.out; clear aX
  by_cases c4 : P < 0
  ·rw [if_pos c4] at H; have ae := dT c4; clear c4
   (first | rw [ae] | (simp only [i64_w, i32_w]; rw [ae]) | skip)
   have H' := aM H; clear H
   go_wp2
   go_meet
   case rel => exact ⟨_, (true), sI, H', ⟨by first | omega | exact Nat.le_refl _⟩, bT0 HB⟩
  ·rw [if_neg c4] at H; have ae := decide_eq_false c4; clear c4
   (first | rw [ae] | (simp only [i64_w, i32_w]; rw [ae]) | skip)
   have H' := aM H; clear H
   go_wp2
   go_meet
   case rel => exact ⟨_, (decide (P > 6)), sI, H', ⟨by first | omega | exact Nat.le_refl _⟩, bT0 HB⟩
 case rest =>
  clear aX
  obtain ⟨kq, Y, rfl, HA, HJ2, HB⟩ := hcut; cases kq with
  | zero => exact absurd HA.out (by simp [word_Decode.j0])
  | succ bz =>
   have H := HA.out; clear HA; simp only [word_Decode.j0] at H
   by_cases c5 : Y = true
   ·subst c5
    rw [if_pos rfl] at H; simp only [Option.some.injEq, Prod.mk.injEq] at H; obtain ⟨rfl, rfl⟩ := H
    go_wp2
    go_ret2
    exact ⟨_, eW, by first | exact Kd.R_nil _ _ _ _ _ | exact Kd.N_nil _ _ _ _ _ | exact Kd.V_nil _ _ _ _ _ | exact Kd.Q_nil _ _ _ _ _ | exact Kd.S_nil _ _ _ _ _, bO HB.out⟩
   ·replace c5 := Bool.eq_false_iff.mpr c5; subst c5
    rw [if_neg nF] at H
    by_cases c6 : (G.length : Int) = 0
    ·rw [if_pos c6] at H; obtain ⟨bA, bB⟩ := bq c6; clear c6; simp only [Option.some.injEq, Prod.mk.injEq] at H; obtain ⟨rfl, rfl⟩ := H
     go_wp2
     go_ret2
     exact ⟨_, eW, by first | exact Kd.R_nil _ _ _ _ _ | exact Kd.N_nil _ _ _ _ _ | exact Kd.V_nil _ _ _ _ _ | exact Kd.Q_nil _ _ _ _ _ | exact Kd.S_nil _ _ _ _ _, bO HB.out⟩
    ·rw [if_neg c6] at H; obtain ⟨bA, bB⟩ := bn c6
     have cd : ¬ (G = []) := fun h_ => c6 (by rw [h_]; rfl)
     by_cases c7 : (G.length : Int) > 64
     ·rw [if_pos c7] at H; have bC := dT c7; have bD : decide (64 < G.length) = true := dT (by omega); clear c7; simp only [Option.some.injEq, Prod.mk.injEq] at H; obtain ⟨rfl, rfl⟩ := H
      go_wp2
      go_ret2
      exact ⟨_, eW, by first | exact Kd.R_nil _ _ _ _ _ | exact Kd.N_nil _ _ _ _ _ | exact Kd.V_nil _ _ _ _ _ | exact Kd.Q_nil _ _ _ _ _ | exact Kd.S_nil _ _ _ _ _, bO HB.out⟩
     ·rw [if_neg c7] at H; have bC := decide_eq_false c7; have bD : decide (64 < G.length) = false := decide_eq_false (by omega); clear c7; have H' := aM H; clear H
      go_wp2
      go_loopg [30] bz (fun kq bN w' => ∃ (B : Int), bN = .int .i64 B ∧ Aside0 (word_Decode.l0 kq G P G (G.length : Int) B = some (r1, r2)) ∧ Aside0 (kq ≤ bz) ∧ BA w w')
      case atStart => exact ⟨(0), sI, H', ⟨Nat.le_refl _⟩, bT0 HB⟩
      case round =>
       clear H'
       obtain ⟨B, rfl, HA, HK2, HB⟩ := hrel; cases gk with
       | zero => exact absurd HA.out (by simp [word_Decode.l0])
       | succ k2 =>
        have H := HA.out; clear HA; simp only [word_Decode.l0] at H
        by_cases c8 : B < (G.length : Int)
        ·rw [if_pos c8] at H; have bE := dT c8; clear c8
         by_cases c9 : 0 ≤ B
         ·rw [if_pos c9] at H; have ce := dT c9; clear c9
          by_cases aK : B < (G.length : Int)
          ·rw [if_pos aK] at H; have bV := dT aK; clear aK
           by_cases ah : (rd G B) < 0
           ·rw [if_pos ah] at H; have bj := dT ah; clear ah; simp only [Option.some.injEq, Prod.mk.injEq] at H; obtain ⟨rfl, rfl⟩ := H; have M : 0 ≤ (B : Int) := oT aO; have O : B < (G.length : Int) := oT aO; obtain ⟨aL, af, L⟩ := Kd.at_int aJ.out B M O; cases af; replace L := cX HB L; replace M := eq_true M; replace O := eq_true O
            go_wp2
            go_ret2
            exact ⟨_, eW, by first | exact Kd.R_nil _ _ _ _ _ | exact Kd.N_nil _ _ _ _ _ | exact Kd.V_nil _ _ _ _ _ | exact Kd.Q_nil _ _ _ _ _ | exact Kd.S_nil _ _ _ _ _, bO HB.out⟩
           ·rw [if_neg ah] at H; have bj := decide_eq_false ah; clear ah
            by_cases av : 0 ≤ P
            ·rw [if_pos av] at H; have bW := eq_true av; have bX := dT av; clear av; obtain ⟨Q, U⟩ : ∃ j_ : Int, (shl .i64 1 P) = j_ := ⟨_, rfl⟩
             first | rw [U] at H | simp only [U] at H
             have aw : (IntKind.i64.wrap (1 * 2 ^ min P.toNat 64)) = Q := U; have hji13z : P ≤ 64 → (IntKind.i64.wrap (1 * 2 ^ P.toNat)) = Q := shl_small U
             have hji13u : (IntKind.i64.wrap (2 ^ min P.toNat 64)) = Q := by have h_ := aw; rw [Int.one_mul] at h_; exact h_
             have hji13v : P ≤ 64 → (IntKind.i64.wrap (2 ^ P.toNat)) = Q := fun hle_ => by have h_ := hji13z hle_; rw [Int.one_mul] at h_; exact h_
             have hji13y : (wrap64 (1 * 2 ^ min P.toNat 64)) = Q := (i64_w _).symm.trans aw
             have hji13x : P ≤ 64 → (wrap64 (1 * 2 ^ P.toNat)) = Q := fun h_ => (i64_w _).symm.trans (hji13z h_)
             by_cases ai : (rd G B) ≥ (Q)
             ·rw [if_pos ai] at H; have bk := dT ai; clear ai; simp only [Option.some.injEq, Prod.mk.injEq] at H; obtain ⟨rfl, rfl⟩ := H; have M : 0 ≤ (B : Int) := oT aO; have O : B < (G.length : Int) := oT aO; obtain ⟨aL, af, L⟩ := Kd.at_int aJ.out B M O; cases af; replace L := cX HB L; replace M := eq_true M; replace O := eq_true O
              go_wp2
              go_ret2
              exact ⟨_, by first | rfl | (simp [errW_none, errW_some] <;> rfl) | (simp only [← U]; first | rfl | (simp [errW_none, errW_some] <;> rfl)) | (simp [*, errW_none, errW_some] <;> rfl), by first | exact Kd.R_nil _ _ _ _ _ | exact Kd.N_nil _ _ _ _ _ | exact Kd.V_nil _ _ _ _ _ | exact Kd.Q_nil _ _ _ _ _ | exact Kd.S_nil _ _ _ _ _, bO HB.out⟩
             ·rw [if_neg ai] at H; have bk := decide_eq_false ai; clear ai; have H' := aM H; clear H; have M : 0 ≤ (B : Int) := oT aO; have O : B < (G.length : Int) := oT aO; obtain ⟨aL, af, L⟩ := Kd.at_int aJ.out B M O; cases af; replace L := cX HB L; replace M := eq_true M; replace O := eq_true O
              go_wp2
              go_roundg k2
              case measure => have := HJ2.out; have := HK2.out; omega
              case rel => exact ⟨(wrap64 (B + 1)), sI, H', ⟨by have := HJ2.out; have := HK2.out; omega⟩, bT0 HB⟩
            ·exact nX av H
          ·exact nX aK H
         ·exact nX c9 H
        ·rw [if_neg c8] at H; have bE := decide_eq_false c8; clear c8
         by_cases ax : 0 ≤ P
         ·rw [if_pos ax] at H; have bY := eq_true ax; have bZ := dT ax; clear ax
          by_cases ay : (P : Int).toNat ≤ 35184372088832
          ·rw [if_pos ay] at H; have b0 := eq_true ay; have b1 := dT ay; clear ay; obtain ⟨V, Z⟩ : ∃ y_ : List Int, y_ = (List.replicate (P : Int).toNat 0) := ⟨_, rfl⟩
           first | replace H := rI Z H | rw [← Z] at H
           have bl := aM Z; clear Z
           by_cases az : 0 ≤ (G.length : Int)
           ·rw [if_pos az] at H; have b2 := eq_true az; have b3 := dT az; clear az
            by_cases aA : ((G.length : Int) : Int).toNat ≤ 35184372088832
            ·rw [if_pos aA] at H; have b4 := eq_true aA; have b5 := dT aA; clear aA; obtain ⟨bF, aa⟩ : ∃ y_ : List Int, y_ = (List.replicate ((G.length : Int) : Int).toNat 0) := ⟨_, rfl⟩
             first | replace H := rI aa H | rw [← aa] at H
             have bm := aM aa; clear aa; have H' := aM H; clear H
             go_wp2_with (first | ((with_reducible refine gate_dst (N := 44) rfl ?_); refine Kd.R_make (Kd.int .i64) _ 2 rfl (N := 44) rfl 28 _ _ rfl P rfl rfl Try.underlying28 (.int .i64 0) 8 info2 rfl (by decide) (by omega) 0 (ok := fun _ => True) (okp := fun _ => True) rfl (fun _ hk => hk) trivial (oT aO) (Nat.le_trans (Nat.mul_le_mul_right _ (oT aO : P.toNat ≤ 35184372088832)) (by omega)) (Below.refl _ _) (Nat.le_refl _) ?_; intro cf ci am hb hg_ hnew_; clear hg_ hnew_; replace am := nW bl am; have ab := rW am (bP0 HB); replace HB := hS0 HB hb; clear hb am) | ((with_reducible refine gate_dst (N := 47) rfl ?_); refine Kd.R_make (Kd.int .i64) _ 3 rfl (N := 47) rfl 24 _ _ rfl (G.length : Int) rfl rfl Try.underlying24 (.int .i64 0) 8 info3 rfl (by decide) (by omega) 0 (ok := fun _ => True) (okp := fun _ => True) rfl (fun _ hk => hk) trivial (oT aO) (Nat.le_trans (Nat.mul_le_mul_right _ (oT aO : (G.length : Int).toNat ≤ 35184372088832)) (by omega)) (Below.refl _ _) (Nat.le_refl _) ?_; intro aG cj an hb hg_ hnew_; clear hg_ hnew_; replace an := nW bm an; replace ab := rB ab hb; have bo := rW an (bP0 HB); replace HB := hS0 HB hb; clear hb an; obtain ⟨ao, W, bG⟩ := sL ab; subst bG))
             go_loopg [50] k2 (fun kq bP w' => ∃ (I : List Int) (ap : List Int) (z : Int), bP = .int .i64 z ∧ Aside0 (word_Decode.l1 kq G I ap (V.length : Int) z = some (r1, r2)) ∧ Aside0 (kq ≤ k2) ∧ RA (Kd.int .i64) 2 w' w (.slice ao V.length W) I ∧ RA (Kd.int .i64) 3 w' w aG ap ∧ BA w w')
             case atStart => exact ⟨(V), (bF), (0), sI, H', ⟨Nat.le_refl _⟩, rQ ab, rQ bo, bT0 HB⟩
             case round =>
              clear H'
              obtain ⟨I, ap, z, rfl, HA, HK3, F, D, HB⟩ := hrel; have E := (rR F).1; rw [E] at F
              (try simp only [E])
              (try simp only [E] at D)
              cases gk with
              | zero => exact absurd HA.out (by simp [word_Decode.l1])
              | succ k3 =>
               have H := HA.out; clear HA; simp only [word_Decode.l1] at H
               by_cases aj : z < (V.length : Int)
               ·rw [if_pos aj] at H; have aq := dT aj
                (try (have c24b0hl8_3 := aq; rw [E] at c24b0hl8_3))
                clear aj; have H' := aM H; clear H
                go_wp2
                go_loopg [55] k3 (fun kq bQ w' => ∃ (J : List Int) (A : Int), bQ = .int .i64 A ∧ Aside0 (word_Decode.l2 kq G I J z (V.length : Int) z G (G.length : Int) A = some (r1, r2)) ∧ Aside0 (kq ≤ k3) ∧ RA (Kd.int .i64) 2 w' w (.slice ao I.length W) I ∧ RA (Kd.int .i64) 3 w' w aG J ∧ BA w w')
                case atStart => exact ⟨(ap), (0), sI, H', ⟨Nat.le_refl _⟩, ⟨by (try simp only [E]); (with_reducible repeat (first | apply Kd.R_alloc | apply Kd.R_drewN | apply Kd.R_drew)); exact F.out⟩, ⟨by (try simp only [E]); (with_reducible repeat (first | apply Kd.R_alloc | apply Kd.R_drewN | apply Kd.R_drew)); exact D.out⟩, bT0 HB⟩
                case round =>
                 clear H'
                 obtain ⟨J, A, rfl, HA, HK4, F, D, HB⟩ := hrel; cases gk with
                 | zero => exact absurd HA.out (by simp [word_Decode.l2])
                 | succ k4 =>
                  have H := HA.out; clear HA; simp only [word_Decode.l2] at H
                  by_cases ak : A < (G.length : Int)
                  ·rw [if_pos ak] at H; have ar := dT ak
                   (try (have c25b0hl8_3 := ar; rw [E] at c25b0hl8_3))
                   clear ak
                   by_cases aN : 0 ≤ A
                   ·rw [if_pos aN] at H; have b6 := dT aN; clear aN
                    by_cases aP : A < (G.length : Int)
                    ·rw [if_pos aP] at H; have bp := dT aP
                     (try (have c27b0hl8_3 := bp; rw [E] at c27b0hl8_3))
                     clear aP; replace H := Option.bind_eq_some_iff.mp H; obtain ⟨au, aY, H⟩ := H; have bR := aM aY; clear aY
                     by_cases aQ : A < (J.length : Int)
                     ·rw [if_pos aQ] at H; have br := dT aQ
                      (try (have c29b0hl8_3 := br; rw [E] at c29b0hl8_3))
                      clear aQ; obtain ⟨aZ, ac⟩ : ∃ y_ : List Int, y_ = (J.set (A : Int).toNat au) := ⟨_, rfl⟩
                      first | replace H := rI ac H | rw [← ac] at H
                      have bs := aM ac; clear ac; have H' := aM H; clear H; have aH : 0 ≤ (A : Int) := oT aO; have aI : A < (G.length : Int) := oT aO; obtain ⟨b7, bH, al⟩ := Kd.at_int aJ.out A aH aI; cases bH; replace al := cX HB al; replace aH := eq_true aH; replace aI := eq_true aI
                      go_wp2_with (first | ((with_reducible refine gate_callee (f := 52) rfl ?_); refine gL_ (some 64) Try.func52 #[.int .i64 (rd G A), .int .i64 z] ?_; (with_reducible refine (bits_Digit.calls (rd G A) z au _ bR.out).mono ?_); rintro e w' ⟨rfl, ⟨nd, rfl⟩⟩; refine ⟨_, rfl, ?_⟩; (try (rw [drewN_self wr]; generalize hq_ : World.drewN wr _ = wr; have aB : RA (Kd.int .i64) 2 wr w (.slice ao I.length W) I := ⟨by rw [← hq_]; exact (rP F)⟩; have aC : RA (Kd.int .i64) 3 wr w aG J := ⟨by rw [← hq_]; exact (rP D)⟩; have aD : BA w wr := ⟨by rw [← hq_]; exact (bP0 HB)⟩; clear F D HB hq_; have F := aB; have D := aC; have HB := aD; clear aB aC aD)); have a2 : 0 ≤ (A : Int) := oT aO; have a3 : (A : Int) < ((J.length : Int) : Int) := oT aO; obtain ⟨go30, a4, a5, a6, gl30, cl30, HG30⟩ := Kd.R_form D.out (by omega); (first | cases a5 | (injection a5 with ea_ en_ ec_; (first | subst ea_ | (injection ea_ with ea_; subst ea_)); subst ec_; clear en_)); have GB30 := aM a6; have GG30 := aM HG30; clear a6 gl30 HG30; obtain ⟨bS, hf30_0⟩ := Kd.R_celln 0 D.out (A : Int) a2 a3; replace a2 := eq_true a2; replace a3 := eq_true a3; obtain ⟨b8, b9⟩ := Kd.R_celln 0 D.out (A : Int) (oT aO) (oT aO); have HP31 := Kd.R_putg D.out (A : Int) au) | ((with_reducible refine gate_store (t := 3) (p := 65) rfl ?_); refine store_event (t := 3) (p := 65) (v := ?vo_w32) (w1 := (wr.setCell ⟨go30, (A : Int).toNat, none⟩ (.int .i64 au))) ?hg ?ho ?hn ?hr ?_; (case ho => rfl); (case hg => rfl); (case hn => rfl); (case hr => first | (go_simp; done) | (go_simp; rfl)); intro a7 hw; have hg : wr.grownBy a7 (some go30) := (by rw [hw]; exact HP31.2); have hp_ : Kd.R (Kd.int .i64) 3 a7 w.heap.size (fun _ => True) (.slice (some ⟨go30, 0, none⟩) J.length a4) aZ := (by rw [hw, bs.out]; exact HP31.1); clear HP31; replace F := aM (Kd.R_over' (v := (.slice (some ⟨go30, 0, none⟩) J.length a4)) (rP F) (Kd.R_typed D.out) (by decide) hg); replace D := aM (hp_); replace HB := aM ((by rw [hw]; exact below_set (HB.out) GB30.out : Below w.heap.size w a7)); clear hg hw hp_))
                      go_roundg k4
                      case measure => have := HJ2.out; have := HK2.out; have := HK3.out; have := HK4.out; omega
                      case rel => exact ⟨(aZ), (wrap64 (A + 1)), sI, H', ⟨by have := HJ2.out; have := HK2.out; have := HK3.out; have := HK4.out; omega⟩, ⟨by (try simp only [E]); (with_reducible repeat (first | apply Kd.R_alloc | apply Kd.R_drewN | apply Kd.R_drew)); exact F.out⟩, ⟨by (try simp only [E]); (with_reducible repeat (first | apply Kd.R_alloc | apply Kd.R_drewN | apply Kd.R_drew)); exact D.out⟩, bT0 HB⟩
                     ·exact nX aQ H
                    ·exact nX aP H
                   ·exact nX aN H
                  ·rw [if_neg ak] at H; have ar := decide_eq_false ak
                   (try (have c25b0hl8_3 := ar; rw [E] at c25b0hl8_3))
                   clear ak; replace H := Option.bind_eq_some_iff.mp H; obtain ⟨⟨ag, bI⟩, a8, H⟩ := H; replace H : (if 0 ≤ z then (if z < (I.length : Int) then (word_Decode.l1 k4 G (I.set (z : Int).toNat ag) J (V.length : Int) (wrap64 (z + 1))) else (none)) else (none)) = some (r1, r2) := H; have bT := aM a8; clear a8
                   by_cases aR : 0 ≤ z
                   ·rw [if_pos aR] at H; have ca := dT aR; clear aR
                    by_cases aS : z < (I.length : Int)
                    ·rw [if_pos aS] at H; have bt := dT aS
                     (try (have c35b0hl8_3 := bt; rw [E] at c35b0hl8_3))
                     clear aS; obtain ⟨a9, ad⟩ : ∃ y_ : List Int, y_ = (I.set (z : Int).toNat ag) := ⟨_, rfl⟩
                     first | replace H := rI ad H | rw [← ad] at H
                     have bu := aM ad; clear ad; have H' := aM H; clear H; obtain ⟨ba, bb, bJ⟩ := sL D; subst bJ
                     go_wp2_with (first | ((with_reducible refine gate_callee (f := 53) rfl ?_); refine gL_ (some 71) Try.func53 #[.slice ba J.length bb] ?_; (with_reducible refine (word_Number.calls k4 _ _ J ag bI _ ?s1 (rR D).2.1 bT.out).mono ?_); (case s1 => exact cO (rR D).2.2); rintro e w' ⟨rfl, ⟨nd, rfl⟩⟩; refine ⟨_, rfl, ?_⟩; (try (rw [drewN_self wr]; generalize hq_ : World.drewN wr _ = wr; have aB : RA (Kd.int .i64) 2 wr w (.slice ao I.length W) I := ⟨by rw [← hq_]; exact (rP F)⟩; have aC : RA (Kd.int .i64) 3 wr w (.slice ba J.length bb) J := ⟨by rw [← hq_]; exact (rP D)⟩; have aD : BA w wr := ⟨by rw [← hq_]; exact (bP0 HB)⟩; clear F D HB hq_; have F := aB; have D := aC; have HB := aD; clear aB aC aD)); have bc : 0 ≤ (z : Int) := oT aO; have bd : (z : Int) < ((I.length : Int) : Int) := oT aO; obtain ⟨go36, cg, be, bf, gl36, cl36, HG36⟩ := Kd.R_form F.out (by omega); (first | cases be | (injection be with ea_ en_ ec_; (first | subst ea_ | (injection ea_ with ea_; subst ea_)); subst ec_; clear en_)); have GB36 := aM bf; have GG36 := aM HG36; clear bf gl36 HG36; obtain ⟨bU, hf36_0⟩ := Kd.R_celln 0 F.out (z : Int) bc bd; replace bc := eq_true bc; replace bd := eq_true bd; obtain ⟨cb, cc⟩ := Kd.R_celln 0 F.out (z : Int) (oT aO) (oT aO); have HP38 := Kd.R_putg F.out (z : Int) ag) | ((with_reducible refine gate_store (t := 2) (p := 74) rfl ?_); refine store_event (t := 2) (p := 74) (v := ?vo_w39) (w1 := (wr.setCell ⟨go36, (z : Int).toNat, none⟩ (.int .i64 ag))) ?hg ?ho ?hn ?hr ?_; (case ho => rfl); (case hg => rfl); (case hn => rfl); (case hr => first | (go_simp; done) | (go_simp; rfl)); intro bg hw; have hg : wr.grownBy bg (some go36) := (by rw [hw]; exact HP38.2); have hp_ : Kd.R (Kd.int .i64) 2 bg w.heap.size (fun _ => True) (.slice (some ⟨go36, 0, none⟩) I.length W) a9 := (by rw [hw, bu.out]; exact HP38.1); clear HP38; replace D := aM (Kd.R_over' (v := (.slice (some ⟨go36, 0, none⟩) I.length W)) (rP D) (Kd.R_typed F.out) (by decide) hg); replace F := aM (hp_); replace HB := aM ((by rw [hw]; exact below_set (HB.out) GB36.out : Below w.heap.size w bg)); clear hg hw hp_))
                     (try simp only [← E])
                     go_roundg k4
                     case measure => have := HJ2.out; have := HK2.out; have := HK3.out; have := HK4.out; omega
                     case rel => exact ⟨(a9), (J), (wrap64 (z + 1)), sI, H', ⟨by have := HJ2.out; have := HK2.out; have := HK3.out; have := HK4.out; omega⟩, ⟨by (try simp only [E]); (with_reducible repeat (first | apply Kd.R_alloc | apply Kd.R_drewN | apply Kd.R_drew)); exact F.out⟩, ⟨by (try simp only [E]); (with_reducible repeat (first | apply Kd.R_alloc | apply Kd.R_drewN | apply Kd.R_drew)); exact D.out⟩, bT0 HB⟩
                    ·exact nX aS H
                   ·exact nX aR H
               ·rw [if_neg aj] at H; have aq := decide_eq_false aj
                (try (have c24b0hl8_3 := aq; rw [E] at c24b0hl8_3))
                clear aj; simp only [Option.some.injEq, Prod.mk.injEq] at H; obtain ⟨rfl, rfl⟩ := H
                go_wp2
                go_ret2
                exact ⟨_, eW, rO F.out, bO HB.out⟩
            ·exact nX aA H
           ·exact nX az H
          ·exact nX ay H
         ·exact nX ax H

end Go.Proofs.Ytninoenmhcbonaa.X
namespace Go.Proofs.Ytninoenmhcbonaa.X
open Go.RowKit Go.Proofs.YtninoenmhcbonaaW.PrintWords Go.Proofs.YtninoenmhcbonaaW.PrintLast Go.Proofs.YtninoenmhcbonaaW.PrintMore
attribute [local go_sem] max2_int min2_int max_two min_two max_three min_three max_four min_four
set_option linter.unusedVariables false
set_option linter.unusedSimpArgs false
set_option maxHeartbeats 8000000
set_option maxRecDepth 100000

/-! ### pick_Solve: function 8 -/
def pick_Solve.f (k : Nat) (l0_0 : List ByteArray) (l0_1 : List Bool) (l0_2 : List Int) (l0_3 : List (S73)) : Option (List Int × Int) := (pick_Shortest.f k l0_0 l0_1 l0_2 l0_3).bind fun bt275 => (if bt275.2 = 0 then ((word_Decode.f k bt275.1 (l0_0.length : Int)).bind fun bt279 => (some (bt279.1, bt279.2))) else (some (([] : List Int), bt275.2)))
theorem pick_Solve.mono : ∀ a0 a1 a2 a3 k, LeO (pick_Solve.f k a0 a1 a2 a3) (pick_Solve.f (k + 1) a0 a1 a2 a3) := by
 intro a0 a1 a2 a3 k
 unfold pick_Solve.f
 repeat' first | (with_reducible first | exact pick_Shortest.mono _ _ _ _ _ | exact word_Decode.mono _ _ _ | exact lA | apply lI | refine lB ?_ fun _ => ?_) | exact lN _ | apply lI | refine lB ?_ fun _ => ?_
theorem pick_Solve.calls (k : Nat) (I : Option Addr) (J : Nat) (z : List ByteArray) (L : Option Addr) (M : Nat) (D : List Bool) (O : Option Addr) (P : Nat) (E : List Int) (Q : Option Addr) (U : Nat) (F : List (S73)) (r1 : List Int) (r2 : Int) (w : World) (Z : Kd.C Kd.string w I z.length z) (aa : z.length ≤ J) (ab : Kd.C Kd.bool w L D.length D) (ac : D.length ≤ M) (ad : Kd.C (Kd.int .i64) w O E.length E) (ae : E.length ≤ P) (af : Kd.C k73 w Q F.length F) (ag : F.length ≤ U) (h : pick_Solve.f k z D E F = some (r1, r2)) :
  Calls Try.prog 8 #[.agg #[.slice I z.length J, .slice L D.length M, .slice O E.length P, .slice Q F.length U]] w fun e w' => ∃ aA : Value, e = .returned (.tuple #[aA, .int .i64 r2]) ∧ Kd.R (Kd.int .i64) 2 w' w.heap.size (fun _ => True) aA r1 ∧ Below w.heap.size w w' := by
 have hu27 := Try.underlying27; have ah := aM Z; have ai := aM aa; clear Z aa; have aj := aM ab; have ak := aM ac; clear ab ac; have al := aM ad; have am := aM ae; clear ad ae; have an := aM af; have ao := aM ag; clear af ag; have HB := aM (Below.refl w.heap.size w); rw [pick_Solve.f] at h; have H := h; clear h; replace H := Option.bind_eq_some_iff.mp H; obtain ⟨⟨W, Y⟩, aB, H⟩ := H; replace H : (if Y = 0 then ((word_Decode.f k W (z.length : Int)).bind fun ap => (some (ap.1, ap.2))) else (some (([] : List Int), Y))) = some (r1, r2) := H; have A2 := aM aB; clear aB
 by_cases c3 : Y = 0
 ·rw [if_pos c3] at H; obtain ⟨aD, aE⟩ := bq c3; clear c3; replace H := Option.bind_eq_some_iff.mp H; obtain ⟨⟨ar, au⟩, aC, H⟩ := H; replace H : (some (ar, au)) = some (r1, r2) := H; have A4 := aM aC; clear aC; simp only [Option.some.injEq, Prod.mk.injEq] at H; obtain ⟨rfl, rfl⟩ := H
  go_enter Try.func8, Try.ntmps8
  go_wp2_with (first | ((with_reducible refine gate_dst (N := 1) rfl ?_); refine be_ (cs := #[.slice I z.length J, .slice L D.length M, .slice O E.length P, .slice Q F.length U]) (t := 27) ?_; intro ax hg w5 hbox hb; have A := aM (hbox); have ay := gE hg (bP0 HB); have B := gE hg (bP0 HB); replace HB := hS0 HB hb; clear hb hbox hg; obtain ⟨aR, aS, aT, aU, aV, aW, aX, aY⟩ := bG4 A) | ((with_reducible refine gate_callee (f := 13) rfl ?_); refine gL_ (some 8) Try.func13 #[.agg #[.slice I z.length J, .slice L D.length M, .slice O E.length P, .slice Q F.length U]] ?_; (with_reducible refine (pick_Shortest.calls k _ _ z _ _ D _ _ E _ _ F W Y _ ?s1 ai.out ?s3 ak.out ?s5 am.out ?s7 ao.out A2.out).mono ?_); (case s1 => exact cB ah HB); (case s3 => exact cB aj HB); (case s5 => exact cB al HB); (case s7 => exact cB an HB); rintro e w7 ⟨aF, rfl, V, hb⟩; refine ⟨_, rfl, ?_⟩; have G := rW V (bP1 HB B); replace A := kB A hb; replace HB := hS1 HB B hb; (try clear hb); (try clear V); obtain ⟨aZ, a4, a5, a6, a7, a8, a9, ba⟩ := bG4 A; obtain ⟨bb, bc, bd⟩ := sL G; subst bd) | ((with_reducible refine gate_callee (f := 26) rfl ?_); refine gL_ (some 18) Try.func26 #[.slice bb W.length bc, .int .i64 (z.length : Int)] ?_; (with_reducible refine (word_Decode.calls k _ _ W (z.length : Int) ar au _ ?s1 (rR G).2.1 A4.out).mono ?_); (case s1 => exact cO (rR G).2.2); rintro e bg ⟨bf, rfl, V, hb⟩; refine ⟨_, rfl, ?_⟩; replace G := rB G hb; have az := rW V (bP1 HB B); replace A := kB A hb; replace HB := hS1 HB B hb; (try clear hb); (try clear V)))
  go_ret2
  exact ⟨_, eW, rO az.out, bS1 HB.out B.out⟩
 ·rw [if_neg c3] at H; obtain ⟨aD, aE⟩ := bn c3; simp only [Option.some.injEq, Prod.mk.injEq] at H; obtain ⟨rfl, rfl⟩ := H
  go_enter Try.func8, Try.ntmps8
  go_wp2_with (first | ((with_reducible refine gate_dst (N := 1) rfl ?_); refine be_ (cs := #[.slice I z.length J, .slice L D.length M, .slice O E.length P, .slice Q F.length U]) (t := 27) ?_; intro ax hg bh hbox hb; have A := aM (hbox); have ay := gE hg (bP0 HB); have B := gE hg (bP0 HB); replace HB := hS0 HB hb; clear hb hbox hg; obtain ⟨aG, aH, aI, aJ, aK, aL, aN, aP⟩ := bG4 A) | ((with_reducible refine gate_callee (f := 13) rfl ?_); refine gL_ (some 8) Try.func13 #[.agg #[.slice I z.length J, .slice L D.length M, .slice O E.length P, .slice Q F.length U]] ?_; (with_reducible refine (pick_Shortest.calls k _ _ z _ _ D _ _ E _ _ F W Y _ ?s1 ai.out ?s3 ak.out ?s5 am.out ?s7 ao.out A2.out).mono ?_); (case s1 => exact cB ah HB); (case s3 => exact cB aj HB); (case s5 => exact cB al HB); (case s7 => exact cB an HB); rintro e bi ⟨aF, rfl, V, hb⟩; refine ⟨_, rfl, ?_⟩; have G := rW V (bP1 HB B); replace A := kB A hb; replace HB := hS1 HB B hb; (try clear hb); (try clear V)))
  go_ret2
  exact ⟨_, eW, by first | exact Kd.R_nil _ _ _ _ _ | exact Kd.N_nil _ _ _ _ _ | exact Kd.V_nil _ _ _ _ _ | exact Kd.Q_nil _ _ _ _ _ | exact Kd.S_nil _ _ _ _ _, bS1 HB.out B.out⟩

/-! ### tabardlaw19_ints: function 18 -/
def tabardlaw19_ints.l0 : Nat → List Int → List Int → Int → Int → Option (Bool)
 | 0, _, _, _, _ => none
 | k + 1, x0, x1, x12, x13 => if x13 < x12 then (if 0 ≤ x13 then (if x13 < (x0.length : Int) then (if x13 < (x1.length : Int) then (if (rd x0 x13) = (rd x1 x13) then (tabardlaw19_ints.l0 k x0 x1 x12 (wrap64 (x13 + 1))) else (some false)) else (none)) else (none)) else (none)) else (some true)
def tabardlaw19_ints.f (k : Nat) (l0 : List Int) (l1 : List Int) : Option (Bool) := if (l0.length : Int) = (l1.length : Int) then (tabardlaw19_ints.l0 k l0 l1 (l0.length : Int) 0) else (some false)
theorem tabardlaw19_ints.mono_l : ∀ k, (∀ y0 y1 y2 y3, LeO (tabardlaw19_ints.l0 k y0 y1 y2 y3) (tabardlaw19_ints.l0 (k + 1) y0 y1 y2 y3))
 | 0 => fun _ _ _ _ r h => by simp [tabardlaw19_ints.l0] at h
 | k + 1 => by
  have ih0 := tabardlaw19_ints.mono_l k
  ·intro y0 y1 y2 y3
   unfold tabardlaw19_ints.l0
   repeat' first | (with_reducible first | exact ih0 _ _ _ _ | exact lA | apply lI | refine lB ?_ fun _ => ?_) | exact lN _ | apply lI | refine lB ?_ fun _ => ?_
theorem tabardlaw19_ints.mono : ∀ a0 a1 k, LeO (tabardlaw19_ints.f k a0 a1) (tabardlaw19_ints.f (k + 1) a0 a1) := by
 intro a0 a1 k; have ih0 := tabardlaw19_ints.mono_l k
 unfold tabardlaw19_ints.f
 repeat' first | (with_reducible first | exact ih0 _ _ _ _ | exact lA | apply lI | refine lB ?_ fun _ => ?_) | exact lN _ | apply lI | refine lB ?_ fun _ => ?_
theorem tabardlaw19_ints.calls (k : Nat) (A0 : Option Addr) (c0 : Nat) (A : List Int) (A1 : Option Addr) (c1 : Nat) (G : List Int) (r : Bool) (w : World) (aa : Kd.C (Kd.int .i64) w A0 A.length A) (ab : A.length ≤ c0) (ac : Kd.C (Kd.int .i64) w A1 G.length G) (ad : G.length ≤ c1) (h : tabardlaw19_ints.f k A G = some r) :
  Calls Try.prog 18 #[.slice A0 A.length c0, .slice A1 G.length c1] w fun e w' => e = .returned (.bool r) ∧ Drawn0 w w' := by
 have ae := aM aa; have aw := aM ab; clear aa ab; have af := aM ac; have ax := aM ad; clear ac ad; rw [tabardlaw19_ints.f] at h; have H := h; clear h
 by_cases I : (A.length : Int) = (G.length : Int)
 ·rw [if_pos I] at H; obtain ⟨ag, ah⟩ := bq I
  have ai : (A.length == G.length) = true := by first | simpa using I | (simp at I ⊢; omega)
  clear I; have H' := aM H; clear H
  go_enter Try.func18, Try.ntmps18
  go_wp2
  repeat (go_quiet (fail); try go_wp2)
  go_loopg [13] k (fun kq aq w' => ∃ (z : Int), aq = .int .i64 z ∧ Aside0 (tabardlaw19_ints.l0 kq A G (A.length : Int) z = some r) ∧ Aside0 (kq ≤ k) ∧ Drawn0 w w')
  case atStart => exact ⟨(0), sI, H', ⟨Nat.le_refl _⟩, by repeat (first | exact Drawn0.refl _ | apply Drawn0.step)⟩
  case round =>
   clear H'
   obtain ⟨z, rfl, HA, HK1, ⟨m1, rfl⟩⟩ := hrel; cases gk with
   | zero => exact absurd HA.out (by simp [tabardlaw19_ints.l0])
   | succ k1 =>
    have H := HA.out; clear HA; simp only [tabardlaw19_ints.l0] at H
    by_cases M : z < (A.length : Int)
    ·rw [if_pos M] at H; have aj := dT M; clear M
     by_cases U : 0 ≤ z
     ·rw [if_pos U] at H; have ar := dT U; clear U
      by_cases V : z < (A.length : Int)
      ·rw [if_pos V] at H; have au := dT V; clear V
       by_cases W : z < (G.length : Int)
       ·rw [if_pos W] at H; have av := dT W; clear W
        by_cases Q : (rd A z) = (rd G z)
        ·rw [if_pos Q] at H; obtain ⟨ak, al⟩ := bq Q; clear Q; have H' := aM H; clear H; have B : 0 ≤ (z : Int) := oT aO; have D : z < (A.length : Int) := oT aO; obtain ⟨Y, J, O⟩ := Kd.at_int ae.out z B D; cases J; replace B := eq_true B; replace D := eq_true D; have E : 0 ≤ (z : Int) := oT aO; have F : z < (G.length : Int) := oT aO; obtain ⟨Z, L, P⟩ := Kd.at_int af.out z E F; cases L; replace E := eq_true E; replace F := eq_true F
         go_wp2
         repeat (go_quiet (fail); try go_wp2)
         go_roundg k1
         case measure => have := HK1.out; omega
         case rel => exact ⟨(wrap64 (z + 1)), sI, H', ⟨by have := HK1.out; omega⟩, by repeat (first | exact Drawn0.refl _ | apply Drawn0.step)⟩
        ·rw [if_neg Q] at H; obtain ⟨ak, al⟩ := bn Q; obtain rfl := Option.some.inj H; have B : 0 ≤ (z : Int) := oT aO; have D : z < (A.length : Int) := oT aO; obtain ⟨Y, J, O⟩ := Kd.at_int ae.out z B D; cases J; replace B := eq_true B; replace D := eq_true D; have E : 0 ≤ (z : Int) := oT aO; have F : z < (G.length : Int) := oT aO; obtain ⟨Z, L, P⟩ := Kd.at_int af.out z E F; cases L; replace E := eq_true E; replace F := eq_true F
         go_wp2
         repeat (go_quiet (fail); try go_wp2)
         go_ret
         exact ⟨by first | rfl | (simp; done) | (simp [*]; done), by repeat (first | exact Drawn0.refl _ | apply Drawn0.step)⟩
       ·exact nX W H
      ·exact nX V H
     ·exact nX U H
    ·rw [if_neg M] at H; have aj := decide_eq_false M; clear M; obtain rfl := Option.some.inj H
     go_wp2
     repeat (go_quiet (fail); try go_wp2)
     go_ret
     exact ⟨by first | rfl | (simp; done) | (simp [*]; done), by repeat (first | exact Drawn0.refl _ | apply Drawn0.step)⟩
 ·rw [if_neg I] at H; obtain ⟨ag, ah⟩ := bn I
  have ai : (A.length == G.length) = false := by first | simpa using I | (simp at I ⊢; omega)
  obtain rfl := Option.some.inj H
  go_enter Try.func18, Try.ntmps18
  go_wp2
  repeat (go_quiet (fail); try go_wp2)
  go_ret
  exact ⟨by first | rfl | (simp; done) | (simp [*]; done), by repeat (first | exact Drawn0.refl _ | apply Drawn0.step)⟩

end Go.Proofs.Ytninoenmhcbonaa.X
namespace Go.Proofs.Ytninoenmhcbonaa.X
open Go.RowKit Go.Proofs.YtninoenmhcbonaaW.PrintWords Go.Proofs.YtninoenmhcbonaaW.PrintLast Go.Proofs.YtninoenmhcbonaaW.PrintMore
attribute [local go_sem] max2_int min2_int max_two min_two max_three min_three max_four min_four
set_option linter.unusedVariables false
set_option linter.unusedSimpArgs false
set_option maxHeartbeats 8000000
set_option maxRecDepth 100000

/-! ### tabardref11_half: function 83 -/
def tabardref11_half.l0 : Nat → List Int → Int → List Int → Int → Int → Option (List Int)
 | 0, _, _, _, _, _ => none
 | k + 1, x0, x1, x5, x6, x7 => if x7 < x6 then (if 0 ≤ (wrap64 ((wrap64 (x1 * x6)) + x7)) then (if (wrap64 ((wrap64 (x1 * x6)) + x7)) < (x0.length : Int) then (if x5.length < 17592186044416 then (tabardref11_half.l0 k x0 x1 (x5 ++ [rd x0 (wrap64 ((wrap64 (x1 * x6)) + x7))]) x6 (wrap64 (x7 + 1))) else (none)) else (none)) else (none)) else (some x5)
def tabardref11_half.f (k : Nat) (l0 : List Int) (a1 : Int) : Option (List Int) := tabardref11_half.l0 k l0 a1 ([] : List Int) (wrap64 ((l0.length : Int) / 2)) 0
theorem tabardref11_half.mono_l : ∀ k, (∀ y0 y1 y2 y3 y4, LeO (tabardref11_half.l0 k y0 y1 y2 y3 y4) (tabardref11_half.l0 (k + 1) y0 y1 y2 y3 y4))
 | 0 => fun _ _ _ _ _ r h => by simp [tabardref11_half.l0] at h
 | k + 1 => by
  have ih0 := tabardref11_half.mono_l k
  ·intro y0 y1 y2 y3 y4
   unfold tabardref11_half.l0
   repeat' first | (with_reducible first | exact ih0 _ _ _ _ _ | exact lA | apply lI | refine lB ?_ fun _ => ?_) | exact lN _ | apply lI | refine lB ?_ fun _ => ?_
theorem tabardref11_half.mono : ∀ a0 a1 k, LeO (tabardref11_half.f k a0 a1) (tabardref11_half.f (k + 1) a0 a1) := by
 intro a0 a1 k; have ih0 := tabardref11_half.mono_l k
 unfold tabardref11_half.f
 repeat' first | (with_reducible first | exact ih0 _ _ _ _ _ | exact lA | apply lI | refine lB ?_ fun _ => ?_) | exact lN _ | apply lI | refine lB ?_ fun _ => ?_
theorem tabardref11_half.calls (k : Nat) (A0 : Option Addr) (c0 : Nat) (z : List Int) (N : Int) (r : List Int) (w : World) (W : Kd.C (Kd.int .i64) w A0 z.length z) (Y : z.length ≤ c0) (h : tabardref11_half.f k z N = some r) :
  Calls Try.prog 83 #[.slice A0 z.length c0, .int .i64 N] w fun e w' => ∃ Z : Value, e = .returned (Z) ∧ Kd.R (Kd.int .i64) 3 w' w.heap.size (fun _ => True) Z r ∧ Below w.heap.size w w' := by
 have ag := aM W; have an := aM Y; clear W Y; have HB := aM (Below.refl w.heap.size w); rw [tabardref11_half.f] at h; have H := h; clear h; have H' := aM H; clear H
 go_enter Try.func83, Try.ntmps83
 go_wp2
 go_loopg [5, 7] k (fun kq v5 v7 w' => ∃ (D : List Int) (A : Int), v7 = .int .i64 A ∧ Aside0 (tabardref11_half.l0 kq z N D (wrap64 ((z.length : Int) / 2)) A = some r) ∧ Aside0 (kq ≤ k) ∧ RA (Kd.int .i64) 3 w' w v5 D ∧ BA w w')
 case atStart => exact ⟨(([] : List Int)), (0), sI, H', ⟨Nat.le_refl _⟩, ⟨by first | exact Kd.R_nil _ _ _ _ _ | exact Kd.N_nil _ _ _ _ _ | exact Kd.V_nil _ _ _ _ _ | exact Kd.Q_nil _ _ _ _ _ | exact Kd.S_nil _ _ _ _ _⟩, bT0 HB⟩
 case round =>
  clear H'
  obtain ⟨D, A, rfl, HA, HK1, G, HB⟩ := hrel; cases gk with
  | zero => exact absurd HA.out (by simp [tabardref11_half.l0])
  | succ k1 =>
   have H := HA.out; clear HA; simp only [tabardref11_half.l0] at H
   by_cases M : A < (wrap64 ((z.length : Int) / 2))
   ·rw [if_pos M] at H; have aa := dT M; clear M; obtain ⟨B, I⟩ : ∃ j_ : Int, (wrap64 ((wrap64 (N * (wrap64 ((z.length : Int) / 2)))) + A)) = j_ := ⟨_, rfl⟩
    first | rw [I] at H | simp only [I] at H
    have hji4w : (IntKind.i64.wrap ((wrap64 (N * (wrap64 ((z.length : Int) / 2)))) + A)) = B := (i64_w _).trans I
    by_cases O : 0 ≤ (B)
    ·rw [if_pos O] at H; have ak := dT O; clear O
     by_cases P : (B) < (z.length : Int)
     ·rw [if_pos P] at H; have al := dT P; clear P
      by_cases Q : D.length < 17592186044416
      ·rw [if_pos Q] at H; have ab := aM Q; clear Q; obtain ⟨ac, E⟩ : ∃ y_ : List Int, y_ = (D ++ [rd z (B)]) := ⟨_, rfl⟩
       first | replace H := rI E H | rw [← E] at H
       have U := aM E; clear E; have H' := aM H; clear H; have J : 0 ≤ ((B) : Int) := oT aO; have L : (B) < (z.length : Int) := oT aO; obtain ⟨ah, ad, F⟩ := Kd.at_int ag.out (B) J L; cases ad; replace F := cX HB F; replace J := eq_true J; replace L := eq_true L
       go_wp2_with (first | ((with_reducible refine gate_builtin (b := .append) (xs := #[.tmp 16, .tmp 25]) rfl ?_); at_builtin; refine Kd.R_append (Kd.int .i64) (w0 := w) w.heap.size rfl (.tmp 16) (.tmp 25) 24 3 (.int .i64 0) 8 rfl Try.underlying24 info3 rfl (by decide) (by omega) u5 D (rd z (B)) [.int .i64 (rd z (B))] (fun _ => True) (fun _ => False) rfl rfl ?aP (fun _ hk => hk.elim) ?aF ?aO ?aB ?aS ?aL ?_; (case aP => exact rfl); (case aB => exact (bP0 HB)); (case aF => exact (fun _ _ => trivial)); (case aO => exact (rP G)); (case aS => exact (below_size (bP0 HB))); (case aL => have := ab.out; omega); intro am w8 ho hb hg hat; rw [← U.out] at ho; replace HB := aM (hb); have V := aM (ho); clear G; clear ho hb hg hat))
       go_roundg k1
       case measure => have := HK1.out; omega
       case rel => exact ⟨(ac), (wrap64 (A + 1)), sI, H', ⟨by have := HK1.out; omega⟩, rQ V, bT0 HB⟩
      ·exact nX Q H
     ·exact nX P H
    ·exact nX O H
   ·rw [if_neg M] at H; have aa := decide_eq_false M; clear M; obtain rfl := Option.some.inj H
    go_wp2
    go_ret
    exact ⟨_, eW, rO G.out, bO HB.out⟩

/-! ### tabardref11_same: function 84 -/
def tabardref11_same.l0 : Nat → List Int → List Int → Int → Option (Bool)
 | 0, _, _, _ => none
 | k + 1, x0, x1, x5 => if x5 < (x0.length : Int) then (if 0 ≤ x5 then (if x5 < (x1.length : Int) then (if (rd x0 x5) = (rd x1 x5) then (tabardref11_same.l0 k x0 x1 (wrap64 (x5 + 1))) else (some false)) else (none)) else (none)) else (some true)
def tabardref11_same.f (k : Nat) (l0 : List Int) (l1 : List Int) : Option (Bool) := tabardref11_same.l0 k l0 l1 0
theorem tabardref11_same.mono_l : ∀ k, (∀ y0 y1 y2, LeO (tabardref11_same.l0 k y0 y1 y2) (tabardref11_same.l0 (k + 1) y0 y1 y2))
 | 0 => fun _ _ _ r h => by simp [tabardref11_same.l0] at h
 | k + 1 => by
  have ih0 := tabardref11_same.mono_l k
  ·intro y0 y1 y2
   unfold tabardref11_same.l0
   repeat' first | (with_reducible first | exact ih0 _ _ _ | exact lA | apply lI | refine lB ?_ fun _ => ?_) | exact lN _ | apply lI | refine lB ?_ fun _ => ?_
theorem tabardref11_same.mono : ∀ a0 a1 k, LeO (tabardref11_same.f k a0 a1) (tabardref11_same.f (k + 1) a0 a1) := by
 intro a0 a1 k; have ih0 := tabardref11_same.mono_l k
 unfold tabardref11_same.f
 repeat' first | (with_reducible first | exact ih0 _ _ _ | exact lA | apply lI | refine lB ?_ fun _ => ?_) | exact lN _ | apply lI | refine lB ?_ fun _ => ?_
theorem tabardref11_same.calls (k : Nat) (A0 : Option Addr) (c0 : Nat) (F : List Int) (A1 : Option Addr) (c1 : Nat) (G : List Int) (r : Bool) (w : World) (W : Kd.C (Kd.int .i64) w A0 F.length F) (Y : F.length ≤ c0) (Z : Kd.C (Kd.int .i64) w A1 G.length G) (aa : G.length ≤ c1) (h : tabardref11_same.f k F G = some r) :
  Calls Try.prog 84 #[.slice A0 F.length c0, .slice A1 G.length c1] w fun e w' => e = .returned (.bool r) ∧ Drawn0 w w' := by
 have ab := aM W; have an := aM Y; clear W Y; have ac := aM Z; have ao := aM aa; clear Z aa; rw [tabardref11_same.f] at h; have H := h; clear h; have H' := aM H; clear H
 go_enter Try.func84, Try.ntmps84
 go_wp2
 repeat (go_quiet (fail); try go_wp2)
 go_loopg [5] k (fun kq v5 w' => ∃ (z : Int), v5 = .int .i64 z ∧ Aside0 (tabardref11_same.l0 kq F G z = some r) ∧ Aside0 (kq ≤ k) ∧ Drawn0 w w')
 case atStart => exact ⟨(0), sI, H', ⟨Nat.le_refl _⟩, by repeat (first | exact Drawn0.refl _ | apply Drawn0.step)⟩
 case round =>
  clear H'
  obtain ⟨z, rfl, HA, HK1, ⟨m1, rfl⟩⟩ := hrel; cases gk with
  | zero => exact absurd HA.out (by simp [tabardref11_same.l0])
  | succ k1 =>
   have H := HA.out; clear HA; simp only [tabardref11_same.l0] at H
   by_cases L : z < (F.length : Int)
   ·rw [if_pos L] at H; have ad := dT L; clear L
    by_cases P : 0 ≤ z
    ·rw [if_pos P] at H; have al := dT P; clear P
     by_cases Q : z < (G.length : Int)
     ·rw [if_pos Q] at H; have am := dT Q; clear Q
      by_cases O : (rd F z) = (rd G z)
      ·rw [if_pos O] at H; obtain ⟨ae, af⟩ := bq O; clear O; have H' := aM H; clear H; have A : 0 ≤ (z : Int) := oT aO; have B : z < (F.length : Int) := oT aO; obtain ⟨U, I, M⟩ := Kd.at_int ab.out z A B; cases I; replace A := eq_true A; replace B := eq_true B; have D : 0 ≤ (z : Int) := oT aO; have E : z < (G.length : Int) := oT aO; obtain ⟨V, J, N⟩ := Kd.at_int ac.out z D E; cases J; replace D := eq_true D; replace E := eq_true E
       go_wp2
       repeat (go_quiet (fail); try go_wp2)
       go_roundg k1
       case measure => have := HK1.out; omega
       case rel => exact ⟨(wrap64 (z + 1)), sI, H', ⟨by have := HK1.out; omega⟩, by repeat (first | exact Drawn0.refl _ | apply Drawn0.step)⟩
      ·rw [if_neg O] at H; obtain ⟨ae, af⟩ := bn O; obtain rfl := Option.some.inj H; have A : 0 ≤ (z : Int) := oT aO; have B : z < (F.length : Int) := oT aO; obtain ⟨U, I, M⟩ := Kd.at_int ab.out z A B; cases I; replace A := eq_true A; replace B := eq_true B; have D : 0 ≤ (z : Int) := oT aO; have E : z < (G.length : Int) := oT aO; obtain ⟨V, J, N⟩ := Kd.at_int ac.out z D E; cases J; replace D := eq_true D; replace E := eq_true E
       go_wp2
       repeat (go_quiet (fail); try go_wp2)
       go_ret
       exact ⟨by first | rfl | (simp; done) | (simp [*]; done), by repeat (first | exact Drawn0.refl _ | apply Drawn0.step)⟩
     ·exact nX Q H
    ·exact nX P H
   ·rw [if_neg L] at H; have ad := decide_eq_false L; clear L; obtain rfl := Option.some.inj H
    go_wp2
    repeat (go_quiet (fail); try go_wp2)
    go_ret
    exact ⟨by first | rfl | (simp; done) | (simp [*]; done), by repeat (first | exact Drawn0.refl _ | apply Drawn0.step)⟩

end Go.Proofs.Ytninoenmhcbonaa.X
namespace Go.Proofs.Ytninoenmhcbonaa.X
open Go.RowKit Go.Proofs.YtninoenmhcbonaaW.PrintWords Go.Proofs.YtninoenmhcbonaaW.PrintLast Go.Proofs.YtninoenmhcbonaaW.PrintMore
attribute [local go_sem] max2_int min2_int max_two min_two max_three min_three max_four min_four
set_option linter.unusedVariables false
set_option linter.unusedSimpArgs false
set_option maxHeartbeats 8000000
set_option maxRecDepth 100000

/-! ### tabardref11_Cubes: function 64 -/
def tabardref11_Cubes.f : Nat → List Int → Int → Int → Option ((List (S73)))
 | 0, _, _, _ => none
 | k + 1, l0, a1, a2 => if (l0.length : Int) = 1 then (if 0 < (l0.length : Int) then (some (([(⟨a1, a2, rd l0 0⟩ : S73)] : List (S73)))) else (none)) else ((tabardref11_half.f k l0 0).bind fun t295 => ((tabardref11_half.f k l0 1).bind fun t298 => ((tabardref11_same.f k t295 t298).bind fun t301 => (if t301 = true then ((tabardref11_Cubes.f k t295 a1 a2).bind fun t302 => (some t302)) else ((tabardref11_Cubes.f k t295 (wrap64 (a1 + (t295.length : Int))) a2).bind fun t305 => ((tabardref11_Cubes.f k t298 (wrap64 (a1 + (t295.length : Int))) (wrap64 (a2 + (t295.length : Int)))).bind fun t308 => (if t305.length + t308.length < 5864062014805 then (some (t305 ++ t308)) else (none))))))))
theorem tabardref11_Cubes.mono_l : ∀ k, (∀ y0 y1 y2, LeO (tabardref11_Cubes.f k y0 y1 y2) (tabardref11_Cubes.f (k + 1) y0 y1 y2))
 | 0 => fun _ _ _ r h => by simp [tabardref11_Cubes.f] at h
 | k + 1 => by
  have ih0 := tabardref11_Cubes.mono_l k
  ·intro y0 y1 y2
   unfold tabardref11_Cubes.f
   repeat' first | (with_reducible first | exact ih0 _ _ _ | exact tabardref11_half.mono _ _ _ | exact tabardref11_same.mono _ _ _ | exact lA | apply lI | refine lB ?_ fun _ => ?_) | exact lN _ | apply lI | refine lB ?_ fun _ => ?_
theorem tabardref11_Cubes.mono : ∀ a0 a1 a2 k, LeO (tabardref11_Cubes.f k a0 a1 a2) (tabardref11_Cubes.f (k + 1) a0 a1 a2) := by
 intro a0 a1 a2 k; have ih0 := tabardref11_Cubes.mono_l k; exact ih0 a0 a1 a2
theorem tabardref11_Cubes.calls (k : Nat) : ∀ (Y : Option Addr) (Z : Nat) (E : List Int) (I : Int) (J : Int) (r : List (S73)) (w : World) (ag : Kd.C (Kd.int .i64) w Y E.length E) (ah : E.length ≤ Z) (h : tabardref11_Cubes.f k E I J = some r),
  Calls Try.prog 64 #[.slice Y E.length Z, .int .i64 I, .int .i64 J] w fun e w' => ∃ aD : Value, e = .returned (aD) ∧ Kd.R k73 73 w' w.heap.size (fun _ => True) aD r ∧ Below w.heap.size w w' := by
 induction k using Nat.strongRecOn with
 | _ k ih =>
 intro Y Z E I J r w ag ah h; cases k with
 | zero => exact absurd h (by simp [tabardref11_Cubes.f])
 | succ k =>
 simp only [tabardref11_Cubes.f] at h; have hu73 := Try.underlying73; have W := aM ag; have ac := aM ah; clear ag ah; have HB := aM (Below.refl w.heap.size w); have H := h; clear h
 by_cases c4 : (E.length : Int) = 1
 ·rw [if_pos c4] at H; obtain ⟨aI, aJ⟩ := bq c4; clear c4
  by_cases c5 : 0 < (E.length : Int)
  ·rw [if_pos c5] at H; have bd := dT c5; have be : decide (0 < E.length) = true := dT (by omega); clear c5; obtain ⟨bf, O⟩ : ∃ y_ : List (S73), y_ = (([(⟨I, J, rd E 0⟩ : S73)] : List (S73))) := ⟨_, rfl⟩
   first | replace H := rI O H | rw [← O] at H
   have aw := aM O; clear O; obtain rfl := Option.some.inj H; have aa : 0 ≤ (0 : Int) := (by omega); have ab : 0 < (E.length : Int) := oT aO; obtain ⟨bc, aK, U⟩ := Kd.at_int W.out 0 aa ab; cases aK; have qi291 : (0 < E.length) = True := eq_true (by omega)
   (try rw [show ((0 : Int)).toNat = 0 from rfl] at U)
   (try rw [Addr.add_zero'] at U)
   replace aa := eq_true aa; replace ab := eq_true ab
   go_enter Try.func64, Try.ntmps64
   go_wp2_with (first | ((with_reducible refine gate_dst (N := 20) rfl ?_); refine Kd.R_lit k73 _ 73 ?hg (N := 20) ?hd (xs := ([(⟨I, J, rd E 0⟩ : S73)] : List (S73))) (inner := [.int .i64 I, .int .i64 J, .int .i64 (rd E 0)]) (ok := fun _ => True) (okp := fun _ => True) ?hr ?hp (fun _ hk => hk) trivial (Below.refl _ _) (Nat.le_refl _) (by simp) ?_; (case hd => rfl); (case hg => rfl); (case hr => first | (go_simp; done) | (go_simp; rfl)); (case hp => exact (Reps.c3 (show Kd.M k73 _ _ _ (⟨I, J, rd E 0⟩ : S73) [.int .i64 I, .int .i64 J, .int .i64 (rd E 0)] from (k73_mkM _ _ _ (⟨I, J, rd E 0⟩ : S73) )) (Reps.none _ _))); intro bg w6 ad hb hg_ hnew_; clear hg_ hnew_; replace ad := nW aw ad; have ax := rW ad (bP0 HB); replace HB := hS0 HB hb; clear hb ad))
   go_ret
   exact ⟨_, eW, rO ax.out, bO HB.out⟩
  ·exact nX c5 H
 ·rw [if_neg c4] at H; obtain ⟨aI, aJ⟩ := bn c4; replace H := Option.bind_eq_some_iff.mp H; obtain ⟨D, aE, H⟩ := H; have A8 := aM aE; clear aE; replace H := Option.bind_eq_some_iff.mp H; obtain ⟨G, aG, H⟩ := H; have A9 := aM aG; clear aG; replace H := Option.bind_eq_some_iff.mp H; obtain ⟨aN, aj, H⟩ := H; have aH := aM aj; clear aj
  by_cases ae : aN = true
  ·subst ae
   rw [if_pos rfl] at H; replace H := Option.bind_eq_some_iff.mp H; obtain ⟨aP, ak, H⟩ := H; have a9 := aM ak; clear ak; obtain rfl := Option.some.inj H
   go_enter Try.func64, Try.ntmps64
   go_wp2_with (first | ((with_reducible refine gate_callee (f := 83) rfl ?_); refine gL_ (some 22) Try.func83 #[.slice Y E.length Z, .int .i64 0] ?_; (with_reducible refine (tabardref11_half.calls k _ _ E 0 D _ ?s1 ac.out A8.out).mono ?_); (case s1 => exact cO W.out); rintro e bl ⟨aQ, rfl, B, hb⟩; refine ⟨_, rfl, ?_⟩; have z := rW B (bP0 HB); replace HB := hS0 HB hb; (try clear hb); (try clear B)) | ((with_reducible refine gate_callee (f := 83) rfl ?_); refine gL_ (some 24) Try.func83 #[.slice Y E.length Z, .int .i64 1] ?_; (with_reducible refine (tabardref11_half.calls k _ _ E 1 G _ ?s1 ac.out A9.out).mono ?_); (case s1 => exact cB W HB); rintro e bm ⟨aT, rfl, B, hb⟩; refine ⟨_, rfl, ?_⟩; have A := rW (Kd.R_new' B (Kd.R_lt (rP z))) (bP0 HB); replace z := aM (Kd.R_elder' (rP z) (Kd.R_base B) hb); replace HB := hS0 HB hb; (try clear hb); (try clear B); obtain ⟨al, am, aU⟩ := sL z; subst aU; obtain ⟨aV, aW, aX⟩ := sL A; subst aX) | ((with_reducible refine gate_callee (f := 84) rfl ?_); refine gL_ (some 27) Try.func84 #[.slice al D.length am, .slice aV G.length aW] ?_; (with_reducible refine (tabardref11_same.calls k _ _ D _ _ G true _ ?s1 (rR z).2.1 ?s3 (rR A).2.1 aH.out).mono ?_); (case s1 => exact cO (rR z).2.2); (case s3 => exact cO (rR A).2.2); rintro e w' ⟨rfl, ⟨nd, rfl⟩⟩; refine ⟨_, rfl, ?_⟩) | ((with_reducible refine gate_callee (f := 64) rfl ?_); refine gL_ (some 31) Try.func64 #[.slice al D.length am, .int .i64 I, .int .i64 J] ?_; (with_reducible refine (ih k (by omega) _ _ D I J aP _ ?s1 (rR z).2.1 a9.out).mono ?_); (case s1 => exact cO (rR z).2.2); rintro e bo ⟨bh, rfl, B, hb⟩; refine ⟨_, rfl, ?_⟩; replace z := rB z hb; replace A := rB A hb; have ay := rW B (bP0 HB); replace HB := hS0 HB hb; (try clear hb); (try clear B)))
   go_ret
   exact ⟨_, eW, rO ay.out, bO HB.out⟩
  ·replace ae := Bool.eq_false_iff.mpr ae; subst ae
   rw [if_neg nF] at H; replace H := Option.bind_eq_some_iff.mp H; obtain ⟨V, an, H⟩ := H; have ba := aM an; clear an; replace H := Option.bind_eq_some_iff.mp H; obtain ⟨Q, ao, H⟩ := H; have bb := aM ao; clear ao
   by_cases af : V.length + Q.length < 5864062014805
   ·rw [if_pos af] at H; have az := aM af; clear af; obtain ⟨bi, P⟩ : ∃ y_ : List (S73), y_ = (V ++ Q) := ⟨_, rfl⟩
    first | replace H := rI P H | rw [← P] at H
    have aA := aM P; clear P; obtain rfl := Option.some.inj H
    go_enter Try.func64, Try.ntmps64
    go_wp2_with (first | ((with_reducible refine gate_callee (f := 83) rfl ?_); refine gL_ (some 22) Try.func83 #[.slice Y E.length Z, .int .i64 0] ?_; (with_reducible refine (tabardref11_half.calls k _ _ E 0 D _ ?s1 ac.out A8.out).mono ?_); (case s1 => exact cO W.out); rintro e bp ⟨aQ, rfl, B, hb⟩; refine ⟨_, rfl, ?_⟩; have z := rW B (bP0 HB); replace HB := hS0 HB hb; (try clear hb); (try clear hk); (try clear B)) | ((with_reducible refine gate_callee (f := 83) rfl ?_); refine gL_ (some 24) Try.func83 #[.slice Y E.length Z, .int .i64 1] ?_; (with_reducible refine (tabardref11_half.calls k _ _ E 1 G _ ?s1 ac.out A9.out).mono ?_); (case s1 => exact cB W HB); rintro e br ⟨aT, rfl, B, hb⟩; refine ⟨_, rfl, ?_⟩; have A := rW (Kd.R_new' B (Kd.R_lt (rP z))) (bP0 HB); replace z := aM (Kd.R_elder' (rP z) (Kd.R_base B) hb); replace HB := hS0 HB hb; (try clear hb); (try clear hk); (try clear B); obtain ⟨ap, aq, aY⟩ := sL z; subst aY; obtain ⟨ar, au, aZ⟩ := sL A; subst aZ) | ((with_reducible refine gate_callee (f := 84) rfl ?_); refine gL_ (some 27) Try.func84 #[.slice ap D.length aq, .slice ar G.length au] ?_; (with_reducible refine (tabardref11_same.calls k _ _ D _ _ G false _ ?s1 (rR z).2.1 ?s3 (rR A).2.1 aH.out).mono ?_); (case s1 => exact cO (rR z).2.2); (case s3 => exact cO (rR A).2.2); rintro e w' ⟨rfl, ⟨nd, rfl⟩⟩; refine ⟨_, rfl, ?_⟩) | ((with_reducible refine gate_callee (f := 64) rfl ?_); refine gL_ (some 39) Try.func64 #[.slice ap D.length aq, .int .i64 (wrap64 (I + (D.length : Int))), .int .i64 J] ?_; (with_reducible refine (ih k (by omega) _ _ D (wrap64 (I + (D.length : Int))) J V _ ?s1 (rR z).2.1 ba.out).mono ?_); (case s1 => exact cO (rR z).2.2); rintro e bs ⟨a3, rfl, B, hb⟩; refine ⟨_, rfl, ?_⟩; replace z := rB z hb; replace A := rB A hb; have F := rW B (bP0 HB); replace HB := hS0 HB hb; (try clear hb); (try clear hk); (try clear B)) | ((with_reducible refine gate_callee (f := 64) rfl ?_); refine gL_ (some 48) Try.func64 #[.slice ar G.length au, .int .i64 (wrap64 (I + (D.length : Int))), .int .i64 (wrap64 (J + (D.length : Int)))] ?_; (with_reducible refine (ih k (by omega) _ _ G (wrap64 (I + (D.length : Int))) (wrap64 (J + (D.length : Int))) Q _ ?s1 (rR A).2.1 bb.out).mono ?_); (case s1 => exact cO (rR A).2.2); rintro e bt ⟨bj, rfl, B, hb⟩; refine ⟨_, rfl, ?_⟩; replace z := rB z hb; replace A := rB A hb; have L := rW (Kd.R_new' B (Kd.R_lt (rP F))) (bP0 HB); replace F := aM (Kd.R_elder' (rP F) (Kd.R_base B) hb); replace HB := hS0 HB hb; (try clear hb); (try clear hk); (try clear B); obtain ⟨a4, a5, a6⟩ := sL L; subst a6) | ((with_reducible refine gate_builtin (b := .append) (xs := #[.tmp 40, .tmp 48]) rfl ?_); at_builtin; refine Kd.R_append_rows k73 (w0 := w) w.heap.size rfl (.tmp 40) (.tmp 48) 25 73 (.agg #[(.int .i64 0), (.int .i64 0), (.int .i64 0)]) 24 rfl Try.underlying25 info73 rfl (by decide) (by omega) a3 V Q _ _ _ (fun k_ => some k_ ≠ (.slice a4 Q.length a5 : Value).ownBlock) (fun _ => False) rfl rfl ?aO ?aR (fun _ _ h => h) (fun _ h => h.elim) ?aF ?aB ?aS ?aL ?_; (case aR => exact cO (rR L).2.2); (case aB => exact (bP0 HB)); (case aF => exact (fun k_ hk => Kd.fresh' (Kd.R_lt (rP L)) k_ hk)); (case aO => exact (rM F (fun _ hk => hk.2))); (case aS => exact (below_size (bP0 HB))); (case aL => have := az.out; omega); intro bk bu ho hb hg hat; rw [← aA.out] at ho; replace z := aM (Kd.R_over' (rP z) (Kd.R_typed (rP F)) (by decide) hg); replace A := aM (Kd.R_over' (rP A) (Kd.R_typed (rP F)) (by decide) hg); replace L := aM (Kd.R_after (ok := (fun _ => True)) (rP L) hg hat); replace HB := aM (hb); have aC := aM (ho); clear F; clear ho hb hg hat))
    go_ret
    exact ⟨_, eW, rM aC (fun _ hk => trivial), bO HB.out⟩
   ·exact nX af H

/-! ### tabardref11_Tracks: function 107 -/
def tabardref11_Tracks.l0 : Nat → Int → Int → Int → Option (Int)
 | 0, _, _, _ => none
 | k + 1, x0, x3, x4 => if x4 ≤ 6 then (if x3 = x0 then (some x4) else (tabardref11_Tracks.l0 k x0 (wrap64 (x3 * 2)) (wrap64 (x4 + 1)))) else (some (-1))
def tabardref11_Tracks.f (k : Nat) (a0 : Int) : Option (Int) := tabardref11_Tracks.l0 k a0 1 0
theorem tabardref11_Tracks.mono_l : ∀ k, (∀ y0 y1 y2, LeO (tabardref11_Tracks.l0 k y0 y1 y2) (tabardref11_Tracks.l0 (k + 1) y0 y1 y2))
 | 0 => fun _ _ _ r h => by simp [tabardref11_Tracks.l0] at h
 | k + 1 => by
  have ih0 := tabardref11_Tracks.mono_l k
  ·intro y0 y1 y2
   unfold tabardref11_Tracks.l0
   repeat' first | (with_reducible first | exact ih0 _ _ _ | exact lA | apply lI | refine lB ?_ fun _ => ?_) | exact lN _ | apply lI | refine lB ?_ fun _ => ?_
theorem tabardref11_Tracks.mono : ∀ a0 k, LeO (tabardref11_Tracks.f k a0) (tabardref11_Tracks.f (k + 1) a0) := by
 intro a0 k; have ih0 := tabardref11_Tracks.mono_l k
 unfold tabardref11_Tracks.f
 repeat' first | (with_reducible first | exact ih0 _ _ _ | exact lA | apply lI | refine lB ?_ fun _ => ?_) | exact lN _ | apply lI | refine lB ?_ fun _ => ?_
theorem tabardref11_Tracks.calls (k : Nat) (E : Int) (r : Int) (w : World) (h : tabardref11_Tracks.f k E = some r) :
  Calls Try.prog 107 #[.int .i64 E] w fun e w' => e = .returned (.int .i64 r) ∧ Drawn0 w w' := by
 rw [tabardref11_Tracks.f] at h; have H := h; clear h; have H' := aM H; clear H
 go_enter Try.func107, Try.ntmps107
 go_wp2
 go_loopg [3, 4] k (fun kq J L w' => ∃ (z : Int) (A : Int), J = .int .i64 z ∧ L = .int .i64 A ∧ Aside0 (tabardref11_Tracks.l0 kq E z A = some r) ∧ Aside0 (kq ≤ k) ∧ Drawn0 w w')
 case atStart => exact ⟨(1), (0), sI, sI, H', ⟨Nat.le_refl _⟩, by repeat (first | exact Drawn0.refl _ | apply Drawn0.step)⟩
 case round =>
  clear H'
  obtain ⟨z, A, rfl, rfl, HA, HK1, ⟨m1, rfl⟩⟩ := hrel; cases gk with
  | zero => exact absurd HA.out (by simp [tabardref11_Tracks.l0])
  | succ k1 =>
   have H := HA.out; clear HA; simp only [tabardref11_Tracks.l0] at H
   by_cases B : A ≤ 6
   ·rw [if_pos B] at H; have F := dT B; clear B
    by_cases D : z = E
    ·rw [if_pos D] at H; obtain ⟨G, I⟩ := bq D; clear D; obtain rfl := Option.some.inj H
     go_wp2
     go_ret
     exact ⟨by first | rfl | (simp; done) | (simp [*]; done), by repeat (first | exact Drawn0.refl _ | apply Drawn0.step)⟩
    ·rw [if_neg D] at H; obtain ⟨G, I⟩ := bn D; have H' := aM H; clear H
     go_wp2
     go_roundg k1
     case measure => have := HK1.out; omega
     case rel => exact ⟨(wrap64 (z * 2)), (wrap64 (A + 1)), sI, sI, H', ⟨by have := HK1.out; omega⟩, by repeat (first | exact Drawn0.refl _ | apply Drawn0.step)⟩
   ·rw [if_neg B] at H; have F := decide_eq_false B; clear B; obtain rfl := Option.some.inj H
    go_wp2
    go_ret
    exact ⟨by first | rfl | (simp; done) | (simp [*]; done), by repeat (first | exact Drawn0.refl _ | apply Drawn0.step)⟩

end Go.Proofs.Ytninoenmhcbonaa.X

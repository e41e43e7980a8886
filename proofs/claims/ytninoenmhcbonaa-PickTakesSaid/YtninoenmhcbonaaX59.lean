/- What the functions of this seat compute, and that the program's calls come to just that: written by this session's own program out of the translation; no condition. -/
import Derived.Test.YtninoenmhcbonaaX0
import Derived.Test.YtninoenmhcbonaaX5
import Derived.Test.YtninoenmhcbonaaX58
namespace Go.Proofs.Ytninoenmhcbonaa.X
open Go.RowKit Go.Proofs.YtninoenmhcbonaaW.PrintWords Go.Proofs.YtninoenmhcbonaaW.PrintLast Go.Proofs.YtninoenmhcbonaaW.PrintMore
attribute [local go_sem] max2_int min2_int max_two min_two max_three min_three max_four min_four
set_option linter.unusedVariables false
set_option linter.unusedSimpArgs false
set_option maxHeartbeats 8000000
set_option maxRecDepth 100000

/-! ### table_Takes: function 22 -/
def table_Takes.f (k : Nat) (l0_0 : List ByteArray) (l0_1 : List Bool) (l0_2 : List Int) (l0_3 : List (S73)) (l1 : List Int) : Option (Bool × Int) := (table_Run.f k l0_0 l0_1 l0_2 l0_3 l1).bind fun bt819 => (if bt819.2 = 0 then (if 0 ≤ bt819.1 then (if bt819.1 < (l0_1.length : Int) then (some (rdOf false l0_1 bt819.1, 0)) else (none)) else (none)) else (some (false, bt819.2)))
theorem table_Takes.mono : ∀ a0 a1 a2 a3 a4 k, LeO (table_Takes.f k a0 a1 a2 a3 a4) (table_Takes.f (k + 1) a0 a1 a2 a3 a4) := by
 intro a0 a1 a2 a3 a4 k
 unfold table_Takes.f
 repeat' first | (with_reducible first | exact table_Run.mono _ _ _ _ _ _ | exact lA | apply lI | refine lB ?_ fun _ => ?_) | exact lN _ | apply lI | refine lB ?_ fun _ => ?_
theorem table_Takes.calls (k : Nat) (I : Option Addr) (J : Nat) (A : List ByteArray) (L : Option Addr) (M : Nat) (z : List Bool) (O : Option Addr) (P : Nat) (B : List Int) (Q : Option Addr) (R : Nat) (D : List (S73)) (A1 : Option Addr) (c1 : Nat) (W : List Int) (r1 : Bool) (r2 : Int) (w : World) (ab : Kd.C Kd.string w I A.length A) (ac : A.length ≤ J) (ad : Kd.C Kd.bool w L z.length z) (ae : z.length ≤ M) (af : Kd.C (Kd.int .i64) w O B.length B) (ag : B.length ≤ P) (ah : Kd.C k73 w Q D.length D) (ai : D.length ≤ R) (az : Kd.C (Kd.int .i64) w A1 W.length W) (aA : W.length ≤ c1) (h : table_Takes.f k A z B D W = some (r1, r2)) :
  Calls Try.prog 22 #[.agg #[.slice I A.length J, .slice L z.length M, .slice O B.length P, .slice Q D.length R], .slice A1 W.length c1] w fun e w' => e = .returned (.tuple #[.bool r1, .int .i64 r2]) ∧ Below w.heap.size w w' := by
 have hu27 := Try.underlying27; have aj := aM ab; have ak := aM ac; clear ab ac; have Y := aM ad; have al := aM ae; clear ad ae; have am := aM af; have an := aM ag; clear af ag; have ao := aM ah; have ap := aM ai; clear ah ai; have aB := aM az; have aC := aM aA; clear az aA; have HB := aM (Below.refl w.heap.size w); rw [table_Takes.f] at h; have H := h; clear h; replace H := Option.bind_eq_some_iff.mp H; obtain ⟨⟨F, U⟩, aD, H⟩ := H; replace H : (if U = 0 then (if 0 ≤ F then (if F < (z.length : Int) then (some (rdOf false z F, 0)) else (none)) else (none)) else (some (false, U))) = some (r1, r2) := H; have A3 := aM aD; clear aD
 by_cases c4 : U = 0
 ·rw [if_pos c4] at H; obtain ⟨aG, aH⟩ := bq c4; clear c4
  by_cases c5 : 0 ≤ F
  ·rw [if_pos c5] at H; have bg := dT c5; clear c5
   by_cases c6 : F < (z.length : Int)
   ·rw [if_pos c6] at H; have bh := dT c6; clear c6; simp only [Option.some.injEq, Prod.mk.injEq] at H; obtain ⟨rfl, rfl⟩ := H
    go_enter Try.func22, Try.ntmps22
    go_wp2_with (first | ((with_reducible refine gate_dst (N := 2) rfl ?_); refine be_ (cs := #[.slice I A.length J, .slice L z.length M, .slice O B.length P, .slice Q D.length R]) (t := 27) ?_; intro ax hg w7 hbox hb; have E := aM (hbox); have ay := gE hg (bP0 HB); have G := gE hg (bP0 HB); replace HB := hS0 HB hb; clear hb hbox hg; obtain ⟨a7, a8, a9, ba, bb, bc, bd, be⟩ := bG4 E) | ((with_reducible refine gate_callee (f := 46) rfl ?_); refine gL_ (some 11) Try.func46 #[.agg #[.slice I A.length J, .slice L z.length M, .slice O B.length P, .slice Q D.length R], .slice A1 W.length c1] ?_; (with_reducible refine (table_Run.calls k _ _ A _ _ z _ _ B _ _ D _ _ W F U _ ?s1 ak.out ?s3 al.out ?s5 an.out ?s7 ap.out ?s9 aC.out A3.out).mono ?_); (case s1 => exact cB aj HB); (case s3 => exact cB Y HB); (case s5 => exact cB am HB); (case s7 => exact cB ao HB); (case s9 => exact cB aB HB); rintro e w9 ⟨rfl, hb⟩; refine ⟨_, rfl, ?_⟩; replace E := kB E hb; replace HB := hS1 HB G hb; (try clear hb); obtain ⟨aJ, aK, aL, aN, aP, aQ, aR, aS⟩ := bG4 E; have Z : 0 ≤ (F : Int) := oT aO; have aa : F < (z.length : Int) := oT aO; obtain ⟨bf, aI, V⟩ := Kd.at_bool Y.out F Z aa; cases aI; replace V := cX HB V; replace Z := eq_true Z; replace aa := eq_true aa))
    go_ret2
    exact ⟨eW, bS1 HB.out G.out⟩
   ·exact nX c6 H
  ·exact nX c5 H
 ·rw [if_neg c4] at H; obtain ⟨aG, aH⟩ := bn c4; simp only [Option.some.injEq, Prod.mk.injEq] at H; obtain ⟨rfl, rfl⟩ := H
  go_enter Try.func22, Try.ntmps22
  go_wp2_with (first | ((with_reducible refine gate_dst (N := 2) rfl ?_); refine be_ (cs := #[.slice I A.length J, .slice L z.length M, .slice O B.length P, .slice Q D.length R]) (t := 27) ?_; intro ax hg bi hbox hb; have E := aM (hbox); have ay := gE hg (bP0 HB); have G := gE hg (bP0 HB); replace HB := hS0 HB hb; clear hb hbox hg; obtain ⟨aT, aU, aV, aW, aX, aY, aZ, a5⟩ := bG4 E) | ((with_reducible refine gate_callee (f := 46) rfl ?_); refine gL_ (some 11) Try.func46 #[.agg #[.slice I A.length J, .slice L z.length M, .slice O B.length P, .slice Q D.length R], .slice A1 W.length c1] ?_; (with_reducible refine (table_Run.calls k _ _ A _ _ z _ _ B _ _ D _ _ W F U _ ?s1 ak.out ?s3 al.out ?s5 an.out ?s7 ap.out ?s9 aC.out A3.out).mono ?_); (case s1 => exact cB aj HB); (case s3 => exact cB Y HB); (case s5 => exact cB am HB); (case s7 => exact cB ao HB); (case s9 => exact cB aB HB); rintro e bj ⟨rfl, hb⟩; refine ⟨_, rfl, ?_⟩; replace E := kB E hb; replace HB := hS1 HB G hb; (try clear hb)))
  go_ret2
  exact ⟨eW, bS1 HB.out G.out⟩

/-! ### cmp_Or_int: function 47 -/
def cmp_Or_int.l0 : Nat → Int → List Int → Int → Int → Option (Int)
 | 0, _, _, _, _ => none
 | k + 1, x3, x6, x7, x8 => if x8 < x7 then (if 0 ≤ x8 then (if x8 < (x6.length : Int) then (if (rd x6 x8) = x3 then (cmp_Or_int.l0 k x3 x6 x7 (wrap64 (x8 + 1))) else (some (rd x6 x8))) else (none)) else (none)) else (some x3)
def cmp_Or_int.f (k : Nat) (l0 : List Int) : Option (Int) := cmp_Or_int.l0 k 0 l0 (l0.length : Int) 0
theorem cmp_Or_int.mono_l : ∀ k, (∀ y0 y1 y2 y3, LeO (cmp_Or_int.l0 k y0 y1 y2 y3) (cmp_Or_int.l0 (k + 1) y0 y1 y2 y3))
 | 0 => fun _ _ _ _ r h => by simp [cmp_Or_int.l0] at h
 | k + 1 => by
  have ih0 := cmp_Or_int.mono_l k
  ·intro y0 y1 y2 y3
   unfold cmp_Or_int.l0
   repeat' first | (with_reducible first | exact ih0 _ _ _ _ | exact lA | apply lI | refine lB ?_ fun _ => ?_) | exact lN _ | apply lI | refine lB ?_ fun _ => ?_
theorem cmp_Or_int.mono : ∀ a0 k, LeO (cmp_Or_int.f k a0) (cmp_Or_int.f (k + 1) a0) := by
 intro a0 k; have ih0 := cmp_Or_int.mono_l k
 unfold cmp_Or_int.f
 repeat' first | (with_reducible first | exact ih0 _ _ _ _ | exact lA | apply lI | refine lB ?_ fun _ => ?_) | exact lN _ | apply lI | refine lB ?_ fun _ => ?_
theorem cmp_Or_int.calls (k : Nat) (W : Option Addr) (Y : Nat) (D : List Int) (r : Int) (w : World) (O : Kd.C (Kd.int .i64) w W D.length D) (P : D.length ≤ Y) (h : cmp_Or_int.f k D = some r) :
  Calls Try.prog 47 #[.slice W D.length Y] w fun e w' => e = .returned (.int .i64 r) ∧ Drawn0 w w' := by
 have Q := aM O; have ac := aM P; clear O P; rw [cmp_Or_int.f] at h; have H := h; clear h; have H' := aM H; clear H
 go_enter Try.func47, Try.ntmps47
 go_wp2
 go_loopg [8] k (fun kq Z w' => ∃ (z : Int), Z = .int .i64 z ∧ Aside0 (cmp_Or_int.l0 kq 0 D (D.length : Int) z = some r) ∧ Aside0 (kq ≤ k) ∧ Drawn0 w w')
 case atStart => exact ⟨(0), sI, H', ⟨Nat.le_refl _⟩, by repeat (first | exact Drawn0.refl _ | apply Drawn0.step)⟩
 case round =>
  clear H'; obtain ⟨z, rfl, HA, HK1, ⟨m1, rfl⟩⟩ := hrel; cases gk with
  | zero => exact absurd HA.out (by simp [cmp_Or_int.l0])
  | succ k1 =>
   have H := HA.out; clear HA; simp only [cmp_Or_int.l0] at H
   by_cases F : z < (D.length : Int)
   ·rw [if_pos F] at H; have R := dT F; clear F
    by_cases J : 0 ≤ z
    ·rw [if_pos J] at H; have aa := dT J; clear J
     by_cases L : z < (D.length : Int)
     ·rw [if_pos L] at H; have ab := dT L; clear L
      by_cases I : (rd D z) = 0
      ·rw [if_pos I] at H; obtain ⟨U, V⟩ := bq I; clear I; have H' := aM H; clear H; have A : 0 ≤ (z : Int) := oT aO; have B : z < (D.length : Int) := oT aO; obtain ⟨M, E, G⟩ := Kd.at_int Q.out z A B; cases E; replace A := eq_true A; replace B := eq_true B
       go_wp2
       go_roundg k1
       case measure => have := HK1.out; omega
       case rel => exact ⟨(wrap64 (z + 1)), sI, H', ⟨by have := HK1.out; omega⟩, by repeat (first | exact Drawn0.refl _ | apply Drawn0.step)⟩
      ·rw [if_neg I] at H; obtain ⟨U, V⟩ := bn I; obtain rfl := Option.some.inj H; have A : 0 ≤ (z : Int) := oT aO; have B : z < (D.length : Int) := oT aO; obtain ⟨M, E, G⟩ := Kd.at_int Q.out z A B; cases E; replace A := eq_true A; replace B := eq_true B
       go_wp2
       go_ret
       exact ⟨by first | rfl | (simp; done) | (simp [*]; done), by repeat (first | exact Drawn0.refl _ | apply Drawn0.step)⟩
     ·exact nX L H
    ·exact nX J H
   ·rw [if_neg F] at H; have R := decide_eq_false F; clear F; obtain rfl := Option.some.inj H
    go_wp2
    go_ret
    exact ⟨by first | rfl | (simp; done) | (simp [*]; done), by repeat (first | exact Drawn0.refl _ | apply Drawn0.step)⟩

/-! ### cmp_Compare_int: function 48 -/
def cmp_Compare_int.f (a0 : Int) (a1 : Int) : Option (Int) := (cmp_isNaN_int.f a0).bind fun t823 => ((cmp_isNaN_int.f a1).bind fun t824 => (if t823 = true then (if t824 = true then (some 0) else (some (-1))) else (if t824 = true then (some 1) else (if a0 < a1 then (some (-1)) else (if a0 > a1 then (some 1) else (some 0))))))
theorem cmp_Compare_int.calls (z : Int) (A : Int) (r : Int) (w : World) (h : cmp_Compare_int.f z A = some r) :
  Calls Try.prog 48 #[.int .i64 z, .int .i64 A] w fun e w' => e = .returned (.int .i64 r) ∧ Drawn0 w w' := by
 rw [cmp_Compare_int.f] at h; have H := h; clear h; replace H := Option.bind_eq_some_iff.mp H; obtain ⟨P, M, H⟩ := H; have B := aM M; clear M; replace H := Option.bind_eq_some_iff.mp H; obtain ⟨G, O, H⟩ := H; have D := aM O; clear O
 by_cases I : P = true
 ·subst I
  rw [if_pos rfl] at H
  by_cases J : G = true
  ·subst J
   rw [if_pos rfl] at H; obtain rfl := Option.some.inj H
   go_enter Try.func48, Try.ntmps48
   go_wp2_with (first | ((with_reducible refine gate_callee (f := 72) rfl ?_); refine gL_ (some 8) Try.func72 #[.int .i64 z] ?_; (with_reducible refine (cmp_isNaN_int.calls z true _ B.out).mono ?_); rintro e w' ⟨rfl, ⟨nd, rfl⟩⟩; refine ⟨_, rfl, ?_⟩) | ((with_reducible refine gate_callee (f := 72) rfl ?_); refine gL_ (some 10) Try.func72 #[.int .i64 A] ?_; (with_reducible refine (cmp_isNaN_int.calls A true _ D.out).mono ?_); rintro e w' ⟨rfl, ⟨nd, rfl⟩⟩; refine ⟨_, rfl, ?_⟩))
   go_ret
   exact ⟨by first | rfl | (simp; done) | (simp [*]; done), by repeat (first | exact Drawn0.refl _ | apply Drawn0.step)⟩
  ·replace J := Bool.eq_false_iff.mpr J; subst J
   rw [if_neg nF] at H; obtain rfl := Option.some.inj H
   go_enter Try.func48, Try.ntmps48
   go_wp2_with (first | ((with_reducible refine gate_callee (f := 72) rfl ?_); refine gL_ (some 8) Try.func72 #[.int .i64 z] ?_; (with_reducible refine (cmp_isNaN_int.calls z true _ B.out).mono ?_); rintro e w' ⟨rfl, ⟨nd, rfl⟩⟩; refine ⟨_, rfl, ?_⟩) | ((with_reducible refine gate_callee (f := 72) rfl ?_); refine gL_ (some 10) Try.func72 #[.int .i64 A] ?_; (with_reducible refine (cmp_isNaN_int.calls A false _ D.out).mono ?_); rintro e w' ⟨rfl, ⟨nd, rfl⟩⟩; refine ⟨_, rfl, ?_⟩))
   go_ret
   exact ⟨by first | rfl | (simp; done) | (simp [*]; done), by repeat (first | exact Drawn0.refl _ | apply Drawn0.step)⟩
 ·replace I := Bool.eq_false_iff.mpr I; subst I
  rw [if_neg nF] at H
  by_cases L : G = true
  ·subst L
   rw [if_pos rfl] at H; obtain rfl := Option.some.inj H
   go_enter Try.func48, Try.ntmps48
   go_wp2_with (first | ((with_reducible refine gate_callee (f := 72) rfl ?_); refine gL_ (some 8) Try.func72 #[.int .i64 z] ?_; (with_reducible refine (cmp_isNaN_int.calls z false _ B.out).mono ?_); rintro e w' ⟨rfl, ⟨nd, rfl⟩⟩; refine ⟨_, rfl, ?_⟩) | ((with_reducible refine gate_callee (f := 72) rfl ?_); refine gL_ (some 10) Try.func72 #[.int .i64 A] ?_; (with_reducible refine (cmp_isNaN_int.calls A true _ D.out).mono ?_); rintro e w' ⟨rfl, ⟨nd, rfl⟩⟩; refine ⟨_, rfl, ?_⟩))
   go_ret
   exact ⟨by first | rfl | (simp; done) | (simp [*]; done), by repeat (first | exact Drawn0.refl _ | apply Drawn0.step)⟩
  ·replace L := Bool.eq_false_iff.mpr L; subst L
   rw [if_neg nF] at H
   by_cases E : z < A
   ·rw [if_pos E] at H; have Q := dT E; clear E; obtain rfl := Option.some.inj H
    go_enter Try.func48, Try.ntmps48
    go_wp2_with (first | ((with_reducible refine gate_callee (f := 72) rfl ?_); refine gL_ (some 8) Try.func72 #[.int .i64 z] ?_; (with_reducible refine (cmp_isNaN_int.calls z false _ B.out).mono ?_); rintro e w' ⟨rfl, ⟨nd, rfl⟩⟩; refine ⟨_, rfl, ?_⟩) | ((with_reducible refine gate_callee (f := 72) rfl ?_); refine gL_ (some 10) Try.func72 #[.int .i64 A] ?_; (with_reducible refine (cmp_isNaN_int.calls A false _ D.out).mono ?_); rintro e w' ⟨rfl, ⟨nd, rfl⟩⟩; refine ⟨_, rfl, ?_⟩))
    go_ret
    exact ⟨by first | rfl | (simp; done) | (simp [*]; done), by repeat (first | exact Drawn0.refl _ | apply Drawn0.step)⟩
   ·rw [if_neg E] at H; have Q := decide_eq_false E; clear E
    by_cases F : z > A
    ·rw [if_pos F] at H; have R := dT F; clear F; obtain rfl := Option.some.inj H
     go_enter Try.func48, Try.ntmps48
     go_wp2_with (first | ((with_reducible refine gate_callee (f := 72) rfl ?_); refine gL_ (some 8) Try.func72 #[.int .i64 z] ?_; (with_reducible refine (cmp_isNaN_int.calls z false _ B.out).mono ?_); rintro e w' ⟨rfl, ⟨nd, rfl⟩⟩; refine ⟨_, rfl, ?_⟩) | ((with_reducible refine gate_callee (f := 72) rfl ?_); refine gL_ (some 10) Try.func72 #[.int .i64 A] ?_; (with_reducible refine (cmp_isNaN_int.calls A false _ D.out).mono ?_); rintro e w' ⟨rfl, ⟨nd, rfl⟩⟩; refine ⟨_, rfl, ?_⟩))
     go_ret
     exact ⟨by first | rfl | (simp; done) | (simp [*]; done), by repeat (first | exact Drawn0.refl _ | apply Drawn0.step)⟩
    ·rw [if_neg F] at H; have R := decide_eq_false F; clear F; obtain rfl := Option.some.inj H
     go_enter Try.func48, Try.ntmps48
     go_wp2_with (first | ((with_reducible refine gate_callee (f := 72) rfl ?_); refine gL_ (some 8) Try.func72 #[.int .i64 z] ?_; (with_reducible refine (cmp_isNaN_int.calls z false _ B.out).mono ?_); rintro e w' ⟨rfl, ⟨nd, rfl⟩⟩; refine ⟨_, rfl, ?_⟩) | ((with_reducible refine gate_callee (f := 72) rfl ?_); refine gL_ (some 10) Try.func72 #[.int .i64 A] ?_; (with_reducible refine (cmp_isNaN_int.calls A false _ D.out).mono ?_); rintro e w' ⟨rfl, ⟨nd, rfl⟩⟩; refine ⟨_, rfl, ?_⟩))
     go_ret
     exact ⟨by first | rfl | (simp; done) | (simp [*]; done), by repeat (first | exact Drawn0.refl _ | apply Drawn0.step)⟩

end Go.Proofs.Ytninoenmhcbonaa.X

/- What the functions of this seat compute, and that the program's calls come to just that: written by this session's own program out of the translation; no condition. -/
import Derived.Test.YtninoenmhcbonaaX0
import Derived.Test.YtninoenmhcbonaaX59
namespace Go.Proofs.Ytninoenmhcbonaa.X
open Go.RowKit Go.Proofs.YtninoenmhcbonaaW.PrintWords Go.Proofs.YtninoenmhcbonaaW.PrintLast Go.Proofs.YtninoenmhcbonaaW.PrintMore
attribute [local go_sem] max2_int min2_int max_two min_two max_three min_three max_four min_four
set_option linter.unusedVariables false
set_option linter.unusedSimpArgs false
set_option maxHeartbeats 8000000
set_option maxRecDepth 100000

/-! ### slices_Compare_int_int: function 49 -/
def slices_Compare_int_int.l0 : Nat → List Int → List Int → List Int → Int → Int → Option (Int)
 | 0, _, _, _, _, _ => none
 | k + 1, x0, x1, x9, x10, x11 => if x11 < x10 then (if 0 ≤ x11 then (if x11 < (x9.length : Int) then (if x11 ≥ (x1.length : Int) then (some 1) else (if x11 < (x1.length : Int) then ((cmp_Compare_int.f (rd x9 x11) (rd x1 x11)).bind fun t827 => (if t827 = 0 then (slices_Compare_int_int.l0 k x0 x1 x9 x10 (wrap64 (x11 + 1))) else (some t827))) else (none))) else (none)) else (none)) else (if (x0.length : Int) < (x1.length : Int) then (some (-1)) else (some 0))
def slices_Compare_int_int.f (k : Nat) (l0 : List Int) (l1 : List Int) : Option (Int) := slices_Compare_int_int.l0 k l0 l1 l0 (l0.length : Int) 0
theorem slices_Compare_int_int.mono_l : ∀ k, (∀ y0 y1 y2 y3 y4, LeO (slices_Compare_int_int.l0 k y0 y1 y2 y3 y4) (slices_Compare_int_int.l0 (k + 1) y0 y1 y2 y3 y4))
 | 0 => fun _ _ _ _ _ r h => by simp [slices_Compare_int_int.l0] at h
 | k + 1 => by
  have ih0 := slices_Compare_int_int.mono_l k
  ·intro y0 y1 y2 y3 y4
   unfold slices_Compare_int_int.l0
   repeat' first | (with_reducible first | exact ih0 _ _ _ _ _ | exact lA | apply lI | refine lB ?_ fun _ => ?_) | exact lN _ | apply lI | refine lB ?_ fun _ => ?_
theorem slices_Compare_int_int.mono : ∀ a0 a1 k, LeO (slices_Compare_int_int.f k a0 a1) (slices_Compare_int_int.f (k + 1) a0 a1) := by
 intro a0 a1 k; have ih0 := slices_Compare_int_int.mono_l k
 unfold slices_Compare_int_int.f
 repeat' first | (with_reducible first | exact ih0 _ _ _ _ _ | exact lA | apply lI | refine lB ?_ fun _ => ?_) | exact lN _ | apply lI | refine lB ?_ fun _ => ?_
theorem slices_Compare_int_int.calls (k : Nat) (A0 : Option Addr) (c0 : Nat) (D : List Int) (A1 : Option Addr) (c1 : Nat) (E : List Int) (r : Int) (w : World) (af : Kd.C (Kd.int .i64) w A0 D.length D) (ag : D.length ≤ c0) (ah : Kd.C (Kd.int .i64) w A1 E.length E) (ai : E.length ≤ c1) (h : slices_Compare_int_int.f k D E = some r) :
  Calls Try.prog 49 #[.slice A0 D.length c0, .slice A1 E.length c1] w fun e w' => e = .returned (.int .i64 r) ∧ Drawn0 w w' := by
 have W := aM af; have aA := aM ag; clear af ag; have aj := aM ah; have aB := aM ai; clear ah ai; rw [slices_Compare_int_int.f] at h; have H := h; clear h; have H' := aM H; clear H
 go_enter Try.func49, Try.ntmps49
 go_wp2
 go_loopg [11] k (fun kq av w' => ∃ (z : Int), av = .int .i64 z ∧ Aside0 (slices_Compare_int_int.l0 kq D E D (D.length : Int) z = some r) ∧ Aside0 (kq ≤ k) ∧ Drawn0 w w')
 case atStart => exact ⟨(0), sI, H', ⟨Nat.le_refl _⟩, by repeat (first | exact Drawn0.refl _ | apply Drawn0.step)⟩
 case round =>
  clear H'
  obtain ⟨z, rfl, HA, HK1, ⟨m1, rfl⟩⟩ := hrel; cases gk with
  | zero => exact absurd HA.out (by simp [slices_Compare_int_int.l0])
  | succ k1 =>
   have H := HA.out; clear HA; simp only [slices_Compare_int_int.l0] at H
   by_cases R : z < (D.length : Int)
   ·rw [if_pos R] at H; have al := dT R; clear R
    by_cases Z : 0 ≤ z
    ·rw [if_pos Z] at H; have ax := dT Z; clear Z
     by_cases c5 : z < (D.length : Int)
     ·rw [if_pos c5] at H; have ay := dT c5; clear c5
      by_cases U : z ≥ (E.length : Int)
      ·rw [if_pos U] at H; have am := dT U; clear U; obtain rfl := Option.some.inj H; have A : 0 ≤ (z : Int) := oT aO; have B : z < (D.length : Int) := oT aO; obtain ⟨Q, J, L⟩ := Kd.at_int W.out z A B; cases J; replace A := eq_true A; replace B := eq_true B
       go_wp2
       go_ret
       exact ⟨by first | rfl | (simp; done) | (simp [*]; done), by repeat (first | exact Drawn0.refl _ | apply Drawn0.step)⟩
      ·rw [if_neg U] at H; have am := decide_eq_false U; clear U
       by_cases c7 : z < (E.length : Int)
       ·rw [if_pos c7] at H; have az := dT c7; clear c7; replace H := Option.bind_eq_some_iff.mp H; obtain ⟨O, ak, H⟩ := H; have A8 := aM ak; clear ak
        by_cases Y : O = 0
        ·rw [if_pos Y] at H; obtain ⟨an, ao⟩ := bq Y; clear Y; have H' := aM H; clear H; have A : 0 ≤ (z : Int) := oT aO; have B : z < (D.length : Int) := oT aO; obtain ⟨Q, J, L⟩ := Kd.at_int W.out z A B; cases J; replace A := eq_true A; replace B := eq_true B; have F : 0 ≤ (z : Int) := oT aO; have G : z < (E.length : Int) := oT aO; obtain ⟨ac, P, V⟩ := Kd.at_int aj.out z F G; cases P; replace F := eq_true F; replace G := eq_true G
         go_wp2_with (first | ((with_reducible refine gate_callee (f := 48) rfl ?_); refine gL_ (some 26) Try.func48 #[.int .i64 (rd D z), .int .i64 (rd E z)] ?_; (with_reducible refine (cmp_Compare_int.calls (rd D z) (rd E z) O _ A8.out).mono ?_); rintro e w' ⟨rfl, ⟨nd, rfl⟩⟩; refine ⟨_, rfl, ?_⟩))
         go_roundg k1
         case measure => have := HK1.out; omega
         case rel => exact ⟨(wrap64 (z + 1)), sI, H', ⟨by have := HK1.out; omega⟩, by repeat (first | exact Drawn0.refl _ | apply Drawn0.step)⟩
        ·rw [if_neg Y] at H; obtain ⟨an, ao⟩ := bn Y; obtain rfl := Option.some.inj H; have A : 0 ≤ (z : Int) := oT aO; have B : z < (D.length : Int) := oT aO; obtain ⟨Q, J, L⟩ := Kd.at_int W.out z A B; cases J; replace A := eq_true A; replace B := eq_true B; have F : 0 ≤ (z : Int) := oT aO; have G : z < (E.length : Int) := oT aO; obtain ⟨ac, P, V⟩ := Kd.at_int aj.out z F G; cases P; replace F := eq_true F; replace G := eq_true G
         go_wp2_with (first | ((with_reducible refine gate_callee (f := 48) rfl ?_); refine gL_ (some 26) Try.func48 #[.int .i64 (rd D z), .int .i64 (rd E z)] ?_; (with_reducible refine (cmp_Compare_int.calls (rd D z) (rd E z) O _ A8.out).mono ?_); rintro e w' ⟨rfl, ⟨nd, rfl⟩⟩; refine ⟨_, rfl, ?_⟩))
         go_ret
         exact ⟨by first | rfl | (simp; done) | (simp [*]; done), by repeat (first | exact Drawn0.refl _ | apply Drawn0.step)⟩
       ·exact nX c7 H
     ·exact nX c5 H
    ·exact nX Z H
   ·rw [if_neg R] at H; have al := decide_eq_false R; clear R
    by_cases I : (D.length : Int) < (E.length : Int)
    ·rw [if_pos I] at H; have ad := dT I; have ae : decide (D.length < E.length) = true := dT (Int.ofNat_lt.mp I); clear I; obtain rfl := Option.some.inj H
     go_wp2
     go_ret
     exact ⟨by first | rfl | (simp; done) | (simp [*]; done), by repeat (first | exact Drawn0.refl _ | apply Drawn0.step)⟩
    ·rw [if_neg I] at H; have ad := decide_eq_false I; have ae : decide (D.length < E.length) = false := decide_eq_false (fun h => I (Int.ofNat_lt.mpr h)); clear I; obtain rfl := Option.some.inj H
     go_wp2
     go_ret
     exact ⟨by first | rfl | (simp; done) | (simp [*]; done), by repeat (first | exact Drawn0.refl _ | apply Drawn0.step)⟩

/-! ### word_Compare: function 23 -/
def word_Compare.f (k : Nat) (l0 : List Int) (l1 : List Int) : Option (Int) := (cmp_Compare_int.f (l0.length : Int) (l1.length : Int)).bind fun t828 => ((slices_Compare_int_int.f k l0 l1).bind fun t829 => ((cmp_Or_int.f k (([t828, t829] : List Int))).bind fun t833 => (some t833)))
theorem word_Compare.mono : ∀ a0 a1 k, LeO (word_Compare.f k a0 a1) (word_Compare.f (k + 1) a0 a1) := by
 intro a0 a1 k
 unfold word_Compare.f
 repeat' first | (with_reducible first | exact cmp_Or_int.mono _ _ | exact slices_Compare_int_int.mono _ _ _ | exact lA | apply lI | refine lB ?_ fun _ => ?_) | exact lN _ | apply lI | refine lB ?_ fun _ => ?_
theorem word_Compare.calls (k : Nat) (W : Option Addr) (Y : Nat) (D : List Int) (Z : Option Addr) (c1 : Nat) (E : List Int) (r : Int) (w : World) (L : Kd.C (Kd.int .i64) w W D.length D) (O : D.length ≤ Y) (P : Kd.C (Kd.int .i64) w Z E.length E) (Q : E.length ≤ c1) (h : word_Compare.f k D E = some r) :
  Calls Try.prog 23 #[.slice W D.length Y, .slice Z E.length c1] w fun e w' => e = .returned (.int .i64 r) ∧ Below w.heap.size w w' := by
 have ac := aM L; have ad := aM O; clear L O; have ae := aM P; have af := aM Q; clear P Q; have HB := aM (Below.refl w.heap.size w); rw [word_Compare.f] at h; have H := h; clear h; replace H := Option.bind_eq_some_iff.mp H; obtain ⟨z, R, H⟩ := H; have A3 := aM R; clear R; replace H := Option.bind_eq_some_iff.mp H; obtain ⟨A, U, H⟩ := H; have A4 := aM U; clear U; obtain ⟨I, B⟩ : ∃ y_ : List Int, y_ = (([z, A] : List Int)) := ⟨_, rfl⟩
 first | replace H := rI B H | rw [← B] at H
 have J := aM B; clear B; replace H := Option.bind_eq_some_iff.mp H; obtain ⟨ab, V, H⟩ := H; have A5 := aM V; clear V; obtain rfl := Option.some.inj H
 go_enter Try.func23, Try.ntmps23
 go_wp2_with (first | ((with_reducible refine gate_callee (f := 48) rfl ?_); refine gL_ (some 9) Try.func48 #[.int .i64 (D.length : Int), .int .i64 (E.length : Int)] ?_; (with_reducible refine (cmp_Compare_int.calls (D.length : Int) (E.length : Int) z _ A3.out).mono ?_); rintro e w' ⟨rfl, ⟨nd, rfl⟩⟩; refine ⟨_, rfl, ?_⟩) | ((with_reducible refine gate_callee (f := 49) rfl ?_); refine gL_ (some 12) Try.func49 #[.slice W D.length Y, .slice Z E.length c1] ?_; (with_reducible refine (slices_Compare_int_int.calls k _ _ D _ _ E A _ ?s1 ad.out ?s3 af.out A4.out).mono ?_); (case s1 => exact cO ac.out); (case s3 => exact cO ae.out); rintro e w' ⟨rfl, ⟨nd, rfl⟩⟩; refine ⟨_, rfl, ?_⟩) | ((with_reducible refine gate_dst (N := 13) rfl ?_); refine Kd.R_lit (Kd.int .i64) _ 3 ?hg (N := 13) ?hd (xs := ([z, A] : List Int)) (inner := [.int .i64 z, .int .i64 A]) (ok := fun _ => True) (okp := fun _ => True) ?hr ?hp (fun _ hk => hk) trivial (Below.refl _ _) (Nat.le_refl _) (by simp) ?_; (case hd => rfl); (case hg => rfl); (case hr => first | (go_simp; done) | (go_simp; rfl)); (case hp => exact (Reps.one (show Kd.M (Kd.int .i64) _ _ _ z [.int .i64 z] from rfl) (Reps.one (show Kd.M (Kd.int .i64) _ _ _ A [.int .i64 A] from rfl) (Reps.none _ _)))); intro am w6 G hb hg_ hnew_; clear hg_ hnew_; replace G := nW J G; have F := rW G (bP0 HB); replace HB := hS0 HB hb; clear hb G; obtain ⟨ag, ah, ai⟩ := sL F; subst ai) | ((with_reducible refine gate_callee (f := 47) rfl ?_); refine gL_ (some 14) Try.func47 #[.slice ag I.length ah] ?_; (with_reducible refine (cmp_Or_int.calls k _ _ I ab _ ?s1 (rR F).2.1 A5.out).mono ?_); (case s1 => exact cO (rR F).2.2); rintro e w' ⟨rfl, ⟨nd, rfl⟩⟩; refine ⟨_, rfl, ?_⟩))
 go_ret
 exact ⟨eW, bO HB.out⟩

/-! ### bits_Len64: function 86 -/
def bits_Len64.f (a0 : Int) : Option Int := if 0 ≤ a0 ∧ a0 ≤ 18446744073709551615 then some ((Go.Lib.bitLen a0.toNat : Nat) : Int) else none
theorem bits_Len64.calls (z : Int) (r : Int) (w : World) (h : bits_Len64.f z = some r) :
  Calls Try.prog 86 #[.int .u64 z] w fun e w' => e = .returned (.int .i64 r) ∧ Drawn0 w w' := by
 unfold bits_Len64.f at h
 by_cases hc : 0 ≤ z ∧ z ≤ 18446744073709551615
 ·rw [if_pos hc] at h; obtain rfl := Option.some.inj h; refine (Try.bits_Len64 z w hc.1 hc.2).mono ?_; rintro e w' ⟨rfl, rfl⟩; exact ⟨rfl, Drawn0.refl _⟩
 ·rw [if_neg hc] at h; cases h

/-! ### word_Length: function 73 -/
def word_Length.f (a0 : Int) : Option (Int) := if a0 < 0 then ((bits_Len64.f (IntKind.u64.wrap (Go.bits .xor .i64 (-1) a0))).bind fun t834 => (some (wrap64 (t834 + 1)))) else ((bits_Len64.f (IntKind.u64.wrap (a0))).bind fun t835 => (some (wrap64 (t835 + 1))))
theorem word_Length.calls (z : Int) (r : Int) (w : World) (h : word_Length.f z = some r) :
  Calls Try.prog 73 #[.int .i64 z] w fun e w' => e = .returned (.int .i64 r) ∧ Drawn0 w w' := by
 rw [word_Length.f] at h; have H := h; clear h
 by_cases A : z < 0
 ·rw [if_pos A] at H; have E := dT A; clear A; replace H := Option.bind_eq_some_iff.mp H; obtain ⟨F, B, H⟩ := H; have I := aM B; clear B; obtain rfl := Option.some.inj H
  go_enter Try.func73, Try.ntmps73
  go_wp2_with (first | ((with_reducible refine gate_callee (f := 86) rfl ?_); refine gL_ (some 9) Try.func86 #[.int .u64 (IntKind.u64.wrap (Go.bits .xor .i64 (-1) z))] ?_; (with_reducible refine (bits_Len64.calls (IntKind.u64.wrap (Go.bits .xor .i64 (-1) z)) F _ I.out).mono ?_); rintro e w' ⟨rfl, ⟨nd, rfl⟩⟩; refine ⟨_, rfl, ?_⟩))
  go_ret
  exact ⟨by first | rfl | (simp; done) | (simp [*]; done), by repeat (first | exact Drawn0.refl _ | apply Drawn0.step)⟩
 ·rw [if_neg A] at H; have E := decide_eq_false A; clear A; replace H := Option.bind_eq_some_iff.mp H; obtain ⟨G, D, H⟩ := H; have J := aM D; clear D; obtain rfl := Option.some.inj H
  go_enter Try.func73, Try.ntmps73
  go_wp2_with (first | ((with_reducible refine gate_callee (f := 86) rfl ?_); refine gL_ (some 9) Try.func86 #[.int .u64 (IntKind.u64.wrap (z))] ?_; (with_reducible refine (bits_Len64.calls (IntKind.u64.wrap (z)) G _ J.out).mono ?_); rintro e w' ⟨rfl, ⟨nd, rfl⟩⟩; refine ⟨_, rfl, ?_⟩))
  go_ret
  exact ⟨by first | rfl | (simp; done) | (simp [*]; done), by repeat (first | exact Drawn0.refl _ | apply Drawn0.step)⟩

end Go.Proofs.Ytninoenmhcbonaa.X

/- Functions of the seat, printed, and that the program's calls come to them; no condition. -/
import Derived.Test.YtninoenmhcbonaaX0
namespace Go.Proofs.Ytninoenmhcbonaa.X
open Go.RowKit Go.Proofs.YtninoenmhcbonaaW.PrintWords Go.Proofs.YtninoenmhcbonaaW.PrintLast Go.Proofs.YtninoenmhcbonaaW.PrintMore
attribute [local go_sem] max2_int min2_int max_two min_two max_three min_three max_four min_four
set_option linter.unusedVariables false
set_option linter.unusedSimpArgs false

theorem eqA73 (d : Nat) (w : World) (x0 y0 : Int) (x1 y1 : Int) (x2 y2 : Int) :
  (Op.equalIn (d + 2) 73 (.agg #[.int .i64 x0, .int .i64 x1, .int .i64 x2]) (.agg #[.int .i64 y0, .int .i64 y1, .int .i64 y2])).run Try.prog w = .ok (x0 == y0 && (x1 == y1 && (x2 == y2))) w := by
 refine eqA_of Try.underlying73 (by kernel_rfl) ?_; refine eqf_cons (by rfl) (by go_simp; rfl) (by go_simp; rfl) (by go_simp) ?_; refine eqf_cons (by rfl) (by go_simp; rfl) (by go_simp; rfl) (by go_simp) ?_; exact eqf_last (by rfl) (by go_simp; rfl) (by go_simp; rfl) (by go_simp)
set_option maxHeartbeats 8000000
set_option maxRecDepth 100000
mutual
def Fc.j0 : Nat → Int → Bool → Option (Bool)
 | 0, _, _ => none
 | k + 1, x0, x3 => if x3 = true then (Fc.j1 k x0 x3) else (if x0 ≥ 97 then (if x0 ≤ 122 then (Fc.j1 k x0 (decide (x0 ≤ 122))) else (Fc.j1 k x0 (x0 == 95))) else (Fc.j1 k x0 (x0 == 95)))
def Fc.j1 : Nat → Int → Bool → Option (Bool)
 | 0, _, _ => none
 | k + 1, x0, x3 => if x3 = true then (some true) else (if x0 ≥ 913 then (Fc.j2 k x0 (decide (x0 ≤ 929))) else (Fc.j2 k x0 false))
def Fc.j2 : Nat → Int → Bool → Option (Bool)
 | 0, _, _ => none
 | k + 1, x0, x18 => if x18 = true then (some true) else (if x0 ≥ 931 then (Fc.j3 k x0 (decide (x0 ≤ 937))) else (Fc.j3 k x0 false))
def Fc.j3 : Nat → Int → Bool → Option (Bool)
 | 0, _, _ => none
 | k + 1, x0, x18 => if x18 = true then (some true) else (if x0 ≥ 945 then (if x0 ≤ 969 then (some true) else (some false)) else (some false))
end
def Fc.f (k : Nat) (a0 : Int) : Option (Bool) := if a0 ≥ 65 then (Fc.j0 k a0 (decide (a0 ≤ 90))) else (Fc.j0 k a0 false)
theorem Fc.mono_l : ∀ k, (∀ y0 y1, LeO (Fc.j0 k y0 y1) (Fc.j0 (k + 1) y0 y1)) ∧ (∀ y0 y1, LeO (Fc.j1 k y0 y1) (Fc.j1 (k + 1) y0 y1)) ∧ (∀ y0 y1, LeO (Fc.j2 k y0 y1) (Fc.j2 (k + 1) y0 y1)) ∧ (∀ y0 y1, LeO (Fc.j3 k y0 y1) (Fc.j3 (k + 1) y0 y1))
 | 0 => ⟨fun _ _ r h => by simp [Fc.j0] at h, fun _ _ r h => by simp [Fc.j1] at h, fun _ _ r h => by simp [Fc.j2] at h, fun _ _ r h => by simp [Fc.j3] at h⟩
 | k + 1 => by
  obtain ⟨ih0, ih1, ih2, ih3⟩ := Fc.mono_l k; refine ⟨?_, ?_, ?_, ?_⟩
  ·intro y0 y1
   unfold Fc.j0
   repeat' first | (with_reducible first | exact ih0 _ _ | exact ih1 _ _ | exact ih2 _ _ | exact ih3 _ _ | exact lA | apply lI | refine lB ?_ fun _ => ?_) | exact lN _ | apply lI | refine lB ?_ fun _ => ?_
  ·intro y0 y1
   unfold Fc.j1
   repeat' first | (with_reducible first | exact ih0 _ _ | exact ih1 _ _ | exact ih2 _ _ | exact ih3 _ _ | exact lA | apply lI | refine lB ?_ fun _ => ?_) | exact lN _ | apply lI | refine lB ?_ fun _ => ?_
  ·intro y0 y1
   unfold Fc.j2
   repeat' first | (with_reducible first | exact ih0 _ _ | exact ih1 _ _ | exact ih2 _ _ | exact ih3 _ _ | exact lA | apply lI | refine lB ?_ fun _ => ?_) | exact lN _ | apply lI | refine lB ?_ fun _ => ?_
  ·intro y0 y1
   unfold Fc.j3
   repeat' first | (with_reducible first | exact ih0 _ _ | exact ih1 _ _ | exact ih2 _ _ | exact ih3 _ _ | exact lA | apply lI | refine lB ?_ fun _ => ?_) | exact lN _ | apply lI | refine lB ?_ fun _ => ?_
theorem Fc.mono : ∀ a0 k, LeO (Fc.f k a0) (Fc.f (k + 1) a0) := by
 intro a0 k; obtain ⟨ih0, ih1, ih2, ih3⟩ := Fc.mono_l k
 unfold Fc.f
 repeat' first | (with_reducible first | exact ih0 _ _ | exact ih1 _ _ | exact ih2 _ _ | exact ih3 _ _ | exact lA | apply lI | refine lB ?_ fun _ => ?_) | exact lN _ | apply lI | refine lB ?_ fun _ => ?_
theorem Fc.calls (k : Nat) (z : Int) (r : Bool) (w : World) (h : Fc.f k z = some r) :
  Calls Try.prog 99 #[.int .i32 z] w fun e w' => e = .returned (.bool r) ∧ Drawn0 w w' := by
 rw [Fc.f] at h; have H := h; clear h; have W := aM H; clear H
 go_enter Try.func99, Try.ntmps99
 go_upto_region 1 with (fail)
 go_cut [3] (fun v3 wc => ∃ (kq : Nat) (M : Bool), v3 = .bool M ∧ Aside0 (Fc.j0 kq z M = some r) ∧ Aside0 (kq ≤ k) ∧ Drawn0 w wc)
 case first =>
  have H := W.out; clear W
  apply iB H <;> clear H <;> intro R H
  ·have E := dT R; clear R
   (first | rw [E] | (simp only [i64_w, i32_w]; rw [E]) | skip)
   have H' := aM H; clear H
   go_wp2
   go_meet
   case rel => exact ⟨_, (decide (z ≤ 90)), sI, H', lE, dRw⟩
  ·have E := decide_eq_false R; clear R
   (first | rw [E] | (simp only [i64_w, i32_w]; rw [E]) | skip)
   have H' := aM H; clear H
   go_wp2
   go_meet
   case rel => exact ⟨_, (false), sI, H', lE, dRw⟩
 case rest =>
  clear W
  obtain ⟨kq, M, rfl, HA, HJ1, ⟨mc1, rfl⟩⟩ := hcut; cases kq with
  | zero => exact absurd HA.out (by simp [Fc.j0])
  | succ ah =>
   have H := HA.out; clear HA; simp only [Fc.j0] at H; have Y := aM H; clear H
   go_upto_if 3 with (fail)
   go_cut [3] (fun v3 wc => ∃ (kq : Nat) (N : Bool), v3 = .bool N ∧ Aside0 (Fc.j1 kq z N = some r) ∧ Aside0 (kq ≤ ah) ∧ Drawn0 w wc)
   case first =>
    have H := Y.out; clear Y
    by_cases c5 : M = true
    ·subst c5
     rw [if_pos rfl] at H; have H' := aM H; clear H
     go_wp2
     go_meet
     case rel => exact ⟨_, (true), sI, H', ⟨by have := HJ1.out; first | omega | exact Nat.le_refl _⟩, dRw⟩
    ·replace c5 := Bool.eq_false_iff.mpr c5; subst c5
     rw [if_neg nF] at H
     apply iB H <;> clear H <;> intro U H
     ·have F := dT U; clear U
      (first | rw [F] | (simp only [i64_w, i32_w]; rw [F]) | skip)
      apply iB H <;> clear H <;> intro V H
      ·have ag := dT V; clear V; have H' := aM H; clear H
       go_wp2
       go_meet
       case rel => exact ⟨_, (decide (z ≤ 122)), sI, H', ⟨by have := HJ1.out; first | omega | exact Nat.le_refl _⟩, dRw⟩
      ·have ag := decide_eq_false V; clear V; have H' := aM H; clear H
       go_wp2
       go_meet
       case rel => exact ⟨_, ((z == 95)), sI, H', ⟨by have := HJ1.out; first | omega | exact Nat.le_refl _⟩, dRw⟩
     ·have F := decide_eq_false U; clear U
      (first | rw [F] | (simp only [i64_w, i32_w]; rw [F]) | skip)
      have H' := aM H; clear H
      go_wp2
      go_meet
      case rel => exact ⟨_, ((z == 95)), sI, H', ⟨by have := HJ1.out; first | omega | exact Nat.le_refl _⟩, dRw⟩
   case rest =>
    clear Y
    obtain ⟨kq, N, rfl, HA, HJ3, ⟨mc3, rfl⟩⟩ := hcut; cases kq with
    | zero => exact absurd HA.out (by simp [Fc.j1])
    | succ ai =>
     have H := HA.out; clear HA; simp only [Fc.j1] at H
     by_cases c8 : N = true
     ·subst c8
      rw [if_pos rfl] at H; obtain rfl := Option.some.inj H
      go_wp2
      go_ret
      exact ⟨eVl, dRw⟩
     ·replace c8 := Bool.eq_false_iff.mpr c8; subst c8
      rw [if_neg nF] at H; have Z := aM H; clear H
      go_upto_region 5 with (fail)
      go_cut [18] (fun aa wc => ∃ (kq : Nat) (D : Bool), aa = .bool D ∧ Aside0 (Fc.j2 kq z D = some r) ∧ Aside0 (kq ≤ ai) ∧ Drawn0 w wc)
      case first =>
       have H := Z.out; clear Z
       apply iB H <;> clear H <;> intro G H
       ·have A := dT G; clear G
        (first | rw [A] | (simp only [i64_w, i32_w]; rw [A]) | skip)
        have H' := aM H; clear H
        go_wp2
        go_meet
        case rel => exact ⟨_, (decide (z ≤ 929)), sI, H', ⟨by have := HJ1.out; have := HJ3.out; first | omega | exact Nat.le_refl _⟩, dRw⟩
       ·have A := decide_eq_false G; clear G
        (first | rw [A] | (simp only [i64_w, i32_w]; rw [A]) | skip)
        have H' := aM H; clear H
        go_wp2
        go_meet
        case rel => exact ⟨_, (false), sI, H', ⟨by have := HJ1.out; have := HJ3.out; first | omega | exact Nat.le_refl _⟩, dRw⟩
      case rest =>
       clear Z
       obtain ⟨kq, D, rfl, HA, HJ8, ⟨mc8, rfl⟩⟩ := hcut; cases kq with
       | zero => exact absurd HA.out (by simp [Fc.j2])
       | succ aj =>
        have H := HA.out; clear HA; simp only [Fc.j2] at H
        by_cases P : D = true
        ·subst P
         rw [if_pos rfl] at H; obtain rfl := Option.some.inj H
         go_wp2
         go_ret
         exact ⟨eVl, dRw⟩
        ·replace P := Bool.eq_false_iff.mpr P; subst P
         rw [if_neg nF] at H; have O := aM H; clear H
         go_upto_region 6 with (fail)
         go_cut [18] (fun aa wc => ∃ (kq : Nat) (B : Bool), aa = .bool B ∧ Aside0 (Fc.j3 kq z B = some r) ∧ Aside0 (kq ≤ aj) ∧ Drawn0 w wc)
         case first =>
          have H := O.out; clear O
          apply iB H <;> clear H <;> intro I H
          ·have C := dT I; clear I
           (first | rw [C] | (simp only [i64_w, i32_w]; rw [C]) | skip)
           have H' := aM H; clear H
           go_wp2
           go_meet
           case rel => exact ⟨_, (decide (z ≤ 937)), sI, H', ⟨by have := HJ1.out; have := HJ3.out; have := HJ8.out; first | omega | exact Nat.le_refl _⟩, dRw⟩
          ·have C := decide_eq_false I; clear I
           (first | rw [C] | (simp only [i64_w, i32_w]; rw [C]) | skip)
           have H' := aM H; clear H
           go_wp2
           go_meet
           case rel => exact ⟨_, (false), sI, H', ⟨by have := HJ1.out; have := HJ3.out; have := HJ8.out; first | omega | exact Nat.le_refl _⟩, dRw⟩
         case rest =>
          clear O
          obtain ⟨kq, B, rfl, HA, HJ11, ⟨mc11, rfl⟩⟩ := hcut; cases kq with
          | zero => exact absurd HA.out (by simp [Fc.j3])
          | succ ak =>
           have H := HA.out; clear HA; simp only [Fc.j3] at H
           by_cases Q : B = true
           ·subst Q
            rw [if_pos rfl] at H; obtain rfl := Option.some.inj H
            go_wp2
            go_ret
            exact ⟨eVl, dRw⟩
           ·replace Q := Bool.eq_false_iff.mpr Q; subst Q
            rw [if_neg nF] at H
            apply iB H <;> clear H <;> intro J H
            ·have ad := dT J; clear J
             apply iB H <;> clear H <;> intro L H
             ·have ae := dT L; clear L; obtain rfl := Option.some.inj H
              go_wp2
              go_ret
              exact ⟨eVl, dRw⟩
             ·have ae := decide_eq_false L; clear L; obtain rfl := Option.some.inj H
              go_wp2
              go_ret
              exact ⟨eVl, dRw⟩
            ·have ad := decide_eq_false J; clear J; obtain rfl := Option.some.inj H
             go_wp2
             go_ret
             exact ⟨eVl, dRw⟩
def Fbb.f (k : Nat) (a0 : Int) : Option (Bool) := (Fc.f k a0).bind fun t101 => (if t101 = true then (some true) else (if a0 ≥ 48 then (if a0 ≤ 57 then (some true) else (if a0 = 8242 then (some true) else (if a0 ≥ 8320 then (some (decide (a0 ≤ 8329))) else (some false)))) else (if a0 = 8242 then (some true) else (if a0 ≥ 8320 then (some (decide (a0 ≤ 8329))) else (some false)))))
theorem Fbb.mono : ∀ a0 k, LeO (Fbb.f k a0) (Fbb.f (k + 1) a0) := by
 intro a0 k
 unfold Fbb.f
 repeat' first | (with_reducible first | exact Fc.mono _ _ | exact lA | apply lI | refine lB ?_ fun _ => ?_) | exact lN _ | apply lI | refine lB ?_ fun _ => ?_
theorem Fbb.calls (k : Nat) (z : Int) (r : Bool) (w : World) (h : Fbb.f k z = some r) :
  Calls Try.prog 100 #[.int .i32 z] w fun e w' => e = .returned (.bool r) ∧ Drawn0 w w' := by
 rw [Fbb.f] at h; have H := h; clear h; apply bSx H; clear H; intro L A H
 by_cases I : L = true
 ·subst I
  rw [if_pos rfl] at H; obtain rfl := Option.some.inj H
  go_enter Try.func100, Try.ntmps100
  go_wp2_with (first | ((with_reducible refine gate_callee (f := 99) rfl ?_); refine gL_ (some 4) Try.func99 #[.int .i32 z] ?_; (with_reducible refine (Fc.calls k z true _ A.out).mono ?_); rintro e w' ⟨rfl, ⟨nd, rfl⟩⟩; refine ⟨_, rfl, ?_⟩))
  go_ret
  exact ⟨eVl, dRw⟩
 ·replace I := Bool.eq_false_iff.mpr I; subst I
  rw [if_neg nF] at H
  apply iB H <;> clear H <;> intro B H
  ·have M := dT B; clear B
   apply iB H <;> clear H <;> intro C H
   ·have N := dT C; clear C; obtain rfl := Option.some.inj H
    go_enter Try.func100, Try.ntmps100
    go_wp2_with (first | ((with_reducible refine gate_callee (f := 99) rfl ?_); refine gL_ (some 4) Try.func99 #[.int .i32 z] ?_; (with_reducible refine (Fc.calls k z false _ A.out).mono ?_); rintro e w' ⟨rfl, ⟨nd, rfl⟩⟩; refine ⟨_, rfl, ?_⟩))
    go_ret
    exact ⟨eVl, dRw⟩
   ·have N := decide_eq_false C; clear C
    apply iB H <;> clear H <;> intro F H
    ·obtain ⟨O, P⟩ := bq F; clear F; obtain rfl := Option.some.inj H
     go_enter Try.func100, Try.ntmps100
     go_wp2_with (first | ((with_reducible refine gate_callee (f := 99) rfl ?_); refine gL_ (some 4) Try.func99 #[.int .i32 z] ?_; (with_reducible refine (Fc.calls k z false _ A.out).mono ?_); rintro e w' ⟨rfl, ⟨nd, rfl⟩⟩; refine ⟨_, rfl, ?_⟩))
     go_ret
     exact ⟨eVl, dRw⟩
    ·obtain ⟨O, P⟩ := bn F
     apply iB H <;> clear H <;> intro D H
     ·have Q := dT D; clear D; obtain rfl := Option.some.inj H
      go_enter Try.func100, Try.ntmps100
      go_wp2_with (first | ((with_reducible refine gate_callee (f := 99) rfl ?_); refine gL_ (some 4) Try.func99 #[.int .i32 z] ?_; (with_reducible refine (Fc.calls k z false _ A.out).mono ?_); rintro e w' ⟨rfl, ⟨nd, rfl⟩⟩; refine ⟨_, rfl, ?_⟩))
      go_ret
      exact ⟨eVl, dRw⟩
     ·have Q := decide_eq_false D; clear D; obtain rfl := Option.some.inj H
      go_enter Try.func100, Try.ntmps100
      go_wp2_with (first | ((with_reducible refine gate_callee (f := 99) rfl ?_); refine gL_ (some 4) Try.func99 #[.int .i32 z] ?_; (with_reducible refine (Fc.calls k z false _ A.out).mono ?_); rintro e w' ⟨rfl, ⟨nd, rfl⟩⟩; refine ⟨_, rfl, ?_⟩))
      go_ret
      exact ⟨eVl, dRw⟩
  ·have M := decide_eq_false B; clear B
   apply iB H <;> clear H <;> intro G H
   ·obtain ⟨R, U⟩ := bq G; clear G; obtain rfl := Option.some.inj H
    go_enter Try.func100, Try.ntmps100
    go_wp2_with (first | ((with_reducible refine gate_callee (f := 99) rfl ?_); refine gL_ (some 4) Try.func99 #[.int .i32 z] ?_; (with_reducible refine (Fc.calls k z false _ A.out).mono ?_); rintro e w' ⟨rfl, ⟨nd, rfl⟩⟩; refine ⟨_, rfl, ?_⟩))
    go_ret
    exact ⟨eVl, dRw⟩
   ·obtain ⟨R, U⟩ := bn G
    apply iB H <;> clear H <;> intro E H
    ·have V := dT E; clear E; obtain rfl := Option.some.inj H
     go_enter Try.func100, Try.ntmps100
     go_wp2_with (first | ((with_reducible refine gate_callee (f := 99) rfl ?_); refine gL_ (some 4) Try.func99 #[.int .i32 z] ?_; (with_reducible refine (Fc.calls k z false _ A.out).mono ?_); rintro e w' ⟨rfl, ⟨nd, rfl⟩⟩; refine ⟨_, rfl, ?_⟩))
     go_ret
     exact ⟨eVl, dRw⟩
    ·have V := decide_eq_false E; clear E; obtain rfl := Option.some.inj H
     go_enter Try.func100, Try.ntmps100
     go_wp2_with (first | ((with_reducible refine gate_callee (f := 99) rfl ?_); refine gL_ (some 4) Try.func99 #[.int .i32 z] ?_; (with_reducible refine (Fc.calls k z false _ A.out).mono ?_); rintro e w' ⟨rfl, ⟨nd, rfl⟩⟩; refine ⟨_, rfl, ?_⟩))
     go_ret
     exact ⟨eVl, dRw⟩
def Fba.f (a0 : ByteArray) : Option (Bool) := if a0.toList = ([97, 110, 100] : List UInt8) then (some true) else (if a0.toList = ([111, 114] : List UInt8) then (some true) else (if a0.toList = ([110, 111, 116] : List UInt8) then (some true) else (if a0.toList = ([101, 120] : List UInt8) then (some true) else (if a0.toList = ([97, 108, 108] : List UInt8) then (some true) else (if a0.toList = ([109, 111, 100] : List UInt8) then (some true) else (if a0.toList = ([116, 114, 117, 101] : List UInt8) then (some true) else (if a0.toList = ([102, 97, 108, 115, 101] : List UInt8) then (some true) else (some false))))))))
theorem Fba.calls (z : ByteArray) (r : Bool) (w : World) (h : Fba.f z = some r) :
  Calls Try.prog 101 #[.string z] w fun e w' => e = .returned (.bool r) ∧ Drawn0 w w' := by
 rw [Fba.f] at h; have H := h; clear h
 apply iB H <;> clear H <;> intro A H
 ·obtain ⟨J, L⟩ := bq A; clear A; obtain rfl := Option.some.inj H
  go_enter Try.func101, Try.ntmps101
  go_wp2
  go_ret
  exact ⟨eVl, dRw⟩
 ·obtain ⟨J, L⟩ := bn A
  apply iB H <;> clear H <;> intro B H
  ·obtain ⟨M, N⟩ := bq B; clear B; obtain rfl := Option.some.inj H
   go_enter Try.func101, Try.ntmps101
   go_wp2
   go_ret
   exact ⟨eVl, dRw⟩
  ·obtain ⟨M, N⟩ := bn B
   apply iB H <;> clear H <;> intro C H
   ·obtain ⟨O, P⟩ := bq C; clear C; obtain rfl := Option.some.inj H
    go_enter Try.func101, Try.ntmps101
    go_wp2
    go_ret
    exact ⟨eVl, dRw⟩
   ·obtain ⟨O, P⟩ := bn C
    apply iB H <;> clear H <;> intro D H
    ·obtain ⟨Q, R⟩ := bq D; clear D; obtain rfl := Option.some.inj H
     go_enter Try.func101, Try.ntmps101
     go_wp2
     go_ret
     exact ⟨eVl, dRw⟩
    ·obtain ⟨Q, R⟩ := bn D
     apply iB H <;> clear H <;> intro E H
     ·obtain ⟨U, V⟩ := bq E; clear E; obtain rfl := Option.some.inj H
      go_enter Try.func101, Try.ntmps101
      go_wp2
      go_ret
      exact ⟨eVl, dRw⟩
     ·obtain ⟨U, V⟩ := bn E
      apply iB H <;> clear H <;> intro F H
      ·obtain ⟨W, Y⟩ := bq F; clear F; obtain rfl := Option.some.inj H
       go_enter Try.func101, Try.ntmps101
       go_wp2
       go_ret
       exact ⟨eVl, dRw⟩
      ·obtain ⟨W, Y⟩ := bn F
       apply iB H <;> clear H <;> intro G H
       ·obtain ⟨Z, aa⟩ := bq G; clear G; obtain rfl := Option.some.inj H
        go_enter Try.func101, Try.ntmps101
        go_wp2
        go_ret
        exact ⟨eVl, dRw⟩
       ·obtain ⟨Z, aa⟩ := bn G
        apply iB H <;> clear H <;> intro I H
        ·obtain ⟨ab, ac⟩ := bq I; clear I; obtain rfl := Option.some.inj H
         go_enter Try.func101, Try.ntmps101
         go_wp2
         go_ret
         exact ⟨eVl, dRw⟩
        ·obtain ⟨ab, ac⟩ := bn I; obtain rfl := Option.some.inj H
         go_enter Try.func101, Try.ntmps101
         go_wp2
         go_ret
         exact ⟨eVl, dRw⟩
/-- Is it a name, from a byte on, behind so many characters? -/
def Fb.l0 : Nat → ByteArray → Nat → Int → Option Bool
 | 0, _, _, _ => none
 | k + 1, s, p, n =>
  if p < s.size then
   (if p = 0 then Fc.f k ((Utf8.decode s p).1 : Int) else some true).bind fun t =>
    if t = true then (Fbb.f k ((Utf8.decode s p).1 : Int)).bind fun u => if u = true then Fb.l0 k s (p + (Utf8.decode s p).2) (wrap64 (n + 1)) else some false
    else some false
  else if n > 0 then (if n ≤ 16 then (Fba.f s).bind fun t => some (!t) else some false) else some false
def Fb.f (k : Nat) (a0 : ByteArray) : Option Bool := Fb.l0 k a0 0 0
theorem Fb.mono_l : ∀ k, (∀ y0 y1 y2, LeO (Fb.l0 k y0 y1 y2) (Fb.l0 (k + 1) y0 y1 y2))
 | 0 => fun _ _ _ r h => by simp [Fb.l0] at h
 | k + 1 => by
  have ih0 := Fb.mono_l k; intro y0 y1 y2
  unfold Fb.l0
  repeat' first
   | (with_reducible exact ih0 _ _ _)
   | (with_reducible exact Fc.mono _ _)
   | (with_reducible exact Fbb.mono _ _)
   | (with_reducible exact LeO.refl _)
   | (with_reducible exact LeO.none _)
   | (with_reducible refine LeO.ite ?_ ?_)
   | (with_reducible refine LeO.bind ?_ (fun _ => ?_))
theorem Fb.mono : ∀ a0 k, LeO (Fb.f k a0) (Fb.f (k + 1) a0) := fun a0 k => Fb.mono_l k a0 0 0
/-- The text's iterator: block g, at a byte. -/
structure Fb.Inv (w W : World) (g : Nat) (s : ByteArray) (p : Nat) : Prop where
 ge : w.heap.size ≤ g
 it : W.heap[g]? = some (.stringIter s p)
 below : Below w.heap.size w W
theorem Fb.Inv.on {w W : World} {g : Nat} {s : ByteArray} {p : Nat} (h : Fb.Inv w W g s p) (q : Nat) : Fb.Inv w (W.iterAt g s q) g s q :=
 ⟨h.ge, Go.Lib.iterAt_heap W g s p q h.it, Go.Lib.below_iterAt h.below h.ge s q⟩
theorem Fb.Inv.drewN {w W : World} {g : Nat} {s : ByteArray} {p : Nat} (h : Fb.Inv w W g s p) (n : Nat) : Fb.Inv w (W.drewN n) g s p := ⟨h.ge, h.it, pw_below_drewN h.below n⟩
theorem Fb.width (s : ByteArray) (pos : Nat) (h : pos < s.size) : 1 ≤ (Utf8.decode s pos).2 := by
 by_cases ha : (s[pos]'h).toNat < 128
 ·rw [decode_ascii s pos h ha]; exact Nat.le_refl _
 ·exact (decode_high s pos h (by omega)).2
set_option maxRecDepth 1000000 in
theorem Fb.calls (k : Nat) (z : ByteArray) (r : Bool) (w : World) (h : Fb.f k z = some r) : Calls Try.prog 85 #[.string z] w fun e w' => e = .returned (.bool r) ∧ Below w.heap.size w w' := by
 have HF := aM (show Fb.l0 k z 0 0 = some r from h); clear h
 go_enter Try.func85, Try.ntmps85
 go_wp2
 go_loopw [3] (fun v w' => ∃ (p k : Nat) (n : Int), v = .int .i64 n ∧ Fb.Inv w w' w.heap.size z p ∧ Fb.l0 k z p n = some r) (fun _ w' => z.size - w'.iterPos w.heap.size)
 case atStart => exact ⟨0, k, 0, rfl, ⟨Nat.le_refl _, World.iter_heap _ _ _, below_alloc (Below.refl _ _) _⟩, HF.out⟩
 case round =>
  obtain ⟨p, k, n, rfl, hI, hl⟩ := hrel; cases k with
  | zero => cases hl
  | succ k =>
   rw [Fb.l0] at hl; have hit := hI.it; have HI := aM hI; clear hI
   by_cases hp : p < z.size
   ·rw [if_pos hp] at hl
    have hnx : ∀ ty, (Instr.next (.pointer (some ⟨w.heap.size, 0, none⟩)) true ty).run Try.prog wr = _ := fun ty => Go.Lib.run_next_any_at wr w.heap.size z p ty hit hp
    have hwd := Fb.width z p hp; have HW := aM hwd; have HP := aM hp; clear hit hwd; replace hl := Option.bind_eq_some_iff.mp hl; obtain ⟨t, hS, hl⟩ := hl; have HL := aM hl; clear hl
    by_cases hz : p = 0
    ·rw [if_pos hz] at hS; have F : ((p : Int) == 0) = true := beq_iff_eq.mpr (by omega); have HS := aM hS; clear hS hz hp; cases t with
     | false =>
      have hr := HL.out; rw [if_neg (by decide)] at hr; obtain rfl := Option.some.inj hr; clear hr
      go_wp2_with (go_at_call 99; (with_reducible refine (Fc.calls k _ false _ HS.out).mono ?_); rintro e G ⟨rfl, ⟨nd, rfl⟩⟩)
      go_ret
      exact ⟨rfl, ((HI.out.on _).drewN nd).below⟩
     | true =>
      have hl := HL.out; rw [if_pos rfl] at hl; replace hl := Option.bind_eq_some_iff.mp hl; obtain ⟨u, hR, hl⟩ := hl; have HR := aM hR; have HM := aM hl; clear hl hR; cases u with
      | false =>
       have hr := HM.out; rw [if_neg (by decide)] at hr; obtain rfl := Option.some.inj hr; clear hr
       go_wp2_with (first | (go_at_call 99; (with_reducible refine (Fc.calls k _ true _ HS.out).mono ?_); rintro e G ⟨rfl, ⟨nd, rfl⟩⟩) | (go_at_call 100; (with_reducible refine (Fbb.calls k _ false _ HR.out).mono ?_); rintro e C ⟨rfl, ⟨ne, rfl⟩⟩))
       go_ret
       exact ⟨rfl, ((HI.out.on _).drewN (nd + ne)).below⟩
      | true =>
       go_wp2_with (first | (go_at_call 99; (with_reducible refine (Fc.calls k _ true _ HS.out).mono ?_); rintro e G ⟨rfl, ⟨nd, rfl⟩⟩) | (go_at_call 100; (with_reducible refine (Fbb.calls k _ true _ HR.out).mono ?_); rintro e C ⟨rfl, ⟨ne, rfl⟩⟩))
       go_roundw
       case rel => exact ⟨p + (Utf8.decode z p).2, k, _, rfl, (HI.out.on _).drewN (nd + ne), by simpa using HM.out⟩
       case measure =>
        have D := ((HI.out.on (p + (Utf8.decode z p).2)).drewN (nd + ne)).it; have E := HI.out.it; have := HW.out; have := HP.out; simp only [World.iterPos, D, E]
        omega
    ·rw [if_neg hz] at hS; have F : ((p : Int) == 0) = false := beq_eq_false_iff_ne.mpr (by omega); obtain rfl := Option.some.inj hS; clear hS hz hp; have hl := HL.out; rw [if_pos rfl] at hl; replace hl := Option.bind_eq_some_iff.mp hl; obtain ⟨u, hR, hl⟩ := hl; have HR := aM hR; have HM := aM hl; clear hl hR; cases u with
     | false =>
      have hr := HM.out; rw [if_neg (by decide)] at hr; obtain rfl := Option.some.inj hr; clear hr
      go_wp2_with (go_at_call 100; (with_reducible refine (Fbb.calls k _ false _ HR.out).mono ?_); rintro e C ⟨rfl, ⟨ne, rfl⟩⟩)
      go_ret
      exact ⟨rfl, ((HI.out.on _).drewN ne).below⟩
     | true =>
      go_wp2_with (go_at_call 100; (with_reducible refine (Fbb.calls k _ true _ HR.out).mono ?_); rintro e C ⟨rfl, ⟨ne, rfl⟩⟩)
      go_roundw
      case rel => exact ⟨p + (Utf8.decode z p).2, k, _, rfl, (HI.out.on _).drewN ne, by simpa using HM.out⟩
      case measure =>
       have D := ((HI.out.on (p + (Utf8.decode z p).2)).drewN ne).it; have E := HI.out.it; have := HW.out; have := HP.out; simp only [World.iterPos, D, E]
       omega
   ·rw [if_neg hp] at hl
    have hnx : ∀ ty, (Instr.next (.pointer (some ⟨w.heap.size, 0, none⟩)) true ty).run Try.prog wr = _ := fun ty => Go.Lib.run_next_end_at wr w.heap.size z p ty hit hp
    clear hit hp
    by_cases A : n > 0
    ·rw [if_pos A] at hl; have d1 : decide (n > 0) = true := dT A; clear A
     by_cases B : n ≤ 16
     ·rw [if_pos B] at hl; have d2 : decide (n ≤ 16) = true := dT B; clear B; replace hl := Option.bind_eq_some_iff.mp hl; obtain ⟨t, hV, hl⟩ := hl; obtain rfl := Option.some.inj hl; have HV := aM hV; clear hl hV
      go_wp2_with (go_at_call 101; (with_reducible refine (Fba.calls _ t _ HV.out).mono ?_); rintro e C ⟨rfl, ⟨ne, rfl⟩⟩)
      go_ret
      exact ⟨rfl, (HI.out.drewN ne).below⟩
     ·rw [if_neg B] at hl; have d2 : decide (n ≤ 16) = false := decide_eq_false B; clear B; obtain rfl := Option.some.inj hl; clear hl
      go_wp2
      go_ret
      exact ⟨rfl, HI.out.below⟩
    ·rw [if_neg A] at hl; have d1 : decide (n > 0) = false := decide_eq_false A; clear A; obtain rfl := Option.some.inj hl; clear hl
     go_wp2
     go_ret
     exact ⟨rfl, HI.out.below⟩
def Fbc.l0 : Nat → List ByteArray → List ByteArray → Int → Int → Option (Bool)
 | 0, _, _, _, _ => none
 | k + 1, x0, x5, x6, x7 => if x7 < x6 then (if 0 ≤ x7 then (if x7 < (x5.length : Int) then ((Fb.f k (rdOf ByteArray.empty x5 x7)).bind fun t103 => (if t103 = true then (if x7 > 0 then (if 0 ≤ (wrap64 (x7 - 1)) then (if (wrap64 (x7 - 1)) < (x0.length : Int) then (if ((Op.bytesLess ((rdOf ByteArray.empty x0 (wrap64 (x7 - 1))).toList) ((rdOf ByteArray.empty x5 x7).toList)) = true) then (Fbc.l0 k x0 x5 x6 (wrap64 (x7 + 1))) else (some false)) else (none)) else (none)) else (Fbc.l0 k x0 x5 x6 (wrap64 (x7 + 1)))) else (some false))) else (none)) else (none)) else (some true)
def Fbc.f (k : Nat) (l0 : List ByteArray) : Option (Bool) := Fbc.l0 k l0 l0 (l0.length : Int) 0
theorem Fbc.mono_l : ∀ k, (∀ y0 y1 y2 y3, LeO (Fbc.l0 k y0 y1 y2 y3) (Fbc.l0 (k + 1) y0 y1 y2 y3))
 | 0 => fun _ _ _ _ r h => by simp [Fbc.l0] at h
 | k + 1 => by
  have ih0 := Fbc.mono_l k
  ·intro y0 y1 y2 y3
   unfold Fbc.l0
   repeat' first | (with_reducible first | exact ih0 _ _ _ _ | exact Fb.mono _ _ | exact lA | apply lI | refine lB ?_ fun _ => ?_) | exact lN _ | apply lI | refine lB ?_ fun _ => ?_
theorem Fbc.mono : ∀ a0 k, LeO (Fbc.f k a0) (Fbc.f (k + 1) a0) := by
 intro a0 k; have ih0 := Fbc.mono_l k
 unfold Fbc.f
 repeat' first | (with_reducible first | exact ih0 _ _ _ _ | exact Fb.mono _ _ | exact lA | apply lI | refine lB ?_ fun _ => ?_) | exact lN _ | apply lI | refine lB ?_ fun _ => ?_
theorem Fbc.calls (k : Nat) (A0 : Option Addr) (c0 : Nat) (B : List ByteArray) (r : Bool) (w : World) (ae : Kd.C Kd.string w A0 B.length B) (af : B.length ≤ c0) (h : Fbc.f k B = some r) :
  Calls Try.prog 68 #[.slice A0 B.length c0] w fun e w' => e = .returned (.bool r) ∧ Below w.heap.size w w' := by
 have O := aM ae; have ar := aM af; clear ae af; have HB := aM (Below.refl w.heap.size w); rw [Fbc.f] at h; have H := h; clear h; have H' := aM H; clear H
 go_enter Try.func68, Try.ntmps68
 go_wp2
 go_loopg [7] k (fun kq v7 w' => ∃ (z : Int), v7 = .int .i64 z ∧ Aside0 (Fbc.l0 kq B B (B.length : Int) z = some r) ∧ Aside0 (kq ≤ k) ∧ BA w w')
 case atStart => exact ⟨(0), sI, H', ⟨Nat.le_refl _⟩, bT0 HB⟩
 case round =>
  clear H'; obtain ⟨z, rfl, HA, aa, HB⟩ := hrel; cases gk with
  | zero => exact absurd HA.out (by simp [Fbc.l0])
  | succ k1 =>
   have H := HA.out; clear HA; simp only [Fbc.l0] at H
   apply iB H <;> clear H <;> intro V H
   ·have ah := dT V; clear V
    apply iN H; clear H; intro Z H; have ao := dT Z; clear Z
    apply iN H; clear H; intro c4 H; have ap := dT c4; clear c4; apply bSx H; clear H; intro ai Y H
    by_cases c6 : ai = true
    ·subst c6
     rw [if_pos rfl] at H
     apply iB H <;> clear H <;> intro W H
     ·have aj := dT W; clear W; obtain ⟨G, N⟩ : ∃ j_ : Int, (wrap64 (z - 1)) = j_ := ⟨_, rfl⟩
      first | rw [N] at H | simp only [N] at H
      (try rw [N] at Y)
      have hji8w : (IntKind.i64.wrap (z - 1)) = G := (i64_w _).trans N
      apply iN H; clear H; intro c9 H; have aq := dT c9; clear c9
      apply iN H; clear H; intro U H; have am := dT U; clear U
      apply iB H <;> clear H <;> intro P H
      ·have ad : (Op.bytesLess ((rdOf ByteArray.empty B (G)).toList) ((rdOf ByteArray.empty B z).toList)) = true := P; clear P; have H' := aM H; clear H; obtain ⟨⟨M, I, A⟩, D, E⟩ := xAt (Kd.at_string O.out) z; cases I; replace A := cX HB A
       go_wp2_with (first | ((with_reducible refine gate_callee (f := 85) rfl ?_); refine gL_ (some 13) Try.func85 #[.string (rdOf ByteArray.empty B z)] ?_; (with_reducible refine (Fb.calls k1 (rdOf ByteArray.empty B z) true _ Y.out).mono ?_); rintro e au ⟨rfl, hb⟩; refine ⟨_, rfl, ?_⟩; replace HB := hS0 HB hb; obtain ⟨⟨Q, R, F⟩, J, L⟩ := xAt (Kd.at_string O.out) (G); obtain rfl := sJJ R; replace F := cX HB F; ))
       go_roundg k1
       case measure => have := aa.out; omega
       case rel => exact ⟨(wrap64 (z + 1)), sI, H', ⟨by have := aa.out; omega⟩, bT0 HB⟩
      ·have ad : (Op.bytesLess ((rdOf ByteArray.empty B (G)).toList) ((rdOf ByteArray.empty B z).toList)) = false := by simpa using P
       clear P; obtain rfl := Option.some.inj H; obtain ⟨⟨M, I, A⟩, D, E⟩ := xAt (Kd.at_string O.out) z; cases I; replace A := cX HB A
       go_wp2_with (first | ((with_reducible refine gate_callee (f := 85) rfl ?_); refine gL_ (some 13) Try.func85 #[.string (rdOf ByteArray.empty B z)] ?_; (with_reducible refine (Fb.calls k1 (rdOf ByteArray.empty B z) true _ Y.out).mono ?_); rintro e av ⟨rfl, hb⟩; refine ⟨_, rfl, ?_⟩; replace HB := hS0 HB hb; obtain ⟨⟨Q, R, F⟩, J, L⟩ := xAt (Kd.at_string O.out) (G); obtain rfl := sJJ R; replace F := cX HB F; ))
       go_ret
       exact ⟨by first | rfl | (simp [errW_none, errW_some] <;> rfl) | (simp only [← N]; first | rfl | (simp [errW_none, errW_some] <;> rfl)) | (simp [*, errW_none, errW_some] <;> rfl), bO HB.out⟩
     ·have aj := decide_eq_false W; clear W; have H' := aM H; clear H; obtain ⟨⟨M, I, A⟩, D, E⟩ := xAt (Kd.at_string O.out) z; cases I; replace A := cX HB A
      go_wp2_with (first | ((with_reducible refine gate_callee (f := 85) rfl ?_); refine gL_ (some 13) Try.func85 #[.string (rdOf ByteArray.empty B z)] ?_; (with_reducible refine (Fb.calls k1 (rdOf ByteArray.empty B z) true _ Y.out).mono ?_); rintro e aw ⟨rfl, hb⟩; refine ⟨_, rfl, ?_⟩; replace HB := hS0 HB hb))
      go_roundg k1
      case measure => have := aa.out; omega
      case rel => exact ⟨(wrap64 (z + 1)), sI, H', ⟨by have := aa.out; omega⟩, bT0 HB⟩
    ·replace c6 := Bool.eq_false_iff.mpr c6; subst c6
     rw [if_neg nF] at H; obtain rfl := Option.some.inj H; obtain ⟨⟨M, I, A⟩, D, E⟩ := xAt (Kd.at_string O.out) z; cases I; replace A := cX HB A
     go_wp2_with (first | ((with_reducible refine gate_callee (f := 85) rfl ?_); refine gL_ (some 13) Try.func85 #[.string (rdOf ByteArray.empty B z)] ?_; (with_reducible refine (Fb.calls k1 (rdOf ByteArray.empty B z) false _ Y.out).mono ?_); rintro e ax ⟨rfl, hb⟩; refine ⟨_, rfl, ?_⟩; replace HB := hS0 HB hb))
     go_ret
     exact ⟨eW, bO HB.out⟩
   ·have ah := decide_eq_false V; clear V; obtain rfl := Option.some.inj H
    go_wp2
    go_ret
    exact ⟨eW, bO HB.out⟩
def Ft.f (k : Nat) (l0 : List ByteArray) (a1 : Int) : Option (Bool) := if (l0.length : Int) ≤ 6 then (if a1 ≥ 1 then (if a1 ≤ 256 then ((Fbc.f k l0).bind fun t105 => (some t105)) else (some false)) else (some false)) else (some false)
theorem Ft.mono : ∀ a0 a1 k, LeO (Ft.f k a0 a1) (Ft.f (k + 1) a0 a1) := by
 intro a0 a1 k
 unfold Ft.f
 repeat' first | (with_reducible first | exact Fbc.mono _ _ | exact lA | apply lI | refine lB ?_ fun _ => ?_) | exact lN _ | apply lI | refine lB ?_ fun _ => ?_
theorem Ft.calls (k : Nat) (P : Option Addr) (Q : Nat) (z : List ByteArray) (E : Int) (r : Bool) (w : World) (F : Kd.C Kd.string w P z.length z) (G : z.length ≤ Q) (h : Ft.f k z E = some r) :
  Calls Try.prog 42 #[.slice P z.length Q, .int .i64 E] w fun e w' => e = .returned (.bool r) ∧ Below w.heap.size w w' := by
 have R := aM F; have U := aM G; clear F G; have HB := aM (Below.refl w.heap.size w); rw [Ft.f] at h; have H := h; clear h
 apply iB H <;> clear H <;> intro A H
 ·have J := dT A; have L : decide (z.length ≤ 6) = true := dT (by omega); clear A
  apply iB H <;> clear H <;> intro B H
  ·have M := dT B; clear B
   apply iB H <;> clear H <;> intro D H
   ·have N := dT D; clear D; apply bSx H; clear H; intro O V H; obtain rfl := Option.some.inj H
    go_enter Try.func42, Try.ntmps42
    go_wp2_with (first | (go_at_call 68; (with_reducible refine (Fbc.calls k _ _ z O _ ?s1 U.out V.out).mono ?_); (case s1 => exact cO R.out); rintro e W ⟨rfl, hb⟩; replace HB := hS0 HB hb))
    go_ret
    exact ⟨eW, bO HB.out⟩
   ·have N := decide_eq_false D; clear D; obtain rfl := Option.some.inj H
    go_enter Try.func42, Try.ntmps42
    go_wp2
    go_ret
    exact ⟨eW, bO HB.out⟩
  ·have M := decide_eq_false B; clear B; obtain rfl := Option.some.inj H
   go_enter Try.func42, Try.ntmps42
   go_wp2
   go_ret
   exact ⟨eW, bO HB.out⟩
 ·have J := decide_eq_false A; have L : decide (z.length ≤ 6) = false := decide_eq_false (by omega); clear A; obtain rfl := Option.some.inj H
  go_enter Try.func42, Try.ntmps42
  go_wp2
  go_ret
  exact ⟨eW, bO HB.out⟩
def Fac.f (a0 : Int) : Option (Bool) := some (a0 != a0)
theorem Fac.calls (z : Int) (r : Bool) (w : World) (h : Fac.f z = some r) :
  Calls Try.prog 72 #[.int .i64 z] w fun e w' => e = .returned (.bool r) ∧ Drawn0 w w' := by
 rw [Fac.f] at h; have H := h; clear h; obtain rfl := Option.some.inj H
 go_enter Try.func72, Try.ntmps72
 go_wp2
 go_ret
 exact ⟨eVl, dRw⟩
def Fab.f (a0 : Int) (a1 : Int) : Option (Bool) := (Fac.f a0).bind fun t106 => (if t106 = true then ((Fac.f a1).bind fun t107 => (if t107 = true then (some (decide (a0 < a1))) else (some true))) else (some (decide (a0 < a1))))
theorem Fab.calls (z : Int) (A : Int) (r : Bool) (w : World) (h : Fab.f z A = some r) :
  Calls Try.prog 69 #[.int .i64 z, .int .i64 A] w fun e w' => e = .returned (.bool r) ∧ Drawn0 w w' := by
 rw [Fab.f] at h; have H := h; clear h; apply bSx H; clear H; intro G I H
 by_cases B : G = true
 ·subst B
  rw [if_pos rfl] at H; apply bSx H; clear H; intro J L H
  by_cases D : J = true
  ·subst D
   rw [if_pos rfl] at H; obtain rfl := Option.some.inj H
   go_enter Try.func69, Try.ntmps69
   go_wp2_with (first | ((with_reducible refine gate_callee (f := 72) rfl ?_); refine gL_ (some 6) Try.func72 #[.int .i64 z] ?_; (with_reducible refine (Fac.calls z true _ I.out).mono ?_); rintro e w' ⟨rfl, ⟨nd, rfl⟩⟩; refine ⟨_, rfl, ?_⟩) | (go_at_call 72; (with_reducible refine (Fac.calls A true _ L.out).mono ?_); rintro e w' ⟨rfl, ⟨nd, rfl⟩⟩))
   go_ret
   exact ⟨eVl, dRw⟩
  ·replace D := Bool.eq_false_iff.mpr D; subst D
   rw [if_neg nF] at H; obtain rfl := Option.some.inj H
   go_enter Try.func69, Try.ntmps69
   go_wp2_with (first | ((with_reducible refine gate_callee (f := 72) rfl ?_); refine gL_ (some 6) Try.func72 #[.int .i64 z] ?_; (with_reducible refine (Fac.calls z true _ I.out).mono ?_); rintro e w' ⟨rfl, ⟨nd, rfl⟩⟩; refine ⟨_, rfl, ?_⟩) | (go_at_call 72; (with_reducible refine (Fac.calls A false _ L.out).mono ?_); rintro e w' ⟨rfl, ⟨nd, rfl⟩⟩))
   go_ret
   exact ⟨eVl, dRw⟩
 ·replace B := Bool.eq_false_iff.mpr B; subst B
  rw [if_neg nF] at H; obtain rfl := Option.some.inj H
  go_enter Try.func69, Try.ntmps69
  go_wp2_with (first | ((with_reducible refine gate_callee (f := 72) rfl ?_); refine gL_ (some 6) Try.func72 #[.int .i64 z] ?_; (with_reducible refine (Fac.calls z false _ I.out).mono ?_); rintro e w' ⟨rfl, ⟨nd, rfl⟩⟩; refine ⟨_, rfl, ?_⟩))
  go_ret
  exact ⟨eVl, dRw⟩
def Ffc.l0 : Nat → List Int → Int → Option (Bool)
 | 0, _, _ => none
 | k + 1, x0, x3 => if x3 > 0 then (if 0 ≤ x3 then (if x3 < (x0.length : Int) then (if 0 ≤ (wrap64 (x3 - 1)) then (if (wrap64 (x3 - 1)) < (x0.length : Int) then ((Fab.f (rd x0 x3) (rd x0 (wrap64 (x3 - 1)))).bind fun t110 => (if t110 = true then (some false) else (Ffc.l0 k x0 (wrap64 (x3 - 1))))) else (none)) else (none)) else (none)) else (none)) else (some true)
def Ffc.f (k : Nat) (l0 : List Int) : Option (Bool) := Ffc.l0 k l0 (wrap64 ((l0.length : Int) - 1))
theorem Ffc.mono_l : ∀ k, (∀ y0 y1, LeO (Ffc.l0 k y0 y1) (Ffc.l0 (k + 1) y0 y1))
 | 0 => fun _ _ r h => by simp [Ffc.l0] at h
 | k + 1 => by
  have ih0 := Ffc.mono_l k
  ·intro y0 y1
   unfold Ffc.l0
   repeat' first | (with_reducible first | exact ih0 _ _ | exact lA | apply lI | refine lB ?_ fun _ => ?_) | exact lN _ | apply lI | refine lB ?_ fun _ => ?_
theorem Ffc.mono : ∀ a0 k, LeO (Ffc.f k a0) (Ffc.f (k + 1) a0) := by
 intro a0 k; have ih0 := Ffc.mono_l k
 unfold Ffc.f
 repeat' first | (with_reducible first | exact ih0 _ _ | exact lA | apply lI | refine lB ?_ fun _ => ?_) | exact lN _ | apply lI | refine lB ?_ fun _ => ?_
theorem Ffc.calls (k : Nat) (A0 : Option Addr) (c0 : Nat) (A : List Int) (r : Bool) (w : World) (af : Kd.C (Kd.int .i64) w A0 A.length A) (ag : A.length ≤ c0) (h : Ffc.f k A = some r) :
  Calls Try.prog 43 #[.slice A0 A.length c0] w fun e w' => e = .returned (.bool r) ∧ Drawn0 w w' := by
 have R := aM af; have ar := aM ag; clear af ag; rw [Ffc.f] at h; have H := h; clear h; have H' := aM H; clear H
 go_enter Try.func43, Try.ntmps43
 go_wp2
 repeat (go_quiet (fail); try go_wp2)
 go_loopg [3] k (fun kq v3 w' => ∃ (z : Int), v3 = .int .i64 z ∧ Aside0 (Ffc.l0 kq A z = some r) ∧ Aside0 (kq ≤ k) ∧ Drawn0 w w')
 case atStart => exact ⟨(wrap64 ((A.length : Int) - 1)), sI, H', ⟨Nat.le_refl _⟩, dRw⟩
 case round =>
  clear H'; obtain ⟨z, rfl, HA, aX, ⟨m1, rfl⟩⟩ := hrel; cases gk with
  | zero => exact absurd HA.out (by simp [Ffc.l0])
  | succ k1 =>
   have H := HA.out; clear HA; simp only [Ffc.l0] at H
   apply iB H <;> clear H <;> intro U H
   ·have ai := dT U; clear U
    apply iN H; clear H; intro c3 H; have an := dT c3; clear c3
    apply iN H; clear H; intro c4 H; have ao := dT c4; clear c4; obtain ⟨B, J⟩ : ∃ j_ : Int, (wrap64 (z - 1)) = j_ := ⟨_, rfl⟩
    first | rw [J] at H | simp only [J] at H
    have hji5w : (IntKind.i64.wrap (z - 1)) = B := (i64_w _).trans J
    apply iN H; clear H; intro c6 H; have ap := dT c6; clear c6
    apply iN H; clear H; intro c7 H; have aq := dT c7; clear c7; apply bSx H; clear H; intro aj W H
    by_cases c9 : aj = true
    ·subst c9
     rw [if_pos rfl] at H; obtain rfl := Option.some.inj H; obtain ⟨⟨L, O, Y⟩, D, E⟩ := xAt (Kd.at_int R.out) z; cases O; obtain ⟨⟨M, Q, Z⟩, G, I⟩ := xAt (Kd.at_int R.out) (B); obtain rfl := sJJ Q
     go_wp2_with (first | (go_at_call 69; (with_reducible refine (Fab.calls (rd A z) (rd A (B)) true _ W.out).mono ?_); rintro e w' ⟨rfl, ⟨nd, rfl⟩⟩; (try exact dN)))
     repeat (go_quiet (first | (go_at_call 69; (with_reducible refine (Fab.calls (rd A z) (rd A (B)) true _ W.out).mono ?_); rintro e w' ⟨rfl, ⟨nd, rfl⟩⟩; (try exact dN))); try go_wp2_with (first | (go_at_call 69; (with_reducible refine (Fab.calls (rd A z) (rd A (B)) true _ W.out).mono ?_); rintro e w' ⟨rfl, ⟨nd, rfl⟩⟩; (try exact dN))))
     go_ret
     exact ⟨by first | rfl | (simp; done) | (simp only [← J] <;> (first | rfl | simp)) | (simp [*]; done), dRw⟩
    ·replace c9 := Bool.eq_false_iff.mpr c9; subst c9
     rw [if_neg nF] at H; have H' := aM H; clear H; obtain ⟨⟨L, O, Y⟩, D, E⟩ := xAt (Kd.at_int R.out) z; cases O; obtain ⟨⟨M, Q, Z⟩, G, I⟩ := xAt (Kd.at_int R.out) (B); obtain rfl := sJJ Q
     go_wp2_with (first | (go_at_call 69; (with_reducible refine (Fab.calls (rd A z) (rd A (B)) false _ W.out).mono ?_); rintro e w' ⟨rfl, ⟨nd, rfl⟩⟩; (try exact dN)))
     repeat (go_quiet (first | (go_at_call 69; (with_reducible refine (Fab.calls (rd A z) (rd A (B)) false _ W.out).mono ?_); rintro e w' ⟨rfl, ⟨nd, rfl⟩⟩; (try exact dN))); try go_wp2_with (first | (go_at_call 69; (with_reducible refine (Fab.calls (rd A z) (rd A (B)) false _ W.out).mono ?_); rintro e w' ⟨rfl, ⟨nd, rfl⟩⟩; (try exact dN))))
     go_roundg k1
     case measure => have := aX.out; omega
     case rel => exact ⟨(B), (by first | rfl | (simp; done) | (simp only [← J] <;> (first | rfl | simp)) | (simp [*]; done)), H', ⟨by have := aX.out; omega⟩, dRw⟩
   ·have ai := decide_eq_false U; clear U; obtain rfl := Option.some.inj H
    go_wp2
    repeat (go_quiet (fail); try go_wp2)
    go_ret
    exact ⟨eVl, dRw⟩
def Fsc.f (l0_0 : List ByteArray) (l0_1 : List Bool) (l0_2 : List Int) (l0_3 : List (S73)) (a1 : Int) : Option ((List (S73))) := if 0 ≤ a1 then (if a1 < (l0_2.length : Int) then (if 0 ≤ (wrap64 (a1 + 1)) then (if (wrap64 (a1 + 1)) < (l0_2.length : Int) then (if 0 ≤ (rd l0_2 a1) then (if (rd l0_2 a1) ≤ (rd l0_2 (wrap64 (a1 + 1))) then (if (rd l0_2 (wrap64 (a1 + 1))) ≤ (l0_3.length : Int) then (some ((l0_3.take ((rd l0_2 (wrap64 (a1 + 1))) : Int).toNat).drop ((rd l0_2 a1) : Int).toNat)) else (none)) else (none)) else (none)) else (none)) else (none)) else (none)) else (none)
theorem Fsc.calls (ap : Option Addr) (aq : Nat) (ad : List ByteArray) (ar : Option Addr) (au : Nat) (ae : List Bool) (av : Option Addr) (aw : Nat) (z : List Int) (P0_3_ : Nat → Prop) (J : Option Addr) (G : Nat) (B : List (S73)) (E : Int) (r : List (S73)) (w : World) (aN : Kd.C Kd.string w ap ad.length ad) (aP : ad.length ≤ aq) (aQ : Kd.C Kd.bool w ar ae.length ae) (aR : ae.length ≤ au) (aS : Kd.C (Kd.int .i64) w av z.length z) (aT : z.length ≤ aw) (hs0_3 : Kd.V k73 73 w w.heap.size (fun k_ => P0_3_ k_) (.slice J B.length G) B) (h : Fsc.f ad ae z B E = some r) :
  Calls Try.prog 44 #[.agg #[.slice ap ad.length aq, .slice ar ae.length au, .slice av z.length aw, .slice J B.length G], .int .i64 E] w fun e w' => ∃ a6 : Value, e = .returned (a6) ∧ Kd.V k73 73 w' w.heap.size (fun k_ => (P0_3_ k_ ∨ w.heap.size ≤ k_)) a6 r ∧ Below w.heap.size w w' := by
 have hu27 := Try.underlying27; have a8 := aM aN; have a9 := aM aP; clear aN aP; have ba := aM aQ; have bb := aM aR; clear aQ aR; have ag := aM aS; have bc := aM aT; clear aS aT; have O := aM (show Kd.V k73 73 w w.heap.size (fun k_ => (P0_3_ k_ ∨ w.heap.size ≤ k_)) (.slice J B.length G) B from Kd.V_mono hs0_3 (fun k_ hk => .inl hk)); have HB := aM (Below.refl w.heap.size w); rw [Fsc.f] at h; have H := h; clear h
 apply iN H; clear H; intro c3 H; have bf := dT c3; clear c3
 apply iN H; clear H; intro c4 H; have bg := dT c4; clear c4; obtain ⟨D, aI⟩ : ∃ j_ : Int, (wrap64 (E + 1)) = j_ := ⟨_, rfl⟩
 first | rw [aI] at H | simp only [aI] at H
 have hji5w : (IntKind.i64.wrap (E + 1)) = D := (i64_w _).trans aI
 apply iN H; clear H; intro c6 H; have bh := dT c6; clear c6
 apply iN H; clear H; intro c7 H; have bi := dT c7; clear c7
 apply iN H; clear H; intro c8 H; have bj := eq_true c8; have bk := dT c8; clear c8
 apply iN H; clear H; intro c9 H; have bl := eq_true c9; have bm := dT c9; clear c9
 apply iN H; clear H; intro aL H; have bd := eq_true aL; have be := dT aL; clear aL; obtain ⟨I, ao⟩ : ∃ y_ : List (S73), y_ = ((B.take ((rd z (D)) : Int).toNat).drop ((rd z E) : Int).toNat) := ⟨_, rfl⟩
 first | replace H := rI ao H | rw [← ao] at H
 have ah := aM ao; clear ao; obtain rfl := Option.some.inj H
 go_enter Try.func44, Try.ntmps44
 go_wp2_with (first | ((with_reducible refine gate_dst (N := 2) rfl ?_); refine be_ (cs := #[.slice ap ad.length aq, .slice ar ae.length au, .slice av z.length aw, .slice J B.length G]) (t := 27) ?_; intro ai hg a7 aW hb; replace O := aM (Kd.V_below (Kd.V_elderB (vO O.out) ai (Nat.le_of_eq hg.symm)) hb); have aj := aM (aW); have aU := gE hg (bP0 HB); have aJ := gE hg (bP0 HB); replace HB := hS0 HB hb; clear hb aW hg; obtain ⟨aA, aB, aC, aD, aE, aF, aG, aH⟩ := bG4 aj; obtain ⟨⟨ak, ax, Q⟩, Y, Z⟩ := xAt (Kd.at_int ag.out) E; cases ax; replace Q := cX HB Q; obtain ⟨⟨al, ay, R⟩, aa, ab⟩ := xAt (Kd.at_int ag.out) (D); obtain rfl := sJJ ay; replace R := cX HB R; have af : ((rd z (D)) : Int) ≤ ((B.length : Int) : Int) := oT aO; obtain ⟨i013, ac, _, hsz13, _⟩ := info_parts info73; have A : B.length ≤ G := (Kd.V_reads' O.out).2.1; have hC13 : Kd.F k73 _ _ J B.length B := (Kd.V_at (base := w.heap.size) O.out).2.2; have ql13 : ((rd z E) : Int) ≤ ((rd z (D)) : Int) := oT aO; have az : (0 : Int) ≤ ((rd z E) : Int) := oT aO; have hcut13 := cut_mid (P := Try.prog) 25 73 .i64 .i64 Try.underlying25 ac 3 hsz13 J B.length G (rd z E) (rd z (D)) az ql13 af A; have L := Kd.F_mid (lo := ((rd z E) : Int).toNat) (hi := ((rd z (D)) : Int).toNat) (c := G) hC13 (by omega) (by omega) A; obtain ⟨am, U⟩ : ∃ A1, A1 = (if G = ((rd z E) : Int).toNat then J else (J : Option Addr).map (·.add (((rd z E) : Int).toNat * 3))) := ⟨_, rfl⟩; obtain ⟨an, W⟩ : ∃ c1, c1 = G - ((rd z E) : Int).toNat := ⟨_, rfl⟩; have M : I.length = ((rd z (D)) : Int).toNat - ((rd z E) : Int).toNat := (by rw [ah.out, List.length_drop, List.length_take] <;> omega); rw [show ((B).take ((rd z (D)) : Int).toNat).drop ((rd z E) : Int).toNat = I from ah.out.symm] at L; replace L : Kd.F k73 _ _ am I.length I := (by rw [U]; exact L); rw [← M, ← U, ← W] at hcut13; have aK := aM (show Kd.V k73 73 _ w.heap.size _ (.slice am I.length an) I from Kd.V_mk (by rw [M, W]; exact Nat.sub_le_sub_right (Nat.le_trans (by omega) A) _) L); have aV := aM (show I.length ≤ an from by rw [M, W]; exact Nat.sub_le_sub_right (Nat.le_trans (by omega) A) _); clear L hC13 A ac hsz13 W; have KY13 := aM M; have KA13 := aM U; clear M U; replace af := eq_true af))
 repeat (go_quiet (first | ((with_reducible refine gate_dst (N := 2) rfl ?_); refine be_ (cs := #[.slice ap ad.length aq, .slice ar ae.length au, .slice av z.length aw, .slice J B.length G]) (t := 27) ?_; intro ai hg a7 aW hb; replace O := aM (Kd.V_below (Kd.V_elderB (vO O.out) ai (Nat.le_of_eq hg.symm)) hb); have aj := aM (aW); have aU := gE hg (bP0 HB); have aJ := gE hg (bP0 HB); replace HB := hS0 HB hb; clear hb aW hg; obtain ⟨aA, aB, aC, aD, aE, aF, aG, aH⟩ := bG4 aj; obtain ⟨⟨ak, ax, Q⟩, Y, Z⟩ := xAt (Kd.at_int ag.out) E; cases ax; replace Q := cX HB Q; obtain ⟨⟨al, ay, R⟩, aa, ab⟩ := xAt (Kd.at_int ag.out) (D); obtain rfl := sJJ ay; replace R := cX HB R; have af : ((rd z (D)) : Int) ≤ ((B.length : Int) : Int) := oT aO; obtain ⟨i013, ac, _, hsz13, _⟩ := info_parts info73; have A : B.length ≤ G := (Kd.V_reads' O.out).2.1; have hC13 : Kd.F k73 _ _ J B.length B := (Kd.V_at (base := w.heap.size) O.out).2.2; have ql13 : ((rd z E) : Int) ≤ ((rd z (D)) : Int) := oT aO; have az : (0 : Int) ≤ ((rd z E) : Int) := oT aO; have hcut13 := cut_mid (P := Try.prog) 25 73 .i64 .i64 Try.underlying25 ac 3 hsz13 J B.length G (rd z E) (rd z (D)) az ql13 af A; have L := Kd.F_mid (lo := ((rd z E) : Int).toNat) (hi := ((rd z (D)) : Int).toNat) (c := G) hC13 (by omega) (by omega) A; obtain ⟨am, U⟩ : ∃ A1, A1 = (if G = ((rd z E) : Int).toNat then J else (J : Option Addr).map (·.add (((rd z E) : Int).toNat * 3))) := ⟨_, rfl⟩; obtain ⟨an, W⟩ : ∃ c1, c1 = G - ((rd z E) : Int).toNat := ⟨_, rfl⟩; have M : I.length = ((rd z (D)) : Int).toNat - ((rd z E) : Int).toNat := (by rw [ah.out, List.length_drop, List.length_take] <;> omega); rw [show ((B).take ((rd z (D)) : Int).toNat).drop ((rd z E) : Int).toNat = I from ah.out.symm] at L; replace L : Kd.F k73 _ _ am I.length I := (by rw [U]; exact L); rw [← M, ← U, ← W] at hcut13; have aK := aM (show Kd.V k73 73 _ w.heap.size _ (.slice am I.length an) I from Kd.V_mk (by rw [M, W]; exact Nat.sub_le_sub_right (Nat.le_trans (by omega) A) _) L); have aV := aM (show I.length ≤ an from by rw [M, W]; exact Nat.sub_le_sub_right (Nat.le_trans (by omega) A) _); clear L hC13 A ac hsz13 W; have KY13 := aM M; have KA13 := aM U; clear M U; replace af := eq_true af)); try go_wp2_with (first | ((with_reducible refine gate_dst (N := 2) rfl ?_); refine be_ (cs := #[.slice ap ad.length aq, .slice ar ae.length au, .slice av z.length aw, .slice J B.length G]) (t := 27) ?_; intro ai hg a7 aW hb; replace O := aM (Kd.V_below (Kd.V_elderB (vO O.out) ai (Nat.le_of_eq hg.symm)) hb); have aj := aM (aW); have aU := gE hg (bP0 HB); have aJ := gE hg (bP0 HB); replace HB := hS0 HB hb; clear hb aW hg; obtain ⟨aA, aB, aC, aD, aE, aF, aG, aH⟩ := bG4 aj; obtain ⟨⟨ak, ax, Q⟩, Y, Z⟩ := xAt (Kd.at_int ag.out) E; cases ax; replace Q := cX HB Q; obtain ⟨⟨al, ay, R⟩, aa, ab⟩ := xAt (Kd.at_int ag.out) (D); obtain rfl := sJJ ay; replace R := cX HB R; have af : ((rd z (D)) : Int) ≤ ((B.length : Int) : Int) := oT aO; obtain ⟨i013, ac, _, hsz13, _⟩ := info_parts info73; have A : B.length ≤ G := (Kd.V_reads' O.out).2.1; have hC13 : Kd.F k73 _ _ J B.length B := (Kd.V_at (base := w.heap.size) O.out).2.2; have ql13 : ((rd z E) : Int) ≤ ((rd z (D)) : Int) := oT aO; have az : (0 : Int) ≤ ((rd z E) : Int) := oT aO; have hcut13 := cut_mid (P := Try.prog) 25 73 .i64 .i64 Try.underlying25 ac 3 hsz13 J B.length G (rd z E) (rd z (D)) az ql13 af A; have L := Kd.F_mid (lo := ((rd z E) : Int).toNat) (hi := ((rd z (D)) : Int).toNat) (c := G) hC13 (by omega) (by omega) A; obtain ⟨am, U⟩ : ∃ A1, A1 = (if G = ((rd z E) : Int).toNat then J else (J : Option Addr).map (·.add (((rd z E) : Int).toNat * 3))) := ⟨_, rfl⟩; obtain ⟨an, W⟩ : ∃ c1, c1 = G - ((rd z E) : Int).toNat := ⟨_, rfl⟩; have M : I.length = ((rd z (D)) : Int).toNat - ((rd z E) : Int).toNat := (by rw [ah.out, List.length_drop, List.length_take] <;> omega); rw [show ((B).take ((rd z (D)) : Int).toNat).drop ((rd z E) : Int).toNat = I from ah.out.symm] at L; replace L : Kd.F k73 _ _ am I.length I := (by rw [U]; exact L); rw [← M, ← U, ← W] at hcut13; have aK := aM (show Kd.V k73 73 _ w.heap.size _ (.slice am I.length an) I from Kd.V_mk (by rw [M, W]; exact Nat.sub_le_sub_right (Nat.le_trans (by omega) A) _) L); have aV := aM (show I.length ≤ an from by rw [M, W]; exact Nat.sub_le_sub_right (Nat.le_trans (by omega) A) _); clear L hC13 A ac hsz13 W; have KY13 := aM M; have KA13 := aM U; clear M U; replace af := eq_true af)))
 go_ret
 exact ⟨_, by first | rfl | (simp [errW_none, errW_some] <;> rfl) | (simp only [← aI]; first | rfl | (simp [errW_none, errW_some] <;> rfl)) | (simp [*, errW_none, errW_some] <;> rfl), by (with_reducible repeat (first | apply Kd.V_alloc | apply Kd.V_drewN | apply Kd.V_drew)); exact Kd.V_mono aK.out (fun _ hk => hk.1), bS1 HB.out aJ.out⟩
def Fda.l0 : Nat → Int → List (S73) → Int → Int → Option (Int × Bool)
 | 0, _, _, _, _ => none
 | k + 1, x1, x8, x9, x10 => if x10 < x9 then (if 0 ≤ x10 then (if x10 < (x8.length : Int) then (if (Go.bits .and .i64 x1 ((rd_T73 x8 x10).f0)) = ((rd_T73 x8 x10).f1) then (some ((rd_T73 x8 x10).f2, true)) else (Fda.l0 k x1 x8 x9 (wrap64 (x10 + 1)))) else (none)) else (none)) else (some (0, false))
def Fda.f (k : Nat) (l0 : List (S73)) (a1 : Int) : Option (Int × Bool) := Fda.l0 k a1 l0 (l0.length : Int) 0
theorem Fda.mono_l : ∀ k, (∀ y0 y1 y2 y3, LeO (Fda.l0 k y0 y1 y2 y3) (Fda.l0 (k + 1) y0 y1 y2 y3))
 | 0 => fun _ _ _ _ r h => by simp [Fda.l0] at h
 | k + 1 => by
  have ih0 := Fda.mono_l k
  ·intro y0 y1 y2 y3
   unfold Fda.l0
   repeat' first | (with_reducible first | exact ih0 _ _ _ _ | exact lA | apply lI | refine lB ?_ fun _ => ?_) | exact lN _ | apply lI | refine lB ?_ fun _ => ?_
theorem Fda.mono : ∀ a0 a1 k, LeO (Fda.f k a0 a1) (Fda.f (k + 1) a0 a1) := by
 intro a0 a1 k; have ih0 := Fda.mono_l k
 unfold Fda.f
 repeat' first | (with_reducible first | exact ih0 _ _ _ _ | exact lA | apply lI | refine lB ?_ fun _ => ?_) | exact lN _ | apply lI | refine lB ?_ fun _ => ?_
theorem Fda.calls (k : Nat) (A0 : Option Addr) (c0 : Nat) (G : List (S73)) (P : Int) (r1 : Int) (r2 : Bool) (w : World) (Y : Kd.C k73 w A0 G.length G) (Z : G.length ≤ c0) (h : Fda.f k G P = some (r1, r2)) :
  Calls Try.prog 71 #[.slice A0 G.length c0, .int .i64 P] w fun e w' => e = .returned (.tuple #[.int .i64 r1, .bool r2]) ∧ Below w.heap.size w w' := by
 have hu73 := Try.underlying73; have aa := aM Y; have az := aM Z; clear Y Z; have HB := aM (Below.refl w.heap.size w); rw [Fda.f] at h; have H := h; clear h; have H' := aM H; clear H
 go_enter Try.func71, Try.ntmps71
 go_wp2
 go_loopg [10] k (fun kq ao w' => ∃ (z : Int), ao = .int .i64 z ∧ Aside0 (Fda.l0 kq P G (G.length : Int) z = some (r1, r2)) ∧ Aside0 (kq ≤ k) ∧ BA w w')
 case atStart => exact ⟨(0), sI, H', ⟨Nat.le_refl _⟩, bT0 HB⟩
 case round =>
  clear H'
  obtain ⟨z, rfl, HA, aC, HB⟩ := hrel; cases gk with
  | zero => exact absurd HA.out (by simp [Fda.l0])
  | succ k1 =>
   have H := HA.out; clear HA; simp only [Fda.l0] at H
   apply iB H <;> clear H <;> intro M H
   ·have ad := dT M; clear M
    apply iN H; clear H; intro Q H; have ax := dT Q; clear Q
    apply iN H; clear H; intro R H; have ay := dT R; clear R
    apply iB H <;> clear H <;> intro O H
    ·obtain ⟨ae, af⟩ := bq O; clear O; obtain ⟨rfl, rfl⟩ := pE2 H; obtain ⟨⟨U, L, A, B, D⟩, E, F⟩ := xAt (at_T73 aa.out) z; cases L; replace A := cX HB A; replace B := cX HB B; replace D := cX HB D
     go_wp2_with (first | ((with_reducible refine gate_dst (N := 7) rfl ?_); refine be_ (cs := #[.int .i64 0, .int .i64 0, .int .i64 0]) (t := 73) ?_; intro V hg w7 aA hb; have I := aM (aA); have W := gE hg (bP0 HB); have J := gE hg (bP0 HB); replace HB := hS0 HB hb; clear hb aA hg; obtain ⟨ap, aq, ar, au, av, aw⟩ := bG3 I))
     go_ret2
     exact ⟨eW, bS1 HB.out J.out⟩
    ·obtain ⟨ae, af⟩ := bn O; have H' := aM H; clear H; obtain ⟨⟨U, L, A, B, D⟩, E, F⟩ := xAt (at_T73 aa.out) z; cases L; replace A := cX HB A; replace B := cX HB B; replace D := cX HB D
     go_wp2_with (first | ((with_reducible refine gate_dst (N := 7) rfl ?_); refine be_ (cs := #[.int .i64 0, .int .i64 0, .int .i64 0]) (t := 73) ?_; intro V hg w9 aA hb; have I := aM (aA); have W := gE hg (bP0 HB); have J := gE hg (bP0 HB); replace HB := hS0 HB hb; clear hb aA hg; obtain ⟨ag, ah, ai, aj, ak, al⟩ := bG3 I))
     go_roundg k1
     case measure => have := aC.out; omega
     case rel => exact ⟨(wrap64 (z + 1)), sI, H', ⟨by have := aC.out; omega⟩, bT1 HB J⟩
   ·have ad := decide_eq_false M; clear M; obtain ⟨rfl, rfl⟩ := pE2 H
    go_wp2
    go_ret2
    exact ⟨eW, bO HB.out⟩
def Fga.l0 : Nat → List Int → Int → Int → Option (Int)
 | 0, _, _, _ => none
 | k + 1, x0, x3, x4 => if x4 < (x0.length : Int) then (if 0 ≤ x4 then (Fga.l0 k x0 (mn x3 (rd x0 x4)) (wrap64 (x4 + 1))) else (none)) else (some x3)
def Fga.f (k : Nat) (l0 : List Int) : Option (Int) := if (l0.length : Int) < 1 then (none) else (if 0 < (l0.length : Int) then (Fga.l0 k l0 (rd l0 0) 1) else (none))
theorem Fga.mono_l : ∀ k, (∀ y0 y1 y2, LeO (Fga.l0 k y0 y1 y2) (Fga.l0 (k + 1) y0 y1 y2))
 | 0 => fun _ _ _ r h => by simp [Fga.l0] at h
 | k + 1 => by
  have ih0 := Fga.mono_l k
  ·intro y0 y1 y2
   unfold Fga.l0
   repeat' first | (with_reducible first | exact ih0 _ _ _ | exact lA | apply lI | refine lB ?_ fun _ => ?_) | exact lN _ | apply lI | refine lB ?_ fun _ => ?_
theorem Fga.mono : ∀ a0 k, LeO (Fga.f k a0) (Fga.f (k + 1) a0) := by
 intro a0 k; have ih0 := Fga.mono_l k
 unfold Fga.f
 repeat' first | (with_reducible first | exact ih0 _ _ _ | exact lA | apply lI | refine lB ?_ fun _ => ?_) | exact lN _ | apply lI | refine lB ?_ fun _ => ?_
theorem Fga.calls (k : Nat) (A0 : Option Addr) (c0 : Nat) (A : List Int) (r : Int) (w : World) (V : Kd.C (Kd.int .i64) w A0 A.length A) (W : A.length ≤ c0) (h : Fga.f k A = some r) :
  Calls Try.prog 108 #[.slice A0 A.length c0] w fun e w' => e = .returned (.int .i64 r) ∧ Below w.heap.size w w' := by
 have Y := aM V; have an := aM W; clear V W; have HB := aM (Below.refl w.heap.size w); rw [Fga.f] at h; have H := h; clear h
 apply iB H <;> clear H <;> intro O H
 ·exact absurd H (by simp)
 ·have ag := decide_eq_false O; have ah : decide (A.length < 1) = false := decide_eq_false (by omega); clear O
  apply iN H; clear H; intro P H; have ai := dT P; have aj : decide (0 < A.length) = true := dT (by omega); clear P; have H' := aM H; clear H; have G : 0 ≤ (0 : Int) := (by omega); have I : 0 < (A.length : Int) := oT aO; obtain ⟨Q, aa, D⟩ := Kd.at_int Y.out 0 G I; cases aa; have qi121 : (0 < A.length) = True := eq_true (by omega)
  (try rw [show ((0 : Int)).toNat = 0 from rfl] at D)
  (try rw [Addr.add_zero'] at D)
  replace G := eq_true G; replace I := eq_true I
  go_enter Try.func108, Try.ntmps108
  go_wp2
  go_loopg [3, 4] k (fun kq v3 v4 w' => ∃ (B : Int) (z : Int), v3 = .int .i64 B ∧ v4 = .int .i64 z ∧ Aside0 (Fga.l0 kq A B z = some r) ∧ Aside0 (kq ≤ k) ∧ BA w w')
  case atStart => exact ⟨(rd A 0), (1), sI, sI, H', ⟨Nat.le_refl _⟩, bT0 HB⟩
  case round =>
   clear H'
   obtain ⟨B, z, rfl, rfl, HA, aB, HB⟩ := hrel; cases gk with
   | zero => exact absurd HA.out (by simp [Fga.l0])
   | succ k1 =>
    have H := HA.out; clear HA; simp only [Fga.l0] at H
    apply iB H <;> clear H <;> intro M H
    ·have ab := dT M; clear M
     apply iN H; clear H; intro R H; have am := dT R; clear R; obtain ⟨Z, F⟩ : ∃ j_ : Int, (mn B (rd A z)) = j_ := ⟨_, rfl⟩
     first | rw [F] at H | simp only [F] at H
     have af : (if (rd A z) < B then (rd A z) else B) = Z := F; have H' := aM H; clear H; obtain ⟨⟨U, ac, E⟩, J, L⟩ := xAt (Kd.at_int Y.out) z; obtain rfl := sJJ ac; replace E := cX HB E
     go_wp2
     go_roundg k1
     case measure => have := aB.out; omega
     case rel => exact ⟨(Z), (wrap64 (z + 1)), (by first | rfl | (simp; done) | (simp only [← F] <;> (first | rfl | simp)) | (simp [*]; done)), sI, H', ⟨by have := aB.out; omega⟩, bT0 HB⟩
    ·have ab := decide_eq_false M; clear M; obtain rfl := Option.some.inj H
     go_wp2
     go_ret
     exact ⟨eW, bO HB.out⟩
def Fea.f (k : Nat) (l0 : List Int) : Option (Bool) := if (l0.length : Int) ≥ 1 then (if (l0.length : Int) ≤ 64 then (if (Go.bits .and .i64 (l0.length : Int) (wrap64 ((l0.length : Int) - 1))) = 0 then ((Fga.f k l0).bind fun t123 => (some (decide (t123 ≥ 0)))) else (some false)) else (some false)) else (some false)
theorem Fea.mono : ∀ a0 k, LeO (Fea.f k a0) (Fea.f (k + 1) a0) := by
 intro a0 k
 unfold Fea.f
 repeat' first | (with_reducible first | exact Fga.mono _ _ | exact lA | apply lI | refine lB ?_ fun _ => ?_) | exact lN _ | apply lI | refine lB ?_ fun _ => ?_
theorem Fea.calls (k : Nat) (R : Option Addr) (U : Nat) (z : List Int) (r : Bool) (w : World) (E : Kd.C (Kd.int .i64) w R z.length z) (F : z.length ≤ U) (h : Fea.f k z = some r) :
  Calls Try.prog 92 #[.slice R z.length U] w fun e w' => e = .returned (.bool r) ∧ Below w.heap.size w w' := by
 have V := aM E; have W := aM F; clear E F; have HB := aM (Below.refl w.heap.size w); rw [Fea.f] at h; have H := h; clear h
 apply iB H <;> clear H <;> intro A H
 ·have I := dT A; have J : decide (1 ≤ z.length) = true := dT (by omega); clear A
  apply iB H <;> clear H <;> intro B H
  ·have L := dT B; have M : decide (z.length ≤ 64) = true := dT (by omega); clear B
   apply iB H <;> clear H <;> intro D H
   ·obtain ⟨O, P⟩ := bq D; clear D; apply bSx H; clear H; intro Q Y H; obtain rfl := Option.some.inj H
    go_enter Try.func92, Try.ntmps92
    go_wp2_with (first | (go_at_call 108; (with_reducible refine (Fga.calls k _ _ z Q _ ?s1 W.out Y.out).mono ?_); (case s1 => exact cO V.out); rintro e Z ⟨rfl, hb⟩; replace HB := hS0 HB hb))
    go_ret
    exact ⟨eW, bO HB.out⟩
   ·obtain ⟨O, P⟩ := bn D; obtain rfl := Option.some.inj H
    go_enter Try.func92, Try.ntmps92
    go_wp2
    go_ret
    exact ⟨eW, bO HB.out⟩
  ·have L := decide_eq_false B; have M : decide (z.length ≤ 64) = false := decide_eq_false (by omega); clear B; obtain rfl := Option.some.inj H
   go_enter Try.func92, Try.ntmps92
   go_wp2
   go_ret
   exact ⟨eW, bO HB.out⟩
 ·have I := decide_eq_false A; have J : decide (1 ≤ z.length) = false := decide_eq_false (by omega); clear A; obtain rfl := Option.some.inj H
  go_enter Try.func92, Try.ntmps92
  go_wp2
  go_ret
  exact ⟨eW, bO HB.out⟩
def Ffa.l0 : Nat → List Int → List Int → Int → Int → Option (Bool)
 | 0, _, _, _, _ => none
 | k + 1, x0, x1, x12, x13 => if x13 < x12 then (if 0 ≤ x13 then (if x13 < (x0.length : Int) then (if x13 < (x1.length : Int) then (if (rd x0 x13) = (rd x1 x13) then (Ffa.l0 k x0 x1 x12 (wrap64 (x13 + 1))) else (some false)) else (none)) else (none)) else (none)) else (some true)
def Ffa.f (k : Nat) (l0 : List Int) (l1 : List Int) : Option (Bool) := if (l0.length : Int) = (l1.length : Int) then (Ffa.l0 k l0 l1 (l0.length : Int) 0) else (some false)
theorem Ffa.mono_l : ∀ k, (∀ y0 y1 y2 y3, LeO (Ffa.l0 k y0 y1 y2 y3) (Ffa.l0 (k + 1) y0 y1 y2 y3))
 | 0 => fun _ _ _ _ r h => by simp [Ffa.l0] at h
 | k + 1 => by
  have ih0 := Ffa.mono_l k
  ·intro y0 y1 y2 y3
   unfold Ffa.l0
   repeat' first | (with_reducible first | exact ih0 _ _ _ _ | exact lA | apply lI | refine lB ?_ fun _ => ?_) | exact lN _ | apply lI | refine lB ?_ fun _ => ?_
theorem Ffa.mono : ∀ a0 a1 k, LeO (Ffa.f k a0 a1) (Ffa.f (k + 1) a0 a1) := by
 intro a0 a1 k; have ih0 := Ffa.mono_l k
 unfold Ffa.f
 repeat' first | (with_reducible first | exact ih0 _ _ _ _ | exact lA | apply lI | refine lB ?_ fun _ => ?_) | exact lN _ | apply lI | refine lB ?_ fun _ => ?_
theorem Ffa.calls (k : Nat) (A0 : Option Addr) (c0 : Nat) (A : List Int) (A1 : Option Addr) (c1 : Nat) (G : List Int) (r : Bool) (w : World) (Y : Kd.C (Kd.int .i64) w A0 A.length A) (Z : A.length ≤ c0) (aa : Kd.C (Kd.int .i64) w A1 G.length G) (ab : G.length ≤ c1) (h : Ffa.f k A G = some r) :
  Calls Try.prog 109 #[.slice A0 A.length c0, .slice A1 G.length c1] w fun e w' => e = .returned (.bool r) ∧ Drawn0 w w' := by
 have ac := aM Y; have au := aM Z; clear Y Z; have ad := aM aa; have av := aM ab; clear aa ab; rw [Ffa.f] at h; have H := h; clear h
 apply iB H <;> clear H <;> intro I H
 ·obtain ⟨ae, af⟩ := bq I
  have ag : (A.length == G.length) = true := by first | simpa using I | (simp at I ⊢; omega)
  clear I; have H' := aM H; clear H
  go_enter Try.func109, Try.ntmps109
  go_wp2
  repeat (go_quiet (fail); try go_wp2)
  go_loopg [13] k (fun kq ao w' => ∃ (z : Int), ao = .int .i64 z ∧ Aside0 (Ffa.l0 kq A G (A.length : Int) z = some r) ∧ Aside0 (kq ≤ k) ∧ Drawn0 w w')
  case atStart => exact ⟨(0), sI, H', ⟨Nat.le_refl _⟩, dRw⟩
  case round =>
   clear H'
   obtain ⟨z, rfl, HA, al, ⟨m1, rfl⟩⟩ := hrel; cases gk with
   | zero => exact absurd HA.out (by simp [Ffa.l0])
   | succ k1 =>
    have H := HA.out; clear HA; simp only [Ffa.l0] at H
    apply iB H <;> clear H <;> intro M H
    ·have ah := dT M; clear M
     apply iN H; clear H; intro Q H; have ap := dT Q; clear Q
     apply iN H; clear H; intro R H; have aq := dT R; clear R
     apply iN H; clear H; intro U H; have ar := dT U; clear U
     apply iB H <;> clear H <;> intro P H
     ·obtain ⟨ai, aj⟩ := bq P; clear P; have H' := aM H; clear H; obtain ⟨⟨V, J, N⟩, B, D⟩ := xAt (Kd.at_int ac.out) z; cases J; obtain ⟨⟨W, L, O⟩, E, F⟩ := xAt (Kd.at_int ad.out) z; cases L
      go_wp2
      repeat (go_quiet (fail); try go_wp2)
      go_roundg k1
      case measure => have := al.out; omega
      case rel => exact ⟨(wrap64 (z + 1)), sI, H', ⟨by have := al.out; omega⟩, dRw⟩
     ·obtain ⟨ai, aj⟩ := bn P; obtain rfl := Option.some.inj H; obtain ⟨⟨V, J, N⟩, B, D⟩ := xAt (Kd.at_int ac.out) z; cases J; obtain ⟨⟨W, L, O⟩, E, F⟩ := xAt (Kd.at_int ad.out) z; cases L
      go_wp2
      repeat (go_quiet (fail); try go_wp2)
      go_ret
      exact ⟨eVl, dRw⟩
    ·have ah := decide_eq_false M; clear M; obtain rfl := Option.some.inj H
     go_wp2
     repeat (go_quiet (fail); try go_wp2)
     go_ret
     exact ⟨eVl, dRw⟩
 ·obtain ⟨ae, af⟩ := bn I
  have ag : (A.length == G.length) = false := by first | simpa using I | (simp at I ⊢; omega)
  obtain rfl := Option.some.inj H
  go_enter Try.func109, Try.ntmps109
  go_wp2
  repeat (go_quiet (fail); try go_wp2)
  go_ret
  exact ⟨eVl, dRw⟩
-- NOT PRINTED: function 93 (row_leaves)
-- NOT PRINTED: function 94 (row_Pack_1)
/-- The variable 'cubes' of a call of Pack: block g; what it holds is the call's own. -/
structure Fdb.Inv (w0 W : World) (g : Nat) (xs : List S73) : Prop where
 ge : w0.heap.size ≤ g
 cell : ∃ v, W.heap[g]? = some (.cells #[v] 25 (0, 0)) ∧ Kd.R k73 73 W w0.heap.size (fun _ => True) v xs
 below : Below w0.heap.size w0 W
theorem Fdb.leaf (w0 W : World) (g : Nat) (xs : List S73) (m b t : Int) (h : Fdb.Inv w0 W g xs) (hl : xs.length ≤ 100000) :
  Calls Try.prog 94 #[.agg #[.int .i64 m, .int .i64 b, .int .i64 t], .pointer (some ⟨g, 0, none⟩)] W fun e w' => e = .returned (.tuple #[]) ∧ Fdb.Inv w0 w' g (xs ++ [⟨m, b, t⟩]) := by
 obtain ⟨hge, ⟨v, hc, hr⟩, hb⟩ := h; have HC := Aside0.mk hc; have HR := Aside0.mk hr; have HB := Aside0.mk hb; have HL := Aside0.mk hl; have hcell : W.cell? ⟨g, 0, none⟩ = some v := (blk_cell hc 0).trans rfl
 have hca : ∀ o : Obj, (W.alloc o).cell? ⟨g, 0, none⟩ = some v := fun o => pw_cell_below (below_alloc (Below.refl W.heap.size W) o) hcell
 have hcb : ∀ o u : Obj, ((W.alloc o).alloc u).cell? ⟨g, 0, none⟩ = some v := fun o u => pw_cell_below (below_alloc (Below.refl _ _) u) (hca o)
 clear hc hr hb hcell hl
 go_enter Try.func94, Try.ntmps94
 go_wp2_with ((with_reducible refine gate_builtin (b := .append) (xs := #[.tmp 3, .tmp 5]) rfl ?_); at_builtin; refine Kd.R_append k73 (w0 := w0) w0.heap.size rfl (.tmp 3) (.tmp 5) 25 73 (.agg #[(.int .i64 0), (.int .i64 0), (.int .i64 0)]) 24 rfl Try.underlying25 info73 rfl (by decide) (by omega) v xs ⟨m, b, t⟩ [.int .i64 m, .int .i64 b, .int .i64 t] (fun _ => True) (fun _ => False) rfl ?aX ?aP (fun _ hk => hk.elim) ?aF ?aO ?aB ?aS ?aL ?_; (case aX => (show Value.slice (some ⟨W.heap.size + 1, 0, none⟩) 1 1 = _; simp)); (case aP => exact k73_mkM _ _ _ _); (case aB => exact below_alloc HB.out _); (case aF => exact (fun _ _ => trivial)); (case aO => exact Kd.R_alloc HR.out _); (case aS => exact (below_size (below_alloc HB.out _))); (case aL => have := HL.out; omega); intro v1 w1 ho hb hg hat; have hc0 := ((below_alloc (Below.refl W.heap.size W) (.cells #[.int .i64 m, .int .i64 b, .int .i64 t] 73)).block g (blk_lt HC.out)).trans HC.out; have hc1 := blk_grown hc0 hg (Kd.R_ne HR.out HC.out (by decide)); obtain ⟨A1, c1, e1⟩ := Kd.R_slice ho; subst e1; have H1 := Aside0.mk hc1; have H2 := Aside0.mk ho; have H3 := Aside0.mk hb; have hf1 := blk_frozen hc1 0; have hx1 : w1.cell? ⟨g, 0, none⟩ = some v := (blk_cell hc1 0).trans rfl; clear hc0 hc1 ho hb hg hat)
 go_end0
 have q := H2.out
 have e : (xs ++ [(⟨m, b, t⟩ : S73)]).length = xs.length + 1 := by simp
 rw [e] at q; exact ⟨rfl, hge, ⟨_, blk_set H1.out 0 _, Kd.R_mono (rF g 0 (Kd.R_far1 q rfl (Kd.R_ne q H1.out (by decide))) (fun k hk => hk.2) _) (fun _ _ => trivial)⟩, below_set H3.out hge⟩
/-- What 'leaves' hands out. -/
def Fdb.leaves : Nat → List Int → Int → Int → Option (List S73)
 | 0, _, _, _ => none
 | k + 1, l, m, b =>
  if l.length / 2 = 0 then (if 0 < l.length then some [⟨m, b, rd l 0⟩] else none)
  else (Ffa.f k (l.take (l.length / 2)) (l.drop (l.length / 2))).bind fun t =>
   if t = true then Fdb.leaves k (l.take (l.length / 2)) m b
   else (Fdb.leaves k (l.take (l.length / 2)) (Go.bits .or .i64 m ((l.length / 2 : Nat) : Int)) b).bind fun x =>
    (Fdb.leaves k (l.drop (l.length / 2)) (Go.bits .or .i64 m ((l.length / 2 : Nat) : Int)) (Go.bits .or .i64 b ((l.length / 2 : Nat) : Int))).bind fun y => some (x ++ y)
theorem Fdb.Inv.drewN {w0 W : World} {g : Nat} {xs : List S73} (h : Fdb.Inv w0 W g xs) (n : Nat) : Fdb.Inv w0 (W.drewN n) g xs := by
 obtain ⟨v, hc, hr⟩ := h.cell; exact ⟨h.ge, ⟨v, hc, Kd.R_drewN hr n⟩, pw_below_drewN h.below n⟩
theorem Fdb.Inv.drew {w0 W : World} {g : Nat} {xs : List S73} (h : Fdb.Inv w0 W g xs) : Fdb.Inv w0 W.drew g xs := by
 obtain ⟨v, hc, hr⟩ := h.cell; exact ⟨h.ge, ⟨v, hc, Kd.R_drew hr⟩, below_drew1 h.below⟩
theorem Fdb.leaves_calls (B : World) (g : Nat) : ∀ (k : Nat) (A : Option Addr) (z : Nat) (l : List Int) (m b : Int) (r xs : List S73) (W : World),
  Kd.C (Kd.int .i64) B A l.length l → l.length ≤ z → Fdb.leaves k l m b = some r → Fdb.Inv B W g xs → xs.length + r.length ≤ 100000 →
  Calls Try.prog 93 #[.slice A l.length z, .int .i64 m, .int .i64 b, .func (.func 94) #[] #[.pointer (some ⟨g, 0, none⟩)]] W fun e w' => e = .returned (.tuple #[]) ∧ Fdb.Inv B w' g (xs ++ r) := by
 intro k
 induction k with
 | zero => intro A z l m b r xs W _ _ h; cases h
 | succ k ih =>
  intro A z l m b r xs W hC hc h hI hx; rw [Fdb.leaves] at h; have hlen := hC.2.1
  have hdiv : Int.tdiv (l.length : Int) 2 = ((l.length / 2 : Nat) : Int) := by rw [Int.tdiv_eq_ediv_of_nonneg (by omega)]; omega
  by_cases F : l.length / 2 = 0
  ·rw [if_pos F] at h
   by_cases Q : 0 < l.length
   ·rw [if_pos Q] at h; obtain rfl := Option.some.inj h; obtain ⟨ad, rfl, G⟩ := Kd.at_int hC 0 (by omega) (by omega); rw [F] at hdiv; have D := pw_cell_below hI.below G; rw [show ((0 : Int)).toNat = 0 from rfl, Addr.add_zero'] at D; have HI := aM hI; have HX := aM hx; clear hI hx G h hC
    go_enter Try.func93, Try.ntmps93
    go_wp2_with (go_at_call 94; (with_reducible refine (Fdb.leaf B _ g xs m b _ HI.out (by have := HX.out; omega)).mono ?_); rintro e U ⟨rfl, hi⟩; have H1 := aM hi; clear hi)
    go_end0
    exact ⟨rfl, H1.out⟩
   ·rw [if_neg Q] at h; cases h
  ·rw [if_neg F] at h; replace h := Option.bind_eq_some_iff.mp h; obtain ⟨t, hE, h⟩ := h; obtain ⟨H, hH⟩ : ∃ H, H = l.length / 2 := ⟨_, rfl⟩; rw [← hH] at h hE hdiv F
   have hH1 : 0 < H := by omega
   have hH2 : H ≤ l.length := by omega
   have hT : (l.take H).length = H := by rw [List.length_take]; omega
   have hF : (l.drop H).length = l.length - H := List.length_drop; obtain ⟨i0, E, _, hsz, _⟩ := info_parts info3; have hcut1 := cut_to (P := Try.prog) 24 3 .i64 Try.underlying24 E A l.length z (H : Int) (by omega) (by omega) hc; have hcut2 := cut_from (P := Try.prog) 24 3 .i64 Try.underlying24 E 1 hsz A l.length z (H : Int) (by omega) (by omega); rw [Int.toNat_natCast] at hcut1 hcut2; have hCT := Kd.C_take hC hH2; have hCF := Kd.C_drop hC hH2 hc
   change Kd.C (Kd.int .i64) B (if z = H then A else A.map (·.add (H * 1))) (l.drop H).length (l.drop H) at hCF
   obtain ⟨AF, hAF⟩ : ∃ AF, AF = (if z = H then A else A.map (·.add (H * 1))) := ⟨_, rfl⟩; rw [← hAF] at hcut2 hCF
   have HQ : Aside0 (∀ W' : World, Below B.heap.size B W' → Calls Try.prog 109 #[.slice A H z, .slice AF (l.length - H) (z - H)] W' fun e w' => e = .returned (.bool t) ∧ Drawn0 W' w') := ⟨fun W' hW' => by
    have q := Ffa.calls k A z (l.take H) AF (z - H) (l.drop H) t W' (Kd.C_below hCT hW') (by omega) (Kd.C_below hCF hW') (by omega) hE; rw [hT, hF] at q
    exact q⟩
   have I : Aside0 (∀ (m' b' : Int) (r' xs' : List S73) (W' : World), Fdb.leaves k (l.take H) m' b' = some r' → Fdb.Inv B W' g xs' → xs'.length + r'.length ≤ 100000 → Calls Try.prog 93 #[.slice A H z, .int .i64 m', .int .i64 b', .func (.func 94) #[] #[.pointer (some ⟨g, 0, none⟩)]] W' fun e w' => e = .returned (.tuple #[]) ∧ Fdb.Inv B w' g (xs' ++ r')) := ⟨fun m' b' r' xs' W' L M O => by
    have q := ih A z (l.take H) m' b' r' xs' W' hCT (by omega) L M O; rw [hT] at q
    exact q⟩
   have V : Aside0 (∀ (m' b' : Int) (r' xs' : List S73) (W' : World), Fdb.leaves k (l.drop H) m' b' = some r' → Fdb.Inv B W' g xs' → xs'.length + r'.length ≤ 100000 → Calls Try.prog 93 #[.slice AF (l.length - H) (z - H), .int .i64 m', .int .i64 b', .func (.func 94) #[] #[.pointer (some ⟨g, 0, none⟩)]] W' fun e w' => e = .returned (.tuple #[]) ∧ Fdb.Inv B w' g (xs' ++ r')) := ⟨fun m' b' r' xs' W' L M O => by
    have q := ih AF (z - H) (l.drop H) m' b' r' xs' W' hCF (by omega) L M O; rw [hF] at q
    exact q⟩
   have HI := aM hI; have HX := aM hx
   have c1b : ((H : Int) == 0) = false := by simp; omega
   clear hE hI hx hCT hCF hT hF hAF hH ih E hsz hC
   by_cases ht : t = true
   ·subst ht; rw [if_pos rfl] at h; have HL := aM h; clear h
    go_enter Try.func93, Try.ntmps93
    go_wp2
    refine start_ (n := 8) (S := fun w' => True) (ds := []) (bl 8 0) (by kernel_rfl) rfl rfl trivial (fun hHeld => ?_); refine pure_ (i := 0) (N := some 44) (v := ?_) (a' := ?_) (bl 8 1) rfl rfl (by kernel_rfl) (fun _ _ _ h => h) (Or.inl ⟨by rfl, ?_⟩) ?_ ?_; rotate_left
    ·intro w'
     go_simp
     with_reducible rfl
    rotate_left
    ·simp only [Act.put, sA, sB, sC, i64_w, i32_w]
     rfl
    refine pure_ (i := 1) (N := some 45) (v := ?_) (a' := ?_) (bl 8 3) rfl rfl (by kernel_rfl) (fun _ _ _ h => h) (Or.inl ⟨by rfl, ?_⟩) ?_ ?_; rotate_left
    ·intro w'
     go_simp
     with_reducible rfl
    rotate_left
    ·simp only [Act.put, sA, sB, sC, i64_w, i32_w]
     rfl
    refine pure_ (i := 2) (N := some 46) (v := ?_) (a' := ?_) (bl 8 7) rfl rfl (by kernel_rfl) (fun _ _ _ h => h) (Or.inl ⟨by rfl, ?_⟩) ?_ ?_; rotate_left
    ·intro w'
     go_simp
     with_reducible rfl
    rotate_left
    ·simp only [Act.put, sA, sB, sC, i64_w, i32_w]
     rfl
    refine pure_ (i := 3) (N := some 47) (v := ?_) (a' := ?_) (bl 8 15) rfl rfl (by kernel_rfl) (fun _ _ _ h => h) (Or.inl ⟨by rfl, ?_⟩) ?_ ?_; rotate_left
    ·intro w'
     go_simp
     with_reducible rfl
    rotate_left
    ·simp only [Act.put, sA, sB, sC, i64_w, i32_w]
     rfl
    refine pure_ (i := 4) (N := some 48) (v := ?_) (a' := ?_) (bl 8 31) rfl rfl (by kernel_rfl) (fun _ _ _ h => h) (Or.inl ⟨by rfl, ?_⟩) ?_ ?_; rotate_left
    ·intro w'
     go_simp
     with_reducible rfl
    rotate_left
    ·simp only [Act.put, sA, sB, sC, i64_w, i32_w]
     rfl
    refine pure_ (i := 5) (N := some 49) (v := ?_) (a' := ?_) (bl 8 63) rfl rfl (by kernel_rfl) (fun _ _ _ h => h) (Or.inl ⟨by rfl, ?_⟩) ?_ ?_; rotate_left
    ·intro w'
     go_simp
     with_reducible rfl
    rotate_left
    ·simp only [Act.put, sA, sB, sC, i64_w, i32_w]
     rfl
    refine one_ (i := 6) (N := some 50) (bl 8 127) rfl rfl (by kernel_rfl) (by decide) (fun K hK => ?_); refine goes_ Try.func109 (by kernel_rfl) rfl #[.slice A H z, .slice AF (l.length - H) (z - H)] (by rfl) rfl rfl (by simp only [List.map_toArray, List.map_cons, List.map_nil]; rfl) ?_
    with_reducible refine (HQ.out _ (by repeat (first | exact HI.out.below | apply pw_below_drewN | apply below_drew1))).mono ?_
    rintro e Y ⟨rfl, ⟨nd, rfl⟩⟩; refine ⟨_, rfl, ?_⟩; refine hK.out _ _ trivial (fun hHeld => ?_); clear hK K; refine nm_ 50 ?_; refine pure_ (i := 7) (N := some 43) (v := ?_) (a' := ?_) (bl 8 255) rfl rfl (by kernel_rfl) (fun _ _ _ h => h) (Or.inl ⟨by rfl, ?_⟩) ?_ ?_; rotate_left
    ·intro w'
     go_simp
     with_reducible rfl
    rotate_left
    ·simp only [Act.put, sA, sB, sC, i64_w, i32_w]
     rfl
    refine done_ (by kernel_rfl) ?_
    go_wp2_with (go_at_call 93; (with_reducible refine (I.out m b r xs _ HL.out (by repeat (first | exact HI.out | apply Fdb.Inv.drewN | apply Fdb.Inv.drew)) HX.out).mono ?_); rintro e U ⟨rfl, hi⟩; have H1 := aM hi; clear hi)
    go_end0
    exact ⟨rfl, H1.out⟩
   ·have htf : t = false := by simpa using ht
    subst htf; clear ht; rw [if_neg (by simp)] at h; replace h := Option.bind_eq_some_iff.mp h; obtain ⟨x, D, h⟩ := h; replace h := Option.bind_eq_some_iff.mp h; obtain ⟨y, J, h⟩ := h; obtain rfl := Option.some.inj h; have HXX : Aside0 (xs.length + x.length ≤ 100000 ∧ (xs ++ x).length + y.length ≤ 100000) := ⟨by have := HX.out; rw [List.length_append] at this ⊢; omega⟩; have HL1 := aM D; have HL2 := aM J; clear h D J
    go_enter Try.func93, Try.ntmps93
    go_wp2
    refine start_ (n := 8) (S := fun w' => True) (ds := []) (bl 8 0) (by kernel_rfl) rfl rfl trivial (fun hHeld => ?_); refine pure_ (i := 0) (N := some 44) (v := ?_) (a' := ?_) (bl 8 1) rfl rfl (by kernel_rfl) (fun _ _ _ h => h) (Or.inl ⟨by rfl, ?_⟩) ?_ ?_; rotate_left
    ·intro w'
     go_simp
     with_reducible rfl
    rotate_left
    ·simp only [Act.put, sA, sB, sC, i64_w, i32_w]
     rfl
    refine pure_ (i := 1) (N := some 45) (v := ?_) (a' := ?_) (bl 8 3) rfl rfl (by kernel_rfl) (fun _ _ _ h => h) (Or.inl ⟨by rfl, ?_⟩) ?_ ?_; rotate_left
    ·intro w'
     go_simp
     with_reducible rfl
    rotate_left
    ·simp only [Act.put, sA, sB, sC, i64_w, i32_w]
     rfl
    refine pure_ (i := 2) (N := some 46) (v := ?_) (a' := ?_) (bl 8 7) rfl rfl (by kernel_rfl) (fun _ _ _ h => h) (Or.inl ⟨by rfl, ?_⟩) ?_ ?_; rotate_left
    ·intro w'
     go_simp
     with_reducible rfl
    rotate_left
    ·simp only [Act.put, sA, sB, sC, i64_w, i32_w]
     rfl
    refine pure_ (i := 3) (N := some 47) (v := ?_) (a' := ?_) (bl 8 15) rfl rfl (by kernel_rfl) (fun _ _ _ h => h) (Or.inl ⟨by rfl, ?_⟩) ?_ ?_; rotate_left
    ·intro w'
     go_simp
     with_reducible rfl
    rotate_left
    ·simp only [Act.put, sA, sB, sC, i64_w, i32_w]
     rfl
    refine pure_ (i := 4) (N := some 48) (v := ?_) (a' := ?_) (bl 8 31) rfl rfl (by kernel_rfl) (fun _ _ _ h => h) (Or.inl ⟨by rfl, ?_⟩) ?_ ?_; rotate_left
    ·intro w'
     go_simp
     with_reducible rfl
    rotate_left
    ·simp only [Act.put, sA, sB, sC, i64_w, i32_w]
     rfl
    refine pure_ (i := 5) (N := some 49) (v := ?_) (a' := ?_) (bl 8 63) rfl rfl (by kernel_rfl) (fun _ _ _ h => h) (Or.inl ⟨by rfl, ?_⟩) ?_ ?_; rotate_left
    ·intro w'
     go_simp
     with_reducible rfl
    rotate_left
    ·simp only [Act.put, sA, sB, sC, i64_w, i32_w]
     rfl
    refine one_ (i := 6) (N := some 50) (bl 8 127) rfl rfl (by kernel_rfl) (by decide) (fun K hK => ?_); refine goes_ Try.func109 (by kernel_rfl) rfl #[.slice A H z, .slice AF (l.length - H) (z - H)] (by rfl) rfl rfl (by simp only [List.map_toArray, List.map_cons, List.map_nil]; rfl) ?_
    with_reducible refine (HQ.out _ (by repeat (first | exact HI.out.below | apply pw_below_drewN | apply below_drew1))).mono ?_
    rintro e Y ⟨rfl, ⟨nd, rfl⟩⟩; refine ⟨_, rfl, ?_⟩; refine hK.out _ _ trivial (fun hHeld => ?_); clear hK K; refine nm_ 50 ?_; refine pure_ (i := 7) (N := some 43) (v := ?_) (a' := ?_) (bl 8 255) rfl rfl (by kernel_rfl) (fun _ _ _ h => h) (Or.inl ⟨by rfl, ?_⟩) ?_ ?_; rotate_left
    ·intro w'
     go_simp
     with_reducible rfl
    rotate_left
    ·simp only [Act.put, sA, sB, sC, i64_w, i32_w]
     rfl
    refine done_ (by kernel_rfl) ?_
    go_wp2_with (first | (go_at_call 93; (with_reducible refine (V.out _ _ y (xs ++ x) _ HL2.out H1.out HXX.out.2).mono ?_); rintro e Z ⟨rfl, hi⟩; have H2 := aM hi; clear hi) | (go_at_call 93; (with_reducible refine (I.out _ _ x xs _ HL1.out (by repeat (first | exact HI.out | apply Fdb.Inv.drewN | apply Fdb.Inv.drew)) HXX.out.1).mono ?_); rintro e U ⟨rfl, hi⟩; have H1 := aM hi; clear hi))
    go_end0
    rw [← List.append_assoc]; exact ⟨rfl, H2.out⟩
theorem Fdb.leaves_length : ∀ (k : Nat) (l : List Int) (m b : Int) (r : List S73), Fdb.leaves k l m b = some r → r.length ≤ l.length := by
 intro k
 induction k with
 | zero => intro l m b r h; cases h
 | succ k ih =>
  intro l m b r h; rw [Fdb.leaves] at h
  by_cases c1 : l.length / 2 = 0
  ·rw [if_pos c1] at h
   by_cases c2 : 0 < l.length
   ·rw [if_pos c2] at h; obtain rfl := Option.some.inj h
    simp; omega
   ·rw [if_neg c2] at h; cases h
  ·rw [if_neg c1] at h; replace h := Option.bind_eq_some_iff.mp h; obtain ⟨t, _, h⟩ := h
   by_cases ht : t = true
   ·rw [if_pos ht] at h; have q := ih _ _ _ _ h; rw [List.length_take] at q
    omega
   ·rw [if_neg ht] at h; replace h := Option.bind_eq_some_iff.mp h; obtain ⟨x, hx, h⟩ := h; replace h := Option.bind_eq_some_iff.mp h; obtain ⟨y, hy, h⟩ := h; obtain rfl := Option.some.inj h; have q1 := ih _ _ _ _ hx; have q2 := ih _ _ _ _ hy; rw [List.length_take] at q1; rw [List.length_drop] at q2; rw [List.length_append]
    omega
theorem Fdb.leaves_mono : ∀ (k : Nat) (l : List Int) (m b : Int), LeO (Fdb.leaves k l m b) (Fdb.leaves (k + 1) l m b) := by
 intro k
 induction k with
 | zero => intro l m b r h; cases h
 | succ k ih =>
  intro l m b; rw [Fdb.leaves, Fdb.leaves]; refine LeO.ite (LeO.refl _) (LeO.bind (Ffa.mono _ _ _) fun t => LeO.ite (ih _ _ _) (LeO.bind (ih _ _ _) fun x => LeO.bind (ih _ _ _) fun y => LeO.refl _))
def Fdb.f (k : Nat) (l0 : List Int) : Option (List (S73) × Int) := (Fea.f k l0).bind fun t => if t = true then (Fdb.leaves k l0 0 0).bind fun r => some (r, 0) else some ([], 3)
theorem Fdb.mono : ∀ a0 k, LeO (Fdb.f k a0) (Fdb.f (k + 1) a0) := by
 intro a0 k
 unfold Fdb.f
 exact LeO.bind (Fea.mono _ _) fun t => LeO.ite (LeO.bind (Fdb.leaves_mono _ _ _ _) fun _ => LeO.refl _) (LeO.refl _)
theorem Fdb.right_len {k : Nat} {l : List Int} (h : Fea.f k l = some true) : l.length ≤ 64 := by
 unfold Fea.f at h
 by_cases c1 : (l.length : Int) ≥ 1
 ·rw [if_pos c1] at h
  by_cases c2 : (l.length : Int) ≤ 64
  ·omega
  ·rw [if_neg c2] at h; cases h
 ·omega
theorem Fdb.calls (k : Nat) (A : Option Addr) (B : Nat) (z : List Int) (I : List (S73)) (J : Int) (w : World) (D : Kd.C (Kd.int .i64) w A z.length z) (E : z.length ≤ B) (h : Fdb.f k z = some (I, J)) :
  Calls Try.prog 79 #[.slice A z.length B] w fun e w' => ∃ F : Value, e = .returned (.tuple #[F, .int .i64 J]) ∧ Kd.R k73 73 w' w.heap.size (fun _ => True) F I ∧ Below w.heap.size w w' := by
 unfold Fdb.f at h
 replace h := Option.bind_eq_some_iff.mp h; obtain ⟨t, ht, h⟩ := h; have HT := aM ht; have HR := aM D; have HC := aM E
 by_cases c : t = true
 ·subst c; rw [if_pos rfl] at h; replace h := Option.bind_eq_some_iff.mp h; obtain ⟨r, hL, h⟩ := h; simp only [Option.some.injEq, Prod.mk.injEq] at h; obtain ⟨rfl, rfl⟩ := h; have HL := aM hL
  have HB0 := aM (show ([] : List S73).length + r.length ≤ 100000 by
   have O := Fdb.leaves_length _ _ _ _ _ hL; have Q := Fdb.right_len ht
   simp; omega)
  have hmf : ∀ (fn : Fn) (first cap : Array Value) (W : World), (Instr.makeFunc fn first cap).run Try.prog W = .ok (.func fn first cap) W := fun _ _ _ _ => rfl
  clear ht hL D E
  go_enter Try.func79, Try.ntmps79
  go_wp2_with (first
   | (go_at_call 92; (with_reducible refine (Fea.calls k A B z true _ HR.out HC.out HT.out).mono ?_); rintro e G ⟨rfl, hb⟩; have HB := aM hb; clear hb)
   | (go_at_call 93; (with_reducible refine (Fdb.leaves_calls w G.heap.size k A B z 0 0 r [] _ HR.out HC.out HL.out ⟨HB.out.size, ⟨_, heap_alloc_new _ _, Kd.R_nil _ _ _ _ _⟩, below_alloc HB.out _⟩ HB0.out).mono ?_); rintro e L ⟨rfl, hi⟩; obtain ⟨hge, ⟨v, hc, hr⟩, hb⟩ := hi; have M : L.cell? ⟨G.heap.size, 0, none⟩ = some v := (blk_cell hc 0).trans rfl; have H1 := aM hr; have H2 := aM hb; clear hc hr hb hge))
  go_ret2
  exact ⟨_, rfl, H1.out, H2.out⟩
 ·have c' : t = false := by simpa using c
  subst c'; rw [if_neg (by simp)] at h; simp only [Option.some.injEq, Prod.mk.injEq] at h; obtain ⟨rfl, rfl⟩ := h; clear ht D E c
  go_enter Try.func79, Try.ntmps79
  go_wp2_with (go_at_call 92; (with_reducible refine (Fea.calls k A B z false _ HR.out HC.out HT.out).mono ?_); rintro e G ⟨rfl, hb⟩; have HB := aM hb; clear hb)
  go_ret2
  exact ⟨_, rfl, Kd.R_nil _ _ _ _ _, HB.out⟩
attribute [local go_sem high] eqA73
def Fa.l0 : Nat → List (S73) → List (S73) → Int → Int → Option (Bool)
 | 0, _, _, _, _ => none
 | k + 1, x0, x1, x12, x13 => if x13 < x12 then (if 0 ≤ x13 then (if x13 < (x0.length : Int) then (if x13 < (x1.length : Int) then (if (!(((rd_T73 x0 x13).f0) == ((rd_T73 x1 x13).f0)) || (!(((rd_T73 x0 x13).f1) == ((rd_T73 x1 x13).f1)) || (!(((rd_T73 x0 x13).f2) == ((rd_T73 x1 x13).f2))))) = true then (some false) else (Fa.l0 k x0 x1 x12 (wrap64 (x13 + 1)))) else (none)) else (none)) else (none)) else (some true)
def Fa.f (k : Nat) (l0 : List (S73)) (l1 : List (S73)) : Option (Bool) := if (l0.length : Int) = (l1.length : Int) then (Fa.l0 k l0 l1 (l0.length : Int) 0) else (some false)
theorem Fa.mono_l : ∀ k, (∀ y0 y1 y2 y3, LeO (Fa.l0 k y0 y1 y2 y3) (Fa.l0 (k + 1) y0 y1 y2 y3))
 | 0 => fun _ _ _ _ r h => by simp [Fa.l0] at h
 | k + 1 => by
  have ih0 := Fa.mono_l k
  ·intro y0 y1 y2 y3
   unfold Fa.l0
   repeat' first | (with_reducible first | exact ih0 _ _ _ _ | exact lA | apply lI | refine lB ?_ fun _ => ?_) | exact lN _ | apply lI | refine lB ?_ fun _ => ?_
theorem Fa.mono : ∀ a0 a1 k, LeO (Fa.f k a0 a1) (Fa.f (k + 1) a0 a1) := by
 intro a0 a1 k; have ih0 := Fa.mono_l k
 unfold Fa.f
 repeat' first | (with_reducible first | exact ih0 _ _ _ _ | exact lA | apply lI | refine lB ?_ fun _ => ?_) | exact lN _ | apply lI | refine lB ?_ fun _ => ?_
theorem Fa.calls (k : Nat) (A0 : Option Addr) (c0 : Nat) (A : List (S73)) (A1 : Option Addr) (c1 : Nat) (B : List (S73)) (r : Bool) (w : World) (ac : Kd.C k73 w A0 A.length A) (ad : A.length ≤ c0) (ae : Kd.C k73 w A1 B.length B) (af : B.length ≤ c1) (h : Fa.f k A B = some r) :
  Calls Try.prog 80 #[.slice A0 A.length c0, .slice A1 B.length c1] w fun e w' => e = .returned (.bool r) ∧ Drawn0 w w' := by
 have hu73 := Try.underlying73; have ag := aM ac; have ax := aM ad; clear ac ad; have ah := aM ae; have ay := aM af; clear ae af; rw [Fa.f] at h; have H := h; clear h
 apply iB H <;> clear H <;> intro I H
 ·obtain ⟨ai, aj⟩ := bq I
  have ak : (A.length == B.length) = true := by first | simpa using I | (simp at I ⊢; omega)
  clear I; have H' := aM H; clear H
  go_enter Try.func80, Try.ntmps80
  go_wp2
  repeat (go_quiet (fail); try go_wp2)
  go_loopg [13] k (fun kq ar w' => ∃ (z : Int), ar = .int .i64 z ∧ Aside0 (Fa.l0 kq A B (A.length : Int) z = some r) ∧ Aside0 (kq ≤ k) ∧ Drawn0 w w')
  case atStart => exact ⟨(0), sI, H', ⟨Nat.le_refl _⟩, dRw⟩
  case round =>
   clear H'
   obtain ⟨z, rfl, HA, ao, ⟨m1, rfl⟩⟩ := hrel; cases gk with
   | zero => exact absurd HA.out (by simp [Fa.l0])
   | succ k1 =>
    have H := HA.out; clear HA; simp only [Fa.l0] at H
    apply iB H <;> clear H <;> intro M H
    ·have al := dT M; clear M
     apply iN H; clear H; intro W H; have au := dT W; clear W
     apply iN H; clear H; intro Y H; have av := dT Y; clear Y
     apply iN H; clear H; intro Z H; have aw := dT Z; clear Z
     apply iB H <;> clear H <;> intro N H
     ·have am : (!(((rd_T73 A z).f0) == ((rd_T73 B z).f0)) || (!(((rd_T73 A z).f1) == ((rd_T73 B z).f1)) || (!(((rd_T73 A z).f2) == ((rd_T73 B z).f2))))) = true := N; clear N; obtain rfl := Option.some.inj H; obtain ⟨⟨aa, J, O, P, Q⟩, D, E⟩ := xAt (at_T73 ag.out) z; cases J; obtain ⟨⟨ab, L, R, U, V⟩, F, G⟩ := xAt (at_T73 ah.out) z; cases L
      go_wp2
      repeat (go_quiet (fail); try go_wp2)
      go_ret
      exact ⟨eVl, dRw⟩
     ·have am : (!(((rd_T73 A z).f0) == ((rd_T73 B z).f0)) || (!(((rd_T73 A z).f1) == ((rd_T73 B z).f1)) || (!(((rd_T73 A z).f2) == ((rd_T73 B z).f2))))) = false := by simpa using N
      clear N; have H' := aM H; clear H; obtain ⟨⟨aa, J, O, P, Q⟩, D, E⟩ := xAt (at_T73 ag.out) z; cases J; obtain ⟨⟨ab, L, R, U, V⟩, F, G⟩ := xAt (at_T73 ah.out) z; cases L
      go_wp2
      repeat (go_quiet (fail); try go_wp2)
      go_roundg k1
      case measure => have := ao.out; omega
      case rel => exact ⟨(wrap64 (z + 1)), sI, H', ⟨by have := ao.out; omega⟩, dRw⟩
    ·have al := decide_eq_false M; clear M; obtain rfl := Option.some.inj H
     go_wp2
     repeat (go_quiet (fail); try go_wp2)
     go_ret
     exact ⟨eVl, dRw⟩
 ·obtain ⟨ai, aj⟩ := bn I
  have ak : (A.length == B.length) = false := by first | simpa using I | (simp at I ⊢; omega)
  obtain rfl := Option.some.inj H
  go_enter Try.func80, Try.ntmps80
  go_wp2
  repeat (go_quiet (fail); try go_wp2)
  go_ret
  exact ⟨eVl, dRw⟩
end Go.Proofs.Ytninoenmhcbonaa.X

/- Functions of the seat, printed, and that the program's calls come to them; no condition. -/
import Derived.Test.YtninoenmhcbonaaX0
import Derived.Test.YtninoenmhcbonaaX17
namespace Go.Proofs.Ytninoenmhcbonaa.X
open Go.RowKit Go.Proofs.YtninoenmhcbonaaW.PrintWords Go.Proofs.YtninoenmhcbonaaW.PrintLast Go.Proofs.YtninoenmhcbonaaW.PrintMore
attribute [local go_sem] max2_int min2_int max_two min_two max_three min_three max_four min_four
set_option linter.unusedVariables false
set_option linter.unusedSimpArgs false
set_option maxHeartbeats 8000000
set_option maxRecDepth 100000

mutual
def Ftb.j0 : Nat → List Int → Bool → Option (Int × Int)
 | 0, _, _ => none
 | k + 1, x0, x14 => if x14 = true then (some (0, 3)) else (if (x0.length : Int) > 64 then (some (0, 31)) else (Ftb.l0 k x0 0 x0 (x0.length : Int) 0))
def Ftb.l0 : Nat → List Int → Int → List Int → Int → Int → Option (Int × Int)
 | 0, _, _, _, _, _ => none
 | k + 1, x0, x4, x18, x19, x20 => if x20 < x19 then (if 0 ≤ x20 then (if x20 < (x18.length : Int) then (Ftb.l0 k x0 (Go.bits .or .i64 x4 (shl .i64 (rd x18 x20) x20)) x18 x19 (wrap64 (x20 + 1))) else (none)) else (none)) else (if 0 ≤ (wrap64 (64 - (x0.length : Int))) then (some (shr .i64 (shl .i64 x4 (wrap64 (64 - (x0.length : Int)))) (wrap64 (64 - (x0.length : Int))), 0)) else (none))
end
def Ftb.f (k : Nat) (l0 : List Int) : Option (Int × Int) := if (l0.length : Int) = 0 then (Ftb.j0 k l0 true) else ((Ff.f l0).bind fun t233 => (Ftb.j0 k l0 t233))
theorem Ftb.mono_l : ∀ k, (∀ y0 y1, LeO (Ftb.j0 k y0 y1) (Ftb.j0 (k + 1) y0 y1)) ∧ (∀ y0 y1 y2 y3 y4, LeO (Ftb.l0 k y0 y1 y2 y3 y4) (Ftb.l0 (k + 1) y0 y1 y2 y3 y4))
 | 0 => ⟨fun _ _ r h => by simp [Ftb.j0] at h, fun _ _ _ _ _ r h => by simp [Ftb.l0] at h⟩
 | k + 1 => by
  obtain ⟨ih0, ih1⟩ := Ftb.mono_l k; refine ⟨?_, ?_⟩
  ·intro y0 y1
   unfold Ftb.j0
   repeat' first | (with_reducible first | exact ih0 _ _ | exact ih1 _ _ _ _ _ | exact lA | apply lI | refine lB ?_ fun _ => ?_) | exact lN _ | apply lI | refine lB ?_ fun _ => ?_
  ·intro y0 y1 y2 y3 y4
   unfold Ftb.l0
   repeat' first | (with_reducible first | exact ih0 _ _ | exact ih1 _ _ _ _ _ | exact lA | apply lI | refine lB ?_ fun _ => ?_) | exact lN _ | apply lI | refine lB ?_ fun _ => ?_
theorem Ftb.mono : ∀ a0 k, LeO (Ftb.f k a0) (Ftb.f (k + 1) a0) := by
 intro a0 k; obtain ⟨ih0, ih1⟩ := Ftb.mono_l k
 unfold Ftb.f
 repeat' first | (with_reducible first | exact ih0 _ _ | exact ih1 _ _ _ _ _ | exact lA | apply lI | refine lB ?_ fun _ => ?_) | exact lN _ | apply lI | refine lB ?_ fun _ => ?_
theorem Ftb.calls (k : Nat) (A0 : Option Addr) (c0 : Nat) (B : List Int) (r1 : Int) (r2 : Int) (w : World) (ah : Kd.C (Kd.int .i64) w A0 B.length B) (ai : B.length ≤ c0) (h : Ftb.f k B = some (r1, r2)) :
  Calls Try.prog 53 #[.slice A0 B.length c0] w fun e w' => e = .returned (.tuple #[.int .i64 r1, .int .i64 r2]) ∧ Drawn0 w w' := by
 have aj := aM ah; have aw := aM ai; clear ah ai; rw [Ftb.f] at h; have H := h; clear h; have W := aM H; clear H
 go_enter Try.func53, Try.ntmps53
 go_upto_region 1 with (fail)
 go_cut [14] (fun ax wc => ∃ (kq : Nat) (J : Bool), ax = .bool J ∧ Aside0 (Ftb.j0 kq B J = some (r1, r2)) ∧ Aside0 (kq ≤ k) ∧ Drawn0 w wc)
 case first =>
  have H := W.out; clear W
  apply iB H <;> clear H <;> intro R H
  ·obtain ⟨M, am⟩ := bq R; clear R
   (first | rw [M] | (simp only [i64_w, i32_w]; rw [M]) | skip)
   have H' := aM H; clear H
   go_wp2
   go_meet
   case rel => exact ⟨_, (true), sI, H', lE, dRw⟩
  ·obtain ⟨M, am⟩ := bn R
   have aF : ¬ (B = []) := fun h_ => R (by rw [h_]; rfl)
   (first | rw [M] | (simp only [i64_w, i32_w]; rw [M]) | skip)
   apply bSx H; clear H; intro Y A4 H; have H' := aM H; clear H
   go_wp2_with (first | (go_at_call 74; (with_reducible refine (Ff.calls _ _ B  Y _ ?s1 aw.out A4.out).mono ?_); (case s1 => exact cO aj.out); rintro e w' ⟨rfl, ⟨nd, rfl⟩⟩))
   go_meet
   case rel => exact ⟨_, (Y), sI, H', lE, dRw⟩
 case rest =>
  clear W
  obtain ⟨kq, J, rfl, HA, HJ1, ⟨mc1, rfl⟩⟩ := hcut; cases kq with
  | zero => exact absurd HA.out (by simp [Ftb.j0])
  | succ al =>
   have H := HA.out; clear HA; simp only [Ftb.j0] at H
   by_cases c5 : J = true
   ·subst c5
    rw [if_pos rfl] at H; obtain ⟨rfl, rfl⟩ := pE2 H
    go_wp2
    go_ret2
    exact ⟨eVl, dRw⟩
   ·replace c5 := Bool.eq_false_iff.mpr c5; subst c5
    rw [if_neg nF] at H
    apply iB H <;> clear H <;> intro U H
    ·have an := dT U; have ao : decide (64 < B.length) = true := dT (by omega); clear U; obtain ⟨rfl, rfl⟩ := pE2 H
     go_wp2
     go_ret2
     exact ⟨eVl, dRw⟩
    ·have an := decide_eq_false U; have ao : decide (64 < B.length) = false := decide_eq_false (by omega); clear U; have H' := aM H; clear H
     go_wp2
     go_loopg [4, 20] al (fun kq v4 ay w' => ∃ (D : Int) (z : Int), v4 = .int .i64 D ∧ ay = .int .i64 z ∧ Aside0 (Ftb.l0 kq B D B (B.length : Int) z = some (r1, r2)) ∧ Aside0 (kq ≤ al) ∧ Drawn0 w w')
     case atStart => exact ⟨(0), (0), sI, sI, H', ⟨Nat.le_refl _⟩, dRw⟩
     case round =>
      clear H'
      obtain ⟨D, z, rfl, rfl, HA, ae, ⟨m2, rfl⟩⟩ := hrel; cases gk with
      | zero => exact absurd HA.out (by simp [Ftb.l0])
      | succ k2 =>
       have H := HA.out; clear HA; simp only [Ftb.l0] at H
       apply iB H <;> clear H <;> intro V H
       ·have ap := dT V; clear V
        apply iN H; clear H; intro c8 H; have aI := dT c8; clear c8
        apply iN H; clear H; intro c9 H; have aJ := dT c9; clear c9; have aA := eq_true (oT aO : 0 ≤ z); obtain ⟨N, F⟩ : ∃ j_ : Int, (shl .i64 (rd B z) z) = j_ := ⟨_, rfl⟩
        first | rw [F] at H | simp only [F] at H
        have Z : (IntKind.i64.wrap ((rd B z) * 2 ^ min z.toNat 64)) = N := F; have hji11z : z ≤ 64 → (IntKind.i64.wrap ((rd B z) * 2 ^ z.toNat)) = N := shl_small F; have hji11y : (wrap64 ((rd B z) * 2 ^ min z.toNat 64)) = N := (i64_w _).symm.trans Z
        have hji11x : z ≤ 64 → (wrap64 ((rd B z) * 2 ^ z.toNat)) = N := fun h_ => (i64_w _).symm.trans (hji11z h_)
        have H' := aM H; clear H; obtain ⟨⟨aB, aq, ar⟩, P, Q⟩ := xAt (Kd.at_int aj.out) z; cases aq
        go_wp2
        go_roundg k2
        case measure => have := HJ1.out; have := ae.out; omega
        case rel => exact ⟨(Go.bits .or .i64 D (N)), (wrap64 (z + 1)), (by first | rfl | (simp; done) | (simp only [← F] <;> (first | rfl | simp)) | (simp [*]; done)), sI, H', ⟨by have := HJ1.out; have := ae.out; omega⟩, dRw⟩
       ·have ap := decide_eq_false V; clear V; obtain ⟨A, L⟩ : ∃ j_ : Int, (wrap64 (64 - (B.length : Int))) = j_ := ⟨_, rfl⟩
        first | rw [L] at H | simp only [L] at H
        have hji12w : (IntKind.i64.wrap (64 - (B.length : Int))) = A := (i64_w _).trans L
        apply iN H; clear H; intro O H; have aC := eq_true O; have aD := dT O; clear O; obtain ⟨E, G⟩ : ∃ j_ : Int, (shl .i64 D (A)) = j_ := ⟨_, rfl⟩
        first | rw [G] at H | simp only [G] at H
        have aa : (IntKind.i64.wrap (D * 2 ^ min (A).toNat 64)) = E := G; have hji14z : (A) ≤ 64 → (IntKind.i64.wrap (D * 2 ^ (A).toNat)) = E := shl_small G; have hji14y : (wrap64 (D * 2 ^ min (A).toNat 64)) = E := (i64_w _).symm.trans aa
        have hji14x : (A) ≤ 64 → (wrap64 (D * 2 ^ (A).toNat)) = E := fun h_ => (i64_w _).symm.trans (hji14z h_)
        have aE := eq_true (oT aO : 0 ≤ (A)); obtain ⟨ab, I⟩ : ∃ j_ : Int, (shr .i64 (E) (A)) = j_ := ⟨_, rfl⟩
        first | rw [I] at H | simp only [I] at H
        have az : ((E) / 2 ^ min (A).toNat 64) = ab := I; have hji16z : (A) ≤ 64 → ((E) / 2 ^ (A).toNat) = ab := shr_small I; obtain ⟨rfl, rfl⟩ := pE2 H
        go_wp2
        go_ret2
        exact ⟨by first | rfl | (simp; done) | (simp only [← L, ← G, ← I] <;> (first | rfl | simp)) | (simp [*]; done), dRw⟩
mutual
def Fta.j0 : Nat → List Int → Int → Bool → Option (List Int × Int)
 | 0, _, _, _ => none
 | k + 1, x0, x1, x13 => if x13 = true then (some (([] : List Int), 150)) else (if (x0.length : Int) = 0 then (some (([] : List Int), 3)) else (if (x0.length : Int) > 64 then (some (([] : List Int), 31)) else (Fta.l0 k x0 x1 x0 (x0.length : Int) 0)))
def Fta.l0 : Nat → List Int → Int → List Int → Int → Int → Option (List Int × Int)
 | 0, _, _, _, _, _ => none
 | k + 1, x0, x1, x28, x29, x30 => if x30 < x29 then (if 0 ≤ x30 then (if x30 < (x28.length : Int) then (if (rd x28 x30) < 0 then (some (([] : List Int), 30)) else (if 0 ≤ x1 then (if (rd x28 x30) ≥ (shl .i64 1 x1) then (some (([] : List Int), 30)) else (Fta.l0 k x0 x1 x28 x29 (wrap64 (x30 + 1)))) else (none))) else (none)) else (none)) else (if 0 ≤ x1 then (if (x1 : Int).toNat ≤ 35184372088832 then ((some (List.replicate (x1 : Int).toNat 0 : List Int)).bind fun y236 => (if 0 ≤ (x0.length : Int) then (if ((x0.length : Int) : Int).toNat ≤ 35184372088832 then (Fta.l1 k x0 y236 (List.replicate ((x0.length : Int) : Int).toNat 0) (y236.length : Int) 0) else (none)) else (none))) else (none)) else (none))
def Fta.l1 : Nat → List Int → List Int → List Int → Int → Int → Option (List Int × Int)
 | 0, _, _, _, _, _ => none
 | k + 1, x0, x8, x9, x49, x50 => if x50 < x49 then (Fta.l2 k x0 x8 x9 x50 x49 x50 x0 (x0.length : Int) 0) else (some (x8, 0))
def Fta.l2 : Nat → List Int → List Int → List Int → Int → Int → Int → List Int → Int → Int → Option (List Int × Int)
 | 0, _, _, _, _, _, _, _, _, _ => none
 | k + 1, x0, x8, x9, x10, x49, x50, x53, x54, x55 => if x55 < x54 then (if 0 ≤ x55 then (if x55 < (x53.length : Int) then ((Faa.f (rd x53 x55) x10).bind fun t243 => (if x55 < (x9.length : Int) then (Fta.l2 k x0 x8 (x9.set (x55 : Int).toNat t243) x10 x49 x50 x53 x54 (wrap64 (x55 + 1))) else (none))) else (none)) else (none)) else ((Ftb.f k x9).bind fun bt245 => (if 0 ≤ x10 then (if x10 < (x8.length : Int) then (Fta.l1 k x0 (x8.set (x10 : Int).toNat bt245.1) x9 x49 (wrap64 (x50 + 1))) else (none)) else (none)))
end
def Fta.f (k : Nat) (l0 : List Int) (a1 : Int) : Option (List Int × Int) := if a1 < 0 then (Fta.j0 k l0 a1 true) else (Fta.j0 k l0 a1 (decide (a1 > 6)))
theorem Fta.mono_l : ∀ k, (∀ y0 y1 y2, LeO (Fta.j0 k y0 y1 y2) (Fta.j0 (k + 1) y0 y1 y2)) ∧ (∀ y0 y1 y2 y3 y4, LeO (Fta.l0 k y0 y1 y2 y3 y4) (Fta.l0 (k + 1) y0 y1 y2 y3 y4)) ∧ (∀ y0 y1 y2 y3 y4, LeO (Fta.l1 k y0 y1 y2 y3 y4) (Fta.l1 (k + 1) y0 y1 y2 y3 y4)) ∧ (∀ y0 y1 y2 y3 y4 y5 y6 y7 y8, LeO (Fta.l2 k y0 y1 y2 y3 y4 y5 y6 y7 y8) (Fta.l2 (k + 1) y0 y1 y2 y3 y4 y5 y6 y7 y8))
 | 0 => ⟨fun _ _ _ r h => by simp [Fta.j0] at h, fun _ _ _ _ _ r h => by simp [Fta.l0] at h, fun _ _ _ _ _ r h => by simp [Fta.l1] at h, fun _ _ _ _ _ _ _ _ _ r h => by simp [Fta.l2] at h⟩
 | k + 1 => by
  obtain ⟨ih0, ih1, ih2, ih3⟩ := Fta.mono_l k; refine ⟨?_, ?_, ?_, ?_⟩
  ·intro y0 y1 y2
   unfold Fta.j0
   repeat' first | (with_reducible first | exact ih0 _ _ _ | exact ih1 _ _ _ _ _ | exact ih2 _ _ _ _ _ | exact ih3 _ _ _ _ _ _ _ _ _ | exact Ftb.mono _ _ | exact lA | apply lI | refine lB ?_ fun _ => ?_) | exact lN _ | apply lI | refine lB ?_ fun _ => ?_
  ·intro y0 y1 y2 y3 y4
   unfold Fta.l0
   repeat' first | (with_reducible first | exact ih0 _ _ _ | exact ih1 _ _ _ _ _ | exact ih2 _ _ _ _ _ | exact ih3 _ _ _ _ _ _ _ _ _ | exact Ftb.mono _ _ | exact lA | apply lI | refine lB ?_ fun _ => ?_) | exact lN _ | apply lI | refine lB ?_ fun _ => ?_
  ·intro y0 y1 y2 y3 y4
   unfold Fta.l1
   repeat' first | (with_reducible first | exact ih0 _ _ _ | exact ih1 _ _ _ _ _ | exact ih2 _ _ _ _ _ | exact ih3 _ _ _ _ _ _ _ _ _ | exact Ftb.mono _ _ | exact lA | apply lI | refine lB ?_ fun _ => ?_) | exact lN _ | apply lI | refine lB ?_ fun _ => ?_
  ·intro y0 y1 y2 y3 y4 y5 y6 y7 y8
   unfold Fta.l2
   repeat' first | (with_reducible first | exact ih0 _ _ _ | exact ih1 _ _ _ _ _ | exact ih2 _ _ _ _ _ | exact ih3 _ _ _ _ _ _ _ _ _ | exact Ftb.mono _ _ | exact lA | apply lI | refine lB ?_ fun _ => ?_) | exact lN _ | apply lI | refine lB ?_ fun _ => ?_
theorem Fta.mono : ∀ a0 a1 k, LeO (Fta.f k a0 a1) (Fta.f (k + 1) a0 a1) := by
 intro a0 a1 k; obtain ⟨ih0, ih1, ih2, ih3⟩ := Fta.mono_l k
 unfold Fta.f
 repeat' first | (with_reducible first | exact ih0 _ _ _ | exact ih1 _ _ _ _ _ | exact ih2 _ _ _ _ _ | exact ih3 _ _ _ _ _ _ _ _ _ | exact Ftb.mono _ _ | exact lA | apply lI | refine lB ?_ fun _ => ?_) | exact lN _ | apply lI | refine lB ?_ fun _ => ?_
theorem Fta.calls (k : Nat) (A0 : Option Addr) (c0 : Nat) (G : List Int) (P : Int) (r1 : List Int) (r2 : Int) (w : World) (bv : Kd.C (Kd.int .i64) w A0 G.length G) (bw : G.length ≤ c0) (h : Fta.f k G P = some (r1, r2)) :
  Calls Try.prog 26 #[.slice A0 G.length c0, .int .i64 P] w fun e w' => ∃ bx : Value, e = .returned (.tuple #[bx, .int .i64 r2]) ∧ Kd.R (Kd.int .i64) 2 w' w.heap.size (fun _ => True) bx r1 ∧ Below w.heap.size w w' := by
 have aJ := aM bv; have ch := aM bw; clear bv bw; have HB := aM (Below.refl w.heap.size w); rw [Fta.f] at h; have H := h; clear h; have aX := aM H; clear H
 go_enter Try.func26, Try.ntmps26
 go_upto_region 1 with (fail)
 go_cut [13] (fun bM wc => ∃ (kq : Nat) (Y : Bool), bM = .bool Y ∧ Aside0 (Fta.j0 kq G P Y = some (r1, r2)) ∧ Aside0 (kq ≤ k) ∧ BA w wc)
 case first =>
  have H := aX.out; clear aX
  apply iB H <;> clear H <;> intro c4 H
  ·have ae := dT c4; clear c4
   (first | rw [ae] | (simp only [i64_w, i32_w]; rw [ae]) | skip)
   have H' := aM H; clear H
   go_wp2
   go_meet
   case rel => exact ⟨_, (true), sI, H', lE, bT0 HB⟩
  ·have ae := decide_eq_false c4; clear c4
   (first | rw [ae] | (simp only [i64_w, i32_w]; rw [ae]) | skip)
   have H' := aM H; clear H
   go_wp2
   go_meet
   case rel => exact ⟨_, (decide (P > 6)), sI, H', lE, bT0 HB⟩
 case rest =>
  clear aX
  obtain ⟨kq, Y, rfl, HA, HJ2, HB⟩ := hcut; cases kq with
  | zero => exact absurd HA.out (by simp [Fta.j0])
  | succ bz =>
   have H := HA.out; clear HA; simp only [Fta.j0] at H
   by_cases c5 : Y = true
   ·subst c5
    rw [if_pos rfl] at H; obtain ⟨rfl, rfl⟩ := pE2 H
    go_wp2
    go_ret2
    exact ⟨_, eW, by first | exact Kd.R_nil _ _ _ _ _ | exact Kd.N_nil _ _ _ _ _ | exact Kd.V_nil _ _ _ _ _ | exact Kd.Q_nil _ _ _ _ _ | exact Kd.S_nil _ _ _ _ _, bO HB.out⟩
   ·replace c5 := Bool.eq_false_iff.mpr c5; subst c5
    rw [if_neg nF] at H
    apply iB H <;> clear H <;> intro c6 H
    ·obtain ⟨bA, bB⟩ := bq c6; clear c6; obtain ⟨rfl, rfl⟩ := pE2 H
     go_wp2
     go_ret2
     exact ⟨_, eW, by first | exact Kd.R_nil _ _ _ _ _ | exact Kd.N_nil _ _ _ _ _ | exact Kd.V_nil _ _ _ _ _ | exact Kd.Q_nil _ _ _ _ _ | exact Kd.S_nil _ _ _ _ _, bO HB.out⟩
    ·obtain ⟨bA, bB⟩ := bn c6
     have cd : ¬ (G = []) := fun h_ => c6 (by rw [h_]; rfl)
     apply iB H <;> clear H <;> intro c7 H
     ·have bC := dT c7; have bD : decide (64 < G.length) = true := dT (by omega); clear c7; obtain ⟨rfl, rfl⟩ := pE2 H
      go_wp2
      go_ret2
      exact ⟨_, eW, by first | exact Kd.R_nil _ _ _ _ _ | exact Kd.N_nil _ _ _ _ _ | exact Kd.V_nil _ _ _ _ _ | exact Kd.Q_nil _ _ _ _ _ | exact Kd.S_nil _ _ _ _ _, bO HB.out⟩
     ·have bC := decide_eq_false c7; have bD : decide (64 < G.length) = false := decide_eq_false (by omega); clear c7; have H' := aM H; clear H
      go_wp2
      go_loopg [30] bz (fun kq bN w' => ∃ (B : Int), bN = .int .i64 B ∧ Aside0 (Fta.l0 kq G P G (G.length : Int) B = some (r1, r2)) ∧ Aside0 (kq ≤ bz) ∧ BA w w')
      case atStart => exact ⟨(0), sI, H', ⟨Nat.le_refl _⟩, bT0 HB⟩
      case round =>
       clear H'
       obtain ⟨B, rfl, HA, aT, HB⟩ := hrel; cases gk with
       | zero => exact absurd HA.out (by simp [Fta.l0])
       | succ k2 =>
        have H := HA.out; clear HA; simp only [Fta.l0] at H
        apply iB H <;> clear H <;> intro c8 H
        ·have bE := dT c8; clear c8
         apply iN H; clear H; intro c9 H; have ce := dT c9; clear c9
         apply iN H; clear H; intro aK H; have bV := dT aK; clear aK
         apply iB H <;> clear H <;> intro ah H
         ·have bj := dT ah; clear ah; obtain ⟨rfl, rfl⟩ := pE2 H; obtain ⟨⟨aL, af, L⟩, M, O⟩ := xAt (Kd.at_int aJ.out) B; cases af; replace L := cX HB L
          go_wp2
          go_ret2
          exact ⟨_, eW, by first | exact Kd.R_nil _ _ _ _ _ | exact Kd.N_nil _ _ _ _ _ | exact Kd.V_nil _ _ _ _ _ | exact Kd.Q_nil _ _ _ _ _ | exact Kd.S_nil _ _ _ _ _, bO HB.out⟩
         ·have bj := decide_eq_false ah; clear ah
          apply iN H; clear H; intro av H; have bW := eq_true av; have bX := dT av; clear av; obtain ⟨Q, U⟩ : ∃ j_ : Int, (shl .i64 1 P) = j_ := ⟨_, rfl⟩
          first | rw [U] at H | simp only [U] at H
          have aw : (IntKind.i64.wrap (1 * 2 ^ min P.toNat 64)) = Q := U; have hji13z : P ≤ 64 → (IntKind.i64.wrap (1 * 2 ^ P.toNat)) = Q := shl_small U
          have hji13u : (IntKind.i64.wrap (2 ^ min P.toNat 64)) = Q := by have h_ := aw; rw [Int.one_mul] at h_; exact h_
          have hji13v : P ≤ 64 → (IntKind.i64.wrap (2 ^ P.toNat)) = Q := fun hle_ => by have h_ := hji13z hle_; rw [Int.one_mul] at h_; exact h_
          have hji13y : (wrap64 (1 * 2 ^ min P.toNat 64)) = Q := (i64_w _).symm.trans aw
          have hji13x : P ≤ 64 → (wrap64 (1 * 2 ^ P.toNat)) = Q := fun h_ => (i64_w _).symm.trans (hji13z h_)
          apply iB H <;> clear H <;> intro ai H
          ·have bk := dT ai; clear ai; obtain ⟨rfl, rfl⟩ := pE2 H; obtain ⟨⟨aL, af, L⟩, M, O⟩ := xAt (Kd.at_int aJ.out) B; cases af; replace L := cX HB L
           go_wp2
           go_ret2
           exact ⟨_, by first | rfl | (simp [errW_none, errW_some] <;> rfl) | (simp only [← U]; first | rfl | (simp [errW_none, errW_some] <;> rfl)) | (simp [*, errW_none, errW_some] <;> rfl), by first | exact Kd.R_nil _ _ _ _ _ | exact Kd.N_nil _ _ _ _ _ | exact Kd.V_nil _ _ _ _ _ | exact Kd.Q_nil _ _ _ _ _ | exact Kd.S_nil _ _ _ _ _, bO HB.out⟩
          ·have bk := decide_eq_false ai; clear ai; have H' := aM H; clear H; obtain ⟨⟨aL, af, L⟩, M, O⟩ := xAt (Kd.at_int aJ.out) B; cases af; replace L := cX HB L
           go_wp2
           go_roundg k2
           case measure => have := HJ2.out; have := aT.out; omega
           case rel => exact ⟨(wrap64 (B + 1)), sI, H', ⟨by have := HJ2.out; have := aT.out; omega⟩, bT0 HB⟩
        ·have bE := decide_eq_false c8; clear c8
         apply iN H; clear H; intro ax H; have bY := eq_true ax; have bZ := dT ax; clear ax
         apply iN H; clear H; intro ay H; have b0 := eq_true ay; have b1 := dT ay; clear ay; obtain ⟨V, Z⟩ : ∃ y_ : List Int, y_ = (List.replicate (P : Int).toNat 0) := ⟨_, rfl⟩
         first | replace H := rI Z H | rw [← Z] at H
         have bl := aM Z; clear Z
         apply iN H; clear H; intro az H; have b2 := eq_true az; have b3 := dT az; clear az
         apply iN H; clear H; intro aA H; have b4 := eq_true aA; have b5 := dT aA; clear aA; obtain ⟨bF, aa⟩ : ∃ y_ : List Int, y_ = (List.replicate ((G.length : Int) : Int).toNat 0) := ⟨_, rfl⟩
         first | replace H := rI aa H | rw [← aa] at H
         have bm := aM aa; clear aa; have H' := aM H; clear H
         go_wp2_with (first | ((with_reducible refine gate_dst (N := 44) rfl ?_); refine Kd.R_make (Kd.int .i64) _ 2 rfl (N := 44) rfl 28 _ _ rfl P rfl rfl Try.underlying28 (.int .i64 0) 8 info2 rfl (by decide) (by omega) 0 (ok := fun _ => True) (okp := fun _ => True) rfl (fun _ hk => hk) trivial (oT aO) (Nat.le_trans (Nat.mul_le_mul_right _ (oT aO : P.toNat ≤ 35184372088832)) (by omega)) (Below.refl _ _) (Nat.le_refl _) ?_; intro cf ci am hb bh aU; clear bh aU; replace am := nW bl am; have ab := rW am (bP0 HB); replace HB := hS0 HB hb; clear hb am) | ((with_reducible refine gate_dst (N := 47) rfl ?_); refine Kd.R_make (Kd.int .i64) _ 3 rfl (N := 47) rfl 24 _ _ rfl (G.length : Int) rfl rfl Try.underlying24 (.int .i64 0) 8 info3 rfl (by decide) (by omega) 0 (ok := fun _ => True) (okp := fun _ => True) rfl (fun _ hk => hk) trivial (oT aO) (Nat.le_trans (Nat.mul_le_mul_right _ (oT aO : (G.length : Int).toNat ≤ 35184372088832)) (by omega)) (Below.refl _ _) (Nat.le_refl _) ?_; intro aG cj an hb bh aU; clear bh aU; replace an := nW bm an; replace ab := rB ab hb; have bo := rW an (bP0 HB); replace HB := hS0 HB hb; clear hb an; obtain ⟨ao, W, rfl⟩ := sL ab))
         go_loopg [50] k2 (fun kq bP w' => ∃ (I : List Int) (ap : List Int) (z : Int), bP = .int .i64 z ∧ Aside0 (Fta.l1 kq G I ap (V.length : Int) z = some (r1, r2)) ∧ Aside0 (kq ≤ k2) ∧ RA (Kd.int .i64) 2 w' w (.slice ao V.length W) I ∧ RA (Kd.int .i64) 3 w' w aG ap ∧ BA w w')
         case atStart => exact ⟨(V), (bF), (0), sI, H', ⟨Nat.le_refl _⟩, rQ ab, rQ bo, bT0 HB⟩
         case round =>
          clear H'
          obtain ⟨I, ap, z, rfl, HA, aV, F, D, HB⟩ := hrel; have E := (rR F).1; rw [E] at F
          (try simp only [E])
          (try simp only [E] at D)
          cases gk with
          | zero => exact absurd HA.out (by simp [Fta.l1])
          | succ k3 =>
           have H := HA.out; clear HA; simp only [Fta.l1] at H
           apply iB H <;> clear H <;> intro aj H
           ·have aq := dT aj
            (try (have c24b0hl8_3 := aq; rw [E] at c24b0hl8_3))
            clear aj; have H' := aM H; clear H
            go_wp2
            go_loopg [55] k3 (fun kq bQ w' => ∃ (J : List Int) (A : Int), bQ = .int .i64 A ∧ Aside0 (Fta.l2 kq G I J z (V.length : Int) z G (G.length : Int) A = some (r1, r2)) ∧ Aside0 (kq ≤ k3) ∧ RA (Kd.int .i64) 2 w' w (.slice ao I.length W) I ∧ RA (Kd.int .i64) 3 w' w aG J ∧ BA w w')
            case atStart => exact ⟨(ap), (0), sI, H', ⟨Nat.le_refl _⟩, ⟨by (try simp only [E]); (with_reducible repeat (first | apply Kd.R_alloc | apply Kd.R_drewN | apply Kd.R_drew)); exact F.out⟩, ⟨by (try simp only [E]); (with_reducible repeat (first | apply Kd.R_alloc | apply Kd.R_drewN | apply Kd.R_drew)); exact D.out⟩, bT0 HB⟩
            case round =>
             clear H'
             obtain ⟨J, A, rfl, HA, aW, F, D, HB⟩ := hrel; cases gk with
             | zero => exact absurd HA.out (by simp [Fta.l2])
             | succ k4 =>
              have H := HA.out; clear HA; simp only [Fta.l2] at H
              apply iB H <;> clear H <;> intro ak H
              ·have ar := dT ak
               (try (have c25b0hl8_3 := ar; rw [E] at c25b0hl8_3))
               clear ak
               apply iN H; clear H; intro aN H; have b6 := dT aN; clear aN
               apply iN H; clear H; intro aP H; have bp := dT aP
               (try (have c27b0hl8_3 := bp; rw [E] at c27b0hl8_3))
               clear aP; apply bSx H; clear H; intro au bR H
               apply iN H; clear H; intro aQ H; have br := dT aQ
               (try (have c29b0hl8_3 := br; rw [E] at c29b0hl8_3))
               clear aQ; obtain ⟨aZ, ac⟩ : ∃ y_ : List Int, y_ = (J.set (A : Int).toNat au) := ⟨_, rfl⟩
               first | replace H := rI ac H | rw [← ac] at H
               have bs := aM ac; clear ac; have H' := aM H; clear H; obtain ⟨⟨b7, bH, al⟩, aH, aI⟩ := xAt (Kd.at_int aJ.out) A; cases bH; replace al := cX HB al
               go_wp2_with (first | ((with_reducible refine gate_callee (f := 52) rfl ?_); refine gL_ (some 64) Try.func52 #[.int .i64 (rd G A), .int .i64 z] ?_; (with_reducible refine (Faa.calls (rd G A) z au _ bR.out).mono ?_); rintro e w' ⟨rfl, ⟨nd, rfl⟩⟩; refine ⟨_, rfl, ?_⟩; (try (rw [drewN_self wr]; generalize hq_ : World.drewN wr _ = wr; have aB : RA (Kd.int .i64) 2 wr w (.slice ao I.length W) I := ⟨by rw [← hq_]; exact (rP F)⟩; have aC : RA (Kd.int .i64) 3 wr w aG J := ⟨by rw [← hq_]; exact (rP D)⟩; have aD : BA w wr := ⟨by rw [← hq_]; exact (bP0 HB)⟩; clear F D HB hq_; have F := aB; have D := aC; have HB := aD; clear aB aC aD)); have a2 : 0 ≤ (A : Int) := oT aO; have a3 : (A : Int) < ((J.length : Int) : Int) := oT aO; obtain ⟨go30, a4, a5, a6, gl30, cl30, HG30⟩ := Kd.R_form D.out (by omega); (first | cases a5 | (injection a5 with ea_ en_ ec_; (first | subst ea_ | (injection ea_ with ea_; subst ea_)); subst ec_; clear en_)); have GB30 := aM a6; have GG30 := aM HG30; clear a6 gl30 HG30; obtain ⟨bS, hf30_0⟩ := Kd.R_celln 0 D.out (A : Int) a2 a3; replace a2 := eq_true a2; replace a3 := eq_true a3; obtain ⟨b8, b9⟩ := Kd.R_celln 0 D.out (A : Int) (oT aO) (oT aO); have HP31 := Kd.R_putg D.out (A : Int) au) | ((with_reducible refine gate_store (t := 3) (p := 65) rfl ?_); refine store_event (t := 3) (p := 65) (v := ?vo_w32) (w1 := (wr.setCell ⟨go30, (A : Int).toNat, none⟩ (.int .i64 au))) ?hg ?ho ?hn ?hr ?_; (case ho => rfl); (case hg => rfl); (case hn => rfl); (case hr => first | (go_simp; done) | (go_simp; rfl)); intro a7 hw; have hg : wr.grownBy a7 (some go30) := (by rw [hw]; exact HP31.2); have hp_ : Kd.R (Kd.int .i64) 3 a7 w.heap.size (fun _ => True) (.slice (some ⟨go30, 0, none⟩) J.length a4) aZ := (by rw [hw, bs.out]; exact HP31.1); clear HP31; replace F := aM (Kd.R_over' (v := (.slice (some ⟨go30, 0, none⟩) J.length a4)) (rP F) (Kd.R_typed D.out) (by decide) hg); replace D := aM (hp_); replace HB := aM ((by rw [hw]; exact below_set (HB.out) GB30.out : Below w.heap.size w a7)); clear hg hw hp_))
               go_roundg k4
               case measure => have := HJ2.out; have := aT.out; have := aV.out; have := aW.out; omega
               case rel => exact ⟨(aZ), (wrap64 (A + 1)), sI, H', ⟨by have := HJ2.out; have := aT.out; have := aV.out; have := aW.out; omega⟩, ⟨by (try simp only [E]); (with_reducible repeat (first | apply Kd.R_alloc | apply Kd.R_drewN | apply Kd.R_drew)); exact F.out⟩, ⟨by (try simp only [E]); (with_reducible repeat (first | apply Kd.R_alloc | apply Kd.R_drewN | apply Kd.R_drew)); exact D.out⟩, bT0 HB⟩
              ·have ar := decide_eq_false ak
               (try (have c25b0hl8_3 := ar; rw [E] at c25b0hl8_3))
               clear ak; replace H := Option.bind_eq_some_iff.mp H; obtain ⟨⟨ag, bI⟩, a8, H⟩ := H; replace H : (if 0 ≤ z then (if z < (I.length : Int) then (Fta.l1 k4 G (I.set (z : Int).toNat ag) J (V.length : Int) (wrap64 (z + 1))) else (none)) else (none)) = some (r1, r2) := H; have bT := aM a8; clear a8
               apply iN H; clear H; intro aR H; have ca := dT aR; clear aR
               apply iN H; clear H; intro aS H; have bt := dT aS
               (try (have c35b0hl8_3 := bt; rw [E] at c35b0hl8_3))
               clear aS; obtain ⟨a9, ad⟩ : ∃ y_ : List Int, y_ = (I.set (z : Int).toNat ag) := ⟨_, rfl⟩
               first | replace H := rI ad H | rw [← ad] at H
               have bu := aM ad; clear ad; have H' := aM H; clear H; obtain ⟨ba, bb, rfl⟩ := sL D
               go_wp2_with (first | ((with_reducible refine gate_callee (f := 53) rfl ?_); refine gL_ (some 71) Try.func53 #[.slice ba J.length bb] ?_; (with_reducible refine (Ftb.calls k4 _ _ J ag bI _ ?s1 (rR D).2.1 bT.out).mono ?_); (case s1 => exact cO (rR D).2.2); rintro e w' ⟨rfl, ⟨nd, rfl⟩⟩; refine ⟨_, rfl, ?_⟩; (try (rw [drewN_self wr]; generalize hq_ : World.drewN wr _ = wr; have aB : RA (Kd.int .i64) 2 wr w (.slice ao I.length W) I := ⟨by rw [← hq_]; exact (rP F)⟩; have aC : RA (Kd.int .i64) 3 wr w (.slice ba J.length bb) J := ⟨by rw [← hq_]; exact (rP D)⟩; have aD : BA w wr := ⟨by rw [← hq_]; exact (bP0 HB)⟩; clear F D HB hq_; have F := aB; have D := aC; have HB := aD; clear aB aC aD)); have bc : 0 ≤ (z : Int) := oT aO; have bd : (z : Int) < ((I.length : Int) : Int) := oT aO; obtain ⟨go36, cg, be, bf, gl36, cl36, HG36⟩ := Kd.R_form F.out (by omega); (first | cases be | (injection be with ea_ en_ ec_; (first | subst ea_ | (injection ea_ with ea_; subst ea_)); subst ec_; clear en_)); have GB36 := aM bf; have GG36 := aM HG36; clear bf gl36 HG36; obtain ⟨bU, hf36_0⟩ := Kd.R_celln 0 F.out (z : Int) bc bd; replace bc := eq_true bc; replace bd := eq_true bd; obtain ⟨cb, cc⟩ := Kd.R_celln 0 F.out (z : Int) (oT aO) (oT aO); have HP38 := Kd.R_putg F.out (z : Int) ag) | ((with_reducible refine gate_store (t := 2) (p := 74) rfl ?_); refine store_event (t := 2) (p := 74) (v := ?vo_w39) (w1 := (wr.setCell ⟨go36, (z : Int).toNat, none⟩ (.int .i64 ag))) ?hg ?ho ?hn ?hr ?_; (case ho => rfl); (case hg => rfl); (case hn => rfl); (case hr => first | (go_simp; done) | (go_simp; rfl)); intro bg hw; have hg : wr.grownBy bg (some go36) := (by rw [hw]; exact HP38.2); have hp_ : Kd.R (Kd.int .i64) 2 bg w.heap.size (fun _ => True) (.slice (some ⟨go36, 0, none⟩) I.length W) a9 := (by rw [hw, bu.out]; exact HP38.1); clear HP38; replace D := aM (Kd.R_over' (v := (.slice (some ⟨go36, 0, none⟩) I.length W)) (rP D) (Kd.R_typed F.out) (by decide) hg); replace F := aM (hp_); replace HB := aM ((by rw [hw]; exact below_set (HB.out) GB36.out : Below w.heap.size w bg)); clear hg hw hp_))
               (try simp only [← E])
               go_roundg k4
               case measure => have := HJ2.out; have := aT.out; have := aV.out; have := aW.out; omega
               case rel => exact ⟨(a9), (J), (wrap64 (z + 1)), sI, H', ⟨by have := HJ2.out; have := aT.out; have := aV.out; have := aW.out; omega⟩, ⟨by (try simp only [E]); (with_reducible repeat (first | apply Kd.R_alloc | apply Kd.R_drewN | apply Kd.R_drew)); exact F.out⟩, ⟨by (try simp only [E]); (with_reducible repeat (first | apply Kd.R_alloc | apply Kd.R_drewN | apply Kd.R_drew)); exact D.out⟩, bT0 HB⟩
           ·have aq := decide_eq_false aj
            (try (have c24b0hl8_3 := aq; rw [E] at c24b0hl8_3))
            clear aj; obtain ⟨rfl, rfl⟩ := pE2 H
            go_wp2
            go_ret2
            exact ⟨_, eW, rO F.out, bO HB.out⟩
def Fcb.f (k : Nat) (l0_0 : List ByteArray) (l0_1 : List Bool) (l0_2 : List Int) (l0_3 : List (S73)) : Option (List Int × Int) := (Fca.f k l0_0 l0_1 l0_2 l0_3).bind fun bt249 => (if bt249.2 = 0 then ((Fta.f k bt249.1 (l0_0.length : Int)).bind fun bt253 => (some (bt253.1, bt253.2))) else (some (([] : List Int), bt249.2)))
theorem Fcb.mono : ∀ a0 a1 a2 a3 k, LeO (Fcb.f k a0 a1 a2 a3) (Fcb.f (k + 1) a0 a1 a2 a3) := by
 intro a0 a1 a2 a3 k
 unfold Fcb.f
 repeat' first | (with_reducible first | exact Fca.mono _ _ _ _ _ | exact Fta.mono _ _ _ | exact lA | apply lI | refine lB ?_ fun _ => ?_) | exact lN _ | apply lI | refine lB ?_ fun _ => ?_
theorem Fcb.calls (k : Nat) (I : Option Addr) (J : Nat) (z : List ByteArray) (L : Option Addr) (M : Nat) (D : List Bool) (O : Option Addr) (P : Nat) (E : List Int) (Q : Option Addr) (U : Nat) (F : List (S73)) (r1 : List Int) (r2 : Int) (w : World) (Z : Kd.C Kd.string w I z.length z) (aa : z.length ≤ J) (ab : Kd.C Kd.bool w L D.length D) (ac : D.length ≤ M) (ad : Kd.C (Kd.int .i64) w O E.length E) (ae : E.length ≤ P) (af : Kd.C k73 w Q F.length F) (ag : F.length ≤ U) (h : Fcb.f k z D E F = some (r1, r2)) :
  Calls Try.prog 8 #[.agg #[.slice I z.length J, .slice L D.length M, .slice O E.length P, .slice Q F.length U]] w fun e w' => ∃ aA : Value, e = .returned (.tuple #[aA, .int .i64 r2]) ∧ Kd.R (Kd.int .i64) 2 w' w.heap.size (fun _ => True) aA r1 ∧ Below w.heap.size w w' := by
 have hu27 := Try.underlying27; have ah := aM Z; have ai := aM aa; clear Z aa; have aj := aM ab; have ak := aM ac; clear ab ac; have al := aM ad; have am := aM ae; clear ad ae; have an := aM af; have ao := aM ag; clear af ag; have HB := aM (Below.refl w.heap.size w); rw [Fcb.f] at h; have H := h; clear h; replace H := Option.bind_eq_some_iff.mp H; obtain ⟨⟨W, Y⟩, aB, H⟩ := H; replace H : (if Y = 0 then ((Fta.f k W (z.length : Int)).bind fun ap => (some (ap.1, ap.2))) else (some (([] : List Int), Y))) = some (r1, r2) := H; have A2 := aM aB; clear aB
 apply iB H <;> clear H <;> intro c3 H
 ·obtain ⟨aD, aE⟩ := bq c3; clear c3; replace H := Option.bind_eq_some_iff.mp H; obtain ⟨⟨ar, au⟩, aC, H⟩ := H; replace H : (some (ar, au)) = some (r1, r2) := H; have A4 := aM aC; clear aC; obtain ⟨rfl, rfl⟩ := pE2 H
  go_enter Try.func8, Try.ntmps8
  go_wp2_with (first | ((with_reducible refine gate_dst (N := 1) rfl ?_); refine be_ (cs := #[.slice I z.length J, .slice L D.length M, .slice O E.length P, .slice Q F.length U]) (t := 27) ?_; intro ax hg w5 aq hb; have A := aM (aq); have ay := gE hg (bP0 HB); have B := gE hg (bP0 HB); replace HB := hS0 HB hb; clear hb aq hg; obtain ⟨aQ, aR, aS, aT, aU, aV, aW, aX⟩ := bG4 A) | ((with_reducible refine gate_callee (f := 13) rfl ?_); refine gL_ (some 8) Try.func13 #[.agg #[.slice I z.length J, .slice L D.length M, .slice O E.length P, .slice Q F.length U]] ?_; (with_reducible refine (Fca.calls k _ _ z _ _ D _ _ E _ _ F W Y _ ?s1 ai.out ?s3 ak.out ?s5 am.out ?s7 ao.out A2.out).mono ?_); (case s1 => exact cB ah HB); (case s3 => exact cB aj HB); (case s5 => exact cB al HB); (case s7 => exact cB an HB); rintro e w7 ⟨aF, rfl, V, hb⟩; refine ⟨_, rfl, ?_⟩; have G := rW V (bP1 HB B); replace A := kB A hb; replace HB := hS1 HB B hb; obtain ⟨aY, aZ, a4, a5, a6, a7, a8, a9⟩ := bG4 A; obtain ⟨ba, bb, rfl⟩ := sL G) | ((with_reducible refine gate_callee (f := 26) rfl ?_); refine gL_ (some 18) Try.func26 #[.slice ba W.length bb, .int .i64 (z.length : Int)] ?_; (with_reducible refine (Fta.calls k _ _ W (z.length : Int) ar au _ ?s1 (rR G).2.1 A4.out).mono ?_); (case s1 => exact cO (rR G).2.2); rintro e bf ⟨be, rfl, V, hb⟩; refine ⟨_, rfl, ?_⟩; replace G := rB G hb; have az := rW V (bP1 HB B); replace A := kB A hb; replace HB := hS1 HB B hb))
  go_ret2
  exact ⟨_, eW, rO az.out, bS1 HB.out B.out⟩
 ·obtain ⟨aD, aE⟩ := bn c3; obtain ⟨rfl, rfl⟩ := pE2 H
  go_enter Try.func8, Try.ntmps8
  go_wp2_with (first | ((with_reducible refine gate_dst (N := 1) rfl ?_); refine be_ (cs := #[.slice I z.length J, .slice L D.length M, .slice O E.length P, .slice Q F.length U]) (t := 27) ?_; intro ax hg bg aq hb; have A := aM (aq); have ay := gE hg (bP0 HB); have B := gE hg (bP0 HB); replace HB := hS0 HB hb; clear hb aq hg; obtain ⟨aG, aH, aI, aJ, aK, aL, aN, aO⟩ := bG4 A) | ((with_reducible refine gate_callee (f := 13) rfl ?_); refine gL_ (some 8) Try.func13 #[.agg #[.slice I z.length J, .slice L D.length M, .slice O E.length P, .slice Q F.length U]] ?_; (with_reducible refine (Fca.calls k _ _ z _ _ D _ _ E _ _ F W Y _ ?s1 ai.out ?s3 ak.out ?s5 am.out ?s7 ao.out A2.out).mono ?_); (case s1 => exact cB ah HB); (case s3 => exact cB aj HB); (case s5 => exact cB al HB); (case s7 => exact cB an HB); rintro e bh ⟨aF, rfl, V, hb⟩; refine ⟨_, rfl, ?_⟩; have G := rW V (bP1 HB B); replace A := kB A hb; replace HB := hS1 HB B hb))
  go_ret2
  exact ⟨_, eW, by first | exact Kd.R_nil _ _ _ _ _ | exact Kd.N_nil _ _ _ _ _ | exact Kd.V_nil _ _ _ _ _ | exact Kd.Q_nil _ _ _ _ _ | exact Kd.S_nil _ _ _ _ _, bS1 HB.out B.out⟩
def Fqa.f (l0_0 : List ByteArray) (l0_1 : List Bool) (l0_2 : List Int) (l0_3 : List (S73)) : Option (List ByteArray × List Bool × List Int × (List (S73))) := (some (([] : List ByteArray) : List ByteArray)).bind fun y259 => (if y259.length + l0_0.length < 8796093022208 then ((some (([] : List Bool) : List Bool)).bind fun y265 => (if y265.length + l0_1.length < 140737488355328 then ((some (([] : List Int) : List Int)).bind fun y271 => (if y271.length + l0_2.length < 17592186044416 then ((some (([] : List (S73)) : List (S73))).bind fun y277 => (if y277.length + l0_3.length < 5864062014805 then (some ((y259 ++ l0_0), (y265 ++ l0_1), (y271 ++ l0_2), (y277 ++ l0_3))) else (none))) else (none))) else (none))) else (none))
def Fqa.T1 : Bool × List (List Nat × List Nat) := (true, [([], []), ([], []), ([1], [1]), ([0, 2], [0, 2]), ([], []), ([], []), ([5], [5]), ([4, 6, 3], [4, 6]), ([], []), ([], []), ([9], [9]), ([8, 10, 7], [8, 10]), ([], []), ([], []), ([13], [13]), ([12, 14, 11], [12, 14]), ([3, 7, 11, 15], [3, 7, 11, 15]), ([16, 15, 0, 1, 2, 3, 4, 5, 6, 7, 8, 9, 10, 11, 12, 13, 14, 15, 16], [16])])
def Fqa.B1 : List Nat := [0, 0, 2, 7, 0, 0, 32, 127, 0, 0, 512, 2047, 0, 0, 8192, 32767, 65535, 131071]
theorem Fqa.tab1 : rtab .any (opsOf Try.f9 1) = Fqa.T1 := by kernel_rfl
theorem Fqa.bits1 : waitsOk Fqa.T1.2 Fqa.B1 = true := by kernel_rfl
theorem Fqa.calls (a2 : Option Addr) (a3 : Nat) (af : List ByteArray) (a4 : Option Addr) (a5 : Nat) (ai : List Bool) (a6 : Option Addr) (a7 : Nat) (aj : List Int) (a8 : Option Addr) (a9 : Nat) (am : List (S73)) (r1 : List ByteArray) (r2 : List Bool) (r3 : List Int) (r4 : List (S73)) (w : World) (bF : Kd.C Kd.string w a2 af.length af) (bG : af.length ≤ a3) (bH : Kd.C Kd.bool w a4 ai.length ai) (bI : ai.length ≤ a5) (bJ : Kd.C (Kd.int .i64) w a6 aj.length aj) (bK : aj.length ≤ a7) (bL : Kd.C k73 w a8 am.length am) (bM : am.length ≤ a9) (h : Fqa.f af ai aj am = some (r1, r2, r3, r4)) :
  Calls Try.prog 9 #[.agg #[.slice a2 af.length a3, .slice a4 ai.length a5, .slice a6 aj.length a7, .slice a8 am.length a9]] w fun e w' => ∃ cb cc cd ce : Value, e = .returned (.agg #[cb, cc, cd, ce]) ∧ Kd.R Kd.string 9 w' w.heap.size (fun _ => True) cb r1 ∧ Kd.R Kd.bool 4 w' w.heap.size (fun _ => True) cc r2 ∧ Kd.R (Kd.int .i64) 3 w' w.heap.size (fun _ => True) cd r3 ∧ Kd.R k73 73 w' w.heap.size (fun _ => True) ce r4 ∧ Below w.heap.size w w' := by
 have hu27 := Try.underlying27; have aC := aM bF; have cx := aM bG; clear bF bG; have be := aM bH; have cy := aM bI; clear bH bI; have bN := aM bJ; have cz := aM bK; clear bJ bK; have b4 := aM bL; have cA := aM bM; clear bL bM; have HB := aM (Below.refl w.heap.size w); rw [Fqa.f] at h; have H := h; clear h; obtain ⟨ag, bt⟩ : ∃ y_ : List ByteArray, y_ = (([] : List ByteArray)) := ⟨_, rfl⟩
 replace H : (if ag.length + af.length < 8796093022208 then ((some (([] : List Bool) : List Bool)).bind fun ae => (if ae.length + ai.length < 140737488355328 then ((some (([] : List Int) : List Int)).bind fun ad => (if ad.length + aj.length < 17592186044416 then ((some (([] : List (S73)) : List (S73))).bind fun ac => (if ac.length + am.length < 5864062014805 then (some ((ag ++ af), (ae ++ ai), (ad ++ aj), (ac ++ am))) else (none))) else (none))) else (none))) else (none)) = some (r1, r2, r3, r4) := rH bt H
 have aD := aM bt; clear bt
 apply iN H; clear H; intro c2 H; have aN := aM c2; clear c2; obtain ⟨ap, bf⟩ : ∃ y_ : List ByteArray, y_ = (ag ++ af) := ⟨_, rfl⟩
 first | replace H := rI bf H | rw [← bf] at H
 have aE := aM bf; clear bf; obtain ⟨ae, bu⟩ : ∃ y_ : List Bool, y_ = (([] : List Bool)) := ⟨_, rfl⟩
 replace H : (if ae.length + ai.length < 140737488355328 then ((some (([] : List Int) : List Int)).bind fun ad => (if ad.length + aj.length < 17592186044416 then ((some (([] : List (S73)) : List (S73))).bind fun ac => (if ac.length + am.length < 5864062014805 then (some (ap, (ae ++ ai), (ad ++ aj), (ac ++ am))) else (none))) else (none))) else (none)) = some (r1, r2, r3, r4) := rH bu H
 have aq := aM bu; clear bu
 apply iN H; clear H; intro c3 H; have bv := aM c3; clear c3; obtain ⟨aP, bg⟩ : ∃ y_ : List Bool, y_ = (ae ++ ai) := ⟨_, rfl⟩
 first | replace H := rI bg H | rw [← bg] at H
 have bh := aM bg; clear bg; obtain ⟨ad, bw⟩ : ∃ y_ : List Int, y_ = (([] : List Int)) := ⟨_, rfl⟩
 replace H : (if ad.length + aj.length < 17592186044416 then ((some (([] : List (S73)) : List (S73))).bind fun ac => (if ac.length + am.length < 5864062014805 then (some (ap, aP, (ad ++ aj), (ac ++ am))) else (none))) else (none)) = some (r1, r2, r3, r4) := rH bw H
 have an := aM bw; clear bw
 apply iN H; clear H; intro c4 H; have bY := aM c4; clear c4; obtain ⟨bE, bi⟩ : ∃ y_ : List Int, y_ = (ad ++ aj) := ⟨_, rfl⟩
 first | replace H := rI bi H | rw [← bi] at H
 have bO := aM bi; clear bi; obtain ⟨ac, bj⟩ : ∃ y_ : List (S73), y_ = (([] : List (S73))) := ⟨_, rfl⟩
 first | replace H := rI bj H | rw [← bj] at H
 have ak := aM bj; clear bj
 apply iN H; clear H; intro c5 H; have cg := aM c5; clear c5; obtain ⟨ch, bk⟩ : ∃ y_ : List (S73), y_ = (ac ++ am) := ⟨_, rfl⟩
 first | replace H := rI bk H | rw [← bk] at H
 have b9 := aM bk; clear bk; obtain ⟨rfl, rfl, rfl, rfl⟩ := pE4 H
 go_enter Try.func9, Try.ntmps9
 try go_wp2_with (first | ((with_reducible refine gate_dst (N := 1) rfl ?_); refine be_ (cs := #[.slice a2 af.length a3, .slice a4 ai.length a5, .slice a6 aj.length a7, .slice a8 am.length a9]) (t := 27) ?_; intro az hg w6 bm hb; have z := aM (bm); have cB := gE hg (bP0 HB); have B := gE hg (bP0 HB); replace HB := hS0 HB hb; clear hb bm hg) | ((with_reducible refine gate_dst (N := 2) rfl ?_); refine be_ (cs := #[.slice none 0 0, .slice none 0 0, .slice none 0 0, .slice none 0 0]) (t := 27) ?_; intro ab hg w7 bm hb; have A := aM (bm); have cC := gE hg (bP1 HB B); have D := gE hg (bP1 HB B); replace HB := hS1 HB B hb; have Y := nL hg z; have aG := nG hg z; replace z := kB z hb; clear hb bm hg))
 replace z := kD z; replace A := kD A; replace HB := aM (below_drew1 HB.out); refine start_ (n := 18) (S := fun w' => w'.cell? ⟨az, 0, none⟩ = some (.slice a2 af.length a3) ∧ w'.cell? ⟨az, 1, none⟩ = some (.slice a4 ai.length a5) ∧ w'.cell? ⟨az, 2, none⟩ = some (.slice a6 aj.length a7) ∧ w'.cell? ⟨az, 3, none⟩ = some (.slice a8 am.length a9)) (ds := []) (bl 18 0) (by kernel_rfl) rfl rfl (bD4 z) (fun aQ => ?_); refine with_tabW Fqa.tab1 Fqa.bits1 (fun aT bn => ?_); generalize w7.drew = w8 at z A HB aQ ⊢; refine pu_ 1 4 (bl 18 2) aT ?_; refine pu_ 5 8 (bl 18 34) aT ?_; refine pu_ 9 12 (bl 18 546) aT ?_; refine pu_ 13 16 (bl 18 8738) aT ?_; refine tk4_ 2 5 (bl 18 8742) aT bn aQ ?_; refine tk4_ 6 9 (bl 18 8806) aT bn aQ ?_; refine tk4_ 10 13 (bl 18 9830) aT bn aQ ?_; refine tk4_ 14 17 (bl 18 26214) aT bn aQ ?_; let q_1 : World → Prop := fun w' => w'.cell? ⟨az, 0, none⟩ = some (.slice a2 af.length a3) ∧ w'.cell? ⟨az, 1, none⟩ = some (.slice a4 ai.length a5) ∧ w'.cell? ⟨az, 2, none⟩ = some (.slice a6 aj.length a7) ∧ w'.cell? ⟨az, 3, none⟩ = some (.slice a8 am.length a9); let q_2 : World → Prop := fun w' => Aside0 (w'.heap[az]? = some (.cells #[.slice a2 af.length a3, .slice a4 ai.length a5, .slice a6 aj.length a7, .slice a8 am.length a9] 27 (0, 0))); let q_3 : World → Prop := fun w' => Aside0 (w'.heap[ab]? = some (.cells #[.slice none 0 0, .slice none 0 0, .slice none 0 0, .slice none 0 0] 27 (0, 0))); refine join_ (σ := Value × Value × Value × Value × Value × Value × Value) 3 (bl 18 32767) (fun s_ => [(3, s_.1), (6, s_.2.1), (7, s_.2.2.1), (10, s_.2.2.2.1), (11, s_.2.2.2.2.1), (14, s_.2.2.2.2.2.1), (15, s_.2.2.2.2.2.2)]) (fun s_ w' => (q_1 w') ∧ (RA Kd.string 9 w' w s_.2.1 ap) ∧ (RA Kd.bool 4 w' w s_.2.2.2.1 aP) ∧ (RA (Kd.int .i64) 3 w' w s_.2.2.2.2.2.1 bE) ∧ (RA k73 73 w' w s_.2.2.2.2.2.2 ac) ∧ (q_2 w') ∧ (q_3 w') ∧ BA w w') ?_ ?_
 ·clear z A HB; rintro ⟨L, W, M, ah, O, ba, P⟩ ct ⟨aQ, I, V, ao, E, z, A, HB⟩; (try dsimp only at aQ I V ao E z A HB); refine norm_ (a' := ?_) ?_ ?_; rotate_left
  ·simp only [putAll, Act.put, sA, sB, sC]
   rfl
  refine one_ (i := 15) (N := some 18) (bl 18 65535) rfl rfl (one_of aT.out (by kernel_rfl)) (by decide) (fun K hK => ?_); refine Kd.R_append_rows_step k73 (w0 := w) w.heap.size (by rfl) (.tmp 15) (.tmp 17) 25 73 (.agg #[(.int .i64 0), (.int .i64 0), (.int .i64 0)]) 24 rfl Try.underlying25 info73 rfl (by decide) (by omega) P ac am _ _ _ (fun _ => True) (fun _ => False) rfl rfl ?aO ?aR (fun _ _ h => h) (fun _ h => h.elim) ?aF ?aB ?aS ?aL ?_
  (case aR => exact cO (Kd.C_below b4.out HB.out))
  (case aB => exact (bP2 HB B D))
  (case aF => exact (fun _ _ => trivial))
  (case aO => exact (rP E))
  (case aS => exact (below_size (bP2 HB B D)))
  (case aL => have := cg.out; omega)
  intro cE bP ho hb hg hat; rw [← b9.out] at ho; replace z := kG z hg E; replace A := kG A hg E; replace I := aM (Kd.R_over' (rP I) (Kd.R_typed (rP E)) (by decide) hg); replace V := aM (Kd.R_over' (rP V) (Kd.R_typed (rP E)) (by decide) hg); replace ao := aM (Kd.R_over' (rP ao) (Kd.R_typed (rP E)) (by decide) hg); replace HB := aM (hb); have bQ := aM (ho); clear E; clear ho hb hg hat; obtain ⟨ci, cj, bZ⟩ := sL bQ
  (first | subst bZ | obtain ⟨rfl, rfl⟩ := iS bZ)
  obtain ⟨ck, cl, b0⟩ := sL ao
  (first | subst b0 | obtain ⟨rfl, rfl⟩ := iS b0)
  obtain ⟨cm, cn, b1⟩ := sL V
  (first | subst b1 | obtain ⟨rfl, rfl⟩ := iS b1)
  obtain ⟨co, cp, b2⟩ := sL I
  (first | subst b2 | obtain ⟨rfl, rfl⟩ := iS b2)
  refine hK.out _ _ (bD4 z) (fun aQ => ?_); clear hK K; refine nm_ 18 ?_; refine pu_ 16 19 (bl 18 131071) aT ?_; refine one_ (i := 17) (N := none) (bl 18 262143) rfl rfl (one_of aT.out (by kernel_rfl)) (by decide) (fun K hK => ?_); have hs26 : bP.cell? ⟨ab, 0, none⟩ = some (.slice none 0 0) := (blk_cell A.out 0).trans rfl; have hfs26 := blk_frozen A.out 0; have hns26_0 := Y.out; have hms26_0 := aG.out; have hs27 : bP.cell? ⟨ab, 1, none⟩ = some (.slice none 0 0) := (blk_cell A.out 1).trans rfl; have hfs27 := blk_frozen A.out 1; have hns27_0 := Y.out; have hms27_0 := aG.out; have hs28 : bP.cell? ⟨ab, 2, none⟩ = some (.slice none 0 0) := (blk_cell A.out 2).trans rfl; have hfs28 := blk_frozen A.out 2; have hns28_0 := Y.out; have hms28_0 := aG.out; have hs29 : bP.cell? ⟨ab, 3, none⟩ = some (.slice none 0 0) := (blk_cell A.out 3).trans rfl; have hfs29 := blk_frozen A.out 3; have hns29_0 := Y.out; have hms29_0 := aG.out; refine skip_ (w1 := ?_) (by rfl) rfl ?_ ?_; rotate_left
  ·go_simp
   rfl
  refine hK.out _ _ ⟨((cell_far (p := ⟨ab, _, none⟩) Y.out _).trans (((cell_far (p := ⟨ab, _, none⟩) Y.out _).trans (((cell_far (p := ⟨ab, _, none⟩) Y.out _).trans (((cell_far (p := ⟨ab, _, none⟩) Y.out _).trans (aQ.1)))))))), ((cell_far (p := ⟨ab, _, none⟩) Y.out _).trans (((cell_far (p := ⟨ab, _, none⟩) Y.out _).trans (((cell_far (p := ⟨ab, _, none⟩) Y.out _).trans (((cell_far (p := ⟨ab, _, none⟩) Y.out _).trans (aQ.2.1)))))))), ((cell_far (p := ⟨ab, _, none⟩) Y.out _).trans (((cell_far (p := ⟨ab, _, none⟩) Y.out _).trans (((cell_far (p := ⟨ab, _, none⟩) Y.out _).trans (((cell_far (p := ⟨ab, _, none⟩) Y.out _).trans (aQ.2.2.1)))))))), ((cell_far (p := ⟨ab, _, none⟩) Y.out _).trans (((cell_far (p := ⟨ab, _, none⟩) Y.out _).trans (((cell_far (p := ⟨ab, _, none⟩) Y.out _).trans (((cell_far (p := ⟨ab, _, none⟩) Y.out _).trans (aQ.2.2.2))))))))⟩ (fun aQ => ?_); clear hK K; refine done_ (done_of aT.out (by kernel_rfl)) ?_
  try go_wp2
  refine bodyPost_ret (results_cell_row rfl _ _ ab 27 #[.slice co ap.length cp, .slice cm aP.length cn, .slice ck bE.length cl, .slice ci ch.length cj] (0, 0) _ rfl (by (with_reducible repeat (first | refine blk_drewN ?_ _ | refine blk_drew ?_ | refine blk_alloc ?_ _)); exact blk_put (blk_put (blk_put (blk_put A.out 0 _ rfl) 1 _ rfl) 2 _ rfl) 3 _ rfl) Try.underlying27 rfl (by kernel_rfl)) rfl ?_; exact ⟨_, _, _, _, eW, rZ I A, rZ V A, rZ ao A, rZ bQ A, bS2 HB.out B.out D.out⟩
 intro ay; refine join_ (σ := Value × Value × Value × Value × Value × Value) 4 (bl 18 28671) (fun s_ => [(3, s_.1), (6, s_.2.1), (7, s_.2.2.1), (10, s_.2.2.2.1), (11, s_.2.2.2.2.1), (14, s_.2.2.2.2.2)]) (fun s_ w' => (q_1 w') ∧ (RA Kd.string 9 w' w s_.2.1 ap) ∧ (RA Kd.bool 4 w' w s_.2.2.2.1 aP) ∧ (RA (Kd.int .i64) 3 w' w s_.2.2.2.2.2 bE) ∧ (q_2 w') ∧ (q_3 w') ∧ BA w w') ?_ ?_
 ·clear z A HB; rintro ⟨L, W, M, ah, O, ba⟩ bz ⟨aQ, I, V, ao, z, A, HB⟩; (try dsimp only at aQ I V ao z A HB); refine norm_ (a' := ?_) ?_ ?_; rotate_left
  ·simp only [putAll, Act.put, sA, sB, sC]
   rfl
  refine one_ (i := 12) (N := some 15) (bl 18 32767) rfl rfl (one_of aT.out (by kernel_rfl)) (by decide) (fun K hK => ?_); refine lt_ k73 73 15 ([] : List (S73)) [] (Reps.none _ _) ?_; intro P cf bx hb
  replace bx := nW ak bx
  replace I := rB I hb; replace V := rB V hb; replace ao := rB ao hb; have E := rW bx (bP2 HB B D); replace z := kB z hb; replace A := kB A hb; replace HB := hS2 HB B D hb; clear hb bx; refine hK.out _ _ (bD4 z) (fun aQ => ?_); clear hK K; refine nm_ 15 ?_; exact norm_ pO (ay (L, W, M, ah, O, ba, P) _ ⟨aQ, rQ I, rQ V, rQ ao, rQ E, kQ z, kQ A, bT2 HB B D⟩)
 intro bb; refine join_ (σ := Value × Value × Value × Value × Value × Value) 4 (bl 18 30719) (fun s_ => [(3, s_.1), (6, s_.2.1), (7, s_.2.2.1), (10, s_.2.2.2.1), (11, s_.2.2.2.2.1), (15, s_.2.2.2.2.2)]) (fun s_ w' => (q_1 w') ∧ (RA Kd.string 9 w' w s_.2.1 ap) ∧ (RA Kd.bool 4 w' w s_.2.2.2.1 aP) ∧ (RA (Kd.int .i64) 3 w' w s_.2.2.2.2.1 ad) ∧ (RA k73 73 w' w s_.2.2.2.2.2 ac) ∧ (q_2 w') ∧ (q_3 w') ∧ BA w w') ?_ ?_
 ·clear z A HB; rintro ⟨L, W, M, ah, O, P⟩ cf ⟨aQ, I, V, F, E, z, A, HB⟩; (try dsimp only at aQ I V F E z A HB); refine norm_ (a' := ?_) ?_ ?_; rotate_left
  ·simp only [putAll, Act.put, sA, sB, sC]
   rfl
  refine one_ (i := 11) (N := some 14) (bl 18 32767) rfl rfl (one_of aT.out (by kernel_rfl)) (by decide) (fun K hK => ?_); refine Kd.R_append_rows_step (Kd.int .i64) (w0 := w) w.heap.size (by rfl) (.tmp 11) (.tmp 13) 24 3 (.int .i64 0) 8 rfl Try.underlying24 info3 rfl (by decide) (by omega) O ad aj _ _ _ (fun _ => True) (fun _ => False) rfl rfl ?aO ?aR (fun _ _ h => h) (fun _ h => h.elim) ?aF ?aB ?aS ?aL ?_
  (case aR => exact cO (Kd.C_below bN.out HB.out))
  (case aB => exact (bP2 HB B D))
  (case aF => exact (fun _ _ => trivial))
  (case aO => exact (rP F))
  (case aS => exact (below_size (bP2 HB B D)))
  (case aL => have := bY.out; omega)
  intro ba ct ho hb hg hat; rw [← bO.out] at ho; replace z := kG z hg F; replace A := kG A hg F; replace I := aM (Kd.R_over' (rP I) (Kd.R_typed (rP F)) (by decide) hg); replace V := aM (Kd.R_over' (rP V) (Kd.R_typed (rP F)) (by decide) hg); replace E := aM (Kd.R_over' (rP E) (Kd.R_typed (rP F)) (by decide) hg); replace HB := aM (hb); have ao := aM (ho); clear F; clear ho hb hg hat; refine hK.out _ _ (bD4 z) (fun aQ => ?_); clear hK K; refine nm_ 14 ?_; exact norm_ pO (ay (L, W, M, ah, O, ba, P) _ ⟨aQ, rQ I, rQ V, rQ ao, rQ E, kQ z, kQ A, bT2 HB B D⟩)
 intro aw; refine join_ (σ := Value × Value × Value × Value × Value) 5 (bl 18 26623) (fun s_ => [(3, s_.1), (6, s_.2.1), (7, s_.2.2.1), (10, s_.2.2.2.1), (11, s_.2.2.2.2)]) (fun s_ w' => (q_1 w') ∧ (RA Kd.string 9 w' w s_.2.1 ap) ∧ (RA Kd.bool 4 w' w s_.2.2.2.1 aP) ∧ (RA (Kd.int .i64) 3 w' w s_.2.2.2.2 ad) ∧ (q_2 w') ∧ (q_3 w') ∧ BA w w') ?_ ?_
 ·clear z A HB; rintro ⟨L, W, M, ah, O⟩ bp ⟨aQ, I, V, F, z, A, HB⟩; (try dsimp only at aQ I V F z A HB); refine norm_ (a' := ?_) ?_ ?_; rotate_left
  ·simp only [putAll, Act.put, sA, sB, sC]
   rfl
  refine two_ (i := 11) (j := 12) (Ni := some 14) (Nj := some 15) (bl 18 28671) (bl 18 30719) rfl rfl rfl rfl (two_of aT.out (by kernel_rfl)) (by decide) (by decide) (fun K hK => ?_) (fun K hK => ?_)
  ·refine Kd.R_append_rows_step (Kd.int .i64) (w0 := w) w.heap.size (by rfl) (.tmp 11) (.tmp 13) 24 3 (.int .i64 0) 8 rfl Try.underlying24 info3 rfl (by decide) (by omega) O ad aj _ _ _ (fun _ => True) (fun _ => False) rfl rfl ?aO ?aR (fun _ _ h => h) (fun _ h => h.elim) ?aF ?aB ?aS ?aL ?_
   (case aR => exact cO (Kd.C_below bN.out HB.out))
   (case aB => exact (bP2 HB B D))
   (case aF => exact (fun _ _ => trivial))
   (case aO => exact (rP F))
   (case aS => exact (below_size (bP2 HB B D)))
   (case aL => have := bY.out; omega)
   intro ba bz ho hb hg hat; rw [← bO.out] at ho; replace z := kG z hg F; replace A := kG A hg F; replace I := aM (Kd.R_over' (rP I) (Kd.R_typed (rP F)) (by decide) hg); replace V := aM (Kd.R_over' (rP V) (Kd.R_typed (rP F)) (by decide) hg); replace HB := aM (hb); have ao := aM (ho); clear F; clear ho hb hg hat; refine hK.out _ _ (bD4 z) (fun aQ => ?_); clear hK K; refine nm_ 14 ?_; exact norm_ pO (bb (L, W, M, ah, O, ba) _ ⟨aQ, rQ I, rQ V, rQ ao, kQ z, kQ A, bT2 HB B D⟩)
  ·refine lt_ k73 73 15 ([] : List (S73)) [] (Reps.none _ _) ?_; intro P bz aI hb
   replace aI := nW ak aI
   replace I := rB I hb; replace V := rB V hb; replace F := rB F hb; have E := rW aI (bP2 HB B D); replace z := kB z hb; replace A := kB A hb; replace HB := hS2 HB B D hb; clear hb aI; refine hK.out _ _ (bD4 z) (fun aQ => ?_); clear hK K; refine nm_ 15 ?_; exact norm_ pO (aw (L, W, M, ah, O, P) _ ⟨aQ, rQ I, rQ V, rQ F, rQ E, kQ z, kQ A, bT2 HB B D⟩)
 intro aY; refine join_ (σ := Value × Value × Value × Value × Value) 5 (bl 18 30463) (fun s_ => [(3, s_.1), (6, s_.2.1), (7, s_.2.2.1), (10, s_.2.2.2.1), (15, s_.2.2.2.2)]) (fun s_ w' => (q_1 w') ∧ (RA Kd.string 9 w' w s_.2.1 ap) ∧ (RA Kd.bool 4 w' w s_.2.2.2.1 aP) ∧ (RA k73 73 w' w s_.2.2.2.2 ac) ∧ (q_2 w') ∧ (q_3 w') ∧ BA w w') ?_ ?_
 ·clear z A HB; rintro ⟨L, W, M, ah, P⟩ bp ⟨aQ, I, V, E, z, A, HB⟩; (try dsimp only at aQ I V E z A HB); refine norm_ (a' := ?_) ?_ ?_; rotate_left
  ·simp only [putAll, Act.put, sA, sB, sC]
   rfl
  refine one_ (i := 8) (N := some 11) (bl 18 30719) rfl rfl (one_of aT.out (by kernel_rfl)) (by decide) (fun K hK => ?_); refine lt_ (Kd.int .i64) 3 11 ([] : List Int) [] (Reps.none _ _) ?_; intro O bz aI hb
  replace aI := nW an aI
  replace I := rB I hb; replace V := rB V hb; replace E := rB E hb; have F := rW aI (bP2 HB B D); replace z := kB z hb; replace A := kB A hb; replace HB := hS2 HB B D hb; clear hb aI; refine hK.out _ _ (bD4 z) (fun aQ => ?_); clear hK K; refine nm_ 11 ?_; exact norm_ pO (aw (L, W, M, ah, O, P) _ ⟨aQ, rQ I, rQ V, rQ F, rQ E, kQ z, kQ A, bT2 HB B D⟩)
 intro aU; refine join_ (σ := Value × Value × Value × Value × Value) 5 (bl 18 30591) (fun s_ => [(3, s_.1), (6, s_.2.1), (7, s_.2.2.1), (11, s_.2.2.2.1), (15, s_.2.2.2.2)]) (fun s_ w' => (q_1 w') ∧ (RA Kd.string 9 w' w s_.2.1 ap) ∧ (RA Kd.bool 4 w' w s_.2.2.1 ae) ∧ (RA (Kd.int .i64) 3 w' w s_.2.2.2.1 ad) ∧ (RA k73 73 w' w s_.2.2.2.2 ac) ∧ (q_2 w') ∧ (q_3 w') ∧ BA w w') ?_ ?_
 ·clear z A HB; rintro ⟨L, W, M, O, P⟩ bz ⟨aQ, I, G, F, E, z, A, HB⟩; (try dsimp only at aQ I G F E z A HB); refine norm_ (a' := ?_) ?_ ?_; rotate_left
  ·simp only [putAll, Act.put, sA, sB, sC]
   rfl
  refine one_ (i := 7) (N := some 10) (bl 18 30719) rfl rfl (one_of aT.out (by kernel_rfl)) (by decide) (fun K hK => ?_); refine Kd.R_append_rows_step Kd.bool (w0 := w) w.heap.size (by rfl) (.tmp 7) (.tmp 9) 23 4 (.bool false) 1 rfl Try.underlying23 info4 rfl (by decide) (by omega) M ae ai _ _ _ (fun _ => True) (fun _ => False) rfl rfl ?aO ?aR (fun _ _ h => h) (fun _ h => h.elim) ?aF ?aB ?aS ?aL ?_
  (case aR => exact cO (Kd.C_below be.out HB.out))
  (case aB => exact (bP2 HB B D))
  (case aF => exact (fun _ _ => trivial))
  (case aO => exact (rP G))
  (case aS => exact (below_size (bP2 HB B D)))
  (case aL => have := bv.out; omega)
  intro ah cf ho hb hg hat; rw [← bh.out] at ho; replace z := kG z hg G; replace A := kG A hg G; replace I := aM (Kd.R_over' (rP I) (Kd.R_typed (rP G)) (by decide) hg); replace F := aM (Kd.R_over' (rP F) (Kd.R_typed (rP G)) (by decide) hg); replace E := aM (Kd.R_over' (rP E) (Kd.R_typed (rP G)) (by decide) hg); replace HB := aM (hb); have V := aM (ho); clear G; clear ho hb hg hat; refine hK.out _ _ (bD4 z) (fun aQ => ?_); clear hK K; refine nm_ 10 ?_; exact norm_ pO (aw (L, W, M, ah, O, P) _ ⟨aQ, rQ I, rQ V, rQ F, rQ E, kQ z, kQ A, bT2 HB B D⟩)
 intro ar; refine join_ (σ := Value × Value × Value × Value) 6 (bl 18 26367) (fun s_ => [(3, s_.1), (6, s_.2.1), (7, s_.2.2.1), (10, s_.2.2.2)]) (fun s_ w' => (q_1 w') ∧ (RA Kd.string 9 w' w s_.2.1 ap) ∧ (RA Kd.bool 4 w' w s_.2.2.2 aP) ∧ (q_2 w') ∧ (q_3 w') ∧ BA w w') ?_ ?_
 ·clear z A HB; rintro ⟨L, W, M, ah⟩ aV ⟨aQ, I, V, z, A, HB⟩; (try dsimp only at aQ I V z A HB); refine norm_ (a' := ?_) ?_ ?_; rotate_left
  ·simp only [putAll, Act.put, sA, sB, sC]
   rfl
  refine two_ (i := 8) (j := 12) (Ni := some 11) (Nj := some 15) (bl 18 26623) (bl 18 30463) rfl rfl rfl rfl (two_of aT.out (by kernel_rfl)) (by decide) (by decide) (fun K hK => ?_) (fun K hK => ?_)
  ·refine lt_ (Kd.int .i64) 3 11 ([] : List Int) [] (Reps.none _ _) ?_; intro O aW Z hb
   replace Z := nW an Z
   replace I := rB I hb; replace V := rB V hb; have F := rW Z (bP2 HB B D); replace z := kB z hb; replace A := kB A hb; replace HB := hS2 HB B D hb; clear hb Z; refine hK.out _ _ (bD4 z) (fun aQ => ?_); clear hK K; refine nm_ 11 ?_; exact norm_ pO (aY (L, W, M, ah, O) _ ⟨aQ, rQ I, rQ V, rQ F, kQ z, kQ A, bT2 HB B D⟩)
  ·refine lt_ k73 73 15 ([] : List (S73)) [] (Reps.none _ _) ?_; intro P aW Z hb
   replace Z := nW ak Z
   replace I := rB I hb; replace V := rB V hb; have E := rW Z (bP2 HB B D); replace z := kB z hb; replace A := kB A hb; replace HB := hS2 HB B D hb; clear hb Z; refine hK.out _ _ (bD4 z) (fun aQ => ?_); clear hK K; refine nm_ 15 ?_; exact norm_ pO (aU (L, W, M, ah, P) _ ⟨aQ, rQ I, rQ V, rQ E, kQ z, kQ A, bT2 HB B D⟩)
 intro bA; refine join_ (σ := Value × Value × Value × Value) 6 (bl 18 26495) (fun s_ => [(3, s_.1), (6, s_.2.1), (7, s_.2.2.1), (11, s_.2.2.2)]) (fun s_ w' => (q_1 w') ∧ (RA Kd.string 9 w' w s_.2.1 ap) ∧ (RA Kd.bool 4 w' w s_.2.2.1 ae) ∧ (RA (Kd.int .i64) 3 w' w s_.2.2.2 ad) ∧ (q_2 w') ∧ (q_3 w') ∧ BA w w') ?_ ?_
 ·clear z A HB; rintro ⟨L, W, M, O⟩ aW ⟨aQ, I, G, F, z, A, HB⟩; (try dsimp only at aQ I G F z A HB); refine norm_ (a' := ?_) ?_ ?_; rotate_left
  ·simp only [putAll, Act.put, sA, sB, sC]
   rfl
  refine two_ (i := 7) (j := 12) (Ni := some 10) (Nj := some 15) (bl 18 26623) (bl 18 30591) rfl rfl rfl rfl (two_of aT.out (by kernel_rfl)) (by decide) (by decide) (fun K hK => ?_) (fun K hK => ?_)
  ·refine Kd.R_append_rows_step Kd.bool (w0 := w) w.heap.size (by rfl) (.tmp 7) (.tmp 9) 23 4 (.bool false) 1 rfl Try.underlying23 info4 rfl (by decide) (by omega) M ae ai _ _ _ (fun _ => True) (fun _ => False) rfl rfl ?aO ?aR (fun _ _ h => h) (fun _ h => h.elim) ?aF ?aB ?aS ?aL ?_
   (case aR => exact cO (Kd.C_below be.out HB.out))
   (case aB => exact (bP2 HB B D))
   (case aF => exact (fun _ _ => trivial))
   (case aO => exact (rP G))
   (case aS => exact (below_size (bP2 HB B D)))
   (case aL => have := bv.out; omega)
   intro ah bp ho hb hg hat; rw [← bh.out] at ho; replace z := kG z hg G; replace A := kG A hg G; replace I := aM (Kd.R_over' (rP I) (Kd.R_typed (rP G)) (by decide) hg); replace F := aM (Kd.R_over' (rP F) (Kd.R_typed (rP G)) (by decide) hg); replace HB := aM (hb); have V := aM (ho); clear G; clear ho hb hg hat; refine hK.out _ _ (bD4 z) (fun aQ => ?_); clear hK K; refine nm_ 10 ?_; exact norm_ pO (aY (L, W, M, ah, O) _ ⟨aQ, rQ I, rQ V, rQ F, kQ z, kQ A, bT2 HB B D⟩)
  ·refine lt_ k73 73 15 ([] : List (S73)) [] (Reps.none _ _) ?_; intro P bp au hb
   replace au := nW ak au
   replace I := rB I hb; replace G := rB G hb; replace F := rB F hb; have E := rW au (bP2 HB B D); replace z := kB z hb; replace A := kB A hb; replace HB := hS2 HB B D hb; clear hb au; refine hK.out _ _ (bD4 z) (fun aQ => ?_); clear hK K; refine nm_ 15 ?_; exact norm_ pO (ar (L, W, M, O, P) _ ⟨aQ, rQ I, rQ G, rQ F, rQ E, kQ z, kQ A, bT2 HB B D⟩)
 intro aX; refine join_ (σ := Value × Value × Value × Value) 6 (bl 18 30335) (fun s_ => [(3, s_.1), (6, s_.2.1), (7, s_.2.2.1), (15, s_.2.2.2)]) (fun s_ w' => (q_1 w') ∧ (RA Kd.string 9 w' w s_.2.1 ap) ∧ (RA Kd.bool 4 w' w s_.2.2.1 ae) ∧ (RA k73 73 w' w s_.2.2.2 ac) ∧ (q_2 w') ∧ (q_3 w') ∧ BA w w') ?_ ?_
 ·clear z A HB; rintro ⟨L, W, M, P⟩ aW ⟨aQ, I, G, E, z, A, HB⟩; (try dsimp only at aQ I G E z A HB); refine norm_ (a' := ?_) ?_ ?_; rotate_left
  ·simp only [putAll, Act.put, sA, sB, sC]
   rfl
  refine two_ (i := 7) (j := 8) (Ni := some 10) (Nj := some 11) (bl 18 30463) (bl 18 30591) rfl rfl rfl rfl (two_of aT.out (by kernel_rfl)) (by decide) (by decide) (fun K hK => ?_) (fun K hK => ?_)
  ·refine Kd.R_append_rows_step Kd.bool (w0 := w) w.heap.size (by rfl) (.tmp 7) (.tmp 9) 23 4 (.bool false) 1 rfl Try.underlying23 info4 rfl (by decide) (by omega) M ae ai _ _ _ (fun _ => True) (fun _ => False) rfl rfl ?aO ?aR (fun _ _ h => h) (fun _ h => h.elim) ?aF ?aB ?aS ?aL ?_
   (case aR => exact cO (Kd.C_below be.out HB.out))
   (case aB => exact (bP2 HB B D))
   (case aF => exact (fun _ _ => trivial))
   (case aO => exact (rP G))
   (case aS => exact (below_size (bP2 HB B D)))
   (case aL => have := bv.out; omega)
   intro ah bp ho hb hg hat; rw [← bh.out] at ho; replace z := kG z hg G; replace A := kG A hg G; replace I := aM (Kd.R_over' (rP I) (Kd.R_typed (rP G)) (by decide) hg); replace E := aM (Kd.R_over' (rP E) (Kd.R_typed (rP G)) (by decide) hg); replace HB := aM (hb); have V := aM (ho); clear G; clear ho hb hg hat; refine hK.out _ _ (bD4 z) (fun aQ => ?_); clear hK K; refine nm_ 10 ?_; exact norm_ pO (aU (L, W, M, ah, P) _ ⟨aQ, rQ I, rQ V, rQ E, kQ z, kQ A, bT2 HB B D⟩)
  ·refine lt_ (Kd.int .i64) 3 11 ([] : List Int) [] (Reps.none _ _) ?_; intro O bp au hb
   replace au := nW an au
   replace I := rB I hb; replace G := rB G hb; replace E := rB E hb; have F := rW au (bP2 HB B D); replace z := kB z hb; replace A := kB A hb; replace HB := hS2 HB B D hb; clear hb au; refine hK.out _ _ (bD4 z) (fun aQ => ?_); clear hK K; refine nm_ 11 ?_; exact norm_ pO (ar (L, W, M, O, P) _ ⟨aQ, rQ I, rQ G, rQ F, rQ E, kQ z, kQ A, bT2 HB B D⟩)
 intro aJ; refine join_ (σ := Value × Value × Value × Value) 6 (bl 18 30575) (fun s_ => [(3, s_.1), (6, s_.2.1), (11, s_.2.2.1), (15, s_.2.2.2)]) (fun s_ w' => (q_1 w') ∧ (RA Kd.string 9 w' w s_.2.1 ap) ∧ (RA (Kd.int .i64) 3 w' w s_.2.2.1 ad) ∧ (RA k73 73 w' w s_.2.2.2 ac) ∧ (q_2 w') ∧ (q_3 w') ∧ BA w w') ?_ ?_
 ·clear z A HB; rintro ⟨L, W, O, P⟩ aW ⟨aQ, I, F, E, z, A, HB⟩; (try dsimp only at aQ I F E z A HB); refine norm_ (a' := ?_) ?_ ?_; rotate_left
  ·simp only [putAll, Act.put, sA, sB, sC]
   rfl
  refine one_ (i := 4) (N := some 7) (bl 18 30591) rfl rfl (one_of aT.out (by kernel_rfl)) (by decide) (fun K hK => ?_); refine lt_ Kd.bool 4 7 ([] : List Bool) [] (Reps.none _ _) ?_; intro M bp au hb
  replace au := nW aq au
  replace I := rB I hb; replace F := rB F hb; replace E := rB E hb; have G := rW au (bP2 HB B D); replace z := kB z hb; replace A := kB A hb; replace HB := hS2 HB B D hb; clear hb au; refine hK.out _ _ (bD4 z) (fun aQ => ?_); clear hK K; refine nm_ 7 ?_; exact norm_ pO (ar (L, W, M, O, P) _ ⟨aQ, rQ I, rQ G, rQ F, rQ E, kQ z, kQ A, bT2 HB B D⟩)
 intro aK; refine join_ (σ := Value × Value × Value × Value) 6 (bl 18 30583) (fun s_ => [(3, s_.1), (7, s_.2.1), (11, s_.2.2.1), (15, s_.2.2.2)]) (fun s_ w' => (q_1 w') ∧ (RA Kd.string 9 w' w s_.1 ag) ∧ (RA Kd.bool 4 w' w s_.2.1 ae) ∧ (RA (Kd.int .i64) 3 w' w s_.2.2.1 ad) ∧ (RA k73 73 w' w s_.2.2.2 ac) ∧ (q_2 w') ∧ (q_3 w') ∧ BA w w') ?_ ?_
 ·clear z A HB; rintro ⟨L, M, O, P⟩ bp ⟨aQ, J, G, F, E, z, A, HB⟩; (try dsimp only at aQ J G F E z A HB); refine norm_ (a' := ?_) ?_ ?_; rotate_left
  ·simp only [putAll, Act.put, sA, sB, sC]
   rfl
  refine one_ (i := 3) (N := some 6) (bl 18 30591) rfl rfl (one_of aT.out (by kernel_rfl)) (by decide) (fun K hK => ?_); refine Kd.R_append_rows_step Kd.string (w0 := w) w.heap.size (by rfl) (.tmp 3) (.tmp 5) 22 9 (.string ⟨#[]⟩) 16 rfl Try.underlying22 info9 rfl (by decide) (by omega) L ag af _ _ _ (fun _ => True) (fun _ => False) rfl rfl ?aO ?aR (fun _ _ h => h) (fun _ h => h.elim) ?aF ?aB ?aS ?aL ?_
  (case aR => exact cO (Kd.C_below aC.out HB.out))
  (case aB => exact (bP2 HB B D))
  (case aF => exact (fun _ _ => trivial))
  (case aO => exact (rP J))
  (case aS => exact (below_size (bP2 HB B D)))
  (case aL => have := aN.out; omega)
  intro W bz ho hb hg hat; rw [← aE.out] at ho; replace z := kG z hg J; replace A := kG A hg J; replace G := aM (Kd.R_over' (rP G) (Kd.R_typed (rP J)) (by decide) hg); replace F := aM (Kd.R_over' (rP F) (Kd.R_typed (rP J)) (by decide) hg); replace E := aM (Kd.R_over' (rP E) (Kd.R_typed (rP J)) (by decide) hg); replace HB := aM (hb); have I := aM (ho); clear J; clear ho hb hg hat; refine hK.out _ _ (bD4 z) (fun aQ => ?_); clear hK K; refine nm_ 6 ?_; exact norm_ pO (ar (L, W, M, O, P) _ ⟨aQ, rQ I, rQ G, rQ F, rQ E, kQ z, kQ A, bT2 HB B D⟩)
 intro aA; refine join_ (σ := Value × Value × Value) 7 (bl 18 26239) (fun s_ => [(3, s_.1), (6, s_.2.1), (7, s_.2.2)]) (fun s_ w' => (q_1 w') ∧ (RA Kd.string 9 w' w s_.2.1 ap) ∧ (RA Kd.bool 4 w' w s_.2.2 ae) ∧ (q_2 w') ∧ (q_3 w') ∧ BA w w') ?_ ?_
 ·clear z A HB; rintro ⟨L, W, M⟩ ax ⟨aQ, I, G, z, A, HB⟩; (try dsimp only at aQ I G z A HB); refine norm_ (a' := ?_) ?_ ?_; rotate_left
  ·simp only [putAll, Act.put, sA, sB, sC]
   rfl
  refine three_ (i := 7) (j := 8) (k := 12) (Ni := some 10) (Nj := some 11) (Nk := some 15) (bl 18 26367) (bl 18 26495) (bl 18 30335) rfl rfl rfl rfl rfl rfl (three_of aT.out (by kernel_rfl)) (by decide) (by decide) (by decide) (fun K hK => ?_) (fun K hK => ?_) (fun K hK => ?_)
  ·refine Kd.R_append_rows_step Kd.bool (w0 := w) w.heap.size (by rfl) (.tmp 7) (.tmp 9) 23 4 (.bool false) 1 rfl Try.underlying23 info4 rfl (by decide) (by omega) M ae ai _ _ _ (fun _ => True) (fun _ => False) rfl rfl ?aO ?aR (fun _ _ h => h) (fun _ h => h.elim) ?aF ?aB ?aS ?aL ?_
   (case aR => exact cO (Kd.C_below be.out HB.out))
   (case aB => exact (bP2 HB B D))
   (case aF => exact (fun _ _ => trivial))
   (case aO => exact (rP G))
   (case aS => exact (below_size (bP2 HB B D)))
   (case aL => have := bv.out; omega)
   intro ah aV ho hb hg hat; rw [← bh.out] at ho; replace z := kG z hg G; replace A := kG A hg G; replace I := aM (Kd.R_over' (rP I) (Kd.R_typed (rP G)) (by decide) hg); replace HB := aM (hb); have V := aM (ho); clear G; clear ho hb hg hat; refine hK.out _ _ (bD4 z) (fun aQ => ?_); clear hK K; refine nm_ 10 ?_; exact norm_ pO (bA (L, W, M, ah) _ ⟨aQ, rQ I, rQ V, kQ z, kQ A, bT2 HB B D⟩)
  ·refine lt_ (Kd.int .i64) 3 11 ([] : List Int) [] (Reps.none _ _) ?_; intro O aV aa hb
   replace aa := nW an aa
   replace I := rB I hb; replace G := rB G hb; have F := rW aa (bP2 HB B D); replace z := kB z hb; replace A := kB A hb; replace HB := hS2 HB B D hb; clear hb aa; refine hK.out _ _ (bD4 z) (fun aQ => ?_); clear hK K; refine nm_ 11 ?_; exact norm_ pO (aX (L, W, M, O) _ ⟨aQ, rQ I, rQ G, rQ F, kQ z, kQ A, bT2 HB B D⟩)
  ·refine lt_ k73 73 15 ([] : List (S73)) [] (Reps.none _ _) ?_; intro P aV aa hb
   replace aa := nW ak aa
   replace I := rB I hb; replace G := rB G hb; have E := rW aa (bP2 HB B D); replace z := kB z hb; replace A := kB A hb; replace HB := hS2 HB B D hb; clear hb aa; refine hK.out _ _ (bD4 z) (fun aQ => ?_); clear hK K; refine nm_ 15 ?_; exact norm_ pO (aJ (L, W, M, P) _ ⟨aQ, rQ I, rQ G, rQ E, kQ z, kQ A, bT2 HB B D⟩)
 intro br; refine join_ (σ := Value × Value × Value) 7 (bl 18 26479) (fun s_ => [(3, s_.1), (6, s_.2.1), (11, s_.2.2)]) (fun s_ w' => (q_1 w') ∧ (RA Kd.string 9 w' w s_.2.1 ap) ∧ (RA (Kd.int .i64) 3 w' w s_.2.2 ad) ∧ (q_2 w') ∧ (q_3 w') ∧ BA w w') ?_ ?_
 ·clear z A HB; rintro ⟨L, W, O⟩ ax ⟨aQ, I, F, z, A, HB⟩; (try dsimp only at aQ I F z A HB); refine norm_ (a' := ?_) ?_ ?_; rotate_left
  ·simp only [putAll, Act.put, sA, sB, sC]
   rfl
  refine two_ (i := 4) (j := 12) (Ni := some 7) (Nj := some 15) (bl 18 26495) (bl 18 30575) rfl rfl rfl rfl (two_of aT.out (by kernel_rfl)) (by decide) (by decide) (fun K hK => ?_) (fun K hK => ?_)
  ·refine lt_ Kd.bool 4 7 ([] : List Bool) [] (Reps.none _ _) ?_; intro M aV aa hb
   replace aa := nW aq aa
   replace I := rB I hb; replace F := rB F hb; have G := rW aa (bP2 HB B D); replace z := kB z hb; replace A := kB A hb; replace HB := hS2 HB B D hb; clear hb aa; refine hK.out _ _ (bD4 z) (fun aQ => ?_); clear hK K; refine nm_ 7 ?_; exact norm_ pO (aX (L, W, M, O) _ ⟨aQ, rQ I, rQ G, rQ F, kQ z, kQ A, bT2 HB B D⟩)
  ·refine lt_ k73 73 15 ([] : List (S73)) [] (Reps.none _ _) ?_; intro P aV aa hb
   replace aa := nW ak aa
   replace I := rB I hb; replace F := rB F hb; have E := rW aa (bP2 HB B D); replace z := kB z hb; replace A := kB A hb; replace HB := hS2 HB B D hb; clear hb aa; refine hK.out _ _ (bD4 z) (fun aQ => ?_); clear hK K; refine nm_ 15 ?_; exact norm_ pO (aK (L, W, O, P) _ ⟨aQ, rQ I, rQ F, rQ E, kQ z, kQ A, bT2 HB B D⟩)
 intro bs; refine join_ (σ := Value × Value × Value) 7 (bl 18 30319) (fun s_ => [(3, s_.1), (6, s_.2.1), (15, s_.2.2)]) (fun s_ w' => (q_1 w') ∧ (RA Kd.string 9 w' w s_.2.1 ap) ∧ (RA k73 73 w' w s_.2.2 ac) ∧ (q_2 w') ∧ (q_3 w') ∧ BA w w') ?_ ?_
 ·clear z A HB; rintro ⟨L, W, P⟩ ax ⟨aQ, I, E, z, A, HB⟩; (try dsimp only at aQ I E z A HB); refine norm_ (a' := ?_) ?_ ?_; rotate_left
  ·simp only [putAll, Act.put, sA, sB, sC]
   rfl
  refine two_ (i := 4) (j := 8) (Ni := some 7) (Nj := some 11) (bl 18 30335) (bl 18 30575) rfl rfl rfl rfl (two_of aT.out (by kernel_rfl)) (by decide) (by decide) (fun K hK => ?_) (fun K hK => ?_)
  ·refine lt_ Kd.bool 4 7 ([] : List Bool) [] (Reps.none _ _) ?_; intro M aV aa hb
   replace aa := nW aq aa
   replace I := rB I hb; replace E := rB E hb; have G := rW aa (bP2 HB B D); replace z := kB z hb; replace A := kB A hb; replace HB := hS2 HB B D hb; clear hb aa; refine hK.out _ _ (bD4 z) (fun aQ => ?_); clear hK K; refine nm_ 7 ?_; exact norm_ pO (aJ (L, W, M, P) _ ⟨aQ, rQ I, rQ G, rQ E, kQ z, kQ A, bT2 HB B D⟩)
  ·refine lt_ (Kd.int .i64) 3 11 ([] : List Int) [] (Reps.none _ _) ?_; intro O aV aa hb
   replace aa := nW an aa
   replace I := rB I hb; replace E := rB E hb; have F := rW aa (bP2 HB B D); replace z := kB z hb; replace A := kB A hb; replace HB := hS2 HB B D hb; clear hb aa; refine hK.out _ _ (bD4 z) (fun aQ => ?_); clear hK K; refine nm_ 11 ?_; exact norm_ pO (aK (L, W, O, P) _ ⟨aQ, rQ I, rQ F, rQ E, kQ z, kQ A, bT2 HB B D⟩)
 intro bq; refine join_ (σ := Value × Value × Value) 7 (bl 18 26487) (fun s_ => [(3, s_.1), (7, s_.2.1), (11, s_.2.2)]) (fun s_ w' => (q_1 w') ∧ (RA Kd.string 9 w' w s_.1 ag) ∧ (RA Kd.bool 4 w' w s_.2.1 ae) ∧ (RA (Kd.int .i64) 3 w' w s_.2.2 ad) ∧ (q_2 w') ∧ (q_3 w') ∧ BA w w') ?_ ?_
 ·clear z A HB; rintro ⟨L, M, O⟩ aV ⟨aQ, J, G, F, z, A, HB⟩; (try dsimp only at aQ J G F z A HB); refine norm_ (a' := ?_) ?_ ?_; rotate_left
  ·simp only [putAll, Act.put, sA, sB, sC]
   rfl
  refine two_ (i := 3) (j := 12) (Ni := some 6) (Nj := some 15) (bl 18 26495) (bl 18 30583) rfl rfl rfl rfl (two_of aT.out (by kernel_rfl)) (by decide) (by decide) (fun K hK => ?_) (fun K hK => ?_)
  ·refine Kd.R_append_rows_step Kd.string (w0 := w) w.heap.size (by rfl) (.tmp 3) (.tmp 5) 22 9 (.string ⟨#[]⟩) 16 rfl Try.underlying22 info9 rfl (by decide) (by omega) L ag af _ _ _ (fun _ => True) (fun _ => False) rfl rfl ?aO ?aR (fun _ _ h => h) (fun _ h => h.elim) ?aF ?aB ?aS ?aL ?_
   (case aR => exact cO (Kd.C_below aC.out HB.out))
   (case aB => exact (bP2 HB B D))
   (case aF => exact (fun _ _ => trivial))
   (case aO => exact (rP J))
   (case aS => exact (below_size (bP2 HB B D)))
   (case aL => have := aN.out; omega)
   intro W aW ho hb hg hat; rw [← aE.out] at ho; replace z := kG z hg J; replace A := kG A hg J; replace G := aM (Kd.R_over' (rP G) (Kd.R_typed (rP J)) (by decide) hg); replace F := aM (Kd.R_over' (rP F) (Kd.R_typed (rP J)) (by decide) hg); replace HB := aM (hb); have I := aM (ho); clear J; clear ho hb hg hat; refine hK.out _ _ (bD4 z) (fun aQ => ?_); clear hK K; refine nm_ 6 ?_; exact norm_ pO (aX (L, W, M, O) _ ⟨aQ, rQ I, rQ G, rQ F, kQ z, kQ A, bT2 HB B D⟩)
  ·refine lt_ k73 73 15 ([] : List (S73)) [] (Reps.none _ _) ?_; intro P aW Z hb
   replace Z := nW ak Z
   replace J := rB J hb; replace G := rB G hb; replace F := rB F hb; have E := rW Z (bP2 HB B D); replace z := kB z hb; replace A := kB A hb; replace HB := hS2 HB B D hb; clear hb Z; refine hK.out _ _ (bD4 z) (fun aQ => ?_); clear hK K; refine nm_ 15 ?_; exact norm_ pO (aA (L, M, O, P) _ ⟨aQ, rQ J, rQ G, rQ F, rQ E, kQ z, kQ A, bT2 HB B D⟩)
 intro bc; refine join_ (σ := Value × Value × Value) 7 (bl 18 30327) (fun s_ => [(3, s_.1), (7, s_.2.1), (15, s_.2.2)]) (fun s_ w' => (q_1 w') ∧ (RA Kd.string 9 w' w s_.1 ag) ∧ (RA Kd.bool 4 w' w s_.2.1 ae) ∧ (RA k73 73 w' w s_.2.2 ac) ∧ (q_2 w') ∧ (q_3 w') ∧ BA w w') ?_ ?_
 ·clear z A HB; rintro ⟨L, M, P⟩ aV ⟨aQ, J, G, E, z, A, HB⟩; (try dsimp only at aQ J G E z A HB); refine norm_ (a' := ?_) ?_ ?_; rotate_left
  ·simp only [putAll, Act.put, sA, sB, sC]
   rfl
  refine two_ (i := 3) (j := 8) (Ni := some 6) (Nj := some 11) (bl 18 30335) (bl 18 30583) rfl rfl rfl rfl (two_of aT.out (by kernel_rfl)) (by decide) (by decide) (fun K hK => ?_) (fun K hK => ?_)
  ·refine Kd.R_append_rows_step Kd.string (w0 := w) w.heap.size (by rfl) (.tmp 3) (.tmp 5) 22 9 (.string ⟨#[]⟩) 16 rfl Try.underlying22 info9 rfl (by decide) (by omega) L ag af _ _ _ (fun _ => True) (fun _ => False) rfl rfl ?aO ?aR (fun _ _ h => h) (fun _ h => h.elim) ?aF ?aB ?aS ?aL ?_
   (case aR => exact cO (Kd.C_below aC.out HB.out))
   (case aB => exact (bP2 HB B D))
   (case aF => exact (fun _ _ => trivial))
   (case aO => exact (rP J))
   (case aS => exact (below_size (bP2 HB B D)))
   (case aL => have := aN.out; omega)
   intro W aW ho hb hg hat; rw [← aE.out] at ho; replace z := kG z hg J; replace A := kG A hg J; replace G := aM (Kd.R_over' (rP G) (Kd.R_typed (rP J)) (by decide) hg); replace E := aM (Kd.R_over' (rP E) (Kd.R_typed (rP J)) (by decide) hg); replace HB := aM (hb); have I := aM (ho); clear J; clear ho hb hg hat; refine hK.out _ _ (bD4 z) (fun aQ => ?_); clear hK K; refine nm_ 6 ?_; exact norm_ pO (aJ (L, W, M, P) _ ⟨aQ, rQ I, rQ G, rQ E, kQ z, kQ A, bT2 HB B D⟩)
  ·refine lt_ (Kd.int .i64) 3 11 ([] : List Int) [] (Reps.none _ _) ?_; intro O aW Z hb
   replace Z := nW an Z
   replace J := rB J hb; replace G := rB G hb; replace E := rB E hb; have F := rW Z (bP2 HB B D); replace z := kB z hb; replace A := kB A hb; replace HB := hS2 HB B D hb; clear hb Z; refine hK.out _ _ (bD4 z) (fun aQ => ?_); clear hK K; refine nm_ 11 ?_; exact norm_ pO (aA (L, M, O, P) _ ⟨aQ, rQ J, rQ G, rQ F, rQ E, kQ z, kQ A, bT2 HB B D⟩)
 intro aZ; refine join_ (σ := Value × Value × Value) 7 (bl 18 30567) (fun s_ => [(3, s_.1), (11, s_.2.1), (15, s_.2.2)]) (fun s_ w' => (q_1 w') ∧ (RA Kd.string 9 w' w s_.1 ag) ∧ (RA (Kd.int .i64) 3 w' w s_.2.1 ad) ∧ (RA k73 73 w' w s_.2.2 ac) ∧ (q_2 w') ∧ (q_3 w') ∧ BA w w') ?_ ?_
 ·clear z A HB; rintro ⟨L, O, P⟩ aV ⟨aQ, J, F, E, z, A, HB⟩; (try dsimp only at aQ J F E z A HB); refine norm_ (a' := ?_) ?_ ?_; rotate_left
  ·simp only [putAll, Act.put, sA, sB, sC]
   rfl
  refine two_ (i := 3) (j := 4) (Ni := some 6) (Nj := some 7) (bl 18 30575) (bl 18 30583) rfl rfl rfl rfl (two_of aT.out (by kernel_rfl)) (by decide) (by decide) (fun K hK => ?_) (fun K hK => ?_)
  ·refine Kd.R_append_rows_step Kd.string (w0 := w) w.heap.size (by rfl) (.tmp 3) (.tmp 5) 22 9 (.string ⟨#[]⟩) 16 rfl Try.underlying22 info9 rfl (by decide) (by omega) L ag af _ _ _ (fun _ => True) (fun _ => False) rfl rfl ?aO ?aR (fun _ _ h => h) (fun _ h => h.elim) ?aF ?aB ?aS ?aL ?_
   (case aR => exact cO (Kd.C_below aC.out HB.out))
   (case aB => exact (bP2 HB B D))
   (case aF => exact (fun _ _ => trivial))
   (case aO => exact (rP J))
   (case aS => exact (below_size (bP2 HB B D)))
   (case aL => have := aN.out; omega)
   intro W aW ho hb hg hat; rw [← aE.out] at ho; replace z := kG z hg J; replace A := kG A hg J; replace F := aM (Kd.R_over' (rP F) (Kd.R_typed (rP J)) (by decide) hg); replace E := aM (Kd.R_over' (rP E) (Kd.R_typed (rP J)) (by decide) hg); replace HB := aM (hb); have I := aM (ho); clear J; clear ho hb hg hat; refine hK.out _ _ (bD4 z) (fun aQ => ?_); clear hK K; refine nm_ 6 ?_; exact norm_ pO (aK (L, W, O, P) _ ⟨aQ, rQ I, rQ F, rQ E, kQ z, kQ A, bT2 HB B D⟩)
  ·refine lt_ Kd.bool 4 7 ([] : List Bool) [] (Reps.none _ _) ?_; intro M aW Z hb
   replace Z := nW aq Z
   replace J := rB J hb; replace F := rB F hb; replace E := rB E hb; have G := rW Z (bP2 HB B D); replace z := kB z hb; replace A := kB A hb; replace HB := hS2 HB B D hb; clear hb Z; refine hK.out _ _ (bD4 z) (fun aQ => ?_); clear hK K; refine nm_ 7 ?_; exact norm_ pO (aA (L, M, O, P) _ ⟨aQ, rQ J, rQ G, rQ F, rQ E, kQ z, kQ A, bT2 HB B D⟩)
 intro a0; refine join_ (σ := Value × Value × Value) 7 (bl 18 30582) (fun s_ => [(7, s_.1), (11, s_.2.1), (15, s_.2.2)]) (fun s_ w' => (q_1 w') ∧ (RA Kd.bool 4 w' w s_.1 ae) ∧ (RA (Kd.int .i64) 3 w' w s_.2.1 ad) ∧ (RA k73 73 w' w s_.2.2 ac) ∧ (q_2 w') ∧ (q_3 w') ∧ BA w w') ?_ ?_
 ·clear z A HB; rintro ⟨M, O, P⟩ aV ⟨aQ, G, F, E, z, A, HB⟩; (try dsimp only at aQ G F E z A HB); refine norm_ (a' := ?_) ?_ ?_; rotate_left
  ·simp only [putAll, Act.put, sA, sB, sC]
   rfl
  refine one_ (i := 0) (N := some 3) (bl 18 30583) rfl rfl (one_of aT.out (by kernel_rfl)) (by decide) (fun K hK => ?_); refine lt_ Kd.string 9 3 ([] : List ByteArray) [] (Reps.none _ _) ?_; intro L aW Z hb
  replace Z := nW aD Z
  replace G := rB G hb; replace F := rB F hb; replace E := rB E hb; have J := rW Z (bP2 HB B D); replace z := kB z hb; replace A := kB A hb; replace HB := hS2 HB B D hb; clear hb Z; refine hK.out _ _ (bD4 z) (fun aQ => ?_); clear hK K; refine nm_ 3 ?_; exact norm_ pO (aA (L, M, O, P) _ ⟨aQ, rQ J, rQ G, rQ F, rQ E, kQ z, kQ A, bT2 HB B D⟩)
 intro a1; refine join_ (σ := Value × Value) 8 (bl 18 26223) (fun s_ => [(3, s_.1), (6, s_.2)]) (fun s_ w' => (q_1 w') ∧ (RA Kd.string 9 w' w s_.2 ap) ∧ (q_2 w') ∧ (q_3 w') ∧ BA w w') ?_ ?_
 ·clear z A HB; rintro ⟨L, W⟩ aH ⟨aQ, I, z, A, HB⟩; (try dsimp only at aQ I z A HB); refine norm_ (a' := ?_) ?_ ?_; rotate_left
  ·simp only [putAll, Act.put, sA, sB, sC]
   rfl
  refine three_ (i := 4) (j := 8) (k := 12) (Ni := some 7) (Nj := some 11) (Nk := some 15) (bl 18 26239) (bl 18 26479) (bl 18 30319) rfl rfl rfl rfl rfl rfl (three_of aT.out (by kernel_rfl)) (by decide) (by decide) (by decide) (fun K hK => ?_) (fun K hK => ?_) (fun K hK => ?_)
  ·refine lt_ Kd.bool 4 7 ([] : List Bool) [] (Reps.none _ _) ?_; intro M bd av hb
   replace av := nW aq av
   replace I := rB I hb; have G := rW av (bP2 HB B D); replace z := kB z hb; replace A := kB A hb; replace HB := hS2 HB B D hb; clear hb av; refine hK.out _ _ (bD4 z) (fun aQ => ?_); clear hK K; refine nm_ 7 ?_; exact norm_ pO (br (L, W, M) _ ⟨aQ, rQ I, rQ G, kQ z, kQ A, bT2 HB B D⟩)
  ·refine lt_ (Kd.int .i64) 3 11 ([] : List Int) [] (Reps.none _ _) ?_; intro O bd av hb
   replace av := nW an av
   replace I := rB I hb; have F := rW av (bP2 HB B D); replace z := kB z hb; replace A := kB A hb; replace HB := hS2 HB B D hb; clear hb av; refine hK.out _ _ (bD4 z) (fun aQ => ?_); clear hK K; refine nm_ 11 ?_; exact norm_ pO (bs (L, W, O) _ ⟨aQ, rQ I, rQ F, kQ z, kQ A, bT2 HB B D⟩)
  ·refine lt_ k73 73 15 ([] : List (S73)) [] (Reps.none _ _) ?_; intro P bd av hb
   replace av := nW ak av
   replace I := rB I hb; have E := rW av (bP2 HB B D); replace z := kB z hb; replace A := kB A hb; replace HB := hS2 HB B D hb; clear hb av; refine hK.out _ _ (bD4 z) (fun aQ => ?_); clear hK K; refine nm_ 15 ?_; exact norm_ pO (bq (L, W, P) _ ⟨aQ, rQ I, rQ E, kQ z, kQ A, bT2 HB B D⟩)
 intro ca; refine join_ (σ := Value × Value) 8 (bl 18 26231) (fun s_ => [(3, s_.1), (7, s_.2)]) (fun s_ w' => (q_1 w') ∧ (RA Kd.string 9 w' w s_.1 ag) ∧ (RA Kd.bool 4 w' w s_.2 ae) ∧ (q_2 w') ∧ (q_3 w') ∧ BA w w') ?_ ?_
 ·clear z A HB; rintro ⟨L, M⟩ bd ⟨aQ, J, G, z, A, HB⟩; (try dsimp only at aQ J G z A HB); refine norm_ (a' := ?_) ?_ ?_; rotate_left
  ·simp only [putAll, Act.put, sA, sB, sC]
   rfl
  refine three_ (i := 3) (j := 8) (k := 12) (Ni := some 6) (Nj := some 11) (Nk := some 15) (bl 18 26239) (bl 18 26487) (bl 18 30327) rfl rfl rfl rfl rfl rfl (three_of aT.out (by kernel_rfl)) (by decide) (by decide) (by decide) (fun K hK => ?_) (fun K hK => ?_) (fun K hK => ?_)
  ·refine Kd.R_append_rows_step Kd.string (w0 := w) w.heap.size (by rfl) (.tmp 3) (.tmp 5) 22 9 (.string ⟨#[]⟩) 16 rfl Try.underlying22 info9 rfl (by decide) (by omega) L ag af _ _ _ (fun _ => True) (fun _ => False) rfl rfl ?aO ?aR (fun _ _ h => h) (fun _ h => h.elim) ?aF ?aB ?aS ?aL ?_
   (case aR => exact cO (Kd.C_below aC.out HB.out))
   (case aB => exact (bP2 HB B D))
   (case aF => exact (fun _ _ => trivial))
   (case aO => exact (rP J))
   (case aS => exact (below_size (bP2 HB B D)))
   (case aL => have := aN.out; omega)
   intro W ax ho hb hg hat; rw [← aE.out] at ho; replace z := kG z hg J; replace A := kG A hg J; replace G := aM (Kd.R_over' (rP G) (Kd.R_typed (rP J)) (by decide) hg); replace HB := aM (hb); have I := aM (ho); clear J; clear ho hb hg hat; refine hK.out _ _ (bD4 z) (fun aQ => ?_); clear hK K; refine nm_ 6 ?_; exact norm_ pO (br (L, W, M) _ ⟨aQ, rQ I, rQ G, kQ z, kQ A, bT2 HB B D⟩)
  ·refine lt_ (Kd.int .i64) 3 11 ([] : List Int) [] (Reps.none _ _) ?_; intro O ax Q hb
   replace Q := nW an Q
   replace J := rB J hb; replace G := rB G hb; have F := rW Q (bP2 HB B D); replace z := kB z hb; replace A := kB A hb; replace HB := hS2 HB B D hb; clear hb Q; refine hK.out _ _ (bD4 z) (fun aQ => ?_); clear hK K; refine nm_ 11 ?_; exact norm_ pO (bc (L, M, O) _ ⟨aQ, rQ J, rQ G, rQ F, kQ z, kQ A, bT2 HB B D⟩)
  ·refine lt_ k73 73 15 ([] : List (S73)) [] (Reps.none _ _) ?_; intro P ax Q hb
   replace Q := nW ak Q
   replace J := rB J hb; replace G := rB G hb; have E := rW Q (bP2 HB B D); replace z := kB z hb; replace A := kB A hb; replace HB := hS2 HB B D hb; clear hb Q; refine hK.out _ _ (bD4 z) (fun aQ => ?_); clear hK K; refine nm_ 15 ?_; exact norm_ pO (aZ (L, M, P) _ ⟨aQ, rQ J, rQ G, rQ E, kQ z, kQ A, bT2 HB B D⟩)
 intro bR; refine join_ (σ := Value × Value) 8 (bl 18 26471) (fun s_ => [(3, s_.1), (11, s_.2)]) (fun s_ w' => (q_1 w') ∧ (RA Kd.string 9 w' w s_.1 ag) ∧ (RA (Kd.int .i64) 3 w' w s_.2 ad) ∧ (q_2 w') ∧ (q_3 w') ∧ BA w w') ?_ ?_
 ·clear z A HB; rintro ⟨L, O⟩ bd ⟨aQ, J, F, z, A, HB⟩; (try dsimp only at aQ J F z A HB); refine norm_ (a' := ?_) ?_ ?_; rotate_left
  ·simp only [putAll, Act.put, sA, sB, sC]
   rfl
  refine three_ (i := 3) (j := 4) (k := 12) (Ni := some 6) (Nj := some 7) (Nk := some 15) (bl 18 26479) (bl 18 26487) (bl 18 30567) rfl rfl rfl rfl rfl rfl (three_of aT.out (by kernel_rfl)) (by decide) (by decide) (by decide) (fun K hK => ?_) (fun K hK => ?_) (fun K hK => ?_)
  ·refine Kd.R_append_rows_step Kd.string (w0 := w) w.heap.size (by rfl) (.tmp 3) (.tmp 5) 22 9 (.string ⟨#[]⟩) 16 rfl Try.underlying22 info9 rfl (by decide) (by omega) L ag af _ _ _ (fun _ => True) (fun _ => False) rfl rfl ?aO ?aR (fun _ _ h => h) (fun _ h => h.elim) ?aF ?aB ?aS ?aL ?_
   (case aR => exact cO (Kd.C_below aC.out HB.out))
   (case aB => exact (bP2 HB B D))
   (case aF => exact (fun _ _ => trivial))
   (case aO => exact (rP J))
   (case aS => exact (below_size (bP2 HB B D)))
   (case aL => have := aN.out; omega)
   intro W ax ho hb hg hat; rw [← aE.out] at ho; replace z := kG z hg J; replace A := kG A hg J; replace F := aM (Kd.R_over' (rP F) (Kd.R_typed (rP J)) (by decide) hg); replace HB := aM (hb); have I := aM (ho); clear J; clear ho hb hg hat; refine hK.out _ _ (bD4 z) (fun aQ => ?_); clear hK K; refine nm_ 6 ?_; exact norm_ pO (bs (L, W, O) _ ⟨aQ, rQ I, rQ F, kQ z, kQ A, bT2 HB B D⟩)
  ·refine lt_ Kd.bool 4 7 ([] : List Bool) [] (Reps.none _ _) ?_; intro M ax Q hb
   replace Q := nW aq Q
   replace J := rB J hb; replace F := rB F hb; have G := rW Q (bP2 HB B D); replace z := kB z hb; replace A := kB A hb; replace HB := hS2 HB B D hb; clear hb Q; refine hK.out _ _ (bD4 z) (fun aQ => ?_); clear hK K; refine nm_ 7 ?_; exact norm_ pO (bc (L, M, O) _ ⟨aQ, rQ J, rQ G, rQ F, kQ z, kQ A, bT2 HB B D⟩)
  ·refine lt_ k73 73 15 ([] : List (S73)) [] (Reps.none _ _) ?_; intro P ax Q hb
   replace Q := nW ak Q
   replace J := rB J hb; replace F := rB F hb; have E := rW Q (bP2 HB B D); replace z := kB z hb; replace A := kB A hb; replace HB := hS2 HB B D hb; clear hb Q; refine hK.out _ _ (bD4 z) (fun aQ => ?_); clear hK K; refine nm_ 15 ?_; exact norm_ pO (a0 (L, O, P) _ ⟨aQ, rQ J, rQ F, rQ E, kQ z, kQ A, bT2 HB B D⟩)
 intro bS; refine join_ (σ := Value × Value) 8 (bl 18 30311) (fun s_ => [(3, s_.1), (15, s_.2)]) (fun s_ w' => (q_1 w') ∧ (RA Kd.string 9 w' w s_.1 ag) ∧ (RA k73 73 w' w s_.2 ac) ∧ (q_2 w') ∧ (q_3 w') ∧ BA w w') ?_ ?_
 ·clear z A HB; rintro ⟨L, P⟩ bd ⟨aQ, J, E, z, A, HB⟩; (try dsimp only at aQ J E z A HB); refine norm_ (a' := ?_) ?_ ?_; rotate_left
  ·simp only [putAll, Act.put, sA, sB, sC]
   rfl
  refine three_ (i := 3) (j := 4) (k := 8) (Ni := some 6) (Nj := some 7) (Nk := some 11) (bl 18 30319) (bl 18 30327) (bl 18 30567) rfl rfl rfl rfl rfl rfl (three_of aT.out (by kernel_rfl)) (by decide) (by decide) (by decide) (fun K hK => ?_) (fun K hK => ?_) (fun K hK => ?_)
  ·refine Kd.R_append_rows_step Kd.string (w0 := w) w.heap.size (by rfl) (.tmp 3) (.tmp 5) 22 9 (.string ⟨#[]⟩) 16 rfl Try.underlying22 info9 rfl (by decide) (by omega) L ag af _ _ _ (fun _ => True) (fun _ => False) rfl rfl ?aO ?aR (fun _ _ h => h) (fun _ h => h.elim) ?aF ?aB ?aS ?aL ?_
   (case aR => exact cO (Kd.C_below aC.out HB.out))
   (case aB => exact (bP2 HB B D))
   (case aF => exact (fun _ _ => trivial))
   (case aO => exact (rP J))
   (case aS => exact (below_size (bP2 HB B D)))
   (case aL => have := aN.out; omega)
   intro W ax ho hb hg hat; rw [← aE.out] at ho; replace z := kG z hg J; replace A := kG A hg J; replace E := aM (Kd.R_over' (rP E) (Kd.R_typed (rP J)) (by decide) hg); replace HB := aM (hb); have I := aM (ho); clear J; clear ho hb hg hat; refine hK.out _ _ (bD4 z) (fun aQ => ?_); clear hK K; refine nm_ 6 ?_; exact norm_ pO (bq (L, W, P) _ ⟨aQ, rQ I, rQ E, kQ z, kQ A, bT2 HB B D⟩)
  ·refine lt_ Kd.bool 4 7 ([] : List Bool) [] (Reps.none _ _) ?_; intro M ax Q hb
   replace Q := nW aq Q
   replace J := rB J hb; replace E := rB E hb; have G := rW Q (bP2 HB B D); replace z := kB z hb; replace A := kB A hb; replace HB := hS2 HB B D hb; clear hb Q; refine hK.out _ _ (bD4 z) (fun aQ => ?_); clear hK K; refine nm_ 7 ?_; exact norm_ pO (aZ (L, M, P) _ ⟨aQ, rQ J, rQ G, rQ E, kQ z, kQ A, bT2 HB B D⟩)
  ·refine lt_ (Kd.int .i64) 3 11 ([] : List Int) [] (Reps.none _ _) ?_; intro O ax Q hb
   replace Q := nW an Q
   replace J := rB J hb; replace E := rB E hb; have F := rW Q (bP2 HB B D); replace z := kB z hb; replace A := kB A hb; replace HB := hS2 HB B D hb; clear hb Q; refine hK.out _ _ (bD4 z) (fun aQ => ?_); clear hK K; refine nm_ 11 ?_; exact norm_ pO (a0 (L, O, P) _ ⟨aQ, rQ J, rQ F, rQ E, kQ z, kQ A, bT2 HB B D⟩)
 intro bB; refine join_ (σ := Value × Value) 8 (bl 18 26486) (fun s_ => [(7, s_.1), (11, s_.2)]) (fun s_ w' => (q_1 w') ∧ (RA Kd.bool 4 w' w s_.1 ae) ∧ (RA (Kd.int .i64) 3 w' w s_.2 ad) ∧ (q_2 w') ∧ (q_3 w') ∧ BA w w') ?_ ?_
 ·clear z A HB; rintro ⟨M, O⟩ bd ⟨aQ, G, F, z, A, HB⟩; (try dsimp only at aQ G F z A HB); refine norm_ (a' := ?_) ?_ ?_; rotate_left
  ·simp only [putAll, Act.put, sA, sB, sC]
   rfl
  refine two_ (i := 0) (j := 12) (Ni := some 3) (Nj := some 15) (bl 18 26487) (bl 18 30582) rfl rfl rfl rfl (two_of aT.out (by kernel_rfl)) (by decide) (by decide) (fun K hK => ?_) (fun K hK => ?_)
  ·refine lt_ Kd.string 9 3 ([] : List ByteArray) [] (Reps.none _ _) ?_; intro L ax Q hb
   replace Q := nW aD Q
   replace G := rB G hb; replace F := rB F hb; have J := rW Q (bP2 HB B D); replace z := kB z hb; replace A := kB A hb; replace HB := hS2 HB B D hb; clear hb Q; refine hK.out _ _ (bD4 z) (fun aQ => ?_); clear hK K; refine nm_ 3 ?_; exact norm_ pO (bc (L, M, O) _ ⟨aQ, rQ J, rQ G, rQ F, kQ z, kQ A, bT2 HB B D⟩)
  ·refine lt_ k73 73 15 ([] : List (S73)) [] (Reps.none _ _) ?_; intro P ax Q hb
   replace Q := nW ak Q
   replace G := rB G hb; replace F := rB F hb; have E := rW Q (bP2 HB B D); replace z := kB z hb; replace A := kB A hb; replace HB := hS2 HB B D hb; clear hb Q; refine hK.out _ _ (bD4 z) (fun aQ => ?_); clear hK K; refine nm_ 15 ?_; exact norm_ pO (a1 (M, O, P) _ ⟨aQ, rQ G, rQ F, rQ E, kQ z, kQ A, bT2 HB B D⟩)
 intro bT; refine join_ (σ := Value × Value) 8 (bl 18 30326) (fun s_ => [(7, s_.1), (15, s_.2)]) (fun s_ w' => (q_1 w') ∧ (RA Kd.bool 4 w' w s_.1 ae) ∧ (RA k73 73 w' w s_.2 ac) ∧ (q_2 w') ∧ (q_3 w') ∧ BA w w') ?_ ?_
 ·clear z A HB; rintro ⟨M, P⟩ bd ⟨aQ, G, E, z, A, HB⟩; (try dsimp only at aQ G E z A HB); refine norm_ (a' := ?_) ?_ ?_; rotate_left
  ·simp only [putAll, Act.put, sA, sB, sC]
   rfl
  refine two_ (i := 0) (j := 8) (Ni := some 3) (Nj := some 11) (bl 18 30327) (bl 18 30582) rfl rfl rfl rfl (two_of aT.out (by kernel_rfl)) (by decide) (by decide) (fun K hK => ?_) (fun K hK => ?_)
  ·refine lt_ Kd.string 9 3 ([] : List ByteArray) [] (Reps.none _ _) ?_; intro L ax Q hb
   replace Q := nW aD Q
   replace G := rB G hb; replace E := rB E hb; have J := rW Q (bP2 HB B D); replace z := kB z hb; replace A := kB A hb; replace HB := hS2 HB B D hb; clear hb Q; refine hK.out _ _ (bD4 z) (fun aQ => ?_); clear hK K; refine nm_ 3 ?_; exact norm_ pO (aZ (L, M, P) _ ⟨aQ, rQ J, rQ G, rQ E, kQ z, kQ A, bT2 HB B D⟩)
  ·refine lt_ (Kd.int .i64) 3 11 ([] : List Int) [] (Reps.none _ _) ?_; intro O ax Q hb
   replace Q := nW an Q
   replace G := rB G hb; replace E := rB E hb; have F := rW Q (bP2 HB B D); replace z := kB z hb; replace A := kB A hb; replace HB := hS2 HB B D hb; clear hb Q; refine hK.out _ _ (bD4 z) (fun aQ => ?_); clear hK K; refine nm_ 11 ?_; exact norm_ pO (a1 (M, O, P) _ ⟨aQ, rQ G, rQ F, rQ E, kQ z, kQ A, bT2 HB B D⟩)
 intro bC; refine join_ (σ := Value × Value) 8 (bl 18 30566) (fun s_ => [(11, s_.1), (15, s_.2)]) (fun s_ w' => (q_1 w') ∧ (RA (Kd.int .i64) 3 w' w s_.1 ad) ∧ (RA k73 73 w' w s_.2 ac) ∧ (q_2 w') ∧ (q_3 w') ∧ BA w w') ?_ ?_
 ·clear z A HB; rintro ⟨O, P⟩ bd ⟨aQ, F, E, z, A, HB⟩; (try dsimp only at aQ F E z A HB); refine norm_ (a' := ?_) ?_ ?_; rotate_left
  ·simp only [putAll, Act.put, sA, sB, sC]
   rfl
  refine two_ (i := 0) (j := 4) (Ni := some 3) (Nj := some 7) (bl 18 30567) (bl 18 30582) rfl rfl rfl rfl (two_of aT.out (by kernel_rfl)) (by decide) (by decide) (fun K hK => ?_) (fun K hK => ?_)
  ·refine lt_ Kd.string 9 3 ([] : List ByteArray) [] (Reps.none _ _) ?_; intro L ax Q hb
   replace Q := nW aD Q
   replace F := rB F hb; replace E := rB E hb; have J := rW Q (bP2 HB B D); replace z := kB z hb; replace A := kB A hb; replace HB := hS2 HB B D hb; clear hb Q; refine hK.out _ _ (bD4 z) (fun aQ => ?_); clear hK K; refine nm_ 3 ?_; exact norm_ pO (a0 (L, O, P) _ ⟨aQ, rQ J, rQ F, rQ E, kQ z, kQ A, bT2 HB B D⟩)
  ·refine lt_ Kd.bool 4 7 ([] : List Bool) [] (Reps.none _ _) ?_; intro M ax Q hb
   replace Q := nW aq Q
   replace F := rB F hb; replace E := rB E hb; have G := rW Q (bP2 HB B D); replace z := kB z hb; replace A := kB A hb; replace HB := hS2 HB B D hb; clear hb Q; refine hK.out _ _ (bD4 z) (fun aQ => ?_); clear hK K; refine nm_ 7 ?_; exact norm_ pO (a1 (M, O, P) _ ⟨aQ, rQ G, rQ F, rQ E, kQ z, kQ A, bT2 HB B D⟩)
 intro bD; refine join_ (σ := Value) 9 (bl 18 26215) (fun s_ => [(3, s_)]) (fun s_ w' => (q_1 w') ∧ (RA Kd.string 9 w' w s_ ag) ∧ (q_2 w') ∧ (q_3 w') ∧ BA w w') ?_ ?_
 ·clear z A HB; rintro L b3 ⟨aQ, J, z, A, HB⟩; (try dsimp only at aQ J z A HB); refine norm_ (a' := ?_) ?_ ?_; rotate_left
  ·simp only [putAll, Act.put, sA, sB, sC]
   rfl
  refine four_ (i := 3) (j := 4) (k := 8) (m := 12) (Ni := some 6) (Nj := some 7) (Nk := some 11) (Nm := some 15) (bl 18 26223) (bl 18 26231) (bl 18 26471) (bl 18 30311) rfl rfl rfl rfl rfl rfl rfl rfl (four_of aT.out (by kernel_rfl)) (by decide) (by decide) (by decide) (by decide) (fun K hK => ?_) (fun K hK => ?_) (fun K hK => ?_) (fun K hK => ?_)
  ·refine Kd.R_append_rows_step Kd.string (w0 := w) w.heap.size (by rfl) (.tmp 3) (.tmp 5) 22 9 (.string ⟨#[]⟩) 16 rfl Try.underlying22 info9 rfl (by decide) (by omega) L ag af _ _ _ (fun _ => True) (fun _ => False) rfl rfl ?aO ?aR (fun _ _ h => h) (fun _ h => h.elim) ?aF ?aB ?aS ?aL ?_
   (case aR => exact cO (Kd.C_below aC.out HB.out))
   (case aB => exact (bP2 HB B D))
   (case aF => exact (fun _ _ => trivial))
   (case aO => exact (rP J))
   (case aS => exact (below_size (bP2 HB B D)))
   (case aL => have := aN.out; omega)
   intro W aH ho hb hg hat; rw [← aE.out] at ho; replace z := kG z hg J; replace A := kG A hg J; replace HB := aM (hb); have I := aM (ho); clear J; clear ho hb hg hat; refine hK.out _ _ (bD4 z) (fun aQ => ?_); clear hK K; refine nm_ 6 ?_; exact norm_ pO (ca (L, W) _ ⟨aQ, rQ I, kQ z, kQ A, bT2 HB B D⟩)
  ·refine lt_ Kd.bool 4 7 ([] : List Bool) [] (Reps.none _ _) ?_; intro M aH U hb
   replace U := nW aq U
   replace J := rB J hb; have G := rW U (bP2 HB B D); replace z := kB z hb; replace A := kB A hb; replace HB := hS2 HB B D hb; clear hb U; refine hK.out _ _ (bD4 z) (fun aQ => ?_); clear hK K; refine nm_ 7 ?_; exact norm_ pO (bR (L, M) _ ⟨aQ, rQ J, rQ G, kQ z, kQ A, bT2 HB B D⟩)
  ·refine lt_ (Kd.int .i64) 3 11 ([] : List Int) [] (Reps.none _ _) ?_; intro O aH U hb
   replace U := nW an U
   replace J := rB J hb; have F := rW U (bP2 HB B D); replace z := kB z hb; replace A := kB A hb; replace HB := hS2 HB B D hb; clear hb U; refine hK.out _ _ (bD4 z) (fun aQ => ?_); clear hK K; refine nm_ 11 ?_; exact norm_ pO (bS (L, O) _ ⟨aQ, rQ J, rQ F, kQ z, kQ A, bT2 HB B D⟩)
  ·refine lt_ k73 73 15 ([] : List (S73)) [] (Reps.none _ _) ?_; intro P aH U hb
   replace U := nW ak U
   replace J := rB J hb; have E := rW U (bP2 HB B D); replace z := kB z hb; replace A := kB A hb; replace HB := hS2 HB B D hb; clear hb U; refine hK.out _ _ (bD4 z) (fun aQ => ?_); clear hK K; refine nm_ 15 ?_; exact norm_ pO (bB (L, P) _ ⟨aQ, rQ J, rQ E, kQ z, kQ A, bT2 HB B D⟩)
 intro cu; refine join_ (σ := Value) 9 (bl 18 26230) (fun s_ => [(7, s_)]) (fun s_ w' => (q_1 w') ∧ (RA Kd.bool 4 w' w s_ ae) ∧ (q_2 w') ∧ (q_3 w') ∧ BA w w') ?_ ?_
 ·clear z A HB; rintro M b3 ⟨aQ, G, z, A, HB⟩; (try dsimp only at aQ G z A HB); refine norm_ (a' := ?_) ?_ ?_; rotate_left
  ·simp only [putAll, Act.put, sA, sB, sC]
   rfl
  refine three_ (i := 0) (j := 8) (k := 12) (Ni := some 3) (Nj := some 11) (Nk := some 15) (bl 18 26231) (bl 18 26486) (bl 18 30326) rfl rfl rfl rfl rfl rfl (three_of aT.out (by kernel_rfl)) (by decide) (by decide) (by decide) (fun K hK => ?_) (fun K hK => ?_) (fun K hK => ?_)
  ·refine lt_ Kd.string 9 3 ([] : List ByteArray) [] (Reps.none _ _) ?_; intro L aH U hb
   replace U := nW aD U
   replace G := rB G hb; have J := rW U (bP2 HB B D); replace z := kB z hb; replace A := kB A hb; replace HB := hS2 HB B D hb; clear hb U; refine hK.out _ _ (bD4 z) (fun aQ => ?_); clear hK K; refine nm_ 3 ?_; exact norm_ pO (bR (L, M) _ ⟨aQ, rQ J, rQ G, kQ z, kQ A, bT2 HB B D⟩)
  ·refine lt_ (Kd.int .i64) 3 11 ([] : List Int) [] (Reps.none _ _) ?_; intro O aH U hb
   replace U := nW an U
   replace G := rB G hb; have F := rW U (bP2 HB B D); replace z := kB z hb; replace A := kB A hb; replace HB := hS2 HB B D hb; clear hb U; refine hK.out _ _ (bD4 z) (fun aQ => ?_); clear hK K; refine nm_ 11 ?_; exact norm_ pO (bT (M, O) _ ⟨aQ, rQ G, rQ F, kQ z, kQ A, bT2 HB B D⟩)
  ·refine lt_ k73 73 15 ([] : List (S73)) [] (Reps.none _ _) ?_; intro P aH U hb
   replace U := nW ak U
   replace G := rB G hb; have E := rW U (bP2 HB B D); replace z := kB z hb; replace A := kB A hb; replace HB := hS2 HB B D hb; clear hb U; refine hK.out _ _ (bD4 z) (fun aQ => ?_); clear hK K; refine nm_ 15 ?_; exact norm_ pO (bC (M, P) _ ⟨aQ, rQ G, rQ E, kQ z, kQ A, bT2 HB B D⟩)
 intro cv; refine join_ (σ := Value) 9 (bl 18 26470) (fun s_ => [(11, s_)]) (fun s_ w' => (q_1 w') ∧ (RA (Kd.int .i64) 3 w' w s_ ad) ∧ (q_2 w') ∧ (q_3 w') ∧ BA w w') ?_ ?_
 ·clear z A HB; rintro O b3 ⟨aQ, F, z, A, HB⟩; (try dsimp only at aQ F z A HB); refine norm_ (a' := ?_) ?_ ?_; rotate_left
  ·simp only [putAll, Act.put, sA, sB, sC]
   rfl
  refine three_ (i := 0) (j := 4) (k := 12) (Ni := some 3) (Nj := some 7) (Nk := some 15) (bl 18 26471) (bl 18 26486) (bl 18 30566) rfl rfl rfl rfl rfl rfl (three_of aT.out (by kernel_rfl)) (by decide) (by decide) (by decide) (fun K hK => ?_) (fun K hK => ?_) (fun K hK => ?_)
  ·refine lt_ Kd.string 9 3 ([] : List ByteArray) [] (Reps.none _ _) ?_; intro L aH U hb
   replace U := nW aD U
   replace F := rB F hb; have J := rW U (bP2 HB B D); replace z := kB z hb; replace A := kB A hb; replace HB := hS2 HB B D hb; clear hb U; refine hK.out _ _ (bD4 z) (fun aQ => ?_); clear hK K; refine nm_ 3 ?_; exact norm_ pO (bS (L, O) _ ⟨aQ, rQ J, rQ F, kQ z, kQ A, bT2 HB B D⟩)
  ·refine lt_ Kd.bool 4 7 ([] : List Bool) [] (Reps.none _ _) ?_; intro M aH U hb
   replace U := nW aq U
   replace F := rB F hb; have G := rW U (bP2 HB B D); replace z := kB z hb; replace A := kB A hb; replace HB := hS2 HB B D hb; clear hb U; refine hK.out _ _ (bD4 z) (fun aQ => ?_); clear hK K; refine nm_ 7 ?_; exact norm_ pO (bT (M, O) _ ⟨aQ, rQ G, rQ F, kQ z, kQ A, bT2 HB B D⟩)
  ·refine lt_ k73 73 15 ([] : List (S73)) [] (Reps.none _ _) ?_; intro P aH U hb
   replace U := nW ak U
   replace F := rB F hb; have E := rW U (bP2 HB B D); replace z := kB z hb; replace A := kB A hb; replace HB := hS2 HB B D hb; clear hb U; refine hK.out _ _ (bD4 z) (fun aQ => ?_); clear hK K; refine nm_ 15 ?_; exact norm_ pO (bD (O, P) _ ⟨aQ, rQ F, rQ E, kQ z, kQ A, bT2 HB B D⟩)
 intro cw; refine join_ (σ := Value) 9 (bl 18 30310) (fun s_ => [(15, s_)]) (fun s_ w' => (q_1 w') ∧ (RA k73 73 w' w s_ ac) ∧ (q_2 w') ∧ (q_3 w') ∧ BA w w') ?_ ?_
 ·clear z A HB; rintro P b3 ⟨aQ, E, z, A, HB⟩; (try dsimp only at aQ E z A HB); refine norm_ (a' := ?_) ?_ ?_; rotate_left
  ·simp only [putAll, Act.put, sA, sB, sC]
   rfl
  refine three_ (i := 0) (j := 4) (k := 8) (Ni := some 3) (Nj := some 7) (Nk := some 11) (bl 18 30311) (bl 18 30326) (bl 18 30566) rfl rfl rfl rfl rfl rfl (three_of aT.out (by kernel_rfl)) (by decide) (by decide) (by decide) (fun K hK => ?_) (fun K hK => ?_) (fun K hK => ?_)
  ·refine lt_ Kd.string 9 3 ([] : List ByteArray) [] (Reps.none _ _) ?_; intro L aH U hb
   replace U := nW aD U
   replace E := rB E hb; have J := rW U (bP2 HB B D); replace z := kB z hb; replace A := kB A hb; replace HB := hS2 HB B D hb; clear hb U; refine hK.out _ _ (bD4 z) (fun aQ => ?_); clear hK K; refine nm_ 3 ?_; exact norm_ pO (bB (L, P) _ ⟨aQ, rQ J, rQ E, kQ z, kQ A, bT2 HB B D⟩)
  ·refine lt_ Kd.bool 4 7 ([] : List Bool) [] (Reps.none _ _) ?_; intro M aH U hb
   replace U := nW aq U
   replace E := rB E hb; have G := rW U (bP2 HB B D); replace z := kB z hb; replace A := kB A hb; replace HB := hS2 HB B D hb; clear hb U; refine hK.out _ _ (bD4 z) (fun aQ => ?_); clear hK K; refine nm_ 7 ?_; exact norm_ pO (bC (M, P) _ ⟨aQ, rQ G, rQ E, kQ z, kQ A, bT2 HB B D⟩)
  ·refine lt_ (Kd.int .i64) 3 11 ([] : List Int) [] (Reps.none _ _) ?_; intro O aH U hb
   replace U := nW an U
   replace E := rB E hb; have F := rW U (bP2 HB B D); replace z := kB z hb; replace A := kB A hb; replace HB := hS2 HB B D hb; clear hb U; refine hK.out _ _ (bD4 z) (fun aQ => ?_); clear hK K; refine nm_ 11 ?_; exact norm_ pO (bD (O, P) _ ⟨aQ, rQ F, rQ E, kQ z, kQ A, bT2 HB B D⟩)
 intro cq; refine four_ (i := 0) (j := 4) (k := 8) (m := 12) (Ni := some 3) (Nj := some 7) (Nk := some 11) (Nm := some 15) (bl 18 26215) (bl 18 26230) (bl 18 26470) (bl 18 30310) rfl rfl rfl rfl rfl rfl rfl rfl (four_of aT.out (by kernel_rfl)) (by decide) (by decide) (by decide) (by decide) (fun K hK => ?_) (fun K hK => ?_) (fun K hK => ?_) (fun K hK => ?_)
 ·refine lt_ Kd.string 9 3 ([] : List ByteArray) [] (Reps.none _ _) ?_; intro L w9 al hb
  replace al := nW aD al
  have J := rW al (bP2 HB B D); replace z := kB z hb; replace A := kB A hb; replace HB := hS2 HB B D hb; clear hb al; refine hK.out _ _ (bD4 z) (fun aQ => ?_); clear hK K; refine nm_ 3 ?_; exact norm_ pO (cu (L) _ ⟨aQ, rQ J, kQ z, kQ A, bT2 HB B D⟩)
 ·refine lt_ Kd.bool 4 7 ([] : List Bool) [] (Reps.none _ _) ?_; intro M w9 al hb
  replace al := nW aq al
  have G := rW al (bP2 HB B D); replace z := kB z hb; replace A := kB A hb; replace HB := hS2 HB B D hb; clear hb al; refine hK.out _ _ (bD4 z) (fun aQ => ?_); clear hK K; refine nm_ 7 ?_; exact norm_ pO (cv (M) _ ⟨aQ, rQ G, kQ z, kQ A, bT2 HB B D⟩)
 ·refine lt_ (Kd.int .i64) 3 11 ([] : List Int) [] (Reps.none _ _) ?_; intro O w9 al hb
  replace al := nW an al
  have F := rW al (bP2 HB B D); replace z := kB z hb; replace A := kB A hb; replace HB := hS2 HB B D hb; clear hb al; refine hK.out _ _ (bD4 z) (fun aQ => ?_); clear hK K; refine nm_ 11 ?_; exact norm_ pO (cw (O) _ ⟨aQ, rQ F, kQ z, kQ A, bT2 HB B D⟩)
 ·refine lt_ k73 73 15 ([] : List (S73)) [] (Reps.none _ _) ?_; intro P w9 al hb
  replace al := nW ak al
  have E := rW al (bP2 HB B D); replace z := kB z hb; replace A := kB A hb; replace HB := hS2 HB B D hb; clear hb al; refine hK.out _ _ (bD4 z) (fun aQ => ?_); clear hK K; refine nm_ 15 ?_; exact norm_ pO (cq (P) _ ⟨aQ, rQ E, kQ z, kQ A, bT2 HB B D⟩)
end Go.Proofs.Ytninoenmhcbonaa.X

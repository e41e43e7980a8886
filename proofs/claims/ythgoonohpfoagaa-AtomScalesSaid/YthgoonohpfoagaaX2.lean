/- What the functions of this seat compute, and that the program's calls come to just that: written by this session's own program out of the translation; no condition. -/
import Derived.Test.YthgoonohpfoagaaX0
namespace Go.Proofs.Ythgoonohpfoagaa.X
open Go.RowKit Go.Proofs.YthgoonohpfoagaaW.PrintWords Go.Proofs.YthgoonohpfoagaaW.PrintLast Go.Proofs.YthgoonohpfoagaaW.PrintMore
attribute [local go_sem] max2_int min2_int max_two min_two max_three min_three max_four min_four
set_option linter.unusedVariables false
set_option linter.unusedSimpArgs false
set_option maxHeartbeats 8000000
set_option maxRecDepth 100000

/-! ### chk_Sub: function 102 -/
def chk_Sub.f (a0 : Int) (a1 : Int) : Option (Int × Int) := if ((decide (a0 ≥ 0)) != (decide (a1 ≥ 0))) = true then (if ((decide ((wrap64 (a0 - a1)) ≥ 0)) != (decide (a0 ≥ 0))) = true then (some (0, 10)) else (some (wrap64 (a0 - a1), 0))) else (some (wrap64 (a0 - a1), 0))
theorem chk_Sub.calls (z : Int) (A : Int) (M : Int) (N : Int) (w : World) (h : chk_Sub.f z A = some (M, N)) :
  Calls Try.prog 102 #[.int .i64 z, .int .i64 A] w fun e w' => e = .returned (.tuple #[.int .i64 M, .int .i64 N]) ∧ Drawn0 w w' := by
 rw [chk_Sub.f] at h; have H := h; clear h
 by_cases B : ((decide (z ≥ 0)) != (decide (A ≥ 0))) = true
 ·rw [if_pos B] at H; have E : ((decide (z ≥ 0)) != (decide (A ≥ 0))) = true := B
  (try (have F : decide ((decide (z ≥ 0)) = (decide (A ≥ 0))) = false := by simpa using B))
  (try (have G : ((decide (z ≥ 0)) == (decide (A ≥ 0))) = false := by simpa using B))
  (try (have O : ¬ ((decide (z ≥ 0)) = (decide (A ≥ 0))) := by simpa using B))
  clear B
  by_cases D : ((decide ((wrap64 (z - A)) ≥ 0)) != (decide (z ≥ 0))) = true
  ·rw [if_pos D] at H; have I : ((decide ((wrap64 (z - A)) ≥ 0)) != (decide (z ≥ 0))) = true := D
   (try (have J : decide ((decide ((wrap64 (z - A)) ≥ 0)) = (decide (z ≥ 0))) = false := by simpa using D))
   (try (have L : ((decide ((wrap64 (z - A)) ≥ 0)) == (decide (z ≥ 0))) = false := by simpa using D))
   (try (have P : ¬ ((decide ((wrap64 (z - A)) ≥ 0)) = (decide (z ≥ 0))) := by simpa using D))
   clear D; simp only [Option.some.injEq, Prod.mk.injEq] at H; obtain ⟨rfl, rfl⟩ := H
   go_enter Try.func102, Try.ntmps102
   go_wp2
   go_ret2
   exact ⟨by first | rfl | (simp; done) | (simp [*]; done), by repeat (first | exact Drawn0.refl _ | apply Drawn0.step)⟩
  ·rw [if_neg D] at H
   have I : ((decide ((wrap64 (z - A)) ≥ 0)) != (decide (z ≥ 0))) = false := by simpa using D
   (try (have J : decide ((decide ((wrap64 (z - A)) ≥ 0)) = (decide (z ≥ 0))) = true := by simpa using D))
   (try (have L : ((decide ((wrap64 (z - A)) ≥ 0)) == (decide (z ≥ 0))) = true := by simpa using D))
   clear D; simp only [Option.some.injEq, Prod.mk.injEq] at H; obtain ⟨rfl, rfl⟩ := H
   go_enter Try.func102, Try.ntmps102
   go_wp2
   go_ret2
   exact ⟨by first | rfl | (simp; done) | (simp [*]; done), by repeat (first | exact Drawn0.refl _ | apply Drawn0.step)⟩
 ·rw [if_neg B] at H
  have E : ((decide (z ≥ 0)) != (decide (A ≥ 0))) = false := by simpa using B
  (try (have F : decide ((decide (z ≥ 0)) = (decide (A ≥ 0))) = true := by simpa using B))
  (try (have G : ((decide (z ≥ 0)) == (decide (A ≥ 0))) = true := by simpa using B))
  clear B; simp only [Option.some.injEq, Prod.mk.injEq] at H; obtain ⟨rfl, rfl⟩ := H
  go_enter Try.func102, Try.ntmps102
  go_wp2
  go_ret2
  exact ⟨by first | rfl | (simp; done) | (simp [*]; done), by repeat (first | exact Drawn0.refl _ | apply Drawn0.step)⟩

/-! ### chk_Neg: function 90 -/
def chk_Neg.f (a0 : Int) : Option (Int × Int) := (chk_Sub.f 0 a0).bind fun bt115 => (some (bt115.1, bt115.2))
theorem chk_Neg.calls (B : Int) (E : Int) (F : Int) (w : World) (h : chk_Neg.f B = some (E, F)) :
  Calls Try.prog 90 #[.int .i64 B] w fun e w' => e = .returned (.tuple #[.int .i64 E, .int .i64 F]) ∧ Drawn0 w w' := by
 rw [chk_Neg.f] at h; have H := h; clear h; replace H := Option.bind_eq_some_iff.mp H; obtain ⟨⟨z, A⟩, D, H⟩ := H; replace H : (some (z, A)) = some (E, F) := H; have G := aM D; clear D; simp only [Option.some.injEq, Prod.mk.injEq] at H; obtain ⟨rfl, rfl⟩ := H
 go_enter Try.func90, Try.ntmps90
 go_wp2_with (first | ((with_reducible refine gate_callee (f := 102) rfl ?_); refine gL_ (some 5) Try.func102 #[.int .i64 0, .int .i64 B] ?_; (with_reducible refine (chk_Sub.calls 0 B z A _ G.out).mono ?_); rintro e w' ⟨rfl, ⟨nd, rfl⟩⟩; refine ⟨_, rfl, ?_⟩))
 go_ret2
 exact ⟨by first | rfl | (simp; done) | (simp [*]; done), by repeat (first | exact Drawn0.refl _ | apply Drawn0.step)⟩

/-! ### chk_Abs: function 70 -/
def chk_Abs.f (a0 : Int) : Option (Int × Int) := if a0 < 0 then ((chk_Neg.f a0).bind fun bt117 => (some (bt117.1, bt117.2))) else (some (a0, 0))
theorem chk_Abs.calls (A : Int) (F : Int) (G : Int) (w : World) (h : chk_Abs.f A = some (F, G)) :
  Calls Try.prog 70 #[.int .i64 A] w fun e w' => e = .returned (.tuple #[.int .i64 F, .int .i64 G]) ∧ Drawn0 w w' := by
 rw [chk_Abs.f] at h; have H := h; clear h
 by_cases z : A < 0
 ·rw [if_pos z] at H; have I := dT z; clear z; replace H := Option.bind_eq_some_iff.mp H; obtain ⟨⟨B, D⟩, E, H⟩ := H; replace H : (some (B, D)) = some (F, G) := H; have J := aM E; clear E; simp only [Option.some.injEq, Prod.mk.injEq] at H; obtain ⟨rfl, rfl⟩ := H
  go_enter Try.func70, Try.ntmps70
  go_wp2_with (first | ((with_reducible refine gate_callee (f := 90) rfl ?_); refine gL_ (some 7) Try.func90 #[.int .i64 A] ?_; (with_reducible refine (chk_Neg.calls A B D _ J.out).mono ?_); rintro e w' ⟨rfl, ⟨nd, rfl⟩⟩; refine ⟨_, rfl, ?_⟩))
  go_ret2
  exact ⟨by first | rfl | (simp; done) | (simp [*]; done), by repeat (first | exact Drawn0.refl _ | apply Drawn0.step)⟩
 ·rw [if_neg z] at H; have I := decide_eq_false z; clear z; simp only [Option.some.injEq, Prod.mk.injEq] at H; obtain ⟨rfl, rfl⟩ := H
  go_enter Try.func70, Try.ntmps70
  go_wp2
  go_ret2
  exact ⟨by first | rfl | (simp; done) | (simp [*]; done), by repeat (first | exact Drawn0.refl _ | apply Drawn0.step)⟩

/-! ### chk_Add: function 71 -/
def chk_Add.f (a0 : Int) (a1 : Int) : Option (Int × Int) := if ((decide (a0 ≥ 0)) == (decide (a1 ≥ 0))) = true then (if ((decide ((wrap64 (a0 + a1)) ≥ 0)) != (decide (a0 ≥ 0))) = true then (some (0, 10)) else (some (wrap64 (a0 + a1), 0))) else (some (wrap64 (a0 + a1), 0))
theorem chk_Add.calls (z : Int) (A : Int) (M : Int) (N : Int) (w : World) (h : chk_Add.f z A = some (M, N)) :
  Calls Try.prog 71 #[.int .i64 z, .int .i64 A] w fun e w' => e = .returned (.tuple #[.int .i64 M, .int .i64 N]) ∧ Drawn0 w w' := by
 rw [chk_Add.f] at h; have H := h; clear h
 by_cases B : ((decide (z ≥ 0)) == (decide (A ≥ 0))) = true
 ·rw [if_pos B] at H; have E : ((decide (z ≥ 0)) == (decide (A ≥ 0))) = true := B
  (try (have F : decide ((decide (z ≥ 0)) = (decide (A ≥ 0))) = true := by simpa using B))
  (try (have G : ((decide (z ≥ 0)) == (decide (A ≥ 0))) = true := by simpa using B))
  clear B
  by_cases D : ((decide ((wrap64 (z + A)) ≥ 0)) != (decide (z ≥ 0))) = true
  ·rw [if_pos D] at H; have I : ((decide ((wrap64 (z + A)) ≥ 0)) != (decide (z ≥ 0))) = true := D
   (try (have J : decide ((decide ((wrap64 (z + A)) ≥ 0)) = (decide (z ≥ 0))) = false := by simpa using D))
   (try (have L : ((decide ((wrap64 (z + A)) ≥ 0)) == (decide (z ≥ 0))) = false := by simpa using D))
   (try (have O : ¬ ((decide ((wrap64 (z + A)) ≥ 0)) = (decide (z ≥ 0))) := by simpa using D))
   clear D; simp only [Option.some.injEq, Prod.mk.injEq] at H; obtain ⟨rfl, rfl⟩ := H
   go_enter Try.func71, Try.ntmps71
   go_wp2
   go_ret2
   exact ⟨by first | rfl | (simp; done) | (simp [*]; done), by repeat (first | exact Drawn0.refl _ | apply Drawn0.step)⟩
  ·rw [if_neg D] at H
   have I : ((decide ((wrap64 (z + A)) ≥ 0)) != (decide (z ≥ 0))) = false := by simpa using D
   (try (have J : decide ((decide ((wrap64 (z + A)) ≥ 0)) = (decide (z ≥ 0))) = true := by simpa using D))
   (try (have L : ((decide ((wrap64 (z + A)) ≥ 0)) == (decide (z ≥ 0))) = true := by simpa using D))
   clear D; simp only [Option.some.injEq, Prod.mk.injEq] at H; obtain ⟨rfl, rfl⟩ := H
   go_enter Try.func71, Try.ntmps71
   go_wp2
   go_ret2
   exact ⟨by first | rfl | (simp; done) | (simp [*]; done), by repeat (first | exact Drawn0.refl _ | apply Drawn0.step)⟩
 ·rw [if_neg B] at H
  have E : ((decide (z ≥ 0)) == (decide (A ≥ 0))) = false := by simpa using B
  (try (have F : decide ((decide (z ≥ 0)) = (decide (A ≥ 0))) = false := by simpa using B))
  (try (have G : ((decide (z ≥ 0)) == (decide (A ≥ 0))) = false := by simpa using B))
  (try (have P : ¬ ((decide (z ≥ 0)) = (decide (A ≥ 0))) := by simpa using B))
  clear B; simp only [Option.some.injEq, Prod.mk.injEq] at H; obtain ⟨rfl, rfl⟩ := H
  go_enter Try.func71, Try.ntmps71
  go_wp2
  go_ret2
  exact ⟨by first | rfl | (simp; done) | (simp [*]; done), by repeat (first | exact Drawn0.refl _ | apply Drawn0.step)⟩

/-! ### chk_Total: function 46 -/
def chk_Total.l0 : Nat → Int → List Int → Int → Int → Option (Int × Int)
 | 0, _, _, _, _ => none
 | k + 1, x4, x9, x10, x11 => if x11 < x10 then (if 0 ≤ x11 then (if x11 < (x9.length : Int) then ((chk_Abs.f (rd x9 x11)).bind fun bt120 => (if bt120.2 = 0 then ((chk_Add.f x4 bt120.1).bind fun bt122 => (if bt122.2 = 0 then (chk_Total.l0 k bt122.1 x9 x10 (wrap64 (x11 + 1))) else (some (0, bt122.2)))) else (some (0, bt120.2)))) else (none)) else (none)) else (some (x4, 0))
def chk_Total.f (k : Nat) (l0 : List Int) : Option (Int × Int) := chk_Total.l0 k 0 l0 (l0.length : Int) 0
theorem chk_Total.mono_l : ∀ k, (∀ y0 y1 y2 y3, LeO (chk_Total.l0 k y0 y1 y2 y3) (chk_Total.l0 (k + 1) y0 y1 y2 y3))
 | 0 => fun _ _ _ _ r h => by simp [chk_Total.l0] at h
 | k + 1 => by
  have ih0 := chk_Total.mono_l k
  ·intro y0 y1 y2 y3
   unfold chk_Total.l0
   repeat' first | (with_reducible first | exact ih0 _ _ _ _ | exact lA | apply lI | refine lB ?_ fun _ => ?_) | exact lN _ | apply lI | refine lB ?_ fun _ => ?_
theorem chk_Total.mono : ∀ a0 k, LeO (chk_Total.f k a0) (chk_Total.f (k + 1) a0) := by
 intro a0 k; have ih0 := chk_Total.mono_l k
 unfold chk_Total.f
 repeat' first | (with_reducible first | exact ih0 _ _ _ _ | exact lA | apply lI | refine lB ?_ fun _ => ?_) | exact lN _ | apply lI | refine lB ?_ fun _ => ?_
theorem chk_Total.calls (k : Nat) (A0 : Option Addr) (c0 : Nat) (D : List Int) (Q : Int) (R : Int) (w : World) (aa : Kd.C (Kd.int .i64) w A0 D.length D) (ab : D.length ≤ c0) (h : chk_Total.f k D = some (Q, R)) :
  Calls Try.prog 46 #[.slice A0 D.length c0] w fun e w' => e = .returned (.tuple #[.int .i64 Q, .int .i64 R]) ∧ Drawn0 w w' := by
 have U := aM aa; have ar := aM ab; clear aa ab; rw [chk_Total.f] at h; have H := h; clear h; have H' := aM H; clear H
 go_enter Try.func46, Try.ntmps46
 go_wp2
 go_loopg [4, 11] k (fun kq v4 am w' => ∃ (E : Int) (z : Int), v4 = .int .i64 E ∧ am = .int .i64 z ∧ Aside0 (chk_Total.l0 kq E D (D.length : Int) z = some (Q, R)) ∧ Aside0 (kq ≤ k) ∧ Drawn0 w w')
 case atStart => exact ⟨(0), (0), sI, sI, H', ⟨Nat.le_refl _⟩, by repeat (first | exact Drawn0.refl _ | apply Drawn0.step)⟩
 case round =>
  clear H'; obtain ⟨E, z, rfl, rfl, HA, HK1, ⟨m1, rfl⟩⟩ := hrel; cases gk with
  | zero => exact absurd HA.out (by simp [chk_Total.l0])
  | succ k1 =>
   have H := HA.out; clear HA; simp only [chk_Total.l0] at H
   by_cases P : z < (D.length : Int)
   ·rw [if_pos P] at H; have ae := dT P; clear P
    by_cases Y : 0 ≤ z
    ·rw [if_pos Y] at H; have ap := dT Y; clear Y
     by_cases Z : z < (D.length : Int)
     ·rw [if_pos Z] at H; have aq := dT Z; clear Z; replace H := Option.bind_eq_some_iff.mp H; obtain ⟨⟨F, G⟩, ac, H⟩ := H; replace H : (if G = 0 then ((chk_Add.f E F).bind fun M => (if M.2 = 0 then (chk_Total.l0 k1 M.1 D (D.length : Int) (wrap64 (z + 1))) else (some (0, M.2)))) else (some (0, G))) = some (Q, R) := H; have A5 := aM ac; clear ac
      by_cases V : G = 0
      ·rw [if_pos V] at H; obtain ⟨ag, ah⟩ := bq V; clear V; replace H := Option.bind_eq_some_iff.mp H; obtain ⟨⟨N, I⟩, ad, H⟩ := H; replace H : (if I = 0 then (chk_Total.l0 k1 N D (D.length : Int) (wrap64 (z + 1))) else (some (0, I))) = some (Q, R) := H; have A7 := aM ad; clear ad
       by_cases W : I = 0
       ·rw [if_pos W] at H; obtain ⟨ai, aj⟩ := bq W; clear W; have H' := aM H; clear H; have A : 0 ≤ (z : Int) := oT aO; have B : z < (D.length : Int) := oT aO; obtain ⟨O, J, L⟩ := Kd.at_int U.out z A B; cases J; replace A := eq_true A; replace B := eq_true B
        go_wp2_with (first | ((with_reducible refine gate_callee (f := 70) rfl ?_); refine gL_ (some 17) Try.func70 #[.int .i64 (rd D z)] ?_; (with_reducible refine (chk_Abs.calls (rd D z) F G _ A5.out).mono ?_); rintro e w' ⟨rfl, ⟨nd, rfl⟩⟩; refine ⟨_, rfl, ?_⟩) | ((with_reducible refine gate_callee (f := 71) rfl ?_); refine gL_ (some 26) Try.func71 #[.int .i64 E, .int .i64 F] ?_; (with_reducible refine (chk_Add.calls E F N I _ A7.out).mono ?_); rintro e w' ⟨rfl, ⟨nd, rfl⟩⟩; refine ⟨_, rfl, ?_⟩))
        go_roundg k1
        case measure => have := HK1.out; omega
        case rel => exact ⟨(N), (wrap64 (z + 1)), sI, sI, H', ⟨by have := HK1.out; omega⟩, by repeat (first | exact Drawn0.refl _ | apply Drawn0.step)⟩
       ·rw [if_neg W] at H; obtain ⟨ai, aj⟩ := bn W; simp only [Option.some.injEq, Prod.mk.injEq] at H; obtain ⟨rfl, rfl⟩ := H; have A : 0 ≤ (z : Int) := oT aO; have B : z < (D.length : Int) := oT aO; obtain ⟨O, J, L⟩ := Kd.at_int U.out z A B; cases J; replace A := eq_true A; replace B := eq_true B
        go_wp2_with (first | ((with_reducible refine gate_callee (f := 70) rfl ?_); refine gL_ (some 17) Try.func70 #[.int .i64 (rd D z)] ?_; (with_reducible refine (chk_Abs.calls (rd D z) F G _ A5.out).mono ?_); rintro e w' ⟨rfl, ⟨nd, rfl⟩⟩; refine ⟨_, rfl, ?_⟩) | ((with_reducible refine gate_callee (f := 71) rfl ?_); refine gL_ (some 26) Try.func71 #[.int .i64 E, .int .i64 F] ?_; (with_reducible refine (chk_Add.calls E F N I _ A7.out).mono ?_); rintro e w' ⟨rfl, ⟨nd, rfl⟩⟩; refine ⟨_, rfl, ?_⟩))
        go_ret2
        exact ⟨by first | rfl | (simp; done) | (simp [*]; done), by repeat (first | exact Drawn0.refl _ | apply Drawn0.step)⟩
      ·rw [if_neg V] at H; obtain ⟨ag, ah⟩ := bn V; simp only [Option.some.injEq, Prod.mk.injEq] at H; obtain ⟨rfl, rfl⟩ := H; have A : 0 ≤ (z : Int) := oT aO; have B : z < (D.length : Int) := oT aO; obtain ⟨O, J, L⟩ := Kd.at_int U.out z A B; cases J; replace A := eq_true A; replace B := eq_true B
       go_wp2_with (first | ((with_reducible refine gate_callee (f := 70) rfl ?_); refine gL_ (some 17) Try.func70 #[.int .i64 (rd D z)] ?_; (with_reducible refine (chk_Abs.calls (rd D z) F G _ A5.out).mono ?_); rintro e w' ⟨rfl, ⟨nd, rfl⟩⟩; refine ⟨_, rfl, ?_⟩))
       go_ret2
       exact ⟨by first | rfl | (simp; done) | (simp [*]; done), by repeat (first | exact Drawn0.refl _ | apply Drawn0.step)⟩
     ·exact nX Z H
    ·exact nX Y H
   ·rw [if_neg P] at H; have ae := decide_eq_false P; clear P; simp only [Option.some.injEq, Prod.mk.injEq] at H; obtain ⟨rfl, rfl⟩ := H
    go_wp2
    go_ret2
    exact ⟨by first | rfl | (simp; done) | (simp [*]; done), by repeat (first | exact Drawn0.refl _ | apply Drawn0.step)⟩

end Go.Proofs.Ythgoonohpfoagaa.X

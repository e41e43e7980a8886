/- What the functions of this seat compute, and that the program's calls come to just that: written by this session's own program out of the translation; no condition. -/
import Derived.Test.YtpekanolhgcljaaX0
import Derived.Test.YtpekanolhgcljaaX1
import Derived.Test.YtpekanolhgcljaaX5
import Derived.Test.YtpekanolhgcljaaX7
namespace Go.Proofs.Ytpekanolhgcljaa.X
open Go.RowKit Go.Proofs.YtpekanolhgcljaaW.PrintWords Go.Proofs.YtpekanolhgcljaaW.PrintLast Go.Proofs.YtpekanolhgcljaaW.PrintMore
attribute [local go_sem] max2_int min2_int max_two min_two max_three min_three max_four min_four   -- for this text's walks alone
set_option linter.unusedVariables false
set_option linter.unusedSimpArgs false

/-! ### bits_Spread: function 14 -/
mutual
def bits_Spread.j0 : Nat → Int → List Int → Bool → Option (Int × Int)
 | 0, _, _, _ => none
 | k + 1, x0, x1, x19 => if x19 = true then (some (0, 2)) else (bits_Spread.l0 k x0 0 0 x1 (x1.length : Int) 0)
def bits_Spread.l0 : Nat → Int → Int → Int → List Int → Int → Int → Option (Int × Int)
 | 0, _, _, _, _, _, _ => none
 | k + 1, x0, x6, x7, x20, x21, x22 => if x22 < x21 then (if 0 ≤ x22 then (if x22 < (x20.length : Int) then (if 0 ≤ (rd x20 x22) then (if (Go.bits .and .i64 (shr .i64 x7 (rd x20 x22)) 1) = 1 then (some (0, 5)) else ((bits_Digit.f x0 x22).bind fun t184 => (bits_Spread.l0 k x0 (Go.bits .or .i64 x6 (shl .i64 t184 (rd x20 x22))) (Go.bits .or .i64 x7 (shl .i64 1 (rd x20 x22))) x20 x21 (wrap64 (x22 + 1))))) else (none)) else (none)) else (none)) else (some (x6, 0))
end
def bits_Spread.f (k : Nat) (a0 : Int) (l1 : List Int) : Option (Int × Int) := (bits_places.f k l1).bind fun t181 => (if t181 = 0 then ((bits_letters.f a0 (l1.length : Int)).bind fun t182 => (bits_Spread.j0 k a0 l1 (!t182))) else (bits_Spread.j0 k a0 l1 true))
theorem bits_Spread.mono_l : ∀ k, (∀ y0 y1 y2, LeO (bits_Spread.j0 k y0 y1 y2) (bits_Spread.j0 (k + 1) y0 y1 y2)) ∧ (∀ y0 y1 y2 y3 y4 y5, LeO (bits_Spread.l0 k y0 y1 y2 y3 y4 y5) (bits_Spread.l0 (k + 1) y0 y1 y2 y3 y4 y5))
 | 0 => ⟨fun _ _ _ r h => by simp [bits_Spread.j0] at h, fun _ _ _ _ _ _ r h => by simp [bits_Spread.l0] at h⟩
 | k + 1 => by
  obtain ⟨ih0, ih1⟩ := bits_Spread.mono_l k
  refine ⟨?_, ?_⟩
  ·intro y0 y1 y2
   unfold bits_Spread.j0
   repeat' first
   | (with_reducible exact ih0 _ _ _)
   | (with_reducible exact ih1 _ _ _ _ _ _)
   | (with_reducible exact bits_places.mono _ _)
   | (with_reducible exact LeO.refl _)
   | (with_reducible exact LeO.none _)
   | (with_reducible refine LeO.ite ?_ ?_)
   | (with_reducible refine LeO.bind ?_ (fun _ => ?_))
   | exact ih0 _ _ _
   | exact ih1 _ _ _ _ _ _
   | exact bits_places.mono _ _
   | exact LeO.none _
   | refine LeO.ite ?_ ?_
   | refine LeO.bind ?_ (fun _ => ?_)
  ·intro y0 y1 y2 y3 y4 y5
   unfold bits_Spread.l0
   repeat' first
   | (with_reducible exact ih0 _ _ _)
   | (with_reducible exact ih1 _ _ _ _ _ _)
   | (with_reducible exact bits_places.mono _ _)
   | (with_reducible exact LeO.refl _)
   | (with_reducible exact LeO.none _)
   | (with_reducible refine LeO.ite ?_ ?_)
   | (with_reducible refine LeO.bind ?_ (fun _ => ?_))
   | exact ih0 _ _ _
   | exact ih1 _ _ _ _ _ _
   | exact bits_places.mono _ _
   | exact LeO.none _
   | refine LeO.ite ?_ ?_
   | refine LeO.bind ?_ (fun _ => ?_)
theorem bits_Spread.mono : ∀ a0 a1 k, LeO (bits_Spread.f k a0 a1) (bits_Spread.f (k + 1) a0 a1) := by
 intro a0 a1 k
 obtain ⟨ih0, ih1⟩ := bits_Spread.mono_l k
 unfold bits_Spread.f
 repeat' first
   | (with_reducible exact ih0 _ _ _)
   | (with_reducible exact ih1 _ _ _ _ _ _)
   | (with_reducible exact bits_places.mono _ _)
   | (with_reducible exact LeO.refl _)
   | (with_reducible exact LeO.none _)
   | (with_reducible refine LeO.ite ?_ ?_)
   | (with_reducible refine LeO.bind ?_ (fun _ => ?_))
   | exact ih0 _ _ _
   | exact ih1 _ _ _ _ _ _
   | exact bits_places.mono _ _
   | exact LeO.none _
   | refine LeO.ite ?_ ?_
   | refine LeO.bind ?_ (fun _ => ?_)
set_option maxHeartbeats 8000000 in
set_option maxRecDepth 100000 in
theorem bits_Spread.calls (k : Nat) (a0 : Int) (A1 : Option Addr) (c1 : Nat) (l1 : List Int) (r1 : Int) (r2 : Int) (w : World) (hr1 : Kd.C (Kd.int .i64) w A1 l1.length l1) (hc1 : l1.length ≤ c1) (h : bits_Spread.f k a0 l1 = some (r1, r2)) :
  Calls Try.prog 14 #[.int .i64 a0, .slice A1 l1.length c1] w fun e w' => e = .returned (.tuple #[.int .i64 r1, .int .i64 r2]) ∧ Drawn0 w w' := by
 have HR1 := Aside0.mk hr1
 have HC1 := Aside0.mk hc1
 clear hr1 hc1
 have H : ((bits_places.f k l1).bind fun t181 => (if t181 = 0 then ((bits_letters.f a0 (l1.length : Int)).bind fun t182 => (bits_Spread.j0 k a0 l1 (!t182))) else (bits_Spread.j0 k a0 l1 true))) = some (r1, r2) := h
 clear h
 have HC3 := Aside0.mk H
 clear H
 go_enter Try.func14, Try.ntmps14
 go_upto_region 1 with (fail)
 go_cut [19] (fun v19 wc => ∃ (kq : Nat) (x19_2 : Bool), v19 = .bool x19_2 ∧ Aside0 (bits_Spread.j0 kq a0 l1 x19_2 = some (r1, r2)) ∧ Aside0 (kq ≤ k) ∧ Drawn0 w wc)
 case first =>
  have H := HC3.out
  clear HC3
  replace H := Option.bind_eq_some_iff.mp H
  obtain ⟨t181, A40, H⟩ := H
  replace H : (if t181 = 0 then ((bits_letters.f a0 (l1.length : Int)).bind fun t182 => (bits_Spread.j0 k a0 l1 (!t182))) else (bits_Spread.j0 k a0 l1 true)) = some (r1, r2) := H
  have A4 := Aside0.mk A40
  clear A40
  by_cases c5 : t181 = 0
  ·rw [if_pos c5] at H
   have c5b0 : (t181 == 0) = true := beq_iff_eq.mpr c5
   have c5b1 : (t181 != 0) = false := bne_eq_false_iff_eq.mpr c5
   clear c5
   (first | rw [c5b0] | (simp only [i64_w, i32_w]; rw [c5b0]) | skip)
   replace H := Option.bind_eq_some_iff.mp H
   obtain ⟨t182, A60, H⟩ := H
   replace H : (bits_Spread.j0 k a0 l1 (!t182)) = some (r1, r2) := H
   have A6 := Aside0.mk A60
   clear A60
   have H' := Aside0.mk H
   clear H
   go_wp2_with (first | ((with_reducible refine gate_callee (f := 34) rfl ?_); refine goesL_ (some 11) rfl rfl Try.func34 (by kernel_rfl) rfl #[.slice A1 l1.length c1] rfl mO ?_; (with_reducible refine (bits_places.calls k _ _ l1 t181 _ ?side1 ?side2 A4.out).mono ?_); (case side1 => exact cO HR1.out); (case side2 => exact HC1.out); rintro e w' ⟨rfl, ⟨nd, rfl⟩⟩; refine ⟨_, rfl, ?_⟩) | (go_at_call 27; (with_reducible refine (bits_letters.calls a0 (l1.length : Int) t182 _ A6.out).mono ?_); rintro e w' ⟨rfl, ⟨nd, rfl⟩⟩))
   go_meet
   case rel => exact ⟨_, (!t182), (by first | rfl | (simp; done) | (simp [*]; done)), H', ⟨by first | omega | exact Nat.le_refl _⟩, by repeat (first | exact Drawn0.refl _ | apply Drawn0.step)⟩
  ·rw [if_neg c5] at H
   have c5b0 : (t181 == 0) = false := beq_eq_false_iff_ne.mpr c5
   have c5b1 : (t181 != 0) = true := bne_iff_ne.mpr c5
   (first | rw [c5b0] | (simp only [i64_w, i32_w]; rw [c5b0]) | skip)
   have H' := Aside0.mk H
   clear H
   go_wp2_with (first | ((with_reducible refine gate_callee (f := 34) rfl ?_); refine goesL_ (some 11) rfl rfl Try.func34 (by kernel_rfl) rfl #[.slice A1 l1.length c1] rfl mO ?_; (with_reducible refine (bits_places.calls k _ _ l1 t181 _ ?side1 ?side2 A4.out).mono ?_); (case side1 => exact cO HR1.out); (case side2 => exact HC1.out); rintro e w' ⟨rfl, ⟨nd, rfl⟩⟩; refine ⟨_, rfl, ?_⟩))
   go_meet
   case rel => exact ⟨_, (true), (by first | rfl | (simp; done) | (simp [*]; done)), H', ⟨by first | omega | exact Nat.le_refl _⟩, by repeat (first | exact Drawn0.refl _ | apply Drawn0.step)⟩
 case rest =>
  clear HC3
  try clear c1
  try clear p2
  try clear c3
  try clear c5
  try clear c5b0
  try clear c5b1
  obtain ⟨kq, x19_2, rfl, HA, HJ2, ⟨mc2, rfl⟩⟩ := hcut
  cases kq with
  | zero => exact absurd HA.out (by simp [bits_Spread.j0])
  | succ kj2 =>
   have H := HA.out
   clear HA
   simp only [bits_Spread.j0] at H
   by_cases c7 : x19_2 = true
   ·subst c7
    have H1 : (some (0, 2)) = some (r1, r2) := by rw [if_pos rfl] at H; exact H
    clear H
    have H := H1
    clear H1
    simp only [Option.some.injEq, Prod.mk.injEq] at H
    obtain ⟨rfl, rfl⟩ := H
    go_wp2
    go_ret2
    exact ⟨by first | rfl | (simp; done) | (simp [*]; done), by repeat (first | exact Drawn0.refl _ | apply Drawn0.step)⟩
   ·replace c7 := Bool.eq_false_iff.mpr c7
    subst c7
    have H1 : (bits_Spread.l0 kj2 a0 0 0 l1 (l1.length : Int) 0) = some (r1, r2) := by rw [if_neg (show ¬ (false = true) by decide)] at H; exact H
    clear H
    have H := H1
    clear H1
    have H' := Aside0.mk H
    clear H
    go_wp2
    go_loopg [6, 7, 22] kj2 (fun kq v6 v7 v22 w' => ∃ (x6_2 : Int) (x7_2 : Int) (x22_2 : Int), v6 = .int .i64 x6_2 ∧ v7 = .int .i64 x7_2 ∧ v22 = .int .i64 x22_2 ∧ Aside0 (bits_Spread.l0 kq a0 x6_2 x7_2 l1 (l1.length : Int) x22_2 = some (r1, r2)) ∧ Aside0 (kq ≤ kj2) ∧ Drawn0 w w')
    case atStart => exact ⟨(0), (0), (0), (by first | rfl | (simp; done) | (simp [*]; done)), (by first | rfl | (simp; done) | (simp [*]; done)), (by first | rfl | (simp; done) | (simp [*]; done)), H', ⟨Nat.le_refl _⟩, by repeat (first | exact Drawn0.refl _ | apply Drawn0.step)⟩
    case round =>
     clear H'
     try clear c1
     try clear c2
     try clear p2
     try clear c3
     try clear c5
     try clear c5b0
     try clear c5b1
     try clear c7
     try clear p2
     obtain ⟨x6_2, x7_2, x22_2, rfl, rfl, rfl, HA, HK2, ⟨m2, rfl⟩⟩ := hrel
     cases gk with
     | zero => exact absurd HA.out (by simp [bits_Spread.l0])
     | succ k2 =>
      have H := HA.out
      clear HA
      simp only [bits_Spread.l0] at H
      by_cases c8 : x22_2 < (l1.length : Int)
      ·rw [if_pos c8] at H
       have c8b0 : decide (x22_2 < (l1.length : Int)) = true := decide_eq_true c8
       clear c8
       by_cases c9 : 0 ≤ x22_2
       ·rw [if_pos c9] at H
        have c9b0 : decide (0 ≤ x22_2) = true := decide_eq_true c9
        clear c9
        by_cases c10 : x22_2 < (l1.length : Int)
        ·rw [if_pos c10] at H
         have c10b0 : decide (x22_2 < (l1.length : Int)) = true := decide_eq_true c10
         clear c10
         by_cases c11 : 0 ≤ (rd l1 x22_2)
         ·rw [if_pos c11] at H
          have c11b0 := eq_true c11
          have c11b1 : decide (0 ≤ (rd l1 x22_2)) = true := decide_eq_true c11
          clear c11
          obtain ⟨ji12, hji12⟩ : ∃ j_ : Int, (shr .i64 x7_2 (rd l1 x22_2)) = j_ := ⟨_, rfl⟩
          replace H : (if (Go.bits .and .i64 (ji12) 1) = 1 then (some (0, 5)) else ((bits_Digit.f a0 x22_2).bind fun t184 => (bits_Spread.l0 k2 a0 (Go.bits .or .i64 x6_2 (shl .i64 t184 (rd l1 x22_2))) (Go.bits .or .i64 x7_2 (shl .i64 1 (rd l1 x22_2))) l1 (l1.length : Int) (wrap64 (x22_2 + 1))))) = some (r1, r2) := by first | (rw [hji12] at H; exact H) | (simp only [hji12] at H ⊢; exact H)
          have hji12_ : (x7_2 / 2 ^ min (rd l1 x22_2).toNat 64) = ji12 := hji12
          have hji12z : (rd l1 x22_2) ≤ 64 → (x7_2 / 2 ^ (rd l1 x22_2).toNat) = ji12 := shr_small hji12
          by_cases c13 : (Go.bits .and .i64 (ji12) 1) = 1
          ·rw [if_pos c13] at H
           have c13b0 : ((Go.bits .and .i64 (ji12) 1) == 1) = true := beq_iff_eq.mpr c13
           have c13b1 : ((Go.bits .and .i64 (ji12) 1) != 1) = false := bne_eq_false_iff_eq.mpr c13
           clear c13
           simp only [Option.some.injEq, Prod.mk.injEq] at H
           obtain ⟨rfl, rfl⟩ := H
           have p183 : 0 ≤ (x22_2 : Int) := of_decide_eq_true aO
           have q183 : x22_2 < (l1.length : Int) := of_decide_eq_true aO
           obtain ⟨ad183, e183, hx183_0⟩ := Kd.at_int HR1.out x22_2 p183 q183
           cases e183
           replace p183 := eq_true p183
           replace q183 := eq_true q183
           go_wp2
           go_ret2
           exact ⟨by first | rfl | (simp; done) | (simp only [← hji12] <;> (first | rfl | simp)) | (simp [*]; done), by repeat (first | exact Drawn0.refl _ | apply Drawn0.step)⟩
          ·rw [if_neg c13] at H
           have c13b0 : ((Go.bits .and .i64 (ji12) 1) == 1) = false := beq_eq_false_iff_ne.mpr c13
           have c13b1 : ((Go.bits .and .i64 (ji12) 1) != 1) = true := bne_iff_ne.mpr c13
           have c14b0 := eq_true (of_decide_eq_true aO : 0 ≤ (rd l1 x22_2))
           obtain ⟨ji15, hji15⟩ : ∃ j_ : Int, (shl .i64 1 (rd l1 x22_2)) = j_ := ⟨_, rfl⟩
           replace H : ((bits_Digit.f a0 x22_2).bind fun t184 => (bits_Spread.l0 k2 a0 (Go.bits .or .i64 x6_2 (shl .i64 t184 (rd l1 x22_2))) (Go.bits .or .i64 x7_2 (ji15)) l1 (l1.length : Int) (wrap64 (x22_2 + 1)))) = some (r1, r2) := by first | (rw [hji15] at H; exact H) | (simp only [hji15] at H ⊢; exact H)
           have hji15_ : (IntKind.i64.wrap (1 * 2 ^ min (rd l1 x22_2).toNat 64)) = ji15 := hji15
           have hji15z : (rd l1 x22_2) ≤ 64 → (IntKind.i64.wrap (1 * 2 ^ (rd l1 x22_2).toNat)) = ji15 := shl_small hji15
           have hji15u : (IntKind.i64.wrap (2 ^ min (rd l1 x22_2).toNat 64)) = ji15 := by have h_ := hji15_; rw [Int.one_mul] at h_; exact h_
           have hji15v : (rd l1 x22_2) ≤ 64 → (IntKind.i64.wrap (2 ^ (rd l1 x22_2).toNat)) = ji15 := fun hle_ => by have h_ := hji15z hle_; rw [Int.one_mul] at h_; exact h_
           have hji15y : (wrap64 (1 * 2 ^ min (rd l1 x22_2).toNat 64)) = ji15 := (i64_w _).symm.trans hji15_
           have hji15x : (rd l1 x22_2) ≤ 64 → (wrap64 (1 * 2 ^ (rd l1 x22_2).toNat)) = ji15 := fun h_ => (i64_w _).symm.trans (hji15z h_)
           replace H := Option.bind_eq_some_iff.mp H
           obtain ⟨t184, A160, H⟩ := H
           replace H : (bits_Spread.l0 k2 a0 (Go.bits .or .i64 x6_2 (shl .i64 t184 (rd l1 x22_2))) (Go.bits .or .i64 x7_2 (ji15)) l1 (l1.length : Int) (wrap64 (x22_2 + 1))) = some (r1, r2) := H
           have A16 := Aside0.mk A160
           clear A160
           have c17b0 := eq_true (of_decide_eq_true aO : 0 ≤ (rd l1 x22_2))
           obtain ⟨ji18, hji18⟩ : ∃ j_ : Int, (shl .i64 t184 (rd l1 x22_2)) = j_ := ⟨_, rfl⟩
           replace H : (bits_Spread.l0 k2 a0 (Go.bits .or .i64 x6_2 (ji18)) (Go.bits .or .i64 x7_2 (ji15)) l1 (l1.length : Int) (wrap64 (x22_2 + 1))) = some (r1, r2) := by first | (rw [hji18] at H; exact H) | (simp only [hji18] at H ⊢; exact H)
           (try rw [hji18] at A16)
           have hji18_ : (IntKind.i64.wrap (t184 * 2 ^ min (rd l1 x22_2).toNat 64)) = ji18 := hji18
           have hji18z : (rd l1 x22_2) ≤ 64 → (IntKind.i64.wrap (t184 * 2 ^ (rd l1 x22_2).toNat)) = ji18 := shl_small hji18
           have hji18y : (wrap64 (t184 * 2 ^ min (rd l1 x22_2).toNat 64)) = ji18 := (i64_w _).symm.trans hji18_
           have hji18x : (rd l1 x22_2) ≤ 64 → (wrap64 (t184 * 2 ^ (rd l1 x22_2).toNat)) = ji18 := fun h_ => (i64_w _).symm.trans (hji18z h_)
           have H' := Aside0.mk H
           clear H
           have p183 : 0 ≤ (x22_2 : Int) := of_decide_eq_true aO
           have q183 : x22_2 < (l1.length : Int) := of_decide_eq_true aO
           obtain ⟨ad183, e183, hx183_0⟩ := Kd.at_int HR1.out x22_2 p183 q183
           cases e183
           replace p183 := eq_true p183
           replace q183 := eq_true q183
           go_wp2_with (first | ((with_reducible refine gate_callee (f := 12) rfl ?_); refine goesL_ (some 39) rfl rfl Try.func12 (by kernel_rfl) rfl #[.int .i64 a0, .int .i64 x22_2] rfl mO ?_; (with_reducible refine (bits_Digit.calls a0 x22_2 t184 _ A16.out).mono ?_); rintro e w' ⟨rfl, ⟨nd, rfl⟩⟩; refine ⟨_, rfl, ?_⟩))
           go_roundg k2
           case measure => have := HJ2.out; have := HK2.out; omega
           case rel => exact ⟨(Go.bits .or .i64 x6_2 (ji18)), (Go.bits .or .i64 x7_2 (ji15)), (wrap64 (x22_2 + 1)), (by first | rfl | (simp; done) | (simp only [← hji18] <;> (first | rfl | simp)) | (simp [*]; done)), (by first | rfl | (simp; done) | (simp only [← hji15] <;> (first | rfl | simp)) | (simp [*]; done)), (by first | rfl | (simp; done) | (simp [*]; done)), H', ⟨by have := HJ2.out; have := HK2.out; omega⟩, by repeat (first | exact Drawn0.refl _ | apply Drawn0.step)⟩
         ·rw [if_neg c11] at H
          exact absurd H (by simp)
        ·rw [if_neg c10] at H
         exact absurd H (by simp)
       ·rw [if_neg c9] at H
        exact absurd H (by simp)
      ·rw [if_neg c8] at H
       have c8b0 : decide (x22_2 < (l1.length : Int)) = false := decide_eq_false c8
       clear c8
       simp only [Option.some.injEq, Prod.mk.injEq] at H
       obtain ⟨rfl, rfl⟩ := H
       go_wp2
       go_ret2
       exact ⟨by first | rfl | (simp; done) | (simp [*]; done), by repeat (first | exact Drawn0.refl _ | apply Drawn0.step)⟩

end Go.Proofs.Ytpekanolhgcljaa.X

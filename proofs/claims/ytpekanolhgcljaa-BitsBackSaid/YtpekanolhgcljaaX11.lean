/- What the functions of this seat compute, and that the program's calls come to just that: written by this session's own program out of the translation; no condition. -/
import Derived.Test.YtpekanolhgcljaaX0
import Derived.Test.YtpekanolhgcljaaX1
import Derived.Test.YtpekanolhgcljaaX5
import Derived.Test.YtpekanolhgcljaaX7
namespace Go.Proofs.Ytpekanolhgcljaa.X
open Go.RowKit Go.Proofs.YtpekanolhgcljaaW.PrintWords Go.Proofs.YtpekanolhgcljaaW.PrintLast Go.Proofs.YtpekanolhgcljaaW.PrintMore
attribute [local go_sem] max2_int min2_int max_two min_two max_three min_three max_four min_four   -- for this text's walks alone
set_option linter.unusedVariables false
set_option linter.unusedSimpArgs false

/-! ### bits_Gather: function 16 -/
mutual
def bits_Gather.j0 : Nat → Int → List Int → Bool → Option (Int × Int)
 | 0, _, _, _ => none
 | k + 1, x0, x1, x16 => if x16 = true then (some (0, 2)) else (bits_Gather.l0 k x0 0 x1 (x1.length : Int) 0)
def bits_Gather.l0 : Nat → Int → Int → List Int → Int → Int → Option (Int × Int)
 | 0, _, _, _, _, _ => none
 | k + 1, x0, x6, x17, x18, x19 => if x19 < x18 then (if 0 ≤ x19 then (if x19 < (x17.length : Int) then ((bits_Digit.f x0 (rd x17 x19)).bind fun t208 => (bits_Gather.l0 k x0 (Go.bits .or .i64 x6 (shl .i64 t208 x19)) x17 x18 (wrap64 (x19 + 1)))) else (none)) else (none)) else (some (x6, 0))
end
def bits_Gather.f (k : Nat) (a0 : Int) (l1 : List Int) : Option (Int × Int) := (bits_places.f k l1).bind fun t205 => (if t205 = 0 then ((bits_letters.f a0 6).bind fun t206 => (bits_Gather.j0 k a0 l1 (!t206))) else (bits_Gather.j0 k a0 l1 true))
theorem bits_Gather.mono_l : ∀ k, (∀ y0 y1 y2, LeO (bits_Gather.j0 k y0 y1 y2) (bits_Gather.j0 (k + 1) y0 y1 y2)) ∧ (∀ y0 y1 y2 y3 y4, LeO (bits_Gather.l0 k y0 y1 y2 y3 y4) (bits_Gather.l0 (k + 1) y0 y1 y2 y3 y4))
 | 0 => ⟨fun _ _ _ r h => by simp [bits_Gather.j0] at h, fun _ _ _ _ _ r h => by simp [bits_Gather.l0] at h⟩
 | k + 1 => by
  obtain ⟨ih0, ih1⟩ := bits_Gather.mono_l k
  refine ⟨?_, ?_⟩
  ·intro y0 y1 y2
   unfold bits_Gather.j0
   repeat' first
   | (with_reducible exact ih0 _ _ _)
   | (with_reducible exact ih1 _ _ _ _ _)
   | (with_reducible exact bits_places.mono _ _)
   | (with_reducible exact LeO.refl _)
   | (with_reducible exact LeO.none _)
   | (with_reducible refine LeO.ite ?_ ?_)
   | (with_reducible refine LeO.bind ?_ (fun _ => ?_))
   | exact ih0 _ _ _
   | exact ih1 _ _ _ _ _
   | exact bits_places.mono _ _
   | exact LeO.none _
   | refine LeO.ite ?_ ?_
   | refine LeO.bind ?_ (fun _ => ?_)
  ·intro y0 y1 y2 y3 y4
   unfold bits_Gather.l0
   repeat' first
   | (with_reducible exact ih0 _ _ _)
   | (with_reducible exact ih1 _ _ _ _ _)
   | (with_reducible exact bits_places.mono _ _)
   | (with_reducible exact LeO.refl _)
   | (with_reducible exact LeO.none _)
   | (with_reducible refine LeO.ite ?_ ?_)
   | (with_reducible refine LeO.bind ?_ (fun _ => ?_))
   | exact ih0 _ _ _
   | exact ih1 _ _ _ _ _
   | exact bits_places.mono _ _
   | exact LeO.none _
   | refine LeO.ite ?_ ?_
   | refine LeO.bind ?_ (fun _ => ?_)
theorem bits_Gather.mono : ∀ a0 a1 k, LeO (bits_Gather.f k a0 a1) (bits_Gather.f (k + 1) a0 a1) := by
 intro a0 a1 k
 obtain ⟨ih0, ih1⟩ := bits_Gather.mono_l k
 unfold bits_Gather.f
 repeat' first
   | (with_reducible exact ih0 _ _ _)
   | (with_reducible exact ih1 _ _ _ _ _)
   | (with_reducible exact bits_places.mono _ _)
   | (with_reducible exact LeO.refl _)
   | (with_reducible exact LeO.none _)
   | (with_reducible refine LeO.ite ?_ ?_)
   | (with_reducible refine LeO.bind ?_ (fun _ => ?_))
   | exact ih0 _ _ _
   | exact ih1 _ _ _ _ _
   | exact bits_places.mono _ _
   | exact LeO.none _
   | refine LeO.ite ?_ ?_
   | refine LeO.bind ?_ (fun _ => ?_)
set_option maxHeartbeats 8000000 in
set_option maxRecDepth 100000 in
theorem bits_Gather.calls (k : Nat) (a0 : Int) (A1 : Option Addr) (c1 : Nat) (l1 : List Int) (r1 : Int) (r2 : Int) (w : World) (hr1 : Kd.C (Kd.int .i64) w A1 l1.length l1) (hc1 : l1.length ≤ c1) (h : bits_Gather.f k a0 l1 = some (r1, r2)) :
  Calls Try.prog 16 #[.int .i64 a0, .slice A1 l1.length c1] w fun e w' => e = .returned (.tuple #[.int .i64 r1, .int .i64 r2]) ∧ Drawn0 w w' := by
 have HR1 := Aside0.mk hr1
 have HC1 := Aside0.mk hc1
 clear hr1 hc1
 have H : ((bits_places.f k l1).bind fun t205 => (if t205 = 0 then ((bits_letters.f a0 6).bind fun t206 => (bits_Gather.j0 k a0 l1 (!t206))) else (bits_Gather.j0 k a0 l1 true))) = some (r1, r2) := h
 clear h
 have HC3 := Aside0.mk H
 clear H
 go_enter Try.func16, Try.ntmps16
 go_upto_region 1 with (fail)
 go_cut [16] (fun v16 wc => ∃ (kq : Nat) (x16_2 : Bool), v16 = .bool x16_2 ∧ Aside0 (bits_Gather.j0 kq a0 l1 x16_2 = some (r1, r2)) ∧ Aside0 (kq ≤ k) ∧ Drawn0 w wc)
 case first =>
  have H := HC3.out
  clear HC3
  replace H := Option.bind_eq_some_iff.mp H
  obtain ⟨t205, A40, H⟩ := H
  replace H : (if t205 = 0 then ((bits_letters.f a0 6).bind fun t206 => (bits_Gather.j0 k a0 l1 (!t206))) else (bits_Gather.j0 k a0 l1 true)) = some (r1, r2) := H
  have A4 := Aside0.mk A40
  clear A40
  by_cases c5 : t205 = 0
  ·rw [if_pos c5] at H
   have c5b0 : (t205 == 0) = true := beq_iff_eq.mpr c5
   have c5b1 : (t205 != 0) = false := bne_eq_false_iff_eq.mpr c5
   clear c5
   (first | rw [c5b0] | (simp only [i64_w, i32_w]; rw [c5b0]) | skip)
   replace H := Option.bind_eq_some_iff.mp H
   obtain ⟨t206, A60, H⟩ := H
   replace H : (bits_Gather.j0 k a0 l1 (!t206)) = some (r1, r2) := H
   have A6 := Aside0.mk A60
   clear A60
   have H' := Aside0.mk H
   clear H
   go_wp2_with (first | ((with_reducible refine gate_callee (f := 34) rfl ?_); refine goesL_ (some 10) rfl rfl Try.func34 (by kernel_rfl) rfl #[.slice A1 l1.length c1] rfl mO ?_; (with_reducible refine (bits_places.calls k _ _ l1 t205 _ ?side1 ?side2 A4.out).mono ?_); (case side1 => exact cO HR1.out); (case side2 => exact HC1.out); rintro e w' ⟨rfl, ⟨nd, rfl⟩⟩; refine ⟨_, rfl, ?_⟩) | (go_at_call 27; (with_reducible refine (bits_letters.calls a0 6 t206 _ A6.out).mono ?_); rintro e w' ⟨rfl, ⟨nd, rfl⟩⟩))
   go_meet
   case rel => exact ⟨_, (!t206), (by first | rfl | (simp; done) | (simp [*]; done)), H', ⟨by first | omega | exact Nat.le_refl _⟩, by repeat (first | exact Drawn0.refl _ | apply Drawn0.step)⟩
  ·rw [if_neg c5] at H
   have c5b0 : (t205 == 0) = false := beq_eq_false_iff_ne.mpr c5
   have c5b1 : (t205 != 0) = true := bne_iff_ne.mpr c5
   (first | rw [c5b0] | (simp only [i64_w, i32_w]; rw [c5b0]) | skip)
   have H' := Aside0.mk H
   clear H
   go_wp2_with (first | ((with_reducible refine gate_callee (f := 34) rfl ?_); refine goesL_ (some 10) rfl rfl Try.func34 (by kernel_rfl) rfl #[.slice A1 l1.length c1] rfl mO ?_; (with_reducible refine (bits_places.calls k _ _ l1 t205 _ ?side1 ?side2 A4.out).mono ?_); (case side1 => exact cO HR1.out); (case side2 => exact HC1.out); rintro e w' ⟨rfl, ⟨nd, rfl⟩⟩; refine ⟨_, rfl, ?_⟩))
   go_meet
   case rel => exact ⟨_, (true), (by first | rfl | (simp; done) | (simp [*]; done)), H', ⟨by first | omega | exact Nat.le_refl _⟩, by repeat (first | exact Drawn0.refl _ | apply Drawn0.step)⟩
 case rest =>
  clear HC3
  try clear c1
  try clear p2
  try clear c3
  try clear c5
  try clear c5b0
  try clear c5b1
  obtain ⟨kq, x16_2, rfl, HA, HJ2, ⟨mc2, rfl⟩⟩ := hcut
  cases kq with
  | zero => exact absurd HA.out (by simp [bits_Gather.j0])
  | succ kj2 =>
   have H := HA.out
   clear HA
   simp only [bits_Gather.j0] at H
   by_cases c7 : x16_2 = true
   ·subst c7
    have H1 : (some (0, 2)) = some (r1, r2) := by rw [if_pos rfl] at H; exact H
    clear H
    have H := H1
    clear H1
    simp only [Option.some.injEq, Prod.mk.injEq] at H
    obtain ⟨rfl, rfl⟩ := H
    go_wp2
    go_ret2
    exact ⟨by first | rfl | (simp; done) | (simp [*]; done), by repeat (first | exact Drawn0.refl _ | apply Drawn0.step)⟩
   ·replace c7 := Bool.eq_false_iff.mpr c7
    subst c7
    have H1 : (bits_Gather.l0 kj2 a0 0 l1 (l1.length : Int) 0) = some (r1, r2) := by rw [if_neg (show ¬ (false = true) by decide)] at H; exact H
    clear H
    have H := H1
    clear H1
    have H' := Aside0.mk H
    clear H
    go_wp2
    go_loopg [6, 19] kj2 (fun kq v6 v19 w' => ∃ (x6_2 : Int) (x19_2 : Int), v6 = .int .i64 x6_2 ∧ v19 = .int .i64 x19_2 ∧ Aside0 (bits_Gather.l0 kq a0 x6_2 l1 (l1.length : Int) x19_2 = some (r1, r2)) ∧ Aside0 (kq ≤ kj2) ∧ Drawn0 w w')
    case atStart => exact ⟨(0), (0), (by first | rfl | (simp; done) | (simp [*]; done)), (by first | rfl | (simp; done) | (simp [*]; done)), H', ⟨Nat.le_refl _⟩, by repeat (first | exact Drawn0.refl _ | apply Drawn0.step)⟩
    case round =>
     clear H'
     try clear c1
     try clear c2
     try clear p2
     try clear c3
     try clear c5
     try clear c5b0
     try clear c5b1
     try clear c7
     try clear p2
     obtain ⟨x6_2, x19_2, rfl, rfl, HA, HK2, ⟨m2, rfl⟩⟩ := hrel
     cases gk with
     | zero => exact absurd HA.out (by simp [bits_Gather.l0])
     | succ k2 =>
      have H := HA.out
      clear HA
      simp only [bits_Gather.l0] at H
      by_cases c8 : x19_2 < (l1.length : Int)
      ·rw [if_pos c8] at H
       have c8b0 : decide (x19_2 < (l1.length : Int)) = true := decide_eq_true c8
       clear c8
       by_cases c9 : 0 ≤ x19_2
       ·rw [if_pos c9] at H
        have c9b0 : decide (0 ≤ x19_2) = true := decide_eq_true c9
        clear c9
        by_cases c10 : x19_2 < (l1.length : Int)
        ·rw [if_pos c10] at H
         have c10b0 : decide (x19_2 < (l1.length : Int)) = true := decide_eq_true c10
         clear c10
         replace H := Option.bind_eq_some_iff.mp H
         obtain ⟨t208, A110, H⟩ := H
         replace H : (bits_Gather.l0 k2 a0 (Go.bits .or .i64 x6_2 (shl .i64 t208 x19_2)) l1 (l1.length : Int) (wrap64 (x19_2 + 1))) = some (r1, r2) := H
         have A11 := Aside0.mk A110
         clear A110
         have c12b0 := eq_true (of_decide_eq_true aO : 0 ≤ x19_2)
         obtain ⟨ji13, hji13⟩ : ∃ j_ : Int, (shl .i64 t208 x19_2) = j_ := ⟨_, rfl⟩
         replace H : (bits_Gather.l0 k2 a0 (Go.bits .or .i64 x6_2 (ji13)) l1 (l1.length : Int) (wrap64 (x19_2 + 1))) = some (r1, r2) := by first | (rw [hji13] at H; exact H) | (simp only [hji13] at H ⊢; exact H)
         (try rw [hji13] at A11)
         have hji13_ : (IntKind.i64.wrap (t208 * 2 ^ min x19_2.toNat 64)) = ji13 := hji13
         have hji13z : x19_2 ≤ 64 → (IntKind.i64.wrap (t208 * 2 ^ x19_2.toNat)) = ji13 := shl_small hji13
         have hji13y : (wrap64 (t208 * 2 ^ min x19_2.toNat 64)) = ji13 := (i64_w _).symm.trans hji13_
         have hji13x : x19_2 ≤ 64 → (wrap64 (t208 * 2 ^ x19_2.toNat)) = ji13 := fun h_ => (i64_w _).symm.trans (hji13z h_)
         have H' := Aside0.mk H
         clear H
         have p207 : 0 ≤ (x19_2 : Int) := of_decide_eq_true aO
         have q207 : x19_2 < (l1.length : Int) := of_decide_eq_true aO
         obtain ⟨ad207, e207, hx207_0⟩ := Kd.at_int HR1.out x19_2 p207 q207
         cases e207
         replace p207 := eq_true p207
         replace q207 := eq_true q207
         go_wp2_with (first | ((with_reducible refine gate_callee (f := 12) rfl ?_); refine goesL_ (some 27) rfl rfl Try.func12 (by kernel_rfl) rfl #[.int .i64 a0, .int .i64 (rd l1 x19_2)] rfl mO ?_; (with_reducible refine (bits_Digit.calls a0 (rd l1 x19_2) t208 _ A11.out).mono ?_); rintro e w' ⟨rfl, ⟨nd, rfl⟩⟩; refine ⟨_, rfl, ?_⟩))
         go_roundg k2
         case measure => have := HJ2.out; have := HK2.out; omega
         case rel => exact ⟨(Go.bits .or .i64 x6_2 (ji13)), (wrap64 (x19_2 + 1)), (by first | rfl | (simp; done) | (simp only [← hji13] <;> (first | rfl | simp)) | (simp [*]; done)), (by first | rfl | (simp; done) | (simp [*]; done)), H', ⟨by have := HJ2.out; have := HK2.out; omega⟩, by repeat (first | exact Drawn0.refl _ | apply Drawn0.step)⟩
        ·rw [if_neg c10] at H
         exact absurd H (by simp)
       ·rw [if_neg c9] at H
        exact absurd H (by simp)
      ·rw [if_neg c8] at H
       have c8b0 : decide (x19_2 < (l1.length : Int)) = false := decide_eq_false c8
       clear c8
       simp only [Option.some.injEq, Prod.mk.injEq] at H
       obtain ⟨rfl, rfl⟩ := H
       go_wp2
       go_ret2
       exact ⟨by first | rfl | (simp; done) | (simp [*]; done), by repeat (first | exact Drawn0.refl _ | apply Drawn0.step)⟩

end Go.Proofs.Ytpekanolhgcljaa.X

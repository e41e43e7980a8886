/- What the functions of this seat compute, and that the program's calls come to just that: written by this session's own program out of the translation; no condition. -/
import Derived.Test.YtolacbnkebbjiaaX0
import Derived.Test.YtolacbnkebbjiaaX18
namespace Go.Proofs.Ytolacbnkebbjiaa.X
open Go.RowKit Go.Proofs.YtolacbnkebbjiaaW.PrintWords Go.Proofs.YtolacbnkebbjiaaW.PrintLast Go.Proofs.YtolacbnkebbjiaaW.PrintMore
attribute [local go_sem] max2_int min2_int max_two min_two max_three min_three max_four min_four   -- for this text's walks alone
set_option linter.unusedVariables false
set_option linter.unusedSimpArgs false

/-! ### slices_ContainsFunc_int_int: function 31 -/
def slices_ContainsFunc_int_int.f (l0 : List Int) : Option Bool := some (l0.any noDigit)
set_option maxHeartbeats 8000000 in
set_option maxRecDepth 100000 in
theorem slices_ContainsFunc_int_int.calls (A0 : Option Addr) (c0 : Nat) (l0 : List Int) (r : Bool) (w : World) (hr0 : Kd.C (Kd.int .i64) w A0 l0.length l0) (hc0 : l0.length ≤ c0) (h : slices_ContainsFunc_int_int.f l0 = some r) :
  Calls Try.prog 31 #[.slice A0 l0.length c0, .func (.func 32) #[] #[]] w fun e w' => e = .returned (.bool r) ∧ Drawn0 w w' := by
 obtain ⟨i, hi⟩ : ∃ i, slices_IndexFunc_int_int.f l0 = some i := ⟨_, rfl⟩
 have hr : decide (i ≥ 0) = r := by
  have h1 : l0.any noDigit = r := Option.some.inj h
  rw [← h1]
  unfold slices_IndexFunc_int_int.f at hi
  have hi := Option.some.inj hi
  by_cases ha : l0.any noDigit = true
  ·rw [ha]
   cases hf : l0.findIdx? noDigit with
   | none =>
    rw [List.findIdx?_eq_none_iff] at hf
    rw [List.any_eq_true] at ha
    obtain ⟨x, hx, hp⟩ := ha
    rw [hf x hx] at hp
    cases hp
   | some j =>
    rw [hf] at hi
    simp at hi
    simp; omega
  ·have ha' : l0.any noDigit = false := by simpa using ha
   rw [ha']
   have hf : l0.findIdx? noDigit = none := by
    rw [List.findIdx?_eq_none_iff]
    intro x hx
    rw [List.any_eq_false] at ha'
    simpa using ha' x hx
   rw [hf] at hi
   simp at hi
   simp; omega
 subst hr
 have HR0 := Aside0.mk hr0
 have HI := Aside0.mk hi
 have HC := Aside0.mk hc0
 clear hr0 hi hc0 h
 go_enter Try.func31, Try.ntmps31
 go_wp2_with (go_at_call 43; (with_reducible refine (slices_IndexFunc_int_int.calls _ _ l0 i _ HR0.out HC.out HI.out).mono ?_); rintro e w' ⟨rfl, hd⟩; have HD := Aside0.mk hd; clear hd)
 go_ret
 exact ⟨rfl, HD.out⟩

/-! ### word_Number: function 19 -/
mutual
def word_Number.j0 : Nat → List Int → Bool → Option (Int × Int)
 | 0, _, _ => none
 | k + 1, x0, x14 => if x14 = true then (some (0, 3)) else (if (x0.length : Int) > 64 then (some (0, 31)) else (word_Number.l0 k x0 0 x0 (x0.length : Int) 0))
def word_Number.l0 : Nat → List Int → Int → List Int → Int → Int → Option (Int × Int)
 | 0, _, _, _, _, _ => none
 | k + 1, x0, x4, x18, x19, x20 => if x20 < x19 then (if 0 ≤ x20 then (if x20 < (x18.length : Int) then (word_Number.l0 k x0 (Go.bits .or .i64 x4 (shl .i64 (rd x18 x20) x20)) x18 x19 (wrap64 (x20 + 1))) else (none)) else (none)) else (if 0 ≤ (wrap64 (64 - (x0.length : Int))) then (some (shr .i64 (shl .i64 x4 (wrap64 (64 - (x0.length : Int)))) (wrap64 (64 - (x0.length : Int))), 0)) else (none))
end
def word_Number.f (k : Nat) (l0 : List Int) : Option (Int × Int) := if (l0.length : Int) = 0 then (word_Number.j0 k l0 true) else ((slices_ContainsFunc_int_int.f l0).bind fun t380 => (word_Number.j0 k l0 t380))
theorem word_Number.mono_l : ∀ k, (∀ y0 y1, LeO (word_Number.j0 k y0 y1) (word_Number.j0 (k + 1) y0 y1)) ∧ (∀ y0 y1 y2 y3 y4, LeO (word_Number.l0 k y0 y1 y2 y3 y4) (word_Number.l0 (k + 1) y0 y1 y2 y3 y4))
 | 0 => ⟨fun _ _ r h => by simp [word_Number.j0] at h, fun _ _ _ _ _ r h => by simp [word_Number.l0] at h⟩
 | k + 1 => by
  obtain ⟨ih0, ih1⟩ := word_Number.mono_l k
  refine ⟨?_, ?_⟩
  ·intro y0 y1
   unfold word_Number.j0
   repeat' first
   | (with_reducible exact ih0 _ _)
   | (with_reducible exact ih1 _ _ _ _ _)
   | (with_reducible exact LeO.refl _)
   | (with_reducible exact LeO.none _)
   | (with_reducible refine LeO.ite ?_ ?_)
   | (with_reducible refine LeO.bind ?_ (fun _ => ?_))
   | exact ih0 _ _
   | exact ih1 _ _ _ _ _
   | exact LeO.none _
   | refine LeO.ite ?_ ?_
   | refine LeO.bind ?_ (fun _ => ?_)
  ·intro y0 y1 y2 y3 y4
   unfold word_Number.l0
   repeat' first
   | (with_reducible exact ih0 _ _)
   | (with_reducible exact ih1 _ _ _ _ _)
   | (with_reducible exact LeO.refl _)
   | (with_reducible exact LeO.none _)
   | (with_reducible refine LeO.ite ?_ ?_)
   | (with_reducible refine LeO.bind ?_ (fun _ => ?_))
   | exact ih0 _ _
   | exact ih1 _ _ _ _ _
   | exact LeO.none _
   | refine LeO.ite ?_ ?_
   | refine LeO.bind ?_ (fun _ => ?_)
theorem word_Number.mono : ∀ a0 k, LeO (word_Number.f k a0) (word_Number.f (k + 1) a0) := by
 intro a0 k
 obtain ⟨ih0, ih1⟩ := word_Number.mono_l k
 unfold word_Number.f
 repeat' first
   | (with_reducible exact ih0 _ _)
   | (with_reducible exact ih1 _ _ _ _ _)
   | (with_reducible exact LeO.refl _)
   | (with_reducible exact LeO.none _)
   | (with_reducible refine LeO.ite ?_ ?_)
   | (with_reducible refine LeO.bind ?_ (fun _ => ?_))
   | exact ih0 _ _
   | exact ih1 _ _ _ _ _
   | exact LeO.none _
   | refine LeO.ite ?_ ?_
   | refine LeO.bind ?_ (fun _ => ?_)
set_option maxHeartbeats 8000000 in
set_option maxRecDepth 100000 in
theorem word_Number.calls (k : Nat) (A0 : Option Addr) (c0 : Nat) (l0 : List Int) (r1 : Int) (r2 : Int) (w : World) (hr0 : Kd.C (Kd.int .i64) w A0 l0.length l0) (hc0 : l0.length ≤ c0) (h : word_Number.f k l0 = some (r1, r2)) :
  Calls Try.prog 19 #[.slice A0 l0.length c0] w fun e w' => e = .returned (.tuple #[.int .i64 r1, .int .i64 r2]) ∧ Drawn0 w w' := by
 have HR0 := Aside0.mk hr0
 have HC0 := Aside0.mk hc0
 clear hr0 hc0
 have H : (if (l0.length : Int) = 0 then (word_Number.j0 k l0 true) else ((slices_ContainsFunc_int_int.f l0).bind fun t380 => (word_Number.j0 k l0 t380))) = some (r1, r2) := h
 clear h
 have HC2 := Aside0.mk H
 clear H
 go_enter Try.func19, Try.ntmps19
 go_upto_region 1 with (fail)
 go_cut [14] (fun v14 wc => ∃ (kq : Nat) (x14_1 : Bool), v14 = .bool x14_1 ∧ Aside0 (word_Number.j0 kq l0 x14_1 = some (r1, r2)) ∧ Aside0 (kq ≤ k) ∧ Drawn0 w wc)
 case first =>
  have H := HC2.out
  clear HC2
  by_cases c3 : (l0.length : Int) = 0
  ·rw [if_pos c3] at H
   have c3b0 : ((l0.length : Int) == 0) = true := beq_iff_eq.mpr c3
   have c3b1 : ((l0.length : Int) != 0) = false := bne_eq_false_iff_eq.mpr c3
   clear c3
   (first | rw [c3b0] | (simp only [i64_w, i32_w]; rw [c3b0]) | skip)
   have H' := Aside0.mk H
   clear H
   go_wp2
   go_meet
   case rel => exact ⟨_, (true), (by first | rfl | (simp; done) | (simp [*]; done)), H', ⟨by first | omega | exact Nat.le_refl _⟩, by repeat (first | exact Drawn0.refl _ | apply Drawn0.step)⟩
  ·rw [if_neg c3] at H
   have c3b0 : ((l0.length : Int) == 0) = false := beq_eq_false_iff_ne.mpr c3
   have c3b1 : ((l0.length : Int) != 0) = true := bne_iff_ne.mpr c3
   have c3b2 : ¬ (l0 = []) := fun h_ => c3 (by rw [h_]; rfl)
   (first | rw [c3b0] | (simp only [i64_w, i32_w]; rw [c3b0]) | skip)
   replace H := Option.bind_eq_some_iff.mp H
   obtain ⟨t380, A40, H⟩ := H
   replace H : (word_Number.j0 k l0 t380) = some (r1, r2) := H
   have A4 := Aside0.mk A40
   clear A40
   have H' := Aside0.mk H
   clear H
   go_wp2_with (first | (go_at_call 31; (with_reducible refine (slices_ContainsFunc_int_int.calls _ _ l0  t380 _ ?side1 ?side2 A4.out).mono ?_); (case side1 => exact cO HR0.out); (case side2 => exact HC0.out); rintro e w' ⟨rfl, ⟨nd, rfl⟩⟩))
   go_meet
   case rel => exact ⟨_, (t380), (by first | rfl | (simp; done) | (simp [*]; done)), H', ⟨by first | omega | exact Nat.le_refl _⟩, by repeat (first | exact Drawn0.refl _ | apply Drawn0.step)⟩
 case rest =>
  clear HC2
  try clear c1
  try clear p2
  try clear c3
  try clear c3b0
  try clear c3b1
  try clear c3b2
  obtain ⟨kq, x14_1, rfl, HA, HJ1, ⟨mc1, rfl⟩⟩ := hcut
  cases kq with
  | zero => exact absurd HA.out (by simp [word_Number.j0])
  | succ kj1 =>
   have H := HA.out
   clear HA
   simp only [word_Number.j0] at H
   by_cases c5 : x14_1 = true
   ·subst c5
    have H1 : (some (0, 3)) = some (r1, r2) := by rw [if_pos rfl] at H; exact H
    clear H
    have H := H1
    clear H1
    simp only [Option.some.injEq, Prod.mk.injEq] at H
    obtain ⟨rfl, rfl⟩ := H
    go_wp2
    go_ret2
    exact ⟨by first | rfl | (simp; done) | (simp [*]; done), by repeat (first | exact Drawn0.refl _ | apply Drawn0.step)⟩
   ·replace c5 := Bool.eq_false_iff.mpr c5
    subst c5
    have H1 : (if (l0.length : Int) > 64 then (some (0, 31)) else (word_Number.l0 kj1 l0 0 l0 (l0.length : Int) 0)) = some (r1, r2) := by rw [if_neg (show ¬ (false = true) by decide)] at H; exact H
    clear H
    have H := H1
    clear H1
    by_cases c6 : (l0.length : Int) > 64
    ·rw [if_pos c6] at H
     have c6b0 : decide (64 < (l0.length : Int)) = true := decide_eq_true c6
     have c6b1 : decide (64 < l0.length) = true := decide_eq_true (by omega)
     clear c6
     simp only [Option.some.injEq, Prod.mk.injEq] at H
     obtain ⟨rfl, rfl⟩ := H
     go_wp2
     go_ret2
     exact ⟨by first | rfl | (simp; done) | (simp [*]; done), by repeat (first | exact Drawn0.refl _ | apply Drawn0.step)⟩
    ·rw [if_neg c6] at H
     have c6b0 : decide (64 < (l0.length : Int)) = false := decide_eq_false c6
     have c6b1 : decide (64 < l0.length) = false := decide_eq_false (by omega)
     clear c6
     have H' := Aside0.mk H
     clear H
     go_wp2
     go_loopg [4, 20] kj1 (fun kq v4 v20 w' => ∃ (x4_2 : Int) (x20_2 : Int), v4 = .int .i64 x4_2 ∧ v20 = .int .i64 x20_2 ∧ Aside0 (word_Number.l0 kq l0 x4_2 l0 (l0.length : Int) x20_2 = some (r1, r2)) ∧ Aside0 (kq ≤ kj1) ∧ Drawn0 w w')
     case atStart => exact ⟨(0), (0), (by first | rfl | (simp; done) | (simp [*]; done)), (by first | rfl | (simp; done) | (simp [*]; done)), H', ⟨Nat.le_refl _⟩, by repeat (first | exact Drawn0.refl _ | apply Drawn0.step)⟩
     case round =>
      clear H'
      try clear c1
      try clear p2
      try clear c3
      try clear c3b0
      try clear c3b1
      try clear c3b2
      try clear c5
      try clear c6
      try clear c6b0
      try clear c6b1
      try clear p2
      obtain ⟨x4_2, x20_2, rfl, rfl, HA, HK2, ⟨m2, rfl⟩⟩ := hrel
      cases gk with
      | zero => exact absurd HA.out (by simp [word_Number.l0])
      | succ k2 =>
       have H := HA.out
       clear HA
       simp only [word_Number.l0] at H
       by_cases c7 : x20_2 < (l0.length : Int)
       ·rw [if_pos c7] at H
        have c7b0 : decide (x20_2 < (l0.length : Int)) = true := decide_eq_true c7
        clear c7
        by_cases c8 : 0 ≤ x20_2
        ·rw [if_pos c8] at H
         have c8b0 : decide (0 ≤ x20_2) = true := decide_eq_true c8
         clear c8
         by_cases c9 : x20_2 < (l0.length : Int)
         ·rw [if_pos c9] at H
          have c9b0 : decide (x20_2 < (l0.length : Int)) = true := decide_eq_true c9
          clear c9
          have c10b0 := eq_true (of_decide_eq_true aO : 0 ≤ x20_2)
          obtain ⟨ji11, hji11⟩ : ∃ j_ : Int, (shl .i64 (rd l0 x20_2) x20_2) = j_ := ⟨_, rfl⟩
          replace H : (word_Number.l0 k2 l0 (Go.bits .or .i64 x4_2 (ji11)) l0 (l0.length : Int) (wrap64 (x20_2 + 1))) = some (r1, r2) := by first | (rw [hji11] at H; exact H) | (simp only [hji11] at H ⊢; exact H)
          have hji11_ : (IntKind.i64.wrap ((rd l0 x20_2) * 2 ^ min x20_2.toNat 64)) = ji11 := hji11
          have hji11z : x20_2 ≤ 64 → (IntKind.i64.wrap ((rd l0 x20_2) * 2 ^ x20_2.toNat)) = ji11 := shl_small hji11
          have hji11y : (wrap64 ((rd l0 x20_2) * 2 ^ min x20_2.toNat 64)) = ji11 := (i64_w _).symm.trans hji11_
          have hji11x : x20_2 ≤ 64 → (wrap64 ((rd l0 x20_2) * 2 ^ x20_2.toNat)) = ji11 := fun h_ => (i64_w _).symm.trans (hji11z h_)
          have H' := Aside0.mk H
          clear H
          have p381 : 0 ≤ (x20_2 : Int) := of_decide_eq_true aO
          have q381 : x20_2 < (l0.length : Int) := of_decide_eq_true aO
          obtain ⟨ad381, e381, hx381_0⟩ := Kd.at_int HR0.out x20_2 p381 q381
          cases e381
          replace p381 := eq_true p381
          replace q381 := eq_true q381
          go_wp2
          go_roundg k2
          case measure => have := HJ1.out; have := HK2.out; omega
          case rel => exact ⟨(Go.bits .or .i64 x4_2 (ji11)), (wrap64 (x20_2 + 1)), (by first | rfl | (simp; done) | (simp only [← hji11] <;> (first | rfl | simp)) | (simp [*]; done)), (by first | rfl | (simp; done) | (simp [*]; done)), H', ⟨by have := HJ1.out; have := HK2.out; omega⟩, by repeat (first | exact Drawn0.refl _ | apply Drawn0.step)⟩
         ·rw [if_neg c9] at H
          exact absurd H (by simp)
        ·rw [if_neg c8] at H
         exact absurd H (by simp)
       ·rw [if_neg c7] at H
        have c7b0 : decide (x20_2 < (l0.length : Int)) = false := decide_eq_false c7
        clear c7
        obtain ⟨ji12, hji12⟩ : ∃ j_ : Int, (wrap64 (64 - (l0.length : Int))) = j_ := ⟨_, rfl⟩
        replace H : (if 0 ≤ (ji12) then (some (shr .i64 (shl .i64 x4_2 (ji12)) (ji12), 0)) else (none)) = some (r1, r2) := by first | (rw [hji12] at H; exact H) | (simp only [hji12] at H ⊢; exact H)
        have hji12w : (IntKind.i64.wrap (64 - (l0.length : Int))) = ji12 := (i64_w _).trans hji12
        by_cases c13 : 0 ≤ (ji12)
        ·rw [if_pos c13] at H
         have c13b0 := eq_true c13
         have c13b1 : decide (0 ≤ (ji12)) = true := decide_eq_true c13
         clear c13
         obtain ⟨ji14, hji14⟩ : ∃ j_ : Int, (shl .i64 x4_2 (ji12)) = j_ := ⟨_, rfl⟩
         replace H : (some (shr .i64 (ji14) (ji12), 0)) = some (r1, r2) := by first | (rw [hji14] at H; exact H) | (simp only [hji14] at H ⊢; exact H)
         have hji14_ : (IntKind.i64.wrap (x4_2 * 2 ^ min (ji12).toNat 64)) = ji14 := hji14
         have hji14z : (ji12) ≤ 64 → (IntKind.i64.wrap (x4_2 * 2 ^ (ji12).toNat)) = ji14 := shl_small hji14
         have hji14y : (wrap64 (x4_2 * 2 ^ min (ji12).toNat 64)) = ji14 := (i64_w _).symm.trans hji14_
         have hji14x : (ji12) ≤ 64 → (wrap64 (x4_2 * 2 ^ (ji12).toNat)) = ji14 := fun h_ => (i64_w _).symm.trans (hji14z h_)
         have c15b0 := eq_true (of_decide_eq_true aO : 0 ≤ (ji12))
         obtain ⟨ji16, hji16⟩ : ∃ j_ : Int, (shr .i64 (ji14) (ji12)) = j_ := ⟨_, rfl⟩
         replace H : (some (ji16, 0)) = some (r1, r2) := by first | (rw [hji16] at H; exact H) | (simp only [hji16] at H ⊢; exact H)
         have hji16_ : ((ji14) / 2 ^ min (ji12).toNat 64) = ji16 := hji16
         have hji16z : (ji12) ≤ 64 → ((ji14) / 2 ^ (ji12).toNat) = ji16 := shr_small hji16
         simp only [Option.some.injEq, Prod.mk.injEq] at H
         obtain ⟨rfl, rfl⟩ := H
         go_wp2
         go_ret2
         exact ⟨by first | rfl | (simp; done) | (simp only [← hji12, ← hji14, ← hji16] <;> (first | rfl | simp)) | (simp [*]; done), by repeat (first | exact Drawn0.refl _ | apply Drawn0.step)⟩
        ·rw [if_neg c13] at H
         exact absurd H (by simp)

end Go.Proofs.Ytolacbnkebbjiaa.X

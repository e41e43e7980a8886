/- What the functions of this seat compute, and that the program's calls come to just that: written by this session's own program out of the translation; no condition. -/
import Derived.Test.YtolacbnkebbjiaaX0
import Derived.Test.YtolacbnkebbjiaaX1
import Derived.Test.YtolacbnkebbjiaaX2
namespace Go.Proofs.Ytolacbnkebbjiaa.X
open Go.RowKit Go.Proofs.YtolacbnkebbjiaaW.PrintWords Go.Proofs.YtolacbnkebbjiaaW.PrintLast Go.Proofs.YtolacbnkebbjiaaW.PrintMore
attribute [local go_sem] max2_int min2_int max_two min_two max_three min_three max_four min_four   -- for this text's walks alone
set_option linter.unusedVariables false
set_option linter.unusedSimpArgs false

/-! ### word_Shortest: function 13 -/
def word_Shortest.f (k : Nat) (l0 : List Int) : Option (List Int × Int) := (word_Longest.f k l0).bind fun t325 => ((word_Encode.f k l0 t325).bind fun bt326 => (some (bt326.1, bt326.2)))
theorem word_Shortest.mono : ∀ a0 k, LeO (word_Shortest.f k a0) (word_Shortest.f (k + 1) a0) := by
 intro a0 k
 unfold word_Shortest.f
 repeat' first
   | (with_reducible exact word_Encode.mono _ _ _)
   | (with_reducible exact word_Longest.mono _ _)
   | (with_reducible exact LeO.refl _)
   | (with_reducible exact LeO.none _)
   | (with_reducible refine LeO.ite ?_ ?_)
   | (with_reducible refine LeO.bind ?_ (fun _ => ?_))
   | exact word_Encode.mono _ _ _
   | exact word_Longest.mono _ _
   | exact LeO.none _
   | refine LeO.ite ?_ ?_
   | refine LeO.bind ?_ (fun _ => ?_)
set_option maxHeartbeats 8000000 in
set_option maxRecDepth 100000 in
theorem word_Shortest.calls (k : Nat) (A0 : Option Addr) (c0 : Nat) (l0 : List Int) (r1 : List Int) (r2 : Int) (w : World) (hr0 : Kd.C (Kd.int .i64) w A0 l0.length l0) (hc0 : l0.length ≤ c0) (h : word_Shortest.f k l0 = some (r1, r2)) :
  Calls Try.prog 13 #[.slice A0 l0.length c0] w fun e w' => ∃ v0_ : Value, e = .returned (.tuple #[v0_, .int .i64 r2]) ∧ Kd.R (Kd.int .i64) 3 w' w.heap.size (fun _ => True) v0_ r1 ∧ Below w.heap.size w w' := by
 have HR0 := Aside0.mk hr0
 have HC0 := Aside0.mk hc0
 clear hr0 hc0
 have HB := Aside0.mk (Below.refl w.heap.size w)
 have H : ((word_Longest.f k l0).bind fun t325 => ((word_Encode.f k l0 t325).bind fun bt326 => (some (bt326.1, bt326.2)))) = some (r1, r2) := h
 clear h
 replace H := Option.bind_eq_some_iff.mp H
 obtain ⟨t325, A20, H⟩ := H
 replace H : ((word_Encode.f k l0 t325).bind fun bt326 => (some (bt326.1, bt326.2))) = some (r1, r2) := H
 have A2 := Aside0.mk A20
 clear A20
 replace H := Option.bind_eq_some_iff.mp H
 obtain ⟨⟨t326, t327⟩, A30, H⟩ := H
 replace H : (some (t326, t327)) = some (r1, r2) := H
 have A3 := Aside0.mk A30
 clear A30
 simp only [Option.some.injEq, Prod.mk.injEq] at H
 obtain ⟨rfl, rfl⟩ := H
 go_enter Try.func13, Try.ntmps13
 go_wp2_with (first | ((with_reducible refine gate_callee (f := 12) rfl ?_); refine goesL_ (some 6) rfl rfl Try.func12 (by kernel_rfl) rfl #[.slice A0 l0.length c0] rfl mO ?_; (with_reducible refine (word_Longest.calls k _ _ l0 t325 _ ?side1 ?side2 A2.out).mono ?_); (case side1 => exact cO HR0.out); (case side2 => exact HC0.out); rintro e w4 ⟨rfl, hb⟩; refine ⟨_, rfl, ?_⟩; have n0_ := Aside0.mk (below_step (bO HB.out) hb); clear HB; have HB := n0_; clear n0_; (try clear hb); (try clear hb2); (try clear hk); (try clear hi)) | ((with_reducible refine gate_callee (f := 10) rfl ?_); refine goesL_ (some 7) rfl rfl Try.func10 (by kernel_rfl) rfl #[.slice A0 l0.length c0, .int .i64 t325] rfl mO ?_; (with_reducible refine (word_Encode.calls k _ _ l0 t325 t326 t327 _ ?side1 ?side2 A3.out).mono ?_); (case side1 => exact cO (Kd.C_below HR0.out HB.out)); (case side2 => exact HC0.out); rintro e w5 ⟨v328, rfl, ho0, hb⟩; refine ⟨_, rfl, ?_⟩; have n0_ := Aside0.mk (Kd.R_lower ho0 (below_size (bO HB.out))); have n1_ := Aside0.mk (below_step (bO HB.out) hb); clear HB; have HO329 := n0_; have HB := n1_; clear n0_ n1_; (try clear hb); (try clear hb2); (try clear hk); (try clear hi); (try clear ho0)))
 go_ret2
 exact ⟨_, by first | rfl | (simp [errW_none, errW_some] <;> rfl) | (simp [*, errW_none, errW_some] <;> rfl), rO HO329.out, bO HB.out⟩

/-! ### tabardlaw03_same: function 16 -/
def tabardlaw03_same.l0 : Nat → List Int → List Int → Int → Int → Option (Bool)
 | 0, _, _, _, _ => none
 | k + 1, x0, x1, x12, x13 => if x13 < x12 then (if 0 ≤ x13 then (if x13 < (x0.length : Int) then (if x13 < (x1.length : Int) then (if (rd x0 x13) = (rd x1 x13) then (tabardlaw03_same.l0 k x0 x1 x12 (wrap64 (x13 + 1))) else (some false)) else (none)) else (none)) else (none)) else (some true)
def tabardlaw03_same.f (k : Nat) (l0 : List Int) (l1 : List Int) : Option (Bool) := if (l0.length : Int) = (l1.length : Int) then (tabardlaw03_same.l0 k l0 l1 (l0.length : Int) 0) else (some false)
theorem tabardlaw03_same.mono_l : ∀ k, (∀ y0 y1 y2 y3, LeO (tabardlaw03_same.l0 k y0 y1 y2 y3) (tabardlaw03_same.l0 (k + 1) y0 y1 y2 y3))
 | 0 => fun _ _ _ _ r h => by simp [tabardlaw03_same.l0] at h
 | k + 1 => by
  have ih0 := tabardlaw03_same.mono_l k
  ·intro y0 y1 y2 y3
   unfold tabardlaw03_same.l0
   repeat' first
   | (with_reducible exact ih0 _ _ _ _)
   | (with_reducible exact LeO.refl _)
   | (with_reducible exact LeO.none _)
   | (with_reducible refine LeO.ite ?_ ?_)
   | (with_reducible refine LeO.bind ?_ (fun _ => ?_))
   | exact ih0 _ _ _ _
   | exact LeO.none _
   | refine LeO.ite ?_ ?_
   | refine LeO.bind ?_ (fun _ => ?_)
theorem tabardlaw03_same.mono : ∀ a0 a1 k, LeO (tabardlaw03_same.f k a0 a1) (tabardlaw03_same.f (k + 1) a0 a1) := by
 intro a0 a1 k
 have ih0 := tabardlaw03_same.mono_l k
 unfold tabardlaw03_same.f
 repeat' first
   | (with_reducible exact ih0 _ _ _ _)
   | (with_reducible exact LeO.refl _)
   | (with_reducible exact LeO.none _)
   | (with_reducible refine LeO.ite ?_ ?_)
   | (with_reducible refine LeO.bind ?_ (fun _ => ?_))
   | exact ih0 _ _ _ _
   | exact LeO.none _
   | refine LeO.ite ?_ ?_
   | refine LeO.bind ?_ (fun _ => ?_)
set_option maxHeartbeats 8000000 in
set_option maxRecDepth 100000 in
theorem tabardlaw03_same.calls (k : Nat) (A0 : Option Addr) (c0 : Nat) (l0 : List Int) (A1 : Option Addr) (c1 : Nat) (l1 : List Int) (r : Bool) (w : World) (hr0 : Kd.C (Kd.int .i64) w A0 l0.length l0) (hc0 : l0.length ≤ c0) (hr1 : Kd.C (Kd.int .i64) w A1 l1.length l1) (hc1 : l1.length ≤ c1) (h : tabardlaw03_same.f k l0 l1 = some r) :
  Calls Try.prog 16 #[.slice A0 l0.length c0, .slice A1 l1.length c1] w fun e w' => e = .returned (.bool r) ∧ Drawn0 w w' := by
 have HR0 := Aside0.mk hr0
 have HC0 := Aside0.mk hc0
 clear hr0 hc0
 have HR1 := Aside0.mk hr1
 have HC1 := Aside0.mk hc1
 clear hr1 hc1
 have H : (if (l0.length : Int) = (l1.length : Int) then (tabardlaw03_same.l0 k l0 l1 (l0.length : Int) 0) else (some false)) = some r := h
 clear h
 by_cases c3 : (l0.length : Int) = (l1.length : Int)
 ·rw [if_pos c3] at H
  have c3b0 : ((l0.length : Int) == (l1.length : Int)) = true := beq_iff_eq.mpr c3
  have c3b1 : ((l0.length : Int) != (l1.length : Int)) = false := bne_eq_false_iff_eq.mpr c3
  have c3b2 : (l0.length == l1.length) = true := by first | simpa using c3 | (simp at c3 ⊢; omega)
  clear c3
  have H' := Aside0.mk H
  clear H
  go_enter Try.func16, Try.ntmps16
  go_wp2
  repeat (go_quiet (fail); try go_wp2)
  go_loopg [13] k (fun kq v13 w' => ∃ (x13_1 : Int), v13 = .int .i64 x13_1 ∧ Aside0 (tabardlaw03_same.l0 kq l0 l1 (l0.length : Int) x13_1 = some r) ∧ Aside0 (kq ≤ k) ∧ Drawn0 w w')
  case atStart => exact ⟨(0), (by first | rfl | (simp; done) | (simp [*]; done)), H', ⟨Nat.le_refl _⟩, by repeat (first | exact Drawn0.refl _ | apply Drawn0.step)⟩
  case round =>
   clear H'
   try clear c1
   try clear p2
   try clear c3
   try clear c3b0
   try clear c3b1
   try clear c3b2
   obtain ⟨x13_1, rfl, HA, HK1, ⟨m1, rfl⟩⟩ := hrel
   cases gk with
   | zero => exact absurd HA.out (by simp [tabardlaw03_same.l0])
   | succ k1 =>
    have H := HA.out
    clear HA
    simp only [tabardlaw03_same.l0] at H
    by_cases c4 : x13_1 < (l0.length : Int)
    ·rw [if_pos c4] at H
     have c4b0 : decide (x13_1 < (l0.length : Int)) = true := decide_eq_true c4
     clear c4
     by_cases c5 : 0 ≤ x13_1
     ·rw [if_pos c5] at H
      have c5b0 : decide (0 ≤ x13_1) = true := decide_eq_true c5
      clear c5
      by_cases c6 : x13_1 < (l0.length : Int)
      ·rw [if_pos c6] at H
       have c6b0 : decide (x13_1 < (l0.length : Int)) = true := decide_eq_true c6
       clear c6
       by_cases c7 : x13_1 < (l1.length : Int)
       ·rw [if_pos c7] at H
        have c7b0 : decide (x13_1 < (l1.length : Int)) = true := decide_eq_true c7
        clear c7
        by_cases c8 : (rd l0 x13_1) = (rd l1 x13_1)
        ·rw [if_pos c8] at H
         have c8b0 : ((rd l0 x13_1) == (rd l1 x13_1)) = true := beq_iff_eq.mpr c8
         have c8b1 : ((rd l0 x13_1) != (rd l1 x13_1)) = false := bne_eq_false_iff_eq.mpr c8
         clear c8
         have H' := Aside0.mk H
         clear H
         have p330 : 0 ≤ (x13_1 : Int) := of_decide_eq_true aO
         have q330 : x13_1 < (l0.length : Int) := of_decide_eq_true aO
         obtain ⟨ad330, e330, hx330_0⟩ := Kd.at_int HR0.out x13_1 p330 q330
         cases e330
         replace p330 := eq_true p330
         replace q330 := eq_true q330
         have p331 : 0 ≤ (x13_1 : Int) := of_decide_eq_true aO
         have q331 : x13_1 < (l1.length : Int) := of_decide_eq_true aO
         obtain ⟨ad331, e331, hx331_0⟩ := Kd.at_int HR1.out x13_1 p331 q331
         cases e331
         replace p331 := eq_true p331
         replace q331 := eq_true q331
         go_wp2
         repeat (go_quiet (fail); try go_wp2)
         go_roundg k1
         case measure => have := HK1.out; omega
         case rel => exact ⟨(wrap64 (x13_1 + 1)), (by first | rfl | (simp; done) | (simp [*]; done)), H', ⟨by have := HK1.out; omega⟩, by repeat (first | exact Drawn0.refl _ | apply Drawn0.step)⟩
        ·rw [if_neg c8] at H
         have c8b0 : ((rd l0 x13_1) == (rd l1 x13_1)) = false := beq_eq_false_iff_ne.mpr c8
         have c8b1 : ((rd l0 x13_1) != (rd l1 x13_1)) = true := bne_iff_ne.mpr c8
         obtain rfl := Option.some.inj H
         have p330 : 0 ≤ (x13_1 : Int) := of_decide_eq_true aO
         have q330 : x13_1 < (l0.length : Int) := of_decide_eq_true aO
         obtain ⟨ad330, e330, hx330_0⟩ := Kd.at_int HR0.out x13_1 p330 q330
         cases e330
         replace p330 := eq_true p330
         replace q330 := eq_true q330
         have p331 : 0 ≤ (x13_1 : Int) := of_decide_eq_true aO
         have q331 : x13_1 < (l1.length : Int) := of_decide_eq_true aO
         obtain ⟨ad331, e331, hx331_0⟩ := Kd.at_int HR1.out x13_1 p331 q331
         cases e331
         replace p331 := eq_true p331
         replace q331 := eq_true q331
         go_wp2
         repeat (go_quiet (fail); try go_wp2)
         go_ret
         exact ⟨by first | rfl | (simp; done) | (simp [*]; done), by repeat (first | exact Drawn0.refl _ | apply Drawn0.step)⟩
       ·rw [if_neg c7] at H
        exact absurd H (by simp)
      ·rw [if_neg c6] at H
       exact absurd H (by simp)
     ·rw [if_neg c5] at H
      exact absurd H (by simp)
    ·rw [if_neg c4] at H
     have c4b0 : decide (x13_1 < (l0.length : Int)) = false := decide_eq_false c4
     clear c4
     obtain rfl := Option.some.inj H
     go_wp2
     repeat (go_quiet (fail); try go_wp2)
     go_ret
     exact ⟨by first | rfl | (simp; done) | (simp [*]; done), by repeat (first | exact Drawn0.refl _ | apply Drawn0.step)⟩
 ·rw [if_neg c3] at H
  have c3b0 : ((l0.length : Int) == (l1.length : Int)) = false := beq_eq_false_iff_ne.mpr c3
  have c3b1 : ((l0.length : Int) != (l1.length : Int)) = true := bne_iff_ne.mpr c3
  have c3b2 : (l0.length == l1.length) = false := by first | simpa using c3 | (simp at c3 ⊢; omega)
  obtain rfl := Option.some.inj H
  go_enter Try.func16, Try.ntmps16
  go_wp2
  repeat (go_quiet (fail); try go_wp2)
  go_ret
  exact ⟨by first | rfl | (simp; done) | (simp [*]; done), by repeat (first | exact Drawn0.refl _ | apply Drawn0.step)⟩

/-! ### tabardlaw03_fixed: function 15 -/
def tabardlaw03_fixed.f (k : Nat)  : Option (Bool) := (word_Shortest.f k (([1, (-3)] : List Int))).bind fun bt335 => (if bt335.2 = 0 then ((tabardlaw03_same.f k bt335.1 (([3, 0, 2] : List Int))).bind fun t342 => (if t342 = true then ((word_Length.f (-2)).bind fun t343 => (if t343 = 2 then (some true) else (some false))) else (some false))) else (some false))
theorem tabardlaw03_fixed.mono : ∀ k, LeO (tabardlaw03_fixed.f k ) (tabardlaw03_fixed.f (k + 1) ) := by
 intro  k
 unfold tabardlaw03_fixed.f
 repeat' first
   | (with_reducible exact tabardlaw03_same.mono _ _ _)
   | (with_reducible exact word_Shortest.mono _ _)
   | (with_reducible exact LeO.refl _)
   | (with_reducible exact LeO.none _)
   | (with_reducible refine LeO.ite ?_ ?_)
   | (with_reducible refine LeO.bind ?_ (fun _ => ?_))
   | exact tabardlaw03_same.mono _ _ _
   | exact word_Shortest.mono _ _
   | exact LeO.none _
   | refine LeO.ite ?_ ?_
   | refine LeO.bind ?_ (fun _ => ?_)
set_option maxHeartbeats 8000000 in
set_option maxRecDepth 100000 in
theorem tabardlaw03_fixed.calls (k : Nat)  (r : Bool) (w : World) (h : tabardlaw03_fixed.f k  = some r) :
  Calls Try.prog 15 #[] w fun e w' => e = .returned (.bool r) ∧ Below w.heap.size w w' := by
 have HB := Aside0.mk (Below.refl w.heap.size w)
 have H : ((word_Shortest.f k (([1, (-3)] : List Int))).bind fun bt335 => (if bt335.2 = 0 then ((tabardlaw03_same.f k bt335.1 (([3, 0, 2] : List Int))).bind fun t342 => (if t342 = true then ((word_Length.f (-2)).bind fun t343 => (if t343 = 2 then (some true) else (some false))) else (some false))) else (some false))) = some r := h
 clear h
 obtain ⟨y332, hy332⟩ : ∃ y_ : List Int, y_ = (([1, (-3)] : List Int)) := ⟨_, rfl⟩
 replace H : ((word_Shortest.f k y332).bind fun bt335 => (if bt335.2 = 0 then ((tabardlaw03_same.f k bt335.1 (([3, 0, 2] : List Int))).bind fun t342 => (if t342 = true then ((word_Length.f (-2)).bind fun t343 => (if t343 = 2 then (some true) else (some false))) else (some false))) else (some false))) = some r := by first | (rw [hy332]; with_reducible exact H) | (have H2_ := (Option.bind_some _ _).symm.trans H; rw [hy332]; with_reducible exact H2_) | (have H2_ := (Option.bind_some _ _).symm.trans H; with_reducible exact H2_) | with_reducible exact H | (rw [hy332]; exact H) | exact H
 have Ny332 := Aside0.mk hy332
 clear hy332
 replace H := Option.bind_eq_some_iff.mp H
 obtain ⟨⟨t335, t336⟩, A10, H⟩ := H
 replace H : (if t336 = 0 then ((tabardlaw03_same.f k t335 (([3, 0, 2] : List Int))).bind fun t342 => (if t342 = true then ((word_Length.f (-2)).bind fun t343 => (if t343 = 2 then (some true) else (some false))) else (some false))) else (some false)) = some r := H
 have A1 := Aside0.mk A10
 clear A10
 by_cases c2 : t336 = 0
 ·rw [if_pos c2] at H
  have c2b0 : (t336 == 0) = true := beq_iff_eq.mpr c2
  have c2b1 : (t336 != 0) = false := bne_eq_false_iff_eq.mpr c2
  clear c2
  obtain ⟨y339, hy339⟩ : ∃ y_ : List Int, y_ = (([3, 0, 2] : List Int)) := ⟨_, rfl⟩
  replace H : ((tabardlaw03_same.f k t335 y339).bind fun t342 => (if t342 = true then ((word_Length.f (-2)).bind fun t343 => (if t343 = 2 then (some true) else (some false))) else (some false))) = some r := by first | (rw [hy339]; with_reducible exact H) | (have H2_ := (Option.bind_some _ _).symm.trans H; rw [hy339]; with_reducible exact H2_) | (have H2_ := (Option.bind_some _ _).symm.trans H; with_reducible exact H2_) | with_reducible exact H | (rw [hy339]; exact H) | exact H
  have Ny339 := Aside0.mk hy339
  clear hy339
  replace H := Option.bind_eq_some_iff.mp H
  obtain ⟨t342, A30, H⟩ := H
  replace H : (if t342 = true then ((word_Length.f (-2)).bind fun t343 => (if t343 = 2 then (some true) else (some false))) else (some false)) = some r := H
  have A3 := Aside0.mk A30
  clear A30
  by_cases c4 : t342 = true
  ·subst c4
   have H1 : ((word_Length.f (-2)).bind fun t343 => (if t343 = 2 then (some true) else (some false))) = some r := by rw [if_pos rfl] at H; exact H
   clear H
   have H := H1
   clear H1
   replace H := Option.bind_eq_some_iff.mp H
   obtain ⟨t343, A50, H⟩ := H
   replace H : (if t343 = 2 then (some true) else (some false)) = some r := H
   have A5 := Aside0.mk A50
   clear A50
   by_cases c6 : t343 = 2
   ·rw [if_pos c6] at H
    have c6b0 : (t343 == 2) = true := beq_iff_eq.mpr c6
    have c6b1 : (t343 != 2) = false := bne_eq_false_iff_eq.mpr c6
    clear c6
    obtain rfl := Option.some.inj H
    go_enter Try.func15, Try.ntmps15
    go_wp2_with (first | ((with_reducible refine gate_dst (N := 4) rfl ?_); (try (refine gate_guard (by rfl) ?_; dsimp only)); refine Kd.R_lit (Kd.int .i64) _ 2 ?hg (N := 4) ?hd (xs := ([1, (-3)] : List Int)) (inner := [.int .i64 1, .int .i64 (-3)]) (ok := fun _ => True) (okp := fun _ => True) ?hr ?hp (fun _ hk => hk) trivial (Below.refl _ _) (Nat.le_refl _) (by simp) ?_; (case hd => rfl); (case hg => rfl); (case hr => first | (go_simp; done) | (go_simp; rfl)); (case hp => exact (Reps.one (show Kd.M (Kd.int .i64) _ _ _ 1 [.int .i64 1] from rfl) (Reps.one (show Kd.M (Kd.int .i64) _ _ _ (-3) [.int .i64 (-3)] from rfl) (Reps.none _ _)))); intro v333 w7 ho8 hb hg_ hnew_; clear hg_ hnew_; (first | rw [← Ny332.out] at ho8 | (simp only [Int.reduceToNat] at ho8; rw [← Ny332.out] at ho8)); have n0_ := Aside0.mk (Kd.R_lower ho8 (below_size (bO HB.out))); have n1_ := Aside0.mk (below_step (bO HB.out) hb); clear HB; have HO334 := n0_; have HB := n1_; clear n0_ n1_; clear hb ho8; obtain ⟨Ao9, co9, eo9⟩ := Kd.R_slice HO334.out; subst eo9) | ((with_reducible refine gate_callee (f := 13) rfl ?_); refine goesL_ (some 5) rfl rfl Try.func13 (by kernel_rfl) rfl #[.slice Ao9 y332.length co9] rfl mO ?_; (with_reducible refine (word_Shortest.calls k _ _ y332 t335 t336 _ ?side1 ?side2 A1.out).mono ?_); (case side1 => exact cO (Kd.R_reads' HO334.out).2.2); (case side2 => exact (Kd.R_reads' HO334.out).2.1); rintro e w10 ⟨v337, rfl, ho0, hb⟩; refine ⟨_, rfl, ?_⟩; have n0_ := Aside0.mk (Kd.R_below (rO HO334.out) hb); have n1_ := Aside0.mk (Kd.R_lower ho0 (below_size (bO HB.out))); have n2_ := Aside0.mk (below_step (bO HB.out) hb); clear HO334; clear HB; have HO334 := n0_; have HO338 := n1_; have HB := n2_; clear n0_ n1_ n2_; (try clear hb); (try clear hb2); (try clear hk); (try clear hi); (try clear ho0)) | ((with_reducible refine gate_dst (N := 12) rfl ?_); (try (refine gate_guard (by rfl) ?_; dsimp only)); refine Kd.R_lit (Kd.int .i64) _ 3 ?hg (N := 12) ?hd (xs := ([3, 0, 2] : List Int)) (inner := [.int .i64 3, .int .i64 0, .int .i64 2]) (ok := fun _ => True) (okp := fun _ => True) ?hr ?hp (fun _ hk => hk) trivial (Below.refl _ _) (Nat.le_refl _) (by simp) ?_; (case hd => rfl); (case hg => rfl); (case hr => first | (go_simp; done) | (go_simp; rfl)); (case hp => exact (Reps.one (show Kd.M (Kd.int .i64) _ _ _ 3 [.int .i64 3] from rfl) (Reps.one (show Kd.M (Kd.int .i64) _ _ _ 0 [.int .i64 0] from rfl) (Reps.one (show Kd.M (Kd.int .i64) _ _ _ 2 [.int .i64 2] from rfl) (Reps.none _ _))))); intro v340 w11 ho12 hb hg_ hnew_; clear hg_ hnew_; (first | rw [← Ny339.out] at ho12 | (simp only [Int.reduceToNat] at ho12; rw [← Ny339.out] at ho12)); have n0_ := Aside0.mk (Kd.R_below (rO HO334.out) hb); have n1_ := Aside0.mk (Kd.R_elder' (rO HO338.out) (Kd.R_base ho12) hb); have n2_ := Aside0.mk (Kd.R_lower (Kd.R_new' ho12 (Kd.R_lt (rO HO338.out))) (below_size (bO HB.out))); have n3_ := Aside0.mk (below_step (bO HB.out) hb); clear HO334; clear HO338; clear HB; have HO334 := n0_; have HO338 := n1_; have HO341 := n2_; have HB := n3_; clear n0_ n1_ n2_ n3_; clear hb ho12; obtain ⟨Ao13, co13, eo13⟩ := Kd.R_slice HO338.out; subst eo13; obtain ⟨Ao14, co14, eo14⟩ := Kd.R_slice HO341.out; subst eo14) | (go_at_call 16; (with_reducible refine (tabardlaw03_same.calls k _ _ t335 _ _ y339 true _ ?side1 ?side2 ?side3 ?side4 A3.out).mono ?_); (case side1 => exact cO (Kd.R_reads' HO338.out).2.2); (case side2 => exact (Kd.R_reads' HO338.out).2.1); (case side3 => exact cO (Kd.R_reads' HO341.out).2.2); (case side4 => exact (Kd.R_reads' HO341.out).2.1); rintro e w' ⟨rfl, ⟨nd, rfl⟩⟩) | (go_at_call 22; (with_reducible refine (word_Length.calls (-2) t343 _ A5.out).mono ?_); rintro e w' ⟨rfl, ⟨nd, rfl⟩⟩))
    go_ret
    exact ⟨by first | rfl | (simp [errW_none, errW_some] <;> rfl) | (simp [*, errW_none, errW_some] <;> rfl), bO HB.out⟩
   ·rw [if_neg c6] at H
    have c6b0 : (t343 == 2) = false := beq_eq_false_iff_ne.mpr c6
    have c6b1 : (t343 != 2) = true := bne_iff_ne.mpr c6
    obtain rfl := Option.some.inj H
    go_enter Try.func15, Try.ntmps15
    go_wp2_with (first | ((with_reducible refine gate_dst (N := 4) rfl ?_); (try (refine gate_guard (by rfl) ?_; dsimp only)); refine Kd.R_lit (Kd.int .i64) _ 2 ?hg (N := 4) ?hd (xs := ([1, (-3)] : List Int)) (inner := [.int .i64 1, .int .i64 (-3)]) (ok := fun _ => True) (okp := fun _ => True) ?hr ?hp (fun _ hk => hk) trivial (Below.refl _ _) (Nat.le_refl _) (by simp) ?_; (case hd => rfl); (case hg => rfl); (case hr => first | (go_simp; done) | (go_simp; rfl)); (case hp => exact (Reps.one (show Kd.M (Kd.int .i64) _ _ _ 1 [.int .i64 1] from rfl) (Reps.one (show Kd.M (Kd.int .i64) _ _ _ (-3) [.int .i64 (-3)] from rfl) (Reps.none _ _)))); intro v333 w15 ho16 hb hg_ hnew_; clear hg_ hnew_; (first | rw [← Ny332.out] at ho16 | (simp only [Int.reduceToNat] at ho16; rw [← Ny332.out] at ho16)); have n0_ := Aside0.mk (Kd.R_lower ho16 (below_size (bO HB.out))); have n1_ := Aside0.mk (below_step (bO HB.out) hb); clear HB; have HO334 := n0_; have HB := n1_; clear n0_ n1_; clear hb ho16; obtain ⟨Ao17, co17, eo17⟩ := Kd.R_slice HO334.out; subst eo17) | ((with_reducible refine gate_callee (f := 13) rfl ?_); refine goesL_ (some 5) rfl rfl Try.func13 (by kernel_rfl) rfl #[.slice Ao17 y332.length co17] rfl mO ?_; (with_reducible refine (word_Shortest.calls k _ _ y332 t335 t336 _ ?side1 ?side2 A1.out).mono ?_); (case side1 => exact cO (Kd.R_reads' HO334.out).2.2); (case side2 => exact (Kd.R_reads' HO334.out).2.1); rintro e w18 ⟨v337, rfl, ho0, hb⟩; refine ⟨_, rfl, ?_⟩; have n0_ := Aside0.mk (Kd.R_below (rO HO334.out) hb); have n1_ := Aside0.mk (Kd.R_lower ho0 (below_size (bO HB.out))); have n2_ := Aside0.mk (below_step (bO HB.out) hb); clear HO334; clear HB; have HO334 := n0_; have HO338 := n1_; have HB := n2_; clear n0_ n1_ n2_; (try clear hb); (try clear hb2); (try clear hk); (try clear hi); (try clear ho0)) | ((with_reducible refine gate_dst (N := 12) rfl ?_); (try (refine gate_guard (by rfl) ?_; dsimp only)); refine Kd.R_lit (Kd.int .i64) _ 3 ?hg (N := 12) ?hd (xs := ([3, 0, 2] : List Int)) (inner := [.int .i64 3, .int .i64 0, .int .i64 2]) (ok := fun _ => True) (okp := fun _ => True) ?hr ?hp (fun _ hk => hk) trivial (Below.refl _ _) (Nat.le_refl _) (by simp) ?_; (case hd => rfl); (case hg => rfl); (case hr => first | (go_simp; done) | (go_simp; rfl)); (case hp => exact (Reps.one (show Kd.M (Kd.int .i64) _ _ _ 3 [.int .i64 3] from rfl) (Reps.one (show Kd.M (Kd.int .i64) _ _ _ 0 [.int .i64 0] from rfl) (Reps.one (show Kd.M (Kd.int .i64) _ _ _ 2 [.int .i64 2] from rfl) (Reps.none _ _))))); intro v340 w19 ho20 hb hg_ hnew_; clear hg_ hnew_; (first | rw [← Ny339.out] at ho20 | (simp only [Int.reduceToNat] at ho20; rw [← Ny339.out] at ho20)); have n0_ := Aside0.mk (Kd.R_below (rO HO334.out) hb); have n1_ := Aside0.mk (Kd.R_elder' (rO HO338.out) (Kd.R_base ho20) hb); have n2_ := Aside0.mk (Kd.R_lower (Kd.R_new' ho20 (Kd.R_lt (rO HO338.out))) (below_size (bO HB.out))); have n3_ := Aside0.mk (below_step (bO HB.out) hb); clear HO334; clear HO338; clear HB; have HO334 := n0_; have HO338 := n1_; have HO341 := n2_; have HB := n3_; clear n0_ n1_ n2_ n3_; clear hb ho20; obtain ⟨Ao21, co21, eo21⟩ := Kd.R_slice HO338.out; subst eo21; obtain ⟨Ao22, co22, eo22⟩ := Kd.R_slice HO341.out; subst eo22) | (go_at_call 16; (with_reducible refine (tabardlaw03_same.calls k _ _ t335 _ _ y339 true _ ?side1 ?side2 ?side3 ?side4 A3.out).mono ?_); (case side1 => exact cO (Kd.R_reads' HO338.out).2.2); (case side2 => exact (Kd.R_reads' HO338.out).2.1); (case side3 => exact cO (Kd.R_reads' HO341.out).2.2); (case side4 => exact (Kd.R_reads' HO341.out).2.1); rintro e w' ⟨rfl, ⟨nd, rfl⟩⟩) | (go_at_call 22; (with_reducible refine (word_Length.calls (-2) t343 _ A5.out).mono ?_); rintro e w' ⟨rfl, ⟨nd, rfl⟩⟩))
    go_ret
    exact ⟨by first | rfl | (simp [errW_none, errW_some] <;> rfl) | (simp [*, errW_none, errW_some] <;> rfl), bO HB.out⟩
  ·replace c4 := Bool.eq_false_iff.mpr c4
   subst c4
   have H1 : (some false) = some r := by rw [if_neg (show ¬ (false = true) by decide)] at H; exact H
   clear H
   have H := H1
   clear H1
   obtain rfl := Option.some.inj H
   go_enter Try.func15, Try.ntmps15
   go_wp2_with (first | ((with_reducible refine gate_dst (N := 4) rfl ?_); (try (refine gate_guard (by rfl) ?_; dsimp only)); refine Kd.R_lit (Kd.int .i64) _ 2 ?hg (N := 4) ?hd (xs := ([1, (-3)] : List Int)) (inner := [.int .i64 1, .int .i64 (-3)]) (ok := fun _ => True) (okp := fun _ => True) ?hr ?hp (fun _ hk => hk) trivial (Below.refl _ _) (Nat.le_refl _) (by simp) ?_; (case hd => rfl); (case hg => rfl); (case hr => first | (go_simp; done) | (go_simp; rfl)); (case hp => exact (Reps.one (show Kd.M (Kd.int .i64) _ _ _ 1 [.int .i64 1] from rfl) (Reps.one (show Kd.M (Kd.int .i64) _ _ _ (-3) [.int .i64 (-3)] from rfl) (Reps.none _ _)))); intro v333 w23 ho24 hb hg_ hnew_; clear hg_ hnew_; (first | rw [← Ny332.out] at ho24 | (simp only [Int.reduceToNat] at ho24; rw [← Ny332.out] at ho24)); have n0_ := Aside0.mk (Kd.R_lower ho24 (below_size (bO HB.out))); have n1_ := Aside0.mk (below_step (bO HB.out) hb); clear HB; have HO334 := n0_; have HB := n1_; clear n0_ n1_; clear hb ho24; obtain ⟨Ao25, co25, eo25⟩ := Kd.R_slice HO334.out; subst eo25) | ((with_reducible refine gate_callee (f := 13) rfl ?_); refine goesL_ (some 5) rfl rfl Try.func13 (by kernel_rfl) rfl #[.slice Ao25 y332.length co25] rfl mO ?_; (with_reducible refine (word_Shortest.calls k _ _ y332 t335 t336 _ ?side1 ?side2 A1.out).mono ?_); (case side1 => exact cO (Kd.R_reads' HO334.out).2.2); (case side2 => exact (Kd.R_reads' HO334.out).2.1); rintro e w26 ⟨v337, rfl, ho0, hb⟩; refine ⟨_, rfl, ?_⟩; have n0_ := Aside0.mk (Kd.R_below (rO HO334.out) hb); have n1_ := Aside0.mk (Kd.R_lower ho0 (below_size (bO HB.out))); have n2_ := Aside0.mk (below_step (bO HB.out) hb); clear HO334; clear HB; have HO334 := n0_; have HO338 := n1_; have HB := n2_; clear n0_ n1_ n2_; (try clear hb); (try clear hb2); (try clear hk); (try clear hi); (try clear ho0)) | ((with_reducible refine gate_dst (N := 12) rfl ?_); (try (refine gate_guard (by rfl) ?_; dsimp only)); refine Kd.R_lit (Kd.int .i64) _ 3 ?hg (N := 12) ?hd (xs := ([3, 0, 2] : List Int)) (inner := [.int .i64 3, .int .i64 0, .int .i64 2]) (ok := fun _ => True) (okp := fun _ => True) ?hr ?hp (fun _ hk => hk) trivial (Below.refl _ _) (Nat.le_refl _) (by simp) ?_; (case hd => rfl); (case hg => rfl); (case hr => first | (go_simp; done) | (go_simp; rfl)); (case hp => exact (Reps.one (show Kd.M (Kd.int .i64) _ _ _ 3 [.int .i64 3] from rfl) (Reps.one (show Kd.M (Kd.int .i64) _ _ _ 0 [.int .i64 0] from rfl) (Reps.one (show Kd.M (Kd.int .i64) _ _ _ 2 [.int .i64 2] from rfl) (Reps.none _ _))))); intro v340 w27 ho28 hb hg_ hnew_; clear hg_ hnew_; (first | rw [← Ny339.out] at ho28 | (simp only [Int.reduceToNat] at ho28; rw [← Ny339.out] at ho28)); have n0_ := Aside0.mk (Kd.R_below (rO HO334.out) hb); have n1_ := Aside0.mk (Kd.R_elder' (rO HO338.out) (Kd.R_base ho28) hb); have n2_ := Aside0.mk (Kd.R_lower (Kd.R_new' ho28 (Kd.R_lt (rO HO338.out))) (below_size (bO HB.out))); have n3_ := Aside0.mk (below_step (bO HB.out) hb); clear HO334; clear HO338; clear HB; have HO334 := n0_; have HO338 := n1_; have HO341 := n2_; have HB := n3_; clear n0_ n1_ n2_ n3_; clear hb ho28; obtain ⟨Ao29, co29, eo29⟩ := Kd.R_slice HO338.out; subst eo29; obtain ⟨Ao30, co30, eo30⟩ := Kd.R_slice HO341.out; subst eo30) | (go_at_call 16; (with_reducible refine (tabardlaw03_same.calls k _ _ t335 _ _ y339 false _ ?side1 ?side2 ?side3 ?side4 A3.out).mono ?_); (case side1 => exact cO (Kd.R_reads' HO338.out).2.2); (case side2 => exact (Kd.R_reads' HO338.out).2.1); (case side3 => exact cO (Kd.R_reads' HO341.out).2.2); (case side4 => exact (Kd.R_reads' HO341.out).2.1); rintro e w' ⟨rfl, ⟨nd, rfl⟩⟩))
   go_ret
   exact ⟨by first | rfl | (simp [errW_none, errW_some] <;> rfl) | (simp [*, errW_none, errW_some] <;> rfl), bO HB.out⟩
 ·rw [if_neg c2] at H
  have c2b0 : (t336 == 0) = false := beq_eq_false_iff_ne.mpr c2
  have c2b1 : (t336 != 0) = true := bne_iff_ne.mpr c2
  obtain rfl := Option.some.inj H
  go_enter Try.func15, Try.ntmps15
  go_wp2_with (first | ((with_reducible refine gate_dst (N := 4) rfl ?_); (try (refine gate_guard (by rfl) ?_; dsimp only)); refine Kd.R_lit (Kd.int .i64) _ 2 ?hg (N := 4) ?hd (xs := ([1, (-3)] : List Int)) (inner := [.int .i64 1, .int .i64 (-3)]) (ok := fun _ => True) (okp := fun _ => True) ?hr ?hp (fun _ hk => hk) trivial (Below.refl _ _) (Nat.le_refl _) (by simp) ?_; (case hd => rfl); (case hg => rfl); (case hr => first | (go_simp; done) | (go_simp; rfl)); (case hp => exact (Reps.one (show Kd.M (Kd.int .i64) _ _ _ 1 [.int .i64 1] from rfl) (Reps.one (show Kd.M (Kd.int .i64) _ _ _ (-3) [.int .i64 (-3)] from rfl) (Reps.none _ _)))); intro v333 w31 ho32 hb hg_ hnew_; clear hg_ hnew_; (first | rw [← Ny332.out] at ho32 | (simp only [Int.reduceToNat] at ho32; rw [← Ny332.out] at ho32)); have n0_ := Aside0.mk (Kd.R_lower ho32 (below_size (bO HB.out))); have n1_ := Aside0.mk (below_step (bO HB.out) hb); clear HB; have HO334 := n0_; have HB := n1_; clear n0_ n1_; clear hb ho32; obtain ⟨Ao33, co33, eo33⟩ := Kd.R_slice HO334.out; subst eo33) | ((with_reducible refine gate_callee (f := 13) rfl ?_); refine goesL_ (some 5) rfl rfl Try.func13 (by kernel_rfl) rfl #[.slice Ao33 y332.length co33] rfl mO ?_; (with_reducible refine (word_Shortest.calls k _ _ y332 t335 t336 _ ?side1 ?side2 A1.out).mono ?_); (case side1 => exact cO (Kd.R_reads' HO334.out).2.2); (case side2 => exact (Kd.R_reads' HO334.out).2.1); rintro e w34 ⟨v337, rfl, ho0, hb⟩; refine ⟨_, rfl, ?_⟩; have n0_ := Aside0.mk (Kd.R_below (rO HO334.out) hb); have n1_ := Aside0.mk (Kd.R_lower ho0 (below_size (bO HB.out))); have n2_ := Aside0.mk (below_step (bO HB.out) hb); clear HO334; clear HB; have HO334 := n0_; have HO338 := n1_; have HB := n2_; clear n0_ n1_ n2_; (try clear hb); (try clear hb2); (try clear hk); (try clear hi); (try clear ho0)))
  go_ret
  exact ⟨by first | rfl | (simp [errW_none, errW_some] <;> rfl) | (simp [*, errW_none, errW_some] <;> rfl), bO HB.out⟩

end Go.Proofs.Ytolacbnkebbjiaa.X

/- What the functions of this seat compute, and that the program's calls come to just that: written by this session's own program out of the translation; no condition. -/
import Derived.Test.YtiakfdoaopfihaaX0
import Derived.Test.YtiakfdoaopfihaaX1
import Derived.Test.YtiakfdoaopfihaaX4
namespace Go.Proofs.Ytiakfdoaopfihaa.X
open Go.RowKit Go.Proofs.YtiakfdoaopfihaaW.PrintWords Go.Proofs.YtiakfdoaopfihaaW.PrintLast Go.Proofs.YtiakfdoaopfihaaW.PrintMore
attribute [local go_sem] max2_int min2_int max_two min_two max_three min_three max_four min_four   -- for this text's walks alone
set_option linter.unusedVariables false
set_option linter.unusedSimpArgs false

attribute [local go_sem high] eqA31
/-! ### tabardlaw11_cubes: function 10 -/
def tabardlaw11_cubes.l0 : Nat → List (S31) → List (S31) → Int → Int → Option (Bool)
 | 0, _, _, _, _ => none
 | k + 1, x0, x1, x12, x13 => if x13 < x12 then (if 0 ≤ x13 then (if x13 < (x0.length : Int) then (if x13 < (x1.length : Int) then (if (!(((rd_T31 x0 x13).f0) == ((rd_T31 x1 x13).f0)) || (!(((rd_T31 x0 x13).f1) == ((rd_T31 x1 x13).f1)) || (!(((rd_T31 x0 x13).f2) == ((rd_T31 x1 x13).f2))))) = true then (some false) else (tabardlaw11_cubes.l0 k x0 x1 x12 (wrap64 (x13 + 1)))) else (none)) else (none)) else (none)) else (some true)
def tabardlaw11_cubes.f (k : Nat) (l0 : List (S31)) (l1 : List (S31)) : Option (Bool) := if (l0.length : Int) = (l1.length : Int) then (tabardlaw11_cubes.l0 k l0 l1 (l0.length : Int) 0) else (some false)
theorem tabardlaw11_cubes.mono_l : ∀ k, (∀ y0 y1 y2 y3, LeO (tabardlaw11_cubes.l0 k y0 y1 y2 y3) (tabardlaw11_cubes.l0 (k + 1) y0 y1 y2 y3))
 | 0 => fun _ _ _ _ r h => by simp [tabardlaw11_cubes.l0] at h
 | k + 1 => by
  have ih0 := tabardlaw11_cubes.mono_l k
  ·intro y0 y1 y2 y3
   unfold tabardlaw11_cubes.l0
   repeat' first
   | (with_reducible exact ih0 _ _ _ _)
   | (with_reducible exact LeO.refl _)
   | (with_reducible exact LeO.none _)
   | (with_reducible refine LeO.ite ?_ ?_)
   | (with_reducible refine LeO.bind ?_ (fun _ => ?_))
   | exact ih0 _ _ _ _
   | exact LeO.none _
   | refine LeO.ite ?_ ?_
   | refine LeO.bind ?_ (fun _ => ?_)
theorem tabardlaw11_cubes.mono : ∀ a0 a1 k, LeO (tabardlaw11_cubes.f k a0 a1) (tabardlaw11_cubes.f (k + 1) a0 a1) := by
 intro a0 a1 k
 have ih0 := tabardlaw11_cubes.mono_l k
 unfold tabardlaw11_cubes.f
 repeat' first
   | (with_reducible exact ih0 _ _ _ _)
   | (with_reducible exact LeO.refl _)
   | (with_reducible exact LeO.none _)
   | (with_reducible refine LeO.ite ?_ ?_)
   | (with_reducible refine LeO.bind ?_ (fun _ => ?_))
   | exact ih0 _ _ _ _
   | exact LeO.none _
   | refine LeO.ite ?_ ?_
   | refine LeO.bind ?_ (fun _ => ?_)
set_option maxHeartbeats 8000000 in
set_option maxRecDepth 100000 in
theorem tabardlaw11_cubes.calls (k : Nat) (A0 : Option Addr) (c0 : Nat) (l0 : List (S31)) (A1 : Option Addr) (c1 : Nat) (l1 : List (S31)) (r : Bool) (w : World) (hr0 : Kd.C k31 w A0 l0.length l0) (hc0 : l0.length ≤ c0) (hr1 : Kd.C k31 w A1 l1.length l1) (hc1 : l1.length ≤ c1) (h : tabardlaw11_cubes.f k l0 l1 = some r) :
  Calls Try.prog 10 #[.slice A0 l0.length c0, .slice A1 l1.length c1] w fun e w' => e = .returned (.bool r) ∧ Drawn0 w w' := by
 have hu31 := Try.underlying31
 have HR0 := Aside0.mk hr0
 have HC0 := Aside0.mk hc0
 clear hr0 hc0
 have HR1 := Aside0.mk hr1
 have HC1 := Aside0.mk hc1
 clear hr1 hc1
 have H : (if (l0.length : Int) = (l1.length : Int) then (tabardlaw11_cubes.l0 k l0 l1 (l0.length : Int) 0) else (some false)) = some r := h
 clear h
 by_cases c3 : (l0.length : Int) = (l1.length : Int)
 ·rw [if_pos c3] at H
  have c3b0 : ((l0.length : Int) == (l1.length : Int)) = true := beq_iff_eq.mpr c3
  have c3b1 : ((l0.length : Int) != (l1.length : Int)) = false := bne_eq_false_iff_eq.mpr c3
  have c3b2 : (l0.length == l1.length) = true := by first | simpa using c3 | (simp at c3 ⊢; omega)
  clear c3
  have H' := Aside0.mk H
  clear H
  go_enter Try.func10, Try.ntmps10
  go_wp2
  repeat (go_quiet (fail); try go_wp2)
  go_loopg [13] k (fun kq v13 w' => ∃ (x13_1 : Int), v13 = .int .i64 x13_1 ∧ Aside0 (tabardlaw11_cubes.l0 kq l0 l1 (l0.length : Int) x13_1 = some r) ∧ Aside0 (kq ≤ k) ∧ Drawn0 w w')
  case atStart => exact ⟨(0), (by first | rfl | (simp; done) | (simp [*]; done)), H', ⟨Nat.le_refl _⟩, by repeat (first | exact Drawn0.refl _ | apply Drawn0.step)⟩
  case round =>
   clear H'
   try clear c1
   try clear p2
   try clear c3
   try clear c3b0
   try clear c3b1
   try clear c3b2
   obtain ⟨x13_1, rfl, HA, HK1, ⟨m1, rfl⟩⟩ := hrel
   cases gk with
   | zero => exact absurd HA.out (by simp [tabardlaw11_cubes.l0])
   | succ k1 =>
    have H := HA.out
    clear HA
    simp only [tabardlaw11_cubes.l0] at H
    by_cases c4 : x13_1 < (l0.length : Int)
    ·rw [if_pos c4] at H
     have c4b0 : decide (x13_1 < (l0.length : Int)) = true := decide_eq_true c4
     clear c4
     by_cases c5 : 0 ≤ x13_1
     ·rw [if_pos c5] at H
      have c5b0 : decide (0 ≤ x13_1) = true := decide_eq_true c5
      clear c5
      by_cases c6 : x13_1 < (l0.length : Int)
      ·rw [if_pos c6] at H
       have c6b0 : decide (x13_1 < (l0.length : Int)) = true := decide_eq_true c6
       clear c6
       by_cases c7 : x13_1 < (l1.length : Int)
       ·rw [if_pos c7] at H
        have c7b0 : decide (x13_1 < (l1.length : Int)) = true := decide_eq_true c7
        clear c7
        by_cases c8 : (!(((rd_T31 l0 x13_1).f0) == ((rd_T31 l1 x13_1).f0)) || (!(((rd_T31 l0 x13_1).f1) == ((rd_T31 l1 x13_1).f1)) || (!(((rd_T31 l0 x13_1).f2) == ((rd_T31 l1 x13_1).f2))))) = true
        ·rw [if_pos c8] at H
         have c8b0 : (!(((rd_T31 l0 x13_1).f0) == ((rd_T31 l1 x13_1).f0)) || (!(((rd_T31 l0 x13_1).f1) == ((rd_T31 l1 x13_1).f1)) || (!(((rd_T31 l0 x13_1).f2) == ((rd_T31 l1 x13_1).f2))))) = true := c8
         clear c8
         obtain rfl := Option.some.inj H
         have p106 : 0 ≤ (x13_1 : Int) := of_decide_eq_true aO
         have q106 : x13_1 < (l0.length : Int) := of_decide_eq_true aO
         obtain ⟨ad106, e106, hx106_0, hx106_1, hx106_2⟩ := at_T31 HR0.out x13_1 p106 q106
         cases e106
         replace p106 := eq_true p106
         replace q106 := eq_true q106
         have p107 : 0 ≤ (x13_1 : Int) := of_decide_eq_true aO
         have q107 : x13_1 < (l1.length : Int) := of_decide_eq_true aO
         obtain ⟨ad107, e107, hx107_0, hx107_1, hx107_2⟩ := at_T31 HR1.out x13_1 p107 q107
         cases e107
         replace p107 := eq_true p107
         replace q107 := eq_true q107
         go_wp2
         repeat (go_quiet (fail); try go_wp2)
         go_ret
         exact ⟨by first | rfl | (simp; done) | (simp [*]; done), by repeat (first | exact Drawn0.refl _ | apply Drawn0.step)⟩
        ·rw [if_neg c8] at H
         have c8b0 : (!(((rd_T31 l0 x13_1).f0) == ((rd_T31 l1 x13_1).f0)) || (!(((rd_T31 l0 x13_1).f1) == ((rd_T31 l1 x13_1).f1)) || (!(((rd_T31 l0 x13_1).f2) == ((rd_T31 l1 x13_1).f2))))) = false := by simpa using c8
         clear c8
         have H' := Aside0.mk H
         clear H
         have p106 : 0 ≤ (x13_1 : Int) := of_decide_eq_true aO
         have q106 : x13_1 < (l0.length : Int) := of_decide_eq_true aO
         obtain ⟨ad106, e106, hx106_0, hx106_1, hx106_2⟩ := at_T31 HR0.out x13_1 p106 q106
         cases e106
         replace p106 := eq_true p106
         replace q106 := eq_true q106
         have p107 : 0 ≤ (x13_1 : Int) := of_decide_eq_true aO
         have q107 : x13_1 < (l1.length : Int) := of_decide_eq_true aO
         obtain ⟨ad107, e107, hx107_0, hx107_1, hx107_2⟩ := at_T31 HR1.out x13_1 p107 q107
         cases e107
         replace p107 := eq_true p107
         replace q107 := eq_true q107
         go_wp2
         repeat (go_quiet (fail); try go_wp2)
         go_roundg k1
         case measure => have := HK1.out; omega
         case rel => exact ⟨(wrap64 (x13_1 + 1)), (by first | rfl | (simp; done) | (simp [*]; done)), H', ⟨by have := HK1.out; omega⟩, by repeat (first | exact Drawn0.refl _ | apply Drawn0.step)⟩
       ·rw [if_neg c7] at H
        exact absurd H (by simp)
      ·rw [if_neg c6] at H
       exact absurd H (by simp)
     ·rw [if_neg c5] at H
      exact absurd H (by simp)
    ·rw [if_neg c4] at H
     have c4b0 : decide (x13_1 < (l0.length : Int)) = false := decide_eq_false c4
     clear c4
     obtain rfl := Option.some.inj H
     go_wp2
     repeat (go_quiet (fail); try go_wp2)
     go_ret
     exact ⟨by first | rfl | (simp; done) | (simp [*]; done), by repeat (first | exact Drawn0.refl _ | apply Drawn0.step)⟩
 ·rw [if_neg c3] at H
  have c3b0 : ((l0.length : Int) == (l1.length : Int)) = false := beq_eq_false_iff_ne.mpr c3
  have c3b1 : ((l0.length : Int) != (l1.length : Int)) = true := bne_iff_ne.mpr c3
  have c3b2 : (l0.length == l1.length) = false := by first | simpa using c3 | (simp at c3 ⊢; omega)
  obtain rfl := Option.some.inj H
  go_enter Try.func10, Try.ntmps10
  go_wp2
  repeat (go_quiet (fail); try go_wp2)
  go_ret
  exact ⟨by first | rfl | (simp; done) | (simp [*]; done), by repeat (first | exact Drawn0.refl _ | apply Drawn0.step)⟩

/-! ### tabardlaw11_fixed: function 8 -/
def tabardlaw11_fixed.f (k : Nat)  : Option (Bool) := (row_Pack.f k (([1, 1, 2, 3] : List Int))).bind fun bt111 => (if bt111.2 = 0 then ((tabardlaw11_cubes.f k bt111.1 (([(⟨2, 0, 1⟩ : S31), (⟨3, 2, 2⟩ : S31), (⟨3, 3, 3⟩ : S31)] : List (S31)))).bind fun t118 => (if t118 = true then (some true) else (some false))) else (some false))
theorem tabardlaw11_fixed.mono : ∀ k, LeO (tabardlaw11_fixed.f k ) (tabardlaw11_fixed.f (k + 1) ) := by
 intro  k
 unfold tabardlaw11_fixed.f
 repeat' first
   | (with_reducible exact row_Pack.mono _ _)
   | (with_reducible exact tabardlaw11_cubes.mono _ _ _)
   | (with_reducible exact LeO.refl _)
   | (with_reducible exact LeO.none _)
   | (with_reducible refine LeO.ite ?_ ?_)
   | (with_reducible refine LeO.bind ?_ (fun _ => ?_))
   | exact row_Pack.mono _ _
   | exact tabardlaw11_cubes.mono _ _ _
   | exact LeO.none _
   | refine LeO.ite ?_ ?_
   | refine LeO.bind ?_ (fun _ => ?_)
set_option maxHeartbeats 8000000 in
set_option maxRecDepth 100000 in
theorem tabardlaw11_fixed.calls (k : Nat)  (r : Bool) (w : World) (h : tabardlaw11_fixed.f k  = some r) :
  Calls Try.prog 8 #[] w fun e w' => e = .returned (.bool r) ∧ Below w.heap.size w w' := by
 have hu31 := Try.underlying31
 have HB := Aside0.mk (Below.refl w.heap.size w)
 have H : ((row_Pack.f k (([1, 1, 2, 3] : List Int))).bind fun bt111 => (if bt111.2 = 0 then ((tabardlaw11_cubes.f k bt111.1 (([(⟨2, 0, 1⟩ : S31), (⟨3, 2, 2⟩ : S31), (⟨3, 3, 3⟩ : S31)] : List (S31)))).bind fun t118 => (if t118 = true then (some true) else (some false))) else (some false))) = some r := h
 clear h
 obtain ⟨y108, hy108⟩ : ∃ y_ : List Int, y_ = (([1, 1, 2, 3] : List Int)) := ⟨_, rfl⟩
 replace H : ((row_Pack.f k y108).bind fun bt111 => (if bt111.2 = 0 then ((tabardlaw11_cubes.f k bt111.1 (([(⟨2, 0, 1⟩ : S31), (⟨3, 2, 2⟩ : S31), (⟨3, 3, 3⟩ : S31)] : List (S31)))).bind fun t118 => (if t118 = true then (some true) else (some false))) else (some false))) = some r := by first | (rw [hy108]; with_reducible exact H) | (have H2_ := (Option.bind_some _ _).symm.trans H; rw [hy108]; with_reducible exact H2_) | (have H2_ := (Option.bind_some _ _).symm.trans H; with_reducible exact H2_) | with_reducible exact H | (rw [hy108]; exact H) | exact H
 have Ny108 := Aside0.mk hy108
 clear hy108
 replace H := Option.bind_eq_some_iff.mp H
 obtain ⟨⟨t111, t112⟩, A10, H⟩ := H
 replace H : (if t112 = 0 then ((tabardlaw11_cubes.f k t111 (([(⟨2, 0, 1⟩ : S31), (⟨3, 2, 2⟩ : S31), (⟨3, 3, 3⟩ : S31)] : List (S31)))).bind fun t118 => (if t118 = true then (some true) else (some false))) else (some false)) = some r := H
 have A1 := Aside0.mk A10
 clear A10
 by_cases c2 : t112 = 0
 ·rw [if_pos c2] at H
  have c2b0 : (t112 == 0) = true := beq_iff_eq.mpr c2
  have c2b1 : (t112 != 0) = false := bne_eq_false_iff_eq.mpr c2
  clear c2
  obtain ⟨y115, hy115⟩ : ∃ y_ : List (S31), y_ = (([(⟨2, 0, 1⟩ : S31), (⟨3, 2, 2⟩ : S31), (⟨3, 3, 3⟩ : S31)] : List (S31))) := ⟨_, rfl⟩
  replace H : ((tabardlaw11_cubes.f k t111 y115).bind fun t118 => (if t118 = true then (some true) else (some false))) = some r := by first | (rw [hy115]; with_reducible exact H) | (have H2_ := (Option.bind_some _ _).symm.trans H; rw [hy115]; with_reducible exact H2_) | (have H2_ := (Option.bind_some _ _).symm.trans H; with_reducible exact H2_) | with_reducible exact H | (rw [hy115]; exact H) | exact H
  have Ny115 := Aside0.mk hy115
  clear hy115
  replace H := Option.bind_eq_some_iff.mp H
  obtain ⟨t118, A30, H⟩ := H
  replace H : (if t118 = true then (some true) else (some false)) = some r := H
  have A3 := Aside0.mk A30
  clear A30
  by_cases c4 : t118 = true
  ·subst c4
   have H1 : (some true) = some r := by rw [if_pos rfl] at H; exact H
   clear H
   have H := H1
   clear H1
   obtain rfl := Option.some.inj H
   go_enter Try.func8, Try.ntmps8
   go_wp2_with (first | ((with_reducible refine gate_dst (N := 4) rfl ?_); (try (refine gate_guard (by rfl) ?_; dsimp only)); refine Kd.R_lit (Kd.int .i64) _ 3 ?hg (N := 4) ?hd (xs := ([1, 1, 2, 3] : List Int)) (inner := [.int .i64 1, .int .i64 1, .int .i64 2, .int .i64 3]) (ok := fun _ => True) (okp := fun _ => True) ?hr ?hp (fun _ hk => hk) trivial (Below.refl _ _) (Nat.le_refl _) (by simp) ?_; (case hd => rfl); (case hg => rfl); (case hr => first | (go_simp; done) | (go_simp; rfl)); (case hp => exact (Reps.one (show Kd.M (Kd.int .i64) _ _ _ 1 [.int .i64 1] from rfl) (Reps.one (show Kd.M (Kd.int .i64) _ _ _ 1 [.int .i64 1] from rfl) (Reps.one (show Kd.M (Kd.int .i64) _ _ _ 2 [.int .i64 2] from rfl) (Reps.one (show Kd.M (Kd.int .i64) _ _ _ 3 [.int .i64 3] from rfl) (Reps.none _ _)))))); intro v109 w5 ho6 hb hg_ hnew_; clear hg_ hnew_; (first | rw [← Ny108.out] at ho6 | (simp only [Int.reduceToNat] at ho6; rw [← Ny108.out] at ho6)); have n0_ := Aside0.mk (Kd.R_lower ho6 (below_size (bO HB.out))); have n1_ := Aside0.mk (below_step (bO HB.out) hb); clear HB; have HO110 := n0_; have HB := n1_; clear n0_ n1_; clear hb ho6; obtain ⟨Ao7, co7, eo7⟩ := Kd.R_slice HO110.out; subst eo7) | ((with_reducible refine gate_callee (f := 9) rfl ?_); refine goesL_ (some 5) rfl rfl Try.func9 (by kernel_rfl) rfl #[.slice Ao7 y108.length co7] rfl mO ?_; (with_reducible refine (row_Pack.calls k _ _ y108 t111 t112 _ ?side1 ?side2 A1.out).mono ?_); (case side1 => exact cO (Kd.R_reads' HO110.out).2.2); (case side2 => exact (Kd.R_reads' HO110.out).2.1); rintro e w8 ⟨v113, rfl, ho0, hb⟩; refine ⟨_, rfl, ?_⟩; have n0_ := Aside0.mk (Kd.R_below (rO HO110.out) hb); have n1_ := Aside0.mk (Kd.R_lower ho0 (below_size (bO HB.out))); have n2_ := Aside0.mk (below_step (bO HB.out) hb); clear HO110; clear HB; have HO110 := n0_; have HO114 := n1_; have HB := n2_; clear n0_ n1_ n2_; (try clear hb); (try clear hb2); (try clear hk); (try clear hi); (try clear ho0)) | ((with_reducible refine gate_dst (N := 15) rfl ?_); (try (refine gate_guard (by rfl) ?_; dsimp only)); refine Kd.R_lit k31 _ 31 ?hg (N := 15) ?hd (xs := ([(⟨2, 0, 1⟩ : S31), (⟨3, 2, 2⟩ : S31), (⟨3, 3, 3⟩ : S31)] : List (S31))) (inner := [.int .i64 2, .int .i64 0, .int .i64 1, .int .i64 3, .int .i64 2, .int .i64 2, .int .i64 3, .int .i64 3, .int .i64 3]) (ok := fun _ => True) (okp := fun _ => True) ?hr ?hp (fun _ hk => hk) trivial (Below.refl _ _) (Nat.le_refl _) (by simp) ?_; (case hd => rfl); (case hg => rfl); (case hr => first | (go_simp; done) | (go_simp; rfl)); (case hp => exact (Reps.c3 (show Kd.M k31 _ _ _ (⟨2, 0, 1⟩ : S31) [.int .i64 2, .int .i64 0, .int .i64 1] from (k31_mkM _ _ _ (⟨2, 0, 1⟩ : S31) )) (Reps.c3 (show Kd.M k31 _ _ _ (⟨3, 2, 2⟩ : S31) [.int .i64 3, .int .i64 2, .int .i64 2] from (k31_mkM _ _ _ (⟨3, 2, 2⟩ : S31) )) (Reps.c3 (show Kd.M k31 _ _ _ (⟨3, 3, 3⟩ : S31) [.int .i64 3, .int .i64 3, .int .i64 3] from (k31_mkM _ _ _ (⟨3, 3, 3⟩ : S31) )) (Reps.none _ _))))); intro v116 w9 ho10 hb hg_ hnew_; clear hg_ hnew_; (first | rw [← Ny115.out] at ho10 | (simp only [Int.reduceToNat] at ho10; rw [← Ny115.out] at ho10)); have n0_ := Aside0.mk (Kd.R_below (rO HO110.out) hb); have n1_ := Aside0.mk (Kd.R_elder' (rO HO114.out) (Kd.R_base ho10) hb); have n2_ := Aside0.mk (Kd.R_lower (Kd.R_new' ho10 (Kd.R_lt (rO HO114.out))) (below_size (bO HB.out))); have n3_ := Aside0.mk (below_step (bO HB.out) hb); clear HO110; clear HO114; clear HB; have HO110 := n0_; have HO114 := n1_; have HO117 := n2_; have HB := n3_; clear n0_ n1_ n2_ n3_; clear hb ho10; obtain ⟨Ao11, co11, eo11⟩ := Kd.R_slice HO114.out; subst eo11; obtain ⟨Ao12, co12, eo12⟩ := Kd.R_slice HO117.out; subst eo12) | (go_at_call 10; (with_reducible refine (tabardlaw11_cubes.calls k _ _ t111 _ _ y115 true _ ?side1 ?side2 ?side3 ?side4 A3.out).mono ?_); (case side1 => exact cO (Kd.R_reads' HO114.out).2.2); (case side2 => exact (Kd.R_reads' HO114.out).2.1); (case side3 => exact cO (Kd.R_reads' HO117.out).2.2); (case side4 => exact (Kd.R_reads' HO117.out).2.1); rintro e w' ⟨rfl, ⟨nd, rfl⟩⟩))
   go_ret
   exact ⟨by first | rfl | (simp [errW_none, errW_some] <;> rfl) | (simp [*, errW_none, errW_some] <;> rfl), bO HB.out⟩
  ·replace c4 := Bool.eq_false_iff.mpr c4
   subst c4
   have H1 : (some false) = some r := by rw [if_neg (show ¬ (false = true) by decide)] at H; exact H
   clear H
   have H := H1
   clear H1
   obtain rfl := Option.some.inj H
   go_enter Try.func8, Try.ntmps8
   go_wp2_with (first | ((with_reducible refine gate_dst (N := 4) rfl ?_); (try (refine gate_guard (by rfl) ?_; dsimp only)); refine Kd.R_lit (Kd.int .i64) _ 3 ?hg (N := 4) ?hd (xs := ([1, 1, 2, 3] : List Int)) (inner := [.int .i64 1, .int .i64 1, .int .i64 2, .int .i64 3]) (ok := fun _ => True) (okp := fun _ => True) ?hr ?hp (fun _ hk => hk) trivial (Below.refl _ _) (Nat.le_refl _) (by simp) ?_; (case hd => rfl); (case hg => rfl); (case hr => first | (go_simp; done) | (go_simp; rfl)); (case hp => exact (Reps.one (show Kd.M (Kd.int .i64) _ _ _ 1 [.int .i64 1] from rfl) (Reps.one (show Kd.M (Kd.int .i64) _ _ _ 1 [.int .i64 1] from rfl) (Reps.one (show Kd.M (Kd.int .i64) _ _ _ 2 [.int .i64 2] from rfl) (Reps.one (show Kd.M (Kd.int .i64) _ _ _ 3 [.int .i64 3] from rfl) (Reps.none _ _)))))); intro v109 w13 ho14 hb hg_ hnew_; clear hg_ hnew_; (first | rw [← Ny108.out] at ho14 | (simp only [Int.reduceToNat] at ho14; rw [← Ny108.out] at ho14)); have n0_ := Aside0.mk (Kd.R_lower ho14 (below_size (bO HB.out))); have n1_ := Aside0.mk (below_step (bO HB.out) hb); clear HB; have HO110 := n0_; have HB := n1_; clear n0_ n1_; clear hb ho14; obtain ⟨Ao15, co15, eo15⟩ := Kd.R_slice HO110.out; subst eo15) | ((with_reducible refine gate_callee (f := 9) rfl ?_); refine goesL_ (some 5) rfl rfl Try.func9 (by kernel_rfl) rfl #[.slice Ao15 y108.length co15] rfl mO ?_; (with_reducible refine (row_Pack.calls k _ _ y108 t111 t112 _ ?side1 ?side2 A1.out).mono ?_); (case side1 => exact cO (Kd.R_reads' HO110.out).2.2); (case side2 => exact (Kd.R_reads' HO110.out).2.1); rintro e w16 ⟨v113, rfl, ho0, hb⟩; refine ⟨_, rfl, ?_⟩; have n0_ := Aside0.mk (Kd.R_below (rO HO110.out) hb); have n1_ := Aside0.mk (Kd.R_lower ho0 (below_size (bO HB.out))); have n2_ := Aside0.mk (below_step (bO HB.out) hb); clear HO110; clear HB; have HO110 := n0_; have HO114 := n1_; have HB := n2_; clear n0_ n1_ n2_; (try clear hb); (try clear hb2); (try clear hk); (try clear hi); (try clear ho0)) | ((with_reducible refine gate_dst (N := 15) rfl ?_); (try (refine gate_guard (by rfl) ?_; dsimp only)); refine Kd.R_lit k31 _ 31 ?hg (N := 15) ?hd (xs := ([(⟨2, 0, 1⟩ : S31), (⟨3, 2, 2⟩ : S31), (⟨3, 3, 3⟩ : S31)] : List (S31))) (inner := [.int .i64 2, .int .i64 0, .int .i64 1, .int .i64 3, .int .i64 2, .int .i64 2, .int .i64 3, .int .i64 3, .int .i64 3]) (ok := fun _ => True) (okp := fun _ => True) ?hr ?hp (fun _ hk => hk) trivial (Below.refl _ _) (Nat.le_refl _) (by simp) ?_; (case hd => rfl); (case hg => rfl); (case hr => first | (go_simp; done) | (go_simp; rfl)); (case hp => exact (Reps.c3 (show Kd.M k31 _ _ _ (⟨2, 0, 1⟩ : S31) [.int .i64 2, .int .i64 0, .int .i64 1] from (k31_mkM _ _ _ (⟨2, 0, 1⟩ : S31) )) (Reps.c3 (show Kd.M k31 _ _ _ (⟨3, 2, 2⟩ : S31) [.int .i64 3, .int .i64 2, .int .i64 2] from (k31_mkM _ _ _ (⟨3, 2, 2⟩ : S31) )) (Reps.c3 (show Kd.M k31 _ _ _ (⟨3, 3, 3⟩ : S31) [.int .i64 3, .int .i64 3, .int .i64 3] from (k31_mkM _ _ _ (⟨3, 3, 3⟩ : S31) )) (Reps.none _ _))))); intro v116 w17 ho18 hb hg_ hnew_; clear hg_ hnew_; (first | rw [← Ny115.out] at ho18 | (simp only [Int.reduceToNat] at ho18; rw [← Ny115.out] at ho18)); have n0_ := Aside0.mk (Kd.R_below (rO HO110.out) hb); have n1_ := Aside0.mk (Kd.R_elder' (rO HO114.out) (Kd.R_base ho18) hb); have n2_ := Aside0.mk (Kd.R_lower (Kd.R_new' ho18 (Kd.R_lt (rO HO114.out))) (below_size (bO HB.out))); have n3_ := Aside0.mk (below_step (bO HB.out) hb); clear HO110; clear HO114; clear HB; have HO110 := n0_; have HO114 := n1_; have HO117 := n2_; have HB := n3_; clear n0_ n1_ n2_ n3_; clear hb ho18; obtain ⟨Ao19, co19, eo19⟩ := Kd.R_slice HO114.out; subst eo19; obtain ⟨Ao20, co20, eo20⟩ := Kd.R_slice HO117.out; subst eo20) | (go_at_call 10; (with_reducible refine (tabardlaw11_cubes.calls k _ _ t111 _ _ y115 false _ ?side1 ?side2 ?side3 ?side4 A3.out).mono ?_); (case side1 => exact cO (Kd.R_reads' HO114.out).2.2); (case side2 => exact (Kd.R_reads' HO114.out).2.1); (case side3 => exact cO (Kd.R_reads' HO117.out).2.2); (case side4 => exact (Kd.R_reads' HO117.out).2.1); rintro e w' ⟨rfl, ⟨nd, rfl⟩⟩))
   go_ret
   exact ⟨by first | rfl | (simp [errW_none, errW_some] <;> rfl) | (simp [*, errW_none, errW_some] <;> rfl), bO HB.out⟩
 ·rw [if_neg c2] at H
  have c2b0 : (t112 == 0) = false := beq_eq_false_iff_ne.mpr c2
  have c2b1 : (t112 != 0) = true := bne_iff_ne.mpr c2
  obtain rfl := Option.some.inj H
  go_enter Try.func8, Try.ntmps8
  go_wp2_with (first | ((with_reducible refine gate_dst (N := 4) rfl ?_); (try (refine gate_guard (by rfl) ?_; dsimp only)); refine Kd.R_lit (Kd.int .i64) _ 3 ?hg (N := 4) ?hd (xs := ([1, 1, 2, 3] : List Int)) (inner := [.int .i64 1, .int .i64 1, .int .i64 2, .int .i64 3]) (ok := fun _ => True) (okp := fun _ => True) ?hr ?hp (fun _ hk => hk) trivial (Below.refl _ _) (Nat.le_refl _) (by simp) ?_; (case hd => rfl); (case hg => rfl); (case hr => first | (go_simp; done) | (go_simp; rfl)); (case hp => exact (Reps.one (show Kd.M (Kd.int .i64) _ _ _ 1 [.int .i64 1] from rfl) (Reps.one (show Kd.M (Kd.int .i64) _ _ _ 1 [.int .i64 1] from rfl) (Reps.one (show Kd.M (Kd.int .i64) _ _ _ 2 [.int .i64 2] from rfl) (Reps.one (show Kd.M (Kd.int .i64) _ _ _ 3 [.int .i64 3] from rfl) (Reps.none _ _)))))); intro v109 w21 ho22 hb hg_ hnew_; clear hg_ hnew_; (first | rw [← Ny108.out] at ho22 | (simp only [Int.reduceToNat] at ho22; rw [← Ny108.out] at ho22)); have n0_ := Aside0.mk (Kd.R_lower ho22 (below_size (bO HB.out))); have n1_ := Aside0.mk (below_step (bO HB.out) hb); clear HB; have HO110 := n0_; have HB := n1_; clear n0_ n1_; clear hb ho22; obtain ⟨Ao23, co23, eo23⟩ := Kd.R_slice HO110.out; subst eo23) | ((with_reducible refine gate_callee (f := 9) rfl ?_); refine goesL_ (some 5) rfl rfl Try.func9 (by kernel_rfl) rfl #[.slice Ao23 y108.length co23] rfl mO ?_; (with_reducible refine (row_Pack.calls k _ _ y108 t111 t112 _ ?side1 ?side2 A1.out).mono ?_); (case side1 => exact cO (Kd.R_reads' HO110.out).2.2); (case side2 => exact (Kd.R_reads' HO110.out).2.1); rintro e w24 ⟨v113, rfl, ho0, hb⟩; refine ⟨_, rfl, ?_⟩; have n0_ := Aside0.mk (Kd.R_below (rO HO110.out) hb); have n1_ := Aside0.mk (Kd.R_lower ho0 (below_size (bO HB.out))); have n2_ := Aside0.mk (below_step (bO HB.out) hb); clear HO110; clear HB; have HO110 := n0_; have HO114 := n1_; have HB := n2_; clear n0_ n1_ n2_; (try clear hb); (try clear hb2); (try clear hk); (try clear hi); (try clear ho0)))
  go_ret
  exact ⟨by first | rfl | (simp [errW_none, errW_some] <;> rfl) | (simp [*, errW_none, errW_some] <;> rfl), bO HB.out⟩

end Go.Proofs.Ytiakfdoaopfihaa.X

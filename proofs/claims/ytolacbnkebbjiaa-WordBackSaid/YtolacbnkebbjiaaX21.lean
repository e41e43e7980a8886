/- What the functions of this seat compute, and that the program's calls come to just that: written by this session's own program out of the translation; no condition. -/
import Derived.Test.YtolacbnkebbjiaaX0
import Derived.Test.YtolacbnkebbjiaaX10
import Derived.Test.YtolacbnkebbjiaaX20
namespace Go.Proofs.Ytolacbnkebbjiaa.X
open Go.RowKit Go.Proofs.YtolacbnkebbjiaaW.PrintWords Go.Proofs.YtolacbnkebbjiaaW.PrintLast Go.Proofs.YtolacbnkebbjiaaW.PrintMore
attribute [local go_sem] max2_int min2_int max_two min_two max_three min_three max_four min_four   -- for this text's walks alone
set_option linter.unusedVariables false
set_option linter.unusedSimpArgs false

/-! ### tabardref03_Number: function 20 -/
def tabardref03_Number.l0 : Nat → List Int → Int → Option (Int × Int)
 | 0, _, _ => none
 | k + 1, x0, x4 => if x4 < (x0.length : Int) then (if 0 ≤ x4 then (if (rd x0 x4) = 0 then (tabardref03_Number.l0 k x0 (wrap64 (x4 + 1))) else (if (rd x0 x4) = 1 then (tabardref03_Number.l0 k x0 (wrap64 (x4 + 1))) else (some (0, 3)))) else (none)) else (if (x0.length : Int) > 64 then (some (0, 31)) else ((tabardref03_Value.f k x0).bind fun bt404 => ((tabardref01_Fits.f k bt404.1 bt404.2).bind fun bt408 => (some (bt408.1, 0)))))
def tabardref03_Number.f (k : Nat) (l0 : List Int) : Option (Int × Int) := if (l0.length : Int) = 0 then (some (0, 3)) else (tabardref03_Number.l0 k l0 0)
theorem tabardref03_Number.mono_l : ∀ k, (∀ y0 y1, LeO (tabardref03_Number.l0 k y0 y1) (tabardref03_Number.l0 (k + 1) y0 y1))
 | 0 => fun _ _ r h => by simp [tabardref03_Number.l0] at h
 | k + 1 => by
  have ih0 := tabardref03_Number.mono_l k
  ·intro y0 y1
   unfold tabardref03_Number.l0
   repeat' first
   | (with_reducible exact ih0 _ _)
   | (with_reducible exact tabardref01_Fits.mono _ _ _)
   | (with_reducible exact tabardref03_Value.mono _ _)
   | (with_reducible exact LeO.refl _)
   | (with_reducible exact LeO.none _)
   | (with_reducible refine LeO.ite ?_ ?_)
   | (with_reducible refine LeO.bind ?_ (fun _ => ?_))
   | exact ih0 _ _
   | exact tabardref01_Fits.mono _ _ _
   | exact tabardref03_Value.mono _ _
   | exact LeO.none _
   | refine LeO.ite ?_ ?_
   | refine LeO.bind ?_ (fun _ => ?_)
theorem tabardref03_Number.mono : ∀ a0 k, LeO (tabardref03_Number.f k a0) (tabardref03_Number.f (k + 1) a0) := by
 intro a0 k
 have ih0 := tabardref03_Number.mono_l k
 unfold tabardref03_Number.f
 repeat' first
   | (with_reducible exact ih0 _ _)
   | (with_reducible exact tabardref01_Fits.mono _ _ _)
   | (with_reducible exact tabardref03_Value.mono _ _)
   | (with_reducible exact LeO.refl _)
   | (with_reducible exact LeO.none _)
   | (with_reducible refine LeO.ite ?_ ?_)
   | (with_reducible refine LeO.bind ?_ (fun _ => ?_))
   | exact ih0 _ _
   | exact tabardref01_Fits.mono _ _ _
   | exact tabardref03_Value.mono _ _
   | exact LeO.none _
   | refine LeO.ite ?_ ?_
   | refine LeO.bind ?_ (fun _ => ?_)
set_option maxHeartbeats 8000000 in
set_option maxRecDepth 100000 in
theorem tabardref03_Number.calls (k : Nat) (A0 : Option Addr) (c0 : Nat) (l0 : List Int) (r1 : Int) (r2 : Int) (w : World) (hr0 : Kd.C (Kd.int .i64) w A0 l0.length l0) (hc0 : l0.length ≤ c0) (h : tabardref03_Number.f k l0 = some (r1, r2)) :
  Calls Try.prog 20 #[.slice A0 l0.length c0] w fun e w' => e = .returned (.tuple #[.int .i64 r1, .int .i64 r2]) ∧ Below w.heap.size w w' := by
 have HR0 := Aside0.mk hr0
 have HC0 := Aside0.mk hc0
 clear hr0 hc0
 have HB := Aside0.mk (Below.refl w.heap.size w)
 have H : (if (l0.length : Int) = 0 then (some (0, 3)) else (tabardref03_Number.l0 k l0 0)) = some (r1, r2) := h
 clear h
 by_cases c2 : (l0.length : Int) = 0
 ·rw [if_pos c2] at H
  have c2b0 : ((l0.length : Int) == 0) = true := beq_iff_eq.mpr c2
  have c2b1 : ((l0.length : Int) != 0) = false := bne_eq_false_iff_eq.mpr c2
  clear c2
  simp only [Option.some.injEq, Prod.mk.injEq] at H
  obtain ⟨rfl, rfl⟩ := H
  go_enter Try.func20, Try.ntmps20
  go_wp2
  go_ret2
  exact ⟨by first | rfl | (simp [errW_none, errW_some] <;> rfl) | (simp [*, errW_none, errW_some] <;> rfl), bO HB.out⟩
 ·rw [if_neg c2] at H
  have c2b0 : ((l0.length : Int) == 0) = false := beq_eq_false_iff_ne.mpr c2
  have c2b1 : ((l0.length : Int) != 0) = true := bne_iff_ne.mpr c2
  have c2b2 : ¬ (l0 = []) := fun h_ => c2 (by rw [h_]; rfl)
  have H' := Aside0.mk H
  clear H
  go_enter Try.func20, Try.ntmps20
  go_wp2
  go_loopg [4] k (fun kq v4 w' => ∃ (x4_1 : Int), v4 = .int .i64 x4_1 ∧ Aside0 (tabardref03_Number.l0 kq l0 x4_1 = some (r1, r2)) ∧ Aside0 (kq ≤ k) ∧ Aside0 (Below w.heap.size w w'))
  case atStart => exact ⟨(0), (by first | rfl | (simp; done) | (simp [*]; done)), H', ⟨Nat.le_refl _⟩, ⟨bO HB.out⟩⟩
  case round =>
   clear H'
   try clear c2
   try clear c2b0
   try clear c2b1
   try clear c2b2
   try clear p2
   obtain ⟨x4_1, rfl, HA, HK1, HB⟩ := hrel
   cases gk with
   | zero => exact absurd HA.out (by simp [tabardref03_Number.l0])
   | succ k1 =>
    have H := HA.out
    clear HA
    simp only [tabardref03_Number.l0] at H
    by_cases c3 : x4_1 < (l0.length : Int)
    ·rw [if_pos c3] at H
     have c3b0 : decide (x4_1 < (l0.length : Int)) = true := decide_eq_true c3
     clear c3
     by_cases c4 : 0 ≤ x4_1
     ·rw [if_pos c4] at H
      have c4b0 : decide (0 ≤ x4_1) = true := decide_eq_true c4
      clear c4
      by_cases c5 : (rd l0 x4_1) = 0
      ·rw [if_pos c5] at H
       have c5b0 : ((rd l0 x4_1) == 0) = true := beq_iff_eq.mpr c5
       have c5b1 : ((rd l0 x4_1) != 0) = false := bne_eq_false_iff_eq.mpr c5
       clear c5
       have H' := Aside0.mk H
       clear H
       have p402 : 0 ≤ (x4_1 : Int) := of_decide_eq_true aO
       have q402 : x4_1 < (l0.length : Int) := of_decide_eq_true aO
       obtain ⟨ad402, e402, hx402_0⟩ := Kd.at_int HR0.out x4_1 p402 q402
       cases e402
       replace hx402_0 := (HB.out.cell (World.block_lt_of_cell? w _ hx402_0)).trans hx402_0
       replace p402 := eq_true p402
       replace q402 := eq_true q402
       go_wp2
       go_roundg k1
       case measure => have := HK1.out; omega
       case rel => exact ⟨(wrap64 (x4_1 + 1)), (by first | rfl | (simp; done) | (simp [*]; done)), H', ⟨by have := HK1.out; omega⟩, ⟨bO HB.out⟩⟩
      ·rw [if_neg c5] at H
       have c5b0 : ((rd l0 x4_1) == 0) = false := beq_eq_false_iff_ne.mpr c5
       have c5b1 : ((rd l0 x4_1) != 0) = true := bne_iff_ne.mpr c5
       by_cases c6 : (rd l0 x4_1) = 1
       ·rw [if_pos c6] at H
        have c6b0 : ((rd l0 x4_1) == 1) = true := beq_iff_eq.mpr c6
        have c6b1 : ((rd l0 x4_1) != 1) = false := bne_eq_false_iff_eq.mpr c6
        clear c6
        have H' := Aside0.mk H
        clear H
        have p402 : 0 ≤ (x4_1 : Int) := of_decide_eq_true aO
        have q402 : x4_1 < (l0.length : Int) := of_decide_eq_true aO
        obtain ⟨ad402, e402, hx402_0⟩ := Kd.at_int HR0.out x4_1 p402 q402
        cases e402
        replace hx402_0 := (HB.out.cell (World.block_lt_of_cell? w _ hx402_0)).trans hx402_0
        replace p402 := eq_true p402
        replace q402 := eq_true q402
        have p403 : 0 ≤ (x4_1 : Int) := of_decide_eq_true aO
        have q403 : x4_1 < (l0.length : Int) := of_decide_eq_true aO
        obtain ⟨ad403, e403, hx403_0⟩ := Kd.at_int HR0.out x4_1 p403 q403
        obtain rfl : ad402 = ad403 := (by injection e403)
        replace hx403_0 := (HB.out.cell (World.block_lt_of_cell? w _ hx403_0)).trans hx403_0
        replace p403 := eq_true p403
        replace q403 := eq_true q403
        go_wp2
        go_roundg k1
        case measure => have := HK1.out; omega
        case rel => exact ⟨(wrap64 (x4_1 + 1)), (by first | rfl | (simp; done) | (simp [*]; done)), H', ⟨by have := HK1.out; omega⟩, ⟨bO HB.out⟩⟩
       ·rw [if_neg c6] at H
        have c6b0 : ((rd l0 x4_1) == 1) = false := beq_eq_false_iff_ne.mpr c6
        have c6b1 : ((rd l0 x4_1) != 1) = true := bne_iff_ne.mpr c6
        simp only [Option.some.injEq, Prod.mk.injEq] at H
        obtain ⟨rfl, rfl⟩ := H
        have p402 : 0 ≤ (x4_1 : Int) := of_decide_eq_true aO
        have q402 : x4_1 < (l0.length : Int) := of_decide_eq_true aO
        obtain ⟨ad402, e402, hx402_0⟩ := Kd.at_int HR0.out x4_1 p402 q402
        cases e402
        replace hx402_0 := (HB.out.cell (World.block_lt_of_cell? w _ hx402_0)).trans hx402_0
        replace p402 := eq_true p402
        replace q402 := eq_true q402
        have p403 : 0 ≤ (x4_1 : Int) := of_decide_eq_true aO
        have q403 : x4_1 < (l0.length : Int) := of_decide_eq_true aO
        obtain ⟨ad403, e403, hx403_0⟩ := Kd.at_int HR0.out x4_1 p403 q403
        obtain rfl : ad402 = ad403 := (by injection e403)
        replace hx403_0 := (HB.out.cell (World.block_lt_of_cell? w _ hx403_0)).trans hx403_0
        replace p403 := eq_true p403
        replace q403 := eq_true q403
        go_wp2
        go_ret2
        exact ⟨by first | rfl | (simp [errW_none, errW_some] <;> rfl) | (simp [*, errW_none, errW_some] <;> rfl), bO HB.out⟩
     ·rw [if_neg c4] at H
      exact absurd H (by simp)
    ·rw [if_neg c3] at H
     have c3b0 : decide (x4_1 < (l0.length : Int)) = false := decide_eq_false c3
     clear c3
     by_cases c7 : (l0.length : Int) > 64
     ·rw [if_pos c7] at H
      have c7b0 : decide (64 < (l0.length : Int)) = true := decide_eq_true c7
      have c7b1 : decide (64 < l0.length) = true := decide_eq_true (by omega)
      clear c7
      simp only [Option.some.injEq, Prod.mk.injEq] at H
      obtain ⟨rfl, rfl⟩ := H
      go_wp2
      go_ret2
      exact ⟨by first | rfl | (simp [errW_none, errW_some] <;> rfl) | (simp [*, errW_none, errW_some] <;> rfl), bO HB.out⟩
     ·rw [if_neg c7] at H
      have c7b0 : decide (64 < (l0.length : Int)) = false := decide_eq_false c7
      have c7b1 : decide (64 < l0.length) = false := decide_eq_false (by omega)
      clear c7
      replace H := Option.bind_eq_some_iff.mp H
      obtain ⟨⟨t404, t405⟩, A80, H⟩ := H
      replace H : ((tabardref01_Fits.f k1 t404 t405).bind fun bt408 => (some (bt408.1, 0))) = some (r1, r2) := H
      have A8 := Aside0.mk A80
      clear A80
      replace H := Option.bind_eq_some_iff.mp H
      obtain ⟨⟨t408, t409⟩, A90, H⟩ := H
      replace H : (some (t408, 0)) = some (r1, r2) := H
      have A9 := Aside0.mk A90
      clear A90
      simp only [Option.some.injEq, Prod.mk.injEq] at H
      obtain ⟨rfl, rfl⟩ := H
      go_wp2_with (first | ((with_reducible refine gate_callee (f := 34) rfl ?_); refine goesL_ (some 33) rfl rfl Try.func34 (by kernel_rfl) rfl #[.slice A0 l0.length c0] rfl mO ?_; (with_reducible refine (tabardref03_Value.calls k1 _ _ l0 t404 t405 _ ?side1 ?side2 A8.out).mono ?_); (case side1 => exact cO (Kd.C_below HR0.out HB.out)); (case side2 => exact HC0.out); rintro e w10 ⟨v406, rfl, ho0, hb⟩; refine ⟨_, rfl, ?_⟩; have n0_ := Aside0.mk (Kd.V_lower (Kd.V_mono (ok' := fun k_ => True) ho0 (fun k_ hk_ => trivial)) (below_size (bO HB.out))); have n1_ := Aside0.mk (below_step (bO HB.out) hb); clear HB; have HO407 := n0_; have HB := n1_; clear n0_ n1_; (try clear hb); (try clear hb2); (try clear hk); (try clear hi); (try clear ho0); obtain ⟨Ao11, co11, eo11⟩ := Kd.V_slice HO407.out; subst eo11) | ((with_reducible refine gate_callee (f := 33) rfl ?_); refine goesL_ (some 34) rfl rfl Try.func33 (by kernel_rfl) rfl #[.agg #[.bool t404, .slice Ao11 t405.length co11]] rfl mO ?_; (with_reducible refine (tabardref01_Fits.calls k1 t404 _ _ t405 t408 t409 _ ?side1 ?side2 A9.out).mono ?_); (case side1 => exact cO (Kd.V_reads' HO407.out).2.2); (case side2 => exact (Kd.V_reads' HO407.out).2.1); rintro e w12 ⟨rfl, hb⟩; refine ⟨_, rfl, ?_⟩; have n0_ := Aside0.mk (Kd.V_below (vO HO407.out) hb); have n1_ := Aside0.mk (below_step (bO HB.out) hb); clear HO407; clear HB; have HO407 := n0_; have HB := n1_; clear n0_ n1_; (try clear hb); (try clear hb2); (try clear hk); (try clear hi)))
      go_ret2
      exact ⟨by first | rfl | (simp [errW_none, errW_some] <;> rfl) | (simp [*, errW_none, errW_some] <;> rfl), bO HB.out⟩

end Go.Proofs.Ytolacbnkebbjiaa.X

/- What the functions of this seat compute, and that the program's calls come to just that: written by this session's own program out of the translation; no condition. -/
import Derived.Test.YtghfclgcgecgdaaX0
import Derived.Test.YtghfclgcgecgdaaX11
import Derived.Test.YtghfclgcgecgdaaX12
import Derived.Test.YtghfclgcgecgdaaX15
namespace Go.Proofs.Ytghfclgcgecgdaa.X
open Go.RowKit Go.Proofs.YtghfclgcgecgdaaW.PrintWords Go.Proofs.YtghfclgcgecgdaaW.PrintLast Go.Proofs.YtghfclgcgecgdaaW.PrintMore
attribute [local go_sem] max2_int min2_int max_two min_two max_three min_three max_four min_four   -- for this text's walks alone
set_option linter.unusedVariables false
set_option linter.unusedSimpArgs false

/-! ### table_Run: function 21 -/
mutual
def table_Run.l0 : Nat → List Int → List Int → Int → Int → List ByteArray → List Bool → List Int → List (S58) → Option (Int × Int)
 | 0, _, _, _, _, _, _, _, _ => none
 | k + 1, x1, x17, x18, x19, x185000, x185001, x185002, x185003 => if x19 < x18 then (if 0 ≤ x19 then (if x19 < (x17.length : Int) then (if (rd x17 x19) < 0 then (some (0, 30)) else (if (rd x17 x19) ≥ (shl .i64 1 (x185000.length : Int)) then (some (0, 30)) else (table_Run.l0 k x1 x17 x18 (wrap64 (x19 + 1)) x185000 x185001 x185002 x185003))) else (none)) else (none)) else (table_Run.l1 k 0 x1 (x1.length : Int) 0 x185000 x185001 x185002 x185003)
def table_Run.l1 : Nat → Int → List Int → Int → Int → List ByteArray → List Bool → List Int → List (S58) → Option (Int × Int)
 | 0, _, _, _, _, _, _, _, _ => none
 | k + 1, x9, x34, x35, x36, x185000, x185001, x185002, x185003 => if x36 < x35 then (if 0 ≤ x36 then (if x36 < (x34.length : Int) then ((table_rowOf.f x185000 x185001 x185002 x185003 x9).bind fun t188 => ((row_At.f k t188 (rd x34 x36)).bind fun bt191 => (table_Run.l1 k bt191.1 x34 x35 (wrap64 (x36 + 1)) x185000 x185001 x185002 x185003))) else (none)) else (none)) else (some (x9, 0))
end
def table_Run.f (k : Nat) (l0_0 : List ByteArray) (l0_1 : List Bool) (l0_2 : List Int) (l0_3 : List (S58)) (l1 : List Int) : Option (Int × Int) := (table_Check.f k l0_0 l0_1 l0_2 l0_3).bind fun t185 => (if t185 = 0 then (table_Run.l0 k l1 l1 (l1.length : Int) 0 l0_0 l0_1 l0_2 l0_3) else (some (0, t185)))
theorem table_Run.mono_l : ∀ k, (∀ y0 y1 y2 y3 y4 y5 y6 y7, LeO (table_Run.l0 k y0 y1 y2 y3 y4 y5 y6 y7) (table_Run.l0 (k + 1) y0 y1 y2 y3 y4 y5 y6 y7)) ∧ (∀ y0 y1 y2 y3 y4 y5 y6 y7, LeO (table_Run.l1 k y0 y1 y2 y3 y4 y5 y6 y7) (table_Run.l1 (k + 1) y0 y1 y2 y3 y4 y5 y6 y7))
 | 0 => ⟨fun _ _ _ _ _ _ _ _ r h => by simp [table_Run.l0] at h, fun _ _ _ _ _ _ _ _ r h => by simp [table_Run.l1] at h⟩
 | k + 1 => by
  obtain ⟨ih0, ih1⟩ := table_Run.mono_l k; refine ⟨?_, ?_⟩
  ·intro y0 y1 y2 y3 y4 y5 y6 y7
   unfold table_Run.l0
   repeat' first
   | (with_reducible exact ih0 _ _ _ _ _ _ _ _)
   | (with_reducible exact ih1 _ _ _ _ _ _ _ _)
   | (with_reducible exact row_At.mono _ _ _)
   | (with_reducible exact table_Check.mono _ _ _ _ _)
   | (with_reducible exact LeO.refl _)
   | (with_reducible exact LeO.none _)
   | (with_reducible refine LeO.ite ?_ ?_)
   | (with_reducible refine LeO.bind ?_ (fun _ => ?_))
   | exact LeO.none _
   | refine LeO.ite ?_ ?_
   | refine LeO.bind ?_ (fun _ => ?_)
  ·intro y0 y1 y2 y3 y4 y5 y6 y7
   unfold table_Run.l1
   repeat' first
   | (with_reducible exact ih0 _ _ _ _ _ _ _ _)
   | (with_reducible exact ih1 _ _ _ _ _ _ _ _)
   | (with_reducible exact row_At.mono _ _ _)
   | (with_reducible exact table_Check.mono _ _ _ _ _)
   | (with_reducible exact LeO.refl _)
   | (with_reducible exact LeO.none _)
   | (with_reducible refine LeO.ite ?_ ?_)
   | (with_reducible refine LeO.bind ?_ (fun _ => ?_))
   | exact LeO.none _
   | refine LeO.ite ?_ ?_
   | refine LeO.bind ?_ (fun _ => ?_)
theorem table_Run.mono : ∀ a0 a1 a2 a3 a4 k, LeO (table_Run.f k a0 a1 a2 a3 a4) (table_Run.f (k + 1) a0 a1 a2 a3 a4) := by
 intro a0 a1 a2 a3 a4 k; obtain ⟨ih0, ih1⟩ := table_Run.mono_l k
 unfold table_Run.f
 repeat' first
   | (with_reducible exact ih0 _ _ _ _ _ _ _ _)
   | (with_reducible exact ih1 _ _ _ _ _ _ _ _)
   | (with_reducible exact row_At.mono _ _ _)
   | (with_reducible exact table_Check.mono _ _ _ _ _)
   | (with_reducible exact LeO.refl _)
   | (with_reducible exact LeO.none _)
   | (with_reducible refine LeO.ite ?_ ?_)
   | (with_reducible refine LeO.bind ?_ (fun _ => ?_))
   | exact LeO.none _
   | refine LeO.ite ?_ ?_
   | refine LeO.bind ?_ (fun _ => ?_)
set_option maxHeartbeats 8000000 in
set_option maxRecDepth 100000 in
theorem table_Run.calls (k : Nat) (A0_0 : Option Addr) (c0_0 : Nat) (l0_0 : List ByteArray) (A0_1 : Option Addr) (c0_1 : Nat) (l0_1 : List Bool) (A0_2 : Option Addr) (c0_2 : Nat) (l0_2 : List Int) (A0_3 : Option Addr) (c0_3 : Nat) (l0_3 : List (S58)) (A1 : Option Addr) (c1 : Nat) (l1 : List Int) (r1 : Int) (r2 : Int) (w : World) (hr0_0 : Kd.C Kd.string w A0_0 l0_0.length l0_0) (hc0_0 : l0_0.length ≤ c0_0) (hr0_1 : Kd.C Kd.bool w A0_1 l0_1.length l0_1) (hc0_1 : l0_1.length ≤ c0_1) (hr0_2 : Kd.C (Kd.int .i64) w A0_2 l0_2.length l0_2) (hc0_2 : l0_2.length ≤ c0_2) (hr0_3 : Kd.C k58 w A0_3 l0_3.length l0_3) (hc0_3 : l0_3.length ≤ c0_3) (hr1 : Kd.C (Kd.int .i64) w A1 l1.length l1) (hc1 : l1.length ≤ c1) (h : table_Run.f k l0_0 l0_1 l0_2 l0_3 l1 = some (r1, r2)) :
  Calls Try.prog 21 #[.agg #[.slice A0_0 l0_0.length c0_0, .slice A0_1 l0_1.length c0_1, .slice A0_2 l0_2.length c0_2, .slice A0_3 l0_3.length c0_3], .slice A1 l1.length c1] w fun e w' => e = .returned (.tuple #[.int .i64 r1, .int .i64 r2]) ∧ Below w.heap.size w w' := by
 have hu32 := Try.underlying32; have HR0_0 := Aside0.mk hr0_0; have HC0_0 := Aside0.mk hc0_0; clear hr0_0 hc0_0; have HR0_1 := Aside0.mk hr0_1; have HC0_1 := Aside0.mk hc0_1; clear hr0_1 hc0_1; have HR0_2 := Aside0.mk hr0_2; have HC0_2 := Aside0.mk hc0_2; clear hr0_2 hc0_2; have HR0_3 := Aside0.mk hr0_3; have HC0_3 := Aside0.mk hc0_3; clear hr0_3 hc0_3; have HR1 := Aside0.mk hr1; have HC1 := Aside0.mk hc1; clear hr1 hc1; have HB := Aside0.mk (Below.refl w.heap.size w); have H : ((table_Check.f k l0_0 l0_1 l0_2 l0_3).bind fun t185 => (if t185 = 0 then (table_Run.l0 k l1 l1 (l1.length : Int) 0 l0_0 l0_1 l0_2 l0_3) else (some (0, t185)))) = some (r1, r2) := h; clear h; replace H := Option.bind_eq_some_iff.mp H; obtain ⟨t185, A30, H⟩ := H; replace H : (if t185 = 0 then (table_Run.l0 k l1 l1 (l1.length : Int) 0 l0_0 l0_1 l0_2 l0_3) else (some (0, t185))) = some (r1, r2) := H; have A3 := Aside0.mk A30; clear A30
 by_cases c4 : t185 = 0
 ·rw [if_pos c4] at H; have c4b0 : (t185 == 0) = true := beq_iff_eq.mpr c4; have c4b1 : (t185 != 0) = false := bne_eq_false_iff_eq.mpr c4; clear c4; have H' := Aside0.mk H; clear H
  go_enter Try.func21, Try.ntmps21
  go_wp2_with (first | ((with_reducible refine gate_dst (N := 2) rfl ?_); (try (refine gate_guard (by rfl) ?_; dsimp only)); refine be_ (cs := #[.slice A0_0 l0_0.length c0_0, .slice A0_1 l0_1.length c0_1, .slice A0_2 l0_2.length c0_2, .slice A0_3 l0_3.length c0_3]) (t := 32) ?_; intro gb184 hg w5 hbox hb; have BK184 := Aside0.mk (hbox); have GW184 := gE hg (bO HB.out); have GE184 := gE hg (bO HB.out); replace HB := hS0 HB hb; clear hb hbox hg; obtain ⟨hcz6_0, hcz6_1, hcz6_2, hcz6_3, hfz6_0, hfz6_1, hfz6_2, hfz6_3⟩ := bF4 BK184.out) | ((with_reducible refine gate_callee (f := 29) rfl ?_); refine goesL_ (some 13) rfl rfl Try.func29 (by kernel_rfl) rfl #[.agg #[.slice A0_0 l0_0.length c0_0, .slice A0_1 l0_1.length c0_1, .slice A0_2 l0_2.length c0_2, .slice A0_3 l0_3.length c0_3]] rfl mO ?_; (with_reducible refine (table_Check.calls k _ _ l0_0 _ _ l0_1 _ _ l0_2 _ _ l0_3 t185 _ ?s1 ?s2 ?s3 ?s4 ?s5 ?s6 ?s7 ?s8 A3.out).mono ?_); (case s1 => exact cB HR0_0 HB); (case s2 => exact HC0_0.out); (case s3 => exact cB HR0_1 HB); (case s4 => exact HC0_1.out); (case s5 => exact cB HR0_2 HB); (case s6 => exact HC0_2.out); (case s7 => exact cB HR0_3 HB); (case s8 => exact HC0_3.out); rintro e w7 ⟨rfl, hb⟩; refine ⟨_, rfl, ?_⟩; replace BK184 := kB BK184 hb; replace HB := hS1 HB GE184 hb; (try clear hb); (try clear hb2); (try clear hk); (try clear hi)))
  go_loopg [19] k (fun kq v19 w' => ∃ (x19_1 : Int), v19 = .int .i64 x19_1 ∧ Aside0 (table_Run.l0 kq l1 l1 (l1.length : Int) x19_1 l0_0 l0_1 l0_2 l0_3 = some (r1, r2)) ∧ Aside0 (kq ≤ k) ∧ Aside0 (w'.heap[gb184]? = some (.cells #[(.slice A0_0 l0_0.length c0_0), (.slice A0_1 l0_1.length c0_1), (.slice A0_2 l0_2.length c0_2), (.slice A0_3 l0_3.length c0_3)] 32 (0, 0))) ∧ Aside0 (Below w.heap.size w w'))
  case atStart => exact ⟨(0), (by first | rfl | (simp; done) | (simp [*]; done)), H', ⟨Nat.le_refl _⟩, ⟨kO BK184.out⟩, ⟨bS1 HB.out GE184.out⟩⟩
  case round =>
   clear H'
   try clear c1
   try clear c2
   try clear p2
   try clear c4
   try clear c4b0
   try clear c4b1
   try clear hcz6_0
   try clear hcz6_1
   try clear hcz6_2
   try clear hcz6_3
   try clear hfz6_0
   try clear hfz6_1
   try clear hfz6_2
   try clear hfz6_3
   obtain ⟨x19_1, rfl, HA, HK1, BK184, HB⟩ := hrel; cases gk with
   | zero => exact absurd HA.out (by simp [table_Run.l0])
   | succ k1 =>
    have H := HA.out; clear HA; simp only [table_Run.l0] at H
    by_cases c8 : x19_1 < (l1.length : Int)
    ·rw [if_pos c8] at H; have c8b0 : decide (x19_1 < (l1.length : Int)) = true := decide_eq_true c8; clear c8
     by_cases c9 : 0 ≤ x19_1
     ·rw [if_pos c9] at H; have c9b0 : decide (0 ≤ x19_1) = true := decide_eq_true c9; clear c9
      by_cases c10 : x19_1 < (l1.length : Int)
      ·rw [if_pos c10] at H; have c10b0 : decide (x19_1 < (l1.length : Int)) = true := decide_eq_true c10; clear c10
       by_cases c11 : (rd l1 x19_1) < 0
       ·rw [if_pos c11] at H; have c11b0 : decide ((rd l1 x19_1) < 0) = true := decide_eq_true c11; clear c11; simp only [Option.some.injEq, Prod.mk.injEq] at H; obtain ⟨rfl, rfl⟩ := H; have p186 : 0 ≤ (x19_1 : Int) := of_decide_eq_true aO; have q186 : x19_1 < (l1.length : Int) := of_decide_eq_true aO; obtain ⟨ad186, e186, hx186_0⟩ := Kd.at_int HR1.out x19_1 p186 q186; cases e186; replace hx186_0 := (HB.out.cell (World.block_lt_of_cell? w _ hx186_0)).trans hx186_0; replace p186 := eq_true p186; replace q186 := eq_true q186
        go_wp2
        go_ret2
        exact ⟨eW, bS1 HB.out GE184.out⟩
       ·rw [if_neg c11] at H; have c11b0 : decide ((rd l1 x19_1) < 0) = false := decide_eq_false c11; clear c11; obtain ⟨ji12, hji12⟩ : ∃ j_ : Int, (shl .i64 1 (l0_0.length : Int)) = j_ := ⟨_, rfl⟩
        replace H : (if (rd l1 x19_1) ≥ (ji12) then (some (0, 30)) else (table_Run.l0 k1 l1 l1 (l1.length : Int) (wrap64 (x19_1 + 1)) l0_0 l0_1 l0_2 l0_3)) = some (r1, r2) := by first | (rw [hji12] at H; exact H) | (simp only [hji12] at H ⊢; exact H)
        have hji12_ : (IntKind.i64.wrap (1 * 2 ^ min (l0_0.length : Int).toNat 64)) = ji12 := hji12; have hji12z : (l0_0.length : Int) ≤ 64 → (IntKind.i64.wrap (1 * 2 ^ (l0_0.length : Int).toNat)) = ji12 := shl_small hji12; have hji12p : (IntKind.i64.wrap (1 * 2 ^ min l0_0.length 64)) = ji12 := hji12_; have hji12q : (l0_0.length : Int) ≤ 64 → (IntKind.i64.wrap (1 * 2 ^ l0_0.length)) = ji12 := hji12z
        have hji12r : (IntKind.i64.wrap (2 ^ min l0_0.length 64)) = ji12 := by have h_ := hji12p; rw [Int.one_mul] at h_; exact h_
        have hji12s : (l0_0.length : Int) ≤ 64 → (IntKind.i64.wrap (2 ^ l0_0.length)) = ji12 := fun hle_ => by have h_ := hji12q hle_; rw [Int.one_mul] at h_; exact h_
        have hji12u : (IntKind.i64.wrap (2 ^ min (l0_0.length : Int).toNat 64)) = ji12 := by have h_ := hji12_; rw [Int.one_mul] at h_; exact h_
        have hji12v : (l0_0.length : Int) ≤ 64 → (IntKind.i64.wrap (2 ^ (l0_0.length : Int).toNat)) = ji12 := fun hle_ => by have h_ := hji12z hle_; rw [Int.one_mul] at h_; exact h_
        have hji12y : (wrap64 (1 * 2 ^ min (l0_0.length : Int).toNat 64)) = ji12 := (i64_w _).symm.trans hji12_
        have hji12x : (l0_0.length : Int) ≤ 64 → (wrap64 (1 * 2 ^ (l0_0.length : Int).toNat)) = ji12 := fun h_ => (i64_w _).symm.trans (hji12z h_)
        by_cases c13 : (rd l1 x19_1) ≥ (ji12)
        ·rw [if_pos c13] at H; have c13b0 : decide ((ji12) ≤ (rd l1 x19_1)) = true := decide_eq_true c13; clear c13; simp only [Option.some.injEq, Prod.mk.injEq] at H; obtain ⟨rfl, rfl⟩ := H; have p186 : 0 ≤ (x19_1 : Int) := of_decide_eq_true aO; have q186 : x19_1 < (l1.length : Int) := of_decide_eq_true aO; obtain ⟨ad186, e186, hx186_0⟩ := Kd.at_int HR1.out x19_1 p186 q186; cases e186; replace hx186_0 := (HB.out.cell (World.block_lt_of_cell? w _ hx186_0)).trans hx186_0; replace p186 := eq_true p186; replace q186 := eq_true q186; obtain ⟨hcz14_0, hcz14_1, hcz14_2, hcz14_3, hfz14_0, hfz14_1, hfz14_2, hfz14_3⟩ := bF4 BK184.out
         go_wp2
         go_ret2
         exact ⟨by first | rfl | (simp [errW_none, errW_some] <;> rfl) | (simp only [← hji12]; first | rfl | (simp [errW_none, errW_some] <;> rfl)) | (simp [*, errW_none, errW_some] <;> rfl), bS1 HB.out GE184.out⟩
        ·rw [if_neg c13] at H; have c13b0 : decide ((ji12) ≤ (rd l1 x19_1)) = false := decide_eq_false c13; clear c13; have H' := Aside0.mk H; clear H; have p186 : 0 ≤ (x19_1 : Int) := of_decide_eq_true aO; have q186 : x19_1 < (l1.length : Int) := of_decide_eq_true aO; obtain ⟨ad186, e186, hx186_0⟩ := Kd.at_int HR1.out x19_1 p186 q186; cases e186; replace hx186_0 := (HB.out.cell (World.block_lt_of_cell? w _ hx186_0)).trans hx186_0; replace p186 := eq_true p186; replace q186 := eq_true q186; obtain ⟨hcz15_0, hcz15_1, hcz15_2, hcz15_3, hfz15_0, hfz15_1, hfz15_2, hfz15_3⟩ := bF4 BK184.out
         go_wp2
         go_roundg k1
         case measure => have := HK1.out; omega
         case rel => exact ⟨(wrap64 (x19_1 + 1)), (by first | rfl | (simp; done) | (simp [*]; done)), H', ⟨by have := HK1.out; omega⟩, ⟨kO BK184.out⟩, ⟨bS1 HB.out GE184.out⟩⟩
      ·rw [if_neg c10] at H; exact absurd H (by simp)
     ·rw [if_neg c9] at H; exact absurd H (by simp)
    ·rw [if_neg c8] at H; have c8b0 : decide (x19_1 < (l1.length : Int)) = false := decide_eq_false c8; clear c8; have H' := Aside0.mk H; clear H
     go_wp2
     go_loopg [9, 36] k1 (fun kq v9 v36 w' => ∃ (x9_2 : Int) (x36_2 : Int), v9 = .int .i64 x9_2 ∧ v36 = .int .i64 x36_2 ∧ Aside0 (table_Run.l1 kq x9_2 l1 (l1.length : Int) x36_2 l0_0 l0_1 l0_2 l0_3 = some (r1, r2)) ∧ Aside0 (kq ≤ k1) ∧ Aside0 (w'.heap[gb184]? = some (.cells #[(.slice A0_0 l0_0.length c0_0), (.slice A0_1 l0_1.length c0_1), (.slice A0_2 l0_2.length c0_2), (.slice A0_3 l0_3.length c0_3)] 32 (0, 0))) ∧ Aside0 (Below w.heap.size w w'))
     case atStart => exact ⟨(0), (0), (by first | rfl | (simp; done) | (simp [*]; done)), (by first | rfl | (simp; done) | (simp [*]; done)), H', ⟨Nat.le_refl _⟩, ⟨kO BK184.out⟩, ⟨bS1 HB.out GE184.out⟩⟩
     case round =>
      clear H'
      try clear c1
      try clear p1
      try clear q1
      try clear hx1
      try clear c2
      try clear p2
      try clear c4
      try clear c4b0
      try clear c4b1
      try clear p6
      try clear c8
      try clear c8b0
      try clear c9
      try clear c9b0
      try clear c10
      try clear c10b0
      try clear c11
      try clear c11b0
      try clear c13
      try clear c13b0
      try clear hcz14_0
      try clear hcz14_1
      try clear hcz14_2
      try clear hcz14_3
      try clear hcz15_0
      try clear hcz15_1
      try clear hcz15_2
      try clear hcz15_3
      try clear hcz6_0
      try clear hcz6_1
      try clear hcz6_2
      try clear hcz6_3
      try clear hfz14_0
      try clear hfz14_1
      try clear hfz14_2
      try clear hfz14_3
      try clear hfz15_0
      try clear hfz15_1
      try clear hfz15_2
      try clear hfz15_3
      try clear hfz6_0
      try clear hfz6_1
      try clear hfz6_2
      try clear hfz6_3
      try clear hx186_0
      try clear p186
      try clear p2
      try clear q186
      obtain ⟨x9_2, x36_2, rfl, rfl, HA, HK2, BK184, HB⟩ := hrel; cases gk with
      | zero => exact absurd HA.out (by simp [table_Run.l1])
      | succ k2 =>
       have H := HA.out; clear HA; simp only [table_Run.l1] at H
       by_cases c16 : x36_2 < (l1.length : Int)
       ·rw [if_pos c16] at H; have c16b0 : decide (x36_2 < (l1.length : Int)) = true := decide_eq_true c16; clear c16
        by_cases c17 : 0 ≤ x36_2
        ·rw [if_pos c17] at H; have c17b0 : decide (0 ≤ x36_2) = true := decide_eq_true c17; clear c17
         by_cases c18 : x36_2 < (l1.length : Int)
         ·rw [if_pos c18] at H; have c18b0 : decide (x36_2 < (l1.length : Int)) = true := decide_eq_true c18; clear c18; replace H := Option.bind_eq_some_iff.mp H; obtain ⟨t188, A190, H⟩ := H; replace H : ((row_At.f k2 t188 (rd l1 x36_2)).bind fun bt191 => (table_Run.l1 k2 bt191.1 l1 (l1.length : Int) (wrap64 (x36_2 + 1)) l0_0 l0_1 l0_2 l0_3)) = some (r1, r2) := H; have A19 := Aside0.mk A190; clear A190; replace H := Option.bind_eq_some_iff.mp H; obtain ⟨⟨t191, t192⟩, A200, H⟩ := H; replace H : (table_Run.l1 k2 t191 l1 (l1.length : Int) (wrap64 (x36_2 + 1)) l0_0 l0_1 l0_2 l0_3) = some (r1, r2) := H; have A20 := Aside0.mk A200; clear A200; have H' := Aside0.mk H; clear H; have p187 : 0 ≤ (x36_2 : Int) := of_decide_eq_true aO; have q187 : x36_2 < (l1.length : Int) := of_decide_eq_true aO; obtain ⟨ad187, e187, hx187_0⟩ := Kd.at_int HR1.out x36_2 p187 q187; cases e187; replace hx187_0 := (HB.out.cell (World.block_lt_of_cell? w _ hx187_0)).trans hx187_0; replace p187 := eq_true p187; replace q187 := eq_true q187; obtain ⟨hcz21_0, hcz21_1, hcz21_2, hcz21_3, hfz21_0, hfz21_1, hfz21_2, hfz21_3⟩ := bF4 BK184.out
          go_wp2_with (first | ((with_reducible refine gate_callee (f := 48) rfl ?_); refine goesL_ (some 43) rfl rfl Try.func48 (by kernel_rfl) rfl #[.agg #[.slice A0_0 l0_0.length c0_0, .slice A0_1 l0_1.length c0_1, .slice A0_2 l0_2.length c0_2, .slice A0_3 l0_3.length c0_3], .int .i64 x9_2] rfl mO ?_; (with_reducible refine (table_rowOf.calls _ _ l0_0 _ _ l0_1 _ _ l0_2 (fun k_ => k_ < w.heap.size) _ _ l0_3 x9_2 t188 _ ?s1 ?s2 ?s3 ?s4 ?s5 ?s6 ?s7 A19.out).mono ?_); (case s1 => exact cB HR0_0 HB); (case s2 => exact HC0_0.out); (case s3 => exact cB HR0_1 HB); (case s4 => exact HC0_1.out); (case s5 => exact cB HR0_2 HB); (case s6 => exact HC0_2.out); (case s7 => exact Kd.V_mk HC0_3.out (Kd.F_below (Kd.C_F k58_heap HR0_3.out) (bS1 HB.out GE184.out))); rintro e w22 ⟨v189, rfl, ho0, hb⟩; refine ⟨_, rfl, ?_⟩; have HO190 := Aside0.mk (Kd.V_lower (Kd.V_mono (ok' := fun k_ => k_ ≠ gb184) ho0 (fun k_ hk_ => Or.elim hk_ (fun hs_ => fun e_ => Nat.not_le.2 hs_ (by rw [e_]; exact GW184.out)) (fun hn_ => (Kd.freshB (g := gb184) (o := .cells #[.slice A0_0 l0_0.length c0_0, .slice A0_1 l0_1.length c0_1, .slice A0_2 l0_2.length c0_2, .slice A0_3 l0_3.length c0_3] 32 (0, 0)) (kO BK184.out) k_ hn_)))) (below_size (bS1 HB.out GE184.out))); replace BK184 := kB BK184 hb; replace HB := hS1 HB GE184 hb; (try clear hb); (try clear hb2); (try clear hk); (try clear hi); (try clear ho0); obtain ⟨Ao23, co23, eo23⟩ := Kd.V_slice HO190.out; subst eo23) | ((with_reducible refine gate_callee (f := 47) rfl ?_); refine goesL_ (some 45) rfl rfl Try.func47 (by kernel_rfl) rfl #[.slice Ao23 t188.length co23, .int .i64 (rd l1 x36_2)] rfl mO ?_; (with_reducible refine (row_At.calls k2 _ _ t188 (rd l1 x36_2) t191 t192 _ ?s1 ?s2 A20.out).mono ?_); (case s1 => exact cO (Kd.V_reads' HO190.out).2.2); (case s2 => exact (Kd.V_reads' HO190.out).2.1); rintro e w24 ⟨rfl, hb⟩; refine ⟨_, rfl, ?_⟩; replace HO190 := Aside0.mk (Kd.V_below (vO HO190.out) hb); replace BK184 := kB BK184 hb; replace HB := hS1 HB GE184 hb; (try clear hb); (try clear hb2); (try clear hk); (try clear hi)))
          go_roundg k2
          case measure => have := HK1.out; have := HK2.out; omega
          case rel => exact ⟨(t191), (wrap64 (x36_2 + 1)), (by first | rfl | (simp; done) | (simp [*]; done)), (by first | rfl | (simp; done) | (simp [*]; done)), H', ⟨by have := HK1.out; have := HK2.out; omega⟩, ⟨kO BK184.out⟩, ⟨bS1 HB.out GE184.out⟩⟩
         ·rw [if_neg c18] at H; exact absurd H (by simp)
        ·rw [if_neg c17] at H; exact absurd H (by simp)
       ·rw [if_neg c16] at H; have c16b0 : decide (x36_2 < (l1.length : Int)) = false := decide_eq_false c16; clear c16; simp only [Option.some.injEq, Prod.mk.injEq] at H; obtain ⟨rfl, rfl⟩ := H
        go_wp2
        go_ret2
        exact ⟨eW, bS1 HB.out GE184.out⟩
 ·rw [if_neg c4] at H; have c4b0 : (t185 == 0) = false := beq_eq_false_iff_ne.mpr c4; have c4b1 : (t185 != 0) = true := bne_iff_ne.mpr c4; simp only [Option.some.injEq, Prod.mk.injEq] at H; obtain ⟨rfl, rfl⟩ := H
  go_enter Try.func21, Try.ntmps21
  go_wp2_with (first | ((with_reducible refine gate_dst (N := 2) rfl ?_); (try (refine gate_guard (by rfl) ?_; dsimp only)); refine be_ (cs := #[.slice A0_0 l0_0.length c0_0, .slice A0_1 l0_1.length c0_1, .slice A0_2 l0_2.length c0_2, .slice A0_3 l0_3.length c0_3]) (t := 32) ?_; intro gb184 hg w25 hbox hb; have BK184 := Aside0.mk (hbox); have GW184 := gE hg (bO HB.out); have GE184 := gE hg (bO HB.out); replace HB := hS0 HB hb; clear hb hbox hg; obtain ⟨hcz26_0, hcz26_1, hcz26_2, hcz26_3, hfz26_0, hfz26_1, hfz26_2, hfz26_3⟩ := bF4 BK184.out) | ((with_reducible refine gate_callee (f := 29) rfl ?_); refine goesL_ (some 13) rfl rfl Try.func29 (by kernel_rfl) rfl #[.agg #[.slice A0_0 l0_0.length c0_0, .slice A0_1 l0_1.length c0_1, .slice A0_2 l0_2.length c0_2, .slice A0_3 l0_3.length c0_3]] rfl mO ?_; (with_reducible refine (table_Check.calls k _ _ l0_0 _ _ l0_1 _ _ l0_2 _ _ l0_3 t185 _ ?s1 ?s2 ?s3 ?s4 ?s5 ?s6 ?s7 ?s8 A3.out).mono ?_); (case s1 => exact cB HR0_0 HB); (case s2 => exact HC0_0.out); (case s3 => exact cB HR0_1 HB); (case s4 => exact HC0_1.out); (case s5 => exact cB HR0_2 HB); (case s6 => exact HC0_2.out); (case s7 => exact cB HR0_3 HB); (case s8 => exact HC0_3.out); rintro e w27 ⟨rfl, hb⟩; refine ⟨_, rfl, ?_⟩; replace BK184 := kB BK184 hb; replace HB := hS1 HB GE184 hb; (try clear hb); (try clear hb2); (try clear hk); (try clear hi)))
  go_ret2
  exact ⟨eW, bS1 HB.out GE184.out⟩

end Go.Proofs.Ytghfclgcgecgdaa.X

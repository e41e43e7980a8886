/- What the functions of this seat compute, and that the program's calls come to just that: written by this session's own program out of the translation; no condition. -/
import Derived.Test.YtghfclgcgecgdaaX0
import Derived.Test.YtghfclgcgecgdaaX5
import Derived.Test.YtghfclgcgecgdaaX6
namespace Go.Proofs.Ytghfclgcgecgdaa.X
open Go.RowKit Go.Proofs.YtghfclgcgecgdaaW.PrintWords Go.Proofs.YtghfclgcgecgdaaW.PrintLast Go.Proofs.YtghfclgcgecgdaaW.PrintMore
attribute [local go_sem] max2_int min2_int max_two min_two max_three min_three max_four min_four   -- for this text's walks alone
set_option linter.unusedVariables false
set_option linter.unusedSimpArgs false

/-! ### table_Right: function 15 -/
mutual
def table_Right.j0 : Nat → Int → Bool → List ByteArray → List Bool → List (List Int) → Option (Int)
 | 0, _, _, _, _, _ => none
 | k + 1, x3, x20, x111000, x111001, x111002 => if x20 = true then (some 3) else (table_Right.l0 k x3 x111002 (x111002.length : Int) 0 x111000 x111001 x111002)
def table_Right.l0 : Nat → Int → List (List Int) → Int → Int → List ByteArray → List Bool → List (List Int) → Option (Int)
 | 0, _, _, _, _, _, _, _ => none
 | k + 1, x3, x22, x23, x24, x111000, x111001, x111002 => if x24 < x23 then (if 0 ≤ x24 then (if x24 < (x22.length : Int) then (if ((rd_L2 x22 x24).length : Int) = (shl .i64 1 (x111000.length : Int)) then ((slices_Min_int_int.f k (rd_L2 x22 x24)).bind fun t113 => (if t113 < 0 then (some 3) else ((slices_Max_int_int.f k (rd_L2 x22 x24)).bind fun t114 => (if t114 ≥ x3 then (some 3) else (table_Right.l0 k x3 x22 x23 (wrap64 (x24 + 1)) x111000 x111001 x111002))))) else (some 3)) else (none)) else (none)) else (some 0)
end
def table_Right.f (k : Nat) (l0_0 : List ByteArray) (l0_1 : List Bool) (l0_2 : List (List Int)) : Option (Int) := (table_tracks.f k l0_0 (l0_1.length : Int)).bind fun t111 => (if t111 = true then (table_Right.j0 k (l0_1.length : Int) ((l0_2.length : Int) != (l0_1.length : Int)) l0_0 l0_1 l0_2) else (table_Right.j0 k (l0_1.length : Int) true l0_0 l0_1 l0_2))
theorem table_Right.mono_l : ∀ k, (∀ y0 y1 y2 y3 y4, LeO (table_Right.j0 k y0 y1 y2 y3 y4) (table_Right.j0 (k + 1) y0 y1 y2 y3 y4)) ∧ (∀ y0 y1 y2 y3 y4 y5 y6, LeO (table_Right.l0 k y0 y1 y2 y3 y4 y5 y6) (table_Right.l0 (k + 1) y0 y1 y2 y3 y4 y5 y6))
 | 0 => ⟨fun _ _ _ _ _ r h => by simp [table_Right.j0] at h, fun _ _ _ _ _ _ _ r h => by simp [table_Right.l0] at h⟩
 | k + 1 => by
  obtain ⟨ih0, ih1⟩ := table_Right.mono_l k; refine ⟨?_, ?_⟩
  ·intro y0 y1 y2 y3 y4
   unfold table_Right.j0
   repeat' first
   | (with_reducible exact ih0 _ _ _ _ _)
   | (with_reducible exact ih1 _ _ _ _ _ _ _)
   | (with_reducible exact slices_Max_int_int.mono _ _)
   | (with_reducible exact slices_Min_int_int.mono _ _)
   | (with_reducible exact table_tracks.mono _ _ _)
   | (with_reducible exact LeO.refl _)
   | (with_reducible exact LeO.none _)
   | (with_reducible refine LeO.ite ?_ ?_)
   | (with_reducible refine LeO.bind ?_ (fun _ => ?_))
   | exact LeO.none _
   | refine LeO.ite ?_ ?_
   | refine LeO.bind ?_ (fun _ => ?_)
  ·intro y0 y1 y2 y3 y4 y5 y6
   unfold table_Right.l0
   repeat' first
   | (with_reducible exact ih0 _ _ _ _ _)
   | (with_reducible exact ih1 _ _ _ _ _ _ _)
   | (with_reducible exact slices_Max_int_int.mono _ _)
   | (with_reducible exact slices_Min_int_int.mono _ _)
   | (with_reducible exact table_tracks.mono _ _ _)
   | (with_reducible exact LeO.refl _)
   | (with_reducible exact LeO.none _)
   | (with_reducible refine LeO.ite ?_ ?_)
   | (with_reducible refine LeO.bind ?_ (fun _ => ?_))
   | exact LeO.none _
   | refine LeO.ite ?_ ?_
   | refine LeO.bind ?_ (fun _ => ?_)
theorem table_Right.mono : ∀ a0 a1 a2 k, LeO (table_Right.f k a0 a1 a2) (table_Right.f (k + 1) a0 a1 a2) := by
 intro a0 a1 a2 k; obtain ⟨ih0, ih1⟩ := table_Right.mono_l k
 unfold table_Right.f
 repeat' first
   | (with_reducible exact ih0 _ _ _ _ _)
   | (with_reducible exact ih1 _ _ _ _ _ _ _)
   | (with_reducible exact slices_Max_int_int.mono _ _)
   | (with_reducible exact slices_Min_int_int.mono _ _)
   | (with_reducible exact table_tracks.mono _ _ _)
   | (with_reducible exact LeO.refl _)
   | (with_reducible exact LeO.none _)
   | (with_reducible refine LeO.ite ?_ ?_)
   | (with_reducible refine LeO.bind ?_ (fun _ => ?_))
   | exact LeO.none _
   | refine LeO.ite ?_ ?_
   | refine LeO.bind ?_ (fun _ => ?_)
set_option maxHeartbeats 8000000 in
set_option maxRecDepth 100000 in
theorem table_Right.calls (k : Nat) (A0_0 : Option Addr) (c0_0 : Nat) (l0_0 : List ByteArray) (A0_1 : Option Addr) (c0_1 : Nat) (l0_1 : List Bool) (A0_2 : Option Addr) (c0_2 : Nat) (l0_2 : List (List Int)) (r : Int) (w : World) (hr0_0 : Kd.C Kd.string w A0_0 l0_0.length l0_0) (hc0_0 : l0_0.length ≤ c0_0) (hr0_1 : Kd.C Kd.bool w A0_1 l0_1.length l0_1) (hc0_1 : l0_1.length ≤ c0_1) (hr0_2 : Kd.C (Kd.slice 3 (Kd.int .i64)) w A0_2 l0_2.length l0_2) (hc0_2 : l0_2.length ≤ c0_2) (h : table_Right.f k l0_0 l0_1 l0_2 = some r) :
  Calls Try.prog 15 #[.agg #[.slice A0_0 l0_0.length c0_0, .slice A0_1 l0_1.length c0_1, .slice A0_2 l0_2.length c0_2]] w fun e w' => e = .returned (.int .i64 r) ∧ Below w.heap.size w w' := by
 have hu26 := Try.underlying26; have HR0_0 := Aside0.mk hr0_0; have HC0_0 := Aside0.mk hc0_0; clear hr0_0 hc0_0; have HR0_1 := Aside0.mk hr0_1; have HC0_1 := Aside0.mk hc0_1; clear hr0_1 hc0_1; have HR0_2 := Aside0.mk hr0_2; have HC0_2 := Aside0.mk hc0_2; clear hr0_2 hc0_2; have HB := Aside0.mk (Below.refl w.heap.size w); have H : ((table_tracks.f k l0_0 (l0_1.length : Int)).bind fun t111 => (if t111 = true then (table_Right.j0 k (l0_1.length : Int) ((l0_2.length : Int) != (l0_1.length : Int)) l0_0 l0_1 l0_2) else (table_Right.j0 k (l0_1.length : Int) true l0_0 l0_1 l0_2))) = some r := h; clear h; have HC2 := Aside0.mk H; clear H
 go_enter Try.func15, Try.ntmps15
 go_upto_region 2 with (first | ((with_reducible refine gate_dst (N := 1) rfl ?_); (try (refine gate_guard (by rfl) ?_; dsimp only)); refine be_ (cs := #[.slice A0_0 l0_0.length c0_0, .slice A0_1 l0_1.length c0_1, .slice A0_2 l0_2.length c0_2]) (t := 26) ?_; intro gb110 hg w3 hbox hb; have BK110 := Aside0.mk (hbox); have GW110 := gE hg (bO HB.out); have GE110 := gE hg (bO HB.out); replace HB := hS0 HB hb; clear hb hbox hg; obtain ⟨hcz4_0, hcz4_1, hcz4_2, hfz4_0, hfz4_1, hfz4_2⟩ := bF3 BK110.out))
 (try simp only [Act.put, sA, sB, sC])
 go_cut [20] (fun v20 wc => ∃ (kq : Nat) (x20_1 : Bool), v20 = .bool x20_1 ∧ Aside0 (table_Right.j0 kq (l0_1.length : Int) x20_1 l0_0 l0_1 l0_2 = some r) ∧ Aside0 (kq ≤ k) ∧ Aside0 (wc.heap[gb110]? = some (.cells #[(.slice A0_0 l0_0.length c0_0), (.slice A0_1 l0_1.length c0_1), (.slice A0_2 l0_2.length c0_2)] 26 (0, 0))) ∧ Aside0 (Below w.heap.size w wc))
 case first =>
  have H := HC2.out; clear HC2; replace H := Option.bind_eq_some_iff.mp H; obtain ⟨t111, A50, H⟩ := H; replace H : (if t111 = true then (table_Right.j0 k (l0_1.length : Int) ((l0_2.length : Int) != (l0_1.length : Int)) l0_0 l0_1 l0_2) else (table_Right.j0 k (l0_1.length : Int) true l0_0 l0_1 l0_2)) = some r := H; have A5 := Aside0.mk A50; clear A50
  by_cases c6 : t111 = true
  ·subst c6
   have H1 : (table_Right.j0 k (l0_1.length : Int) ((l0_2.length : Int) != (l0_1.length : Int)) l0_0 l0_1 l0_2) = some r := by rw [if_pos rfl] at H; exact H
   clear H; have H := H1; clear H1; have H' := Aside0.mk H; clear H; obtain ⟨hcz7_0, hcz7_1, hcz7_2, hfz7_0, hfz7_1, hfz7_2⟩ := bF3 BK110.out
   go_wp2_with (first | ((with_reducible refine gate_callee (f := 38) rfl ?_); refine goesL_ (some 12) rfl rfl Try.func38 (by kernel_rfl) rfl #[.slice A0_0 l0_0.length c0_0, .int .i64 (l0_1.length : Int)] rfl mO ?_; (with_reducible refine (table_tracks.calls k _ _ l0_0 (l0_1.length : Int) true _ ?s1 ?s2 A5.out).mono ?_); (case s1 => exact cB HR0_0 HB); (case s2 => exact HC0_0.out); rintro e w8 ⟨rfl, hb⟩; refine ⟨_, rfl, ?_⟩; replace BK110 := kB BK110 hb; replace HB := hS1 HB GE110 hb; (try clear hb); (try clear hb2); (try clear hk); (try clear hi); obtain ⟨hcz9_0, hcz9_1, hcz9_2, hfz9_0, hfz9_1, hfz9_2⟩ := bF3 BK110.out))
   go_meet
   case rel => exact ⟨_, (((l0_2.length : Int) != (l0_1.length : Int))), (by first | rfl | (simp; done) | (simp [*]; done)), H', ⟨by first | omega | exact Nat.le_refl _⟩, ⟨kO BK110.out⟩, ⟨bS1 HB.out GE110.out⟩⟩
  ·replace c6 := Bool.eq_false_iff.mpr c6; subst c6
   have H1 : (table_Right.j0 k (l0_1.length : Int) true l0_0 l0_1 l0_2) = some r := by rw [if_neg (show ¬ (false = true) by decide)] at H; exact H
   clear H; have H := H1; clear H1; have H' := Aside0.mk H; clear H; obtain ⟨hcz10_0, hcz10_1, hcz10_2, hfz10_0, hfz10_1, hfz10_2⟩ := bF3 BK110.out
   go_wp2_with (first | ((with_reducible refine gate_callee (f := 38) rfl ?_); refine goesL_ (some 12) rfl rfl Try.func38 (by kernel_rfl) rfl #[.slice A0_0 l0_0.length c0_0, .int .i64 (l0_1.length : Int)] rfl mO ?_; (with_reducible refine (table_tracks.calls k _ _ l0_0 (l0_1.length : Int) false _ ?s1 ?s2 A5.out).mono ?_); (case s1 => exact cB HR0_0 HB); (case s2 => exact HC0_0.out); rintro e w11 ⟨rfl, hb⟩; refine ⟨_, rfl, ?_⟩; replace BK110 := kB BK110 hb; replace HB := hS1 HB GE110 hb; (try clear hb); (try clear hb2); (try clear hk); (try clear hi)))
   go_meet
   case rel => exact ⟨_, (true), (by first | rfl | (simp; done) | (simp [*]; done)), H', ⟨by first | omega | exact Nat.le_refl _⟩, ⟨kO BK110.out⟩, ⟨bS1 HB.out GE110.out⟩⟩
 case rest =>
  clear HC2
  try clear c1
  try clear p2
  try clear c3
  try clear c6
  try clear hcz10_0
  try clear hcz10_1
  try clear hcz10_2
  try clear hcz4_0
  try clear hcz4_1
  try clear hcz4_2
  try clear hcz7_0
  try clear hcz7_1
  try clear hcz7_2
  try clear hcz9_0
  try clear hcz9_1
  try clear hcz9_2
  try clear hfz10_0
  try clear hfz10_1
  try clear hfz10_2
  try clear hfz4_0
  try clear hfz4_1
  try clear hfz4_2
  try clear hfz7_0
  try clear hfz7_1
  try clear hfz7_2
  try clear hfz9_0
  try clear hfz9_1
  try clear hfz9_2
  obtain ⟨kq, x20_1, rfl, HA, HJ1, BK110, HB⟩ := hcut; cases kq with
  | zero => exact absurd HA.out (by simp [table_Right.j0])
  | succ kj1 =>
   have H := HA.out; clear HA; simp only [table_Right.j0] at H
   by_cases c12 : x20_1 = true
   ·subst c12
    have H1 : (some 3) = some r := by rw [if_pos rfl] at H; exact H
    clear H; have H := H1; clear H1; obtain rfl := Option.some.inj H
    go_wp2
    go_ret
    exact ⟨eW, bS1 HB.out GE110.out⟩
   ·replace c12 := Bool.eq_false_iff.mpr c12; subst c12
    have H1 : (table_Right.l0 kj1 (l0_1.length : Int) l0_2 (l0_2.length : Int) 0 l0_0 l0_1 l0_2) = some r := by rw [if_neg (show ¬ (false = true) by decide)] at H; exact H
    clear H; have H := H1; clear H1; have H' := Aside0.mk H; clear H; obtain ⟨hcz13_0, hcz13_1, hcz13_2, hfz13_0, hfz13_1, hfz13_2⟩ := bF3 BK110.out
    go_wp2
    go_loopg [24] kj1 (fun kq v24 w' => ∃ (x24_2 : Int), v24 = .int .i64 x24_2 ∧ Aside0 (table_Right.l0 kq (l0_1.length : Int) l0_2 (l0_2.length : Int) x24_2 l0_0 l0_1 l0_2 = some r) ∧ Aside0 (kq ≤ kj1) ∧ Aside0 (w'.heap[gb110]? = some (.cells #[(.slice A0_0 l0_0.length c0_0), (.slice A0_1 l0_1.length c0_1), (.slice A0_2 l0_2.length c0_2)] 26 (0, 0))) ∧ Aside0 (Below w.heap.size w w'))
    case atStart => exact ⟨(0), (by first | rfl | (simp; done) | (simp [*]; done)), H', ⟨Nat.le_refl _⟩, ⟨kO BK110.out⟩, ⟨bS1 HB.out GE110.out⟩⟩
    case round =>
     clear H'
     try clear c1
     try clear p2
     try clear c3
     try clear c6
     try clear c12
     try clear hcz10_0
     try clear hcz10_1
     try clear hcz10_2
     try clear hcz13_0
     try clear hcz13_1
     try clear hcz13_2
     try clear hcz4_0
     try clear hcz4_1
     try clear hcz4_2
     try clear hcz7_0
     try clear hcz7_1
     try clear hcz7_2
     try clear hcz9_0
     try clear hcz9_1
     try clear hcz9_2
     try clear hfz10_0
     try clear hfz10_1
     try clear hfz10_2
     try clear hfz13_0
     try clear hfz13_1
     try clear hfz13_2
     try clear hfz4_0
     try clear hfz4_1
     try clear hfz4_2
     try clear hfz7_0
     try clear hfz7_1
     try clear hfz7_2
     try clear hfz9_0
     try clear hfz9_1
     try clear hfz9_2
     try clear p2
     obtain ⟨x24_2, rfl, HA, HK2, BK110, HB⟩ := hrel; cases gk with
     | zero => exact absurd HA.out (by simp [table_Right.l0])
     | succ k2 =>
      have H := HA.out; clear HA; simp only [table_Right.l0] at H
      by_cases c14 : x24_2 < (l0_2.length : Int)
      ·rw [if_pos c14] at H; have c14b0 : decide (x24_2 < (l0_2.length : Int)) = true := decide_eq_true c14; clear c14
       by_cases c15 : 0 ≤ x24_2
       ·rw [if_pos c15] at H; have c15b0 : decide (0 ≤ x24_2) = true := decide_eq_true c15; clear c15
        by_cases c16 : x24_2 < (l0_2.length : Int)
        ·rw [if_pos c16] at H; have c16b0 : decide (x24_2 < (l0_2.length : Int)) = true := decide_eq_true c16; clear c16; obtain ⟨ji17, hji17⟩ : ∃ j_ : Int, (shl .i64 1 (l0_0.length : Int)) = j_ := ⟨_, rfl⟩
         replace H : (if ((rd_L2 l0_2 x24_2).length : Int) = (ji17) then ((slices_Min_int_int.f k2 (rd_L2 l0_2 x24_2)).bind fun t113 => (if t113 < 0 then (some 3) else ((slices_Max_int_int.f k2 (rd_L2 l0_2 x24_2)).bind fun t114 => (if t114 ≥ (l0_1.length : Int) then (some 3) else (table_Right.l0 k2 (l0_1.length : Int) l0_2 (l0_2.length : Int) (wrap64 (x24_2 + 1)) l0_0 l0_1 l0_2))))) else (some 3)) = some r := by first | (rw [hji17] at H; exact H) | (simp only [hji17] at H ⊢; exact H)
         have hji17_ : (IntKind.i64.wrap (1 * 2 ^ min (l0_0.length : Int).toNat 64)) = ji17 := hji17; have hji17z : (l0_0.length : Int) ≤ 64 → (IntKind.i64.wrap (1 * 2 ^ (l0_0.length : Int).toNat)) = ji17 := shl_small hji17; have hji17p : (IntKind.i64.wrap (1 * 2 ^ min l0_0.length 64)) = ji17 := hji17_; have hji17q : (l0_0.length : Int) ≤ 64 → (IntKind.i64.wrap (1 * 2 ^ l0_0.length)) = ji17 := hji17z
         have hji17r : (IntKind.i64.wrap (2 ^ min l0_0.length 64)) = ji17 := by have h_ := hji17p; rw [Int.one_mul] at h_; exact h_
         have hji17s : (l0_0.length : Int) ≤ 64 → (IntKind.i64.wrap (2 ^ l0_0.length)) = ji17 := fun hle_ => by have h_ := hji17q hle_; rw [Int.one_mul] at h_; exact h_
         have hji17u : (IntKind.i64.wrap (2 ^ min (l0_0.length : Int).toNat 64)) = ji17 := by have h_ := hji17_; rw [Int.one_mul] at h_; exact h_
         have hji17v : (l0_0.length : Int) ≤ 64 → (IntKind.i64.wrap (2 ^ (l0_0.length : Int).toNat)) = ji17 := fun hle_ => by have h_ := hji17z hle_; rw [Int.one_mul] at h_; exact h_
         have hji17y : (wrap64 (1 * 2 ^ min (l0_0.length : Int).toNat 64)) = ji17 := (i64_w _).symm.trans hji17_
         have hji17x : (l0_0.length : Int) ≤ 64 → (wrap64 (1 * 2 ^ (l0_0.length : Int).toNat)) = ji17 := fun h_ => (i64_w _).symm.trans (hji17z h_)
         by_cases c18 : ((rd_L2 l0_2 x24_2).length : Int) = (ji17)
         ·rw [if_pos c18] at H; have c18b0 : (((rd_L2 l0_2 x24_2).length : Int) == (ji17)) = true := beq_iff_eq.mpr c18; have c18b1 : (((rd_L2 l0_2 x24_2).length : Int) != (ji17)) = false := bne_eq_false_iff_eq.mpr c18; clear c18; replace H := Option.bind_eq_some_iff.mp H; obtain ⟨t113, A190, H⟩ := H; replace H : (if t113 < 0 then (some 3) else ((slices_Max_int_int.f k2 (rd_L2 l0_2 x24_2)).bind fun t114 => (if t114 ≥ (l0_1.length : Int) then (some 3) else (table_Right.l0 k2 (l0_1.length : Int) l0_2 (l0_2.length : Int) (wrap64 (x24_2 + 1)) l0_0 l0_1 l0_2)))) = some r := H; have A19 := Aside0.mk A190; clear A190
          by_cases c20 : t113 < 0
          ·rw [if_pos c20] at H; have c20b0 : decide (t113 < 0) = true := decide_eq_true c20; clear c20; obtain rfl := Option.some.inj H; have p112 : 0 ≤ (x24_2 : Int) := of_decide_eq_true aO; have q112 : x24_2 < (l0_2.length : Int) := of_decide_eq_true aO; obtain ⟨ad112, A112_0, c112_0, e112, hx112_0, hl112_0, hi112_0⟩ := at_L2 HR0_2.out x24_2 p112 q112; cases e112; replace hx112_0 := (HB.out.cell (World.block_lt_of_cell? w _ hx112_0)).trans hx112_0; have HR112_0 := Aside0.mk hi112_0; have HC112_0 := Aside0.mk hl112_0; clear hi112_0 hl112_0; replace p112 := eq_true p112; replace q112 := eq_true q112; obtain ⟨hcz21_0, hcz21_1, hcz21_2, hfz21_0, hfz21_1, hfz21_2⟩ := bF3 BK110.out
           go_wp2_with (first | (go_at_call 39; (with_reducible refine (slices_Min_int_int.calls k2 _ _ (rd_L2 l0_2 x24_2) t113 _ ?s1 ?s2 A19.out).mono ?_); (case s1 => exact cB HR112_0 HB); (case s2 => exact HC112_0.out); rintro e w22 ⟨rfl, hb⟩; replace BK110 := kB BK110 hb; replace HB := hS1 HB GE110 hb; (try clear hb); (try clear hb2); (try clear hk); (try clear hi)))
           go_ret
           exact ⟨by first | rfl | (simp [errW_none, errW_some] <;> rfl) | (simp only [← hji17]; first | rfl | (simp [errW_none, errW_some] <;> rfl)) | (simp [*, errW_none, errW_some] <;> rfl), bS1 HB.out GE110.out⟩
          ·rw [if_neg c20] at H; have c20b0 : decide (t113 < 0) = false := decide_eq_false c20; clear c20; replace H := Option.bind_eq_some_iff.mp H; obtain ⟨t114, A230, H⟩ := H; replace H : (if t114 ≥ (l0_1.length : Int) then (some 3) else (table_Right.l0 k2 (l0_1.length : Int) l0_2 (l0_2.length : Int) (wrap64 (x24_2 + 1)) l0_0 l0_1 l0_2)) = some r := H; have A23 := Aside0.mk A230; clear A230
           by_cases c24 : t114 ≥ (l0_1.length : Int)
           ·rw [if_pos c24] at H; have c24b0 : decide ((l0_1.length : Int) ≤ t114) = true := decide_eq_true c24; clear c24; obtain rfl := Option.some.inj H; have p112 : 0 ≤ (x24_2 : Int) := of_decide_eq_true aO; have q112 : x24_2 < (l0_2.length : Int) := of_decide_eq_true aO; obtain ⟨ad112, A112_0, c112_0, e112, hx112_0, hl112_0, hi112_0⟩ := at_L2 HR0_2.out x24_2 p112 q112; cases e112; replace hx112_0 := (HB.out.cell (World.block_lt_of_cell? w _ hx112_0)).trans hx112_0; have HR112_0 := Aside0.mk hi112_0; have HC112_0 := Aside0.mk hl112_0; clear hi112_0 hl112_0; replace p112 := eq_true p112; replace q112 := eq_true q112; obtain ⟨hcz25_0, hcz25_1, hcz25_2, hfz25_0, hfz25_1, hfz25_2⟩ := bF3 BK110.out
            go_wp2_with (first | (go_at_call 39; (with_reducible refine (slices_Min_int_int.calls k2 _ _ (rd_L2 l0_2 x24_2) t113 _ ?s1 ?s2 A19.out).mono ?_); (case s1 => exact cB HR112_0 HB); (case s2 => exact HC112_0.out); rintro e w26 ⟨rfl, hb⟩; replace BK110 := kB BK110 hb; replace HB := hS1 HB GE110 hb; (try clear hb); (try clear hb2); (try clear hk); (try clear hi)) | (go_at_call 40; (with_reducible refine (slices_Max_int_int.calls k2 _ _ (rd_L2 l0_2 x24_2) t114 _ ?s1 ?s2 A23.out).mono ?_); (case s1 => exact cB HR112_0 HB); (case s2 => exact HC112_0.out); rintro e w27 ⟨rfl, hb⟩; replace BK110 := kB BK110 hb; replace HB := hS1 HB GE110 hb; (try clear hb); (try clear hb2); (try clear hk); (try clear hi)))
            go_ret
            exact ⟨by first | rfl | (simp [errW_none, errW_some] <;> rfl) | (simp only [← hji17]; first | rfl | (simp [errW_none, errW_some] <;> rfl)) | (simp [*, errW_none, errW_some] <;> rfl), bS1 HB.out GE110.out⟩
           ·rw [if_neg c24] at H; have c24b0 : decide ((l0_1.length : Int) ≤ t114) = false := decide_eq_false c24; clear c24; have H' := Aside0.mk H; clear H; have p112 : 0 ≤ (x24_2 : Int) := of_decide_eq_true aO; have q112 : x24_2 < (l0_2.length : Int) := of_decide_eq_true aO; obtain ⟨ad112, A112_0, c112_0, e112, hx112_0, hl112_0, hi112_0⟩ := at_L2 HR0_2.out x24_2 p112 q112; cases e112; replace hx112_0 := (HB.out.cell (World.block_lt_of_cell? w _ hx112_0)).trans hx112_0; have HR112_0 := Aside0.mk hi112_0; have HC112_0 := Aside0.mk hl112_0; clear hi112_0 hl112_0; replace p112 := eq_true p112; replace q112 := eq_true q112; obtain ⟨hcz28_0, hcz28_1, hcz28_2, hfz28_0, hfz28_1, hfz28_2⟩ := bF3 BK110.out
            go_wp2_with (first | (go_at_call 39; (with_reducible refine (slices_Min_int_int.calls k2 _ _ (rd_L2 l0_2 x24_2) t113 _ ?s1 ?s2 A19.out).mono ?_); (case s1 => exact cB HR112_0 HB); (case s2 => exact HC112_0.out); rintro e w29 ⟨rfl, hb⟩; replace BK110 := kB BK110 hb; replace HB := hS1 HB GE110 hb; (try clear hb); (try clear hb2); (try clear hk); (try clear hi)) | (go_at_call 40; (with_reducible refine (slices_Max_int_int.calls k2 _ _ (rd_L2 l0_2 x24_2) t114 _ ?s1 ?s2 A23.out).mono ?_); (case s1 => exact cB HR112_0 HB); (case s2 => exact HC112_0.out); rintro e w30 ⟨rfl, hb⟩; replace BK110 := kB BK110 hb; replace HB := hS1 HB GE110 hb; (try clear hb); (try clear hb2); (try clear hk); (try clear hi)))
            go_roundg k2
            case measure => have := HJ1.out; have := HK2.out; omega
            case rel => exact ⟨(wrap64 (x24_2 + 1)), (by first | rfl | (simp; done) | (simp [*]; done)), H', ⟨by have := HJ1.out; have := HK2.out; omega⟩, ⟨kO BK110.out⟩, ⟨bS1 HB.out GE110.out⟩⟩
         ·rw [if_neg c18] at H; have c18b0 : (((rd_L2 l0_2 x24_2).length : Int) == (ji17)) = false := beq_eq_false_iff_ne.mpr c18; have c18b1 : (((rd_L2 l0_2 x24_2).length : Int) != (ji17)) = true := bne_iff_ne.mpr c18; obtain rfl := Option.some.inj H; have p112 : 0 ≤ (x24_2 : Int) := of_decide_eq_true aO; have q112 : x24_2 < (l0_2.length : Int) := of_decide_eq_true aO; obtain ⟨ad112, A112_0, c112_0, e112, hx112_0, hl112_0, hi112_0⟩ := at_L2 HR0_2.out x24_2 p112 q112; cases e112; replace hx112_0 := (HB.out.cell (World.block_lt_of_cell? w _ hx112_0)).trans hx112_0; have HR112_0 := Aside0.mk hi112_0; have HC112_0 := Aside0.mk hl112_0; clear hi112_0 hl112_0; replace p112 := eq_true p112; replace q112 := eq_true q112; obtain ⟨hcz31_0, hcz31_1, hcz31_2, hfz31_0, hfz31_1, hfz31_2⟩ := bF3 BK110.out
          go_wp2
          go_ret
          exact ⟨by first | rfl | (simp [errW_none, errW_some] <;> rfl) | (simp only [← hji17]; first | rfl | (simp [errW_none, errW_some] <;> rfl)) | (simp [*, errW_none, errW_some] <;> rfl), bS1 HB.out GE110.out⟩
        ·rw [if_neg c16] at H; exact absurd H (by simp)
       ·rw [if_neg c15] at H; exact absurd H (by simp)
      ·rw [if_neg c14] at H; have c14b0 : decide (x24_2 < (l0_2.length : Int)) = false := decide_eq_false c14; clear c14; obtain rfl := Option.some.inj H
       go_wp2
       go_ret
       exact ⟨eW, bS1 HB.out GE110.out⟩

end Go.Proofs.Ytghfclgcgecgdaa.X

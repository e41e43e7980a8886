/- What the functions of this seat compute, and that the program's calls come to just that: written by this session's own program out of the translation; no condition. -/
import Derived.Test.YthgoonohpfoagaaX0
import Derived.Test.YthgoonohpfoagaaX2
import Derived.Test.YthgoonohpfoagaaX6
namespace Go.Proofs.Ythgoonohpfoagaa.X
open Go.RowKit Go.Proofs.YthgoonohpfoagaaW.PrintWords Go.Proofs.YthgoonohpfoagaaW.PrintLast Go.Proofs.YthgoonohpfoagaaW.PrintMore
attribute [local go_sem] max2_int min2_int max_two min_two max_three min_three max_four min_four
set_option linter.unusedVariables false
set_option linter.unusedSimpArgs false

/-! ### norm_Check: function 24 -/
mutual
def norm_Check.j0 : Nat → List Int → Bool → Int → List ByteArray → List Int → Int → Int → Option (Int)
 | 0, _, _, _, _, _, _, _ => none
 | k + 1, x3, x6, x129000, x129001, x129002, x129003, x129004 => if x129000 = 2 then (if x6 = true then (norm_Check.j1 k x3 (decide (x129004 ≥ 1)) x129000 x129001 x129002 x129003 x129004) else (norm_Check.j1 k x3 false x129000 x129001 x129002 x129003 x129004)) else (if x6 = true then (if x129004 = 0 then (some 0) else (some 3)) else (some 3))
def norm_Check.j1 : Nat → List Int → Bool → Int → List ByteArray → List Int → Int → Int → Option (Int)
 | 0, _, _, _, _, _, _, _ => none
 | k + 1, x3, x6, x129000, x129001, x129002, x129003, x129004 => norm_Check.l0 k x6 x3 (x3.length : Int) 0 x129000 x129001 x129002 x129003 x129004
def norm_Check.l0 : Nat → Bool → List Int → Int → Int → Int → List ByteArray → List Int → Int → Int → Option (Int)
 | 0, _, _, _, _, _, _, _, _, _ => none
 | k + 1, x6, x55, x56, x57, x129000, x129001, x129002, x129003, x129004 => if x57 < x56 then (if 0 ≤ x57 then (if x57 < (x55.length : Int) then (if x6 = true then (if (rd x55 x57) ≥ 0 then (norm_Check.l0 k (decide ((rd x55 x57) < x129004)) x55 x56 (wrap64 (x57 + 1)) x129000 x129001 x129002 x129003 x129004) else (norm_Check.l0 k false x55 x56 (wrap64 (x57 + 1)) x129000 x129001 x129002 x129003 x129004)) else (norm_Check.l0 k false x55 x56 (wrap64 (x57 + 1)) x129000 x129001 x129002 x129003 x129004)) else (none)) else (none)) else (if x6 = true then (some 0) else (some 3))
end
def norm_Check.f (k : Nat) (a0_0 : Int) (l0_1 : List ByteArray) (l0_2 : List Int) (a0_3 : Int) (a0_4 : Int) : Option (Int) := (some (([a0_3] : List Int) : List Int)).bind fun y129 => (if y129.length + l0_2.length < 17592186044416 then ((some (y129 ++ l0_2 : List Int)).bind fun y132 => ((chk_Total.f k y132).bind fun bt135 => (if a0_0 ≥ 0 then (if a0_0 ≤ 2 then ((glyph_Rises.f k l0_1).bind fun t137 => (if t137 = true then (if (l0_1.length : Int) = (l0_2.length : Int) then (norm_Check.j0 k y132 (bt135.2 == 0) a0_0 l0_1 l0_2 a0_3 a0_4) else (norm_Check.j0 k y132 false a0_0 l0_1 l0_2 a0_3 a0_4)) else (norm_Check.j0 k y132 false a0_0 l0_1 l0_2 a0_3 a0_4))) else (norm_Check.j0 k y132 false a0_0 l0_1 l0_2 a0_3 a0_4)) else (norm_Check.j0 k y132 false a0_0 l0_1 l0_2 a0_3 a0_4)))) else (none))
theorem norm_Check.mono_l : ∀ k, (∀ y0 y1 y2 y3 y4 y5 y6, LeO (norm_Check.j0 k y0 y1 y2 y3 y4 y5 y6) (norm_Check.j0 (k + 1) y0 y1 y2 y3 y4 y5 y6)) ∧ (∀ y0 y1 y2 y3 y4 y5 y6, LeO (norm_Check.j1 k y0 y1 y2 y3 y4 y5 y6) (norm_Check.j1 (k + 1) y0 y1 y2 y3 y4 y5 y6)) ∧ (∀ y0 y1 y2 y3 y4 y5 y6 y7 y8, LeO (norm_Check.l0 k y0 y1 y2 y3 y4 y5 y6 y7 y8) (norm_Check.l0 (k + 1) y0 y1 y2 y3 y4 y5 y6 y7 y8))
 | 0 => ⟨fun _ _ _ _ _ _ _ r h => by simp [norm_Check.j0] at h, fun _ _ _ _ _ _ _ r h => by simp [norm_Check.j1] at h, fun _ _ _ _ _ _ _ _ _ r h => by simp [norm_Check.l0] at h⟩
 | k + 1 => by
  obtain ⟨ih0, ih1, ih2⟩ := norm_Check.mono_l k; refine ⟨?_, ?_, ?_⟩
  ·intro y0 y1 y2 y3 y4 y5 y6
   unfold norm_Check.j0
   repeat' first | (with_reducible first | exact ih0 _ _ _ _ _ _ _ | exact ih1 _ _ _ _ _ _ _ | exact ih2 _ _ _ _ _ _ _ _ _ | exact chk_Total.mono _ _ | exact glyph_Rises.mono _ _ | exact lA | apply lI | refine lB ?_ fun _ => ?_) | exact lN _ | apply lI | refine lB ?_ fun _ => ?_
  ·intro y0 y1 y2 y3 y4 y5 y6
   unfold norm_Check.j1
   repeat' first | (with_reducible first | exact ih0 _ _ _ _ _ _ _ | exact ih1 _ _ _ _ _ _ _ | exact ih2 _ _ _ _ _ _ _ _ _ | exact chk_Total.mono _ _ | exact glyph_Rises.mono _ _ | exact lA | apply lI | refine lB ?_ fun _ => ?_) | exact lN _ | apply lI | refine lB ?_ fun _ => ?_
  ·intro y0 y1 y2 y3 y4 y5 y6 y7 y8
   unfold norm_Check.l0
   repeat' first | (with_reducible first | exact ih0 _ _ _ _ _ _ _ | exact ih1 _ _ _ _ _ _ _ | exact ih2 _ _ _ _ _ _ _ _ _ | exact chk_Total.mono _ _ | exact glyph_Rises.mono _ _ | exact lA | apply lI | refine lB ?_ fun _ => ?_) | exact lN _ | apply lI | refine lB ?_ fun _ => ?_
theorem norm_Check.mono : ∀ a0 a1 a2 a3 a4 k, LeO (norm_Check.f k a0 a1 a2 a3 a4) (norm_Check.f (k + 1) a0 a1 a2 a3 a4) := by
 intro a0 a1 a2 a3 a4 k; obtain ⟨ih0, ih1, ih2⟩ := norm_Check.mono_l k
 unfold norm_Check.f
 repeat' first | (with_reducible first | exact ih0 _ _ _ _ _ _ _ | exact ih1 _ _ _ _ _ _ _ | exact ih2 _ _ _ _ _ _ _ _ _ | exact chk_Total.mono _ _ | exact glyph_Rises.mono _ _ | exact lA | apply lI | refine lB ?_ fun _ => ?_) | exact lN _ | apply lI | refine lB ?_ fun _ => ?_
set_option maxHeartbeats 8000000 in
set_option maxRecDepth 100000 in
theorem norm_Check.calls (k : Nat) (a0_0 : Int) (A0_1 : Option Addr) (c0_1 : Nat) (l0_1 : List ByteArray) (A0_2 : Option Addr) (c0_2 : Nat) (l0_2 : List Int) (a0_3 : Int) (a0_4 : Int) (r : Int) (w : World) (hr0_1 : Kd.C Kd.string w A0_1 l0_1.length l0_1) (hc0_1 : l0_1.length ≤ c0_1) (hr0_2 : Kd.C (Kd.int .i64) w A0_2 l0_2.length l0_2) (hc0_2 : l0_2.length ≤ c0_2) (h : norm_Check.f k a0_0 l0_1 l0_2 a0_3 a0_4 = some r) :
  Calls Try.prog 24 #[.agg #[.int .i64 a0_0, .slice A0_1 l0_1.length c0_1, .slice A0_2 l0_2.length c0_2, .int .i64 a0_3, .int .i64 a0_4]] w fun e w' => e = .returned (.int .i64 r) ∧ Below w.heap.size w w' := by
 have hu26 := Try.underlying26; have HR0_1 := Aside0.mk hr0_1; have HC0_1 := Aside0.mk hc0_1; clear hr0_1 hc0_1; have HR0_2 := Aside0.mk hr0_2; have HC0_2 := Aside0.mk hc0_2; clear hr0_2 hc0_2; have HB := Aside0.mk (Below.refl w.heap.size w); have H : ((some (([a0_3] : List Int) : List Int)).bind fun y129 => (if y129.length + l0_2.length < 17592186044416 then ((some (y129 ++ l0_2 : List Int)).bind fun y132 => ((chk_Total.f k y132).bind fun bt135 => (if a0_0 ≥ 0 then (if a0_0 ≤ 2 then ((glyph_Rises.f k l0_1).bind fun t137 => (if t137 = true then (if (l0_1.length : Int) = (l0_2.length : Int) then (norm_Check.j0 k y132 (bt135.2 == 0) a0_0 l0_1 l0_2 a0_3 a0_4) else (norm_Check.j0 k y132 false a0_0 l0_1 l0_2 a0_3 a0_4)) else (norm_Check.j0 k y132 false a0_0 l0_1 l0_2 a0_3 a0_4))) else (norm_Check.j0 k y132 false a0_0 l0_1 l0_2 a0_3 a0_4)) else (norm_Check.j0 k y132 false a0_0 l0_1 l0_2 a0_3 a0_4)))) else (none))) = some r := h; clear h; obtain ⟨y129, hy129⟩ : ∃ y_ : List Int, y_ = (([a0_3] : List Int)) := ⟨_, rfl⟩
 replace H : (if y129.length + l0_2.length < 17592186044416 then ((some (y129 ++ l0_2 : List Int)).bind fun y132 => ((chk_Total.f k y132).bind fun bt135 => (if a0_0 ≥ 0 then (if a0_0 ≤ 2 then ((glyph_Rises.f k l0_1).bind fun t137 => (if t137 = true then (if (l0_1.length : Int) = (l0_2.length : Int) then (norm_Check.j0 k y132 (bt135.2 == 0) a0_0 l0_1 l0_2 a0_3 a0_4) else (norm_Check.j0 k y132 false a0_0 l0_1 l0_2 a0_3 a0_4)) else (norm_Check.j0 k y132 false a0_0 l0_1 l0_2 a0_3 a0_4))) else (norm_Check.j0 k y132 false a0_0 l0_1 l0_2 a0_3 a0_4)) else (norm_Check.j0 k y132 false a0_0 l0_1 l0_2 a0_3 a0_4)))) else (none)) = some r := rH hy129 H
 have Ny129 := Aside0.mk hy129; clear hy129
 by_cases c2 : y129.length + l0_2.length < 17592186044416
 ·rw [if_pos c2] at H; have LMc2 := Aside0.mk c2; clear c2; obtain ⟨y132, hy132⟩ : ∃ y_ : List Int, y_ = (y129 ++ l0_2) := ⟨_, rfl⟩
  replace H : ((chk_Total.f k y132).bind fun bt135 => (if a0_0 ≥ 0 then (if a0_0 ≤ 2 then ((glyph_Rises.f k l0_1).bind fun t137 => (if t137 = true then (if (l0_1.length : Int) = (l0_2.length : Int) then (norm_Check.j0 k y132 (bt135.2 == 0) a0_0 l0_1 l0_2 a0_3 a0_4) else (norm_Check.j0 k y132 false a0_0 l0_1 l0_2 a0_3 a0_4)) else (norm_Check.j0 k y132 false a0_0 l0_1 l0_2 a0_3 a0_4))) else (norm_Check.j0 k y132 false a0_0 l0_1 l0_2 a0_3 a0_4)) else (norm_Check.j0 k y132 false a0_0 l0_1 l0_2 a0_3 a0_4))) = some r := rH hy132 H
  have Ny132 := Aside0.mk hy132; clear hy132; replace H := Option.bind_eq_some_iff.mp H; obtain ⟨⟨t135, t136⟩, A30, H⟩ := H; replace H : (if a0_0 ≥ 0 then (if a0_0 ≤ 2 then ((glyph_Rises.f k l0_1).bind fun t137 => (if t137 = true then (if (l0_1.length : Int) = (l0_2.length : Int) then (norm_Check.j0 k y132 (t136 == 0) a0_0 l0_1 l0_2 a0_3 a0_4) else (norm_Check.j0 k y132 false a0_0 l0_1 l0_2 a0_3 a0_4)) else (norm_Check.j0 k y132 false a0_0 l0_1 l0_2 a0_3 a0_4))) else (norm_Check.j0 k y132 false a0_0 l0_1 l0_2 a0_3 a0_4)) else (norm_Check.j0 k y132 false a0_0 l0_1 l0_2 a0_3 a0_4)) = some r := H; have A3 := Aside0.mk A30; clear A30; have HC4 := Aside0.mk H; clear H
  go_enter Try.func24, Try.ntmps24
  go_upto_region 3 with (first | ((with_reducible refine gate_dst (N := 1) rfl ?_); (try (refine gate_guard (by rfl) ?_; dsimp only)); refine be_ (cs := #[.int .i64 a0_0, .slice A0_1 l0_1.length c0_1, .slice A0_2 l0_2.length c0_2, .int .i64 a0_3, .int .i64 a0_4]) (t := 26) ?_; intro gb128 hg w5 hbox hb; have BK128 := Aside0.mk (hbox); have GW128 := gE hg (bO HB.out); have GE128 := gE hg (bO HB.out); replace HB := hS0 HB hb; clear hb hbox hg; obtain ⟨hcz6_0, hcz6_1, hcz6_2, hcz6_3, hcz6_4, hfz6_0, hfz6_1, hfz6_2, hfz6_3, hfz6_4⟩ := bF5 BK128.out) | ((with_reducible refine gate_dst (N := 11) rfl ?_); (try (refine gate_guard (by rfl) ?_; dsimp only)); refine Kd.R_lit (Kd.int .i64) _ 2 ?hg (N := 11) ?hd (xs := ([a0_3] : List Int)) (inner := [.int .i64 a0_3]) (ok := fun _ => True) (okp := fun _ => True) ?hr ?hp (fun _ hk => hk) trivial (Below.refl _ _) (Nat.le_refl _) (by simp) ?_; (case hd => rfl); (case hg => rfl); (case hr => first | (go_simp; done) | (go_simp; rfl)); (case hp => exact (Reps.one (show Kd.M (Kd.int .i64) _ _ _ a0_3 [.int .i64 a0_3] from rfl) (Reps.none _ _))); intro v130 w7 ho8 hb hg_ hnew_; clear hg_ hnew_; (first | rw [← Ny129.out] at ho8 | (simp only [Int.reduceToNat] at ho8; rw [← Ny129.out] at ho8)); have HO131 := rW ho8 (bS1 HB.out GE128.out); replace BK128 := kB BK128 hb; replace HB := hS1 HB GE128 hb; clear hb ho8; obtain ⟨hcz9_0, hcz9_1, hcz9_2, hcz9_3, hcz9_4, hfz9_0, hfz9_1, hfz9_2, hfz9_3, hfz9_4⟩ := bF5 BK128.out) | ((with_reducible refine gate_builtin (b := .append) (xs := #[.tmp 11, .tmp 13]) rfl ?_); (try (refine gate_guard (by rfl) ?_; dsimp only)); at_builtin; refine Kd.R_append_rows (Kd.int .i64) (w0 := w) w.heap.size rfl (.tmp 11) (.tmp 13) 24 2 (.int .i64 0) 8 rfl Try.underlying24 info2 rfl (by decide) (by omega) v130 y129 l0_2 _ _ _ (fun _ => True) (fun _ => False) rfl rfl ?aO ?aR (fun _ _ h => h) (fun _ h => h.elim) ?aF ?aB ?aS ?aL ?_; (case aR => exact cO (Kd.C_below HR0_2.out HB.out)); (case aB => exact (bS1 HB.out GE128.out)); (case aF => exact (fun _ _ => trivial)); (case aO => exact (rO HO131.out)); (case aS => exact (below_size (bS1 HB.out GE128.out))); (case aL => have := LMc2.out; omega); intro v133 w10 ho hb hg hat; rw [← Ny132.out] at ho; replace BK128 := kG BK128 hg HO131; replace HB := Aside0.mk (hb); have HO134 := Aside0.mk (ho); clear HO131; clear ho hb hg hat; obtain ⟨Ao11, co11, eo11⟩ := Kd.R_slice HO134.out; subst eo11) | ((with_reducible refine gate_callee (f := 46) rfl ?_); refine gL_ (some 17) Try.func46 #[.slice Ao11 y132.length co11] ?_; (with_reducible refine (chk_Total.calls k _ _ y132 t135 t136 _ ?s1 ?s2 A3.out).mono ?_); (case s1 => exact cO (Kd.R_reads' HO134.out).2.2); (case s2 => exact (Kd.R_reads' HO134.out).2.1); rintro e w' ⟨rfl, ⟨nd, rfl⟩⟩; refine ⟨_, rfl, ?_⟩))
  (try simp only [Act.put, sA, sB, sC])
  go_cut [6] (fun v6 wc => ∃ (kq : Nat) (x6_3 : Bool), v6 = .bool x6_3 ∧ Aside0 (norm_Check.j0 kq y132 x6_3 a0_0 l0_1 l0_2 a0_3 a0_4 = some r) ∧ Aside0 (kq ≤ k) ∧ Aside0 (Kd.R (Kd.int .i64) 2 wc w.heap.size (fun _ => True) (.slice Ao11 y132.length co11) y132) ∧ Aside0 (wc.heap[gb128]? = some (.cells #[.int .i64 a0_0, (.slice A0_1 l0_1.length c0_1), (.slice A0_2 l0_2.length c0_2), .int .i64 a0_3, .int .i64 a0_4] 26 (0, 0))) ∧ Aside0 (Below w.heap.size w wc))
  case first =>
   have H := HC4.out; clear HC4
   by_cases c12 : a0_0 ≥ 0
   ·rw [if_pos c12] at H; have c12b0 := decide_eq_true c12; clear c12
    (first | rw [c12b0] | (simp only [i64_w, i32_w]; rw [c12b0]) | skip)
    by_cases c13 : a0_0 ≤ 2
    ·rw [if_pos c13] at H; have c13b0 := decide_eq_true c13; clear c13; replace H := Option.bind_eq_some_iff.mp H; obtain ⟨t137, A140, H⟩ := H; replace H : (if t137 = true then (if (l0_1.length : Int) = (l0_2.length : Int) then (norm_Check.j0 k y132 (t136 == 0) a0_0 l0_1 l0_2 a0_3 a0_4) else (norm_Check.j0 k y132 false a0_0 l0_1 l0_2 a0_3 a0_4)) else (norm_Check.j0 k y132 false a0_0 l0_1 l0_2 a0_3 a0_4)) = some r := H; have A14 := Aside0.mk A140; clear A140
     by_cases c15 : t137 = true
     ·subst c15
      have H1 : (if (l0_1.length : Int) = (l0_2.length : Int) then (norm_Check.j0 k y132 (t136 == 0) a0_0 l0_1 l0_2 a0_3 a0_4) else (norm_Check.j0 k y132 false a0_0 l0_1 l0_2 a0_3 a0_4)) = some r := by rw [if_pos rfl] at H; exact H
      clear H; have H := H1; clear H1
      by_cases c16 : (l0_1.length : Int) = (l0_2.length : Int)
      ·rw [if_pos c16] at H; obtain ⟨c16b0, c16b1⟩ := bq c16
       have c16b2 : (l0_1.length == l0_2.length) = true := by first | simpa using c16 | (simp at c16 ⊢; omega)
       clear c16; have H' := Aside0.mk H; clear H; obtain ⟨hcz17_0, hcz17_1, hcz17_2, hcz17_3, hcz17_4, hfz17_0, hfz17_1, hfz17_2, hfz17_3, hfz17_4⟩ := bF5 BK128.out
       go_wp2_with (first | (go_at_call 47; (with_reducible refine (glyph_Rises.calls k _ _ l0_1 true _ ?s1 ?s2 A14.out).mono ?_); (case s1 => exact cB HR0_1 HB); (case s2 => exact HC0_1.out); rintro e w18 ⟨rfl, hb⟩; replace HO134 := rB HO134 hb; replace BK128 := kB BK128 hb; replace HB := hS1 HB GE128 hb; (try clear hb); (try clear hb2); (try clear hk); (try clear hi); obtain ⟨hcz19_0, hcz19_1, hcz19_2, hcz19_3, hcz19_4, hfz19_0, hfz19_1, hfz19_2, hfz19_3, hfz19_4⟩ := bF5 BK128.out))
       go_meet
       case rel => exact ⟨_, ((t136 == 0)), sI, H', ⟨by first | omega | exact Nat.le_refl _⟩, ⟨rO HO134.out⟩, ⟨kO BK128.out⟩, ⟨bS1 HB.out GE128.out⟩⟩
      ·rw [if_neg c16] at H; obtain ⟨c16b0, c16b1⟩ := bn c16
       have c16b2 : (l0_1.length == l0_2.length) = false := by first | simpa using c16 | (simp at c16 ⊢; omega)
       have H' := Aside0.mk H; clear H; obtain ⟨hcz20_0, hcz20_1, hcz20_2, hcz20_3, hcz20_4, hfz20_0, hfz20_1, hfz20_2, hfz20_3, hfz20_4⟩ := bF5 BK128.out
       go_wp2_with (first | (go_at_call 47; (with_reducible refine (glyph_Rises.calls k _ _ l0_1 true _ ?s1 ?s2 A14.out).mono ?_); (case s1 => exact cB HR0_1 HB); (case s2 => exact HC0_1.out); rintro e w21 ⟨rfl, hb⟩; replace HO134 := rB HO134 hb; replace BK128 := kB BK128 hb; replace HB := hS1 HB GE128 hb; (try clear hb); (try clear hb2); (try clear hk); (try clear hi); obtain ⟨hcz22_0, hcz22_1, hcz22_2, hcz22_3, hcz22_4, hfz22_0, hfz22_1, hfz22_2, hfz22_3, hfz22_4⟩ := bF5 BK128.out))
       go_meet
       case rel => exact ⟨_, (false), sI, H', ⟨by first | omega | exact Nat.le_refl _⟩, ⟨rO HO134.out⟩, ⟨kO BK128.out⟩, ⟨bS1 HB.out GE128.out⟩⟩
     ·replace c15 := Bool.eq_false_iff.mpr c15; subst c15
      have H1 : (norm_Check.j0 k y132 false a0_0 l0_1 l0_2 a0_3 a0_4) = some r := by rw [if_neg (show ¬ (false = true) by decide)] at H; exact H
      clear H; have H := H1; clear H1; have H' := Aside0.mk H; clear H; obtain ⟨hcz23_0, hcz23_1, hcz23_2, hcz23_3, hcz23_4, hfz23_0, hfz23_1, hfz23_2, hfz23_3, hfz23_4⟩ := bF5 BK128.out
      go_wp2_with (first | (go_at_call 47; (with_reducible refine (glyph_Rises.calls k _ _ l0_1 false _ ?s1 ?s2 A14.out).mono ?_); (case s1 => exact cB HR0_1 HB); (case s2 => exact HC0_1.out); rintro e w24 ⟨rfl, hb⟩; replace HO134 := rB HO134 hb; replace BK128 := kB BK128 hb; replace HB := hS1 HB GE128 hb; (try clear hb); (try clear hb2); (try clear hk); (try clear hi)))
      go_meet
      case rel => exact ⟨_, (false), sI, H', ⟨by first | omega | exact Nat.le_refl _⟩, ⟨rO HO134.out⟩, ⟨kO BK128.out⟩, ⟨bS1 HB.out GE128.out⟩⟩
    ·rw [if_neg c13] at H; have c13b0 := decide_eq_false c13; clear c13; have H' := Aside0.mk H; clear H; obtain ⟨hcz25_0, hcz25_1, hcz25_2, hcz25_3, hcz25_4, hfz25_0, hfz25_1, hfz25_2, hfz25_3, hfz25_4⟩ := bF5 BK128.out
     go_wp2
     go_meet
     case rel => exact ⟨_, (false), sI, H', ⟨by first | omega | exact Nat.le_refl _⟩, ⟨rO HO134.out⟩, ⟨kO BK128.out⟩, ⟨bS1 HB.out GE128.out⟩⟩
   ·rw [if_neg c12] at H; have c12b0 := decide_eq_false c12; clear c12
    (first | rw [c12b0] | (simp only [i64_w, i32_w]; rw [c12b0]) | skip)
    have H' := Aside0.mk H; clear H; obtain ⟨hcz26_0, hcz26_1, hcz26_2, hcz26_3, hcz26_4, hfz26_0, hfz26_1, hfz26_2, hfz26_3, hfz26_4⟩ := bF5 BK128.out
    go_wp2
    go_meet
    case rel => exact ⟨_, (false), sI, H', ⟨by first | omega | exact Nat.le_refl _⟩, ⟨rO HO134.out⟩, ⟨kO BK128.out⟩, ⟨bS1 HB.out GE128.out⟩⟩
  case rest =>
   clear HC4
   try clear c1
   try clear c2
   try clear p2
   try clear c4
   try clear c12
   try clear c12b0
   try clear c13
   try clear c13b0
   try clear c15
   try clear c16
   try clear c16b0
   try clear c16b1
   try clear c16b2
   try clear c24
   try clear hcz17_0
   try clear hcz17_1
   try clear hcz17_2
   try clear hcz17_3
   try clear hcz17_4
   try clear hcz19_0
   try clear hcz19_1
   try clear hcz19_2
   try clear hcz19_3
   try clear hcz19_4
   try clear hcz20_0
   try clear hcz20_1
   try clear hcz20_2
   try clear hcz20_3
   try clear hcz20_4
   try clear hcz22_0
   try clear hcz22_1
   try clear hcz22_2
   try clear hcz22_3
   try clear hcz22_4
   try clear hcz23_0
   try clear hcz23_1
   try clear hcz23_2
   try clear hcz23_3
   try clear hcz23_4
   try clear hcz25_0
   try clear hcz25_1
   try clear hcz25_2
   try clear hcz25_3
   try clear hcz25_4
   try clear hcz26_0
   try clear hcz26_1
   try clear hcz26_2
   try clear hcz26_3
   try clear hcz26_4
   try clear hcz6_0
   try clear hcz6_1
   try clear hcz6_2
   try clear hcz6_3
   try clear hcz6_4
   try clear hcz9_0
   try clear hcz9_1
   try clear hcz9_2
   try clear hcz9_3
   try clear hcz9_4
   try clear hfz17_0
   try clear hfz17_1
   try clear hfz17_2
   try clear hfz17_3
   try clear hfz17_4
   try clear hfz19_0
   try clear hfz19_1
   try clear hfz19_2
   try clear hfz19_3
   try clear hfz19_4
   try clear hfz20_0
   try clear hfz20_1
   try clear hfz20_2
   try clear hfz20_3
   try clear hfz20_4
   try clear hfz22_0
   try clear hfz22_1
   try clear hfz22_2
   try clear hfz22_3
   try clear hfz22_4
   try clear hfz23_0
   try clear hfz23_1
   try clear hfz23_2
   try clear hfz23_3
   try clear hfz23_4
   try clear hfz25_0
   try clear hfz25_1
   try clear hfz25_2
   try clear hfz25_3
   try clear hfz25_4
   try clear hfz26_0
   try clear hfz26_1
   try clear hfz26_2
   try clear hfz26_3
   try clear hfz26_4
   try clear hfz6_0
   try clear hfz6_1
   try clear hfz6_2
   try clear hfz6_3
   try clear hfz6_4
   try clear hfz9_0
   try clear hfz9_1
   try clear hfz9_2
   try clear hfz9_3
   try clear hfz9_4
   obtain ⟨kq, x6_3, rfl, HA, HJ3, HO_3, BK128, HB⟩ := hcut; cases kq with
   | zero => exact absurd HA.out (by simp [norm_Check.j0])
   | succ kj3 =>
    have H := HA.out; clear HA; simp only [norm_Check.j0] at H
    by_cases c27 : a0_0 = 2
    ·rw [if_pos c27] at H; obtain ⟨c27b0, c27b1⟩ := bq c27; clear c27; have HC28 := Aside0.mk H; clear H; obtain ⟨hcz29_0, hcz29_1, hcz29_2, hcz29_3, hcz29_4, hfz29_0, hfz29_1, hfz29_2, hfz29_3, hfz29_4⟩ := bF5 BK128.out
     go_upto_region 5 with (fail)
     go_cut [6] (fun v6 wc => ∃ (kq : Nat) (x6_27 : Bool), v6 = .bool x6_27 ∧ Aside0 (norm_Check.j1 kq y132 x6_27 a0_0 l0_1 l0_2 a0_3 a0_4 = some r) ∧ Aside0 (kq ≤ kj3) ∧ Aside0 (Kd.R (Kd.int .i64) 2 wc w.heap.size (fun _ => True) (.slice Ao11 y132.length co11) y132) ∧ Aside0 (wc.heap[gb128]? = some (.cells #[.int .i64 a0_0, (.slice A0_1 l0_1.length c0_1), (.slice A0_2 l0_2.length c0_2), .int .i64 a0_3, .int .i64 a0_4] 26 (0, 0))) ∧ Aside0 (Below w.heap.size w wc))
     case first =>
      have H := HC28.out; clear HC28
      by_cases c30 : x6_3 = true
      ·subst c30
       have H1 : (norm_Check.j1 kj3 y132 (decide (a0_4 ≥ 1)) a0_0 l0_1 l0_2 a0_3 a0_4) = some r := by rw [if_pos rfl] at H; exact H
       clear H; have H := H1; clear H1; have H' := Aside0.mk H; clear H; obtain ⟨hcz31_0, hcz31_1, hcz31_2, hcz31_3, hcz31_4, hfz31_0, hfz31_1, hfz31_2, hfz31_3, hfz31_4⟩ := bF5 BK128.out
       go_wp2
       go_meet
       case rel => exact ⟨_, (decide (a0_4 ≥ 1)), sI, H', ⟨by have := HJ3.out; first | omega | exact Nat.le_refl _⟩, ⟨rO HO_3.out⟩, ⟨kO BK128.out⟩, ⟨bS1 HB.out GE128.out⟩⟩
      ·replace c30 := Bool.eq_false_iff.mpr c30; subst c30
       have H1 : (norm_Check.j1 kj3 y132 false a0_0 l0_1 l0_2 a0_3 a0_4) = some r := by rw [if_neg (show ¬ (false = true) by decide)] at H; exact H
       clear H; have H := H1; clear H1; have H' := Aside0.mk H; clear H
       go_wp2
       go_meet
       case rel => exact ⟨_, (false), sI, H', ⟨by have := HJ3.out; first | omega | exact Nat.le_refl _⟩, ⟨rO HO_3.out⟩, ⟨kO BK128.out⟩, ⟨bS1 HB.out GE128.out⟩⟩
     case rest =>
      clear HC28
      try clear c1
      try clear c2
      try clear p2
      try clear c3
      try clear c4
      try clear c12
      try clear c12b0
      try clear c13
      try clear c13b0
      try clear c15
      try clear c16
      try clear c16b0
      try clear c16b1
      try clear c16b2
      try clear c24
      try clear c27
      try clear c27b0
      try clear c27b1
      try clear c30
      try clear hcz17_0
      try clear hcz17_1
      try clear hcz17_2
      try clear hcz17_3
      try clear hcz17_4
      try clear hcz19_0
      try clear hcz19_1
      try clear hcz19_2
      try clear hcz19_3
      try clear hcz19_4
      try clear hcz20_0
      try clear hcz20_1
      try clear hcz20_2
      try clear hcz20_3
      try clear hcz20_4
      try clear hcz22_0
      try clear hcz22_1
      try clear hcz22_2
      try clear hcz22_3
      try clear hcz22_4
      try clear hcz23_0
      try clear hcz23_1
      try clear hcz23_2
      try clear hcz23_3
      try clear hcz23_4
      try clear hcz25_0
      try clear hcz25_1
      try clear hcz25_2
      try clear hcz25_3
      try clear hcz25_4
      try clear hcz26_0
      try clear hcz26_1
      try clear hcz26_2
      try clear hcz26_3
      try clear hcz26_4
      try clear hcz29_0
      try clear hcz29_1
      try clear hcz29_2
      try clear hcz29_3
      try clear hcz29_4
      try clear hcz31_0
      try clear hcz31_1
      try clear hcz31_2
      try clear hcz31_3
      try clear hcz31_4
      try clear hcz6_0
      try clear hcz6_1
      try clear hcz6_2
      try clear hcz6_3
      try clear hcz6_4
      try clear hcz9_0
      try clear hcz9_1
      try clear hcz9_2
      try clear hcz9_3
      try clear hcz9_4
      try clear hfz17_0
      try clear hfz17_1
      try clear hfz17_2
      try clear hfz17_3
      try clear hfz17_4
      try clear hfz19_0
      try clear hfz19_1
      try clear hfz19_2
      try clear hfz19_3
      try clear hfz19_4
      try clear hfz20_0
      try clear hfz20_1
      try clear hfz20_2
      try clear hfz20_3
      try clear hfz20_4
      try clear hfz22_0
      try clear hfz22_1
      try clear hfz22_2
      try clear hfz22_3
      try clear hfz22_4
      try clear hfz23_0
      try clear hfz23_1
      try clear hfz23_2
      try clear hfz23_3
      try clear hfz23_4
      try clear hfz25_0
      try clear hfz25_1
      try clear hfz25_2
      try clear hfz25_3
      try clear hfz25_4
      try clear hfz26_0
      try clear hfz26_1
      try clear hfz26_2
      try clear hfz26_3
      try clear hfz26_4
      try clear hfz29_0
      try clear hfz29_1
      try clear hfz29_2
      try clear hfz29_3
      try clear hfz29_4
      try clear hfz31_0
      try clear hfz31_1
      try clear hfz31_2
      try clear hfz31_3
      try clear hfz31_4
      try clear hfz6_0
      try clear hfz6_1
      try clear hfz6_2
      try clear hfz6_3
      try clear hfz6_4
      try clear hfz9_0
      try clear hfz9_1
      try clear hfz9_2
      try clear hfz9_3
      try clear hfz9_4
      try clear p2
      obtain ⟨kq, x6_27, rfl, HA, HJ27, HO_3, BK128, HB⟩ := hcut; cases kq with
      | zero => exact absurd HA.out (by simp [norm_Check.j1])
      | succ kj27 =>
       have H := HA.out; clear HA; simp only [norm_Check.j1] at H; have H' := Aside0.mk H; clear H
       go_wp2
       go_loopg [6, 57] kj27 (fun kq v6 v57 w' => ∃ (x6_3 : Bool) (x57_3 : Int), v6 = .bool x6_3 ∧ v57 = .int .i64 x57_3 ∧ Aside0 (norm_Check.l0 kq x6_3 y132 (y132.length : Int) x57_3 a0_0 l0_1 l0_2 a0_3 a0_4 = some r) ∧ Aside0 (kq ≤ kj27) ∧ Aside0 (Kd.R (Kd.int .i64) 2 w' w.heap.size (fun _ => True) (.slice Ao11 y132.length co11) y132) ∧ Aside0 (w'.heap[gb128]? = some (.cells #[.int .i64 a0_0, (.slice A0_1 l0_1.length c0_1), (.slice A0_2 l0_2.length c0_2), .int .i64 a0_3, .int .i64 a0_4] 26 (0, 0))) ∧ Aside0 (Below w.heap.size w w'))
       case atStart => exact ⟨(x6_27), (0), sI, sI, H', ⟨Nat.le_refl _⟩, ⟨rO HO_3.out⟩, ⟨kO BK128.out⟩, ⟨bS1 HB.out GE128.out⟩⟩
       case round =>
        clear H'
        try clear c1
        try clear c2
        try clear p2
        try clear c3
        try clear c4
        try clear c12
        try clear c12b0
        try clear c13
        try clear c13b0
        try clear c15
        try clear c16
        try clear c16b0
        try clear c16b1
        try clear c16b2
        try clear c24
        try clear c27
        try clear c27b0
        try clear c27b1
        try clear c30
        try clear hcz17_0
        try clear hcz17_1
        try clear hcz17_2
        try clear hcz17_3
        try clear hcz17_4
        try clear hcz19_0
        try clear hcz19_1
        try clear hcz19_2
        try clear hcz19_3
        try clear hcz19_4
        try clear hcz20_0
        try clear hcz20_1
        try clear hcz20_2
        try clear hcz20_3
        try clear hcz20_4
        try clear hcz22_0
        try clear hcz22_1
        try clear hcz22_2
        try clear hcz22_3
        try clear hcz22_4
        try clear hcz23_0
        try clear hcz23_1
        try clear hcz23_2
        try clear hcz23_3
        try clear hcz23_4
        try clear hcz25_0
        try clear hcz25_1
        try clear hcz25_2
        try clear hcz25_3
        try clear hcz25_4
        try clear hcz26_0
        try clear hcz26_1
        try clear hcz26_2
        try clear hcz26_3
        try clear hcz26_4
        try clear hcz29_0
        try clear hcz29_1
        try clear hcz29_2
        try clear hcz29_3
        try clear hcz29_4
        try clear hcz31_0
        try clear hcz31_1
        try clear hcz31_2
        try clear hcz31_3
        try clear hcz31_4
        try clear hcz6_0
        try clear hcz6_1
        try clear hcz6_2
        try clear hcz6_3
        try clear hcz6_4
        try clear hcz9_0
        try clear hcz9_1
        try clear hcz9_2
        try clear hcz9_3
        try clear hcz9_4
        try clear hfz17_0
        try clear hfz17_1
        try clear hfz17_2
        try clear hfz17_3
        try clear hfz17_4
        try clear hfz19_0
        try clear hfz19_1
        try clear hfz19_2
        try clear hfz19_3
        try clear hfz19_4
        try clear hfz20_0
        try clear hfz20_1
        try clear hfz20_2
        try clear hfz20_3
        try clear hfz20_4
        try clear hfz22_0
        try clear hfz22_1
        try clear hfz22_2
        try clear hfz22_3
        try clear hfz22_4
        try clear hfz23_0
        try clear hfz23_1
        try clear hfz23_2
        try clear hfz23_3
        try clear hfz23_4
        try clear hfz25_0
        try clear hfz25_1
        try clear hfz25_2
        try clear hfz25_3
        try clear hfz25_4
        try clear hfz26_0
        try clear hfz26_1
        try clear hfz26_2
        try clear hfz26_3
        try clear hfz26_4
        try clear hfz29_0
        try clear hfz29_1
        try clear hfz29_2
        try clear hfz29_3
        try clear hfz29_4
        try clear hfz31_0
        try clear hfz31_1
        try clear hfz31_2
        try clear hfz31_3
        try clear hfz31_4
        try clear hfz6_0
        try clear hfz6_1
        try clear hfz6_2
        try clear hfz6_3
        try clear hfz6_4
        try clear hfz9_0
        try clear hfz9_1
        try clear hfz9_2
        try clear hfz9_3
        try clear hfz9_4
        try clear p2
        obtain ⟨x6_3, x57_3, rfl, rfl, HA, HK3, HO_55, BK128, HB⟩ := hrel; cases gk with
        | zero => exact absurd HA.out (by simp [norm_Check.l0])
        | succ k3 =>
         have H := HA.out; clear HA; simp only [norm_Check.l0] at H
         by_cases c32 : x57_3 < (y132.length : Int)
         ·rw [if_pos c32] at H; have c32b0 := decide_eq_true c32; clear c32
          by_cases c33 : 0 ≤ x57_3
          ·rw [if_pos c33] at H; have c33b0 := decide_eq_true c33; clear c33
           by_cases c34 : x57_3 < (y132.length : Int)
           ·rw [if_pos c34] at H; have c34b0 := decide_eq_true c34; clear c34
            by_cases c35 : x6_3 = true
            ·subst c35
             have H1 : (if (rd y132 x57_3) ≥ 0 then (norm_Check.l0 k3 (decide ((rd y132 x57_3) < a0_4)) y132 (y132.length : Int) (wrap64 (x57_3 + 1)) a0_0 l0_1 l0_2 a0_3 a0_4) else (norm_Check.l0 k3 false y132 (y132.length : Int) (wrap64 (x57_3 + 1)) a0_0 l0_1 l0_2 a0_3 a0_4)) = some r := by rw [if_pos rfl] at H; exact H
             clear H; have H := H1; clear H1
             by_cases c36 : (rd y132 x57_3) ≥ 0
             ·rw [if_pos c36] at H; have c36b0 := decide_eq_true c36; clear c36; have H' := Aside0.mk H; clear H; have p138 : 0 ≤ (x57_3 : Int) := of_decide_eq_true aO; have q138 : x57_3 < (y132.length : Int) := of_decide_eq_true aO; obtain ⟨ad138, e138, hx138_0⟩ := Kd.at_int (Kd.R_reads' HO_55.out).2.2 x57_3 p138 q138; cases e138; replace p138 := eq_true p138; replace q138 := eq_true q138; obtain ⟨hcz37_0, hcz37_1, hcz37_2, hcz37_3, hcz37_4, hfz37_0, hfz37_1, hfz37_2, hfz37_3, hfz37_4⟩ := bF5 BK128.out
              go_wp2
              go_roundg k3
              case measure => have := HJ3.out; have := HJ27.out; have := HK3.out; omega
              case rel => exact ⟨(decide ((rd y132 x57_3) < a0_4)), (wrap64 (x57_3 + 1)), sI, sI, H', ⟨by have := HJ3.out; have := HJ27.out; have := HK3.out; omega⟩, ⟨rO HO_55.out⟩, ⟨kO BK128.out⟩, ⟨bS1 HB.out GE128.out⟩⟩
             ·rw [if_neg c36] at H; have c36b0 := decide_eq_false c36; clear c36; have H' := Aside0.mk H; clear H; have p138 : 0 ≤ (x57_3 : Int) := of_decide_eq_true aO; have q138 : x57_3 < (y132.length : Int) := of_decide_eq_true aO; obtain ⟨ad138, e138, hx138_0⟩ := Kd.at_int (Kd.R_reads' HO_55.out).2.2 x57_3 p138 q138; cases e138; replace p138 := eq_true p138; replace q138 := eq_true q138
              go_wp2
              go_roundg k3
              case measure => have := HJ3.out; have := HJ27.out; have := HK3.out; omega
              case rel => exact ⟨(false), (wrap64 (x57_3 + 1)), sI, sI, H', ⟨by have := HJ3.out; have := HJ27.out; have := HK3.out; omega⟩, ⟨rO HO_55.out⟩, ⟨kO BK128.out⟩, ⟨bS1 HB.out GE128.out⟩⟩
            ·replace c35 := Bool.eq_false_iff.mpr c35; subst c35
             have H1 : (norm_Check.l0 k3 false y132 (y132.length : Int) (wrap64 (x57_3 + 1)) a0_0 l0_1 l0_2 a0_3 a0_4) = some r := by rw [if_neg (show ¬ (false = true) by decide)] at H; exact H
             clear H; have H := H1; clear H1; have H' := Aside0.mk H; clear H; have p138 : 0 ≤ (x57_3 : Int) := of_decide_eq_true aO; have q138 : x57_3 < (y132.length : Int) := of_decide_eq_true aO; obtain ⟨ad138, e138, hx138_0⟩ := Kd.at_int (Kd.R_reads' HO_55.out).2.2 x57_3 p138 q138; cases e138; replace p138 := eq_true p138; replace q138 := eq_true q138
             go_wp2
             go_roundg k3
             case measure => have := HJ3.out; have := HJ27.out; have := HK3.out; omega
             case rel => exact ⟨(false), (wrap64 (x57_3 + 1)), sI, sI, H', ⟨by have := HJ3.out; have := HJ27.out; have := HK3.out; omega⟩, ⟨rO HO_55.out⟩, ⟨kO BK128.out⟩, ⟨bS1 HB.out GE128.out⟩⟩
           ·rw [if_neg c34] at H; exact absurd H (by simp)
          ·rw [if_neg c33] at H; exact absurd H (by simp)
         ·rw [if_neg c32] at H; have c32b0 := decide_eq_false c32; clear c32
          by_cases c38 : x6_3 = true
          ·subst c38
           have H1 : (some 0) = some r := by rw [if_pos rfl] at H; exact H
           clear H; have H := H1; clear H1; obtain rfl := Option.some.inj H
           go_wp2
           go_ret
           exact ⟨eW, bS1 HB.out GE128.out⟩
          ·replace c38 := Bool.eq_false_iff.mpr c38; subst c38
           have H1 : (some 3) = some r := by rw [if_neg (show ¬ (false = true) by decide)] at H; exact H
           clear H; have H := H1; clear H1; obtain rfl := Option.some.inj H
           go_wp2
           go_ret
           exact ⟨eW, bS1 HB.out GE128.out⟩
    ·rw [if_neg c27] at H; obtain ⟨c27b0, c27b1⟩ := bn c27
     by_cases c39 : x6_3 = true
     ·subst c39
      have H1 : (if a0_4 = 0 then (some 0) else (some 3)) = some r := by rw [if_pos rfl] at H; exact H
      clear H; have H := H1; clear H1
      by_cases c40 : a0_4 = 0
      ·rw [if_pos c40] at H; obtain ⟨c40b0, c40b1⟩ := bq c40; clear c40; obtain rfl := Option.some.inj H; obtain ⟨hcz41_0, hcz41_1, hcz41_2, hcz41_3, hcz41_4, hfz41_0, hfz41_1, hfz41_2, hfz41_3, hfz41_4⟩ := bF5 BK128.out
       go_wp2
       go_ret
       exact ⟨eW, bS1 HB.out GE128.out⟩
      ·rw [if_neg c40] at H; obtain ⟨c40b0, c40b1⟩ := bn c40; obtain rfl := Option.some.inj H; obtain ⟨hcz42_0, hcz42_1, hcz42_2, hcz42_3, hcz42_4, hfz42_0, hfz42_1, hfz42_2, hfz42_3, hfz42_4⟩ := bF5 BK128.out
       go_wp2
       go_ret
       exact ⟨eW, bS1 HB.out GE128.out⟩
     ·replace c39 := Bool.eq_false_iff.mpr c39; subst c39
      have H1 : (some 3) = some r := by rw [if_neg (show ¬ (false = true) by decide)] at H; exact H
      clear H; have H := H1; clear H1; obtain rfl := Option.some.inj H; obtain ⟨hcz43_0, hcz43_1, hcz43_2, hcz43_3, hcz43_4, hfz43_0, hfz43_1, hfz43_2, hfz43_3, hfz43_4⟩ := bF5 BK128.out
      go_wp2
      go_ret
      exact ⟨eW, bS1 HB.out GE128.out⟩
 ·rw [if_neg c2] at H; exact absurd H (by simp)

end Go.Proofs.Ythgoonohpfoagaa.X

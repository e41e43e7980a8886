/- What the functions of this seat compute, and that the program's calls come to just that: written by this session's own program out of the translation; no condition. -/
import Derived.Test.YthgoonohpfoagaaX0
import Derived.Test.YthgoonohpfoagaaX1
namespace Go.Proofs.Ythgoonohpfoagaa.X
open Go.RowKit Go.Proofs.YthgoonohpfoagaaW.PrintWords Go.Proofs.YthgoonohpfoagaaW.PrintLast Go.Proofs.YthgoonohpfoagaaW.PrintMore
attribute [local go_sem] max2_int min2_int max_two min_two max_three min_three max_four min_four
set_option linter.unusedVariables false
set_option linter.unusedSimpArgs false

/-! ### tabardlaw14_negated: function 15 -/
mutual
def tabardlaw14_negated.j0 : Nat → Bool → Int → List ByteArray → List Int → Int → Int → Int → List ByteArray → List Int → Int → Int → Option (Int × List ByteArray × List Int × Int × Int × Bool)
 | 0, _, _, _, _, _, _, _, _, _, _, _ => none
 | k + 1, x16, x210000, x210001, x210002, x210003, x210004, x221000, x221001, x221002, x221003, x221004 => if x16 = true then (some (x221000, x221001, x221002, x221003, x221004, false)) else (tabardlaw14_negated.l0 k x210002 (x210002.length : Int) 0 x210000 x210001 x210002 x210003 x210004 x221000 x221001 x221002 x221003 x221004)
def tabardlaw14_negated.l0 : Nat → List Int → Int → Int → Int → List ByteArray → List Int → Int → Int → Int → List ByteArray → List Int → Int → Int → Option (Int × List ByteArray × List Int × Int × Int × Bool)
 | 0, _, _, _, _, _, _, _, _, _, _, _, _, _ => none
 | k + 1, x19, x20, x21, x210000, x210001, x210002, x210003, x210004, x221000, x221001, x221002, x221003, x221004 => if x21 < x20 then (if 0 ≤ x21 then (if x21 < (x19.length : Int) then (if x21 < (x221002.length : Int) then (tabardlaw14_negated.l0 k x19 x20 (wrap64 (x21 + 1)) x210000 x210001 x210002 x210003 x210004 x221000 x221001 (x221002.set (x21 : Int).toNat (wrap64 (-(rd x19 x21)))) x221003 x221004) else (none)) else (none)) else (none)) else (some (x221000, x221001, x221002, wrap64 (-(wrap64 (x210003 + 1))), x221004, true))
end
def tabardlaw14_negated.f (k : Nat) (a0_0 : Int) (l0_1 : List ByteArray) (l0_2 : List Int) (a0_3 : Int) (a0_4 : Int) : Option (Int × List ByteArray × List Int × Int × Int × Bool) := (tabardlaw14_copied.f a0_0 l0_1 l0_2 a0_3 a0_4).bind fun bt211 => (if a0_3 = 9223372036854775807 then (tabardlaw14_negated.j0 k true a0_0 l0_1 l0_2 a0_3 a0_4 bt211.1 bt211.2.1 bt211.2.2.1 bt211.2.2.2.1 bt211.2.2.2.2) else (tabardlaw14_negated.j0 k (decide (a0_3 < (-9223372036854775806))) a0_0 l0_1 l0_2 a0_3 a0_4 bt211.1 bt211.2.1 bt211.2.2.1 bt211.2.2.2.1 bt211.2.2.2.2))
theorem tabardlaw14_negated.mono_l : ∀ k, (∀ y0 y1 y2 y3 y4 y5 y6 y7 y8 y9 y10, LeO (tabardlaw14_negated.j0 k y0 y1 y2 y3 y4 y5 y6 y7 y8 y9 y10) (tabardlaw14_negated.j0 (k + 1) y0 y1 y2 y3 y4 y5 y6 y7 y8 y9 y10)) ∧ (∀ y0 y1 y2 y3 y4 y5 y6 y7 y8 y9 y10 y11 y12, LeO (tabardlaw14_negated.l0 k y0 y1 y2 y3 y4 y5 y6 y7 y8 y9 y10 y11 y12) (tabardlaw14_negated.l0 (k + 1) y0 y1 y2 y3 y4 y5 y6 y7 y8 y9 y10 y11 y12))
 | 0 => ⟨fun _ _ _ _ _ _ _ _ _ _ _ r h => by simp [tabardlaw14_negated.j0] at h, fun _ _ _ _ _ _ _ _ _ _ _ _ _ r h => by simp [tabardlaw14_negated.l0] at h⟩
 | k + 1 => by
  obtain ⟨ih0, ih1⟩ := tabardlaw14_negated.mono_l k; refine ⟨?_, ?_⟩
  ·intro y0 y1 y2 y3 y4 y5 y6 y7 y8 y9 y10
   unfold tabardlaw14_negated.j0
   repeat' first | (with_reducible first | exact ih0 _ _ _ _ _ _ _ _ _ _ _ | exact ih1 _ _ _ _ _ _ _ _ _ _ _ _ _ | exact lA | apply lI | refine lB ?_ fun _ => ?_) | exact lN _ | apply lI | refine lB ?_ fun _ => ?_
  ·intro y0 y1 y2 y3 y4 y5 y6 y7 y8 y9 y10 y11 y12
   unfold tabardlaw14_negated.l0
   repeat' first | (with_reducible first | exact ih0 _ _ _ _ _ _ _ _ _ _ _ | exact ih1 _ _ _ _ _ _ _ _ _ _ _ _ _ | exact lA | apply lI | refine lB ?_ fun _ => ?_) | exact lN _ | apply lI | refine lB ?_ fun _ => ?_
theorem tabardlaw14_negated.mono : ∀ a0 a1 a2 a3 a4 k, LeO (tabardlaw14_negated.f k a0 a1 a2 a3 a4) (tabardlaw14_negated.f (k + 1) a0 a1 a2 a3 a4) := by
 intro a0 a1 a2 a3 a4 k; obtain ⟨ih0, ih1⟩ := tabardlaw14_negated.mono_l k
 unfold tabardlaw14_negated.f
 repeat' first | (with_reducible first | exact ih0 _ _ _ _ _ _ _ _ _ _ _ | exact ih1 _ _ _ _ _ _ _ _ _ _ _ _ _ | exact lA | apply lI | refine lB ?_ fun _ => ?_) | exact lN _ | apply lI | refine lB ?_ fun _ => ?_
set_option maxHeartbeats 8000000 in
set_option maxRecDepth 100000 in
theorem tabardlaw14_negated.calls (k : Nat) (a0_0 : Int) (A0_1 : Option Addr) (c0_1 : Nat) (l0_1 : List ByteArray) (A0_2 : Option Addr) (c0_2 : Nat) (l0_2 : List Int) (a0_3 : Int) (a0_4 : Int) (r1 : Int) (r2 : List ByteArray) (r3 : List Int) (r4 : Int) (r5 : Int) (r6 : Bool) (w : World) (hr0_1 : Kd.C Kd.string w A0_1 l0_1.length l0_1) (hc0_1 : l0_1.length ≤ c0_1) (hr0_2 : Kd.C (Kd.int .i64) w A0_2 l0_2.length l0_2) (hc0_2 : l0_2.length ≤ c0_2) (h : tabardlaw14_negated.f k a0_0 l0_1 l0_2 a0_3 a0_4 = some (r1, r2, r3, r4, r5, r6)) :
  Calls Try.prog 15 #[.agg #[.int .i64 a0_0, .slice A0_1 l0_1.length c0_1, .slice A0_2 l0_2.length c0_2, .int .i64 a0_3, .int .i64 a0_4]] w fun e w' => ∃ v1_ v2_ : Value, e = .returned (.tuple #[.agg #[.int .i64 r1, v1_, v2_, .int .i64 r4, .int .i64 r5], .bool r6]) ∧ Kd.R Kd.string 9 w' w.heap.size (fun _ => True) v1_ r2 ∧ Kd.R (Kd.int .i64) 2 w' w.heap.size (fun _ => True) v2_ r3 ∧ Below w.heap.size w w' := by
 have hu26 := Try.underlying26; have HR0_1 := Aside0.mk hr0_1; have HC0_1 := Aside0.mk hc0_1; clear hr0_1 hc0_1; have HR0_2 := Aside0.mk hr0_2; have HC0_2 := Aside0.mk hc0_2; clear hr0_2 hc0_2; have HB := Aside0.mk (Below.refl w.heap.size w); have H : ((tabardlaw14_copied.f a0_0 l0_1 l0_2 a0_3 a0_4).bind fun bt211 => (if a0_3 = 9223372036854775807 then (tabardlaw14_negated.j0 k true a0_0 l0_1 l0_2 a0_3 a0_4 bt211.1 bt211.2.1 bt211.2.2.1 bt211.2.2.2.1 bt211.2.2.2.2) else (tabardlaw14_negated.j0 k (decide (a0_3 < (-9223372036854775806))) a0_0 l0_1 l0_2 a0_3 a0_4 bt211.1 bt211.2.1 bt211.2.2.1 bt211.2.2.2.1 bt211.2.2.2.2))) = some (r1, r2, r3, r4, r5, r6) := h; clear h; replace H := Option.bind_eq_some_iff.mp H; obtain ⟨⟨t211, t212, t215, t218, t219⟩, A20, H⟩ := H; replace H : (if a0_3 = 9223372036854775807 then (tabardlaw14_negated.j0 k true a0_0 l0_1 l0_2 a0_3 a0_4 t211 t212 t215 t218 t219) else (tabardlaw14_negated.j0 k (decide (a0_3 < (-9223372036854775806))) a0_0 l0_1 l0_2 a0_3 a0_4 t211 t212 t215 t218 t219)) = some (r1, r2, r3, r4, r5, r6) := H; have A2 := Aside0.mk A20; clear A20; have HC3 := Aside0.mk H; clear H
 go_enter Try.func15, Try.ntmps15
 go_upto_region 2 with (first | ((with_reducible refine gate_dst (N := 1) rfl ?_); refine be_ (cs := #[.int .i64 a0_0, .slice A0_1 l0_1.length c0_1, .slice A0_2 l0_2.length c0_2, .int .i64 a0_3, .int .i64 a0_4]) (t := 26) ?_; intro gb209 hg w4 hbox hb; have BK209 := Aside0.mk (hbox); have GW209 := gE hg (bO HB.out); have GE209 := gE hg (bO HB.out); replace HB := hS0 HB hb; clear hb hbox hg) | ((with_reducible refine gate_dst (N := 2) rfl ?_); refine be_ (cs := #[.int .i64 0, .slice none 0 0, .slice none 0 0, .int .i64 0, .int .i64 0]) (t := 26) ?_; intro gb210 hg w5 hbox hb; have BK210 := Aside0.mk (hbox); have GW210 := gE hg (bS1 HB.out GE209.out); have GE210 := gE hg (bS1 HB.out GE209.out); replace HB := hS1 HB GE209 hb; have NB209_210 := nL hg BK209; have NB210_209 := nG hg BK209; replace BK209 := kB BK209 hb; clear hb hbox hg; have hnb6 := NB209_210.out; have hnc6 := NB210_209.out; obtain ⟨hcz7_0, hcz7_1, hcz7_2, hcz7_3, hcz7_4, hfz7_0, hfz7_1, hfz7_2, hfz7_3, hfz7_4⟩ := bF5 BK209.out) | ((with_reducible refine gate_callee (f := 8) rfl ?_); refine gL_ (some 8) Try.func8 #[.agg #[.int .i64 a0_0, .slice A0_1 l0_1.length c0_1, .slice A0_2 l0_2.length c0_2, .int .i64 a0_3, .int .i64 a0_4]] ?_; (with_reducible refine (tabardlaw14_copied.calls a0_0 _ _ l0_1 _ _ l0_2 a0_3 a0_4 t211 t212 t215 t218 t219 _ ?s1 ?s2 ?s3 ?s4 A2.out).mono ?_); (case s1 => exact cB HR0_1 HB); (case s2 => exact HC0_1.out); (case s3 => exact cB HR0_2 HB); (case s4 => exact HC0_2.out); rintro e w8 ⟨v213, v216, rfl, ho0, ho1, hb⟩; refine ⟨_, rfl, ?_⟩; have HO214 := rW ho0 (bS2 HB.out GE209.out GE210.out); have HO217 := rW ho1 (bS2 HB.out GE209.out GE210.out); replace BK209 := kB BK209 hb; replace BK210 := kB BK210 hb; replace HB := hS2 HB GE209 GE210 hb; (try clear hb); (try clear hb2); (try clear hk); (try clear hi); (try clear ho0); (try clear ho1)) | ((with_reducible refine gate_dst (N := 4) rfl ?_); refine be_ (cs := #[.int .i64 0, .slice none 0 0, .slice none 0 0, .int .i64 0, .int .i64 0]) (t := 26) ?_; intro gb220 hg w9 hbox hb; replace HO214 := rB HO214 hb; replace HO217 := rB HO217 hb; have BK220 := Aside0.mk (hbox); have GW220 := gE hg (bS2 HB.out GE209.out GE210.out); have GE220 := gE hg (bS2 HB.out GE209.out GE210.out); replace HB := hS2 HB GE209 GE210 hb; have NB209_220 := nL hg BK209; have NB220_209 := nG hg BK209; replace BK209 := kB BK209 hb; have NB210_220 := nL hg BK210; have NB220_210 := nG hg BK210; replace BK210 := kB BK210 hb; clear hb hbox hg; have hnb10 := NB220_209.out; have hnc10 := NB209_220.out; have hnb11 := NB220_210.out; have hnc11 := NB210_220.out; obtain ⟨hcz12_0, hcz12_1, hcz12_2, hcz12_3, hcz12_4, hfz12_0, hfz12_1, hfz12_2, hfz12_3, hfz12_4⟩ := bF5 BK220.out; obtain ⟨Ao13, co13, eo13⟩ := Kd.R_slice HO214.out; subst eo13; obtain ⟨Ao14, co14, eo14⟩ := Kd.R_slice HO217.out; subst eo14))
 (try simp only [Act.put, sA, sB, sC])
 go_cut [16] (fun v16 wc => ∃ (kq : Nat) (x16_2 : Bool), v16 = .bool x16_2 ∧ Aside0 (tabardlaw14_negated.j0 kq x16_2 a0_0 l0_1 l0_2 a0_3 a0_4 t211 t212 t215 t218 t219 = some (r1, r2, r3, r4, r5, r6)) ∧ Aside0 (kq ≤ k) ∧ Aside0 (Kd.R Kd.string 9 wc w.heap.size (fun _ => True) (.slice Ao13 t212.length co13) t212) ∧ Aside0 (Kd.R (Kd.int .i64) 2 wc w.heap.size (fun _ => True) (.slice Ao14 t215.length co14) t215) ∧ Aside0 (wc.heap[gb209]? = some (.cells #[.int .i64 a0_0, (.slice A0_1 l0_1.length c0_1), (.slice A0_2 l0_2.length c0_2), .int .i64 a0_3, .int .i64 a0_4] 26 (0, 0))) ∧ Aside0 (wc.heap[gb210]? = some (.cells #[.int .i64 0, (.slice none 0 0), (.slice none 0 0), .int .i64 0, .int .i64 0] 26 (0, 0))) ∧ Aside0 (wc.heap[gb220]? = some (.cells #[.int .i64 t211, (.slice Ao13 t212.length co13), (.slice Ao14 t215.length co14), .int .i64 t218, .int .i64 t219] 26 (0, 0))) ∧ Aside0 (Below w.heap.size w wc))
 case first =>
  have H := HC3.out; clear HC3
  by_cases c15 : a0_3 = 9223372036854775807
  ·rw [if_pos c15] at H; obtain ⟨c15b0, c15b1⟩ := bq c15; clear c15
   (first | rw [c15b0] | (simp only [i64_w, i32_w]; rw [c15b0]) | skip)
   have H' := Aside0.mk H; clear H; have hnb16 := NB209_210.out; have hnc16 := NB210_209.out; have hnb17 := NB209_220.out; have hnc17 := NB220_209.out; obtain ⟨hcz18_0, hcz18_1, hcz18_2, hcz18_3, hcz18_4, hfz18_0, hfz18_1, hfz18_2, hfz18_3, hfz18_4⟩ := bF5 BK209.out
   go_wp2
   go_meet
   case rel => exact ⟨_, (true), sI, H', ⟨by first | omega | exact Nat.le_refl _⟩, ⟨rZ HO214 BK220⟩, ⟨rZ HO217 BK220⟩, ⟨kN BK209 NB209_220⟩, ⟨kN BK210 NB210_220⟩, ⟨by (with_reducible repeat (first | refine blk_drewN ?_ _ | refine blk_drew ?_ | refine blk_alloc ?_ _)); exact blk_put (blk_put (blk_put (blk_put (blk_put BK220.out 0 _ rfl) 1 _ rfl) 2 _ rfl) 3 _ rfl) 4 _ rfl⟩, ⟨bS3 HB.out GE209.out GE210.out GE220.out⟩⟩
  ·rw [if_neg c15] at H; obtain ⟨c15b0, c15b1⟩ := bn c15
   (first | rw [c15b0] | (simp only [i64_w, i32_w]; rw [c15b0]) | skip)
   have H' := Aside0.mk H; clear H; have hnb19 := NB209_210.out; have hnc19 := NB210_209.out; have hnb20 := NB209_220.out; have hnc20 := NB220_209.out; obtain ⟨hcz21_0, hcz21_1, hcz21_2, hcz21_3, hcz21_4, hfz21_0, hfz21_1, hfz21_2, hfz21_3, hfz21_4⟩ := bF5 BK209.out
   go_wp2
   go_meet
   case rel => exact ⟨_, (decide (a0_3 < (-9223372036854775806))), sI, H', ⟨by first | omega | exact Nat.le_refl _⟩, ⟨rZ HO214 BK220⟩, ⟨rZ HO217 BK220⟩, ⟨kN BK209 NB209_220⟩, ⟨kN BK210 NB210_220⟩, ⟨by (with_reducible repeat (first | refine blk_drewN ?_ _ | refine blk_drew ?_ | refine blk_alloc ?_ _)); exact blk_put (blk_put (blk_put (blk_put (blk_put BK220.out 0 _ rfl) 1 _ rfl) 2 _ rfl) 3 _ rfl) 4 _ rfl⟩, ⟨bS3 HB.out GE209.out GE210.out GE220.out⟩⟩
 case rest =>
  clear HC3
  try clear c1
  try clear c2
  try clear p2
  try clear c6
  try clear c8
  try clear c10
  try clear c11
  try clear c15
  try clear c15b0
  try clear c15b1
  try clear c16
  try clear c17
  try clear c19
  try clear c20
  try clear hcz12_0
  try clear hcz12_1
  try clear hcz12_2
  try clear hcz12_3
  try clear hcz12_4
  try clear hcz18_0
  try clear hcz18_1
  try clear hcz18_2
  try clear hcz18_3
  try clear hcz18_4
  try clear hcz21_0
  try clear hcz21_1
  try clear hcz21_2
  try clear hcz21_3
  try clear hcz21_4
  try clear hcz7_0
  try clear hcz7_1
  try clear hcz7_2
  try clear hcz7_3
  try clear hcz7_4
  try clear hfz12_0
  try clear hfz12_1
  try clear hfz12_2
  try clear hfz12_3
  try clear hfz12_4
  try clear hfz18_0
  try clear hfz18_1
  try clear hfz18_2
  try clear hfz18_3
  try clear hfz18_4
  try clear hfz21_0
  try clear hfz21_1
  try clear hfz21_2
  try clear hfz21_3
  try clear hfz21_4
  try clear hfz7_0
  try clear hfz7_1
  try clear hfz7_2
  try clear hfz7_3
  try clear hfz7_4
  obtain ⟨kq, x16_2, rfl, HA, HJ2, HO_221001, HO_221002, BK209, BK210, BK220, HB⟩ := hcut; cases kq with
  | zero => exact absurd HA.out (by simp [tabardlaw14_negated.j0])
  | succ kj2 =>
   have H := HA.out; clear HA; simp only [tabardlaw14_negated.j0] at H
   by_cases c22 : x16_2 = true
   ·subst c22
    have H1 : (some (t211, t212, t215, t218, t219, false)) = some (r1, r2, r3, r4, r5, r6) := by rw [if_pos rfl] at H; exact H
    clear H; have H := H1; clear H1; simp only [Option.some.injEq, Prod.mk.injEq] at H; obtain ⟨rfl, rfl, rfl, rfl, rfl, rfl⟩ := H; have hnb23 := NB220_209.out; have hnc23 := NB209_220.out; have hnb24 := NB220_210.out; have hnc24 := NB210_220.out; obtain ⟨hcz25_0, hcz25_1, hcz25_2, hcz25_3, hcz25_4, hfz25_0, hfz25_1, hfz25_2, hfz25_3, hfz25_4⟩ := bF5 BK220.out; have hnb26 := NB210_209.out; have hnc26 := NB209_210.out; obtain ⟨hcz27_0, hcz27_1, hcz27_2, hcz27_3, hcz27_4, hfz27_0, hfz27_1, hfz27_2, hfz27_3, hfz27_4⟩ := bF5 BK210.out
    go_wp2
    refine bodyPost_ret (results_ct rfl _ _ gb210 26 #[.int .i64 t211, .slice Ao13 t212.length co13, .slice Ao14 t215.length co14, .int .i64 t218, .int .i64 t219] (0, 0) _ rfl (by (with_reducible repeat (first | refine blk_drewN ?_ _ | refine blk_drew ?_ | refine blk_alloc ?_ _)); exact blk_put (blk_put (blk_put (blk_put (blk_put BK210.out 0 _ rfl) 1 _ rfl) 2 _ rfl) 3 _ rfl) 4 _ rfl) Try.underlying26 rfl (by kernel_rfl)) rfl ?_; exact ⟨_, _, eW, rZ HO_221001 BK210, rZ HO_221002 BK210, bS3 HB.out GE209.out GE210.out GE220.out⟩
   ·replace c22 := Bool.eq_false_iff.mpr c22; subst c22
    have H1 : (tabardlaw14_negated.l0 kj2 l0_2 (l0_2.length : Int) 0 a0_0 l0_1 l0_2 a0_3 a0_4 t211 t212 t215 t218 t219) = some (r1, r2, r3, r4, r5, r6) := by rw [if_neg (show ¬ (false = true) by decide)] at H; exact H
    clear H; have H := H1; clear H1; have H' := Aside0.mk H; clear H; have hnb28 := NB209_210.out; have hnc28 := NB210_209.out; have hnb29 := NB209_220.out; have hnc29 := NB220_209.out; obtain ⟨hcz30_0, hcz30_1, hcz30_2, hcz30_3, hcz30_4, hfz30_0, hfz30_1, hfz30_2, hfz30_3, hfz30_4⟩ := bF5 BK209.out
    go_wp2
    go_loopg [21] kj2 (fun kq v21 w' => ∃ (x21_2 : Int) (x221002_2 : List Int) (u221002 : Value), v21 = .int .i64 x21_2 ∧ Aside0 (tabardlaw14_negated.l0 kq l0_2 (l0_2.length : Int) x21_2 a0_0 l0_1 l0_2 a0_3 a0_4 t211 t212 x221002_2 t218 t219 = some (r1, r2, r3, r4, r5, r6)) ∧ Aside0 (kq ≤ kj2) ∧ Aside0 (Kd.R Kd.string 9 w' w.heap.size (fun _ => True) (.slice Ao13 t212.length co13) t212) ∧ Aside0 (Kd.R (Kd.int .i64) 2 w' w.heap.size (fun _ => True) u221002 x221002_2) ∧ Aside0 (w'.heap[gb209]? = some (.cells #[.int .i64 a0_0, (.slice A0_1 l0_1.length c0_1), (.slice A0_2 l0_2.length c0_2), .int .i64 a0_3, .int .i64 a0_4] 26 (0, 0))) ∧ Aside0 (w'.heap[gb210]? = some (.cells #[.int .i64 0, (.slice none 0 0), (.slice none 0 0), .int .i64 0, .int .i64 0] 26 (0, 0))) ∧ Aside0 (w'.heap[gb220]? = some (.cells #[.int .i64 t211, (.slice Ao13 t212.length co13), u221002, .int .i64 t218, .int .i64 t219] 26 (0, 0))) ∧ Aside0 (Below w.heap.size w w'))
    case atStart => exact ⟨(0), (t215), (.slice Ao14 t215.length co14), sI, H', ⟨Nat.le_refl _⟩, ⟨rO HO_221001.out⟩, ⟨rO HO_221002.out⟩, ⟨kO BK209.out⟩, ⟨kO BK210.out⟩, ⟨kO BK220.out⟩, ⟨bS3 HB.out GE209.out GE210.out GE220.out⟩⟩
    case round =>
     clear H'
     try clear c1
     try clear c2
     try clear p2
     try clear c6
     try clear c8
     try clear c10
     try clear c11
     try clear c15
     try clear c15b0
     try clear c15b1
     try clear c16
     try clear c17
     try clear c19
     try clear c20
     try clear c22
     try clear c23
     try clear c24
     try clear c26
     try clear c28
     try clear c29
     try clear hcz12_0
     try clear hcz12_1
     try clear hcz12_2
     try clear hcz12_3
     try clear hcz12_4
     try clear hcz18_0
     try clear hcz18_1
     try clear hcz18_2
     try clear hcz18_3
     try clear hcz18_4
     try clear hcz21_0
     try clear hcz21_1
     try clear hcz21_2
     try clear hcz21_3
     try clear hcz21_4
     try clear hcz25_0
     try clear hcz25_1
     try clear hcz25_2
     try clear hcz25_3
     try clear hcz25_4
     try clear hcz27_0
     try clear hcz27_1
     try clear hcz27_2
     try clear hcz27_3
     try clear hcz27_4
     try clear hcz30_0
     try clear hcz30_1
     try clear hcz30_2
     try clear hcz30_3
     try clear hcz30_4
     try clear hcz7_0
     try clear hcz7_1
     try clear hcz7_2
     try clear hcz7_3
     try clear hcz7_4
     try clear hfz12_0
     try clear hfz12_1
     try clear hfz12_2
     try clear hfz12_3
     try clear hfz12_4
     try clear hfz18_0
     try clear hfz18_1
     try clear hfz18_2
     try clear hfz18_3
     try clear hfz18_4
     try clear hfz21_0
     try clear hfz21_1
     try clear hfz21_2
     try clear hfz21_3
     try clear hfz21_4
     try clear hfz25_0
     try clear hfz25_1
     try clear hfz25_2
     try clear hfz25_3
     try clear hfz25_4
     try clear hfz27_0
     try clear hfz27_1
     try clear hfz27_2
     try clear hfz27_3
     try clear hfz27_4
     try clear hfz30_0
     try clear hfz30_1
     try clear hfz30_2
     try clear hfz30_3
     try clear hfz30_4
     try clear hfz7_0
     try clear hfz7_1
     try clear hfz7_2
     try clear hfz7_3
     try clear hfz7_4
     try clear p2
     obtain ⟨x21_2, x221002_2, u221002, rfl, HA, HK2, HO_221001, HO_221002, BK209, BK210, BK220, HB⟩ := hrel; cases gk with
     | zero => exact absurd HA.out (by simp [tabardlaw14_negated.l0])
     | succ k2 =>
      have H := HA.out; clear HA; simp only [tabardlaw14_negated.l0] at H
      by_cases c31 : x21_2 < (l0_2.length : Int)
      ·rw [if_pos c31] at H; have c31b0 := decide_eq_true c31; clear c31
       by_cases c32 : 0 ≤ x21_2
       ·rw [if_pos c32] at H; have c32b0 := decide_eq_true c32; clear c32
        by_cases c33 : x21_2 < (l0_2.length : Int)
        ·rw [if_pos c33] at H; have c33b0 := decide_eq_true c33; clear c33
         by_cases c34 : x21_2 < (x221002_2.length : Int)
         ·rw [if_pos c34] at H; have c34b0 := decide_eq_true c34; clear c34; obtain ⟨y222, hy222⟩ : ∃ y_ : List Int, y_ = (x221002_2.set (x21_2 : Int).toNat (wrap64 (-(rd l0_2 x21_2)))) := ⟨_, rfl⟩
          replace H : (tabardlaw14_negated.l0 k2 l0_2 (l0_2.length : Int) (wrap64 (x21_2 + 1)) a0_0 l0_1 l0_2 a0_3 a0_4 t211 t212 y222 t218 t219) = some (r1, r2, r3, r4, r5, r6) := rH hy222 H
          have Ny222 := Aside0.mk hy222; clear hy222; have H' := Aside0.mk H; clear H; have p221 : 0 ≤ (x21_2 : Int) := of_decide_eq_true aO; have q221 : x21_2 < (l0_2.length : Int) := of_decide_eq_true aO; obtain ⟨ad221, e221, hx221_0⟩ := Kd.at_int HR0_2.out x21_2 p221 q221; cases e221; replace hx221_0 := cX HB hx221_0; replace p221 := eq_true p221; replace q221 := eq_true q221; have hnb36 := NB220_209.out; have hnc36 := NB209_220.out; have hnb37 := NB220_210.out; have hnc37 := NB210_220.out; obtain ⟨hcz38_0, hcz38_1, hcz38_2, hcz38_3, hcz38_4, hfz38_0, hfz38_1, hfz38_2, hfz38_3, hfz38_4⟩ := bF5 BK220.out; have p35 : 0 ≤ (x21_2 : Int) := of_decide_eq_true aO; have q35 : (x21_2 : Int) < ((x221002_2.length : Int) : Int) := of_decide_eq_true aO; obtain ⟨go35, co35, eo35, gb35, gl35, cl35, HG35⟩ := Kd.R_form HO_221002.out (by omega)
          (first | cases eo35 | (injection eo35 with ea_ en_ ec_; (first | subst ea_ | (injection ea_ with ea_; subst ea_)); subst ec_; clear en_))
          have GB35 := Aside0.mk gb35; have GG35 := Aside0.mk HG35; clear gb35 gl35 HG35; obtain ⟨hx35_0, hf35_0⟩ := Kd.R_celln 0 HO_221002.out (x21_2 : Int) p35 q35; replace p35 := eq_true p35; replace q35 := eq_true q35; have HP39 := Kd.R_putg HO_221002.out (x21_2 : Int) (wrap64 (-(rd l0_2 x21_2)))
          go_wp2_with (first | ((with_reducible refine gate_store (t := 2) (p := 31) rfl ?_); refine store_event (t := 2) (p := 31) (v := ?vo_w40) (w1 := (wr.setCell ⟨go35, (x21_2 : Int).toNat, none⟩ (.int .i64 (wrap64 (-(rd l0_2 x21_2)))))) ?hg ?ho ?hn ?hr ?_; (case ho => rfl); (case hg => rfl); (case hn => rfl); (case hr => first | (go_simp; done) | (go_simp; rfl)); intro w40 hw; have hg : wr.grownBy w40 (some go35) := (by rw [hw]; exact HP39.2); have hp_ : Kd.R (Kd.int .i64) 2 w40 w.heap.size (fun _ => True) (.slice (some ⟨go35, 0, none⟩) x221002_2.length co35) y222 := (by rw [hw, Ny222.out]; exact HP39.1); clear HP39; replace HO_221001 := Aside0.mk (Kd.R_over' (v := (.slice (some ⟨go35, 0, none⟩) x221002_2.length co35)) (rO HO_221001.out) (Kd.R_typed HO_221002.out) (by decide) hg); replace BK209 := kG BK209 hg HO_221002; replace BK210 := kG BK210 hg HO_221002; replace BK220 := kG BK220 hg HO_221002; replace HO_221002 := Aside0.mk (hp_); replace HB := Aside0.mk ((by rw [hw]; exact below_set (HB.out) GB35.out : Below w.heap.size w w40)); clear hg hw hp_))
          go_roundg k2
          case measure => have := HJ2.out; have := HK2.out; omega
          case rel => exact ⟨(wrap64 (x21_2 + 1)), (y222), (.slice (some ⟨go35, 0, none⟩) x221002_2.length co35), sI, H', ⟨by have := HJ2.out; have := HK2.out; omega⟩, ⟨rO HO_221001.out⟩, ⟨rO HO_221002.out⟩, ⟨kO BK209.out⟩, ⟨kO BK210.out⟩, ⟨kO BK220.out⟩, ⟨bS3 HB.out GE209.out GE210.out GE220.out⟩⟩
         ·rw [if_neg c34] at H; exact absurd H (by simp)
        ·rw [if_neg c33] at H; exact absurd H (by simp)
       ·rw [if_neg c32] at H; exact absurd H (by simp)
      ·rw [if_neg c31] at H; have c31b0 := decide_eq_false c31; clear c31; simp only [Option.some.injEq, Prod.mk.injEq] at H; obtain ⟨rfl, rfl, rfl, rfl, rfl, rfl⟩ := H; have hnb41 := NB209_210.out; have hnc41 := NB210_209.out; have hnb42 := NB209_220.out; have hnc42 := NB220_209.out; obtain ⟨hcz43_0, hcz43_1, hcz43_2, hcz43_3, hcz43_4, hfz43_0, hfz43_1, hfz43_2, hfz43_3, hfz43_4⟩ := bF5 BK209.out; have hnb44 := NB220_210.out; have hnc44 := NB210_220.out; obtain ⟨hcz45_0, hcz45_1, hcz45_2, hcz45_3, hcz45_4, hfz45_0, hfz45_1, hfz45_2, hfz45_3, hfz45_4⟩ := bF5 BK220.out; obtain ⟨hcz46_0, hcz46_1, hcz46_2, hcz46_3, hcz46_4, hfz46_0, hfz46_1, hfz46_2, hfz46_3, hfz46_4⟩ := bF5 BK210.out; obtain ⟨Ao47, co47, eo47⟩ := Kd.R_slice HO_221002.out; subst eo47
       go_wp2
       refine bodyPost_ret (results_ct rfl _ _ gb210 26 #[.int .i64 t211, .slice Ao13 t212.length co13, .slice Ao47 x221002_2.length co47, .int .i64 (wrap64 (-(wrap64 (a0_3 + 1)))), .int .i64 t219] (0, 0) _ rfl (by (with_reducible repeat (first | refine blk_drewN ?_ _ | refine blk_drew ?_ | refine blk_alloc ?_ _)); refine blk_put (cs := #[.int .i64 t211, .slice Ao13 t212.length co13, .slice Ao47 x221002_2.length co47, .int .i64 (wrap64 (-(wrap64 (a0_3 + 1)))), .int .i64 0]) ?_ 4 _ rfl; (with_reducible repeat (first | refine blk_drewN ?_ _ | refine blk_drew ?_ | refine blk_alloc ?_ _)); refine blk_put (cs := #[.int .i64 t211, .slice Ao13 t212.length co13, .slice Ao47 x221002_2.length co47, .int .i64 0, .int .i64 0]) ?_ 3 _ rfl; (with_reducible repeat (first | refine blk_drewN ?_ _ | refine blk_drew ?_ | refine blk_alloc ?_ _)); refine blk_put (cs := #[.int .i64 t211, .slice Ao13 t212.length co13, .slice none 0 0, .int .i64 0, .int .i64 0]) ?_ 2 _ rfl; (with_reducible repeat (first | refine blk_drewN ?_ _ | refine blk_drew ?_ | refine blk_alloc ?_ _)); refine blk_put (cs := #[.int .i64 t211, .slice none 0 0, .slice none 0 0, .int .i64 0, .int .i64 0]) ?_ 1 _ rfl; (with_reducible repeat (first | refine blk_drewN ?_ _ | refine blk_drew ?_ | refine blk_alloc ?_ _)); refine blk_put (cs := #[.int .i64 0, .slice none 0 0, .slice none 0 0, .int .i64 0, .int .i64 0]) ?_ 0 _ rfl; (with_reducible repeat (first | refine blk_drewN ?_ _ | refine blk_drew ?_ | refine blk_alloc ?_ _)); refine blk_far ?_ NB210_220.out _; (with_reducible repeat (first | refine blk_drewN ?_ _ | refine blk_drew ?_ | refine blk_alloc ?_ _)); exact BK210.out) Try.underlying26 rfl (by kernel_rfl)) rfl ?_; exact ⟨_, _, eW, by (with_reducible repeat (first | apply Kd.R_alloc | apply Kd.R_drewN | apply Kd.R_drew)); exact Kd.R_mono (Kd.R_far (p := ⟨gb210, 4, none⟩) (Kd.R_far (p := ⟨gb210, 3, none⟩) (Kd.R_far (p := ⟨gb210, 2, none⟩) (Kd.R_far (p := ⟨gb210, 1, none⟩) (Kd.R_far (p := ⟨gb210, 0, none⟩) (Kd.R_far (p := ⟨gb220, 3, none⟩) (Kd.R_types (Kd.R_types HO_221001.out BK220.out (by decide)) BK210.out (by decide)) (fun _ hk => hk.1.2) (.int .i64 (wrap64 (-(wrap64 (a0_3 + 1)))))) (fun _ hk => hk.2) (.int .i64 t211)) (fun _ hk => hk.2) (.slice Ao13 t212.length co13)) (fun _ hk => hk.2) (.slice Ao47 x221002_2.length co47)) (fun _ hk => hk.2) (.int .i64 (wrap64 (-(wrap64 (a0_3 + 1)))))) (fun _ hk => hk.2) (.int .i64 t219)) (fun _ hk => trivial), by (with_reducible repeat (first | apply Kd.R_alloc | apply Kd.R_drewN | apply Kd.R_drew)); exact Kd.R_mono (Kd.R_far (p := ⟨gb210, 4, none⟩) (Kd.R_far (p := ⟨gb210, 3, none⟩) (Kd.R_far (p := ⟨gb210, 2, none⟩) (Kd.R_far (p := ⟨gb210, 1, none⟩) (Kd.R_far (p := ⟨gb210, 0, none⟩) (Kd.R_far (p := ⟨gb220, 3, none⟩) (Kd.R_types (Kd.R_types HO_221002.out BK220.out (by decide)) BK210.out (by decide)) (fun _ hk => hk.1.2) (.int .i64 (wrap64 (-(wrap64 (a0_3 + 1)))))) (fun _ hk => hk.2) (.int .i64 t211)) (fun _ hk => hk.2) (.slice Ao13 t212.length co13)) (fun _ hk => hk.2) (.slice Ao47 x221002_2.length co47)) (fun _ hk => hk.2) (.int .i64 (wrap64 (-(wrap64 (a0_3 + 1)))))) (fun _ hk => hk.2) (.int .i64 t219)) (fun _ hk => trivial), bS3 HB.out GE209.out GE210.out GE220.out⟩

end Go.Proofs.Ythgoonohpfoagaa.X

/- What the functions of this seat compute, and that the program's calls come to just that: written by this session's own program out of the translation; no condition. -/
import Derived.Test.YthgoonohpfoagaaX0
import Derived.Test.YthgoonohpfoagaaX12
import Derived.Test.YthgoonohpfoagaaX13
namespace Go.Proofs.Ythgoonohpfoagaa.X
open Go.RowKit Go.Proofs.YthgoonohpfoagaaW.PrintWords Go.Proofs.YthgoonohpfoagaaW.PrintLast Go.Proofs.YthgoonohpfoagaaW.PrintMore
attribute [local go_sem] max2_int min2_int max_two min_two max_three min_three max_four min_four
set_option linter.unusedVariables false
set_option linter.unusedSimpArgs false

/-! ### tabardref12_SameDense: function 12 -/
mutual
def tabardref12_SameDense.j0 : Nat → Bool → List ByteArray → List Bool → List (List Int) → List ByteArray → List Bool → List (List Int) → Option (Bool)
 | 0, _, _, _, _, _, _, _ => none
 | k + 1, x28, x163000, x163001, x163002, x164000, x164001, x164002 => if x28 = true then (none) else (tabardref12_SameDense.l0 k 0 x163000 x163001 x163002 x164000 x164001 x164002)
def tabardref12_SameDense.l0 : Nat → Int → List ByteArray → List Bool → List (List Int) → List ByteArray → List Bool → List (List Int) → Option (Bool)
 | 0, _, _, _, _, _, _, _ => none
 | k + 1, x5, x163000, x163001, x163002, x164000, x164001, x164002 => if x5 < (x163002.length : Int) then (if 0 ≤ x5 then (if x5 < (x164002.length : Int) then ((tabardref12_ints.f k (rd_L3 x163002 x5) (rd_L3 x164002 x5)).bind fun t168 => (if t168 = true then (tabardref12_SameDense.l0 k (wrap64 (x5 + 1)) x163000 x163001 x163002 x164000 x164001 x164002) else (none))) else (none)) else (none)) else (some true)
end
def tabardref12_SameDense.f (k : Nat) (l0_0 : List ByteArray) (l0_1 : List Bool) (l0_2 : List (List Int)) (l1_0 : List ByteArray) (l1_1 : List Bool) (l1_2 : List (List Int)) : Option (Bool) := (tabardref12_texts.f k l0_0 l1_0).bind fun t164 => (if t164 = true then ((tabardref12_flags.f k l0_1 l1_1).bind fun t165 => (if t165 = true then (tabardref12_SameDense.j0 k ((l0_2.length : Int) != (l1_2.length : Int)) l0_0 l0_1 l0_2 l1_0 l1_1 l1_2) else (tabardref12_SameDense.j0 k true l0_0 l0_1 l0_2 l1_0 l1_1 l1_2))) else (tabardref12_SameDense.j0 k true l0_0 l0_1 l0_2 l1_0 l1_1 l1_2))
theorem tabardref12_SameDense.mono_l : ∀ k, (∀ y0 y1 y2 y3 y4 y5 y6, LeO (tabardref12_SameDense.j0 k y0 y1 y2 y3 y4 y5 y6) (tabardref12_SameDense.j0 (k + 1) y0 y1 y2 y3 y4 y5 y6)) ∧ (∀ y0 y1 y2 y3 y4 y5 y6, LeO (tabardref12_SameDense.l0 k y0 y1 y2 y3 y4 y5 y6) (tabardref12_SameDense.l0 (k + 1) y0 y1 y2 y3 y4 y5 y6))
 | 0 => ⟨fun _ _ _ _ _ _ _ r h => by simp [tabardref12_SameDense.j0] at h, fun _ _ _ _ _ _ _ r h => by simp [tabardref12_SameDense.l0] at h⟩
 | k + 1 => by
  obtain ⟨ih0, ih1⟩ := tabardref12_SameDense.mono_l k; refine ⟨?_, ?_⟩
  ·intro y0 y1 y2 y3 y4 y5 y6
   unfold tabardref12_SameDense.j0
   repeat' first | (with_reducible first | exact ih0 _ _ _ _ _ _ _ | exact ih1 _ _ _ _ _ _ _ | exact tabardref12_flags.mono _ _ _ | exact tabardref12_ints.mono _ _ _ | exact tabardref12_texts.mono _ _ _ | exact lA | apply lI | refine lB ?_ fun _ => ?_) | exact lN _ | apply lI | refine lB ?_ fun _ => ?_
  ·intro y0 y1 y2 y3 y4 y5 y6
   unfold tabardref12_SameDense.l0
   repeat' first | (with_reducible first | exact ih0 _ _ _ _ _ _ _ | exact ih1 _ _ _ _ _ _ _ | exact tabardref12_flags.mono _ _ _ | exact tabardref12_ints.mono _ _ _ | exact tabardref12_texts.mono _ _ _ | exact lA | apply lI | refine lB ?_ fun _ => ?_) | exact lN _ | apply lI | refine lB ?_ fun _ => ?_
theorem tabardref12_SameDense.mono : ∀ a0 a1 a2 a3 a4 a5 k, LeO (tabardref12_SameDense.f k a0 a1 a2 a3 a4 a5) (tabardref12_SameDense.f (k + 1) a0 a1 a2 a3 a4 a5) := by
 intro a0 a1 a2 a3 a4 a5 k; obtain ⟨ih0, ih1⟩ := tabardref12_SameDense.mono_l k
 unfold tabardref12_SameDense.f
 repeat' first | (with_reducible first | exact ih0 _ _ _ _ _ _ _ | exact ih1 _ _ _ _ _ _ _ | exact tabardref12_flags.mono _ _ _ | exact tabardref12_ints.mono _ _ _ | exact tabardref12_texts.mono _ _ _ | exact lA | apply lI | refine lB ?_ fun _ => ?_) | exact lN _ | apply lI | refine lB ?_ fun _ => ?_
set_option maxHeartbeats 8000000 in
set_option maxRecDepth 100000 in
theorem tabardref12_SameDense.calls (k : Nat) (A0_0 : Option Addr) (c0_0 : Nat) (l0_0 : List ByteArray) (A0_1 : Option Addr) (c0_1 : Nat) (l0_1 : List Bool) (A0_2 : Option Addr) (c0_2 : Nat) (l0_2 : List (List Int)) (A1_0 : Option Addr) (c1_0 : Nat) (l1_0 : List ByteArray) (A1_1 : Option Addr) (c1_1 : Nat) (l1_1 : List Bool) (A1_2 : Option Addr) (c1_2 : Nat) (l1_2 : List (List Int)) (r : Bool) (w : World) (hr0_0 : Kd.C Kd.string w A0_0 l0_0.length l0_0) (hc0_0 : l0_0.length ≤ c0_0) (hr0_1 : Kd.C Kd.bool w A0_1 l0_1.length l0_1) (hc0_1 : l0_1.length ≤ c0_1) (hr0_2 : Kd.C (Kd.slice 3 (Kd.int .i64)) w A0_2 l0_2.length l0_2) (hc0_2 : l0_2.length ≤ c0_2) (hr1_0 : Kd.C Kd.string w A1_0 l1_0.length l1_0) (hc1_0 : l1_0.length ≤ c1_0) (hr1_1 : Kd.C Kd.bool w A1_1 l1_1.length l1_1) (hc1_1 : l1_1.length ≤ c1_1) (hr1_2 : Kd.C (Kd.slice 3 (Kd.int .i64)) w A1_2 l1_2.length l1_2) (hc1_2 : l1_2.length ≤ c1_2) (h : tabardref12_SameDense.f k l0_0 l0_1 l0_2 l1_0 l1_1 l1_2 = some r) :
  Calls Try.prog 12 #[.agg #[.slice A0_0 l0_0.length c0_0, .slice A0_1 l0_1.length c0_1, .slice A0_2 l0_2.length c0_2], .agg #[.slice A1_0 l1_0.length c1_0, .slice A1_1 l1_1.length c1_1, .slice A1_2 l1_2.length c1_2]] w fun e w' => e = .returned (.bool r) ∧ Below w.heap.size w w' := by
 have hu31 := Try.underlying31; have HR0_0 := Aside0.mk hr0_0; have HC0_0 := Aside0.mk hc0_0; clear hr0_0 hc0_0; have HR0_1 := Aside0.mk hr0_1; have HC0_1 := Aside0.mk hc0_1; clear hr0_1 hc0_1; have HR0_2 := Aside0.mk hr0_2; have HC0_2 := Aside0.mk hc0_2; clear hr0_2 hc0_2; have HR1_0 := Aside0.mk hr1_0; have HC1_0 := Aside0.mk hc1_0; clear hr1_0 hc1_0; have HR1_1 := Aside0.mk hr1_1; have HC1_1 := Aside0.mk hc1_1; clear hr1_1 hc1_1; have HR1_2 := Aside0.mk hr1_2; have HC1_2 := Aside0.mk hc1_2; clear hr1_2 hc1_2; have HB := Aside0.mk (Below.refl w.heap.size w); have H : ((tabardref12_texts.f k l0_0 l1_0).bind fun t164 => (if t164 = true then ((tabardref12_flags.f k l0_1 l1_1).bind fun t165 => (if t165 = true then (tabardref12_SameDense.j0 k ((l0_2.length : Int) != (l1_2.length : Int)) l0_0 l0_1 l0_2 l1_0 l1_1 l1_2) else (tabardref12_SameDense.j0 k true l0_0 l0_1 l0_2 l1_0 l1_1 l1_2))) else (tabardref12_SameDense.j0 k true l0_0 l0_1 l0_2 l1_0 l1_1 l1_2))) = some r := h; clear h; have HC3 := Aside0.mk H; clear H
 go_enter Try.func12, Try.ntmps12
 go_upto_region 1 with (first | ((with_reducible refine gate_dst (N := 2) rfl ?_); (try (refine gate_guard (by rfl) ?_; dsimp only)); refine be_ (cs := #[.slice A0_0 l0_0.length c0_0, .slice A0_1 l0_1.length c0_1, .slice A0_2 l0_2.length c0_2]) (t := 31) ?_; intro gb162 hg w4 hbox hb; have BK162 := Aside0.mk (hbox); have GW162 := gE hg (bO HB.out); have GE162 := gE hg (bO HB.out); replace HB := hS0 HB hb; clear hb hbox hg) | ((with_reducible refine gate_dst (N := 3) rfl ?_); (try (refine gate_guard (by rfl) ?_; dsimp only)); refine be_ (cs := #[.slice A1_0 l1_0.length c1_0, .slice A1_1 l1_1.length c1_1, .slice A1_2 l1_2.length c1_2]) (t := 31) ?_; intro gb163 hg w5 hbox hb; have BK163 := Aside0.mk (hbox); have GW163 := gE hg (bS1 HB.out GE162.out); have GE163 := gE hg (bS1 HB.out GE162.out); replace HB := hS1 HB GE162 hb; have NB162_163 := nL hg BK162; have NB163_162 := nG hg BK162; replace BK162 := kB BK162 hb; clear hb hbox hg))
 repeat (go_quiet (first | ((with_reducible refine gate_dst (N := 2) rfl ?_); (try (refine gate_guard (by rfl) ?_; dsimp only)); refine be_ (cs := #[.slice A0_0 l0_0.length c0_0, .slice A0_1 l0_1.length c0_1, .slice A0_2 l0_2.length c0_2]) (t := 31) ?_; intro gb162 hg w4 hbox hb; have BK162 := Aside0.mk (hbox); have GW162 := gE hg (bO HB.out); have GE162 := gE hg (bO HB.out); replace HB := hS0 HB hb; clear hb hbox hg) | ((with_reducible refine gate_dst (N := 3) rfl ?_); (try (refine gate_guard (by rfl) ?_; dsimp only)); refine be_ (cs := #[.slice A1_0 l1_0.length c1_0, .slice A1_1 l1_1.length c1_1, .slice A1_2 l1_2.length c1_2]) (t := 31) ?_; intro gb163 hg w5 hbox hb; have BK163 := Aside0.mk (hbox); have GW163 := gE hg (bS1 HB.out GE162.out); have GE163 := gE hg (bS1 HB.out GE162.out); replace HB := hS1 HB GE162 hb; have NB162_163 := nL hg BK162; have NB163_162 := nG hg BK162; replace BK162 := kB BK162 hb; clear hb hbox hg)); go_upto_region 1 with (first | ((with_reducible refine gate_dst (N := 2) rfl ?_); (try (refine gate_guard (by rfl) ?_; dsimp only)); refine be_ (cs := #[.slice A0_0 l0_0.length c0_0, .slice A0_1 l0_1.length c0_1, .slice A0_2 l0_2.length c0_2]) (t := 31) ?_; intro gb162 hg w4 hbox hb; have BK162 := Aside0.mk (hbox); have GW162 := gE hg (bO HB.out); have GE162 := gE hg (bO HB.out); replace HB := hS0 HB hb; clear hb hbox hg) | ((with_reducible refine gate_dst (N := 3) rfl ?_); (try (refine gate_guard (by rfl) ?_; dsimp only)); refine be_ (cs := #[.slice A1_0 l1_0.length c1_0, .slice A1_1 l1_1.length c1_1, .slice A1_2 l1_2.length c1_2]) (t := 31) ?_; intro gb163 hg w5 hbox hb; have BK163 := Aside0.mk (hbox); have GW163 := gE hg (bS1 HB.out GE162.out); have GE163 := gE hg (bS1 HB.out GE162.out); replace HB := hS1 HB GE162 hb; have NB162_163 := nL hg BK162; have NB163_162 := nG hg BK162; replace BK162 := kB BK162 hb; clear hb hbox hg)))
 (try simp only [Act.put, sA, sB, sC])
 go_cut [28] (fun v28 wc => ∃ (kq : Nat) (x28_2 : Bool), v28 = .bool x28_2 ∧ Aside0 (tabardref12_SameDense.j0 kq x28_2 l0_0 l0_1 l0_2 l1_0 l1_1 l1_2 = some r) ∧ Aside0 (kq ≤ k) ∧ Aside0 (wc.heap[gb162]? = some (.cells #[(.slice A0_0 l0_0.length c0_0), (.slice A0_1 l0_1.length c0_1), (.slice A0_2 l0_2.length c0_2)] 31 (0, 0))) ∧ Aside0 (wc.heap[gb163]? = some (.cells #[(.slice A1_0 l1_0.length c1_0), (.slice A1_1 l1_1.length c1_1), (.slice A1_2 l1_2.length c1_2)] 31 (0, 0))) ∧ Aside0 (Below w.heap.size w wc))
 case first =>
  have H := HC3.out; clear HC3; replace H := Option.bind_eq_some_iff.mp H; obtain ⟨t164, A60, H⟩ := H; replace H : (if t164 = true then ((tabardref12_flags.f k l0_1 l1_1).bind fun t165 => (if t165 = true then (tabardref12_SameDense.j0 k ((l0_2.length : Int) != (l1_2.length : Int)) l0_0 l0_1 l0_2 l1_0 l1_1 l1_2) else (tabardref12_SameDense.j0 k true l0_0 l0_1 l0_2 l1_0 l1_1 l1_2))) else (tabardref12_SameDense.j0 k true l0_0 l0_1 l0_2 l1_0 l1_1 l1_2)) = some r := H; have A6 := Aside0.mk A60; clear A60
  by_cases c7 : t164 = true
  ·subst c7
   have H1 : ((tabardref12_flags.f k l0_1 l1_1).bind fun t165 => (if t165 = true then (tabardref12_SameDense.j0 k ((l0_2.length : Int) != (l1_2.length : Int)) l0_0 l0_1 l0_2 l1_0 l1_1 l1_2) else (tabardref12_SameDense.j0 k true l0_0 l0_1 l0_2 l1_0 l1_1 l1_2))) = some r := by rw [if_pos rfl] at H; exact H
   clear H; have H := H1; clear H1; replace H := Option.bind_eq_some_iff.mp H; obtain ⟨t165, A80, H⟩ := H; replace H : (if t165 = true then (tabardref12_SameDense.j0 k ((l0_2.length : Int) != (l1_2.length : Int)) l0_0 l0_1 l0_2 l1_0 l1_1 l1_2) else (tabardref12_SameDense.j0 k true l0_0 l0_1 l0_2 l1_0 l1_1 l1_2)) = some r := H; have A8 := Aside0.mk A80; clear A80
   by_cases c9 : t165 = true
   ·subst c9
    have H1 : (tabardref12_SameDense.j0 k ((l0_2.length : Int) != (l1_2.length : Int)) l0_0 l0_1 l0_2 l1_0 l1_1 l1_2) = some r := by rw [if_pos rfl] at H; exact H
    clear H; have H := H1; clear H1; have H' := Aside0.mk H; clear H; have hnb10 := NB162_163.out; have hnc10 := NB163_162.out; obtain ⟨hcz11_0, hcz11_1, hcz11_2, hfz11_0, hfz11_1, hfz11_2⟩ := bF3 BK162.out; obtain ⟨hcz12_0, hcz12_1, hcz12_2, hfz12_0, hfz12_1, hfz12_2⟩ := bF3 BK163.out
    go_wp2_with (first | (go_at_call 32; (with_reducible refine (tabardref12_texts.calls k _ _ l0_0 _ _ l1_0 true _ ?s1 ?s2 ?s3 ?s4 A6.out).mono ?_); (case s1 => exact cB HR0_0 HB); (case s2 => exact HC0_0.out); (case s3 => exact cB HR1_0 HB); (case s4 => exact HC1_0.out); rintro e w' ⟨rfl, ⟨nd, rfl⟩⟩; (try exact dN)) | (go_at_call 33; (with_reducible refine (tabardref12_flags.calls k _ _ l0_1 _ _ l1_1 true _ ?s1 ?s2 ?s3 ?s4 A8.out).mono ?_); (case s1 => repeat (first | exact (Kd.C_below HR0_1.out (bS2 HB.out GE162.out GE163.out)) | (with_reducible refine Kd.C_alloc ?_ _) | (with_reducible refine Kd.C_drewN ?_ _) | (with_reducible refine Kd.C_drew ?_))); (case s2 => exact HC0_1.out); (case s3 => repeat (first | exact (Kd.C_below HR1_1.out (bS2 HB.out GE162.out GE163.out)) | (with_reducible refine Kd.C_alloc ?_ _) | (with_reducible refine Kd.C_drewN ?_ _) | (with_reducible refine Kd.C_drew ?_))); (case s4 => exact HC1_1.out); rintro e w' ⟨rfl, ⟨nd, rfl⟩⟩; (try exact dN)))
    repeat (go_quiet (first | (go_at_call 32; (with_reducible refine (tabardref12_texts.calls k _ _ l0_0 _ _ l1_0 true _ ?s1 ?s2 ?s3 ?s4 A6.out).mono ?_); (case s1 => exact cB HR0_0 HB); (case s2 => exact HC0_0.out); (case s3 => exact cB HR1_0 HB); (case s4 => exact HC1_0.out); rintro e w' ⟨rfl, ⟨nd, rfl⟩⟩; (try exact dN)) | (go_at_call 33; (with_reducible refine (tabardref12_flags.calls k _ _ l0_1 _ _ l1_1 true _ ?s1 ?s2 ?s3 ?s4 A8.out).mono ?_); (case s1 => repeat (first | exact (Kd.C_below HR0_1.out (bS2 HB.out GE162.out GE163.out)) | (with_reducible refine Kd.C_alloc ?_ _) | (with_reducible refine Kd.C_drewN ?_ _) | (with_reducible refine Kd.C_drew ?_))); (case s2 => exact HC0_1.out); (case s3 => repeat (first | exact (Kd.C_below HR1_1.out (bS2 HB.out GE162.out GE163.out)) | (with_reducible refine Kd.C_alloc ?_ _) | (with_reducible refine Kd.C_drewN ?_ _) | (with_reducible refine Kd.C_drew ?_))); (case s4 => exact HC1_1.out); rintro e w' ⟨rfl, ⟨nd, rfl⟩⟩; (try exact dN))); try go_wp2_with (first | (go_at_call 32; (with_reducible refine (tabardref12_texts.calls k _ _ l0_0 _ _ l1_0 true _ ?s1 ?s2 ?s3 ?s4 A6.out).mono ?_); (case s1 => exact cB HR0_0 HB); (case s2 => exact HC0_0.out); (case s3 => exact cB HR1_0 HB); (case s4 => exact HC1_0.out); rintro e w' ⟨rfl, ⟨nd, rfl⟩⟩; (try exact dN)) | (go_at_call 33; (with_reducible refine (tabardref12_flags.calls k _ _ l0_1 _ _ l1_1 true _ ?s1 ?s2 ?s3 ?s4 A8.out).mono ?_); (case s1 => repeat (first | exact (Kd.C_below HR0_1.out (bS2 HB.out GE162.out GE163.out)) | (with_reducible refine Kd.C_alloc ?_ _) | (with_reducible refine Kd.C_drewN ?_ _) | (with_reducible refine Kd.C_drew ?_))); (case s2 => exact HC0_1.out); (case s3 => repeat (first | exact (Kd.C_below HR1_1.out (bS2 HB.out GE162.out GE163.out)) | (with_reducible refine Kd.C_alloc ?_ _) | (with_reducible refine Kd.C_drewN ?_ _) | (with_reducible refine Kd.C_drew ?_))); (case s4 => exact HC1_1.out); rintro e w' ⟨rfl, ⟨nd, rfl⟩⟩; (try exact dN))))
    go_meet
    case rel => exact ⟨_, (((l0_2.length : Int) != (l1_2.length : Int))), sI, H', ⟨by first | omega | exact Nat.le_refl _⟩, ⟨kO BK162.out⟩, ⟨kO BK163.out⟩, ⟨bS2 HB.out GE162.out GE163.out⟩⟩
   ·replace c9 := Bool.eq_false_iff.mpr c9; subst c9
    have H1 : (tabardref12_SameDense.j0 k true l0_0 l0_1 l0_2 l1_0 l1_1 l1_2) = some r := by rw [if_neg (show ¬ (false = true) by decide)] at H; exact H
    clear H; have H := H1; clear H1; have H' := Aside0.mk H; clear H; have hnb13 := NB162_163.out; have hnc13 := NB163_162.out; obtain ⟨hcz14_0, hcz14_1, hcz14_2, hfz14_0, hfz14_1, hfz14_2⟩ := bF3 BK162.out; obtain ⟨hcz15_0, hcz15_1, hcz15_2, hfz15_0, hfz15_1, hfz15_2⟩ := bF3 BK163.out
    go_wp2_with (first | (go_at_call 32; (with_reducible refine (tabardref12_texts.calls k _ _ l0_0 _ _ l1_0 true _ ?s1 ?s2 ?s3 ?s4 A6.out).mono ?_); (case s1 => exact cB HR0_0 HB); (case s2 => exact HC0_0.out); (case s3 => exact cB HR1_0 HB); (case s4 => exact HC1_0.out); rintro e w' ⟨rfl, ⟨nd, rfl⟩⟩; (try exact dN)) | (go_at_call 33; (with_reducible refine (tabardref12_flags.calls k _ _ l0_1 _ _ l1_1 false _ ?s1 ?s2 ?s3 ?s4 A8.out).mono ?_); (case s1 => repeat (first | exact (Kd.C_below HR0_1.out (bS2 HB.out GE162.out GE163.out)) | (with_reducible refine Kd.C_alloc ?_ _) | (with_reducible refine Kd.C_drewN ?_ _) | (with_reducible refine Kd.C_drew ?_))); (case s2 => exact HC0_1.out); (case s3 => repeat (first | exact (Kd.C_below HR1_1.out (bS2 HB.out GE162.out GE163.out)) | (with_reducible refine Kd.C_alloc ?_ _) | (with_reducible refine Kd.C_drewN ?_ _) | (with_reducible refine Kd.C_drew ?_))); (case s4 => exact HC1_1.out); rintro e w' ⟨rfl, ⟨nd, rfl⟩⟩; (try exact dN)))
    repeat (go_quiet (first | (go_at_call 32; (with_reducible refine (tabardref12_texts.calls k _ _ l0_0 _ _ l1_0 true _ ?s1 ?s2 ?s3 ?s4 A6.out).mono ?_); (case s1 => exact cB HR0_0 HB); (case s2 => exact HC0_0.out); (case s3 => exact cB HR1_0 HB); (case s4 => exact HC1_0.out); rintro e w' ⟨rfl, ⟨nd, rfl⟩⟩; (try exact dN)) | (go_at_call 33; (with_reducible refine (tabardref12_flags.calls k _ _ l0_1 _ _ l1_1 false _ ?s1 ?s2 ?s3 ?s4 A8.out).mono ?_); (case s1 => repeat (first | exact (Kd.C_below HR0_1.out (bS2 HB.out GE162.out GE163.out)) | (with_reducible refine Kd.C_alloc ?_ _) | (with_reducible refine Kd.C_drewN ?_ _) | (with_reducible refine Kd.C_drew ?_))); (case s2 => exact HC0_1.out); (case s3 => repeat (first | exact (Kd.C_below HR1_1.out (bS2 HB.out GE162.out GE163.out)) | (with_reducible refine Kd.C_alloc ?_ _) | (with_reducible refine Kd.C_drewN ?_ _) | (with_reducible refine Kd.C_drew ?_))); (case s4 => exact HC1_1.out); rintro e w' ⟨rfl, ⟨nd, rfl⟩⟩; (try exact dN))); try go_wp2_with (first | (go_at_call 32; (with_reducible refine (tabardref12_texts.calls k _ _ l0_0 _ _ l1_0 true _ ?s1 ?s2 ?s3 ?s4 A6.out).mono ?_); (case s1 => exact cB HR0_0 HB); (case s2 => exact HC0_0.out); (case s3 => exact cB HR1_0 HB); (case s4 => exact HC1_0.out); rintro e w' ⟨rfl, ⟨nd, rfl⟩⟩; (try exact dN)) | (go_at_call 33; (with_reducible refine (tabardref12_flags.calls k _ _ l0_1 _ _ l1_1 false _ ?s1 ?s2 ?s3 ?s4 A8.out).mono ?_); (case s1 => repeat (first | exact (Kd.C_below HR0_1.out (bS2 HB.out GE162.out GE163.out)) | (with_reducible refine Kd.C_alloc ?_ _) | (with_reducible refine Kd.C_drewN ?_ _) | (with_reducible refine Kd.C_drew ?_))); (case s2 => exact HC0_1.out); (case s3 => repeat (first | exact (Kd.C_below HR1_1.out (bS2 HB.out GE162.out GE163.out)) | (with_reducible refine Kd.C_alloc ?_ _) | (with_reducible refine Kd.C_drewN ?_ _) | (with_reducible refine Kd.C_drew ?_))); (case s4 => exact HC1_1.out); rintro e w' ⟨rfl, ⟨nd, rfl⟩⟩; (try exact dN))))
    go_meet
    case rel => exact ⟨_, (true), sI, H', ⟨by first | omega | exact Nat.le_refl _⟩, ⟨kO BK162.out⟩, ⟨kO BK163.out⟩, ⟨bS2 HB.out GE162.out GE163.out⟩⟩
  ·replace c7 := Bool.eq_false_iff.mpr c7; subst c7
   have H1 : (tabardref12_SameDense.j0 k true l0_0 l0_1 l0_2 l1_0 l1_1 l1_2) = some r := by rw [if_neg (show ¬ (false = true) by decide)] at H; exact H
   clear H; have H := H1; clear H1; have H' := Aside0.mk H; clear H; have hnb16 := NB162_163.out; have hnc16 := NB163_162.out; obtain ⟨hcz17_0, hcz17_1, hcz17_2, hfz17_0, hfz17_1, hfz17_2⟩ := bF3 BK162.out; obtain ⟨hcz18_0, hcz18_1, hcz18_2, hfz18_0, hfz18_1, hfz18_2⟩ := bF3 BK163.out
   go_wp2_with (first | (go_at_call 32; (with_reducible refine (tabardref12_texts.calls k _ _ l0_0 _ _ l1_0 false _ ?s1 ?s2 ?s3 ?s4 A6.out).mono ?_); (case s1 => exact cB HR0_0 HB); (case s2 => exact HC0_0.out); (case s3 => exact cB HR1_0 HB); (case s4 => exact HC1_0.out); rintro e w' ⟨rfl, ⟨nd, rfl⟩⟩; (try exact dN)))
   repeat (go_quiet (first | (go_at_call 32; (with_reducible refine (tabardref12_texts.calls k _ _ l0_0 _ _ l1_0 false _ ?s1 ?s2 ?s3 ?s4 A6.out).mono ?_); (case s1 => exact cB HR0_0 HB); (case s2 => exact HC0_0.out); (case s3 => exact cB HR1_0 HB); (case s4 => exact HC1_0.out); rintro e w' ⟨rfl, ⟨nd, rfl⟩⟩; (try exact dN))); try go_wp2_with (first | (go_at_call 32; (with_reducible refine (tabardref12_texts.calls k _ _ l0_0 _ _ l1_0 false _ ?s1 ?s2 ?s3 ?s4 A6.out).mono ?_); (case s1 => exact cB HR0_0 HB); (case s2 => exact HC0_0.out); (case s3 => exact cB HR1_0 HB); (case s4 => exact HC1_0.out); rintro e w' ⟨rfl, ⟨nd, rfl⟩⟩; (try exact dN))))
   go_meet
   case rel => exact ⟨_, (true), sI, H', ⟨by first | omega | exact Nat.le_refl _⟩, ⟨kO BK162.out⟩, ⟨kO BK163.out⟩, ⟨bS2 HB.out GE162.out GE163.out⟩⟩
 case rest =>
  clear HC3
  try clear c1
  try clear p2
  try clear c7
  try clear c9
  try clear c10
  try clear c12
  try clear c13
  try clear c16
  try clear hcz11_0
  try clear hcz11_1
  try clear hcz11_2
  try clear hcz12_0
  try clear hcz12_1
  try clear hcz12_2
  try clear hcz14_0
  try clear hcz14_1
  try clear hcz14_2
  try clear hcz15_0
  try clear hcz15_1
  try clear hcz15_2
  try clear hcz17_0
  try clear hcz17_1
  try clear hcz17_2
  try clear hcz18_0
  try clear hcz18_1
  try clear hcz18_2
  try clear hfz11_0
  try clear hfz11_1
  try clear hfz11_2
  try clear hfz12_0
  try clear hfz12_1
  try clear hfz12_2
  try clear hfz14_0
  try clear hfz14_1
  try clear hfz14_2
  try clear hfz15_0
  try clear hfz15_1
  try clear hfz15_2
  try clear hfz17_0
  try clear hfz17_1
  try clear hfz17_2
  try clear hfz18_0
  try clear hfz18_1
  try clear hfz18_2
  obtain ⟨kq, x28_2, rfl, HA, HJ2, BK162, BK163, HB⟩ := hcut; cases kq with
  | zero => exact absurd HA.out (by simp [tabardref12_SameDense.j0])
  | succ kj2 =>
   have H := HA.out; clear HA; simp only [tabardref12_SameDense.j0] at H
   by_cases c19 : x28_2 = true
   ·subst c19
    have H1 : (none) = some r := by rw [if_pos rfl] at H; exact H
    clear H; have H := H1; clear H1; exact absurd H (by simp)
   ·replace c19 := Bool.eq_false_iff.mpr c19; subst c19
    have H1 : (tabardref12_SameDense.l0 kj2 0 l0_0 l0_1 l0_2 l1_0 l1_1 l1_2) = some r := by rw [if_neg (show ¬ (false = true) by decide)] at H; exact H
    clear H; have H := H1; clear H1; have H' := Aside0.mk H; clear H
    go_wp2
    repeat (go_quiet (fail); try go_wp2)
    go_loopg [5] kj2 (fun kq v5 w' => ∃ (x5_2 : Int), v5 = .int .i64 x5_2 ∧ Aside0 (tabardref12_SameDense.l0 kq x5_2 l0_0 l0_1 l0_2 l1_0 l1_1 l1_2 = some r) ∧ Aside0 (kq ≤ kj2) ∧ Aside0 (w'.heap[gb162]? = some (.cells #[(.slice A0_0 l0_0.length c0_0), (.slice A0_1 l0_1.length c0_1), (.slice A0_2 l0_2.length c0_2)] 31 (0, 0))) ∧ Aside0 (w'.heap[gb163]? = some (.cells #[(.slice A1_0 l1_0.length c1_0), (.slice A1_1 l1_1.length c1_1), (.slice A1_2 l1_2.length c1_2)] 31 (0, 0))) ∧ Aside0 (Below w.heap.size w w'))
    case atStart => exact ⟨(0), sI, H', ⟨Nat.le_refl _⟩, ⟨kO BK162.out⟩, ⟨kO BK163.out⟩, ⟨bS2 HB.out GE162.out GE163.out⟩⟩
    case round =>
     clear H'
     try clear c1
     try clear p2
     try clear c7
     try clear c9
     try clear c10
     try clear c12
     try clear c13
     try clear c16
     try clear c19
     try clear hcz11_0
     try clear hcz11_1
     try clear hcz11_2
     try clear hcz12_0
     try clear hcz12_1
     try clear hcz12_2
     try clear hcz14_0
     try clear hcz14_1
     try clear hcz14_2
     try clear hcz15_0
     try clear hcz15_1
     try clear hcz15_2
     try clear hcz17_0
     try clear hcz17_1
     try clear hcz17_2
     try clear hcz18_0
     try clear hcz18_1
     try clear hcz18_2
     try clear hfz11_0
     try clear hfz11_1
     try clear hfz11_2
     try clear hfz12_0
     try clear hfz12_1
     try clear hfz12_2
     try clear hfz14_0
     try clear hfz14_1
     try clear hfz14_2
     try clear hfz15_0
     try clear hfz15_1
     try clear hfz15_2
     try clear hfz17_0
     try clear hfz17_1
     try clear hfz17_2
     try clear hfz18_0
     try clear hfz18_1
     try clear hfz18_2
     try clear p2
     obtain ⟨x5_2, rfl, HA, HK2, BK162, BK163, HB⟩ := hrel; cases gk with
     | zero => exact absurd HA.out (by simp [tabardref12_SameDense.l0])
     | succ k2 =>
      have H := HA.out; clear HA; simp only [tabardref12_SameDense.l0] at H
      by_cases c20 : x5_2 < (l0_2.length : Int)
      ·rw [if_pos c20] at H; have c20b0 := decide_eq_true c20; clear c20
       by_cases c21 : 0 ≤ x5_2
       ·rw [if_pos c21] at H; have c21b0 := decide_eq_true c21; clear c21
        by_cases c22 : x5_2 < (l1_2.length : Int)
        ·rw [if_pos c22] at H; have c22b0 := decide_eq_true c22; clear c22; replace H := Option.bind_eq_some_iff.mp H; obtain ⟨t168, A230, H⟩ := H; replace H : (if t168 = true then (tabardref12_SameDense.l0 k2 (wrap64 (x5_2 + 1)) l0_0 l0_1 l0_2 l1_0 l1_1 l1_2) else (none)) = some r := H; have A23 := Aside0.mk A230; clear A230
         by_cases c24 : t168 = true
         ·subst c24
          have H1 : (tabardref12_SameDense.l0 k2 (wrap64 (x5_2 + 1)) l0_0 l0_1 l0_2 l1_0 l1_1 l1_2) = some r := by rw [if_pos rfl] at H; exact H
          clear H; have H := H1; clear H1; have H' := Aside0.mk H; clear H; have hnb25 := NB162_163.out; have hnc25 := NB163_162.out; obtain ⟨hcz26_0, hcz26_1, hcz26_2, hfz26_0, hfz26_1, hfz26_2⟩ := bF3 BK162.out; have p166 : 0 ≤ (x5_2 : Int) := of_decide_eq_true aO; have q166 : x5_2 < (l0_2.length : Int) := of_decide_eq_true aO; obtain ⟨ad166, A166_0, c166_0, e166, hx166_0, hl166_0, hi166_0⟩ := at_L3 HR0_2.out x5_2 p166 q166; cases e166; replace hx166_0 := cX HB hx166_0; have HR166_0 := Aside0.mk hi166_0; have HC166_0 := Aside0.mk hl166_0; clear hi166_0 hl166_0; replace p166 := eq_true p166; replace q166 := eq_true q166; obtain ⟨hcz27_0, hcz27_1, hcz27_2, hfz27_0, hfz27_1, hfz27_2⟩ := bF3 BK163.out; have p167 : 0 ≤ (x5_2 : Int) := of_decide_eq_true aO; have q167 : x5_2 < (l1_2.length : Int) := of_decide_eq_true aO; obtain ⟨ad167, A167_0, c167_0, e167, hx167_0, hl167_0, hi167_0⟩ := at_L3 HR1_2.out x5_2 p167 q167; cases e167; replace hx167_0 := cX HB hx167_0; have HR167_0 := Aside0.mk hi167_0; have HC167_0 := Aside0.mk hl167_0; clear hi167_0 hl167_0; replace p167 := eq_true p167; replace q167 := eq_true q167
          go_wp2_with (first | (go_at_call 34; (with_reducible refine (tabardref12_ints.calls k2 _ _ (rd_L3 l0_2 x5_2) _ _ (rd_L3 l1_2 x5_2) true _ ?s1 ?s2 ?s3 ?s4 A23.out).mono ?_); (case s1 => exact cB HR166_0 HB); (case s2 => exact HC166_0.out); (case s3 => exact cB HR167_0 HB); (case s4 => exact HC167_0.out); rintro e w' ⟨rfl, ⟨nd, rfl⟩⟩; (try exact dN)))
          repeat (go_quiet (first | (go_at_call 34; (with_reducible refine (tabardref12_ints.calls k2 _ _ (rd_L3 l0_2 x5_2) _ _ (rd_L3 l1_2 x5_2) true _ ?s1 ?s2 ?s3 ?s4 A23.out).mono ?_); (case s1 => exact cB HR166_0 HB); (case s2 => exact HC166_0.out); (case s3 => exact cB HR167_0 HB); (case s4 => exact HC167_0.out); rintro e w' ⟨rfl, ⟨nd, rfl⟩⟩; (try exact dN))); try go_wp2_with (first | (go_at_call 34; (with_reducible refine (tabardref12_ints.calls k2 _ _ (rd_L3 l0_2 x5_2) _ _ (rd_L3 l1_2 x5_2) true _ ?s1 ?s2 ?s3 ?s4 A23.out).mono ?_); (case s1 => exact cB HR166_0 HB); (case s2 => exact HC166_0.out); (case s3 => exact cB HR167_0 HB); (case s4 => exact HC167_0.out); rintro e w' ⟨rfl, ⟨nd, rfl⟩⟩; (try exact dN))))
          go_roundg k2
          case measure => have := HJ2.out; have := HK2.out; omega
          case rel => exact ⟨(wrap64 (x5_2 + 1)), sI, H', ⟨by have := HJ2.out; have := HK2.out; omega⟩, ⟨kO BK162.out⟩, ⟨kO BK163.out⟩, ⟨bS2 HB.out GE162.out GE163.out⟩⟩
         ·replace c24 := Bool.eq_false_iff.mpr c24; subst c24
          have H1 : (none) = some r := by rw [if_neg (show ¬ (false = true) by decide)] at H; exact H
          clear H; have H := H1; clear H1; exact absurd H (by simp)
        ·rw [if_neg c22] at H; exact absurd H (by simp)
       ·rw [if_neg c21] at H; exact absurd H (by simp)
      ·rw [if_neg c20] at H; have c20b0 := decide_eq_false c20; clear c20; obtain rfl := Option.some.inj H; have hnb28 := NB162_163.out; have hnc28 := NB163_162.out; obtain ⟨hcz29_0, hcz29_1, hcz29_2, hfz29_0, hfz29_1, hfz29_2⟩ := bF3 BK162.out
       go_wp2
       repeat (go_quiet (fail); try go_wp2)
       go_ret
       exact ⟨eW, bS2 HB.out GE162.out GE163.out⟩

end Go.Proofs.Ythgoonohpfoagaa.X

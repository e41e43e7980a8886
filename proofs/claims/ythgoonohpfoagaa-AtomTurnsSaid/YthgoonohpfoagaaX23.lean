/- What the functions of this seat compute, and that the program's calls come to just that: written by this session's own program out of the translation; no condition. -/
import Derived.Test.YthgoonohpfoagaaX0
import Derived.Test.YthgoonohpfoagaaX17
import Derived.Test.YthgoonohpfoagaaX22
namespace Go.Proofs.Ythgoonohpfoagaa.X
open Go.RowKit Go.Proofs.YthgoonohpfoagaaW.PrintWords Go.Proofs.YthgoonohpfoagaaW.PrintLast Go.Proofs.YthgoonohpfoagaaW.PrintMore
attribute [local go_sem] max2_int min2_int max_two min_two max_three min_three max_four min_four
set_option linter.unusedVariables false
set_option linter.unusedSimpArgs false

/-! ### tabardref12_Right: function 16 -/
mutual
def tabardref12_Right.j0 : Nat → Int → Bool → List ByteArray → List Bool → List (List Int) → Option (Bool)
 | 0, _, _, _, _, _ => none
 | k + 1, x3, x20, x251000, x251001, x251002 => if x20 = true then (none) else (tabardref12_Right.l0 k x3 0 x251000 x251001 x251002)
def tabardref12_Right.l0 : Nat → Int → Int → List ByteArray → List Bool → List (List Int) → Option (Bool)
 | 0, _, _, _, _, _ => none
 | k + 1, x3, x4, x251000, x251001, x251002 => if x4 < x3 then (if 0 ≤ x4 then (if x4 < (x251002.length : Int) then ((tabardref12_Letters.f k (x251000.length : Int)).bind fun t253 => (if ((rd_L3 x251002 x4).length : Int) = t253 then (tabardref12_Right.l1 k x3 x4 0 x251000 x251001 x251002) else (none))) else (none)) else (none)) else (some true)
def tabardref12_Right.l1 : Nat → Int → Int → Int → List ByteArray → List Bool → List (List Int) → Option (Bool)
 | 0, _, _, _, _, _, _ => none
 | k + 1, x3, x4, x5, x251000, x251001, x251002 => if 0 ≤ x4 then (if x4 < (x251002.length : Int) then (if x5 < ((rd_L3 x251002 x4).length : Int) then (if 0 ≤ x5 then (if (rd (rd_L3 x251002 x4) x5) < 0 then (none) else (if (rd (rd_L3 x251002 x4) x5) ≥ x3 then (none) else (tabardref12_Right.l1 k x3 x4 (wrap64 (x5 + 1)) x251000 x251001 x251002))) else (none)) else (tabardref12_Right.l0 k x3 (wrap64 (x4 + 1)) x251000 x251001 x251002)) else (none)) else (none)
end
def tabardref12_Right.f (k : Nat) (l0_0 : List ByteArray) (l0_1 : List Bool) (l0_2 : List (List Int)) : Option (Bool) := (tabardref12_Frame.f k l0_0 (l0_1.length : Int)).bind fun t251 => (if t251 = true then (tabardref12_Right.j0 k (l0_1.length : Int) ((l0_2.length : Int) != (l0_1.length : Int)) l0_0 l0_1 l0_2) else (tabardref12_Right.j0 k (l0_1.length : Int) true l0_0 l0_1 l0_2))
theorem tabardref12_Right.mono_l : ∀ k, (∀ y0 y1 y2 y3 y4, LeO (tabardref12_Right.j0 k y0 y1 y2 y3 y4) (tabardref12_Right.j0 (k + 1) y0 y1 y2 y3 y4)) ∧ (∀ y0 y1 y2 y3 y4, LeO (tabardref12_Right.l0 k y0 y1 y2 y3 y4) (tabardref12_Right.l0 (k + 1) y0 y1 y2 y3 y4)) ∧ (∀ y0 y1 y2 y3 y4 y5, LeO (tabardref12_Right.l1 k y0 y1 y2 y3 y4 y5) (tabardref12_Right.l1 (k + 1) y0 y1 y2 y3 y4 y5))
 | 0 => ⟨fun _ _ _ _ _ r h => by simp [tabardref12_Right.j0] at h, fun _ _ _ _ _ r h => by simp [tabardref12_Right.l0] at h, fun _ _ _ _ _ _ r h => by simp [tabardref12_Right.l1] at h⟩
 | k + 1 => by
  obtain ⟨ih0, ih1, ih2⟩ := tabardref12_Right.mono_l k; refine ⟨?_, ?_, ?_⟩
  ·intro y0 y1 y2 y3 y4
   unfold tabardref12_Right.j0
   repeat' first | (with_reducible first | exact ih0 _ _ _ _ _ | exact ih1 _ _ _ _ _ | exact ih2 _ _ _ _ _ _ | exact tabardref12_Frame.mono _ _ _ | exact tabardref12_Letters.mono _ _ | exact lA | apply lI | refine lB ?_ fun _ => ?_) | exact lN _ | apply lI | refine lB ?_ fun _ => ?_
  ·intro y0 y1 y2 y3 y4
   unfold tabardref12_Right.l0
   repeat' first | (with_reducible first | exact ih0 _ _ _ _ _ | exact ih1 _ _ _ _ _ | exact ih2 _ _ _ _ _ _ | exact tabardref12_Frame.mono _ _ _ | exact tabardref12_Letters.mono _ _ | exact lA | apply lI | refine lB ?_ fun _ => ?_) | exact lN _ | apply lI | refine lB ?_ fun _ => ?_
  ·intro y0 y1 y2 y3 y4 y5
   unfold tabardref12_Right.l1
   repeat' first | (with_reducible first | exact ih0 _ _ _ _ _ | exact ih1 _ _ _ _ _ | exact ih2 _ _ _ _ _ _ | exact tabardref12_Frame.mono _ _ _ | exact tabardref12_Letters.mono _ _ | exact lA | apply lI | refine lB ?_ fun _ => ?_) | exact lN _ | apply lI | refine lB ?_ fun _ => ?_
theorem tabardref12_Right.mono : ∀ a0 a1 a2 k, LeO (tabardref12_Right.f k a0 a1 a2) (tabardref12_Right.f (k + 1) a0 a1 a2) := by
 intro a0 a1 a2 k; obtain ⟨ih0, ih1, ih2⟩ := tabardref12_Right.mono_l k
 unfold tabardref12_Right.f
 repeat' first | (with_reducible first | exact ih0 _ _ _ _ _ | exact ih1 _ _ _ _ _ | exact ih2 _ _ _ _ _ _ | exact tabardref12_Frame.mono _ _ _ | exact tabardref12_Letters.mono _ _ | exact lA | apply lI | refine lB ?_ fun _ => ?_) | exact lN _ | apply lI | refine lB ?_ fun _ => ?_
set_option maxHeartbeats 8000000 in
set_option maxRecDepth 100000 in
theorem tabardref12_Right.calls (k : Nat) (A0_0 : Option Addr) (c0_0 : Nat) (l0_0 : List ByteArray) (A0_1 : Option Addr) (c0_1 : Nat) (l0_1 : List Bool) (A0_2 : Option Addr) (c0_2 : Nat) (l0_2 : List (List Int)) (r : Bool) (w : World) (hr0_0 : Kd.C Kd.string w A0_0 l0_0.length l0_0) (hc0_0 : l0_0.length ≤ c0_0) (hr0_1 : Kd.C Kd.bool w A0_1 l0_1.length l0_1) (hc0_1 : l0_1.length ≤ c0_1) (hr0_2 : Kd.C (Kd.slice 3 (Kd.int .i64)) w A0_2 l0_2.length l0_2) (hc0_2 : l0_2.length ≤ c0_2) (h : tabardref12_Right.f k l0_0 l0_1 l0_2 = some r) :
  Calls Try.prog 16 #[.agg #[.slice A0_0 l0_0.length c0_0, .slice A0_1 l0_1.length c0_1, .slice A0_2 l0_2.length c0_2]] w fun e w' => e = .returned (.bool r) ∧ Below w.heap.size w w' := by
 have hu31 := Try.underlying31; have HR0_0 := Aside0.mk hr0_0; have HC0_0 := Aside0.mk hc0_0; clear hr0_0 hc0_0; have HR0_1 := Aside0.mk hr0_1; have HC0_1 := Aside0.mk hc0_1; clear hr0_1 hc0_1; have HR0_2 := Aside0.mk hr0_2; have HC0_2 := Aside0.mk hc0_2; clear hr0_2 hc0_2; have HB := Aside0.mk (Below.refl w.heap.size w); have H : ((tabardref12_Frame.f k l0_0 (l0_1.length : Int)).bind fun t251 => (if t251 = true then (tabardref12_Right.j0 k (l0_1.length : Int) ((l0_2.length : Int) != (l0_1.length : Int)) l0_0 l0_1 l0_2) else (tabardref12_Right.j0 k (l0_1.length : Int) true l0_0 l0_1 l0_2))) = some r := h; clear h; have HC2 := Aside0.mk H; clear H
 go_enter Try.func16, Try.ntmps16
 go_upto_region 2 with (first | ((with_reducible refine gate_dst (N := 1) rfl ?_); (try (refine gate_guard (by rfl) ?_; dsimp only)); refine be_ (cs := #[.slice A0_0 l0_0.length c0_0, .slice A0_1 l0_1.length c0_1, .slice A0_2 l0_2.length c0_2]) (t := 31) ?_; intro gb250 hg w3 hbox hb; have BK250 := Aside0.mk (hbox); have GW250 := gE hg (bO HB.out); have GE250 := gE hg (bO HB.out); replace HB := hS0 HB hb; clear hb hbox hg; obtain ⟨hcz4_0, hcz4_1, hcz4_2, hfz4_0, hfz4_1, hfz4_2⟩ := bF3 BK250.out))
 repeat (go_quiet (first | ((with_reducible refine gate_dst (N := 1) rfl ?_); (try (refine gate_guard (by rfl) ?_; dsimp only)); refine be_ (cs := #[.slice A0_0 l0_0.length c0_0, .slice A0_1 l0_1.length c0_1, .slice A0_2 l0_2.length c0_2]) (t := 31) ?_; intro gb250 hg w3 hbox hb; have BK250 := Aside0.mk (hbox); have GW250 := gE hg (bO HB.out); have GE250 := gE hg (bO HB.out); replace HB := hS0 HB hb; clear hb hbox hg; obtain ⟨hcz4_0, hcz4_1, hcz4_2, hfz4_0, hfz4_1, hfz4_2⟩ := bF3 BK250.out)); go_upto_region 2 with (first | ((with_reducible refine gate_dst (N := 1) rfl ?_); (try (refine gate_guard (by rfl) ?_; dsimp only)); refine be_ (cs := #[.slice A0_0 l0_0.length c0_0, .slice A0_1 l0_1.length c0_1, .slice A0_2 l0_2.length c0_2]) (t := 31) ?_; intro gb250 hg w3 hbox hb; have BK250 := Aside0.mk (hbox); have GW250 := gE hg (bO HB.out); have GE250 := gE hg (bO HB.out); replace HB := hS0 HB hb; clear hb hbox hg; obtain ⟨hcz4_0, hcz4_1, hcz4_2, hfz4_0, hfz4_1, hfz4_2⟩ := bF3 BK250.out)))
 (try simp only [Act.put, sA, sB, sC])
 go_cut [20] (fun v20 wc => ∃ (kq : Nat) (x20_1 : Bool), v20 = .bool x20_1 ∧ Aside0 (tabardref12_Right.j0 kq (l0_1.length : Int) x20_1 l0_0 l0_1 l0_2 = some r) ∧ Aside0 (kq ≤ k) ∧ Aside0 (wc.heap[gb250]? = some (.cells #[(.slice A0_0 l0_0.length c0_0), (.slice A0_1 l0_1.length c0_1), (.slice A0_2 l0_2.length c0_2)] 31 (0, 0))) ∧ Aside0 (Below w.heap.size w wc))
 case first =>
  have H := HC2.out; clear HC2; replace H := Option.bind_eq_some_iff.mp H; obtain ⟨t251, A50, H⟩ := H; replace H : (if t251 = true then (tabardref12_Right.j0 k (l0_1.length : Int) ((l0_2.length : Int) != (l0_1.length : Int)) l0_0 l0_1 l0_2) else (tabardref12_Right.j0 k (l0_1.length : Int) true l0_0 l0_1 l0_2)) = some r := H; have A5 := Aside0.mk A50; clear A50
  by_cases c6 : t251 = true
  ·subst c6
   have H1 : (tabardref12_Right.j0 k (l0_1.length : Int) ((l0_2.length : Int) != (l0_1.length : Int)) l0_0 l0_1 l0_2) = some r := by rw [if_pos rfl] at H; exact H
   clear H; have H := H1; clear H1; have H' := Aside0.mk H; clear H; obtain ⟨hcz7_0, hcz7_1, hcz7_2, hfz7_0, hfz7_1, hfz7_2⟩ := bF3 BK250.out
   go_wp2_with (first | (go_at_call 35; (with_reducible refine (tabardref12_Frame.calls k _ _ l0_0 (l0_1.length : Int) true _ ?s1 ?s2 A5.out).mono ?_); (case s1 => exact cB HR0_0 HB); (case s2 => exact HC0_0.out); rintro e w8 ⟨rfl, hb⟩; replace BK250 := kB BK250 hb; replace HB := hS1 HB GE250 hb; (try clear hb); (try clear hb2); (try clear hk); (try clear hi); obtain ⟨hcz9_0, hcz9_1, hcz9_2, hfz9_0, hfz9_1, hfz9_2⟩ := bF3 BK250.out))
   repeat (go_quiet (first | (go_at_call 35; (with_reducible refine (tabardref12_Frame.calls k _ _ l0_0 (l0_1.length : Int) true _ ?s1 ?s2 A5.out).mono ?_); (case s1 => exact cB HR0_0 HB); (case s2 => exact HC0_0.out); rintro e w8 ⟨rfl, hb⟩; replace BK250 := kB BK250 hb; replace HB := hS1 HB GE250 hb; (try clear hb); (try clear hb2); (try clear hk); (try clear hi); obtain ⟨hcz9_0, hcz9_1, hcz9_2, hfz9_0, hfz9_1, hfz9_2⟩ := bF3 BK250.out)); try go_wp2_with (first | (go_at_call 35; (with_reducible refine (tabardref12_Frame.calls k _ _ l0_0 (l0_1.length : Int) true _ ?s1 ?s2 A5.out).mono ?_); (case s1 => exact cB HR0_0 HB); (case s2 => exact HC0_0.out); rintro e w8 ⟨rfl, hb⟩; replace BK250 := kB BK250 hb; replace HB := hS1 HB GE250 hb; (try clear hb); (try clear hb2); (try clear hk); (try clear hi); obtain ⟨hcz9_0, hcz9_1, hcz9_2, hfz9_0, hfz9_1, hfz9_2⟩ := bF3 BK250.out)))
   go_meet
   case rel => exact ⟨_, (((l0_2.length : Int) != (l0_1.length : Int))), sI, H', ⟨by first | omega | exact Nat.le_refl _⟩, ⟨kO BK250.out⟩, ⟨bS1 HB.out GE250.out⟩⟩
  ·replace c6 := Bool.eq_false_iff.mpr c6; subst c6
   have H1 : (tabardref12_Right.j0 k (l0_1.length : Int) true l0_0 l0_1 l0_2) = some r := by rw [if_neg (show ¬ (false = true) by decide)] at H; exact H
   clear H; have H := H1; clear H1; have H' := Aside0.mk H; clear H; obtain ⟨hcz10_0, hcz10_1, hcz10_2, hfz10_0, hfz10_1, hfz10_2⟩ := bF3 BK250.out
   go_wp2_with (first | (go_at_call 35; (with_reducible refine (tabardref12_Frame.calls k _ _ l0_0 (l0_1.length : Int) false _ ?s1 ?s2 A5.out).mono ?_); (case s1 => exact cB HR0_0 HB); (case s2 => exact HC0_0.out); rintro e w11 ⟨rfl, hb⟩; replace BK250 := kB BK250 hb; replace HB := hS1 HB GE250 hb; (try clear hb); (try clear hb2); (try clear hk); (try clear hi)))
   repeat (go_quiet (first | (go_at_call 35; (with_reducible refine (tabardref12_Frame.calls k _ _ l0_0 (l0_1.length : Int) false _ ?s1 ?s2 A5.out).mono ?_); (case s1 => exact cB HR0_0 HB); (case s2 => exact HC0_0.out); rintro e w11 ⟨rfl, hb⟩; replace BK250 := kB BK250 hb; replace HB := hS1 HB GE250 hb; (try clear hb); (try clear hb2); (try clear hk); (try clear hi))); try go_wp2_with (first | (go_at_call 35; (with_reducible refine (tabardref12_Frame.calls k _ _ l0_0 (l0_1.length : Int) false _ ?s1 ?s2 A5.out).mono ?_); (case s1 => exact cB HR0_0 HB); (case s2 => exact HC0_0.out); rintro e w11 ⟨rfl, hb⟩; replace BK250 := kB BK250 hb; replace HB := hS1 HB GE250 hb; (try clear hb); (try clear hb2); (try clear hk); (try clear hi))))
   go_meet
   case rel => exact ⟨_, (true), sI, H', ⟨by first | omega | exact Nat.le_refl _⟩, ⟨kO BK250.out⟩, ⟨bS1 HB.out GE250.out⟩⟩
 case rest =>
  clear HC2
  try clear c1
  try clear p2
  try clear c6
  try clear hcz10_0
  try clear hcz10_1
  try clear hcz10_2
  try clear hcz4_0
  try clear hcz4_1
  try clear hcz4_2
  try clear hcz7_0
  try clear hcz7_1
  try clear hcz7_2
  try clear hcz9_0
  try clear hcz9_1
  try clear hcz9_2
  try clear hfz10_0
  try clear hfz10_1
  try clear hfz10_2
  try clear hfz4_0
  try clear hfz4_1
  try clear hfz4_2
  try clear hfz7_0
  try clear hfz7_1
  try clear hfz7_2
  try clear hfz9_0
  try clear hfz9_1
  try clear hfz9_2
  obtain ⟨kq, x20_1, rfl, HA, HJ1, BK250, HB⟩ := hcut; cases kq with
  | zero => exact absurd HA.out (by simp [tabardref12_Right.j0])
  | succ kj1 =>
   have H := HA.out; clear HA; simp only [tabardref12_Right.j0] at H
   by_cases c12 : x20_1 = true
   ·subst c12
    have H1 : (none) = some r := by rw [if_pos rfl] at H; exact H
    clear H; have H := H1; clear H1; exact absurd H (by simp)
   ·replace c12 := Bool.eq_false_iff.mpr c12; subst c12
    have H1 : (tabardref12_Right.l0 kj1 (l0_1.length : Int) 0 l0_0 l0_1 l0_2) = some r := by rw [if_neg (show ¬ (false = true) by decide)] at H; exact H
    clear H; have H := H1; clear H1; have H' := Aside0.mk H; clear H
    go_wp2
    repeat (go_quiet (fail); try go_wp2)
    go_loopg [4] kj1 (fun kq v4 w' => ∃ (x4_2 : Int), v4 = .int .i64 x4_2 ∧ Aside0 (tabardref12_Right.l0 kq (l0_1.length : Int) x4_2 l0_0 l0_1 l0_2 = some r) ∧ Aside0 (kq ≤ kj1) ∧ Aside0 (w'.heap[gb250]? = some (.cells #[(.slice A0_0 l0_0.length c0_0), (.slice A0_1 l0_1.length c0_1), (.slice A0_2 l0_2.length c0_2)] 31 (0, 0))) ∧ Aside0 (Below w.heap.size w w'))
    case atStart => exact ⟨(0), sI, H', ⟨Nat.le_refl _⟩, ⟨kO BK250.out⟩, ⟨bS1 HB.out GE250.out⟩⟩
    case round =>
     clear H'
     try clear c1
     try clear p2
     try clear c6
     try clear c12
     try clear hcz10_0
     try clear hcz10_1
     try clear hcz10_2
     try clear hcz4_0
     try clear hcz4_1
     try clear hcz4_2
     try clear hcz7_0
     try clear hcz7_1
     try clear hcz7_2
     try clear hcz9_0
     try clear hcz9_1
     try clear hcz9_2
     try clear hfz10_0
     try clear hfz10_1
     try clear hfz10_2
     try clear hfz4_0
     try clear hfz4_1
     try clear hfz4_2
     try clear hfz7_0
     try clear hfz7_1
     try clear hfz7_2
     try clear hfz9_0
     try clear hfz9_1
     try clear hfz9_2
     try clear p2
     obtain ⟨x4_2, rfl, HA, HK2, BK250, HB⟩ := hrel; cases gk with
     | zero => exact absurd HA.out (by simp [tabardref12_Right.l0])
     | succ k2 =>
      have H := HA.out; clear HA; simp only [tabardref12_Right.l0] at H
      by_cases c13 : x4_2 < (l0_1.length : Int)
      ·rw [if_pos c13] at H; have c13b0 := decide_eq_true c13; clear c13
       by_cases c14 : 0 ≤ x4_2
       ·rw [if_pos c14] at H; have c14b0 := decide_eq_true c14; clear c14
        by_cases c15 : x4_2 < (l0_2.length : Int)
        ·rw [if_pos c15] at H; have c15b0 := decide_eq_true c15; clear c15; replace H := Option.bind_eq_some_iff.mp H; obtain ⟨t253, A160, H⟩ := H; replace H : (if ((rd_L3 l0_2 x4_2).length : Int) = t253 then (tabardref12_Right.l1 k2 (l0_1.length : Int) x4_2 0 l0_0 l0_1 l0_2) else (none)) = some r := H; have A16 := Aside0.mk A160; clear A160
         by_cases c17 : ((rd_L3 l0_2 x4_2).length : Int) = t253
         ·rw [if_pos c17] at H; obtain ⟨c17b0, c17b1⟩ := bq c17; clear c17; have H' := Aside0.mk H; clear H; obtain ⟨hcz18_0, hcz18_1, hcz18_2, hfz18_0, hfz18_1, hfz18_2⟩ := bF3 BK250.out; have p252 : 0 ≤ (x4_2 : Int) := of_decide_eq_true aO; have q252 : x4_2 < (l0_2.length : Int) := of_decide_eq_true aO; obtain ⟨ad252, A252_0, c252_0, e252, hx252_0, hl252_0, hi252_0⟩ := at_L3 HR0_2.out x4_2 p252 q252; cases e252; replace hx252_0 := cX HB hx252_0; have HR252_0 := Aside0.mk hi252_0; have HC252_0 := Aside0.mk hl252_0; clear hi252_0 hl252_0; replace p252 := eq_true p252; replace q252 := eq_true q252
          go_wp2_with (first | (go_at_call 29; (with_reducible refine (tabardref12_Letters.calls k2 (l0_0.length : Int) t253 _ A16.out).mono ?_); rintro e w' ⟨rfl, ⟨nd, rfl⟩⟩; (try exact dN)))
          repeat (go_quiet (first | (go_at_call 29; (with_reducible refine (tabardref12_Letters.calls k2 (l0_0.length : Int) t253 _ A16.out).mono ?_); rintro e w' ⟨rfl, ⟨nd, rfl⟩⟩; (try exact dN))); try go_wp2_with (first | (go_at_call 29; (with_reducible refine (tabardref12_Letters.calls k2 (l0_0.length : Int) t253 _ A16.out).mono ?_); rintro e w' ⟨rfl, ⟨nd, rfl⟩⟩; (try exact dN))))
          go_loopg [5] k2 (fun kq v5 w' => ∃ (x5_3 : Int), v5 = .int .i64 x5_3 ∧ Aside0 (tabardref12_Right.l1 kq (l0_1.length : Int) x4_2 x5_3 l0_0 l0_1 l0_2 = some r) ∧ Aside0 (kq ≤ k2) ∧ Aside0 (w'.heap[gb250]? = some (.cells #[(.slice A0_0 l0_0.length c0_0), (.slice A0_1 l0_1.length c0_1), (.slice (some ad252) l0_2.length c0_2)] 31 (0, 0))) ∧ Aside0 (Below w.heap.size w w'))
          case atStart => exact ⟨(0), sI, H', ⟨Nat.le_refl _⟩, ⟨kO BK250.out⟩, ⟨bS1 HB.out GE250.out⟩⟩
          case round =>
           clear H'
           try clear c1
           try clear c2
           try clear p2
           try clear q2
           try clear hx2
           try clear c6
           try clear c12
           try clear c13
           try clear c13b0
           try clear c14
           try clear c14b0
           try clear c15
           try clear c15b0
           try clear c16
           try clear c17
           try clear c17b0
           try clear c17b1
           try clear hcz10_0
           try clear hcz10_1
           try clear hcz10_2
           try clear hcz18_0
           try clear hcz18_1
           try clear hcz18_2
           try clear hcz4_0
           try clear hcz4_1
           try clear hcz4_2
           try clear hcz7_0
           try clear hcz7_1
           try clear hcz7_2
           try clear hcz9_0
           try clear hcz9_1
           try clear hcz9_2
           try clear hfz10_0
           try clear hfz10_1
           try clear hfz10_2
           try clear hfz18_0
           try clear hfz18_1
           try clear hfz18_2
           try clear hfz4_0
           try clear hfz4_1
           try clear hfz4_2
           try clear hfz7_0
           try clear hfz7_1
           try clear hfz7_2
           try clear hfz9_0
           try clear hfz9_1
           try clear hfz9_2
           try clear hx252_0
           try clear p2
           try clear p252
           try clear q252
           obtain ⟨x5_3, rfl, HA, HK3, BK250, HB⟩ := hrel; cases gk with
           | zero => exact absurd HA.out (by simp [tabardref12_Right.l1])
           | succ k3 =>
            have H := HA.out; clear HA; simp only [tabardref12_Right.l1] at H
            by_cases c19 : 0 ≤ x4_2
            ·rw [if_pos c19] at H; have c19b0 := decide_eq_true c19; clear c19
             by_cases c20 : x4_2 < (l0_2.length : Int)
             ·rw [if_pos c20] at H; have c20b0 := decide_eq_true c20; clear c20
              by_cases c21 : x5_3 < ((rd_L3 l0_2 x4_2).length : Int)
              ·rw [if_pos c21] at H; have c21b0 := decide_eq_true c21; clear c21
               by_cases c22 : 0 ≤ x5_3
               ·rw [if_pos c22] at H; have c22b0 := decide_eq_true c22; clear c22
                by_cases c23 : (rd (rd_L3 l0_2 x4_2) x5_3) < 0
                ·rw [if_pos c23] at H; exact absurd H (by simp)
                ·rw [if_neg c23] at H; have c23b0 := decide_eq_false c23; clear c23
                 by_cases c24 : (rd (rd_L3 l0_2 x4_2) x5_3) ≥ (l0_1.length : Int)
                 ·rw [if_pos c24] at H; exact absurd H (by simp)
                 ·rw [if_neg c24] at H; have c24b0 := decide_eq_false c24; clear c24; have H' := Aside0.mk H; clear H; obtain ⟨hcz25_0, hcz25_1, hcz25_2, hfz25_0, hfz25_1, hfz25_2⟩ := bF3 BK250.out; have p254 : 0 ≤ (x4_2 : Int) := of_decide_eq_true aO; have q254 : x4_2 < (l0_2.length : Int) := of_decide_eq_true aO; obtain ⟨ad254, A254_0, c254_0, e254, hx254_0, hl254_0, hi254_0⟩ := at_L3 HR0_2.out x4_2 p254 q254; have he_ : ad252 = ad254 := (by injection e254); subst he_; replace hx254_0 := cX HB hx254_0; have HR254_0 := Aside0.mk hi254_0; have HC254_0 := Aside0.mk hl254_0; clear hi254_0 hl254_0; replace p254 := eq_true p254; replace q254 := eq_true q254; have p255 : 0 ≤ (x4_2 : Int) := of_decide_eq_true aO; have q255 : x4_2 < (l0_2.length : Int) := of_decide_eq_true aO; obtain ⟨ad255, A255_0, c255_0, e255, hx255_0, hl255_0, hi255_0⟩ := at_L3 HR0_2.out x4_2 p255 q255; have he_ : ad252 = ad255 := (by injection e255); subst he_; replace hx255_0 := cX HB hx255_0; have HR255_0 := Aside0.mk hi255_0; have HC255_0 := Aside0.mk hl255_0; clear hi255_0 hl255_0; replace p255 := eq_true p255; replace q255 := eq_true q255; have ea_ := Option.some.inj (hx254_0.symm.trans hx255_0)
                  injection ea_ with ea_ en_ ec_
                  subst ea_; subst ec_; clear en_; have p256 : 0 ≤ (x5_3 : Int) := of_decide_eq_true aO; have q256 : x5_3 < ((rd_L3 l0_2 x4_2).length : Int) := of_decide_eq_true aO; obtain ⟨ad256, e256, hx256_0⟩ := Kd.at_int HR255_0.out x5_3 p256 q256; cases e256; replace hx256_0 := cX HB hx256_0; replace p256 := eq_true p256; replace q256 := eq_true q256; have p257 : 0 ≤ (x4_2 : Int) := of_decide_eq_true aO; have q257 : x4_2 < (l0_2.length : Int) := of_decide_eq_true aO; obtain ⟨ad257, A257_0, c257_0, e257, hx257_0, hl257_0, hi257_0⟩ := at_L3 HR0_2.out x4_2 p257 q257; have he_ : ad252 = ad257 := (by injection e257); subst he_; replace hx257_0 := cX HB hx257_0; have HR257_0 := Aside0.mk hi257_0; have HC257_0 := Aside0.mk hl257_0; clear hi257_0 hl257_0; replace p257 := eq_true p257; replace q257 := eq_true q257; have ea_ := Option.some.inj (hx254_0.symm.trans hx257_0)
                  injection ea_ with ea_ en_ ec_
                  subst ea_; subst ec_; clear en_; have p258 : 0 ≤ (x5_3 : Int) := of_decide_eq_true aO; have q258 : x5_3 < ((rd_L3 l0_2 x4_2).length : Int) := of_decide_eq_true aO; obtain ⟨ad258, e258, hx258_0⟩ := Kd.at_int HR257_0.out x5_3 p258 q258; cases e258; replace hx258_0 := cX HB hx258_0; replace p258 := eq_true p258; replace q258 := eq_true q258
                  go_wp2
                  repeat (go_quiet (fail); try go_wp2)
                  go_roundg k3
                  case measure => have := HJ1.out; have := HK2.out; have := HK3.out; omega
                  case rel => exact ⟨(wrap64 (x5_3 + 1)), sI, H', ⟨by have := HJ1.out; have := HK2.out; have := HK3.out; omega⟩, ⟨kO BK250.out⟩, ⟨bS1 HB.out GE250.out⟩⟩
               ·rw [if_neg c22] at H; exact absurd H (by simp)
              ·rw [if_neg c21] at H; have c21b0 := decide_eq_false c21; clear c21; have H' := Aside0.mk H; clear H; obtain ⟨hcz26_0, hcz26_1, hcz26_2, hfz26_0, hfz26_1, hfz26_2⟩ := bF3 BK250.out; have p254 : 0 ≤ (x4_2 : Int) := of_decide_eq_true aO; have q254 : x4_2 < (l0_2.length : Int) := of_decide_eq_true aO; obtain ⟨ad254, A254_0, c254_0, e254, hx254_0, hl254_0, hi254_0⟩ := at_L3 HR0_2.out x4_2 p254 q254; have he_ : ad252 = ad254 := (by injection e254); subst he_; replace hx254_0 := cX HB hx254_0; have HR254_0 := Aside0.mk hi254_0; have HC254_0 := Aside0.mk hl254_0; clear hi254_0 hl254_0; replace p254 := eq_true p254; replace q254 := eq_true q254
               go_wp2
               repeat (go_quiet (fail); try go_wp2)
               go_roundg k3
               case measure => have := HJ1.out; have := HK2.out; have := HK3.out; omega
               case rel => exact ⟨(wrap64 (x4_2 + 1)), sI, H', ⟨by have := HJ1.out; have := HK2.out; have := HK3.out; omega⟩, ⟨kO BK250.out⟩, ⟨bS1 HB.out GE250.out⟩⟩
             ·rw [if_neg c20] at H; exact absurd H (by simp)
            ·rw [if_neg c19] at H; exact absurd H (by simp)
         ·rw [if_neg c17] at H; exact absurd H (by simp)
        ·rw [if_neg c15] at H; exact absurd H (by simp)
       ·rw [if_neg c14] at H; exact absurd H (by simp)
      ·rw [if_neg c13] at H; have c13b0 := decide_eq_false c13; clear c13; obtain rfl := Option.some.inj H
       go_wp2
       repeat (go_quiet (fail); try go_wp2)
       go_ret
       exact ⟨eW, bS1 HB.out GE250.out⟩

end Go.Proofs.Ythgoonohpfoagaa.X

/- What the functions of this seat compute, and that the program's calls come to just that: written by this session's own program out of the translation; no condition. -/
import Derived.Test.YtghfclgcgecgdaaX0
import Derived.Test.YtghfclgcgecgdaaX31
namespace Go.Proofs.Ytghfclgcgecgdaa.X
open Go.RowKit Go.Proofs.YtghfclgcgecgdaaW.PrintWords Go.Proofs.YtghfclgcgecgdaaW.PrintLast Go.Proofs.YtghfclgcgecgdaaW.PrintMore
attribute [local go_sem] max2_int min2_int max_two min_two max_three min_three max_four min_four   -- for this text's walks alone
set_option linter.unusedVariables false
set_option linter.unusedSimpArgs false

/-! ### tabardref12_Right: function 11 -/
mutual
def tabardref12_Right.j0 : Nat → Int → Bool → List ByteArray → List Bool → List (List Int) → Option (Bool)
 | 0, _, _, _, _, _ => none
 | k + 1, x3, x20, x421000, x421001, x421002 => if x20 = true then (some false) else (tabardref12_Right.l0 k x3 0 x421000 x421001 x421002)
def tabardref12_Right.l0 : Nat → Int → Int → List ByteArray → List Bool → List (List Int) → Option (Bool)
 | 0, _, _, _, _, _ => none
 | k + 1, x3, x4, x421000, x421001, x421002 => if x4 < x3 then (if 0 ≤ x4 then (if x4 < (x421002.length : Int) then ((tabardref12_Letters.f k (x421000.length : Int)).bind fun t423 => (if ((rd_L2 x421002 x4).length : Int) = t423 then (tabardref12_Right.l1 k x3 x4 0 x421000 x421001 x421002) else (some false))) else (none)) else (none)) else (some true)
def tabardref12_Right.l1 : Nat → Int → Int → Int → List ByteArray → List Bool → List (List Int) → Option (Bool)
 | 0, _, _, _, _, _, _ => none
 | k + 1, x3, x4, x5, x421000, x421001, x421002 => if 0 ≤ x4 then (if x4 < (x421002.length : Int) then (if x5 < ((rd_L2 x421002 x4).length : Int) then (if 0 ≤ x5 then (if (rd (rd_L2 x421002 x4) x5) < 0 then (some false) else (if (rd (rd_L2 x421002 x4) x5) ≥ x3 then (some false) else (tabardref12_Right.l1 k x3 x4 (wrap64 (x5 + 1)) x421000 x421001 x421002))) else (none)) else (tabardref12_Right.l0 k x3 (wrap64 (x4 + 1)) x421000 x421001 x421002)) else (none)) else (none)
end
def tabardref12_Right.f (k : Nat) (l0_0 : List ByteArray) (l0_1 : List Bool) (l0_2 : List (List Int)) : Option (Bool) := (tabardref12_Frame.f k l0_0 (l0_1.length : Int)).bind fun t421 => (if t421 = true then (tabardref12_Right.j0 k (l0_1.length : Int) ((l0_2.length : Int) != (l0_1.length : Int)) l0_0 l0_1 l0_2) else (tabardref12_Right.j0 k (l0_1.length : Int) true l0_0 l0_1 l0_2))
theorem tabardref12_Right.mono_l : ∀ k, (∀ y0 y1 y2 y3 y4, LeO (tabardref12_Right.j0 k y0 y1 y2 y3 y4) (tabardref12_Right.j0 (k + 1) y0 y1 y2 y3 y4)) ∧ (∀ y0 y1 y2 y3 y4, LeO (tabardref12_Right.l0 k y0 y1 y2 y3 y4) (tabardref12_Right.l0 (k + 1) y0 y1 y2 y3 y4)) ∧ (∀ y0 y1 y2 y3 y4 y5, LeO (tabardref12_Right.l1 k y0 y1 y2 y3 y4 y5) (tabardref12_Right.l1 (k + 1) y0 y1 y2 y3 y4 y5))
 | 0 => ⟨fun _ _ _ _ _ r h => by simp [tabardref12_Right.j0] at h, fun _ _ _ _ _ r h => by simp [tabardref12_Right.l0] at h, fun _ _ _ _ _ _ r h => by simp [tabardref12_Right.l1] at h⟩
 | k + 1 => by
  obtain ⟨ih0, ih1, ih2⟩ := tabardref12_Right.mono_l k; refine ⟨?_, ?_, ?_⟩
  ·intro y0 y1 y2 y3 y4
   unfold tabardref12_Right.j0
   repeat' first
   | (with_reducible exact ih0 _ _ _ _ _)
   | (with_reducible exact ih1 _ _ _ _ _)
   | (with_reducible exact ih2 _ _ _ _ _ _)
   | (with_reducible exact tabardref12_Frame.mono _ _ _)
   | (with_reducible exact tabardref12_Letters.mono _ _)
   | (with_reducible exact LeO.refl _)
   | (with_reducible exact LeO.none _)
   | (with_reducible refine LeO.ite ?_ ?_)
   | (with_reducible refine LeO.bind ?_ (fun _ => ?_))
   | exact LeO.none _
   | refine LeO.ite ?_ ?_
   | refine LeO.bind ?_ (fun _ => ?_)
  ·intro y0 y1 y2 y3 y4
   unfold tabardref12_Right.l0
   repeat' first
   | (with_reducible exact ih0 _ _ _ _ _)
   | (with_reducible exact ih1 _ _ _ _ _)
   | (with_reducible exact ih2 _ _ _ _ _ _)
   | (with_reducible exact tabardref12_Frame.mono _ _ _)
   | (with_reducible exact tabardref12_Letters.mono _ _)
   | (with_reducible exact LeO.refl _)
   | (with_reducible exact LeO.none _)
   | (with_reducible refine LeO.ite ?_ ?_)
   | (with_reducible refine LeO.bind ?_ (fun _ => ?_))
   | exact LeO.none _
   | refine LeO.ite ?_ ?_
   | refine LeO.bind ?_ (fun _ => ?_)
  ·intro y0 y1 y2 y3 y4 y5
   unfold tabardref12_Right.l1
   repeat' first
   | (with_reducible exact ih0 _ _ _ _ _)
   | (with_reducible exact ih1 _ _ _ _ _)
   | (with_reducible exact ih2 _ _ _ _ _ _)
   | (with_reducible exact tabardref12_Frame.mono _ _ _)
   | (with_reducible exact tabardref12_Letters.mono _ _)
   | (with_reducible exact LeO.refl _)
   | (with_reducible exact LeO.none _)
   | (with_reducible refine LeO.ite ?_ ?_)
   | (with_reducible refine LeO.bind ?_ (fun _ => ?_))
   | exact LeO.none _
   | refine LeO.ite ?_ ?_
   | refine LeO.bind ?_ (fun _ => ?_)
theorem tabardref12_Right.mono : ∀ a0 a1 a2 k, LeO (tabardref12_Right.f k a0 a1 a2) (tabardref12_Right.f (k + 1) a0 a1 a2) := by
 intro a0 a1 a2 k; obtain ⟨ih0, ih1, ih2⟩ := tabardref12_Right.mono_l k
 unfold tabardref12_Right.f
 repeat' first
   | (with_reducible exact ih0 _ _ _ _ _)
   | (with_reducible exact ih1 _ _ _ _ _)
   | (with_reducible exact ih2 _ _ _ _ _ _)
   | (with_reducible exact tabardref12_Frame.mono _ _ _)
   | (with_reducible exact tabardref12_Letters.mono _ _)
   | (with_reducible exact LeO.refl _)
   | (with_reducible exact LeO.none _)
   | (with_reducible refine LeO.ite ?_ ?_)
   | (with_reducible refine LeO.bind ?_ (fun _ => ?_))
   | exact LeO.none _
   | refine LeO.ite ?_ ?_
   | refine LeO.bind ?_ (fun _ => ?_)
set_option maxHeartbeats 8000000 in
set_option maxRecDepth 100000 in
theorem tabardref12_Right.calls (k : Nat) (A0_0 : Option Addr) (c0_0 : Nat) (l0_0 : List ByteArray) (A0_1 : Option Addr) (c0_1 : Nat) (l0_1 : List Bool) (A0_2 : Option Addr) (c0_2 : Nat) (l0_2 : List (List Int)) (r : Bool) (w : World) (hr0_0 : Kd.C Kd.string w A0_0 l0_0.length l0_0) (hc0_0 : l0_0.length ≤ c0_0) (hr0_1 : Kd.C Kd.bool w A0_1 l0_1.length l0_1) (hc0_1 : l0_1.length ≤ c0_1) (hr0_2 : Kd.C (Kd.slice 3 (Kd.int .i64)) w A0_2 l0_2.length l0_2) (hc0_2 : l0_2.length ≤ c0_2) (h : tabardref12_Right.f k l0_0 l0_1 l0_2 = some r) :
  Calls Try.prog 11 #[.agg #[.slice A0_0 l0_0.length c0_0, .slice A0_1 l0_1.length c0_1, .slice A0_2 l0_2.length c0_2]] w fun e w' => e = .returned (.bool r) ∧ Below w.heap.size w w' := by
 have hu26 := Try.underlying26; have HR0_0 := Aside0.mk hr0_0; have HC0_0 := Aside0.mk hc0_0; clear hr0_0 hc0_0; have HR0_1 := Aside0.mk hr0_1; have HC0_1 := Aside0.mk hc0_1; clear hr0_1 hc0_1; have HR0_2 := Aside0.mk hr0_2; have HC0_2 := Aside0.mk hc0_2; clear hr0_2 hc0_2; have HB := Aside0.mk (Below.refl w.heap.size w); have H : ((tabardref12_Frame.f k l0_0 (l0_1.length : Int)).bind fun t421 => (if t421 = true then (tabardref12_Right.j0 k (l0_1.length : Int) ((l0_2.length : Int) != (l0_1.length : Int)) l0_0 l0_1 l0_2) else (tabardref12_Right.j0 k (l0_1.length : Int) true l0_0 l0_1 l0_2))) = some r := h; clear h; have HC2 := Aside0.mk H; clear H
 go_enter Try.func11, Try.ntmps11
 go_upto_region 2 with (first | ((with_reducible refine gate_dst (N := 1) rfl ?_); (try (refine gate_guard (by rfl) ?_; dsimp only)); refine be_ (cs := #[.slice A0_0 l0_0.length c0_0, .slice A0_1 l0_1.length c0_1, .slice A0_2 l0_2.length c0_2]) (t := 26) ?_; intro gb420 hg w3 hbox hb; have BK420 := Aside0.mk (hbox); have GW420 := gE hg (bO HB.out); have GE420 := gE hg (bO HB.out); replace HB := hS0 HB hb; clear hb hbox hg; obtain ⟨hcz4_0, hcz4_1, hcz4_2, hfz4_0, hfz4_1, hfz4_2⟩ := bF3 BK420.out))
 repeat (go_quiet (first | ((with_reducible refine gate_dst (N := 1) rfl ?_); (try (refine gate_guard (by rfl) ?_; dsimp only)); refine be_ (cs := #[.slice A0_0 l0_0.length c0_0, .slice A0_1 l0_1.length c0_1, .slice A0_2 l0_2.length c0_2]) (t := 26) ?_; intro gb420 hg w3 hbox hb; have BK420 := Aside0.mk (hbox); have GW420 := gE hg (bO HB.out); have GE420 := gE hg (bO HB.out); replace HB := hS0 HB hb; clear hb hbox hg; obtain ⟨hcz4_0, hcz4_1, hcz4_2, hfz4_0, hfz4_1, hfz4_2⟩ := bF3 BK420.out)); go_upto_region 2 with (first | ((with_reducible refine gate_dst (N := 1) rfl ?_); (try (refine gate_guard (by rfl) ?_; dsimp only)); refine be_ (cs := #[.slice A0_0 l0_0.length c0_0, .slice A0_1 l0_1.length c0_1, .slice A0_2 l0_2.length c0_2]) (t := 26) ?_; intro gb420 hg w3 hbox hb; have BK420 := Aside0.mk (hbox); have GW420 := gE hg (bO HB.out); have GE420 := gE hg (bO HB.out); replace HB := hS0 HB hb; clear hb hbox hg; obtain ⟨hcz4_0, hcz4_1, hcz4_2, hfz4_0, hfz4_1, hfz4_2⟩ := bF3 BK420.out)))
 (try simp only [Act.put, sA, sB, sC])
 go_cut [20] (fun v20 wc => ∃ (kq : Nat) (x20_1 : Bool), v20 = .bool x20_1 ∧ Aside0 (tabardref12_Right.j0 kq (l0_1.length : Int) x20_1 l0_0 l0_1 l0_2 = some r) ∧ Aside0 (kq ≤ k) ∧ Aside0 (wc.heap[gb420]? = some (.cells #[(.slice A0_0 l0_0.length c0_0), (.slice A0_1 l0_1.length c0_1), (.slice A0_2 l0_2.length c0_2)] 26 (0, 0))) ∧ Aside0 (Below w.heap.size w wc))
 case first =>
  have H := HC2.out; clear HC2; replace H := Option.bind_eq_some_iff.mp H; obtain ⟨t421, A50, H⟩ := H; replace H : (if t421 = true then (tabardref12_Right.j0 k (l0_1.length : Int) ((l0_2.length : Int) != (l0_1.length : Int)) l0_0 l0_1 l0_2) else (tabardref12_Right.j0 k (l0_1.length : Int) true l0_0 l0_1 l0_2)) = some r := H; have A5 := Aside0.mk A50; clear A50
  by_cases c6 : t421 = true
  ·subst c6
   have H1 : (tabardref12_Right.j0 k (l0_1.length : Int) ((l0_2.length : Int) != (l0_1.length : Int)) l0_0 l0_1 l0_2) = some r := by rw [if_pos rfl] at H; exact H
   clear H; have H := H1; clear H1; have H' := Aside0.mk H; clear H; obtain ⟨hcz7_0, hcz7_1, hcz7_2, hfz7_0, hfz7_1, hfz7_2⟩ := bF3 BK420.out
   go_wp2_with (first | (go_at_call 32; (with_reducible refine (tabardref12_Frame.calls k _ _ l0_0 (l0_1.length : Int) true _ ?s1 ?s2 A5.out).mono ?_); (case s1 => exact cB HR0_0 HB); (case s2 => exact HC0_0.out); rintro e w8 ⟨rfl, hb⟩; replace BK420 := kB BK420 hb; replace HB := hS1 HB GE420 hb; (try clear hb); (try clear hb2); (try clear hk); (try clear hi); obtain ⟨hcz9_0, hcz9_1, hcz9_2, hfz9_0, hfz9_1, hfz9_2⟩ := bF3 BK420.out))
   repeat (go_quiet (first | (go_at_call 32; (with_reducible refine (tabardref12_Frame.calls k _ _ l0_0 (l0_1.length : Int) true _ ?s1 ?s2 A5.out).mono ?_); (case s1 => exact cB HR0_0 HB); (case s2 => exact HC0_0.out); rintro e w8 ⟨rfl, hb⟩; replace BK420 := kB BK420 hb; replace HB := hS1 HB GE420 hb; (try clear hb); (try clear hb2); (try clear hk); (try clear hi); obtain ⟨hcz9_0, hcz9_1, hcz9_2, hfz9_0, hfz9_1, hfz9_2⟩ := bF3 BK420.out)); try go_wp2_with (first | (go_at_call 32; (with_reducible refine (tabardref12_Frame.calls k _ _ l0_0 (l0_1.length : Int) true _ ?s1 ?s2 A5.out).mono ?_); (case s1 => exact cB HR0_0 HB); (case s2 => exact HC0_0.out); rintro e w8 ⟨rfl, hb⟩; replace BK420 := kB BK420 hb; replace HB := hS1 HB GE420 hb; (try clear hb); (try clear hb2); (try clear hk); (try clear hi); obtain ⟨hcz9_0, hcz9_1, hcz9_2, hfz9_0, hfz9_1, hfz9_2⟩ := bF3 BK420.out)))
   go_meet
   case rel => exact ⟨_, (((l0_2.length : Int) != (l0_1.length : Int))), (by first | rfl | (simp; done) | (simp [*]; done)), H', ⟨by first | omega | exact Nat.le_refl _⟩, ⟨kO BK420.out⟩, ⟨bS1 HB.out GE420.out⟩⟩
  ·replace c6 := Bool.eq_false_iff.mpr c6; subst c6
   have H1 : (tabardref12_Right.j0 k (l0_1.length : Int) true l0_0 l0_1 l0_2) = some r := by rw [if_neg (show ¬ (false = true) by decide)] at H; exact H
   clear H; have H := H1; clear H1; have H' := Aside0.mk H; clear H; obtain ⟨hcz10_0, hcz10_1, hcz10_2, hfz10_0, hfz10_1, hfz10_2⟩ := bF3 BK420.out
   go_wp2_with (first | (go_at_call 32; (with_reducible refine (tabardref12_Frame.calls k _ _ l0_0 (l0_1.length : Int) false _ ?s1 ?s2 A5.out).mono ?_); (case s1 => exact cB HR0_0 HB); (case s2 => exact HC0_0.out); rintro e w11 ⟨rfl, hb⟩; replace BK420 := kB BK420 hb; replace HB := hS1 HB GE420 hb; (try clear hb); (try clear hb2); (try clear hk); (try clear hi)))
   repeat (go_quiet (first | (go_at_call 32; (with_reducible refine (tabardref12_Frame.calls k _ _ l0_0 (l0_1.length : Int) false _ ?s1 ?s2 A5.out).mono ?_); (case s1 => exact cB HR0_0 HB); (case s2 => exact HC0_0.out); rintro e w11 ⟨rfl, hb⟩; replace BK420 := kB BK420 hb; replace HB := hS1 HB GE420 hb; (try clear hb); (try clear hb2); (try clear hk); (try clear hi))); try go_wp2_with (first | (go_at_call 32; (with_reducible refine (tabardref12_Frame.calls k _ _ l0_0 (l0_1.length : Int) false _ ?s1 ?s2 A5.out).mono ?_); (case s1 => exact cB HR0_0 HB); (case s2 => exact HC0_0.out); rintro e w11 ⟨rfl, hb⟩; replace BK420 := kB BK420 hb; replace HB := hS1 HB GE420 hb; (try clear hb); (try clear hb2); (try clear hk); (try clear hi))))
   go_meet
   case rel => exact ⟨_, (true), (by first | rfl | (simp; done) | (simp [*]; done)), H', ⟨by first | omega | exact Nat.le_refl _⟩, ⟨kO BK420.out⟩, ⟨bS1 HB.out GE420.out⟩⟩
 case rest =>
  clear HC2
  try clear c1
  try clear p2
  try clear c6
  try clear c11
  try clear hcz10_0
  try clear hcz10_1
  try clear hcz10_2
  try clear hcz4_0
  try clear hcz4_1
  try clear hcz4_2
  try clear hcz7_0
  try clear hcz7_1
  try clear hcz7_2
  try clear hcz9_0
  try clear hcz9_1
  try clear hcz9_2
  try clear hfz10_0
  try clear hfz10_1
  try clear hfz10_2
  try clear hfz4_0
  try clear hfz4_1
  try clear hfz4_2
  try clear hfz7_0
  try clear hfz7_1
  try clear hfz7_2
  try clear hfz9_0
  try clear hfz9_1
  try clear hfz9_2
  obtain ⟨kq, x20_1, rfl, HA, HJ1, BK420, HB⟩ := hcut; cases kq with
  | zero => exact absurd HA.out (by simp [tabardref12_Right.j0])
  | succ kj1 =>
   have H := HA.out; clear HA; simp only [tabardref12_Right.j0] at H
   by_cases c12 : x20_1 = true
   ·subst c12
    have H1 : (some false) = some r := by rw [if_pos rfl] at H; exact H
    clear H; have H := H1; clear H1; obtain rfl := Option.some.inj H
    go_wp2
    repeat (go_quiet (fail); try go_wp2)
    go_ret
    exact ⟨eW, bS1 HB.out GE420.out⟩
   ·replace c12 := Bool.eq_false_iff.mpr c12; subst c12
    have H1 : (tabardref12_Right.l0 kj1 (l0_1.length : Int) 0 l0_0 l0_1 l0_2) = some r := by rw [if_neg (show ¬ (false = true) by decide)] at H; exact H
    clear H; have H := H1; clear H1; have H' := Aside0.mk H; clear H
    go_wp2
    repeat (go_quiet (fail); try go_wp2)
    go_loopg [4] kj1 (fun kq v4 w' => ∃ (x4_2 : Int), v4 = .int .i64 x4_2 ∧ Aside0 (tabardref12_Right.l0 kq (l0_1.length : Int) x4_2 l0_0 l0_1 l0_2 = some r) ∧ Aside0 (kq ≤ kj1) ∧ Aside0 (w'.heap[gb420]? = some (.cells #[(.slice A0_0 l0_0.length c0_0), (.slice A0_1 l0_1.length c0_1), (.slice A0_2 l0_2.length c0_2)] 26 (0, 0))) ∧ Aside0 (Below w.heap.size w w'))
    case atStart => exact ⟨(0), (by first | rfl | (simp; done) | (simp [*]; done)), H', ⟨Nat.le_refl _⟩, ⟨kO BK420.out⟩, ⟨bS1 HB.out GE420.out⟩⟩
    case round =>
     clear H'
     try clear c1
     try clear p2
     try clear c6
     try clear c11
     try clear c12
     try clear hcz10_0
     try clear hcz10_1
     try clear hcz10_2
     try clear hcz4_0
     try clear hcz4_1
     try clear hcz4_2
     try clear hcz7_0
     try clear hcz7_1
     try clear hcz7_2
     try clear hcz9_0
     try clear hcz9_1
     try clear hcz9_2
     try clear hfz10_0
     try clear hfz10_1
     try clear hfz10_2
     try clear hfz4_0
     try clear hfz4_1
     try clear hfz4_2
     try clear hfz7_0
     try clear hfz7_1
     try clear hfz7_2
     try clear hfz9_0
     try clear hfz9_1
     try clear hfz9_2
     try clear p2
     obtain ⟨x4_2, rfl, HA, HK2, BK420, HB⟩ := hrel; cases gk with
     | zero => exact absurd HA.out (by simp [tabardref12_Right.l0])
     | succ k2 =>
      have H := HA.out; clear HA; simp only [tabardref12_Right.l0] at H
      by_cases c13 : x4_2 < (l0_1.length : Int)
      ·rw [if_pos c13] at H; have c13b0 : decide (x4_2 < (l0_1.length : Int)) = true := decide_eq_true c13; clear c13
       by_cases c14 : 0 ≤ x4_2
       ·rw [if_pos c14] at H; have c14b0 : decide (0 ≤ x4_2) = true := decide_eq_true c14; clear c14
        by_cases c15 : x4_2 < (l0_2.length : Int)
        ·rw [if_pos c15] at H; have c15b0 : decide (x4_2 < (l0_2.length : Int)) = true := decide_eq_true c15; clear c15; replace H := Option.bind_eq_some_iff.mp H; obtain ⟨t423, A160, H⟩ := H; replace H : (if ((rd_L2 l0_2 x4_2).length : Int) = t423 then (tabardref12_Right.l1 k2 (l0_1.length : Int) x4_2 0 l0_0 l0_1 l0_2) else (some false)) = some r := H; have A16 := Aside0.mk A160; clear A160
         by_cases c17 : ((rd_L2 l0_2 x4_2).length : Int) = t423
         ·rw [if_pos c17] at H; have c17b0 : (((rd_L2 l0_2 x4_2).length : Int) == t423) = true := beq_iff_eq.mpr c17; have c17b1 : (((rd_L2 l0_2 x4_2).length : Int) != t423) = false := bne_eq_false_iff_eq.mpr c17; clear c17; have H' := Aside0.mk H; clear H; obtain ⟨hcz18_0, hcz18_1, hcz18_2, hfz18_0, hfz18_1, hfz18_2⟩ := bF3 BK420.out; have p422 : 0 ≤ (x4_2 : Int) := of_decide_eq_true aO; have q422 : x4_2 < (l0_2.length : Int) := of_decide_eq_true aO; obtain ⟨ad422, A422_0, c422_0, e422, hx422_0, hl422_0, hi422_0⟩ := at_L2 HR0_2.out x4_2 p422 q422; cases e422; replace hx422_0 := (HB.out.cell (World.block_lt_of_cell? w _ hx422_0)).trans hx422_0; have HR422_0 := Aside0.mk hi422_0; have HC422_0 := Aside0.mk hl422_0; clear hi422_0 hl422_0; replace p422 := eq_true p422; replace q422 := eq_true q422
          go_wp2_with (first | (go_at_call 33; (with_reducible refine (tabardref12_Letters.calls k2 (l0_0.length : Int) t423 _ A16.out).mono ?_); rintro e w' ⟨rfl, ⟨nd, rfl⟩⟩; (try first | exact ⟨rfl, _, World.drewN_drewN _ _ _⟩ | exact ⟨rfl, _, Eq.trans (World.drewN_drewN _ _ _) (congrArg (World.drewN _) (Nat.add_assoc _ _ _))⟩)))
          repeat (go_quiet (first | (go_at_call 33; (with_reducible refine (tabardref12_Letters.calls k2 (l0_0.length : Int) t423 _ A16.out).mono ?_); rintro e w' ⟨rfl, ⟨nd, rfl⟩⟩; (try first | exact ⟨rfl, _, World.drewN_drewN _ _ _⟩ | exact ⟨rfl, _, Eq.trans (World.drewN_drewN _ _ _) (congrArg (World.drewN _) (Nat.add_assoc _ _ _))⟩))); try go_wp2_with (first | (go_at_call 33; (with_reducible refine (tabardref12_Letters.calls k2 (l0_0.length : Int) t423 _ A16.out).mono ?_); rintro e w' ⟨rfl, ⟨nd, rfl⟩⟩; (try first | exact ⟨rfl, _, World.drewN_drewN _ _ _⟩ | exact ⟨rfl, _, Eq.trans (World.drewN_drewN _ _ _) (congrArg (World.drewN _) (Nat.add_assoc _ _ _))⟩))))
          go_loopg [5] k2 (fun kq v5 w' => ∃ (x5_3 : Int), v5 = .int .i64 x5_3 ∧ Aside0 (tabardref12_Right.l1 kq (l0_1.length : Int) x4_2 x5_3 l0_0 l0_1 l0_2 = some r) ∧ Aside0 (kq ≤ k2) ∧ Aside0 (w'.heap[gb420]? = some (.cells #[(.slice A0_0 l0_0.length c0_0), (.slice A0_1 l0_1.length c0_1), (.slice (some ad422) l0_2.length c0_2)] 26 (0, 0))) ∧ Aside0 (Below w.heap.size w w'))
          case atStart => exact ⟨(0), (by first | rfl | (simp; done) | (simp [*]; done)), H', ⟨Nat.le_refl _⟩, ⟨kO BK420.out⟩, ⟨bS1 HB.out GE420.out⟩⟩
          case round =>
           clear H'
           try clear c1
           try clear p2
           try clear c4
           try clear p4
           try clear q4
           try clear hx4
           try clear c6
           try clear c11
           try clear c12
           try clear c13
           try clear c13b0
           try clear c14
           try clear c14b0
           try clear c15
           try clear c15b0
           try clear c17
           try clear c17b0
           try clear c17b1
           try clear hcz10_0
           try clear hcz10_1
           try clear hcz10_2
           try clear hcz18_0
           try clear hcz18_1
           try clear hcz18_2
           try clear hcz4_0
           try clear hcz4_1
           try clear hcz4_2
           try clear hcz7_0
           try clear hcz7_1
           try clear hcz7_2
           try clear hcz9_0
           try clear hcz9_1
           try clear hcz9_2
           try clear hfz10_0
           try clear hfz10_1
           try clear hfz10_2
           try clear hfz18_0
           try clear hfz18_1
           try clear hfz18_2
           try clear hfz4_0
           try clear hfz4_1
           try clear hfz4_2
           try clear hfz7_0
           try clear hfz7_1
           try clear hfz7_2
           try clear hfz9_0
           try clear hfz9_1
           try clear hfz9_2
           try clear hx422_0
           try clear p2
           try clear p422
           try clear q422
           obtain ⟨x5_3, rfl, HA, HK3, BK420, HB⟩ := hrel; cases gk with
           | zero => exact absurd HA.out (by simp [tabardref12_Right.l1])
           | succ k3 =>
            have H := HA.out; clear HA; simp only [tabardref12_Right.l1] at H
            by_cases c19 : 0 ≤ x4_2
            ·rw [if_pos c19] at H; have c19b0 : decide (0 ≤ x4_2) = true := decide_eq_true c19; clear c19
             by_cases c20 : x4_2 < (l0_2.length : Int)
             ·rw [if_pos c20] at H; have c20b0 : decide (x4_2 < (l0_2.length : Int)) = true := decide_eq_true c20; clear c20
              by_cases c21 : x5_3 < ((rd_L2 l0_2 x4_2).length : Int)
              ·rw [if_pos c21] at H; have c21b0 : decide (x5_3 < ((rd_L2 l0_2 x4_2).length : Int)) = true := decide_eq_true c21; clear c21
               by_cases c22 : 0 ≤ x5_3
               ·rw [if_pos c22] at H; have c22b0 : decide (0 ≤ x5_3) = true := decide_eq_true c22; clear c22
                by_cases c23 : (rd (rd_L2 l0_2 x4_2) x5_3) < 0
                ·rw [if_pos c23] at H; have c23b0 : decide ((rd (rd_L2 l0_2 x4_2) x5_3) < 0) = true := decide_eq_true c23; clear c23; obtain rfl := Option.some.inj H; obtain ⟨hcz24_0, hcz24_1, hcz24_2, hfz24_0, hfz24_1, hfz24_2⟩ := bF3 BK420.out; have p424 : 0 ≤ (x4_2 : Int) := of_decide_eq_true aO; have q424 : x4_2 < (l0_2.length : Int) := of_decide_eq_true aO; obtain ⟨ad424, A424_0, c424_0, e424, hx424_0, hl424_0, hi424_0⟩ := at_L2 HR0_2.out x4_2 p424 q424; have he_ : ad422 = ad424 := (by injection e424); subst he_; replace hx424_0 := (HB.out.cell (World.block_lt_of_cell? w _ hx424_0)).trans hx424_0; have HR424_0 := Aside0.mk hi424_0; have HC424_0 := Aside0.mk hl424_0; clear hi424_0 hl424_0; replace p424 := eq_true p424; replace q424 := eq_true q424; have p425 : 0 ≤ (x4_2 : Int) := of_decide_eq_true aO; have q425 : x4_2 < (l0_2.length : Int) := of_decide_eq_true aO; obtain ⟨ad425, A425_0, c425_0, e425, hx425_0, hl425_0, hi425_0⟩ := at_L2 HR0_2.out x4_2 p425 q425; have he_ : ad422 = ad425 := (by injection e425); subst he_; replace hx425_0 := (HB.out.cell (World.block_lt_of_cell? w _ hx425_0)).trans hx425_0; have HR425_0 := Aside0.mk hi425_0; have HC425_0 := Aside0.mk hl425_0; clear hi425_0 hl425_0; replace p425 := eq_true p425; replace q425 := eq_true q425; have ea_ := Option.some.inj (hx424_0.symm.trans hx425_0)
                 injection ea_ with ea_ en_ ec_
                 subst ea_; subst ec_; clear en_; have p426 : 0 ≤ (x5_3 : Int) := of_decide_eq_true aO; have q426 : x5_3 < ((rd_L2 l0_2 x4_2).length : Int) := of_decide_eq_true aO; obtain ⟨ad426, e426, hx426_0⟩ := Kd.at_int HR425_0.out x5_3 p426 q426; cases e426; replace hx426_0 := (HB.out.cell (World.block_lt_of_cell? w _ hx426_0)).trans hx426_0; replace p426 := eq_true p426; replace q426 := eq_true q426
                 go_wp2
                 repeat (go_quiet (fail); try go_wp2)
                 go_ret
                 exact ⟨eW, bS1 HB.out GE420.out⟩
                ·rw [if_neg c23] at H; have c23b0 : decide ((rd (rd_L2 l0_2 x4_2) x5_3) < 0) = false := decide_eq_false c23; clear c23
                 by_cases c25 : (rd (rd_L2 l0_2 x4_2) x5_3) ≥ (l0_1.length : Int)
                 ·rw [if_pos c25] at H; have c25b0 : decide ((l0_1.length : Int) ≤ (rd (rd_L2 l0_2 x4_2) x5_3)) = true := decide_eq_true c25; clear c25; obtain rfl := Option.some.inj H; obtain ⟨hcz26_0, hcz26_1, hcz26_2, hfz26_0, hfz26_1, hfz26_2⟩ := bF3 BK420.out; have p424 : 0 ≤ (x4_2 : Int) := of_decide_eq_true aO; have q424 : x4_2 < (l0_2.length : Int) := of_decide_eq_true aO; obtain ⟨ad424, A424_0, c424_0, e424, hx424_0, hl424_0, hi424_0⟩ := at_L2 HR0_2.out x4_2 p424 q424; have he_ : ad422 = ad424 := (by injection e424); subst he_; replace hx424_0 := (HB.out.cell (World.block_lt_of_cell? w _ hx424_0)).trans hx424_0; have HR424_0 := Aside0.mk hi424_0; have HC424_0 := Aside0.mk hl424_0; clear hi424_0 hl424_0; replace p424 := eq_true p424; replace q424 := eq_true q424; have p425 : 0 ≤ (x4_2 : Int) := of_decide_eq_true aO; have q425 : x4_2 < (l0_2.length : Int) := of_decide_eq_true aO; obtain ⟨ad425, A425_0, c425_0, e425, hx425_0, hl425_0, hi425_0⟩ := at_L2 HR0_2.out x4_2 p425 q425; have he_ : ad422 = ad425 := (by injection e425); subst he_; replace hx425_0 := (HB.out.cell (World.block_lt_of_cell? w _ hx425_0)).trans hx425_0; have HR425_0 := Aside0.mk hi425_0; have HC425_0 := Aside0.mk hl425_0; clear hi425_0 hl425_0; replace p425 := eq_true p425; replace q425 := eq_true q425; have ea_ := Option.some.inj (hx424_0.symm.trans hx425_0)
                  injection ea_ with ea_ en_ ec_
                  subst ea_; subst ec_; clear en_; have p426 : 0 ≤ (x5_3 : Int) := of_decide_eq_true aO; have q426 : x5_3 < ((rd_L2 l0_2 x4_2).length : Int) := of_decide_eq_true aO; obtain ⟨ad426, e426, hx426_0⟩ := Kd.at_int HR425_0.out x5_3 p426 q426; cases e426; replace hx426_0 := (HB.out.cell (World.block_lt_of_cell? w _ hx426_0)).trans hx426_0; replace p426 := eq_true p426; replace q426 := eq_true q426; have p427 : 0 ≤ (x4_2 : Int) := of_decide_eq_true aO; have q427 : x4_2 < (l0_2.length : Int) := of_decide_eq_true aO; obtain ⟨ad427, A427_0, c427_0, e427, hx427_0, hl427_0, hi427_0⟩ := at_L2 HR0_2.out x4_2 p427 q427; have he_ : ad422 = ad427 := (by injection e427); subst he_; replace hx427_0 := (HB.out.cell (World.block_lt_of_cell? w _ hx427_0)).trans hx427_0; have HR427_0 := Aside0.mk hi427_0; have HC427_0 := Aside0.mk hl427_0; clear hi427_0 hl427_0; replace p427 := eq_true p427; replace q427 := eq_true q427; have ea_ := Option.some.inj (hx424_0.symm.trans hx427_0)
                  injection ea_ with ea_ en_ ec_
                  subst ea_; subst ec_; clear en_; have p428 : 0 ≤ (x5_3 : Int) := of_decide_eq_true aO; have q428 : x5_3 < ((rd_L2 l0_2 x4_2).length : Int) := of_decide_eq_true aO; obtain ⟨ad428, e428, hx428_0⟩ := Kd.at_int HR427_0.out x5_3 p428 q428; cases e428; replace hx428_0 := (HB.out.cell (World.block_lt_of_cell? w _ hx428_0)).trans hx428_0; replace p428 := eq_true p428; replace q428 := eq_true q428
                  go_wp2
                  repeat (go_quiet (fail); try go_wp2)
                  go_ret
                  exact ⟨eW, bS1 HB.out GE420.out⟩
                 ·rw [if_neg c25] at H; have c25b0 : decide ((l0_1.length : Int) ≤ (rd (rd_L2 l0_2 x4_2) x5_3)) = false := decide_eq_false c25; clear c25; have H' := Aside0.mk H; clear H; obtain ⟨hcz27_0, hcz27_1, hcz27_2, hfz27_0, hfz27_1, hfz27_2⟩ := bF3 BK420.out; have p424 : 0 ≤ (x4_2 : Int) := of_decide_eq_true aO; have q424 : x4_2 < (l0_2.length : Int) := of_decide_eq_true aO; obtain ⟨ad424, A424_0, c424_0, e424, hx424_0, hl424_0, hi424_0⟩ := at_L2 HR0_2.out x4_2 p424 q424; have he_ : ad422 = ad424 := (by injection e424); subst he_; replace hx424_0 := (HB.out.cell (World.block_lt_of_cell? w _ hx424_0)).trans hx424_0; have HR424_0 := Aside0.mk hi424_0; have HC424_0 := Aside0.mk hl424_0; clear hi424_0 hl424_0; replace p424 := eq_true p424; replace q424 := eq_true q424; have p425 : 0 ≤ (x4_2 : Int) := of_decide_eq_true aO; have q425 : x4_2 < (l0_2.length : Int) := of_decide_eq_true aO; obtain ⟨ad425, A425_0, c425_0, e425, hx425_0, hl425_0, hi425_0⟩ := at_L2 HR0_2.out x4_2 p425 q425; have he_ : ad422 = ad425 := (by injection e425); subst he_; replace hx425_0 := (HB.out.cell (World.block_lt_of_cell? w _ hx425_0)).trans hx425_0; have HR425_0 := Aside0.mk hi425_0; have HC425_0 := Aside0.mk hl425_0; clear hi425_0 hl425_0; replace p425 := eq_true p425; replace q425 := eq_true q425; have ea_ := Option.some.inj (hx424_0.symm.trans hx425_0)
                  injection ea_ with ea_ en_ ec_
                  subst ea_; subst ec_; clear en_; have p426 : 0 ≤ (x5_3 : Int) := of_decide_eq_true aO; have q426 : x5_3 < ((rd_L2 l0_2 x4_2).length : Int) := of_decide_eq_true aO; obtain ⟨ad426, e426, hx426_0⟩ := Kd.at_int HR425_0.out x5_3 p426 q426; cases e426; replace hx426_0 := (HB.out.cell (World.block_lt_of_cell? w _ hx426_0)).trans hx426_0; replace p426 := eq_true p426; replace q426 := eq_true q426; have p427 : 0 ≤ (x4_2 : Int) := of_decide_eq_true aO; have q427 : x4_2 < (l0_2.length : Int) := of_decide_eq_true aO; obtain ⟨ad427, A427_0, c427_0, e427, hx427_0, hl427_0, hi427_0⟩ := at_L2 HR0_2.out x4_2 p427 q427; have he_ : ad422 = ad427 := (by injection e427); subst he_; replace hx427_0 := (HB.out.cell (World.block_lt_of_cell? w _ hx427_0)).trans hx427_0; have HR427_0 := Aside0.mk hi427_0; have HC427_0 := Aside0.mk hl427_0; clear hi427_0 hl427_0; replace p427 := eq_true p427; replace q427 := eq_true q427; have ea_ := Option.some.inj (hx424_0.symm.trans hx427_0)
                  injection ea_ with ea_ en_ ec_
                  subst ea_; subst ec_; clear en_; have p428 : 0 ≤ (x5_3 : Int) := of_decide_eq_true aO; have q428 : x5_3 < ((rd_L2 l0_2 x4_2).length : Int) := of_decide_eq_true aO; obtain ⟨ad428, e428, hx428_0⟩ := Kd.at_int HR427_0.out x5_3 p428 q428; cases e428; replace hx428_0 := (HB.out.cell (World.block_lt_of_cell? w _ hx428_0)).trans hx428_0; replace p428 := eq_true p428; replace q428 := eq_true q428
                  go_wp2
                  repeat (go_quiet (fail); try go_wp2)
                  go_roundg k3
                  case measure => have := HJ1.out; have := HK2.out; have := HK3.out; omega
                  case rel => exact ⟨(wrap64 (x5_3 + 1)), (by first | rfl | (simp; done) | (simp [*]; done)), H', ⟨by have := HJ1.out; have := HK2.out; have := HK3.out; omega⟩, ⟨kO BK420.out⟩, ⟨bS1 HB.out GE420.out⟩⟩
               ·rw [if_neg c22] at H; exact absurd H (by simp)
              ·rw [if_neg c21] at H; have c21b0 : decide (x5_3 < ((rd_L2 l0_2 x4_2).length : Int)) = false := decide_eq_false c21; clear c21; have H' := Aside0.mk H; clear H; obtain ⟨hcz28_0, hcz28_1, hcz28_2, hfz28_0, hfz28_1, hfz28_2⟩ := bF3 BK420.out; have p424 : 0 ≤ (x4_2 : Int) := of_decide_eq_true aO; have q424 : x4_2 < (l0_2.length : Int) := of_decide_eq_true aO; obtain ⟨ad424, A424_0, c424_0, e424, hx424_0, hl424_0, hi424_0⟩ := at_L2 HR0_2.out x4_2 p424 q424; have he_ : ad422 = ad424 := (by injection e424); subst he_; replace hx424_0 := (HB.out.cell (World.block_lt_of_cell? w _ hx424_0)).trans hx424_0; have HR424_0 := Aside0.mk hi424_0; have HC424_0 := Aside0.mk hl424_0; clear hi424_0 hl424_0; replace p424 := eq_true p424; replace q424 := eq_true q424
               go_wp2
               repeat (go_quiet (fail); try go_wp2)
               go_roundg k3
               case measure => have := HJ1.out; have := HK2.out; have := HK3.out; omega
               case rel => exact ⟨(wrap64 (x4_2 + 1)), (by first | rfl | (simp; done) | (simp [*]; done)), H', ⟨by have := HJ1.out; have := HK2.out; have := HK3.out; omega⟩, ⟨kO BK420.out⟩, ⟨bS1 HB.out GE420.out⟩⟩
             ·rw [if_neg c20] at H; exact absurd H (by simp)
            ·rw [if_neg c19] at H; exact absurd H (by simp)
         ·rw [if_neg c17] at H; have c17b0 : (((rd_L2 l0_2 x4_2).length : Int) == t423) = false := beq_eq_false_iff_ne.mpr c17; have c17b1 : (((rd_L2 l0_2 x4_2).length : Int) != t423) = true := bne_iff_ne.mpr c17; obtain rfl := Option.some.inj H; obtain ⟨hcz29_0, hcz29_1, hcz29_2, hfz29_0, hfz29_1, hfz29_2⟩ := bF3 BK420.out; have p422 : 0 ≤ (x4_2 : Int) := of_decide_eq_true aO; have q422 : x4_2 < (l0_2.length : Int) := of_decide_eq_true aO; obtain ⟨ad422, A422_0, c422_0, e422, hx422_0, hl422_0, hi422_0⟩ := at_L2 HR0_2.out x4_2 p422 q422; cases e422; replace hx422_0 := (HB.out.cell (World.block_lt_of_cell? w _ hx422_0)).trans hx422_0; have HR422_0 := Aside0.mk hi422_0; have HC422_0 := Aside0.mk hl422_0; clear hi422_0 hl422_0; replace p422 := eq_true p422; replace q422 := eq_true q422
          go_wp2_with (first | (go_at_call 33; (with_reducible refine (tabardref12_Letters.calls k2 (l0_0.length : Int) t423 _ A16.out).mono ?_); rintro e w' ⟨rfl, ⟨nd, rfl⟩⟩; (try first | exact ⟨rfl, _, World.drewN_drewN _ _ _⟩ | exact ⟨rfl, _, Eq.trans (World.drewN_drewN _ _ _) (congrArg (World.drewN _) (Nat.add_assoc _ _ _))⟩)))
          repeat (go_quiet (first | (go_at_call 33; (with_reducible refine (tabardref12_Letters.calls k2 (l0_0.length : Int) t423 _ A16.out).mono ?_); rintro e w' ⟨rfl, ⟨nd, rfl⟩⟩; (try first | exact ⟨rfl, _, World.drewN_drewN _ _ _⟩ | exact ⟨rfl, _, Eq.trans (World.drewN_drewN _ _ _) (congrArg (World.drewN _) (Nat.add_assoc _ _ _))⟩))); try go_wp2_with (first | (go_at_call 33; (with_reducible refine (tabardref12_Letters.calls k2 (l0_0.length : Int) t423 _ A16.out).mono ?_); rintro e w' ⟨rfl, ⟨nd, rfl⟩⟩; (try first | exact ⟨rfl, _, World.drewN_drewN _ _ _⟩ | exact ⟨rfl, _, Eq.trans (World.drewN_drewN _ _ _) (congrArg (World.drewN _) (Nat.add_assoc _ _ _))⟩))))
          go_ret
          exact ⟨eW, bS1 HB.out GE420.out⟩
        ·rw [if_neg c15] at H; exact absurd H (by simp)
       ·rw [if_neg c14] at H; exact absurd H (by simp)
      ·rw [if_neg c13] at H; have c13b0 : decide (x4_2 < (l0_1.length : Int)) = false := decide_eq_false c13; clear c13; obtain rfl := Option.some.inj H
       go_wp2
       repeat (go_quiet (fail); try go_wp2)
       go_ret
       exact ⟨eW, bS1 HB.out GE420.out⟩

end Go.Proofs.Ytghfclgcgecgdaa.X

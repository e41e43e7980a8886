/- What the functions of this seat compute, and that the program's calls come to just that: written by this session's own program out of the translation; no condition. -/
import Derived.Test.YtghfclgcgecgdaaX0
import Derived.Test.YtghfclgcgecgdaaX31
namespace Go.Proofs.Ytghfclgcgecgdaa.X
open Go.RowKit Go.Proofs.YtghfclgcgecgdaaW.PrintWords Go.Proofs.YtghfclgcgecgdaaW.PrintLast Go.Proofs.YtghfclgcgecgdaaW.PrintMore
attribute [local go_sem] max2_int min2_int max_two min_two max_three min_three max_four min_four   -- for this text's walks alone
set_option linter.unusedVariables false
set_option linter.unusedSimpArgs false

/-! ### tabardref12_Word: function 23 -/
def tabardref12_Word.l0 : Nat → List Int → Int → Int → Option (Bool)
 | 0, _, _, _ => none
 | k + 1, x0, x1, x5 => if x5 < (x0.length : Int) then (if 0 ≤ x5 then (if (rd x0 x5) < 0 then (some false) else ((tabardref12_Letters.f k x1).bind fun t602 => (if (rd x0 x5) ≥ t602 then (some false) else (tabardref12_Word.l0 k x0 x1 (wrap64 (x5 + 1)))))) else (none)) else (some true)
def tabardref12_Word.f (k : Nat) (l0 : List Int) (a1 : Int) : Option (Bool) := tabardref12_Word.l0 k l0 a1 0
theorem tabardref12_Word.mono_l : ∀ k, (∀ y0 y1 y2, LeO (tabardref12_Word.l0 k y0 y1 y2) (tabardref12_Word.l0 (k + 1) y0 y1 y2))
 | 0 => fun _ _ _ r h => by simp [tabardref12_Word.l0] at h
 | k + 1 => by
  have ih0 := tabardref12_Word.mono_l k
  ·intro y0 y1 y2
   unfold tabardref12_Word.l0
   repeat' first
   | (with_reducible exact ih0 _ _ _)
   | (with_reducible exact tabardref12_Letters.mono _ _)
   | (with_reducible exact LeO.refl _)
   | (with_reducible exact LeO.none _)
   | (with_reducible refine LeO.ite ?_ ?_)
   | (with_reducible refine LeO.bind ?_ (fun _ => ?_))
   | exact LeO.none _
   | refine LeO.ite ?_ ?_
   | refine LeO.bind ?_ (fun _ => ?_)
theorem tabardref12_Word.mono : ∀ a0 a1 k, LeO (tabardref12_Word.f k a0 a1) (tabardref12_Word.f (k + 1) a0 a1) := by
 intro a0 a1 k; have ih0 := tabardref12_Word.mono_l k
 unfold tabardref12_Word.f
 repeat' first
   | (with_reducible exact ih0 _ _ _)
   | (with_reducible exact tabardref12_Letters.mono _ _)
   | (with_reducible exact LeO.refl _)
   | (with_reducible exact LeO.none _)
   | (with_reducible refine LeO.ite ?_ ?_)
   | (with_reducible refine LeO.bind ?_ (fun _ => ?_))
   | exact LeO.none _
   | refine LeO.ite ?_ ?_
   | refine LeO.bind ?_ (fun _ => ?_)
set_option maxHeartbeats 8000000 in
set_option maxRecDepth 100000 in
theorem tabardref12_Word.calls (k : Nat) (A0 : Option Addr) (c0 : Nat) (l0 : List Int) (a1 : Int) (r : Bool) (w : World) (hr0 : Kd.C (Kd.int .i64) w A0 l0.length l0) (hc0 : l0.length ≤ c0) (h : tabardref12_Word.f k l0 a1 = some r) :
  Calls Try.prog 23 #[.slice A0 l0.length c0, .int .i64 a1] w fun e w' => e = .returned (.bool r) ∧ Drawn0 w w' := by
 have HR0 := Aside0.mk hr0; have HC0 := Aside0.mk hc0; clear hr0 hc0; have H : (tabardref12_Word.l0 k l0 a1 0) = some r := h; clear h; have H' := Aside0.mk H; clear H
 go_enter Try.func23, Try.ntmps23
 go_wp2
 repeat (go_quiet (fail); try go_wp2)
 go_loopg [5] k (fun kq v5 w' => ∃ (x5_1 : Int), v5 = .int .i64 x5_1 ∧ Aside0 (tabardref12_Word.l0 kq l0 a1 x5_1 = some r) ∧ Aside0 (kq ≤ k) ∧ Drawn0 w w')
 case atStart => exact ⟨(0), (by first | rfl | (simp; done) | (simp [*]; done)), H', ⟨Nat.le_refl _⟩, by repeat (first | exact Drawn0.refl _ | apply Drawn0.step)⟩
 case round =>
  clear H'
  try clear c2
  try clear p2
  obtain ⟨x5_1, rfl, HA, HK1, ⟨m1, rfl⟩⟩ := hrel; cases gk with
  | zero => exact absurd HA.out (by simp [tabardref12_Word.l0])
  | succ k1 =>
   have H := HA.out; clear HA; simp only [tabardref12_Word.l0] at H
   by_cases c3 : x5_1 < (l0.length : Int)
   ·rw [if_pos c3] at H; have c3b0 : decide (x5_1 < (l0.length : Int)) = true := decide_eq_true c3; clear c3
    by_cases c4 : 0 ≤ x5_1
    ·rw [if_pos c4] at H; have c4b0 : decide (0 ≤ x5_1) = true := decide_eq_true c4; clear c4
     by_cases c5 : (rd l0 x5_1) < 0
     ·rw [if_pos c5] at H; have c5b0 : decide ((rd l0 x5_1) < 0) = true := decide_eq_true c5; clear c5; obtain rfl := Option.some.inj H; have p600 : 0 ≤ (x5_1 : Int) := of_decide_eq_true aO; have q600 : x5_1 < (l0.length : Int) := of_decide_eq_true aO; obtain ⟨ad600, e600, hx600_0⟩ := Kd.at_int HR0.out x5_1 p600 q600; cases e600; replace p600 := eq_true p600; replace q600 := eq_true q600
      go_wp2
      repeat (go_quiet (fail); try go_wp2)
      go_ret
      exact ⟨by first | rfl | (simp; done) | (simp [*]; done), by repeat (first | exact Drawn0.refl _ | apply Drawn0.step)⟩
     ·rw [if_neg c5] at H; have c5b0 : decide ((rd l0 x5_1) < 0) = false := decide_eq_false c5; clear c5; replace H := Option.bind_eq_some_iff.mp H; obtain ⟨t602, A60, H⟩ := H; replace H : (if (rd l0 x5_1) ≥ t602 then (some false) else (tabardref12_Word.l0 k1 l0 a1 (wrap64 (x5_1 + 1)))) = some r := H; have A6 := Aside0.mk A60; clear A60
      by_cases c7 : (rd l0 x5_1) ≥ t602
      ·rw [if_pos c7] at H; have c7b0 : decide (t602 ≤ (rd l0 x5_1)) = true := decide_eq_true c7; clear c7; obtain rfl := Option.some.inj H; have p600 : 0 ≤ (x5_1 : Int) := of_decide_eq_true aO; have q600 : x5_1 < (l0.length : Int) := of_decide_eq_true aO; obtain ⟨ad600, e600, hx600_0⟩ := Kd.at_int HR0.out x5_1 p600 q600; cases e600; replace p600 := eq_true p600; replace q600 := eq_true q600; have p601 : 0 ≤ (x5_1 : Int) := of_decide_eq_true aO; have q601 : x5_1 < (l0.length : Int) := of_decide_eq_true aO; obtain ⟨ad601, e601, hx601_0⟩ := Kd.at_int HR0.out x5_1 p601 q601; have he_ : ad600 = ad601 := (by injection e601); subst he_; replace p601 := eq_true p601; replace q601 := eq_true q601
       go_wp2_with (first | (go_at_call 33; (with_reducible refine (tabardref12_Letters.calls k1 a1 t602 _ A6.out).mono ?_); rintro e w' ⟨rfl, ⟨nd, rfl⟩⟩; (try first | exact ⟨rfl, _, World.drewN_drewN _ _ _⟩ | exact ⟨rfl, _, Eq.trans (World.drewN_drewN _ _ _) (congrArg (World.drewN _) (Nat.add_assoc _ _ _))⟩)))
       repeat (go_quiet (first | (go_at_call 33; (with_reducible refine (tabardref12_Letters.calls k1 a1 t602 _ A6.out).mono ?_); rintro e w' ⟨rfl, ⟨nd, rfl⟩⟩; (try first | exact ⟨rfl, _, World.drewN_drewN _ _ _⟩ | exact ⟨rfl, _, Eq.trans (World.drewN_drewN _ _ _) (congrArg (World.drewN _) (Nat.add_assoc _ _ _))⟩))); try go_wp2_with (first | (go_at_call 33; (with_reducible refine (tabardref12_Letters.calls k1 a1 t602 _ A6.out).mono ?_); rintro e w' ⟨rfl, ⟨nd, rfl⟩⟩; (try first | exact ⟨rfl, _, World.drewN_drewN _ _ _⟩ | exact ⟨rfl, _, Eq.trans (World.drewN_drewN _ _ _) (congrArg (World.drewN _) (Nat.add_assoc _ _ _))⟩))))
       go_ret
       exact ⟨by first | rfl | (simp; done) | (simp [*]; done), by repeat (first | exact Drawn0.refl _ | apply Drawn0.step)⟩
      ·rw [if_neg c7] at H; have c7b0 : decide (t602 ≤ (rd l0 x5_1)) = false := decide_eq_false c7; clear c7; have H' := Aside0.mk H; clear H; have p600 : 0 ≤ (x5_1 : Int) := of_decide_eq_true aO; have q600 : x5_1 < (l0.length : Int) := of_decide_eq_true aO; obtain ⟨ad600, e600, hx600_0⟩ := Kd.at_int HR0.out x5_1 p600 q600; cases e600; replace p600 := eq_true p600; replace q600 := eq_true q600; have p601 : 0 ≤ (x5_1 : Int) := of_decide_eq_true aO; have q601 : x5_1 < (l0.length : Int) := of_decide_eq_true aO; obtain ⟨ad601, e601, hx601_0⟩ := Kd.at_int HR0.out x5_1 p601 q601; have he_ : ad600 = ad601 := (by injection e601); subst he_; replace p601 := eq_true p601; replace q601 := eq_true q601
       go_wp2_with (first | (go_at_call 33; (with_reducible refine (tabardref12_Letters.calls k1 a1 t602 _ A6.out).mono ?_); rintro e w' ⟨rfl, ⟨nd, rfl⟩⟩; (try first | exact ⟨rfl, _, World.drewN_drewN _ _ _⟩ | exact ⟨rfl, _, Eq.trans (World.drewN_drewN _ _ _) (congrArg (World.drewN _) (Nat.add_assoc _ _ _))⟩)))
       repeat (go_quiet (first | (go_at_call 33; (with_reducible refine (tabardref12_Letters.calls k1 a1 t602 _ A6.out).mono ?_); rintro e w' ⟨rfl, ⟨nd, rfl⟩⟩; (try first | exact ⟨rfl, _, World.drewN_drewN _ _ _⟩ | exact ⟨rfl, _, Eq.trans (World.drewN_drewN _ _ _) (congrArg (World.drewN _) (Nat.add_assoc _ _ _))⟩))); try go_wp2_with (first | (go_at_call 33; (with_reducible refine (tabardref12_Letters.calls k1 a1 t602 _ A6.out).mono ?_); rintro e w' ⟨rfl, ⟨nd, rfl⟩⟩; (try first | exact ⟨rfl, _, World.drewN_drewN _ _ _⟩ | exact ⟨rfl, _, Eq.trans (World.drewN_drewN _ _ _) (congrArg (World.drewN _) (Nat.add_assoc _ _ _))⟩))))
       go_roundg k1
       case measure => have := HK1.out; omega
       case rel => exact ⟨(wrap64 (x5_1 + 1)), (by first | rfl | (simp; done) | (simp [*]; done)), H', ⟨by have := HK1.out; omega⟩, by repeat (first | exact Drawn0.refl _ | apply Drawn0.step)⟩
    ·rw [if_neg c4] at H; exact absurd H (by simp)
   ·rw [if_neg c3] at H; have c3b0 : decide (x5_1 < (l0.length : Int)) = false := decide_eq_false c3; clear c3; obtain rfl := Option.some.inj H
    go_wp2
    repeat (go_quiet (fail); try go_wp2)
    go_ret
    exact ⟨by first | rfl | (simp; done) | (simp [*]; done), by repeat (first | exact Drawn0.refl _ | apply Drawn0.step)⟩

/-! ### tabardref12_Run: function 24 -/
def tabardref12_Run.l0 : Nat → Int → List Int → Int → List ByteArray → List Bool → List (List Int) → Option (Int)
 | 0, _, _, _, _, _, _ => none
 | k + 1, x1, x2, x7, x604000, x604001, x604002 => if x7 < (x2.length : Int) then (if 0 ≤ x1 then (if x1 < (x604002.length : Int) then (if 0 ≤ x7 then (if 0 ≤ (rd x2 x7) then (if (rd x2 x7) < ((rd_L2 x604002 x1).length : Int) then (tabardref12_Run.l0 k (rd (rd_L2 x604002 x1) (rd x2 x7)) x2 (wrap64 (x7 + 1)) x604000 x604001 x604002) else (none)) else (none)) else (none)) else (none)) else (none)) else (some x1)
def tabardref12_Run.f (k : Nat) (l0_0 : List ByteArray) (l0_1 : List Bool) (l0_2 : List (List Int)) (a1 : Int) (l2 : List Int) : Option (Int) := tabardref12_Run.l0 k a1 l2 0 l0_0 l0_1 l0_2
theorem tabardref12_Run.mono_l : ∀ k, (∀ y0 y1 y2 y3 y4 y5, LeO (tabardref12_Run.l0 k y0 y1 y2 y3 y4 y5) (tabardref12_Run.l0 (k + 1) y0 y1 y2 y3 y4 y5))
 | 0 => fun _ _ _ _ _ _ r h => by simp [tabardref12_Run.l0] at h
 | k + 1 => by
  have ih0 := tabardref12_Run.mono_l k
  ·intro y0 y1 y2 y3 y4 y5
   unfold tabardref12_Run.l0
   repeat' first
   | (with_reducible exact ih0 _ _ _ _ _ _)
   | (with_reducible exact LeO.refl _)
   | (with_reducible exact LeO.none _)
   | (with_reducible refine LeO.ite ?_ ?_)
   | (with_reducible refine LeO.bind ?_ (fun _ => ?_))
   | exact LeO.none _
   | refine LeO.ite ?_ ?_
   | refine LeO.bind ?_ (fun _ => ?_)
theorem tabardref12_Run.mono : ∀ a0 a1 a2 a3 a4 k, LeO (tabardref12_Run.f k a0 a1 a2 a3 a4) (tabardref12_Run.f (k + 1) a0 a1 a2 a3 a4) := by
 intro a0 a1 a2 a3 a4 k; have ih0 := tabardref12_Run.mono_l k
 unfold tabardref12_Run.f
 repeat' first
   | (with_reducible exact ih0 _ _ _ _ _ _)
   | (with_reducible exact LeO.refl _)
   | (with_reducible exact LeO.none _)
   | (with_reducible refine LeO.ite ?_ ?_)
   | (with_reducible refine LeO.bind ?_ (fun _ => ?_))
   | exact LeO.none _
   | refine LeO.ite ?_ ?_
   | refine LeO.bind ?_ (fun _ => ?_)
set_option maxHeartbeats 8000000 in
set_option maxRecDepth 100000 in
theorem tabardref12_Run.calls (k : Nat) (A0_0 : Option Addr) (c0_0 : Nat) (l0_0 : List ByteArray) (A0_1 : Option Addr) (c0_1 : Nat) (l0_1 : List Bool) (A0_2 : Option Addr) (c0_2 : Nat) (l0_2 : List (List Int)) (a1 : Int) (A2 : Option Addr) (c2 : Nat) (l2 : List Int) (r : Int) (w : World) (hr0_0 : Kd.C Kd.string w A0_0 l0_0.length l0_0) (hc0_0 : l0_0.length ≤ c0_0) (hr0_1 : Kd.C Kd.bool w A0_1 l0_1.length l0_1) (hc0_1 : l0_1.length ≤ c0_1) (hr0_2 : Kd.C (Kd.slice 3 (Kd.int .i64)) w A0_2 l0_2.length l0_2) (hc0_2 : l0_2.length ≤ c0_2) (hr2 : Kd.C (Kd.int .i64) w A2 l2.length l2) (hc2 : l2.length ≤ c2) (h : tabardref12_Run.f k l0_0 l0_1 l0_2 a1 l2 = some r) :
  Calls Try.prog 24 #[.agg #[.slice A0_0 l0_0.length c0_0, .slice A0_1 l0_1.length c0_1, .slice A0_2 l0_2.length c0_2], .int .i64 a1, .slice A2 l2.length c2] w fun e w' => e = .returned (.int .i64 r) ∧ Below w.heap.size w w' := by
 have hu26 := Try.underlying26; have HR0_0 := Aside0.mk hr0_0; have HC0_0 := Aside0.mk hc0_0; clear hr0_0 hc0_0; have HR0_1 := Aside0.mk hr0_1; have HC0_1 := Aside0.mk hc0_1; clear hr0_1 hc0_1; have HR0_2 := Aside0.mk hr0_2; have HC0_2 := Aside0.mk hc0_2; clear hr0_2 hc0_2; have HR2 := Aside0.mk hr2; have HC2 := Aside0.mk hc2; clear hr2 hc2; have HB := Aside0.mk (Below.refl w.heap.size w); have H : (tabardref12_Run.l0 k a1 l2 0 l0_0 l0_1 l0_2) = some r := h; clear h; have H' := Aside0.mk H; clear H
 go_enter Try.func24, Try.ntmps24
 go_wp2_with (first | ((with_reducible refine gate_dst (N := 3) rfl ?_); refine be_ (cs := #[.slice A0_0 l0_0.length c0_0, .slice A0_1 l0_1.length c0_1, .slice A0_2 l0_2.length c0_2]) (t := 26) ?_; intro gb603 hg w4 hbox hb; have BK603 := Aside0.mk (hbox); have GW603 := gE hg (bO HB.out); have GE603 := gE hg (bO HB.out); replace HB := hS0 HB hb; clear hb hbox hg))
 repeat (go_quiet (first | ((with_reducible refine gate_dst (N := 3) rfl ?_); refine be_ (cs := #[.slice A0_0 l0_0.length c0_0, .slice A0_1 l0_1.length c0_1, .slice A0_2 l0_2.length c0_2]) (t := 26) ?_; intro gb603 hg w4 hbox hb; have BK603 := Aside0.mk (hbox); have GW603 := gE hg (bO HB.out); have GE603 := gE hg (bO HB.out); replace HB := hS0 HB hb; clear hb hbox hg)); try go_wp2_with (first | ((with_reducible refine gate_dst (N := 3) rfl ?_); refine be_ (cs := #[.slice A0_0 l0_0.length c0_0, .slice A0_1 l0_1.length c0_1, .slice A0_2 l0_2.length c0_2]) (t := 26) ?_; intro gb603 hg w4 hbox hb; have BK603 := Aside0.mk (hbox); have GW603 := gE hg (bO HB.out); have GE603 := gE hg (bO HB.out); replace HB := hS0 HB hb; clear hb hbox hg)))
 go_loopg [1, 7] k (fun kq v1 v7 w' => ∃ (x1_1 : Int) (x7_1 : Int), v1 = .int .i64 x1_1 ∧ v7 = .int .i64 x7_1 ∧ Aside0 (tabardref12_Run.l0 kq x1_1 l2 x7_1 l0_0 l0_1 l0_2 = some r) ∧ Aside0 (kq ≤ k) ∧ Aside0 (w'.heap[gb603]? = some (.cells #[(.slice A0_0 l0_0.length c0_0), (.slice A0_1 l0_1.length c0_1), (.slice A0_2 l0_2.length c0_2)] 26 (0, 0))) ∧ Aside0 (Below w.heap.size w w'))
 case atStart => exact ⟨(a1), (0), (by first | rfl | (simp; done) | (simp [*]; done)), (by first | rfl | (simp; done) | (simp [*]; done)), H', ⟨Nat.le_refl _⟩, ⟨kO BK603.out⟩, ⟨bS1 HB.out GE603.out⟩⟩
 case round =>
  clear H'
  try clear c2
  try clear p2
  obtain ⟨x1_1, x7_1, rfl, rfl, HA, HK1, BK603, HB⟩ := hrel; cases gk with
  | zero => exact absurd HA.out (by simp [tabardref12_Run.l0])
  | succ k1 =>
   have H := HA.out; clear HA; simp only [tabardref12_Run.l0] at H
   by_cases c5 : x7_1 < (l2.length : Int)
   ·rw [if_pos c5] at H; have c5b0 : decide (x7_1 < (l2.length : Int)) = true := decide_eq_true c5; clear c5
    by_cases c6 : 0 ≤ x1_1
    ·rw [if_pos c6] at H; have c6b0 : decide (0 ≤ x1_1) = true := decide_eq_true c6; clear c6
     by_cases c7 : x1_1 < (l0_2.length : Int)
     ·rw [if_pos c7] at H; have c7b0 : decide (x1_1 < (l0_2.length : Int)) = true := decide_eq_true c7; clear c7
      by_cases c8 : 0 ≤ x7_1
      ·rw [if_pos c8] at H; have c8b0 : decide (0 ≤ x7_1) = true := decide_eq_true c8; clear c8
       by_cases c9 : 0 ≤ (rd l2 x7_1)
       ·rw [if_pos c9] at H; have c9b0 : decide (0 ≤ (rd l2 x7_1)) = true := decide_eq_true c9; clear c9
        by_cases c10 : (rd l2 x7_1) < ((rd_L2 l0_2 x1_1).length : Int)
        ·rw [if_pos c10] at H; have c10b0 : decide ((rd l2 x7_1) < ((rd_L2 l0_2 x1_1).length : Int)) = true := decide_eq_true c10; clear c10; have H' := Aside0.mk H; clear H; obtain ⟨hcz11_0, hcz11_1, hcz11_2, hfz11_0, hfz11_1, hfz11_2⟩ := bF3 BK603.out; have p604 : 0 ≤ (x1_1 : Int) := of_decide_eq_true aO; have q604 : x1_1 < (l0_2.length : Int) := of_decide_eq_true aO; obtain ⟨ad604, A604_0, c604_0, e604, hx604_0, hl604_0, hi604_0⟩ := at_L2 HR0_2.out x1_1 p604 q604; cases e604; replace hx604_0 := (HB.out.cell (World.block_lt_of_cell? w _ hx604_0)).trans hx604_0; have HR604_0 := Aside0.mk hi604_0; have HC604_0 := Aside0.mk hl604_0; clear hi604_0 hl604_0; replace p604 := eq_true p604; replace q604 := eq_true q604; have p605 : 0 ≤ (x7_1 : Int) := of_decide_eq_true aO; have q605 : x7_1 < (l2.length : Int) := of_decide_eq_true aO; obtain ⟨ad605, e605, hx605_0⟩ := Kd.at_int HR2.out x7_1 p605 q605; cases e605; replace hx605_0 := (HB.out.cell (World.block_lt_of_cell? w _ hx605_0)).trans hx605_0; replace p605 := eq_true p605; replace q605 := eq_true q605; have p606 : 0 ≤ ((rd l2 x7_1) : Int) := of_decide_eq_true aO; have q606 : (rd l2 x7_1) < ((rd_L2 l0_2 x1_1).length : Int) := of_decide_eq_true aO; obtain ⟨ad606, e606, hx606_0⟩ := Kd.at_int HR604_0.out (rd l2 x7_1) p606 q606; cases e606; replace hx606_0 := (HB.out.cell (World.block_lt_of_cell? w _ hx606_0)).trans hx606_0; replace p606 := eq_true p606; replace q606 := eq_true q606
         go_wp2
         repeat (go_quiet (fail); try go_wp2)
         go_roundg k1
         case measure => have := HK1.out; omega
         case rel => exact ⟨(rd (rd_L2 l0_2 x1_1) (rd l2 x7_1)), (wrap64 (x7_1 + 1)), (by first | rfl | (simp; done) | (simp [*]; done)), (by first | rfl | (simp; done) | (simp [*]; done)), H', ⟨by have := HK1.out; omega⟩, ⟨kO BK603.out⟩, ⟨bS1 HB.out GE603.out⟩⟩
        ·rw [if_neg c10] at H; exact absurd H (by simp)
       ·rw [if_neg c9] at H; exact absurd H (by simp)
      ·rw [if_neg c8] at H; exact absurd H (by simp)
     ·rw [if_neg c7] at H; exact absurd H (by simp)
    ·rw [if_neg c6] at H; exact absurd H (by simp)
   ·rw [if_neg c5] at H; have c5b0 : decide (x7_1 < (l2.length : Int)) = false := decide_eq_false c5; clear c5; obtain rfl := Option.some.inj H
    go_wp2
    repeat (go_quiet (fail); try go_wp2)
    go_ret
    exact ⟨eW, bS1 HB.out GE603.out⟩

end Go.Proofs.Ytghfclgcgecgdaa.X

/- What the functions of this seat compute, and that the program's calls come to just that: written by this session's own program out of the translation; no condition. -/
import Derived.Test.YtolacbnkebbjiaaX0
import Derived.Test.YtolacbnkebbjiaaX21
import Derived.Test.YtolacbnkebbjiaaX28
namespace Go.Proofs.Ytolacbnkebbjiaa.X
open Go.RowKit Go.Proofs.YtolacbnkebbjiaaW.PrintWords Go.Proofs.YtolacbnkebbjiaaW.PrintLast Go.Proofs.YtolacbnkebbjiaaW.PrintMore
attribute [local go_sem] max2_int min2_int max_two min_two max_three min_three max_four min_four   -- for this text's walks alone
set_option linter.unusedVariables false
set_option linter.unusedSimpArgs false

/-! ### tabardref03_Decode: function 26 -/
mutual
def tabardref03_Decode.j0 : Nat → List Int → Int → Bool → Option (List Int × Int)
 | 0, _, _, _ => none
 | k + 1, x0, x1, x11 => if x11 = true then (some (([] : List Int), 150)) else (if (x0.length : Int) = 0 then (some (([] : List Int), 3)) else (if (x0.length : Int) > 64 then (some (([] : List Int), 31)) else (tabardref03_Decode.l0 k x0 x1 0)))
def tabardref03_Decode.l0 : Nat → List Int → Int → Int → Option (List Int × Int)
 | 0, _, _, _ => none
 | k + 1, x0, x1, x6 => if x6 < (x0.length : Int) then (if 0 ≤ x6 then (if (rd x0 x6) < 0 then (some (([] : List Int), 30)) else ((tabardref03_Power.f k x1).bind fun t559 => (if (rd x0 x6) ≥ t559 then (some (([] : List Int), 30)) else (tabardref03_Decode.l0 k x0 x1 (wrap64 (x6 + 1)))))) else (none)) else (tabardref03_Decode.l1 k x0 x1 ([] : List Int) 0)
def tabardref03_Decode.l1 : Nat → List Int → Int → List Int → Int → Option (List Int × Int)
 | 0, _, _, _, _ => none
 | k + 1, x0, x1, x7, x8 => if x8 < x1 then ((tabardref03_Track.f k x0 x8).bind fun t560 => ((tabardref03_Number.f k t560).bind fun bt563 => (if x7.length < 17592186044416 then (tabardref03_Decode.l1 k x0 x1 (x7 ++ [bt563.1]) (wrap64 (x8 + 1))) else (none)))) else (some (x7, 0))
end
def tabardref03_Decode.f (k : Nat) (l0 : List Int) (a1 : Int) : Option (List Int × Int) := if a1 < 0 then (tabardref03_Decode.j0 k l0 a1 true) else (tabardref03_Decode.j0 k l0 a1 (decide (a1 > 6)))
theorem tabardref03_Decode.mono_l : ∀ k, (∀ y0 y1 y2, LeO (tabardref03_Decode.j0 k y0 y1 y2) (tabardref03_Decode.j0 (k + 1) y0 y1 y2)) ∧ (∀ y0 y1 y2, LeO (tabardref03_Decode.l0 k y0 y1 y2) (tabardref03_Decode.l0 (k + 1) y0 y1 y2)) ∧ (∀ y0 y1 y2 y3, LeO (tabardref03_Decode.l1 k y0 y1 y2 y3) (tabardref03_Decode.l1 (k + 1) y0 y1 y2 y3))
 | 0 => ⟨fun _ _ _ r h => by simp [tabardref03_Decode.j0] at h, fun _ _ _ r h => by simp [tabardref03_Decode.l0] at h, fun _ _ _ _ r h => by simp [tabardref03_Decode.l1] at h⟩
 | k + 1 => by
  obtain ⟨ih0, ih1, ih2⟩ := tabardref03_Decode.mono_l k
  refine ⟨?_, ?_, ?_⟩
  ·intro y0 y1 y2
   unfold tabardref03_Decode.j0
   repeat' first
   | (with_reducible exact ih0 _ _ _)
   | (with_reducible exact ih1 _ _ _)
   | (with_reducible exact ih2 _ _ _ _)
   | (with_reducible exact tabardref03_Number.mono _ _)
   | (with_reducible exact tabardref03_Power.mono _ _)
   | (with_reducible exact tabardref03_Track.mono _ _ _)
   | (with_reducible exact LeO.refl _)
   | (with_reducible exact LeO.none _)
   | (with_reducible refine LeO.ite ?_ ?_)
   | (with_reducible refine LeO.bind ?_ (fun _ => ?_))
   | exact ih0 _ _ _
   | exact ih1 _ _ _
   | exact ih2 _ _ _ _
   | exact tabardref03_Number.mono _ _
   | exact tabardref03_Power.mono _ _
   | exact tabardref03_Track.mono _ _ _
   | exact LeO.none _
   | refine LeO.ite ?_ ?_
   | refine LeO.bind ?_ (fun _ => ?_)
  ·intro y0 y1 y2
   unfold tabardref03_Decode.l0
   repeat' first
   | (with_reducible exact ih0 _ _ _)
   | (with_reducible exact ih1 _ _ _)
   | (with_reducible exact ih2 _ _ _ _)
   | (with_reducible exact tabardref03_Number.mono _ _)
   | (with_reducible exact tabardref03_Power.mono _ _)
   | (with_reducible exact tabardref03_Track.mono _ _ _)
   | (with_reducible exact LeO.refl _)
   | (with_reducible exact LeO.none _)
   | (with_reducible refine LeO.ite ?_ ?_)
   | (with_reducible refine LeO.bind ?_ (fun _ => ?_))
   | exact ih0 _ _ _
   | exact ih1 _ _ _
   | exact ih2 _ _ _ _
   | exact tabardref03_Number.mono _ _
   | exact tabardref03_Power.mono _ _
   | exact tabardref03_Track.mono _ _ _
   | exact LeO.none _
   | refine LeO.ite ?_ ?_
   | refine LeO.bind ?_ (fun _ => ?_)
  ·intro y0 y1 y2 y3
   unfold tabardref03_Decode.l1
   repeat' first
   | (with_reducible exact ih0 _ _ _)
   | (with_reducible exact ih1 _ _ _)
   | (with_reducible exact ih2 _ _ _ _)
   | (with_reducible exact tabardref03_Number.mono _ _)
   | (with_reducible exact tabardref03_Power.mono _ _)
   | (with_reducible exact tabardref03_Track.mono _ _ _)
   | (with_reducible exact LeO.refl _)
   | (with_reducible exact LeO.none _)
   | (with_reducible refine LeO.ite ?_ ?_)
   | (with_reducible refine LeO.bind ?_ (fun _ => ?_))
   | exact ih0 _ _ _
   | exact ih1 _ _ _
   | exact ih2 _ _ _ _
   | exact tabardref03_Number.mono _ _
   | exact tabardref03_Power.mono _ _
   | exact tabardref03_Track.mono _ _ _
   | exact LeO.none _
   | refine LeO.ite ?_ ?_
   | refine LeO.bind ?_ (fun _ => ?_)
theorem tabardref03_Decode.mono : ∀ a0 a1 k, LeO (tabardref03_Decode.f k a0 a1) (tabardref03_Decode.f (k + 1) a0 a1) := by
 intro a0 a1 k
 obtain ⟨ih0, ih1, ih2⟩ := tabardref03_Decode.mono_l k
 unfold tabardref03_Decode.f
 repeat' first
   | (with_reducible exact ih0 _ _ _)
   | (with_reducible exact ih1 _ _ _)
   | (with_reducible exact ih2 _ _ _ _)
   | (with_reducible exact tabardref03_Number.mono _ _)
   | (with_reducible exact tabardref03_Power.mono _ _)
   | (with_reducible exact tabardref03_Track.mono _ _ _)
   | (with_reducible exact LeO.refl _)
   | (with_reducible exact LeO.none _)
   | (with_reducible refine LeO.ite ?_ ?_)
   | (with_reducible refine LeO.bind ?_ (fun _ => ?_))
   | exact ih0 _ _ _
   | exact ih1 _ _ _
   | exact ih2 _ _ _ _
   | exact tabardref03_Number.mono _ _
   | exact tabardref03_Power.mono _ _
   | exact tabardref03_Track.mono _ _ _
   | exact LeO.none _
   | refine LeO.ite ?_ ?_
   | refine LeO.bind ?_ (fun _ => ?_)
set_option maxHeartbeats 8000000 in
set_option maxRecDepth 100000 in
theorem tabardref03_Decode.calls (k : Nat) (A0 : Option Addr) (c0 : Nat) (l0 : List Int) (a1 : Int) (r1 : List Int) (r2 : Int) (w : World) (hr0 : Kd.C (Kd.int .i64) w A0 l0.length l0) (hc0 : l0.length ≤ c0) (h : tabardref03_Decode.f k l0 a1 = some (r1, r2)) :
  Calls Try.prog 26 #[.slice A0 l0.length c0, .int .i64 a1] w fun e w' => ∃ v0_ : Value, e = .returned (.tuple #[v0_, .int .i64 r2]) ∧ Kd.R (Kd.int .i64) 2 w' w.heap.size (fun _ => True) v0_ r1 ∧ Below w.heap.size w w' := by
 have HR0 := Aside0.mk hr0
 have HC0 := Aside0.mk hc0
 clear hr0 hc0
 have HB := Aside0.mk (Below.refl w.heap.size w)
 have H : (if a1 < 0 then (tabardref03_Decode.j0 k l0 a1 true) else (tabardref03_Decode.j0 k l0 a1 (decide (a1 > 6)))) = some (r1, r2) := h
 clear h
 have HC3 := Aside0.mk H
 clear H
 go_enter Try.func26, Try.ntmps26
 go_upto_region 1 with (fail)
 repeat (go_quiet (fail); go_upto_region 1 with (fail))
 go_cut [11] (fun v11 wc => ∃ (kq : Nat) (x11_2 : Bool), v11 = .bool x11_2 ∧ Aside0 (tabardref03_Decode.j0 kq l0 a1 x11_2 = some (r1, r2)) ∧ Aside0 (kq ≤ k) ∧ Aside0 (Below w.heap.size w wc))
 case first =>
  have H := HC3.out
  clear HC3
  by_cases c4 : a1 < 0
  ·rw [if_pos c4] at H
   have c4b0 : decide (a1 < 0) = true := decide_eq_true c4
   clear c4
   (first | rw [c4b0] | (simp only [i64_w, i32_w]; rw [c4b0]) | skip)
   have H' := Aside0.mk H
   clear H
   go_wp2
   repeat (go_quiet (fail); try go_wp2)
   go_meet
   case rel => exact ⟨_, (true), (by first | rfl | (simp; done) | (simp [*]; done)), H', ⟨by first | omega | exact Nat.le_refl _⟩, ⟨bO HB.out⟩⟩
  ·rw [if_neg c4] at H
   have c4b0 : decide (a1 < 0) = false := decide_eq_false c4
   clear c4
   (first | rw [c4b0] | (simp only [i64_w, i32_w]; rw [c4b0]) | skip)
   have H' := Aside0.mk H
   clear H
   go_wp2
   repeat (go_quiet (fail); try go_wp2)
   go_meet
   case rel => exact ⟨_, (decide (a1 > 6)), (by first | rfl | (simp; done) | (simp [*]; done)), H', ⟨by first | omega | exact Nat.le_refl _⟩, ⟨bO HB.out⟩⟩
 case rest =>
  clear HC3
  try clear c2
  try clear p2
  try clear c4
  try clear c4b0
  obtain ⟨kq, x11_2, rfl, HA, HJ2, HB⟩ := hcut
  cases kq with
  | zero => exact absurd HA.out (by simp [tabardref03_Decode.j0])
  | succ kj2 =>
   have H := HA.out
   clear HA
   simp only [tabardref03_Decode.j0] at H
   by_cases c5 : x11_2 = true
   ·subst c5
    have H1 : (some (([] : List Int), 150)) = some (r1, r2) := by rw [if_pos rfl] at H; exact H
    clear H
    have H := H1
    clear H1
    simp only [Option.some.injEq, Prod.mk.injEq] at H
    obtain ⟨rfl, rfl⟩ := H
    go_wp2
    repeat (go_quiet (fail); try go_wp2)
    go_ret2
    exact ⟨_, by first | rfl | (simp [errW_none, errW_some] <;> rfl) | (simp [*, errW_none, errW_some] <;> rfl), by first | exact Kd.R_nil _ _ _ _ _ | exact Kd.N_nil _ _ _ _ _ | exact Kd.V_nil _ _ _ _ _ | exact Kd.Q_nil _ _ _ _ _ | exact Kd.S_nil _ _ _ _ _, bO HB.out⟩
   ·replace c5 := Bool.eq_false_iff.mpr c5
    subst c5
    have H1 : (if (l0.length : Int) = 0 then (some (([] : List Int), 3)) else (if (l0.length : Int) > 64 then (some (([] : List Int), 31)) else (tabardref03_Decode.l0 kj2 l0 a1 0))) = some (r1, r2) := by rw [if_neg (show ¬ (false = true) by decide)] at H; exact H
    clear H
    have H := H1
    clear H1
    by_cases c6 : (l0.length : Int) = 0
    ·rw [if_pos c6] at H
     have c6b0 : ((l0.length : Int) == 0) = true := beq_iff_eq.mpr c6
     have c6b1 : ((l0.length : Int) != 0) = false := bne_eq_false_iff_eq.mpr c6
     clear c6
     simp only [Option.some.injEq, Prod.mk.injEq] at H
     obtain ⟨rfl, rfl⟩ := H
     go_wp2
     repeat (go_quiet (fail); try go_wp2)
     go_ret2
     exact ⟨_, by first | rfl | (simp [errW_none, errW_some] <;> rfl) | (simp [*, errW_none, errW_some] <;> rfl), by first | exact Kd.R_nil _ _ _ _ _ | exact Kd.N_nil _ _ _ _ _ | exact Kd.V_nil _ _ _ _ _ | exact Kd.Q_nil _ _ _ _ _ | exact Kd.S_nil _ _ _ _ _, bO HB.out⟩
    ·rw [if_neg c6] at H
     have c6b0 : ((l0.length : Int) == 0) = false := beq_eq_false_iff_ne.mpr c6
     have c6b1 : ((l0.length : Int) != 0) = true := bne_iff_ne.mpr c6
     have c6b2 : ¬ (l0 = []) := fun h_ => c6 (by rw [h_]; rfl)
     by_cases c7 : (l0.length : Int) > 64
     ·rw [if_pos c7] at H
      have c7b0 : decide (64 < (l0.length : Int)) = true := decide_eq_true c7
      have c7b1 : decide (64 < l0.length) = true := decide_eq_true (by omega)
      clear c7
      simp only [Option.some.injEq, Prod.mk.injEq] at H
      obtain ⟨rfl, rfl⟩ := H
      go_wp2
      repeat (go_quiet (fail); try go_wp2)
      go_ret2
      exact ⟨_, by first | rfl | (simp [errW_none, errW_some] <;> rfl) | (simp [*, errW_none, errW_some] <;> rfl), by first | exact Kd.R_nil _ _ _ _ _ | exact Kd.N_nil _ _ _ _ _ | exact Kd.V_nil _ _ _ _ _ | exact Kd.Q_nil _ _ _ _ _ | exact Kd.S_nil _ _ _ _ _, bO HB.out⟩
     ·rw [if_neg c7] at H
      have c7b0 : decide (64 < (l0.length : Int)) = false := decide_eq_false c7
      have c7b1 : decide (64 < l0.length) = false := decide_eq_false (by omega)
      clear c7
      have H' := Aside0.mk H
      clear H
      go_wp2
      repeat (go_quiet (fail); try go_wp2)
      go_loopg [6] kj2 (fun kq v6 w' => ∃ (x6_2 : Int), v6 = .int .i64 x6_2 ∧ Aside0 (tabardref03_Decode.l0 kq l0 a1 x6_2 = some (r1, r2)) ∧ Aside0 (kq ≤ kj2) ∧ Aside0 (Below w.heap.size w w'))
      case atStart => exact ⟨(0), (by first | rfl | (simp; done) | (simp [*]; done)), H', ⟨Nat.le_refl _⟩, ⟨bO HB.out⟩⟩
      case round =>
       clear H'
       try clear c2
       try clear p2
       try clear c4
       try clear c4b0
       try clear c5
       try clear c6
       try clear c6b0
       try clear c6b1
       try clear c6b2
       try clear c7
       try clear c7b0
       try clear c7b1
       try clear p2
       obtain ⟨x6_2, rfl, HA, HK2, HB⟩ := hrel
       cases gk with
       | zero => exact absurd HA.out (by simp [tabardref03_Decode.l0])
       | succ k2 =>
        have H := HA.out
        clear HA
        simp only [tabardref03_Decode.l0] at H
        by_cases c8 : x6_2 < (l0.length : Int)
        ·rw [if_pos c8] at H
         have c8b0 : decide (x6_2 < (l0.length : Int)) = true := decide_eq_true c8
         clear c8
         by_cases c9 : 0 ≤ x6_2
         ·rw [if_pos c9] at H
          have c9b0 : decide (0 ≤ x6_2) = true := decide_eq_true c9
          clear c9
          by_cases c10 : (rd l0 x6_2) < 0
          ·rw [if_pos c10] at H
           have c10b0 : decide ((rd l0 x6_2) < 0) = true := decide_eq_true c10
           clear c10
           simp only [Option.some.injEq, Prod.mk.injEq] at H
           obtain ⟨rfl, rfl⟩ := H
           have p557 : 0 ≤ (x6_2 : Int) := of_decide_eq_true aO
           have q557 : x6_2 < (l0.length : Int) := of_decide_eq_true aO
           obtain ⟨ad557, e557, hx557_0⟩ := Kd.at_int HR0.out x6_2 p557 q557
           cases e557
           replace hx557_0 := (HB.out.cell (World.block_lt_of_cell? w _ hx557_0)).trans hx557_0
           replace p557 := eq_true p557
           replace q557 := eq_true q557
           go_wp2
           repeat (go_quiet (fail); try go_wp2)
           go_ret2
           exact ⟨_, by first | rfl | (simp [errW_none, errW_some] <;> rfl) | (simp [*, errW_none, errW_some] <;> rfl), by first | exact Kd.R_nil _ _ _ _ _ | exact Kd.N_nil _ _ _ _ _ | exact Kd.V_nil _ _ _ _ _ | exact Kd.Q_nil _ _ _ _ _ | exact Kd.S_nil _ _ _ _ _, bO HB.out⟩
          ·rw [if_neg c10] at H
           have c10b0 : decide ((rd l0 x6_2) < 0) = false := decide_eq_false c10
           clear c10
           replace H := Option.bind_eq_some_iff.mp H
           obtain ⟨t559, A110, H⟩ := H
           replace H : (if (rd l0 x6_2) ≥ t559 then (some (([] : List Int), 30)) else (tabardref03_Decode.l0 k2 l0 a1 (wrap64 (x6_2 + 1)))) = some (r1, r2) := H
           have A11 := Aside0.mk A110
           clear A110
           by_cases c12 : (rd l0 x6_2) ≥ t559
           ·rw [if_pos c12] at H
            have c12b0 : decide (t559 ≤ (rd l0 x6_2)) = true := decide_eq_true c12
            clear c12
            simp only [Option.some.injEq, Prod.mk.injEq] at H
            obtain ⟨rfl, rfl⟩ := H
            have p557 : 0 ≤ (x6_2 : Int) := of_decide_eq_true aO
            have q557 : x6_2 < (l0.length : Int) := of_decide_eq_true aO
            obtain ⟨ad557, e557, hx557_0⟩ := Kd.at_int HR0.out x6_2 p557 q557
            cases e557
            replace hx557_0 := (HB.out.cell (World.block_lt_of_cell? w _ hx557_0)).trans hx557_0
            replace p557 := eq_true p557
            replace q557 := eq_true q557
            have p558 : 0 ≤ (x6_2 : Int) := of_decide_eq_true aO
            have q558 : x6_2 < (l0.length : Int) := of_decide_eq_true aO
            obtain ⟨ad558, e558, hx558_0⟩ := Kd.at_int HR0.out x6_2 p558 q558
            obtain rfl : ad557 = ad558 := (by injection e558)
            replace hx558_0 := (HB.out.cell (World.block_lt_of_cell? w _ hx558_0)).trans hx558_0
            replace p558 := eq_true p558
            replace q558 := eq_true q558
            go_wp2_with (first | (go_at_call 40; (with_reducible refine (tabardref03_Power.calls k2 a1 t559 _ A11.out).mono ?_); rintro e w' ⟨rfl, ⟨nd, rfl⟩⟩; (try first | exact ⟨rfl, _, World.drewN_drewN _ _ _⟩ | exact ⟨rfl, _, Eq.trans (World.drewN_drewN _ _ _) (congrArg (World.drewN _) (Nat.add_assoc _ _ _))⟩)))
            repeat (go_quiet (first | (go_at_call 40; (with_reducible refine (tabardref03_Power.calls k2 a1 t559 _ A11.out).mono ?_); rintro e w' ⟨rfl, ⟨nd, rfl⟩⟩; (try first | exact ⟨rfl, _, World.drewN_drewN _ _ _⟩ | exact ⟨rfl, _, Eq.trans (World.drewN_drewN _ _ _) (congrArg (World.drewN _) (Nat.add_assoc _ _ _))⟩))); try go_wp2_with (first | (go_at_call 40; (with_reducible refine (tabardref03_Power.calls k2 a1 t559 _ A11.out).mono ?_); rintro e w' ⟨rfl, ⟨nd, rfl⟩⟩; (try first | exact ⟨rfl, _, World.drewN_drewN _ _ _⟩ | exact ⟨rfl, _, Eq.trans (World.drewN_drewN _ _ _) (congrArg (World.drewN _) (Nat.add_assoc _ _ _))⟩))))
            go_ret2
            exact ⟨_, by first | rfl | (simp [errW_none, errW_some] <;> rfl) | (simp [*, errW_none, errW_some] <;> rfl), by first | exact Kd.R_nil _ _ _ _ _ | exact Kd.N_nil _ _ _ _ _ | exact Kd.V_nil _ _ _ _ _ | exact Kd.Q_nil _ _ _ _ _ | exact Kd.S_nil _ _ _ _ _, bO HB.out⟩
           ·rw [if_neg c12] at H
            have c12b0 : decide (t559 ≤ (rd l0 x6_2)) = false := decide_eq_false c12
            clear c12
            have H' := Aside0.mk H
            clear H
            have p557 : 0 ≤ (x6_2 : Int) := of_decide_eq_true aO
            have q557 : x6_2 < (l0.length : Int) := of_decide_eq_true aO
            obtain ⟨ad557, e557, hx557_0⟩ := Kd.at_int HR0.out x6_2 p557 q557
            cases e557
            replace hx557_0 := (HB.out.cell (World.block_lt_of_cell? w _ hx557_0)).trans hx557_0
            replace p557 := eq_true p557
            replace q557 := eq_true q557
            have p558 : 0 ≤ (x6_2 : Int) := of_decide_eq_true aO
            have q558 : x6_2 < (l0.length : Int) := of_decide_eq_true aO
            obtain ⟨ad558, e558, hx558_0⟩ := Kd.at_int HR0.out x6_2 p558 q558
            obtain rfl : ad557 = ad558 := (by injection e558)
            replace hx558_0 := (HB.out.cell (World.block_lt_of_cell? w _ hx558_0)).trans hx558_0
            replace p558 := eq_true p558
            replace q558 := eq_true q558
            go_wp2_with (first | (go_at_call 40; (with_reducible refine (tabardref03_Power.calls k2 a1 t559 _ A11.out).mono ?_); rintro e w' ⟨rfl, ⟨nd, rfl⟩⟩; (try first | exact ⟨rfl, _, World.drewN_drewN _ _ _⟩ | exact ⟨rfl, _, Eq.trans (World.drewN_drewN _ _ _) (congrArg (World.drewN _) (Nat.add_assoc _ _ _))⟩)))
            repeat (go_quiet (first | (go_at_call 40; (with_reducible refine (tabardref03_Power.calls k2 a1 t559 _ A11.out).mono ?_); rintro e w' ⟨rfl, ⟨nd, rfl⟩⟩; (try first | exact ⟨rfl, _, World.drewN_drewN _ _ _⟩ | exact ⟨rfl, _, Eq.trans (World.drewN_drewN _ _ _) (congrArg (World.drewN _) (Nat.add_assoc _ _ _))⟩))); try go_wp2_with (first | (go_at_call 40; (with_reducible refine (tabardref03_Power.calls k2 a1 t559 _ A11.out).mono ?_); rintro e w' ⟨rfl, ⟨nd, rfl⟩⟩; (try first | exact ⟨rfl, _, World.drewN_drewN _ _ _⟩ | exact ⟨rfl, _, Eq.trans (World.drewN_drewN _ _ _) (congrArg (World.drewN _) (Nat.add_assoc _ _ _))⟩))))
            go_roundg k2
            case measure => have := HJ2.out; have := HK2.out; omega
            case rel => exact ⟨(wrap64 (x6_2 + 1)), (by first | rfl | (simp; done) | (simp [*]; done)), H', ⟨by have := HJ2.out; have := HK2.out; omega⟩, ⟨bO HB.out⟩⟩
         ·rw [if_neg c9] at H
          exact absurd H (by simp)
        ·rw [if_neg c8] at H
         have c8b0 : decide (x6_2 < (l0.length : Int)) = false := decide_eq_false c8
         clear c8
         have H' := Aside0.mk H
         clear H
         go_wp2
         repeat (go_quiet (fail); try go_wp2)
         go_loopg [7, 8] k2 (fun kq v7 v8 w' => ∃ (x7_3 : List Int) (x8_3 : Int), v8 = .int .i64 x8_3 ∧ Aside0 (tabardref03_Decode.l1 kq l0 a1 x7_3 x8_3 = some (r1, r2)) ∧ Aside0 (kq ≤ k2) ∧ Aside0 (Kd.R (Kd.int .i64) 2 w' w.heap.size (fun _ => True) v7 x7_3) ∧ Aside0 (Below w.heap.size w w'))
         case atStart => exact ⟨(([] : List Int)), (0), (by first | rfl | (simp; done) | (simp [*]; done)), H', ⟨Nat.le_refl _⟩, ⟨by first | exact Kd.R_nil _ _ _ _ _ | exact Kd.N_nil _ _ _ _ _ | exact Kd.V_nil _ _ _ _ _ | exact Kd.Q_nil _ _ _ _ _ | exact Kd.S_nil _ _ _ _ _⟩, ⟨bO HB.out⟩⟩
         case round =>
          clear H'
          try clear c1
          try clear c2
          try clear p2
          try clear c4
          try clear c4b0
          try clear c5
          try clear p5
          try clear q5
          try clear hx5
          try clear c6
          try clear c6b0
          try clear c6b1
          try clear c6b2
          try clear p6
          try clear c7
          try clear c7b0
          try clear c7b1
          try clear c8
          try clear c8b0
          try clear c9
          try clear c9b0
          try clear c10
          try clear c10b0
          try clear c12
          try clear c12b0
          try clear hx557_0
          try clear hx558_0
          try clear p2
          try clear p557
          try clear p558
          try clear q557
          try clear q558
          obtain ⟨x7_3, x8_3, rfl, HA, HK3, HO_7, HB⟩ := hrel
          cases gk with
          | zero => exact absurd HA.out (by simp [tabardref03_Decode.l1])
          | succ k3 =>
           have H := HA.out
           clear HA
           simp only [tabardref03_Decode.l1] at H
           by_cases c13 : x8_3 < a1
           ·rw [if_pos c13] at H
            have c13b0 : decide (x8_3 < a1) = true := decide_eq_true c13
            clear c13
            replace H := Option.bind_eq_some_iff.mp H
            obtain ⟨t560, A140, H⟩ := H
            replace H : ((tabardref03_Number.f k3 t560).bind fun bt563 => (if x7_3.length < 17592186044416 then (tabardref03_Decode.l1 k3 l0 a1 (x7_3 ++ [bt563.1]) (wrap64 (x8_3 + 1))) else (none))) = some (r1, r2) := H
            have A14 := Aside0.mk A140
            clear A140
            replace H := Option.bind_eq_some_iff.mp H
            obtain ⟨⟨t563, t564⟩, A150, H⟩ := H
            replace H : (if x7_3.length < 17592186044416 then (tabardref03_Decode.l1 k3 l0 a1 (x7_3 ++ [t563]) (wrap64 (x8_3 + 1))) else (none)) = some (r1, r2) := H
            have A15 := Aside0.mk A150
            clear A150
            by_cases c16 : x7_3.length < 17592186044416
            ·rw [if_pos c16] at H
             have LMc16 := Aside0.mk c16
             clear c16
             obtain ⟨y565, hy565⟩ : ∃ y_ : List Int, y_ = (x7_3 ++ [t563]) := ⟨_, rfl⟩
             replace H : (tabardref03_Decode.l1 k3 l0 a1 y565 (wrap64 (x8_3 + 1))) = some (r1, r2) := by first | (rw [hy565]; with_reducible exact H) | (have H2_ := (Option.bind_some _ _).symm.trans H; rw [hy565]; with_reducible exact H2_) | (have H2_ := (Option.bind_some _ _).symm.trans H; with_reducible exact H2_) | with_reducible exact H | (rw [hy565]; exact H) | exact H
             have Ny565 := Aside0.mk hy565
             clear hy565
             have H' := Aside0.mk H
             clear H
             go_wp2_with (first | (go_at_call 41; (with_reducible refine (tabardref03_Track.calls k3 _ _ l0 x8_3 t560 _ ?side1 ?side2 A14.out).mono ?_); (case side1 => exact cO (Kd.C_below HR0.out HB.out)); (case side2 => exact HC0.out); rintro e w17 ⟨v561, rfl, ho0, hb⟩; have n0_ := Aside0.mk (Kd.R_below (rO HO_7.out) hb); have n1_ := Aside0.mk (Kd.R_lower ho0 (below_size (bO HB.out))); have n2_ := Aside0.mk (below_step (bO HB.out) hb); clear HO_7; clear HB; have HO_7 := n0_; have HO562 := n1_; have HB := n2_; clear n0_ n1_ n2_; (try clear hb); (try clear hb2); (try clear hk); (try clear hi); (try clear ho0); obtain ⟨Ao18, co18, eo18⟩ := Kd.R_slice HO562.out; subst eo18) | (go_at_call 20; (with_reducible refine (tabardref03_Number.calls k3 _ _ t560 t563 t564 _ ?side1 ?side2 A15.out).mono ?_); (case side1 => exact cO (Kd.R_reads' HO562.out).2.2); (case side2 => exact (Kd.R_reads' HO562.out).2.1); rintro e w19 ⟨rfl, hb⟩; have n0_ := Aside0.mk (Kd.R_below (rO HO_7.out) hb); have n1_ := Aside0.mk (Kd.R_below (rO HO562.out) hb); have n2_ := Aside0.mk (below_step (bO HB.out) hb); clear HO_7; clear HO562; clear HB; have HO_7 := n0_; have HO562 := n1_; have HB := n2_; clear n0_ n1_ n2_; (try clear hb); (try clear hb2); (try clear hk); (try clear hi)) | ((with_reducible refine gate_builtin (b := .append) (xs := #[.tmp 58, .tmp 60]) rfl ?_); at_builtin; refine Kd.R_append (Kd.int .i64) (w0 := w) w.heap.size rfl (.tmp 58) (.tmp 60) 22 2 (.int .i64 0) 8 rfl Try.underlying22 info2 rfl (by decide) (by omega) u7 x7_3 t563 [.int .i64 t563] (fun _ => True) (fun _ => False) rfl rfl ?aP (fun _ hk => hk.elim) ?aF ?aO ?aB ?aS ?aL ?_; (case aP => exact rfl); (case aB => exact (bO HB.out)); (case aF => exact (fun _ _ => trivial)); (case aO => exact (rO HO_7.out)); (case aS => exact (below_size (bO HB.out))); (case aL => have := LMc16.out; omega); intro v566 w20 ho hb hg hat; rw [← Ny565.out] at ho; have n0_ := Aside0.mk (Kd.R_over' (rO HO562.out) (Kd.R_typed (rO HO_7.out)) (by decide) hg); have n1_ := Aside0.mk (hb); have n2_ := Aside0.mk (ho); clear HO562; clear HB; clear HO_7; have HO562 := n0_; have HB := n1_; have HO567 := n2_; clear n0_ n1_ n2_; clear ho hb hg hat))
             repeat (go_quiet (first | (go_at_call 41; (with_reducible refine (tabardref03_Track.calls k3 _ _ l0 x8_3 t560 _ ?side1 ?side2 A14.out).mono ?_); (case side1 => exact cO (Kd.C_below HR0.out HB.out)); (case side2 => exact HC0.out); rintro e w17 ⟨v561, rfl, ho0, hb⟩; have n0_ := Aside0.mk (Kd.R_below (rO HO_7.out) hb); have n1_ := Aside0.mk (Kd.R_lower ho0 (below_size (bO HB.out))); have n2_ := Aside0.mk (below_step (bO HB.out) hb); clear HO_7; clear HB; have HO_7 := n0_; have HO562 := n1_; have HB := n2_; clear n0_ n1_ n2_; (try clear hb); (try clear hb2); (try clear hk); (try clear hi); (try clear ho0); obtain ⟨Ao18, co18, eo18⟩ := Kd.R_slice HO562.out; subst eo18) | (go_at_call 20; (with_reducible refine (tabardref03_Number.calls k3 _ _ t560 t563 t564 _ ?side1 ?side2 A15.out).mono ?_); (case side1 => exact cO (Kd.R_reads' HO562.out).2.2); (case side2 => exact (Kd.R_reads' HO562.out).2.1); rintro e w19 ⟨rfl, hb⟩; have n0_ := Aside0.mk (Kd.R_below (rO HO_7.out) hb); have n1_ := Aside0.mk (Kd.R_below (rO HO562.out) hb); have n2_ := Aside0.mk (below_step (bO HB.out) hb); clear HO_7; clear HO562; clear HB; have HO_7 := n0_; have HO562 := n1_; have HB := n2_; clear n0_ n1_ n2_; (try clear hb); (try clear hb2); (try clear hk); (try clear hi)) | ((with_reducible refine gate_builtin (b := .append) (xs := #[.tmp 58, .tmp 60]) rfl ?_); at_builtin; refine Kd.R_append (Kd.int .i64) (w0 := w) w.heap.size rfl (.tmp 58) (.tmp 60) 22 2 (.int .i64 0) 8 rfl Try.underlying22 info2 rfl (by decide) (by omega) u7 x7_3 t563 [.int .i64 t563] (fun _ => True) (fun _ => False) rfl rfl ?aP (fun _ hk => hk.elim) ?aF ?aO ?aB ?aS ?aL ?_; (case aP => exact rfl); (case aB => exact (bO HB.out)); (case aF => exact (fun _ _ => trivial)); (case aO => exact (rO HO_7.out)); (case aS => exact (below_size (bO HB.out))); (case aL => have := LMc16.out; omega); intro v566 w20 ho hb hg hat; rw [← Ny565.out] at ho; have n0_ := Aside0.mk (Kd.R_over' (rO HO562.out) (Kd.R_typed (rO HO_7.out)) (by decide) hg); have n1_ := Aside0.mk (hb); have n2_ := Aside0.mk (ho); clear HO562; clear HB; clear HO_7; have HO562 := n0_; have HB := n1_; have HO567 := n2_; clear n0_ n1_ n2_; clear ho hb hg hat)); try go_wp2_with (first | (go_at_call 41; (with_reducible refine (tabardref03_Track.calls k3 _ _ l0 x8_3 t560 _ ?side1 ?side2 A14.out).mono ?_); (case side1 => exact cO (Kd.C_below HR0.out HB.out)); (case side2 => exact HC0.out); rintro e w17 ⟨v561, rfl, ho0, hb⟩; have n0_ := Aside0.mk (Kd.R_below (rO HO_7.out) hb); have n1_ := Aside0.mk (Kd.R_lower ho0 (below_size (bO HB.out))); have n2_ := Aside0.mk (below_step (bO HB.out) hb); clear HO_7; clear HB; have HO_7 := n0_; have HO562 := n1_; have HB := n2_; clear n0_ n1_ n2_; (try clear hb); (try clear hb2); (try clear hk); (try clear hi); (try clear ho0); obtain ⟨Ao18, co18, eo18⟩ := Kd.R_slice HO562.out; subst eo18) | (go_at_call 20; (with_reducible refine (tabardref03_Number.calls k3 _ _ t560 t563 t564 _ ?side1 ?side2 A15.out).mono ?_); (case side1 => exact cO (Kd.R_reads' HO562.out).2.2); (case side2 => exact (Kd.R_reads' HO562.out).2.1); rintro e w19 ⟨rfl, hb⟩; have n0_ := Aside0.mk (Kd.R_below (rO HO_7.out) hb); have n1_ := Aside0.mk (Kd.R_below (rO HO562.out) hb); have n2_ := Aside0.mk (below_step (bO HB.out) hb); clear HO_7; clear HO562; clear HB; have HO_7 := n0_; have HO562 := n1_; have HB := n2_; clear n0_ n1_ n2_; (try clear hb); (try clear hb2); (try clear hk); (try clear hi)) | ((with_reducible refine gate_builtin (b := .append) (xs := #[.tmp 58, .tmp 60]) rfl ?_); at_builtin; refine Kd.R_append (Kd.int .i64) (w0 := w) w.heap.size rfl (.tmp 58) (.tmp 60) 22 2 (.int .i64 0) 8 rfl Try.underlying22 info2 rfl (by decide) (by omega) u7 x7_3 t563 [.int .i64 t563] (fun _ => True) (fun _ => False) rfl rfl ?aP (fun _ hk => hk.elim) ?aF ?aO ?aB ?aS ?aL ?_; (case aP => exact rfl); (case aB => exact (bO HB.out)); (case aF => exact (fun _ _ => trivial)); (case aO => exact (rO HO_7.out)); (case aS => exact (below_size (bO HB.out))); (case aL => have := LMc16.out; omega); intro v566 w20 ho hb hg hat; rw [← Ny565.out] at ho; have n0_ := Aside0.mk (Kd.R_over' (rO HO562.out) (Kd.R_typed (rO HO_7.out)) (by decide) hg); have n1_ := Aside0.mk (hb); have n2_ := Aside0.mk (ho); clear HO562; clear HB; clear HO_7; have HO562 := n0_; have HB := n1_; have HO567 := n2_; clear n0_ n1_ n2_; clear ho hb hg hat)))
             go_roundg k3
             case measure => have := HJ2.out; have := HK2.out; have := HK3.out; omega
             case rel => exact ⟨(y565), (wrap64 (x8_3 + 1)), (by first | rfl | (simp; done) | (simp [*]; done)), H', ⟨by have := HJ2.out; have := HK2.out; have := HK3.out; omega⟩, ⟨rO HO567.out⟩, ⟨bO HB.out⟩⟩
            ·rw [if_neg c16] at H
             exact absurd H (by simp)
           ·rw [if_neg c13] at H
            have c13b0 : decide (x8_3 < a1) = false := decide_eq_false c13
            clear c13
            simp only [Option.some.injEq, Prod.mk.injEq] at H
            obtain ⟨rfl, rfl⟩ := H
            go_wp2
            repeat (go_quiet (fail); try go_wp2)
            go_ret2
            exact ⟨_, by first | rfl | (simp [errW_none, errW_some] <;> rfl) | (simp [*, errW_none, errW_some] <;> rfl), rO HO_7.out, bO HB.out⟩

end Go.Proofs.Ytolacbnkebbjiaa.X

/- What the functions of this seat compute, and that the program's calls come to just that: written by this session's own program out of the translation; no condition. -/
import Derived.Test.YtghfclgcgecgdaaX0
namespace Go.Proofs.Ytghfclgcgecgdaa.X
open Go.RowKit Go.Proofs.YtghfclgcgecgdaaW.PrintWords Go.Proofs.YtghfclgcgecgdaaW.PrintLast Go.Proofs.YtghfclgcgecgdaaW.PrintMore
attribute [local go_sem] max2_int min2_int max_two min_two max_three min_three max_four min_four
set_option linter.unusedVariables false
set_option linter.unusedSimpArgs false

/-! ### tabardref11_half: function 69 -/
def tabardref11_half.l0 : Nat → List Int → Int → List Int → Int → Int → Option (List Int)
 | 0, _, _, _, _, _ => none
 | k + 1, x0, x1, x5, x6, x7 => if x7 < x6 then (if 0 ≤ (wrap64 ((wrap64 (x1 * x6)) + x7)) then (if (wrap64 ((wrap64 (x1 * x6)) + x7)) < (x0.length : Int) then (if x5.length < 17592186044416 then (tabardref11_half.l0 k x0 x1 (x5 ++ [rd x0 (wrap64 ((wrap64 (x1 * x6)) + x7))]) x6 (wrap64 (x7 + 1))) else (none)) else (none)) else (none)) else (some x5)
def tabardref11_half.f (k : Nat) (l0 : List Int) (a1 : Int) : Option (List Int) := tabardref11_half.l0 k l0 a1 ([] : List Int) (wrap64 ((l0.length : Int) / 2)) 0
theorem tabardref11_half.mono_l : ∀ k, (∀ y0 y1 y2 y3 y4, LeO (tabardref11_half.l0 k y0 y1 y2 y3 y4) (tabardref11_half.l0 (k + 1) y0 y1 y2 y3 y4))
 | 0 => fun _ _ _ _ _ r h => by simp [tabardref11_half.l0] at h
 | k + 1 => by
  have ih0 := tabardref11_half.mono_l k
  ·intro y0 y1 y2 y3 y4
   unfold tabardref11_half.l0
   repeat' first | (with_reducible first | exact ih0 _ _ _ _ _ | exact lA | apply lI | refine lB ?_ fun _ => ?_) | exact lN _ | apply lI | refine lB ?_ fun _ => ?_
theorem tabardref11_half.mono : ∀ a0 a1 k, LeO (tabardref11_half.f k a0 a1) (tabardref11_half.f (k + 1) a0 a1) := by
 intro a0 a1 k; have ih0 := tabardref11_half.mono_l k
 unfold tabardref11_half.f
 repeat' first | (with_reducible first | exact ih0 _ _ _ _ _ | exact lA | apply lI | refine lB ?_ fun _ => ?_) | exact lN _ | apply lI | refine lB ?_ fun _ => ?_
set_option maxHeartbeats 8000000 in
set_option maxRecDepth 100000 in
theorem tabardref11_half.calls (k : Nat) (A0 : Option Addr) (c0 : Nat) (l0 : List Int) (a1 : Int) (r : List Int) (w : World) (hr0 : Kd.C (Kd.int .i64) w A0 l0.length l0) (hc0 : l0.length ≤ c0) (h : tabardref11_half.f k l0 a1 = some r) :
  Calls Try.prog 69 #[.slice A0 l0.length c0, .int .i64 a1] w fun e w' => ∃ v0_ : Value, e = .returned (v0_) ∧ Kd.R (Kd.int .i64) 3 w' w.heap.size (fun _ => True) v0_ r ∧ Below w.heap.size w w' := by
 have HR0 := Aside0.mk hr0; have HC0 := Aside0.mk hc0; clear hr0 hc0; have HB := Aside0.mk (Below.refl w.heap.size w); have H : (tabardref11_half.l0 k l0 a1 ([] : List Int) (wrap64 ((l0.length : Int) / 2)) 0) = some r := h; clear h; have H' := Aside0.mk H; clear H
 go_enter Try.func69, Try.ntmps69
 go_wp2
 go_loopg [5, 7] k (fun kq v5 v7 w' => ∃ (x5_1 : List Int) (x7_1 : Int), v7 = .int .i64 x7_1 ∧ Aside0 (tabardref11_half.l0 kq l0 a1 x5_1 (wrap64 ((l0.length : Int) / 2)) x7_1 = some r) ∧ Aside0 (kq ≤ k) ∧ Aside0 (Kd.R (Kd.int .i64) 3 w' w.heap.size (fun _ => True) v5 x5_1) ∧ Aside0 (Below w.heap.size w w'))
 case atStart => exact ⟨(([] : List Int)), (0), sI, H', ⟨Nat.le_refl _⟩, ⟨by first | exact Kd.R_nil _ _ _ _ _ | exact Kd.N_nil _ _ _ _ _ | exact Kd.V_nil _ _ _ _ _ | exact Kd.Q_nil _ _ _ _ _ | exact Kd.S_nil _ _ _ _ _⟩, ⟨bO HB.out⟩⟩
 case round =>
  clear H'
  try clear p2
  obtain ⟨x5_1, x7_1, rfl, HA, HK1, HO_5, HB⟩ := hrel; cases gk with
  | zero => exact absurd HA.out (by simp [tabardref11_half.l0])
  | succ k1 =>
   have H := HA.out; clear HA; simp only [tabardref11_half.l0] at H
   by_cases c3 : x7_1 < (wrap64 ((l0.length : Int) / 2))
   ·rw [if_pos c3] at H; have c3b0 := decide_eq_true c3; clear c3; obtain ⟨ji4, hji4⟩ : ∃ j_ : Int, (wrap64 ((wrap64 (a1 * (wrap64 ((l0.length : Int) / 2)))) + x7_1)) = j_ := ⟨_, rfl⟩
    replace H : (if 0 ≤ (ji4) then (if (ji4) < (l0.length : Int) then (if x5_1.length < 17592186044416 then (tabardref11_half.l0 k1 l0 a1 (x5_1 ++ [rd l0 (ji4)]) (wrap64 ((l0.length : Int) / 2)) (wrap64 (x7_1 + 1))) else (none)) else (none)) else (none)) = some r := by first | (rw [hji4] at H; exact H) | (simp only [hji4] at H ⊢; exact H)
    have hji4w : (IntKind.i64.wrap ((wrap64 (a1 * (wrap64 ((l0.length : Int) / 2)))) + x7_1)) = ji4 := (i64_w _).trans hji4
    by_cases c5 : 0 ≤ (ji4)
    ·rw [if_pos c5] at H; have c5b0 := decide_eq_true c5; clear c5
     by_cases c6 : (ji4) < (l0.length : Int)
     ·rw [if_pos c6] at H; have c6b0 := decide_eq_true c6; clear c6
      by_cases c7 : x5_1.length < 17592186044416
      ·rw [if_pos c7] at H; have LMc7 := Aside0.mk c7; clear c7; obtain ⟨y440, hy440⟩ : ∃ y_ : List Int, y_ = (x5_1 ++ [rd l0 (ji4)]) := ⟨_, rfl⟩
       replace H : (tabardref11_half.l0 k1 l0 a1 y440 (wrap64 ((l0.length : Int) / 2)) (wrap64 (x7_1 + 1))) = some r := rH hy440 H
       have Ny440 := Aside0.mk hy440; clear hy440; have H' := Aside0.mk H; clear H; have p439 : 0 ≤ ((ji4) : Int) := of_decide_eq_true aO; have q439 : (ji4) < (l0.length : Int) := of_decide_eq_true aO; obtain ⟨ad439, e439, hx439_0⟩ := Kd.at_int HR0.out (ji4) p439 q439; cases e439; replace hx439_0 := cX HB hx439_0; replace p439 := eq_true p439; replace q439 := eq_true q439
       go_wp2_with (first | ((with_reducible refine gate_builtin (b := .append) (xs := #[.tmp 16, .tmp 25]) rfl ?_); at_builtin; refine Kd.R_append (Kd.int .i64) (w0 := w) w.heap.size rfl (.tmp 16) (.tmp 25) 29 3 (.int .i64 0) 8 rfl Try.underlying29 info3 rfl (by decide) (by omega) u5 x5_1 (rd l0 (ji4)) [.int .i64 (rd l0 (ji4))] (fun _ => True) (fun _ => False) rfl rfl ?aP (fun _ hk => hk.elim) ?aF ?aO ?aB ?aS ?aL ?_; (case aP => exact rfl); (case aB => exact (bO HB.out)); (case aF => exact (fun _ _ => trivial)); (case aO => exact (rO HO_5.out)); (case aS => exact (below_size (bO HB.out))); (case aL => have := LMc7.out; omega); intro v441 w8 ho hb hg hat; rw [← Ny440.out] at ho; replace HB := Aside0.mk (hb); have HO442 := Aside0.mk (ho); clear HO_5; clear ho hb hg hat))
       go_roundg k1
       case measure => have := HK1.out; omega
       case rel => exact ⟨(y440), (wrap64 (x7_1 + 1)), sI, H', ⟨by have := HK1.out; omega⟩, ⟨rO HO442.out⟩, ⟨bO HB.out⟩⟩
      ·rw [if_neg c7] at H; exact absurd H (by simp)
     ·rw [if_neg c6] at H; exact absurd H (by simp)
    ·rw [if_neg c5] at H; exact absurd H (by simp)
   ·rw [if_neg c3] at H; have c3b0 := decide_eq_false c3; clear c3; obtain rfl := Option.some.inj H
    go_wp2
    go_ret
    exact ⟨_, eW, rO HO_5.out, bO HB.out⟩

/-! ### tabardref11_same: function 70 -/
def tabardref11_same.l0 : Nat → List Int → List Int → Int → Option (Bool)
 | 0, _, _, _ => none
 | k + 1, x0, x1, x5 => if x5 < (x0.length : Int) then (if 0 ≤ x5 then (if x5 < (x1.length : Int) then (if (rd x0 x5) = (rd x1 x5) then (tabardref11_same.l0 k x0 x1 (wrap64 (x5 + 1))) else (some false)) else (none)) else (none)) else (some true)
def tabardref11_same.f (k : Nat) (l0 : List Int) (l1 : List Int) : Option (Bool) := tabardref11_same.l0 k l0 l1 0
theorem tabardref11_same.mono_l : ∀ k, (∀ y0 y1 y2, LeO (tabardref11_same.l0 k y0 y1 y2) (tabardref11_same.l0 (k + 1) y0 y1 y2))
 | 0 => fun _ _ _ r h => by simp [tabardref11_same.l0] at h
 | k + 1 => by
  have ih0 := tabardref11_same.mono_l k
  ·intro y0 y1 y2
   unfold tabardref11_same.l0
   repeat' first | (with_reducible first | exact ih0 _ _ _ | exact lA | apply lI | refine lB ?_ fun _ => ?_) | exact lN _ | apply lI | refine lB ?_ fun _ => ?_
theorem tabardref11_same.mono : ∀ a0 a1 k, LeO (tabardref11_same.f k a0 a1) (tabardref11_same.f (k + 1) a0 a1) := by
 intro a0 a1 k; have ih0 := tabardref11_same.mono_l k
 unfold tabardref11_same.f
 repeat' first | (with_reducible first | exact ih0 _ _ _ | exact lA | apply lI | refine lB ?_ fun _ => ?_) | exact lN _ | apply lI | refine lB ?_ fun _ => ?_
set_option maxHeartbeats 8000000 in
set_option maxRecDepth 100000 in
theorem tabardref11_same.calls (k : Nat) (A0 : Option Addr) (c0 : Nat) (l0 : List Int) (A1 : Option Addr) (c1 : Nat) (l1 : List Int) (r : Bool) (w : World) (hr0 : Kd.C (Kd.int .i64) w A0 l0.length l0) (hc0 : l0.length ≤ c0) (hr1 : Kd.C (Kd.int .i64) w A1 l1.length l1) (hc1 : l1.length ≤ c1) (h : tabardref11_same.f k l0 l1 = some r) :
  Calls Try.prog 70 #[.slice A0 l0.length c0, .slice A1 l1.length c1] w fun e w' => e = .returned (.bool r) ∧ Drawn0 w w' := by
 have HR0 := Aside0.mk hr0; have HC0 := Aside0.mk hc0; clear hr0 hc0; have HR1 := Aside0.mk hr1; have HC1 := Aside0.mk hc1; clear hr1 hc1; have H : (tabardref11_same.l0 k l0 l1 0) = some r := h; clear h; have H' := Aside0.mk H; clear H
 go_enter Try.func70, Try.ntmps70
 go_wp2
 repeat (go_quiet (fail); try go_wp2)
 go_loopg [5] k (fun kq v5 w' => ∃ (x5_1 : Int), v5 = .int .i64 x5_1 ∧ Aside0 (tabardref11_same.l0 kq l0 l1 x5_1 = some r) ∧ Aside0 (kq ≤ k) ∧ Drawn0 w w')
 case atStart => exact ⟨(0), sI, H', ⟨Nat.le_refl _⟩, by repeat (first | exact Drawn0.refl _ | apply Drawn0.step)⟩
 case round =>
  clear H'
  try clear c1
  try clear p2
  obtain ⟨x5_1, rfl, HA, HK1, ⟨m1, rfl⟩⟩ := hrel; cases gk with
  | zero => exact absurd HA.out (by simp [tabardref11_same.l0])
  | succ k1 =>
   have H := HA.out; clear HA; simp only [tabardref11_same.l0] at H
   by_cases c3 : x5_1 < (l0.length : Int)
   ·rw [if_pos c3] at H; have c3b0 := decide_eq_true c3; clear c3
    by_cases c4 : 0 ≤ x5_1
    ·rw [if_pos c4] at H; have c4b0 := decide_eq_true c4; clear c4
     by_cases c5 : x5_1 < (l1.length : Int)
     ·rw [if_pos c5] at H; have c5b0 := decide_eq_true c5; clear c5
      by_cases c6 : (rd l0 x5_1) = (rd l1 x5_1)
      ·rw [if_pos c6] at H; obtain ⟨c6b0, c6b1⟩ := bq c6; clear c6; have H' := Aside0.mk H; clear H; have p443 : 0 ≤ (x5_1 : Int) := of_decide_eq_true aO; have q443 : x5_1 < (l0.length : Int) := of_decide_eq_true aO; obtain ⟨ad443, e443, hx443_0⟩ := Kd.at_int HR0.out x5_1 p443 q443; cases e443; replace p443 := eq_true p443; replace q443 := eq_true q443; have p444 : 0 ≤ (x5_1 : Int) := of_decide_eq_true aO; have q444 : x5_1 < (l1.length : Int) := of_decide_eq_true aO; obtain ⟨ad444, e444, hx444_0⟩ := Kd.at_int HR1.out x5_1 p444 q444; cases e444; replace p444 := eq_true p444; replace q444 := eq_true q444
       go_wp2
       repeat (go_quiet (fail); try go_wp2)
       go_roundg k1
       case measure => have := HK1.out; omega
       case rel => exact ⟨(wrap64 (x5_1 + 1)), sI, H', ⟨by have := HK1.out; omega⟩, by repeat (first | exact Drawn0.refl _ | apply Drawn0.step)⟩
      ·rw [if_neg c6] at H; obtain ⟨c6b0, c6b1⟩ := bn c6; obtain rfl := Option.some.inj H; have p443 : 0 ≤ (x5_1 : Int) := of_decide_eq_true aO; have q443 : x5_1 < (l0.length : Int) := of_decide_eq_true aO; obtain ⟨ad443, e443, hx443_0⟩ := Kd.at_int HR0.out x5_1 p443 q443; cases e443; replace p443 := eq_true p443; replace q443 := eq_true q443; have p444 : 0 ≤ (x5_1 : Int) := of_decide_eq_true aO; have q444 : x5_1 < (l1.length : Int) := of_decide_eq_true aO; obtain ⟨ad444, e444, hx444_0⟩ := Kd.at_int HR1.out x5_1 p444 q444; cases e444; replace p444 := eq_true p444; replace q444 := eq_true q444
       go_wp2
       repeat (go_quiet (fail); try go_wp2)
       go_ret
       exact ⟨by first | rfl | (simp; done) | (simp [*]; done), by repeat (first | exact Drawn0.refl _ | apply Drawn0.step)⟩
     ·rw [if_neg c5] at H; exact absurd H (by simp)
    ·rw [if_neg c4] at H; exact absurd H (by simp)
   ·rw [if_neg c3] at H; have c3b0 := decide_eq_false c3; clear c3; obtain rfl := Option.some.inj H
    go_wp2
    repeat (go_quiet (fail); try go_wp2)
    go_ret
    exact ⟨by first | rfl | (simp; done) | (simp [*]; done), by repeat (first | exact Drawn0.refl _ | apply Drawn0.step)⟩

end Go.Proofs.Ytghfclgcgecgdaa.X

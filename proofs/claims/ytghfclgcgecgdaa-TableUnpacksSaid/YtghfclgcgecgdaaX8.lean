/- What the functions of this seat compute, and that the program's calls come to just that: written by this session's own program out of the translation; no condition. -/
import Derived.Test.YtghfclgcgecgdaaX0
import Derived.Test.YtghfclgcgecgdaaX1
namespace Go.Proofs.Ytghfclgcgecgdaa.X
open Go.RowKit Go.Proofs.YtghfclgcgecgdaaW.PrintWords Go.Proofs.YtghfclgcgecgdaaW.PrintLast Go.Proofs.YtghfclgcgecgdaaW.PrintMore
attribute [local go_sem] max2_int min2_int max_two min_two max_three min_three max_four min_four
set_option linter.unusedVariables false
set_option linter.unusedSimpArgs false

/-! ### slices_Clone_string_string: function 34 -/
def slices_Clone_string_string.f (l0 : List (ByteArray)) : Option (List (ByteArray)) := if l0.length < 8796093022208 then some l0 else none
set_option maxHeartbeats 8000000 in
set_option maxRecDepth 100000 in
theorem slices_Clone_string_string.calls (A0 : Option Addr) (c0 : Nat) (l0 : List (ByteArray)) (r : List (ByteArray)) (w : World) (hr0 : Kd.C Kd.string w A0 l0.length l0) (hc0 : l0.length ≤ c0) (h : slices_Clone_string_string.f l0 = some r) :
  Calls Try.prog 34 #[.slice A0 l0.length c0] w fun e w' => ∃ v0_ : Value, e = .returned (v0_) ∧ Kd.R Kd.string 9 w' w.heap.size (fun _ => True) v0_ r ∧ Below w.heap.size w w' := by
 have HB := Aside0.mk (Below.refl w.heap.size w)
 have hlim : l0.length < 8796093022208 ∧ l0 = r := by
  unfold slices_Clone_string_string.f at h
  by_cases hc : l0.length < 8796093022208
  ·rw [if_pos hc] at h; exact ⟨hc, Option.some.inj h⟩
  ·rw [if_neg hc] at h; cases h
 obtain ⟨hlim, rfl⟩ := hlim; have HL := Aside0.mk hlim; have HR0 := Aside0.mk hr0; clear hr0 hlim h; cases A0 with
 | none =>
  have h0 : l0.length = 0 := by
   rcases Nat.eq_zero_or_pos l0.length with h | h
   ·exact h
   ·obtain ⟨ad, h1, _⟩ := HR0.out.2.2 h; cases h1
  obtain rfl := List.eq_nil_of_length_eq_zero h0; clear h0
  have hn := fun (W : World) (n c : Nat) => Lib.run_eql_slice_nil (P := Try.prog) W 22 9 none n c 0 0 Try.underlying22
  go_enter Try.func34, Try.ntmps34
  go_wp2
  go_ret
  exact ⟨_, rfl, Kd.R_nil _ _ _ _ _, HB.out⟩
 | some ad =>
  have hn := fun (W : World) (n c : Nat) => Lib.run_eql_slice_nil (P := Try.prog) W 22 9 (some ad) n c 0 0 Try.underlying22
  go_enter Try.func34, Try.ntmps34
  go_wp2_with (first
   | ((with_reducible refine gate_dst (N := 5) rfl ?_); refine Kd.R_lit Kd.string _ 9 ?hg (N := 5) ?hd (xs := ([] : List (ByteArray))) (inner := []) (ok := fun _ => True) (okp := fun _ => True) ?hr ?hp (fun _ hk => hk) trivial (Below.refl _ _) (Nat.le_refl _) (by simp) ?_; (case hd => rfl); (case hg => rfl); (case hr => first | (go_simp; done) | (go_simp; rfl)); (case hp => exact (Reps.none _ _)); intro v1 w1 ho1 hb hg_ hnew_; clear hg_ hnew_; have HO1 := Aside0.mk (Kd.R_lower ho1 (below_size HB.out)); replace HB := Aside0.mk (below_step HB.out hb); clear hb ho1)
   | ((with_reducible refine gate_builtin (b := .append) (xs := #[.tmp 5, .tmp 6]) rfl ?_); at_builtin; refine Kd.R_append_rows Kd.string (w0 := w) w.heap.size rfl (.tmp 5) (.tmp 6) 22 9 (.string ⟨#[]⟩) 16 rfl Try.underlying22 info9 rfl (by decide) (by omega) v1 [] l0 _ _ _ (fun _ => True) (fun _ => False) rfl rfl ?aO ?aR (fun _ _ h => h) (fun _ h => h.elim) ?aF ?aB ?aS ?aL ?_; (case aR => exact (Kd.C_below HR0.out HB.out)); (case aB => exact HB.out); (case aF => exact (fun _ _ => trivial)); (case aO => exact HO1.out); (case aS => exact (below_size HB.out)); (case aL => have := HL.out; simp only [List.length_nil]; omega); intro v2 w2 ho hb hg hat; have n0_ := Aside0.mk (hb); have n1_ := Aside0.mk (ho); clear HB HO1; have HB := n0_; have HO2 := n1_; clear n0_ n1_; clear ho hb hg hat))
  go_ret
  exact ⟨_, rfl, HO2.out, HB.out⟩

/-! ### slices_Clone_bool_bool: function 35 -/
def slices_Clone_bool_bool.f (l0 : List (Bool)) : Option (List (Bool)) := if l0.length < 140737488355328 then some l0 else none
set_option maxHeartbeats 8000000 in
set_option maxRecDepth 100000 in
theorem slices_Clone_bool_bool.calls (A0 : Option Addr) (c0 : Nat) (l0 : List (Bool)) (r : List (Bool)) (w : World) (hr0 : Kd.C Kd.bool w A0 l0.length l0) (hc0 : l0.length ≤ c0) (h : slices_Clone_bool_bool.f l0 = some r) :
  Calls Try.prog 35 #[.slice A0 l0.length c0] w fun e w' => ∃ v0_ : Value, e = .returned (v0_) ∧ Kd.R Kd.bool 4 w' w.heap.size (fun _ => True) v0_ r ∧ Below w.heap.size w w' := by
 have HB := Aside0.mk (Below.refl w.heap.size w)
 have hlim : l0.length < 140737488355328 ∧ l0 = r := by
  unfold slices_Clone_bool_bool.f at h
  by_cases hc : l0.length < 140737488355328
  ·rw [if_pos hc] at h; exact ⟨hc, Option.some.inj h⟩
  ·rw [if_neg hc] at h; cases h
 obtain ⟨hlim, rfl⟩ := hlim; have HL := Aside0.mk hlim; have HR0 := Aside0.mk hr0; clear hr0 hlim h; cases A0 with
 | none =>
  have h0 : l0.length = 0 := by
   rcases Nat.eq_zero_or_pos l0.length with h | h
   ·exact h
   ·obtain ⟨ad, h1, _⟩ := HR0.out.2.2 h; cases h1
  obtain rfl := List.eq_nil_of_length_eq_zero h0; clear h0
  have hn := fun (W : World) (n c : Nat) => Lib.run_eql_slice_nil (P := Try.prog) W 23 4 none n c 0 0 Try.underlying23
  go_enter Try.func35, Try.ntmps35
  go_wp2
  go_ret
  exact ⟨_, rfl, Kd.R_nil _ _ _ _ _, HB.out⟩
 | some ad =>
  have hn := fun (W : World) (n c : Nat) => Lib.run_eql_slice_nil (P := Try.prog) W 23 4 (some ad) n c 0 0 Try.underlying23
  go_enter Try.func35, Try.ntmps35
  go_wp2_with (first
   | ((with_reducible refine gate_dst (N := 5) rfl ?_); refine Kd.R_lit Kd.bool _ 4 ?hg (N := 5) ?hd (xs := ([] : List (Bool))) (inner := []) (ok := fun _ => True) (okp := fun _ => True) ?hr ?hp (fun _ hk => hk) trivial (Below.refl _ _) (Nat.le_refl _) (by simp) ?_; (case hd => rfl); (case hg => rfl); (case hr => first | (go_simp; done) | (go_simp; rfl)); (case hp => exact (Reps.none _ _)); intro v1 w1 ho1 hb hg_ hnew_; clear hg_ hnew_; have HO1 := Aside0.mk (Kd.R_lower ho1 (below_size HB.out)); replace HB := Aside0.mk (below_step HB.out hb); clear hb ho1)
   | ((with_reducible refine gate_builtin (b := .append) (xs := #[.tmp 5, .tmp 6]) rfl ?_); at_builtin; refine Kd.R_append_rows Kd.bool (w0 := w) w.heap.size rfl (.tmp 5) (.tmp 6) 23 4 (.bool false) 1 rfl Try.underlying23 info4 rfl (by decide) (by omega) v1 [] l0 _ _ _ (fun _ => True) (fun _ => False) rfl rfl ?aO ?aR (fun _ _ h => h) (fun _ h => h.elim) ?aF ?aB ?aS ?aL ?_; (case aR => exact (Kd.C_below HR0.out HB.out)); (case aB => exact HB.out); (case aF => exact (fun _ _ => trivial)); (case aO => exact HO1.out); (case aS => exact (below_size HB.out)); (case aL => have := HL.out; simp only [List.length_nil]; omega); intro v2 w2 ho hb hg hat; have n0_ := Aside0.mk (hb); have n1_ := Aside0.mk (ho); clear HB HO1; have HB := n0_; have HO2 := n1_; clear n0_ n1_; clear ho hb hg hat))
  go_ret
  exact ⟨_, rfl, HO2.out, HB.out⟩

/-! ### row_right: function 56 -/
def row_right.f (k : Nat) (l0 : List Int) : Option (Bool) := if (l0.length : Int) ≥ 1 then (if (l0.length : Int) ≤ 64 then (if (Go.bits .and .i64 (l0.length : Int) (wrap64 ((l0.length : Int) - 1))) = 0 then ((slices_Min_int_int.f k l0).bind fun t115 => (some (decide (t115 ≥ 0)))) else (some false)) else (some false)) else (some false)
theorem row_right.mono : ∀ a0 k, LeO (row_right.f k a0) (row_right.f (k + 1) a0) := by
 intro a0 k
 unfold row_right.f
 repeat' first | (with_reducible first | exact slices_Min_int_int.mono _ _ | exact lA | apply lI | refine lB ?_ fun _ => ?_) | exact lN _ | apply lI | refine lB ?_ fun _ => ?_
set_option maxHeartbeats 8000000 in
set_option maxRecDepth 100000 in
theorem row_right.calls (k : Nat) (A0 : Option Addr) (c0 : Nat) (l0 : List Int) (r : Bool) (w : World) (hr0 : Kd.C (Kd.int .i64) w A0 l0.length l0) (hc0 : l0.length ≤ c0) (h : row_right.f k l0 = some r) :
  Calls Try.prog 56 #[.slice A0 l0.length c0] w fun e w' => e = .returned (.bool r) ∧ Below w.heap.size w w' := by
 have HR0 := Aside0.mk hr0; have HC0 := Aside0.mk hc0; clear hr0 hc0; have HB := Aside0.mk (Below.refl w.heap.size w); have H : (if (l0.length : Int) ≥ 1 then (if (l0.length : Int) ≤ 64 then (if (Go.bits .and .i64 (l0.length : Int) (wrap64 ((l0.length : Int) - 1))) = 0 then ((slices_Min_int_int.f k l0).bind fun t115 => (some (decide (t115 ≥ 0)))) else (some false)) else (some false)) else (some false)) = some r := h; clear h
 by_cases c2 : (l0.length : Int) ≥ 1
 ·rw [if_pos c2] at H; have c2b0 := decide_eq_true c2; have c2b1 : decide (1 ≤ l0.length) = true := decide_eq_true (by omega); clear c2
  by_cases c3 : (l0.length : Int) ≤ 64
  ·rw [if_pos c3] at H; have c3b0 := decide_eq_true c3; have c3b1 : decide (l0.length ≤ 64) = true := decide_eq_true (by omega); clear c3
   by_cases c4 : (Go.bits .and .i64 (l0.length : Int) (wrap64 ((l0.length : Int) - 1))) = 0
   ·rw [if_pos c4] at H; obtain ⟨c4b0, c4b1⟩ := bq c4; clear c4; replace H := Option.bind_eq_some_iff.mp H; obtain ⟨t115, A50, H⟩ := H; replace H : (some (decide (t115 ≥ 0))) = some r := H; have A5 := Aside0.mk A50; clear A50; obtain rfl := Option.some.inj H
    go_enter Try.func56, Try.ntmps56
    go_wp2_with (first | (go_at_call 39; (with_reducible refine (slices_Min_int_int.calls k _ _ l0 t115 _ ?s1 ?s2 A5.out).mono ?_); (case s1 => exact cO HR0.out); (case s2 => exact HC0.out); rintro e w6 ⟨rfl, hb⟩; replace HB := hS0 HB hb; (try clear hb); (try clear hb2); (try clear hk); (try clear hi)))
    go_ret
    exact ⟨eW, bO HB.out⟩
   ·rw [if_neg c4] at H; obtain ⟨c4b0, c4b1⟩ := bn c4; obtain rfl := Option.some.inj H
    go_enter Try.func56, Try.ntmps56
    go_wp2
    go_ret
    exact ⟨eW, bO HB.out⟩
  ·rw [if_neg c3] at H; have c3b0 := decide_eq_false c3; have c3b1 : decide (l0.length ≤ 64) = false := decide_eq_false (by omega); clear c3; obtain rfl := Option.some.inj H
   go_enter Try.func56, Try.ntmps56
   go_wp2
   go_ret
   exact ⟨eW, bO HB.out⟩
 ·rw [if_neg c2] at H; have c2b0 := decide_eq_false c2; have c2b1 : decide (1 ≤ l0.length) = false := decide_eq_false (by omega); clear c2; obtain rfl := Option.some.inj H
  go_enter Try.func56, Try.ntmps56
  go_wp2
  go_ret
  exact ⟨eW, bO HB.out⟩

/-! ### slices_Equal_int_int: function 51 -/
def slices_Equal_int_int.l0 : Nat → List Int → List Int → Int → Int → Option (Bool)
 | 0, _, _, _, _ => none
 | k + 1, x0, x1, x12, x13 => if x13 < x12 then (if 0 ≤ x13 then (if x13 < (x0.length : Int) then (if x13 < (x1.length : Int) then (if (rd x0 x13) = (rd x1 x13) then (slices_Equal_int_int.l0 k x0 x1 x12 (wrap64 (x13 + 1))) else (some false)) else (none)) else (none)) else (none)) else (some true)
def slices_Equal_int_int.f (k : Nat) (l0 : List Int) (l1 : List Int) : Option (Bool) := if (l0.length : Int) = (l1.length : Int) then (slices_Equal_int_int.l0 k l0 l1 (l0.length : Int) 0) else (some false)
theorem slices_Equal_int_int.mono_l : ∀ k, (∀ y0 y1 y2 y3, LeO (slices_Equal_int_int.l0 k y0 y1 y2 y3) (slices_Equal_int_int.l0 (k + 1) y0 y1 y2 y3))
 | 0 => fun _ _ _ _ r h => by simp [slices_Equal_int_int.l0] at h
 | k + 1 => by
  have ih0 := slices_Equal_int_int.mono_l k
  ·intro y0 y1 y2 y3
   unfold slices_Equal_int_int.l0
   repeat' first | (with_reducible first | exact ih0 _ _ _ _ | exact lA | apply lI | refine lB ?_ fun _ => ?_) | exact lN _ | apply lI | refine lB ?_ fun _ => ?_
theorem slices_Equal_int_int.mono : ∀ a0 a1 k, LeO (slices_Equal_int_int.f k a0 a1) (slices_Equal_int_int.f (k + 1) a0 a1) := by
 intro a0 a1 k; have ih0 := slices_Equal_int_int.mono_l k
 unfold slices_Equal_int_int.f
 repeat' first | (with_reducible first | exact ih0 _ _ _ _ | exact lA | apply lI | refine lB ?_ fun _ => ?_) | exact lN _ | apply lI | refine lB ?_ fun _ => ?_
set_option maxHeartbeats 8000000 in
set_option maxRecDepth 100000 in
theorem slices_Equal_int_int.calls (k : Nat) (A0 : Option Addr) (c0 : Nat) (l0 : List Int) (A1 : Option Addr) (c1 : Nat) (l1 : List Int) (r : Bool) (w : World) (hr0 : Kd.C (Kd.int .i64) w A0 l0.length l0) (hc0 : l0.length ≤ c0) (hr1 : Kd.C (Kd.int .i64) w A1 l1.length l1) (hc1 : l1.length ≤ c1) (h : slices_Equal_int_int.f k l0 l1 = some r) :
  Calls Try.prog 51 #[.slice A0 l0.length c0, .slice A1 l1.length c1] w fun e w' => e = .returned (.bool r) ∧ Drawn0 w w' := by
 have HR0 := Aside0.mk hr0; have HC0 := Aside0.mk hc0; clear hr0 hc0; have HR1 := Aside0.mk hr1; have HC1 := Aside0.mk hc1; clear hr1 hc1; have H : (if (l0.length : Int) = (l1.length : Int) then (slices_Equal_int_int.l0 k l0 l1 (l0.length : Int) 0) else (some false)) = some r := h; clear h
 by_cases c3 : (l0.length : Int) = (l1.length : Int)
 ·rw [if_pos c3] at H; obtain ⟨c3b0, c3b1⟩ := bq c3
  have c3b2 : (l0.length == l1.length) = true := by first | simpa using c3 | (simp at c3 ⊢; omega)
  clear c3; have H' := Aside0.mk H; clear H
  go_enter Try.func51, Try.ntmps51
  go_wp2
  repeat (go_quiet (fail); try go_wp2)
  go_loopg [13] k (fun kq v13 w' => ∃ (x13_1 : Int), v13 = .int .i64 x13_1 ∧ Aside0 (slices_Equal_int_int.l0 kq l0 l1 (l0.length : Int) x13_1 = some r) ∧ Aside0 (kq ≤ k) ∧ Drawn0 w w')
  case atStart => exact ⟨(0), sI, H', ⟨Nat.le_refl _⟩, by repeat (first | exact Drawn0.refl _ | apply Drawn0.step)⟩
  case round =>
   clear H'
   try clear c1
   try clear p2
   try clear c3
   try clear c3b0
   try clear c3b1
   try clear c3b2
   obtain ⟨x13_1, rfl, HA, HK1, ⟨m1, rfl⟩⟩ := hrel; cases gk with
   | zero => exact absurd HA.out (by simp [slices_Equal_int_int.l0])
   | succ k1 =>
    have H := HA.out; clear HA; simp only [slices_Equal_int_int.l0] at H
    by_cases c4 : x13_1 < (l0.length : Int)
    ·rw [if_pos c4] at H; have c4b0 := decide_eq_true c4; clear c4
     by_cases c5 : 0 ≤ x13_1
     ·rw [if_pos c5] at H; have c5b0 := decide_eq_true c5; clear c5
      by_cases c6 : x13_1 < (l0.length : Int)
      ·rw [if_pos c6] at H; have c6b0 := decide_eq_true c6; clear c6
       by_cases c7 : x13_1 < (l1.length : Int)
       ·rw [if_pos c7] at H; have c7b0 := decide_eq_true c7; clear c7
        by_cases c8 : (rd l0 x13_1) = (rd l1 x13_1)
        ·rw [if_pos c8] at H; obtain ⟨c8b0, c8b1⟩ := bq c8; clear c8; have H' := Aside0.mk H; clear H; have p116 : 0 ≤ (x13_1 : Int) := of_decide_eq_true aO; have q116 : x13_1 < (l0.length : Int) := of_decide_eq_true aO; obtain ⟨ad116, e116, hx116_0⟩ := Kd.at_int HR0.out x13_1 p116 q116; cases e116; replace p116 := eq_true p116; replace q116 := eq_true q116; have p117 : 0 ≤ (x13_1 : Int) := of_decide_eq_true aO; have q117 : x13_1 < (l1.length : Int) := of_decide_eq_true aO; obtain ⟨ad117, e117, hx117_0⟩ := Kd.at_int HR1.out x13_1 p117 q117; cases e117; replace p117 := eq_true p117; replace q117 := eq_true q117
         go_wp2
         repeat (go_quiet (fail); try go_wp2)
         go_roundg k1
         case measure => have := HK1.out; omega
         case rel => exact ⟨(wrap64 (x13_1 + 1)), sI, H', ⟨by have := HK1.out; omega⟩, by repeat (first | exact Drawn0.refl _ | apply Drawn0.step)⟩
        ·rw [if_neg c8] at H; obtain ⟨c8b0, c8b1⟩ := bn c8; obtain rfl := Option.some.inj H; have p116 : 0 ≤ (x13_1 : Int) := of_decide_eq_true aO; have q116 : x13_1 < (l0.length : Int) := of_decide_eq_true aO; obtain ⟨ad116, e116, hx116_0⟩ := Kd.at_int HR0.out x13_1 p116 q116; cases e116; replace p116 := eq_true p116; replace q116 := eq_true q116; have p117 : 0 ≤ (x13_1 : Int) := of_decide_eq_true aO; have q117 : x13_1 < (l1.length : Int) := of_decide_eq_true aO; obtain ⟨ad117, e117, hx117_0⟩ := Kd.at_int HR1.out x13_1 p117 q117; cases e117; replace p117 := eq_true p117; replace q117 := eq_true q117
         go_wp2
         repeat (go_quiet (fail); try go_wp2)
         go_ret
         exact ⟨by first | rfl | (simp; done) | (simp [*]; done), by repeat (first | exact Drawn0.refl _ | apply Drawn0.step)⟩
       ·rw [if_neg c7] at H; exact absurd H (by simp)
      ·rw [if_neg c6] at H; exact absurd H (by simp)
     ·rw [if_neg c5] at H; exact absurd H (by simp)
    ·rw [if_neg c4] at H; have c4b0 := decide_eq_false c4; clear c4; obtain rfl := Option.some.inj H
     go_wp2
     repeat (go_quiet (fail); try go_wp2)
     go_ret
     exact ⟨by first | rfl | (simp; done) | (simp [*]; done), by repeat (first | exact Drawn0.refl _ | apply Drawn0.step)⟩
 ·rw [if_neg c3] at H; obtain ⟨c3b0, c3b1⟩ := bn c3
  have c3b2 : (l0.length == l1.length) = false := by first | simpa using c3 | (simp at c3 ⊢; omega)
  obtain rfl := Option.some.inj H
  go_enter Try.func51, Try.ntmps51
  go_wp2
  repeat (go_quiet (fail); try go_wp2)
  go_ret
  exact ⟨by first | rfl | (simp; done) | (simp [*]; done), by repeat (first | exact Drawn0.refl _ | apply Drawn0.step)⟩

-- NOT PRINTED: function 57 (row_leaves)

end Go.Proofs.Ytghfclgcgecgdaa.X
namespace Go.Proofs.Ytghfclgcgecgdaa.X
open Go.RowKit Go.Proofs.YtghfclgcgecgdaaW.PrintWords Go.Proofs.YtghfclgcgecgdaaW.PrintLast Go.Proofs.YtghfclgcgecgdaaW.PrintMore
attribute [local go_sem] max2_int min2_int max_two min_two max_three min_three max_four min_four
set_option linter.unusedVariables false
set_option linter.unusedSimpArgs false

/-! ### row_Pack: function 36 -/
/-- The variable 'cubes' of a call of Pack: block g; what it holds is the call's own. -/
structure row_Pack.Inv (w0 W : World) (g : Nat) (xs : List S58) : Prop where
 ge : w0.heap.size ≤ g
 cell : ∃ v, W.heap[g]? = some (.cells #[v] 30 (0, 0)) ∧ Kd.R k58 58 W w0.heap.size (fun _ => True) v xs
 below : Below w0.heap.size w0 W
theorem row_Pack.leaf (w0 W : World) (g : Nat) (xs : List S58) (m b t : Int) (h : row_Pack.Inv w0 W g xs) (hl : xs.length ≤ 100000) :
  Calls Try.prog 60 #[.agg #[.int .i64 m, .int .i64 b, .int .i64 t], .pointer (some ⟨g, 0, none⟩)] W fun e w' => e = .returned (.tuple #[]) ∧ row_Pack.Inv w0 w' g (xs ++ [⟨m, b, t⟩]) := by
 obtain ⟨hge, ⟨v, hc, hr⟩, hb⟩ := h; have HC := Aside0.mk hc; have HR := Aside0.mk hr; have HB := Aside0.mk hb; have HL := Aside0.mk hl; have hcell : W.cell? ⟨g, 0, none⟩ = some v := (blk_cell hc 0).trans rfl
 have hca : ∀ o : Obj, (W.alloc o).cell? ⟨g, 0, none⟩ = some v := fun o => pw_cell_below (below_alloc (Below.refl W.heap.size W) o) hcell
 have hcb : ∀ o u : Obj, ((W.alloc o).alloc u).cell? ⟨g, 0, none⟩ = some v := fun o u => pw_cell_below (below_alloc (Below.refl _ _) u) (hca o)
 clear hc hr hb hcell hl
 go_enter Try.func60, Try.ntmps60
 go_wp2_with ((with_reducible refine gate_builtin (b := .append) (xs := #[.tmp 3, .tmp 5]) rfl ?_); at_builtin; refine Kd.R_append k58 (w0 := w0) w0.heap.size rfl (.tmp 3) (.tmp 5) 30 58 (.agg #[(.int .i64 0), (.int .i64 0), (.int .i64 0)]) 24 rfl Try.underlying30 info58 rfl (by decide) (by omega) v xs ⟨m, b, t⟩ [.int .i64 m, .int .i64 b, .int .i64 t] (fun _ => True) (fun _ => False) rfl ?aX ?aP (fun _ hk => hk.elim) ?aF ?aO ?aB ?aS ?aL ?_; (case aX => (show Value.slice (some ⟨W.heap.size + 1, 0, none⟩) 1 1 = _; simp)); (case aP => exact k58_mkM _ _ _ _); (case aB => exact below_alloc HB.out _); (case aF => exact (fun _ _ => trivial)); (case aO => exact Kd.R_alloc HR.out _); (case aS => exact (below_size (below_alloc HB.out _))); (case aL => have := HL.out; omega); intro v1 w1 ho hb hg hat; have hc0 := ((below_alloc (Below.refl W.heap.size W) (.cells #[.int .i64 m, .int .i64 b, .int .i64 t] 58)).block g (blk_lt HC.out)).trans HC.out; have hc1 := blk_grown hc0 hg (Kd.R_ne HR.out HC.out (by decide)); obtain ⟨A1, c1, e1⟩ := Kd.R_slice ho; subst e1; have H1 := Aside0.mk hc1; have H2 := Aside0.mk ho; have H3 := Aside0.mk hb; have hf1 := blk_frozen hc1 0; have hx1 : w1.cell? ⟨g, 0, none⟩ = some v := (blk_cell hc1 0).trans rfl; clear hc0 hc1 ho hb hg hat)
 go_end0
 have q := H2.out
 have e : (xs ++ [(⟨m, b, t⟩ : S58)]).length = xs.length + 1 := by simp
 rw [e] at q; exact ⟨rfl, hge, ⟨_, blk_set H1.out 0 _, Kd.R_mono (Kd.R_far (p := ⟨g, 0, none⟩) (Kd.R_far1 q rfl (Kd.R_ne q H1.out (by decide))) (fun k hk => hk.2) _) (fun _ _ => trivial)⟩, below_set H3.out hge⟩
/-- What 'leaves' hands out. -/
def row_Pack.leaves : Nat → List Int → Int → Int → Option (List S58)
 | 0, _, _, _ => none
 | k + 1, l, m, b =>
  if l.length / 2 = 0 then (if 0 < l.length then some [⟨m, b, rd l 0⟩] else none)
  else (slices_Equal_int_int.f k (l.take (l.length / 2)) (l.drop (l.length / 2))).bind fun t =>
   if t = true then row_Pack.leaves k (l.take (l.length / 2)) m b
   else (row_Pack.leaves k (l.take (l.length / 2)) (Go.bits .or .i64 m ((l.length / 2 : Nat) : Int)) b).bind fun x =>
    (row_Pack.leaves k (l.drop (l.length / 2)) (Go.bits .or .i64 m ((l.length / 2 : Nat) : Int)) (Go.bits .or .i64 b ((l.length / 2 : Nat) : Int))).bind fun y => some (x ++ y)
theorem row_Pack.Inv.drewN {w0 W : World} {g : Nat} {xs : List S58} (h : row_Pack.Inv w0 W g xs) (n : Nat) : row_Pack.Inv w0 (W.drewN n) g xs := by
 obtain ⟨v, hc, hr⟩ := h.cell; exact ⟨h.ge, ⟨v, hc, Kd.R_drewN hr n⟩, pw_below_drewN h.below n⟩
theorem row_Pack.Inv.drew {w0 W : World} {g : Nat} {xs : List S58} (h : row_Pack.Inv w0 W g xs) : row_Pack.Inv w0 W.drew g xs := by
 obtain ⟨v, hc, hr⟩ := h.cell; exact ⟨h.ge, ⟨v, hc, Kd.R_drew hr⟩, below_drew1 h.below⟩
theorem row_Pack.leaves_calls (w0 : World) (g : Nat) : ∀ (k : Nat) (A0 : Option Addr) (c0 : Nat) (l : List Int) (m b : Int) (r xs : List S58) (W : World),
  Kd.C (Kd.int .i64) w0 A0 l.length l → l.length ≤ c0 → row_Pack.leaves k l m b = some r → row_Pack.Inv w0 W g xs → xs.length + r.length ≤ 100000 →
  Calls Try.prog 57 #[.slice A0 l.length c0, .int .i64 m, .int .i64 b, .func (.func 60) #[] #[.pointer (some ⟨g, 0, none⟩)]] W fun e w' => e = .returned (.tuple #[]) ∧ row_Pack.Inv w0 w' g (xs ++ r) := by
 intro k
 induction k with
 | zero => intro A0 c0 l m b r xs W _ _ h; cases h
 | succ k ih =>
  intro A0 c0 l m b r xs W hC hc h hI hx; rw [row_Pack.leaves] at h; have hlen := hC.2.1
  have hdiv : Int.tdiv (l.length : Int) 2 = ((l.length / 2 : Nat) : Int) := by rw [Int.tdiv_eq_ediv_of_nonneg (by omega)]; omega
  by_cases c1 : l.length / 2 = 0
  ·rw [if_pos c1] at h
   by_cases c2 : 0 < l.length
   ·rw [if_pos c2] at h; obtain rfl := Option.some.inj h; obtain ⟨ad, rfl, hx0⟩ := Kd.at_int hC 0 (by omega) (by omega); rw [c1] at hdiv; have hx1 := pw_cell_below hI.below hx0; rw [show ((0 : Int)).toNat = 0 from rfl, Addr.add_zero'] at hx1; have HI := Aside0.mk hI; have HX := Aside0.mk hx; clear hI hx hx0 h hC
    go_enter Try.func57, Try.ntmps57
    go_wp2_with (go_at_call 60; (with_reducible refine (row_Pack.leaf w0 _ g xs m b _ HI.out (by have := HX.out; omega)).mono ?_); rintro e w1 ⟨rfl, hi⟩; have H1 := Aside0.mk hi; clear hi)
    go_end0
    exact ⟨rfl, H1.out⟩
   ·rw [if_neg c2] at h; cases h
  ·rw [if_neg c1] at h; replace h := Option.bind_eq_some_iff.mp h; obtain ⟨t, hE, h⟩ := h; obtain ⟨H, hH⟩ : ∃ H, H = l.length / 2 := ⟨_, rfl⟩; rw [← hH] at h hE hdiv c1
   have hH1 : 0 < H := by omega
   have hH2 : H ≤ l.length := by omega
   have hT : (l.take H).length = H := by rw [List.length_take]; omega
   have hF : (l.drop H).length = l.length - H := List.length_drop; obtain ⟨i0, hi0, _, hsz, _⟩ := info_parts info3; have hcut1 := cut_to (P := Try.prog) 29 3 .i64 Try.underlying29 hi0 A0 l.length c0 (H : Int) (by omega) (by omega) hc; have hcut2 := cut_from (P := Try.prog) 29 3 .i64 Try.underlying29 hi0 1 hsz A0 l.length c0 (H : Int) (by omega) (by omega); rw [Int.toNat_natCast] at hcut1 hcut2; have hCT := Kd.C_take hC hH2; have hCF := Kd.C_drop hC hH2 hc
   change Kd.C (Kd.int .i64) w0 (if c0 = H then A0 else A0.map (·.add (H * 1))) (l.drop H).length (l.drop H) at hCF
   obtain ⟨AF, hAF⟩ : ∃ AF, AF = (if c0 = H then A0 else A0.map (·.add (H * 1))) := ⟨_, rfl⟩; rw [← hAF] at hcut2 hCF
   have HQ : Aside0 (∀ W' : World, Below w0.heap.size w0 W' → Calls Try.prog 51 #[.slice A0 H c0, .slice AF (l.length - H) (c0 - H)] W' fun e w' => e = .returned (.bool t) ∧ Drawn0 W' w') := ⟨fun W' hW' => by
    have q := slices_Equal_int_int.calls k A0 c0 (l.take H) AF (c0 - H) (l.drop H) t W' (Kd.C_below hCT hW') (by omega) (Kd.C_below hCF hW') (by omega) hE; rw [hT, hF] at q
    exact q⟩
   have HR1 : Aside0 (∀ (m' b' : Int) (r' xs' : List S58) (W' : World), row_Pack.leaves k (l.take H) m' b' = some r' → row_Pack.Inv w0 W' g xs' → xs'.length + r'.length ≤ 100000 → Calls Try.prog 57 #[.slice A0 H c0, .int .i64 m', .int .i64 b', .func (.func 60) #[] #[.pointer (some ⟨g, 0, none⟩)]] W' fun e w' => e = .returned (.tuple #[]) ∧ row_Pack.Inv w0 w' g (xs' ++ r')) := ⟨fun m' b' r' xs' W' h1 h2 h3 => by
    have q := ih A0 c0 (l.take H) m' b' r' xs' W' hCT (by omega) h1 h2 h3; rw [hT] at q
    exact q⟩
   have HR2 : Aside0 (∀ (m' b' : Int) (r' xs' : List S58) (W' : World), row_Pack.leaves k (l.drop H) m' b' = some r' → row_Pack.Inv w0 W' g xs' → xs'.length + r'.length ≤ 100000 → Calls Try.prog 57 #[.slice AF (l.length - H) (c0 - H), .int .i64 m', .int .i64 b', .func (.func 60) #[] #[.pointer (some ⟨g, 0, none⟩)]] W' fun e w' => e = .returned (.tuple #[]) ∧ row_Pack.Inv w0 w' g (xs' ++ r')) := ⟨fun m' b' r' xs' W' h1 h2 h3 => by
    have q := ih AF (c0 - H) (l.drop H) m' b' r' xs' W' hCF (by omega) h1 h2 h3; rw [hF] at q
    exact q⟩
   have HI := Aside0.mk hI; have HX := Aside0.mk hx
   have c1b : ((H : Int) == 0) = false := by simp; omega
   clear hE hI hx hCT hCF hT hF hAF hH ih hi0 hsz hC
   by_cases ht : t = true
   ·subst ht; rw [if_pos rfl] at h; have HL := Aside0.mk h; clear h
    go_enter Try.func57, Try.ntmps57
    go_wp2
    refine start_ (n := 8) (S := fun w' => True) (ds := []) (bl 8 0) (by kernel_rfl) rfl rfl trivial (fun hHeld => ?_); refine pure_ (i := 0) (N := some 44) (v := ?_) (a' := ?_) (bl 8 1) rfl rfl (by kernel_rfl) (fun _ _ _ h => h) (Or.inl ⟨by rfl, ?_⟩) ?_ ?_; rotate_left
    ·intro w'
     go_simp
     with_reducible rfl
    rotate_left
    ·simp only [Act.put, sA, sB, sC, i64_w, i32_w]
     rfl
    refine pure_ (i := 1) (N := some 45) (v := ?_) (a' := ?_) (bl 8 3) rfl rfl (by kernel_rfl) (fun _ _ _ h => h) (Or.inl ⟨by rfl, ?_⟩) ?_ ?_; rotate_left
    ·intro w'
     go_simp
     with_reducible rfl
    rotate_left
    ·simp only [Act.put, sA, sB, sC, i64_w, i32_w]
     rfl
    refine pure_ (i := 2) (N := some 46) (v := ?_) (a' := ?_) (bl 8 7) rfl rfl (by kernel_rfl) (fun _ _ _ h => h) (Or.inl ⟨by rfl, ?_⟩) ?_ ?_; rotate_left
    ·intro w'
     go_simp
     with_reducible rfl
    rotate_left
    ·simp only [Act.put, sA, sB, sC, i64_w, i32_w]
     rfl
    refine pure_ (i := 3) (N := some 47) (v := ?_) (a' := ?_) (bl 8 15) rfl rfl (by kernel_rfl) (fun _ _ _ h => h) (Or.inl ⟨by rfl, ?_⟩) ?_ ?_; rotate_left
    ·intro w'
     go_simp
     with_reducible rfl
    rotate_left
    ·simp only [Act.put, sA, sB, sC, i64_w, i32_w]
     rfl
    refine pure_ (i := 4) (N := some 48) (v := ?_) (a' := ?_) (bl 8 31) rfl rfl (by kernel_rfl) (fun _ _ _ h => h) (Or.inl ⟨by rfl, ?_⟩) ?_ ?_; rotate_left
    ·intro w'
     go_simp
     with_reducible rfl
    rotate_left
    ·simp only [Act.put, sA, sB, sC, i64_w, i32_w]
     rfl
    refine pure_ (i := 5) (N := some 49) (v := ?_) (a' := ?_) (bl 8 63) rfl rfl (by kernel_rfl) (fun _ _ _ h => h) (Or.inl ⟨by rfl, ?_⟩) ?_ ?_; rotate_left
    ·intro w'
     go_simp
     with_reducible rfl
    rotate_left
    ·simp only [Act.put, sA, sB, sC, i64_w, i32_w]
     rfl
    refine one_ (i := 6) (N := some 50) (bl 8 127) rfl rfl (by kernel_rfl) (by decide) (fun K hK => ?_); refine goes_ Try.func51 (by kernel_rfl) rfl #[.slice A0 H c0, .slice AF (l.length - H) (c0 - H)] (by rfl) rfl rfl (by simp only [List.map_toArray, List.map_cons, List.map_nil]; rfl) ?_
    with_reducible refine (HQ.out _ (by repeat (first | exact HI.out.below | apply pw_below_drewN | apply below_drew1))).mono ?_
    rintro e w5 ⟨rfl, ⟨nd, rfl⟩⟩; refine ⟨_, rfl, ?_⟩; refine hK.out _ _ trivial (fun hHeld => ?_); clear hK K; refine nm_ 50 ?_; refine pure_ (i := 7) (N := some 43) (v := ?_) (a' := ?_) (bl 8 255) rfl rfl (by kernel_rfl) (fun _ _ _ h => h) (Or.inl ⟨by rfl, ?_⟩) ?_ ?_; rotate_left
    ·intro w'
     go_simp
     with_reducible rfl
    rotate_left
    ·simp only [Act.put, sA, sB, sC, i64_w, i32_w]
     rfl
    refine done_ (by kernel_rfl) ?_
    go_wp2_with (go_at_call 57; (with_reducible refine (HR1.out m b r xs _ HL.out (by repeat (first | exact HI.out | apply row_Pack.Inv.drewN | apply row_Pack.Inv.drew)) HX.out).mono ?_); rintro e w1 ⟨rfl, hi⟩; have H1 := Aside0.mk hi; clear hi)
    go_end0
    exact ⟨rfl, H1.out⟩
   ·have htf : t = false := by simpa using ht
    subst htf; clear ht; rw [if_neg (by simp)] at h; replace h := Option.bind_eq_some_iff.mp h; obtain ⟨x, hx1, h⟩ := h; replace h := Option.bind_eq_some_iff.mp h; obtain ⟨y, hy1, h⟩ := h; obtain rfl := Option.some.inj h; have HXX : Aside0 (xs.length + x.length ≤ 100000 ∧ (xs ++ x).length + y.length ≤ 100000) := ⟨by have := HX.out; rw [List.length_append] at this ⊢; omega⟩; have HL1 := Aside0.mk hx1; have HL2 := Aside0.mk hy1; clear h hx1 hy1
    go_enter Try.func57, Try.ntmps57
    go_wp2
    refine start_ (n := 8) (S := fun w' => True) (ds := []) (bl 8 0) (by kernel_rfl) rfl rfl trivial (fun hHeld => ?_); refine pure_ (i := 0) (N := some 44) (v := ?_) (a' := ?_) (bl 8 1) rfl rfl (by kernel_rfl) (fun _ _ _ h => h) (Or.inl ⟨by rfl, ?_⟩) ?_ ?_; rotate_left
    ·intro w'
     go_simp
     with_reducible rfl
    rotate_left
    ·simp only [Act.put, sA, sB, sC, i64_w, i32_w]
     rfl
    refine pure_ (i := 1) (N := some 45) (v := ?_) (a' := ?_) (bl 8 3) rfl rfl (by kernel_rfl) (fun _ _ _ h => h) (Or.inl ⟨by rfl, ?_⟩) ?_ ?_; rotate_left
    ·intro w'
     go_simp
     with_reducible rfl
    rotate_left
    ·simp only [Act.put, sA, sB, sC, i64_w, i32_w]
     rfl
    refine pure_ (i := 2) (N := some 46) (v := ?_) (a' := ?_) (bl 8 7) rfl rfl (by kernel_rfl) (fun _ _ _ h => h) (Or.inl ⟨by rfl, ?_⟩) ?_ ?_; rotate_left
    ·intro w'
     go_simp
     with_reducible rfl
    rotate_left
    ·simp only [Act.put, sA, sB, sC, i64_w, i32_w]
     rfl
    refine pure_ (i := 3) (N := some 47) (v := ?_) (a' := ?_) (bl 8 15) rfl rfl (by kernel_rfl) (fun _ _ _ h => h) (Or.inl ⟨by rfl, ?_⟩) ?_ ?_; rotate_left
    ·intro w'
     go_simp
     with_reducible rfl
    rotate_left
    ·simp only [Act.put, sA, sB, sC, i64_w, i32_w]
     rfl
    refine pure_ (i := 4) (N := some 48) (v := ?_) (a' := ?_) (bl 8 31) rfl rfl (by kernel_rfl) (fun _ _ _ h => h) (Or.inl ⟨by rfl, ?_⟩) ?_ ?_; rotate_left
    ·intro w'
     go_simp
     with_reducible rfl
    rotate_left
    ·simp only [Act.put, sA, sB, sC, i64_w, i32_w]
     rfl
    refine pure_ (i := 5) (N := some 49) (v := ?_) (a' := ?_) (bl 8 63) rfl rfl (by kernel_rfl) (fun _ _ _ h => h) (Or.inl ⟨by rfl, ?_⟩) ?_ ?_; rotate_left
    ·intro w'
     go_simp
     with_reducible rfl
    rotate_left
    ·simp only [Act.put, sA, sB, sC, i64_w, i32_w]
     rfl
    refine one_ (i := 6) (N := some 50) (bl 8 127) rfl rfl (by kernel_rfl) (by decide) (fun K hK => ?_); refine goes_ Try.func51 (by kernel_rfl) rfl #[.slice A0 H c0, .slice AF (l.length - H) (c0 - H)] (by rfl) rfl rfl (by simp only [List.map_toArray, List.map_cons, List.map_nil]; rfl) ?_
    with_reducible refine (HQ.out _ (by repeat (first | exact HI.out.below | apply pw_below_drewN | apply below_drew1))).mono ?_
    rintro e w5 ⟨rfl, ⟨nd, rfl⟩⟩; refine ⟨_, rfl, ?_⟩; refine hK.out _ _ trivial (fun hHeld => ?_); clear hK K; refine nm_ 50 ?_; refine pure_ (i := 7) (N := some 43) (v := ?_) (a' := ?_) (bl 8 255) rfl rfl (by kernel_rfl) (fun _ _ _ h => h) (Or.inl ⟨by rfl, ?_⟩) ?_ ?_; rotate_left
    ·intro w'
     go_simp
     with_reducible rfl
    rotate_left
    ·simp only [Act.put, sA, sB, sC, i64_w, i32_w]
     rfl
    refine done_ (by kernel_rfl) ?_
    go_wp2_with (first | (go_at_call 57; (with_reducible refine (HR2.out _ _ y (xs ++ x) _ HL2.out H1.out HXX.out.2).mono ?_); rintro e w2 ⟨rfl, hi⟩; have H2 := Aside0.mk hi; clear hi) | (go_at_call 57; (with_reducible refine (HR1.out _ _ x xs _ HL1.out (by repeat (first | exact HI.out | apply row_Pack.Inv.drewN | apply row_Pack.Inv.drew)) HXX.out.1).mono ?_); rintro e w1 ⟨rfl, hi⟩; have H1 := Aside0.mk hi; clear hi))
    go_end0
    rw [← List.append_assoc]; exact ⟨rfl, H2.out⟩
theorem row_Pack.leaves_length : ∀ (k : Nat) (l : List Int) (m b : Int) (r : List S58), row_Pack.leaves k l m b = some r → r.length ≤ l.length := by
 intro k
 induction k with
 | zero => intro l m b r h; cases h
 | succ k ih =>
  intro l m b r h; rw [row_Pack.leaves] at h
  by_cases c1 : l.length / 2 = 0
  ·rw [if_pos c1] at h
   by_cases c2 : 0 < l.length
   ·rw [if_pos c2] at h; obtain rfl := Option.some.inj h
    simp; omega
   ·rw [if_neg c2] at h; cases h
  ·rw [if_neg c1] at h; replace h := Option.bind_eq_some_iff.mp h; obtain ⟨t, _, h⟩ := h
   by_cases ht : t = true
   ·rw [if_pos ht] at h; have q := ih _ _ _ _ h; rw [List.length_take] at q
    omega
   ·rw [if_neg ht] at h; replace h := Option.bind_eq_some_iff.mp h; obtain ⟨x, hx, h⟩ := h; replace h := Option.bind_eq_some_iff.mp h; obtain ⟨y, hy, h⟩ := h; obtain rfl := Option.some.inj h; have q1 := ih _ _ _ _ hx; have q2 := ih _ _ _ _ hy; rw [List.length_take] at q1; rw [List.length_drop] at q2; rw [List.length_append]
    omega
theorem row_Pack.leaves_mono : ∀ (k : Nat) (l : List Int) (m b : Int), LeO (row_Pack.leaves k l m b) (row_Pack.leaves (k + 1) l m b) := by
 intro k
 induction k with
 | zero => intro l m b r h; cases h
 | succ k ih =>
  intro l m b; rw [row_Pack.leaves, row_Pack.leaves]; refine LeO.ite (LeO.refl _) (LeO.bind (slices_Equal_int_int.mono _ _ _) fun t => LeO.ite (ih _ _ _) (LeO.bind (ih _ _ _) fun x => LeO.bind (ih _ _ _) fun y => LeO.refl _))
def row_Pack.f (k : Nat) (l0 : List Int) : Option (List (S58) × Int) := (row_right.f k l0).bind fun t => if t = true then (row_Pack.leaves k l0 0 0).bind fun r => some (r, 0) else some ([], 3)
theorem row_Pack.mono : ∀ a0 k, LeO (row_Pack.f k a0) (row_Pack.f (k + 1) a0) := by
 intro a0 k
 unfold row_Pack.f
 exact LeO.bind (row_right.mono _ _) fun t => LeO.ite (LeO.bind (row_Pack.leaves_mono _ _ _ _) fun _ => LeO.refl _) (LeO.refl _)
theorem row_Pack.right_len {k : Nat} {l : List Int} (h : row_right.f k l = some true) : l.length ≤ 64 := by
 unfold row_right.f at h
 by_cases c1 : (l.length : Int) ≥ 1
 ·rw [if_pos c1] at h
  by_cases c2 : (l.length : Int) ≤ 64
  ·omega
  ·rw [if_neg c2] at h; cases h
 ·omega
theorem row_Pack.calls (k : Nat) (A0 : Option Addr) (c0 : Nat) (l0 : List Int) (r1 : List (S58)) (r2 : Int) (w : World) (hr0 : Kd.C (Kd.int .i64) w A0 l0.length l0) (hc0 : l0.length ≤ c0) (h : row_Pack.f k l0 = some (r1, r2)) :
  Calls Try.prog 36 #[.slice A0 l0.length c0] w fun e w' => ∃ v0_ : Value, e = .returned (.tuple #[v0_, .int .i64 r2]) ∧ Kd.R k58 58 w' w.heap.size (fun _ => True) v0_ r1 ∧ Below w.heap.size w w' := by
 unfold row_Pack.f at h
 replace h := Option.bind_eq_some_iff.mp h; obtain ⟨t, ht, h⟩ := h; have HT := Aside0.mk ht; have HR := Aside0.mk hr0; have HC := Aside0.mk hc0
 by_cases c : t = true
 ·subst c; rw [if_pos rfl] at h; replace h := Option.bind_eq_some_iff.mp h; obtain ⟨r, hL, h⟩ := h; simp only [Option.some.injEq, Prod.mk.injEq] at h; obtain ⟨rfl, rfl⟩ := h; have HL := Aside0.mk hL
  have HB0 := Aside0.mk (show ([] : List S58).length + r.length ≤ 100000 by
   have q1 := row_Pack.leaves_length _ _ _ _ _ hL; have q2 := row_Pack.right_len ht
   simp; omega)
  have hmf : ∀ (fn : Fn) (first cap : Array Value) (W : World), (Instr.makeFunc fn first cap).run Try.prog W = .ok (.func fn first cap) W := fun _ _ _ _ => rfl
  clear ht hL hr0 hc0
  go_enter Try.func36, Try.ntmps36
  go_wp2_with (first
   | (go_at_call 56; (with_reducible refine (row_right.calls k A0 c0 l0 true _ HR.out HC.out HT.out).mono ?_); rintro e w1 ⟨rfl, hb⟩; have HB := Aside0.mk hb; clear hb)
   | (go_at_call 57; (with_reducible refine (row_Pack.leaves_calls w w1.heap.size k A0 c0 l0 0 0 r [] _ HR.out HC.out HL.out ⟨HB.out.size, ⟨_, heap_alloc_new _ _, Kd.R_nil _ _ _ _ _⟩, below_alloc HB.out _⟩ HB0.out).mono ?_); rintro e w2 ⟨rfl, hi⟩; obtain ⟨hge, ⟨v, hc, hr⟩, hb⟩ := hi; have hx1 : w2.cell? ⟨w1.heap.size, 0, none⟩ = some v := (blk_cell hc 0).trans rfl; have H1 := Aside0.mk hr; have H2 := Aside0.mk hb; clear hc hr hb hge))
  go_ret2
  exact ⟨_, rfl, H1.out, H2.out⟩
 ·have c' : t = false := by simpa using c
  subst c'; rw [if_neg (by simp)] at h; simp only [Option.some.injEq, Prod.mk.injEq] at h; obtain ⟨rfl, rfl⟩ := h; clear ht hr0 hc0 c
  go_enter Try.func36, Try.ntmps36
  go_wp2_with (go_at_call 56; (with_reducible refine (row_right.calls k A0 c0 l0 false _ HR.out HC.out HT.out).mono ?_); rintro e w1 ⟨rfl, hb⟩; have HB := Aside0.mk hb; clear hb)
  go_ret2
  exact ⟨_, rfl, Kd.R_nil _ _ _ _ _, HB.out⟩

end Go.Proofs.Ytghfclgcgecgdaa.X

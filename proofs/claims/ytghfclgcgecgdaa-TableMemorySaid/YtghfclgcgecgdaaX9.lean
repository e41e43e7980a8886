/- What the functions of this seat compute, and that the program's calls come to just that: written by this session's own program out of the translation; no condition. -/
import Derived.Test.YtghfclgcgecgdaaX0
import Derived.Test.YtghfclgcgecgdaaX7
namespace Go.Proofs.Ytghfclgcgecgdaa.X
open Go.RowKit Go.Proofs.YtghfclgcgecgdaaW.PrintWords Go.Proofs.YtghfclgcgecgdaaW.PrintLast Go.Proofs.YtghfclgcgecgdaaW.PrintMore
attribute [local go_sem] max2_int min2_int max_two min_two max_three min_three max_four min_four
set_option linter.unusedVariables false
set_option linter.unusedSimpArgs false
set_option maxHeartbeats 8000000
set_option maxRecDepth 100000

/-! ### slices_Clone_string_string: function 34 -/
def slices_Clone_string_string.f (l0 : List (ByteArray)) : Option (List (ByteArray)) := if l0.length < 8796093022208 then some l0 else none
theorem slices_Clone_string_string.calls (J : Option Addr) (L : Nat) (z : List (ByteArray)) (r : List (ByteArray)) (w : World) (A : Kd.C Kd.string w J z.length z) (V : z.length ≤ L) (h : slices_Clone_string_string.f z = some r) :
  Calls Try.prog 34 #[.slice J z.length L] w fun e w' => ∃ B : Value, e = .returned (B) ∧ Kd.R Kd.string 9 w' w.heap.size (fun _ => True) B r ∧ Below w.heap.size w w' := by
 have HB := aM (Below.refl w.heap.size w)
 have hlim : z.length < 8796093022208 ∧ z = r := by
  unfold slices_Clone_string_string.f at h
  by_cases hc : z.length < 8796093022208
  ·rw [if_pos hc] at h; exact ⟨hc, Option.some.inj h⟩
  ·rw [if_neg hc] at h; cases h
 obtain ⟨hlim, rfl⟩ := hlim; have HL := aM hlim; have D := aM A; clear A hlim h; cases J with
 | none =>
  have M : z.length = 0 := by
   rcases Nat.eq_zero_or_pos z.length with h | h
   ·exact h
   ·obtain ⟨ad, Q, _⟩ := D.out.2.2 h; cases Q
  obtain rfl := List.eq_nil_of_length_eq_zero M; clear M
  have hn := fun (W : World) (n c : Nat) => Lib.run_eql_slice_nil (P := Try.prog) W 22 9 none n c 0 0 Try.underlying22
  go_enter Try.func34, Try.ntmps34
  go_wp2
  go_ret
  exact ⟨_, rfl, Kd.R_nil _ _ _ _ _, HB.out⟩
 | some ad =>
  have hn := fun (W : World) (n c : Nat) => Lib.run_eql_slice_nil (P := Try.prog) W 22 9 (some ad) n c 0 0 Try.underlying22
  go_enter Try.func34, Try.ntmps34
  go_wp2_with (first
   | ((with_reducible refine gate_dst (N := 5) rfl ?_); refine Kd.R_lit Kd.string _ 9 ?hg (N := 5) ?hd (xs := ([] : List (ByteArray))) (inner := []) (ok := fun _ => True) (okp := fun _ => True) ?hr ?hp (fun _ hk => hk) trivial (Below.refl _ _) (Nat.le_refl _) (by simp) ?_; (case hd => rfl); (case hg => rfl); (case hr => first | (go_simp; done) | (go_simp; rfl)); (case hp => exact (Reps.none _ _)); intro U Y E hb hg_ hnew_; clear hg_ hnew_; have F := aM (Kd.R_lower E (below_size HB.out)); replace HB := aM (below_step HB.out hb); clear hb E)
   | ((with_reducible refine gate_builtin (b := .append) (xs := #[.tmp 5, .tmp 6]) rfl ?_); at_builtin; refine Kd.R_append_rows Kd.string (w0 := w) w.heap.size rfl (.tmp 5) (.tmp 6) 22 9 (.string ⟨#[]⟩) 16 rfl Try.underlying22 info9 rfl (by decide) (by omega) U [] z _ _ _ (fun _ => True) (fun _ => False) rfl rfl ?aO ?aR (fun _ _ h => h) (fun _ h => h.elim) ?aF ?aB ?aS ?aL ?_; (case aR => exact (Kd.C_below D.out HB.out)); (case aB => exact HB.out); (case aF => exact (fun _ _ => trivial)); (case aO => exact F.out); (case aS => exact (below_size HB.out)); (case aL => have := HL.out; simp only [List.length_nil]; omega); intro Z w2 ho hb hg hat; have G := aM (hb); have I := aM (ho); clear HB F; have HB := G; have O := I; clear G I; clear ho hb hg hat))
  go_ret
  exact ⟨_, rfl, O.out, HB.out⟩

/-! ### slices_Clone_bool_bool: function 35 -/
def slices_Clone_bool_bool.f (l0 : List (Bool)) : Option (List (Bool)) := if l0.length < 140737488355328 then some l0 else none
theorem slices_Clone_bool_bool.calls (J : Option Addr) (L : Nat) (z : List (Bool)) (r : List (Bool)) (w : World) (A : Kd.C Kd.bool w J z.length z) (V : z.length ≤ L) (h : slices_Clone_bool_bool.f z = some r) :
  Calls Try.prog 35 #[.slice J z.length L] w fun e w' => ∃ B : Value, e = .returned (B) ∧ Kd.R Kd.bool 4 w' w.heap.size (fun _ => True) B r ∧ Below w.heap.size w w' := by
 have HB := aM (Below.refl w.heap.size w)
 have hlim : z.length < 140737488355328 ∧ z = r := by
  unfold slices_Clone_bool_bool.f at h
  by_cases hc : z.length < 140737488355328
  ·rw [if_pos hc] at h; exact ⟨hc, Option.some.inj h⟩
  ·rw [if_neg hc] at h; cases h
 obtain ⟨hlim, rfl⟩ := hlim; have HL := aM hlim; have D := aM A; clear A hlim h; cases J with
 | none =>
  have M : z.length = 0 := by
   rcases Nat.eq_zero_or_pos z.length with h | h
   ·exact h
   ·obtain ⟨ad, Q, _⟩ := D.out.2.2 h; cases Q
  obtain rfl := List.eq_nil_of_length_eq_zero M; clear M
  have hn := fun (W : World) (n c : Nat) => Lib.run_eql_slice_nil (P := Try.prog) W 23 4 none n c 0 0 Try.underlying23
  go_enter Try.func35, Try.ntmps35
  go_wp2
  go_ret
  exact ⟨_, rfl, Kd.R_nil _ _ _ _ _, HB.out⟩
 | some ad =>
  have hn := fun (W : World) (n c : Nat) => Lib.run_eql_slice_nil (P := Try.prog) W 23 4 (some ad) n c 0 0 Try.underlying23
  go_enter Try.func35, Try.ntmps35
  go_wp2_with (first
   | ((with_reducible refine gate_dst (N := 5) rfl ?_); refine Kd.R_lit Kd.bool _ 4 ?hg (N := 5) ?hd (xs := ([] : List (Bool))) (inner := []) (ok := fun _ => True) (okp := fun _ => True) ?hr ?hp (fun _ hk => hk) trivial (Below.refl _ _) (Nat.le_refl _) (by simp) ?_; (case hd => rfl); (case hg => rfl); (case hr => first | (go_simp; done) | (go_simp; rfl)); (case hp => exact (Reps.none _ _)); intro U Y E hb hg_ hnew_; clear hg_ hnew_; have F := aM (Kd.R_lower E (below_size HB.out)); replace HB := aM (below_step HB.out hb); clear hb E)
   | ((with_reducible refine gate_builtin (b := .append) (xs := #[.tmp 5, .tmp 6]) rfl ?_); at_builtin; refine Kd.R_append_rows Kd.bool (w0 := w) w.heap.size rfl (.tmp 5) (.tmp 6) 23 4 (.bool false) 1 rfl Try.underlying23 info4 rfl (by decide) (by omega) U [] z _ _ _ (fun _ => True) (fun _ => False) rfl rfl ?aO ?aR (fun _ _ h => h) (fun _ h => h.elim) ?aF ?aB ?aS ?aL ?_; (case aR => exact (Kd.C_below D.out HB.out)); (case aB => exact HB.out); (case aF => exact (fun _ _ => trivial)); (case aO => exact F.out); (case aS => exact (below_size HB.out)); (case aL => have := HL.out; simp only [List.length_nil]; omega); intro Z w2 ho hb hg hat; have G := aM (hb); have I := aM (ho); clear HB F; have HB := G; have O := I; clear G I; clear ho hb hg hat))
  go_ret
  exact ⟨_, rfl, O.out, HB.out⟩

/-! ### row_right: function 56 -/
def row_right.f (k : Nat) (l0 : List Int) : Option (Bool) := if (l0.length : Int) ≥ 1 then (if (l0.length : Int) ≤ 64 then (if (Go.bits .and .i64 (l0.length : Int) (wrap64 ((l0.length : Int) - 1))) = 0 then ((slices_Min_int_int.f k l0).bind fun t140 => (some (decide (t140 ≥ 0)))) else (some false)) else (some false)) else (some false)
theorem row_right.mono : ∀ a0 k, LeO (row_right.f k a0) (row_right.f (k + 1) a0) := by
 intro a0 k
 unfold row_right.f
 repeat' first | (with_reducible first | exact slices_Min_int_int.mono _ _ | exact lA | apply lI | refine lB ?_ fun _ => ?_) | exact lN _ | apply lI | refine lB ?_ fun _ => ?_
theorem row_right.calls (k : Nat) (V : Option Addr) (Y : Nat) (z : List Int) (r : Bool) (w : World) (E : Kd.C (Kd.int .i64) w V z.length z) (F : z.length ≤ Y) (h : row_right.f k z = some r) :
  Calls Try.prog 56 #[.slice V z.length Y] w fun e w' => e = .returned (.bool r) ∧ Below w.heap.size w w' := by
 have Z := aM E; have aa := aM F; clear E F; have HB := aM (Below.refl w.heap.size w); rw [row_right.f] at h; have H := h; clear h
 apply iB H <;> clear H <;> intro A H
 ·have I := dT A; have J : decide (1 ≤ z.length) = true := dT (by omega); clear A
  apply iB H <;> clear H <;> intro B H
  ·have L := dT B; have M : decide (z.length ≤ 64) = true := dT (by omega); clear B
   apply iB H <;> clear H <;> intro D H
   ·obtain ⟨O, Q⟩ := bq D; clear D; apply bSx H; clear H; intro U A5 H; obtain rfl := Option.some.inj H
    go_enter Try.func56, Try.ntmps56
    go_wp2_with (first | (go_at_call 39; (with_reducible refine (slices_Min_int_int.calls k _ _ z U _ ?s1 aa.out A5.out).mono ?_); (case s1 => exact cO Z.out); rintro e w6 ⟨rfl, hb⟩; replace HB := hS0 HB hb; (try clear hb)))
    go_ret
    exact ⟨eW, bO HB.out⟩
   ·obtain ⟨O, Q⟩ := bn D; obtain rfl := Option.some.inj H
    go_enter Try.func56, Try.ntmps56
    go_wp2
    go_ret
    exact ⟨eW, bO HB.out⟩
  ·have L := decide_eq_false B; have M : decide (z.length ≤ 64) = false := decide_eq_false (by omega); clear B; obtain rfl := Option.some.inj H
   go_enter Try.func56, Try.ntmps56
   go_wp2
   go_ret
   exact ⟨eW, bO HB.out⟩
 ·have I := decide_eq_false A; have J : decide (1 ≤ z.length) = false := decide_eq_false (by omega); clear A; obtain rfl := Option.some.inj H
  go_enter Try.func56, Try.ntmps56
  go_wp2
  go_ret
  exact ⟨eW, bO HB.out⟩

/-! ### slices_Equal_int_int: function 51 -/
def slices_Equal_int_int.l0 : Nat → List Int → List Int → Int → Int → Option (Bool)
 | 0, _, _, _, _ => none
 | k + 1, x0, x1, x12, x13 => if x13 < x12 then (if 0 ≤ x13 then (if x13 < (x0.length : Int) then (if x13 < (x1.length : Int) then (if (rd x0 x13) = (rd x1 x13) then (slices_Equal_int_int.l0 k x0 x1 x12 (wrap64 (x13 + 1))) else (some false)) else (none)) else (none)) else (none)) else (some true)
def slices_Equal_int_int.f (k : Nat) (l0 : List Int) (l1 : List Int) : Option (Bool) := if (l0.length : Int) = (l1.length : Int) then (slices_Equal_int_int.l0 k l0 l1 (l0.length : Int) 0) else (some false)
theorem slices_Equal_int_int.mono_l : ∀ k, (∀ y0 y1 y2 y3, LeO (slices_Equal_int_int.l0 k y0 y1 y2 y3) (slices_Equal_int_int.l0 (k + 1) y0 y1 y2 y3))
 | 0 => fun _ _ _ _ r h => by simp [slices_Equal_int_int.l0] at h
 | k + 1 => by
  have ih0 := slices_Equal_int_int.mono_l k
  ·intro y0 y1 y2 y3
   unfold slices_Equal_int_int.l0
   repeat' first | (with_reducible first | exact ih0 _ _ _ _ | exact lA | apply lI | refine lB ?_ fun _ => ?_) | exact lN _ | apply lI | refine lB ?_ fun _ => ?_
theorem slices_Equal_int_int.mono : ∀ a0 a1 k, LeO (slices_Equal_int_int.f k a0 a1) (slices_Equal_int_int.f (k + 1) a0 a1) := by
 intro a0 a1 k; have ih0 := slices_Equal_int_int.mono_l k
 unfold slices_Equal_int_int.f
 repeat' first | (with_reducible first | exact ih0 _ _ _ _ | exact lA | apply lI | refine lB ?_ fun _ => ?_) | exact lN _ | apply lI | refine lB ?_ fun _ => ?_
theorem slices_Equal_int_int.calls (k : Nat) (A0 : Option Addr) (c0 : Nat) (A : List Int) (A1 : Option Addr) (c1 : Nat) (G : List Int) (r : Bool) (w : World) (ac : Kd.C (Kd.int .i64) w A0 A.length A) (ae : A.length ≤ c0) (af : Kd.C (Kd.int .i64) w A1 G.length G) (ag : G.length ≤ c1) (h : slices_Equal_int_int.f k A G = some r) :
  Calls Try.prog 51 #[.slice A0 A.length c0, .slice A1 G.length c1] w fun e w' => e = .returned (.bool r) ∧ Drawn0 w w' := by
 have ah := aM ac; have az := aM ae; clear ac ae; have ai := aM af; have aA := aM ag; clear af ag; rw [slices_Equal_int_int.f] at h; have H := h; clear h
 apply iB H <;> clear H <;> intro I H
 ·obtain ⟨aj, ak⟩ := bq I
  have al : (A.length == G.length) = true := by first | simpa using I | (simp at I ⊢; omega)
  clear I; have H' := aM H; clear H
  go_enter Try.func51, Try.ntmps51
  go_wp2
  repeat (go_quiet (fail); try go_wp2)
  go_loopg [13] k (fun kq av w' => ∃ (z : Int), av = .int .i64 z ∧ Aside0 (slices_Equal_int_int.l0 kq A G (A.length : Int) z = some r) ∧ Aside0 (kq ≤ k) ∧ Drawn0 w w')
  case atStart => exact ⟨(0), sI, H', ⟨Nat.le_refl _⟩, dRw⟩
  case round =>
   clear H'
   obtain ⟨z, rfl, HA, aq, ⟨m1, rfl⟩⟩ := hrel; cases gk with
   | zero => exact absurd HA.out (by simp [slices_Equal_int_int.l0])
   | succ k1 =>
    have H := HA.out; clear HA; simp only [slices_Equal_int_int.l0] at H
    apply iB H <;> clear H <;> intro M H
    ·have am := dT M; clear M
     apply iN H; clear H; intro V H; have aw := dT V; clear V
     apply iN H; clear H; intro Y H; have ax := dT Y; clear Y
     apply iN H; clear H; intro Z H; have ay := dT Z; clear Z
     apply iB H <;> clear H <;> intro U H
     ·obtain ⟨an, ao⟩ := bq U; clear U; have H' := aM H; clear H; obtain ⟨⟨aa, J, O⟩, B, D⟩ := xAt (Kd.at_int ah.out) z; cases J; obtain ⟨⟨ab, L, Q⟩, E, F⟩ := xAt (Kd.at_int ai.out) z; cases L
      go_wp2
      repeat (go_quiet (fail); try go_wp2)
      go_roundg k1
      case measure => have := aq.out; omega
      case rel => exact ⟨(wrap64 (z + 1)), sI, H', ⟨by have := aq.out; omega⟩, dRw⟩
     ·obtain ⟨an, ao⟩ := bn U; obtain rfl := Option.some.inj H; obtain ⟨⟨aa, J, O⟩, B, D⟩ := xAt (Kd.at_int ah.out) z; cases J; obtain ⟨⟨ab, L, Q⟩, E, F⟩ := xAt (Kd.at_int ai.out) z; cases L
      go_wp2
      repeat (go_quiet (fail); try go_wp2)
      go_ret
      exact ⟨eVl, dRw⟩
    ·have am := decide_eq_false M; clear M; obtain rfl := Option.some.inj H
     go_wp2
     repeat (go_quiet (fail); try go_wp2)
     go_ret
     exact ⟨eVl, dRw⟩
 ·obtain ⟨aj, ak⟩ := bn I
  have al : (A.length == G.length) = false := by first | simpa using I | (simp at I ⊢; omega)
  obtain rfl := Option.some.inj H
  go_enter Try.func51, Try.ntmps51
  go_wp2
  repeat (go_quiet (fail); try go_wp2)
  go_ret
  exact ⟨eVl, dRw⟩

-- NOT PRINTED: function 57 (row_leaves)

-- NOT PRINTED: function 60 (row_Pack_1)

end Go.Proofs.Ytghfclgcgecgdaa.X

/- The law TableMemory over lists alone, and all that it leans on; no condition beyond the statement's own. -/
import Derived.Test.YtghfclgcgecgdaaX0
import Derived.Test.YtghfclgcgecgdaaX0
import Derived.Test.YtghfclgcgecgdaaX10
import Derived.Test.YtghfclgcgecgdaaX11
import Derived.Test.YtghfclgcgecgdaaX12
import Derived.Test.YtghfclgcgecgdaaX13
import Derived.Test.YtghfclgcgecgdaaX14
import Derived.Test.YtghfclgcgecgdaaX15
import Derived.Test.YtghfclgcgecgdaaX16
import Derived.Test.YtghfclgcgecgdaaX18
import Derived.Test.YtghfclgcgecgdaaX19
import Derived.Test.YtghfclgcgecgdaaX2
import Derived.Test.YtghfclgcgecgdaaX20
import Derived.Test.YtghfclgcgecgdaaX21
import Derived.Test.YtghfclgcgecgdaaX24
import Derived.Test.YtghfclgcgecgdaaX25
import Derived.Test.YtghfclgcgecgdaaX27
import Derived.Test.YtghfclgcgecgdaaX3
import Derived.Test.YtghfclgcgecgdaaX4
import Derived.Test.YtghfclgcgecgdaaX5
import Derived.Test.YtghfclgcgecgdaaX6
import Derived.Test.YtghfclgcgecgdaaX7
import Derived.Test.YtghfclgcgecgdaaX8
import Derived.Test.YtghfclgcgecgdaaX9
import Derived.Lib.DecodeN
namespace Go.Proofs.Ytghfclgcgecgdaa.Pure
open Go.RowKit Go.Proofs.YtghfclgcgecgdaaW.PrintWords Go.Proofs.YtghfclgcgecgdaaW.PrintLast Go.Proofs.YtghfclgcgecgdaaW.PrintMore Go.Proofs.Ytghfclgcgecgdaa.X
set_option linter.unusedVariables false
/-! ### Rounds -/
theorem Ev.cond {α : Type} {c : Prop} [Decidable c] {f g : Nat → Option α} {r : α} (h : c) (k : Ev f r) : Ev (fun n => if c then f n else g n) r :=
  Ev.congr (fun _ => if_pos h) k
theorem Ev.ncond {α : Type} {c : Prop} [Decidable c] {f g : Nat → Option α} {r : α} (h : ¬ c) (k : Ev g r) : Ev (fun n => if c then f n else g n) r :=
  Ev.congr (fun _ => if_neg h) k
theorem Ev.ite {α : Type} {c : Prop} [Decidable c] {f g : Nat → Option α} {r : α} (h : c → Ev f r) (k : ¬ c → Ev g r) : Ev (fun n => if c then f n else g n) r := by
  by_cases hc : c
  · exact Ev.cond hc (h hc)
  · exact Ev.ncond hc (k hc)
theorem Ev.fin {α : Type} {r q : α} (h : r = q) : Ev (fun _ => Option.some r) q := h ▸ Ev.now r
theorem Ev.ret {α β : Type} {g : Option α} {a : α} {f : Nat → α → Option β} {r : β} (h : g = Option.some a) (k : Ev (fun n => f n a) r) : Ev (fun n => g.bind (f n)) r := by
  subst h; exact k
theorem w64 {x : Int} (h0 : -9223372036854775808 ≤ x) (h1 : x ≤ 9223372036854775807) : wrap64 x = x := by unfold wrap64; omega
theorem rd_nat (l : List Int) (i : Nat) : rd l (i : Int) = l.getD i 0 := by simp [rd]
end Go.Proofs.Ytghfclgcgecgdaa.Pure
namespace Go.Proofs.Ytghfclgcgecgdaa.Pure
open Go.RowKit Go.Proofs.YtghfclgcgecgdaaW.PrintWords Go.Proofs.YtghfclgcgecgdaaW.PrintLast Go.Proofs.YtghfclgcgecgdaaW.PrintMore Go.Proofs.Ytghfclgcgecgdaa.X
set_option linter.unusedVariables false
instance : DecidableEq S58 := fun x y => decidable_of_iff (x.f0 = y.f0 ∧ x.f1 = y.f1 ∧ x.f2 = y.f2) (by cases x; cases y; simp)
theorem rdT_nat (l : List S58) (i : Nat) : rd_T58 l (i : Int) = l.getD i z58 := by simp [rd_T58]
theorem drop_rd (a b : List Int) {i : Nat} (h : i < a.length) (h' : i < b.length) : a.drop i = b.drop i ↔ rd a (i : Int) = rd b (i : Int) ∧ a.drop (i + 1) = b.drop (i + 1) := by
  rw [List.drop_eq_getElem_cons h, List.drop_eq_getElem_cons h', rd_nat, rd_nat, List.getD_eq_getElem?_getD, List.getD_eq_getElem?_getD, List.getElem?_eq_getElem h, List.getElem?_eq_getElem h', List.cons.injEq]
  rfl
theorem drop_rdT (a b : List S58) {i : Nat} (h : i < a.length) (h' : i < b.length) : a.drop i = b.drop i ↔ rd_T58 a (i : Int) = rd_T58 b (i : Int) ∧ a.drop (i + 1) = b.drop (i + 1) := by
  rw [List.drop_eq_getElem_cons h, List.drop_eq_getElem_cons h', rdT_nat, rdT_nat, List.getD_eq_getElem?_getD, List.getD_eq_getElem?_getD, List.getElem?_eq_getElem h, List.getElem?_eq_getElem h', List.cons.injEq]
  rfl
theorem ne_S (x y : S58) : ((!(x.f0 == y.f0)) || (!(x.f1 == y.f1) || !(x.f2 == y.f2))) = true ↔ ¬ x = y := by
  obtain ⟨a, b, c⟩ := x
  obtain ⟨d, e, f⟩ := y
  by_cases h0 : a = d <;> by_cases h1 : b = e <;> by_cases h2 : c = f <;> simp [h0, h1, h2]
theorem equal_ev (a b : List Int) (ha : a.length ≤ 9000000000000000000) : Ev (fun k => slices_Equal_int_int.f k a b) (decide (a = b)) := by
  refine Ev.congr (fun k => by rw [slices_Equal_int_int.f]) (Ev.ite (fun h => ?_) (fun h => Ev.fin ?_))
  · have hl : a.length = b.length := by omega
    have key : ∀ (m i : Nat), i + m = a.length → Ev (fun k => slices_Equal_int_int.l0 k a b (a.length : Int) (i : Int)) (decide (a.drop i = b.drop i)) := by
      intro m
      induction m with
      | zero =>
        intro i hi
        refine Ev.step (fun k => by rw [slices_Equal_int_int.l0]) (Ev.ncond (by omega) (Ev.fin ?_))
        rw [List.drop_eq_nil_of_le (by omega), List.drop_eq_nil_of_le (by omega)]; exact (decide_eq_true rfl).symm
      | succ m ih =>
        intro i hi
        refine Ev.step (fun k => by rw [slices_Equal_int_int.l0]) (Ev.cond (by omega) (Ev.cond (by omega) (Ev.cond (by omega) (Ev.cond (by omega) ?_))))
        refine Ev.ite (fun c => ?_) (fun c => Ev.fin ?_)
        · rw [w64 (by omega) (by omega)]
          have := ih (i + 1) (by omega)
          rwa [decide_eq_decide.2 ((drop_rd a b (by omega) (by omega)).trans (and_iff_right (id c)))]
        · exact (decide_eq_false (fun e => (id c) ((drop_rd a b (by omega) (by omega)).1 e).1)).symm
    exact key a.length 0 (by omega)
  · exact (decide_eq_false (fun e_ => h (by rw [e_]))).symm
theorem eq_S {x y : S58} (h : ¬ ((!(x.f0 == y.f0)) || (!(x.f1 == y.f1) || !(x.f2 == y.f2))) = true) : x = y := Classical.byContradiction fun d => h ((ne_S _ _).2 d)
theorem cubeq_ev (a b : List S58) (ha : a.length ≤ 9000000000000000000) : Ev (fun k => api_Cube.f k a b) (decide (a = b)) := by
  refine Ev.congr (fun k => by rw [api_Cube.f]) (Ev.ite (fun h => ?_) (fun h => Ev.fin ?_))
  · have hl : a.length = b.length := by omega
    have key : ∀ (m i : Nat), i + m = a.length → Ev (fun k => api_Cube.l0 k a b (a.length : Int) (i : Int)) (decide (a.drop i = b.drop i)) := by
      intro m
      induction m with
      | zero =>
        intro i hi
        refine Ev.step (fun k => by rw [api_Cube.l0]) (Ev.ncond (by omega) (Ev.fin ?_))
        rw [List.drop_eq_nil_of_le (by omega), List.drop_eq_nil_of_le (by omega)]; exact (decide_eq_true rfl).symm
      | succ m ih =>
        intro i hi
        refine Ev.step (fun k => by rw [api_Cube.l0]) (Ev.cond (by omega) (Ev.cond (by omega) (Ev.cond (by omega) (Ev.cond (by omega) ?_))))
        refine Ev.ite (fun c => Ev.fin ?_) (fun c => ?_)
        · exact (decide_eq_false (fun e => ((ne_S _ _).1 c) ((drop_rdT a b (by omega) (by omega)).1 e).1)).symm
        · rw [w64 (by omega) (by omega)]
          have := ih (i + 1) (by omega)
          rwa [decide_eq_decide.2 ((drop_rdT a b (by omega) (by omega)).trans (and_iff_right (eq_S c)))]
    exact key a.length 0 (by omega)
  · exact (decide_eq_false (fun e_ => h (by rw [e_]))).symm
/-! ### The least and the greatest -/
theorem mn_le (s x y : Int) : s ≤ mn x y ↔ s ≤ x ∧ s ≤ y := by unfold mn; split <;> omega
theorem mx_lt (s x y : Int) : mx x y < s ↔ x < s ∧ y < s := by unfold mx; split <;> omega
theorem all_drop (p : Int → Prop) (a : List Int) {i : Nat} (h : i < a.length) : (∀ x ∈ a.drop i, p x) ↔ p (rd a (i : Int)) ∧ ∀ x ∈ a.drop (i + 1), p x := by
  rw [List.drop_eq_getElem_cons h, rd_nat, List.getD_eq_getElem?_getD, List.getElem?_eq_getElem h]
  exact List.forall_mem_cons
theorem min_ev (a : List Int) (h1 : 1 ≤ a.length) (ha : a.length ≤ 9000000000000000000) : ∃ r, Ev (fun k => slices_Min_int_int.f k a) r ∧ ∀ s, s ≤ r ↔ ∀ x ∈ a, s ≤ x := by
  have key : ∀ (m i : Nat) (c : Int), i + m = a.length → ∃ r, Ev (fun k => slices_Min_int_int.l0 k a c (i : Int)) r ∧ ∀ s, s ≤ r ↔ s ≤ c ∧ ∀ x ∈ a.drop i, s ≤ x := by
    intro m
    induction m with
    | zero =>
      intro i c hi
      refine ⟨c, Ev.step (fun k => by rw [slices_Min_int_int.l0]) (Ev.ncond (by omega) (Ev.fin rfl)), fun s => ?_⟩
      rw [List.drop_eq_nil_of_le (by omega)]; simp
    | succ m ih =>
      intro i c hi
      obtain ⟨r, hr, hs⟩ := ih (i + 1) (mn c (rd a (i : Int))) (by omega)
      refine ⟨r, Ev.step (fun k => by rw [slices_Min_int_int.l0]) (Ev.cond (by omega) (Ev.cond (by omega) ?_)), fun s => ?_⟩
      · rw [w64 (by omega) (by omega)]; exact hr
      · rw [hs, mn_le, all_drop (fun x => s ≤ x) a (i := i) (by omega), and_assoc]
  obtain ⟨r, hr, hs⟩ := key (a.length - 1) 1 (rd a 0) (by omega)
  have hr' : Ev (fun k => slices_Min_int_int.l0 k a (rd a 0) 1) r := hr
  refine ⟨r, Ev.congr (fun k => by rw [slices_Min_int_int.f]) (Ev.ncond (by omega) (Ev.cond (by omega) hr')), fun s => ?_⟩
  rw [hs, show (∀ x ∈ a, s ≤ x) ↔ (∀ x ∈ a.drop 0, s ≤ x) by rw [List.drop_zero], all_drop (fun x => s ≤ x) a (i := 0) (by omega)]
  exact Iff.rfl
theorem max_ev (a : List Int) (h1 : 1 ≤ a.length) (ha : a.length ≤ 9000000000000000000) : ∃ r, Ev (fun k => slices_Max_int_int.f k a) r ∧ ∀ s, r < s ↔ ∀ x ∈ a, x < s := by
  have key : ∀ (m i : Nat) (c : Int), i + m = a.length → ∃ r, Ev (fun k => slices_Max_int_int.l0 k a c (i : Int)) r ∧ ∀ s, r < s ↔ c < s ∧ ∀ x ∈ a.drop i, x < s := by
    intro m
    induction m with
    | zero =>
      intro i c hi
      refine ⟨c, Ev.step (fun k => by rw [slices_Max_int_int.l0]) (Ev.ncond (by omega) (Ev.fin rfl)), fun s => ?_⟩
      rw [List.drop_eq_nil_of_le (by omega)]; simp
    | succ m ih =>
      intro i c hi
      obtain ⟨r, hr, hs⟩ := ih (i + 1) (mx c (rd a (i : Int))) (by omega)
      refine ⟨r, Ev.step (fun k => by rw [slices_Max_int_int.l0]) (Ev.cond (by omega) (Ev.cond (by omega) ?_)), fun s => ?_⟩
      · rw [w64 (by omega) (by omega)]; exact hr
      · rw [hs, mx_lt, all_drop (fun x => x < s) a (i := i) (by omega), and_assoc]
  obtain ⟨r, hr, hs⟩ := key (a.length - 1) 1 (rd a 0) (by omega)
  have hr' : Ev (fun k => slices_Max_int_int.l0 k a (rd a 0) 1) r := hr
  refine ⟨r, Ev.congr (fun k => by rw [slices_Max_int_int.f]) (Ev.ncond (by omega) (Ev.cond (by omega) hr')), fun s => ?_⟩
  rw [hs, show (∀ x ∈ a, x < s) ↔ (∀ x ∈ a.drop 0, x < s) by rw [List.drop_zero], all_drop (fun x => x < s) a (i := 0) (by omega)]
  exact Iff.rfl
/-! ### Rows -/
/-- Is it a row over some tracks? -/
def IsRow (l : List Int) : Prop := (∃ j, j ≤ 6 ∧ l.length = 2 ^ j) ∧ ∀ x ∈ l, 0 ≤ x
theorem pow_bits : ∀ n : Fin 65, 1 ≤ n.1 → (Go.bits .and .i64 (n.1 : Int) ((n.1 : Int) - 1) = 0 ↔ ∃ j : Fin 7, n.1 = 2 ^ j.1) := by decide +kernel
theorem pow6 {n : Nat} (h : n ≤ 6) : 2 ^ n ≤ 64 := by
  have := Nat.pow_le_pow_right (show 0 < 2 by omega) h
  omega
theorem IsRow.len {l : List Int} (h : IsRow l) : 1 ≤ l.length ∧ l.length ≤ 64 := by
  obtain ⟨⟨j, hj, e⟩, _⟩ := h
  have := pow6 hj
  have := Nat.two_pow_pos j
  omega
noncomputable instance decRow (l : List Int) : Decidable (IsRow l) := Classical.propDecidable _
theorem right_ev (l : List Int) (hl : l.length ≤ 9000000000000000000) : Ev (fun k => row_right.f k l) (decide (IsRow l)) := by
  refine Ev.congr (fun k => by rw [row_right.f]) ?_
  by_cases c : 1 ≤ l.length ∧ l.length ≤ 64
  · refine Ev.cond (by omega) (Ev.cond (by omega) ?_)
    have q := pow_bits ⟨l.length, by omega⟩ c.1
    rw [w64 (by omega) (by omega)]
    refine Ev.ite (fun h => ?_) (fun h => Ev.fin ?_)
    · obtain ⟨j, hj⟩ := q.1 h
      obtain ⟨r, hr, hs⟩ := min_ev l c.1 hl
      refine Ev.bind hr (Ev.fin ?_)
      congr 1
      exact propext ⟨fun h0 => ⟨⟨j.1, by omega, hj⟩, (hs 0).1 h0⟩, fun h0 => (hs 0).2 h0.2⟩
    · exact (decide_eq_false (fun ⟨⟨j, hj, e⟩, _⟩ => h (q.2 ⟨⟨j, by omega⟩, e⟩))).symm
  · have no : ¬ IsRow l := fun h => c h.len
    rw [decide_eq_false no]
    refine Ev.ite (fun h => Ev.ncond (by omega) (Ev.fin rfl)) (fun _ => Ev.fin rfl)
end Go.Proofs.Ytghfclgcgecgdaa.Pure
namespace Go.Proofs.Ytghfclgcgecgdaa.Pure
open Go.RowKit Go.Proofs.YtghfclgcgecgdaaW.PrintWords Go.Proofs.YtghfclgcgecgdaaW.PrintLast Go.Proofs.YtghfclgcgecgdaaW.PrintMore Go.Proofs.Ytghfclgcgecgdaa.X
set_option linter.unusedVariables false
def tree : Nat → List Int → Int → Int → List S58
  | 0, l, m, b => [⟨m, b, l.getD 0 0⟩]
  | j + 1, l, m, b =>
    if l.take (2 ^ j) = l.drop (2 ^ j) then tree j (l.take (2 ^ j)) m b
    else tree j (l.take (2 ^ j)) (m + ((2 ^ j : Nat) : Int)) b ++ tree j (l.drop (2 ^ j)) (m + ((2 ^ j : Nat) : Int)) (b + ((2 ^ j : Nat) : Int))
def shift (m b : Int) (x : S58) : S58 := ⟨m + x.f0, b + x.f1, x.f2⟩
theorem tree_shift (j : Nat) : ∀ (l : List Int) (m b : Int), tree j l m b = (tree j l 0 0).map (shift m b) := by
  induction j with
  | zero => intro l m b; simp [tree, shift]
  | succ j ih =>
    intro l m b
    simp only [tree]
    split
    · exact ih _ _ _
    · rw [ih (l.take (2 ^ j)) (m + _), ih (l.drop (2 ^ j)) (m + _), ih (l.take (2 ^ j)) (0 + _), ih (l.drop (2 ^ j)) (0 + _)]
      simp only [List.map_append, List.map_map]
      congr 1
      · apply List.map_congr_left; intro x _; simp only [shift, Function.comp]; congr 1 <;> omega
      · apply List.map_congr_left; intro x _; simp only [shift, Function.comp]; congr 1 <;> omega
/-- What is known of each cube. -/
structure Good (j : Nat) (x : S58) : Prop where
  b0 : 0 ≤ x.f1
  bm : x.f1 ≤ x.f0
  m2 : x.f0 < ((2 ^ j : Nat) : Int)
  lies : Go.bits .andNot .i64 x.f1 x.f0 = 0
def hit (a : Int) (x : S58) : Bool := Go.bits .and .i64 a x.f0 == x.f1

theorem bits_step : ∀ j : Fin 6, ∀ m : Fin 32, ∀ a : Fin 64, m.1 < 2 ^ j.1 → a.1 < 2 ^ (j.1 + 1) →
    Go.bits .and .i64 (a.1 : Int) (((2 ^ j.1 : Nat) : Int) + (m.1 : Int)) = Go.bits .and .i64 ((a.1 % 2 ^ j.1 : Nat) : Int) (m.1 : Int) + (if a.1 < 2 ^ j.1 then 0 else ((2 ^ j.1 : Nat) : Int)) ∧
    Go.bits .and .i64 (a.1 : Int) (m.1 : Int) = Go.bits .and .i64 ((a.1 % 2 ^ j.1 : Nat) : Int) (m.1 : Int) ∧
    0 ≤ Go.bits .and .i64 ((a.1 % 2 ^ j.1 : Nat) : Int) (m.1 : Int) ∧ Go.bits .and .i64 ((a.1 % 2 ^ j.1 : Nat) : Int) (m.1 : Int) < ((2 ^ j.1 : Nat) : Int) := by decide +kernel
theorem clear_step : ∀ j : Fin 6, ∀ m : Fin 32, ∀ b : Fin 32, m.1 < 2 ^ j.1 → b.1 < 2 ^ j.1 → Go.bits .andNot .i64 (b.1 : Int) (m.1 : Int) = 0 →
    Go.bits .andNot .i64 (b.1 : Int) (((2 ^ j.1 : Nat) : Int) + (m.1 : Int)) = 0 ∧ Go.bits .andNot .i64 (((2 ^ j.1 : Nat) : Int) + (b.1 : Int)) (((2 ^ j.1 : Nat) : Int) + (m.1 : Int)) = 0 := by decide +kernel
theorem or_step : ∀ j : Fin 6, ∀ m : Fin 64, m.1 < 64 / 2 ^ (j.1 + 1) → Go.bits .or .i64 ((m.1 * 2 ^ (j.1 + 1) : Nat) : Int) ((2 ^ j.1 : Nat) : Int) = ((m.1 * 2 ^ (j.1 + 1) : Nat) : Int) + ((2 ^ j.1 : Nat) : Int) := by decide +kernel
theorem pow_le {j : Nat} (h : j < 6) : 2 ^ j ≤ 32 := by
  have : (2 : Nat) ^ j ≤ 2 ^ 5 := Nat.pow_le_pow_right (by decide) (by omega)
  exact this
theorem Good.nat {j : Nat} {x : S58} (g : Good j x) : ∃ m b : Nat, x.f0 = (m : Int) ∧ x.f1 = (b : Int) ∧ m < 2 ^ j ∧ b ≤ m := by
  obtain ⟨h0, h1, h2, _⟩ := g
  obtain ⟨m, hm⟩ := Int.eq_ofNat_of_zero_le (show 0 ≤ x.f0 by omega)
  obtain ⟨b, hb⟩ := Int.eq_ofNat_of_zero_le h0
  exact ⟨m, b, hm, hb, by omega, by omega⟩
theorem Good.up {j : Nat} {x : S58} (g : Good j x) : Good (j + 1) x := by
  obtain ⟨h0, h1, h2, h3⟩ := g
  exact ⟨h0, h1, by rw [Nat.pow_succ]; omega, h3⟩
theorem Good.low {j : Nat} {x : S58} (hj : j < 6) (g : Good j x) : Good (j + 1) (shift ((2 ^ j : Nat) : Int) 0 x) := by
  obtain ⟨m, b, e0, e1, hm, hb⟩ := g.nat
  have q := pow_le hj
  have := (clear_step ⟨j, hj⟩ ⟨m, by omega⟩ ⟨b, by omega⟩ hm (by show b < 2 ^ j; omega) (by have := g.lies; rw [e0, e1] at this; exact this)).1
  refine ⟨?_, ?_, ?_, ?_⟩
  · show 0 ≤ 0 + x.f1; omega
  · show 0 + x.f1 ≤ _ + x.f0; omega
  · show _ + x.f0 < _; rw [Nat.pow_succ]; omega
  · show Go.bits .andNot .i64 (0 + x.f1) (_ + x.f0) = 0
    rw [Int.zero_add, e0, e1]; exact this
theorem Good.high {j : Nat} {x : S58} (hj : j < 6) (g : Good j x) : Good (j + 1) (shift ((2 ^ j : Nat) : Int) ((2 ^ j : Nat) : Int) x) := by
  obtain ⟨m, b, e0, e1, hm, hb⟩ := g.nat
  have q := pow_le hj
  have := (clear_step ⟨j, hj⟩ ⟨m, by omega⟩ ⟨b, by omega⟩ hm (by show b < 2 ^ j; omega) (by have := g.lies; rw [e0, e1] at this; exact this)).2
  refine ⟨?_, ?_, ?_, ?_⟩
  · show 0 ≤ _ + x.f1; omega
  · show _ + x.f1 ≤ _ + x.f0; omega
  · show _ + x.f0 < _; rw [Nat.pow_succ]; omega
  · show Go.bits .andNot .i64 (_ + x.f1) (_ + x.f0) = 0
    rw [e0, e1]; exact this
theorem hit_low {j : Nat} {x : S58} (hj : j < 6) (g : Good j x) {a : Nat} (ha : a < 2 ^ (j + 1)) :
    hit (a : Int) (shift ((2 ^ j : Nat) : Int) 0 x) = (decide (a < 2 ^ j) && hit ((a % 2 ^ j : Nat) : Int) x) := by
  obtain ⟨m, b, e0, e1, hm, hb⟩ := g.nat
  have q := pow_le hj
  have ha' : a < 64 := by rw [Nat.pow_succ] at ha; omega
  obtain ⟨h1, _, h3, h4⟩ := bits_step ⟨j, hj⟩ ⟨m, by omega⟩ ⟨a, ha'⟩ hm ha
  simp only [hit, shift, e0, e1]
  rw [h1]
  simp only [] at h3 h4 ⊢
  by_cases c : a < 2 ^ j
  · simp [c]
  · simp only [c, if_false, decide_false, Bool.false_and, beq_eq_false_iff_ne, ne_eq]; omega
theorem hit_high {j : Nat} {x : S58} (hj : j < 6) (g : Good j x) {a : Nat} (ha : a < 2 ^ (j + 1)) :
    hit (a : Int) (shift ((2 ^ j : Nat) : Int) ((2 ^ j : Nat) : Int) x) = (decide (¬ a < 2 ^ j) && hit ((a % 2 ^ j : Nat) : Int) x) := by
  obtain ⟨m, b, e0, e1, hm, hb⟩ := g.nat
  have q := pow_le hj
  have ha' : a < 64 := by rw [Nat.pow_succ] at ha; omega
  obtain ⟨h1, _, h3, h4⟩ := bits_step ⟨j, hj⟩ ⟨m, by omega⟩ ⟨a, ha'⟩ hm ha
  simp only [hit, shift, e0, e1]
  rw [h1]
  simp only [] at h3 h4 ⊢
  by_cases c : a < 2 ^ j
  · simp only [c, if_true, not_true, decide_false, Bool.false_and, beq_eq_false_iff_ne, ne_eq]; omega
  · simp only [c, if_false, not_false_eq_true, decide_true, Bool.true_and]
    generalize Go.bits .and .i64 ((a % 2 ^ j : Nat) : Int) (m : Int) = y at *
    rw [Bool.eq_iff_iff, beq_iff_eq, beq_iff_eq]; omega
theorem hit_same {j : Nat} {x : S58} (hj : j < 6) (g : Good j x) {a : Nat} (ha : a < 2 ^ (j + 1)) : hit (a : Int) x = hit ((a % 2 ^ j : Nat) : Int) x := by
  obtain ⟨m, b, e0, e1, hm, hb⟩ := g.nat
  have q := pow_le hj
  have ha' : a < 64 := by rw [Nat.pow_succ] at ha; omega
  have h := (bits_step ⟨j, hj⟩ ⟨m, by omega⟩ ⟨a, ha'⟩ hm ha).2.1
  simp only [] at h
  simp only [hit, e0, e1, h]
theorem tree_good (j : Nat) : ∀ (l : List Int), j ≤ 6 → ∀ x ∈ tree j l 0 0, Good j x := by
  induction j with
  | zero => intro l _ x hx; simp [tree] at hx; subst hx; exact ⟨Int.le_refl 0, Int.le_refl 0, (by show (0 : Int) < ((2 ^ 0 : Nat) : Int); decide), (by show Go.bits .andNot .i64 0 0 = 0; decide +kernel)⟩
  | succ j ih =>
    intro l hj x hx
    simp only [tree] at hx
    split at hx
    · exact (ih _ (by omega) x hx).up
    · rw [tree_shift, tree_shift j _ _ (0 + _), List.mem_append, List.mem_map, List.mem_map, Int.zero_add] at hx
      rcases hx with ⟨y, hy, rfl⟩ | ⟨y, hy, rfl⟩
      · exact (ih _ (by omega) y hy).low (by omega)
      · exact (ih _ (by omega) y hy).high (by omega)
theorem tree_len (j : Nat) : ∀ (l : List Int) (m b : Int), (tree j l m b).length ≤ 2 ^ j ∧ 1 ≤ (tree j l m b).length := by
  induction j with
  | zero => intro l m b; simp [tree]
  | succ j ih =>
    intro l m b
    simp only [tree]
    have h1 := ih (l.take (2 ^ j)) m b
    have h2 := ih (l.take (2 ^ j)) (m + ((2 ^ j : Nat) : Int)) b
    have h3 := ih (l.drop (2 ^ j)) (m + ((2 ^ j : Nat) : Int)) (b + ((2 ^ j : Nat) : Int))
    rw [Nat.pow_succ]
    split
    · omega
    · rw [List.length_append]; omega
theorem filter_no (l : List S58) : l.filter (fun _ => false) = [] := by induction l with | nil => rfl | cons a l ih => simp [List.filter]
/-- Each letter is in just one cube, and it leads to the row's entry. -/
theorem tree_hit (j : Nat) : ∀ (l : List Int), j ≤ 6 → l.length = 2 ^ j → ∀ a : Nat, a < 2 ^ j → ((tree j l 0 0).filter (hit (a : Int))).map (·.f2) = [l.getD a 0] := by
  induction j with
  | zero =>
    intro l _ _ a ha
    obtain rfl : a = 0 := by simp at ha; exact ha
    simp only [tree, List.filter]
    rw [show hit ((0 : Nat) : Int) ⟨0, 0, l.getD 0 0⟩ = true from by show (Go.bits .and .i64 0 0 == 0) = true; decide +kernel]
    rfl
  | succ j ih =>
    intro l hj hl a ha
    have hp : 2 ^ (j + 1) = 2 ^ j + 2 ^ j := by rw [Nat.pow_succ]; omega
    have hT : (l.take (2 ^ j)).length = 2 ^ j := by rw [List.length_take]; omega
    have hD : (l.drop (2 ^ j)).length = 2 ^ j := by rw [List.length_drop]; omega
    have hpos : 0 < 2 ^ j := Nat.two_pow_pos j
    have hm : a % 2 ^ j < 2 ^ j := Nat.mod_lt _ hpos
    have key : (if a < 2 ^ j then (l.take (2 ^ j)).getD (a % 2 ^ j) 0 else (l.drop (2 ^ j)).getD (a % 2 ^ j) 0) = l.getD a 0 := by
      split
      · next c => rw [Nat.mod_eq_of_lt c]; simp [List.getD_eq_getElem?_getD, c]
      · next c =>
        have : a % 2 ^ j = a - 2 ^ j := by rw [Nat.mod_eq_sub_mod (by omega), Nat.mod_eq_of_lt (by omega)]
        rw [this]; simp only [List.getD_eq_getElem?_getD, List.getElem?_drop]; congr 2; omega
    simp only [tree]
    split
    · next c =>
      rw [show (tree j (l.take (2 ^ j)) 0 0).filter (hit (a : Int)) = (tree j (l.take (2 ^ j)) 0 0).filter (hit ((a % 2 ^ j : Nat) : Int)) from
        List.filter_congr fun x hx => hit_same (by omega) (tree_good j _ (by omega) x hx) ha]
      rw [ih _ (by omega) hT _ hm, ← key, ← c]; simp
    · rw [tree_shift, tree_shift j _ _ (0 + _), Int.zero_add, List.filter_append, List.map_append, List.filter_map, List.filter_map]
      rw [show (tree j (l.take (2 ^ j)) 0 0).filter (hit (a : Int) ∘ shift ((2 ^ j : Nat) : Int) 0) = (tree j (l.take (2 ^ j)) 0 0).filter (fun x => decide (a < 2 ^ j) && hit ((a % 2 ^ j : Nat) : Int) x) from
        List.filter_congr fun x hx => hit_low (by omega) (tree_good j _ (by omega) x hx) ha]
      rw [show (tree j (l.drop (2 ^ j)) 0 0).filter (hit (a : Int) ∘ shift ((2 ^ j : Nat) : Int) ((2 ^ j : Nat) : Int)) = (tree j (l.drop (2 ^ j)) 0 0).filter (fun x => decide (¬ a < 2 ^ j) && hit ((a % 2 ^ j : Nat) : Int) x) from
        List.filter_congr fun x hx => hit_high (by omega) (tree_good j _ (by omega) x hx) ha]
      by_cases c : a < 2 ^ j
      · rw [if_pos c] at key
        simp only [c, decide_true, Bool.true_and, not_true, decide_false, Bool.false_and, filter_no, List.map_nil, List.append_nil, List.map_map]
        rw [← key, ← ih _ (by omega) hT _ hm]; rfl
      · rw [if_neg c] at key
        simp only [c, decide_true, Bool.true_and, not_false_eq_true, decide_false, Bool.false_and, filter_no, List.map_nil, List.nil_append, List.map_map]
        rw [← key, ← ih _ (by omega) hD _ hm]; rfl
/-! ### The program's tree and the reference's -/
theorem quot_half : ∀ j : Fin 6, 64 / 2 ^ j.1 = 2 * (64 / 2 ^ (j.1 + 1)) := by decide +kernel
theorem leaves_ev (j : Nat) : ∀ (l : List Int) (q p : Nat), j ≤ 6 → l.length = 2 ^ j → q < 64 / 2 ^ j → p < 64 / 2 ^ j →
    Ev (fun k => row_Pack.leaves k l ((q * 2 ^ j : Nat) : Int) ((p * 2 ^ j : Nat) : Int)) (tree j l ((q * 2 ^ j : Nat) : Int) ((p * 2 ^ j : Nat) : Int)) := by
  induction j with
  | zero =>
    intro l q p _ hl _ _
    have h1 : l.length = 1 := by simpa using hl
    refine Ev.step (fun k => by rw [row_Pack.leaves]) (Ev.cond (by omega) (Ev.cond (by omega) (Ev.fin ?_)))
    rw [tree]; congr 2
  | succ j ih =>
    intro l q p hj hl hq hp
    have hpw : 2 ^ (j + 1) = 2 ^ j + 2 ^ j := by rw [Nat.pow_succ]; omega
    have hpos := Nat.two_pow_pos j
    have hh : l.length / 2 = 2 ^ j := by omega
    have hT : (l.take (2 ^ j)).length = 2 ^ j := by rw [List.length_take]; omega
    have hD : (l.drop (2 ^ j)).length = 2 ^ j := by rw [List.length_drop]; omega
    have q2 := quot_half ⟨j, by omega⟩
    simp only [] at q2
    have e (x : Nat) : x * 2 ^ (j + 1) = (2 * x) * 2 ^ j := by rw [hpw, Nat.mul_add, ← Nat.add_mul, ← Nat.two_mul]
    have e1 (x : Nat) : ((x * 2 ^ (j + 1) : Nat) : Int) + ((2 ^ j : Nat) : Int) = (((2 * x + 1) * 2 ^ j : Nat) : Int) := by
      rw [e, Nat.add_mul, Nat.one_mul]; omega
    have o (x : Nat) (hx : x < 64 / 2 ^ (j + 1)) : Go.bits .or .i64 ((x * 2 ^ (j + 1) : Nat) : Int) ((2 ^ j : Nat) : Int) = ((x * 2 ^ (j + 1) : Nat) : Int) + ((2 ^ j : Nat) : Int) :=
      or_step ⟨j, by omega⟩ ⟨x, Nat.lt_of_lt_of_le hx (Nat.div_le_self _ _)⟩ hx
    refine Ev.step (fun k => by rw [row_Pack.leaves]) (Ev.ncond (by omega) ?_)
    rw [hh, o q hq, o p hp]
    refine Ev.bind (equal_ev _ _ (by rw [hT]; have := pow6 (show j ≤ 6 by omega); omega)) ?_
    rw [tree]
    by_cases c : l.take (2 ^ j) = l.drop (2 ^ j)
    · rw [decide_eq_true c, if_pos c]
      refine Ev.cond rfl ?_
      rw [e q, e p]
      exact ih _ (2 * q) (2 * p) (by omega) hT (by omega) (by omega)
    · rw [decide_eq_false c, if_neg c]
      refine Ev.ncond (by decide) ?_
      rw [e1 q, e1 p, e p]
      refine Ev.bind (ih _ (2 * q + 1) (2 * p) (by omega) hT (by omega) (by omega)) (Ev.bind (ih _ (2 * q + 1) (2 * p + 1) (by omega) hD (by omega) (by omega)) (Ev.fin rfl))
theorem leaves0 {j : Nat} {l : List Int} (hj : j ≤ 6) (hl : l.length = 2 ^ j) : Ev (fun k => row_Pack.leaves k l 0 0) (tree j l 0 0) := by
  have := leaves_ev j l 0 0 hj hl (Nat.div_pos (pow6 hj) (Nat.two_pow_pos j)) (Nat.div_pos (pow6 hj) (Nat.two_pow_pos j))
  simpa using this
theorem pack_ok {j : Nat} {l : List Int} (hj : j ≤ 6) (hl : l.length = 2 ^ j) (h : ∀ x ∈ l, 0 ≤ x) : Ev (fun k => row_Pack.f k l) (tree j l 0 0, 0) := by
  refine Ev.congr (fun k => by rw [row_Pack.f]) (Ev.bind (right_ev l (by have := pow6 hj; omega)) ?_)
  rw [decide_eq_true (show IsRow l from ⟨⟨j, hj, hl⟩, h⟩)]
  exact Ev.cond rfl (Ev.bind (leaves0 hj hl) (Ev.fin rfl))
theorem pack_no {l : List Int} (hl : l.length ≤ 9000000000000000000) (h : ¬ IsRow l) : Ev (fun k => row_Pack.f k l) ([], 3) := by
  refine Ev.congr (fun k => by rw [row_Pack.f]) (Ev.bind (right_ev l hl) ?_)
  rw [decide_eq_false h]
  exact Ev.ncond (by decide) (Ev.fin rfl)
end Go.Proofs.Ytghfclgcgecgdaa.Pure
namespace Go.Proofs.Ytghfclgcgecgdaa.Pure
open Go.RowKit Go.Proofs.YtghfclgcgecgdaaW.PrintWords Go.Proofs.YtghfclgcgecgdaaW.PrintLast Go.Proofs.YtghfclgcgecgdaaW.PrintMore Go.Proofs.Ytghfclgcgecgdaa.X
set_option linter.unusedVariables false
def atR : List S58 → Int → Int × Bool
  | [], _ => (0, false)
  | x :: l, a => if hit a x = true then (x.f2, true) else atR l a
theorem hit_iff (a : Int) (x : S58) : hit a x = true ↔ Go.bits .and .i64 a x.f0 = x.f1 := by simp [hit]
theorem rdT_get (l : List S58) {i : Nat} (h : i < l.length) : rd_T58 l (i : Int) = l[i] := by
  rw [rdT_nat, List.getD_eq_getElem?_getD, List.getElem?_eq_getElem h]; rfl
theorem at_ev (l : List S58) (a : Int) (hl : l.length ≤ 9000000000000000000) : Ev (fun k => row_At.f k l a) (atR l a) := by
  refine Ev.congr (fun k => by rw [row_At.f]) ?_
  have key : ∀ (m i : Nat), i + m = l.length → Ev (fun k => row_At.l0 k a l (l.length : Int) (i : Int)) (atR (l.drop i) a) := by
    intro m
    induction m with
    | zero =>
      intro i hi
      rw [List.drop_eq_nil_of_le (by omega)]
      refine Ev.step (fun k => by rw [row_At.l0]) (Ev.ncond (by omega) ?_)
      exact Ev.fin rfl
    | succ m ih =>
      intro i hi
      rw [List.drop_eq_getElem_cons (by omega), atR]
      refine Ev.step (fun k => by rw [row_At.l0]) (Ev.cond (by omega) (Ev.cond (by omega) (Ev.cond (by omega) ?_)))
      rw [rdT_get l (by omega), w64 (by omega) (by omega)]
      by_cases c : hit a l[i] = true
      · rw [if_pos c]; exact Ev.cond ((hit_iff _ _).1 c) (Ev.fin rfl)
      · rw [if_neg c]; exact Ev.ncond (fun e => c ((hit_iff _ _).2 e)) (ih (i + 1) (by omega))
  exact key l.length 0 (by omega)
/-- Of a list where just one cube is hit. -/
theorem at_one {l : List S58} {a t : Int} (h : (l.filter (hit a)).map (·.f2) = [t]) : atR l a = (t, true) := by
  induction l with
  | nil => simp at h
  | cons x l ih =>
    rw [atR]
    by_cases c : hit a x = true
    · rw [if_pos c]
      simp only [List.filter_cons, c, if_true, List.map_cons] at h
      rw [(List.cons.inj h).1]
    · rw [if_neg c]
      simp only [List.filter_cons, c] at h
      exact ih (by simpa using h)
/-- The row that a list of cubes tells. -/
def rowOf (l : List S58) (n : Nat) : List Int := (List.range n).map fun i => (atR l ((i : Nat) : Int)).1
theorem rowOf_len (l : List S58) (n : Nat) : (rowOf l n).length = n := by simp [rowOf]
theorem rowOf_get (l : List S58) (n : Nat) {i : Nat} (h : i < n) : (rowOf l n)[i]? = some (atR l (i : Int)).1 := by simp [rowOf, h]
structure UnpOk (l : List S58) (j : Nat) : Prop where
  six : j ≤ 6
  len : l.length ≤ 2 ^ j
  all : ∀ i : Nat, i < 2 ^ j → (atR l (i : Int)).2 = true
  pos : ∀ i : Nat, i < 2 ^ j → 0 ≤ (atR l (i : Int)).1
  tree : tree j (rowOf l (2 ^ j)) 0 0 = l
theorem UnpOk.mem {l : List S58} {j : Nat} (h : ∀ i : Nat, i < 2 ^ j → 0 ≤ (atR l (i : Int)).1) : ∀ x ∈ rowOf l (2 ^ j), 0 ≤ x := by
  intro x hx
  obtain ⟨i, hi, rfl⟩ := List.mem_map.1 hx
  exact h i (List.mem_range.1 hi)
theorem un_loop {l : List S58} {n : Nat} (hn : n ≤ 64) (hl : l.length ≤ 64) (h : ∀ i : Nat, i < n → (atR l (i : Int)).2 = true) {r : List Int × Int}
    (fin : Ev (fun k => (row_Pack.f k (rowOf l n)).bind fun bt => (if bt.2 = 0 then ((api_Cube.f k bt.1 l).bind fun t => (if t = true then (some (rowOf l n, 0)) else (some (([] : List Int), 3)))) else (some (([] : List Int), 3)))) r) :
    ∀ (m i : Nat) (y : List Int), i + m = n → y.length = n → (∀ z, z < i → y[z]? = (rowOf l n)[z]?) → Ev (fun k => row_Unpack.l0 k l y (n : Int) (i : Int)) r := by
  intro m
  induction m with
  | zero =>
    intro i y hi hy hz
    obtain rfl : y = rowOf l n := by
      apply List.ext_getElem?
      intro z
      by_cases c : z < n
      · exact hz z (by omega)
      · rw [List.getElem?_eq_none (by omega), List.getElem?_eq_none (by rw [rowOf_len]; omega)]
    exact Ev.step (fun k => by rw [row_Unpack.l0]) (Ev.ncond (by omega) fin)
  | succ m ih =>
    intro i y hi hy hz
    refine Ev.step (fun k => by rw [row_Unpack.l0]) (Ev.cond (by omega) (Ev.bind (at_ev l _ (by omega)) (Ev.cond (h i (by omega)) ?_)))
    refine Ev.cond (by omega) (Ev.cond (by omega) ?_)
    rw [w64 (by omega) (by omega), show ((i : Nat) : Int).toNat = i from rfl]
    refine ih (i + 1) _ (by omega) (by rw [List.length_set]; exact hy) (fun z hz2 => ?_)
    rw [List.getElem?_set]
    by_cases c : i = z
    · subst c
      rw [if_pos rfl, if_pos (by omega), rowOf_get l n (by omega)]
    · rw [if_neg c]; exact hz z (by omega)
theorem un_stop {l : List S58} {n q : Nat} (hn : n ≤ 64) (hl : l.length ≤ 64) (hq : q < n) (h : (atR l (q : Int)).2 = false) :
    ∀ (m i : Nat) (y : List Int), i + m = q → y.length = n → Ev (fun k => row_Unpack.l0 k l y (n : Int) (i : Int)) ([], 3) := by
  intro m
  induction m with
  | zero =>
    intro i y hi hy
    obtain rfl : i = q := by omega
    refine Ev.step (fun k => by rw [row_Unpack.l0]) (Ev.cond (by omega) (Ev.bind (at_ev l _ (by omega)) ?_))
    exact Ev.ncond (by rw [h]; decide) (Ev.fin rfl)
  | succ m ih =>
    intro i y hi hy
    refine Ev.step (fun k => by rw [row_Unpack.l0]) (Ev.cond (by omega) (Ev.bind (at_ev l _ (by omega)) (Ev.ite (fun _ => ?_) (fun _ => Ev.fin rfl))))
    refine Ev.cond (by omega) (Ev.cond (by omega) ?_)
    rw [w64 (by omega) (by omega)]
    exact ih (i + 1) _ (by omega) (by rw [List.length_set]; exact hy)
theorem shl_pow : ∀ j : Fin 7, shl .i64 1 (j.1 : Int) = ((2 ^ j.1 : Nat) : Int) := by decide +kernel
theorem un_enter {l : List S58} {j : Nat} {r : List Int × Int} (hj : j ≤ 6) (hl : l.length ≤ 2 ^ j) (h : ∀ y : List Int, y.length = 2 ^ j → Ev (fun k => row_Unpack.l0 k l y ((2 ^ j : Nat) : Int) 0) r) : Ev (fun k => row_Unpack.f k l (j : Int)) r := by
  have s := shl_pow ⟨j, by omega⟩
  have h6 := pow6 hj
  simp only [] at s
  refine Ev.congr (fun k => by rw [row_Unpack.f]) (Ev.ncond (by omega) ?_)
  rw [decide_eq_false (show ¬ ((j : Int) > 6) by omega)]
  refine Ev.step (fun k => by rw [row_Unpack.j0]) (Ev.ncond (by decide) (Ev.cond (by omega) ?_))
  rw [s]
  refine Ev.ncond (by omega) (Ev.cond (by omega) (Ev.cond (by rw [Int.toNat_natCast]; omega) ?_))
  refine Ev.ret rfl ?_
  have q := h (List.replicate ((2 ^ j : Nat) : Int).toNat 0) (by rw [List.length_replicate, Int.toNat_natCast])
  rw [List.length_replicate, Int.toNat_natCast]
  rw [Int.toNat_natCast] at q
  exact q
theorem unpack_ok {l : List S58} {j : Nat} (h : UnpOk l j) : Ev (fun k => row_Unpack.f k l (j : Int)) (rowOf l (2 ^ j), 0) := by
  have h6 := pow6 h.six
  have hl := h.len
  refine un_enter h.six h.len (fun y hy => ?_)
  refine un_loop h6 (by omega) h.all ?_ (2 ^ j) 0 y (by omega) hy (fun z hz => absurd hz (by omega))
  refine Ev.bind (pack_ok h.six (rowOf_len _ _) (UnpOk.mem h.pos)) (Ev.cond rfl ?_)
  rw [h.tree]
  refine Ev.bind (cubeq_ev l l (by omega)) ?_
  rw [decide_eq_true rfl]
  exact Ev.cond rfl (Ev.fin rfl)
theorem unpack_no {l : List S58} {j : Nat} (hj : j ≤ 6) (h : ¬ UnpOk l j) (hl9 : l.length ≤ 9000000000000000000) : Ev (fun k => row_Unpack.f k l (j : Int)) ([], 3) := by
  have h6 := pow6 hj
  by_cases hl : l.length ≤ 2 ^ j
  · by_cases ha : ∀ i : Nat, i < 2 ^ j → (atR l (i : Int)).2 = true
    · refine un_enter hj hl (fun y hy => ?_)
      refine un_loop h6 (by omega) ha ?_ (2 ^ j) 0 y (by omega) hy (fun z hz => absurd hz (by omega))
      by_cases hp : ∀ i : Nat, i < 2 ^ j → 0 ≤ (atR l (i : Int)).1
      · refine Ev.bind (pack_ok hj (rowOf_len _ _) (UnpOk.mem hp)) (Ev.cond rfl ?_)
        refine Ev.bind (cubeq_ev _ l (by show (tree j (rowOf l (2 ^ j)) 0 0).length ≤ _; have := (tree_len j (rowOf l (2 ^ j)) 0 0).1; omega)) ?_
        rw [decide_eq_false (fun e => h ⟨hj, hl, ha, hp, e⟩)]
        exact Ev.ncond (by decide) (Ev.fin rfl)
      · have no : ¬ IsRow (rowOf l (2 ^ j)) := fun hr => hp (fun i hi => hr.2 _ (List.mem_map.2 ⟨i, List.mem_range.2 hi, rfl⟩))
        exact Ev.bind (pack_no (by rw [rowOf_len]; omega) no) (Ev.ncond (by decide) (Ev.fin rfl))
    · obtain ⟨q, hq, hn⟩ : ∃ q, q < 2 ^ j ∧ (atR l ((q : Nat) : Int)).2 = false :=
        Classical.byContradiction fun c => ha fun i hi => Classical.byContradiction fun d => c ⟨i, hi, by simpa using d⟩
      exact un_enter hj hl (fun y hy => un_stop h6 (by omega) hq hn q 0 y (by omega) hy)
  · have s := shl_pow ⟨j, by omega⟩
    simp only [] at s
    refine Ev.congr (fun k => by rw [row_Unpack.f]) (Ev.ncond (by omega) ?_)
    rw [decide_eq_false (show ¬ ((j : Int) > 6) by omega)]
    refine Ev.step (fun k => by rw [row_Unpack.j0]) (Ev.ncond (by decide) (Ev.cond (by omega) ?_))
    rw [s]
    exact Ev.cond (by omega) (Ev.fin rfl)
end Go.Proofs.Ytghfclgcgecgdaa.Pure
namespace Go.Proofs.Ytghfclgcgecgdaa.Pure
open Go.RowKit Go.Proofs.YtghfclgcgecgdaaW.PrintWords Go.Proofs.YtghfclgcgecgdaaW.PrintLast Go.Proofs.YtghfclgcgecgdaaW.PrintMore Go.Proofs.Ytghfclgcgecgdaa.X
set_option linter.unusedVariables false
/-! ### Right -/
end Go.Proofs.Ytghfclgcgecgdaa.Pure
namespace Go.Proofs.Ytghfclgcgecgdaa.Pure
open Go.RowKit Go.Proofs.YtghfclgcgecgdaaW.PrintWords Go.Proofs.YtghfclgcgecgdaaW.PrintLast Go.Proofs.YtghfclgcgecgdaaW.PrintMore Go.Proofs.Ytghfclgcgecgdaa.X
set_option linter.unusedVariables false
theorem rdOf_get {α : Type} (d : α) (l : List α) {i : Nat} (h : i < l.length) : rdOf d l (i : Int) = l[i] := by
  simp [rdOf, List.getD_eq_getElem?_getD, h]
theorem rd_get (l : List Int) {i : Nat} (h : i < l.length) : rd l (i : Int) = l[i] := by
  rw [rd_nat, List.getD_eq_getElem?_getD, List.getElem?_eq_getElem h]; rfl
theorem rdL_get (l : List (List Int)) {i : Nat} (h : i < l.length) : rd_L1 l (i : Int) = l[i] := by
  simp [rd_L1, List.getD_eq_getElem?_getD, h]
theorem drop_rdOf {α : Type} (d : α) (a b : List α) {i : Nat} (h : i < a.length) (h' : i < b.length) : a.drop i = b.drop i ↔ rdOf d a (i : Int) = rdOf d b (i : Int) ∧ a.drop (i + 1) = b.drop (i + 1) := by
  rw [List.drop_eq_getElem_cons h, List.drop_eq_getElem_cons h', rdOf_get d a h, rdOf_get d b h', List.cons.injEq]
theorem drop_rdS (a b : List ByteArray) {i : Nat} (h : i < a.length) (h' : i < b.length) : a.drop i = b.drop i ↔ rdOf ByteArray.empty a (i : Int) = rdOf ByteArray.empty b (i : Int) ∧ a.drop (i + 1) = b.drop (i + 1) := drop_rdOf _ a b h h'
theorem drop_rdB (a b : List Bool) {i : Nat} (h : i < a.length) (h' : i < b.length) : a.drop i = b.drop i ↔ rdOf false a (i : Int) = rdOf false b (i : Int) ∧ a.drop (i + 1) = b.drop (i + 1) := drop_rdOf _ a b h h'
theorem eq_B {x y : ByteArray} (h : x.toList = y.toList) : x = y := by
  rw [ByteArray.toList_eq, ByteArray.toList_eq] at h
  exact Go.WideShapes.bytes_inj h
theorem ne_B {x y : ByteArray} (h : ¬ x.toList = y.toList) (e : x = y) : False := h (by rw [e])
theorem eq_F {x y : Bool} (h : ¬ (x != y) = true) : x = y := by simpa using h
theorem ne_F {x y : Bool} (h : (x != y) = true) (e : x = y) : False := by subst e; simp at h
theorem texts_ev (a b : List ByteArray) (ha : a.length ≤ 9000000000000000000) : Ev (fun k => tabardref12_texts.f k a b) (decide (a = b)) := by
  refine Ev.congr (fun k => by rw [tabardref12_texts.f]) (Ev.ite (fun h => ?_) (fun h => Ev.fin ?_))
  · have hl : a.length = b.length := by omega
    have key : ∀ (m i : Nat), i + m = a.length → Ev (fun k => tabardref12_texts.l0 k a b (i : Int)) (decide (a.drop i = b.drop i)) := by
      intro m
      induction m with
      | zero =>
        intro i hi
        refine Ev.step (fun k => by rw [tabardref12_texts.l0]) (Ev.ncond (by omega) (Ev.fin ?_))
        rw [List.drop_eq_nil_of_le (by omega), List.drop_eq_nil_of_le (by omega)]; exact (decide_eq_true rfl).symm
      | succ m ih =>
        intro i hi
        refine Ev.step (fun k => by rw [tabardref12_texts.l0]) (Ev.cond (by omega) (Ev.cond (by omega) (Ev.cond (by omega) ?_)))
        refine Ev.ite (fun c => ?_) (fun c => Ev.fin ?_)
        · rw [w64 (by omega) (by omega)]
          have := ih (i + 1) (by omega)
          rwa [decide_eq_decide.2 ((drop_rdS a b (by omega) (by omega)).trans (and_iff_right (eq_B c)))]
        · exact (decide_eq_false (fun e => (ne_B c) ((drop_rdS a b (by omega) (by omega)).1 e).1)).symm
    exact key a.length 0 (by omega)
  · exact (decide_eq_false (fun e_ => h (by rw [e_]))).symm
theorem flags_ev (a b : List Bool) (ha : a.length ≤ 9000000000000000000) : Ev (fun k => tabardref12_flags.f k a b) (decide (a = b)) := by
  refine Ev.congr (fun k => by rw [tabardref12_flags.f]) (Ev.ite (fun h => ?_) (fun h => Ev.fin ?_))
  · have hl : a.length = b.length := by omega
    have key : ∀ (m i : Nat), i + m = a.length → Ev (fun k => tabardref12_flags.l0 k a b (i : Int)) (decide (a.drop i = b.drop i)) := by
      intro m
      induction m with
      | zero =>
        intro i hi
        refine Ev.step (fun k => by rw [tabardref12_flags.l0]) (Ev.ncond (by omega) (Ev.fin ?_))
        rw [List.drop_eq_nil_of_le (by omega), List.drop_eq_nil_of_le (by omega)]; exact (decide_eq_true rfl).symm
      | succ m ih =>
        intro i hi
        refine Ev.step (fun k => by rw [tabardref12_flags.l0]) (Ev.cond (by omega) (Ev.cond (by omega) (Ev.cond (by omega) ?_)))
        refine Ev.ite (fun c => Ev.fin ?_) (fun c => ?_)
        · exact (decide_eq_false (fun e => (ne_F c) ((drop_rdB a b (by omega) (by omega)).1 e).1)).symm
        · rw [w64 (by omega) (by omega)]
          have := ih (i + 1) (by omega)
          rwa [decide_eq_decide.2 ((drop_rdB a b (by omega) (by omega)).trans (and_iff_right (eq_F c)))]
    exact key a.length 0 (by omega)
  · exact (decide_eq_false (fun e_ => h (by rw [e_]))).symm
theorem rints_ev (a b : List Int) (ha : a.length ≤ 9000000000000000000) : Ev (fun k => tabardref12_ints.f k a b) (decide (a = b)) := by
  refine Ev.congr (fun k => by rw [tabardref12_ints.f]) (Ev.ite (fun h => ?_) (fun h => Ev.fin ?_))
  · have hl : a.length = b.length := by omega
    have key : ∀ (m i : Nat), i + m = a.length → Ev (fun k => tabardref12_ints.l0 k a b (i : Int)) (decide (a.drop i = b.drop i)) := by
      intro m
      induction m with
      | zero =>
        intro i hi
        refine Ev.step (fun k => by rw [tabardref12_ints.l0]) (Ev.ncond (by omega) (Ev.fin ?_))
        rw [List.drop_eq_nil_of_le (by omega), List.drop_eq_nil_of_le (by omega)]; exact (decide_eq_true rfl).symm
      | succ m ih =>
        intro i hi
        refine Ev.step (fun k => by rw [tabardref12_ints.l0]) (Ev.cond (by omega) (Ev.cond (by omega) (Ev.cond (by omega) ?_)))
        refine Ev.ite (fun c => ?_) (fun c => Ev.fin ?_)
        · rw [w64 (by omega) (by omega)]
          have := ih (i + 1) (by omega)
          rwa [decide_eq_decide.2 ((drop_rd a b (by omega) (by omega)).trans (and_iff_right (id c)))]
        · exact (decide_eq_false (fun e => (id c) ((drop_rd a b (by omega) (by omega)).1 e).1)).symm
    exact key a.length 0 (by omega)
  · exact (decide_eq_false (fun e_ => h (by rw [e_]))).symm
theorem fixed_ev : Ev (fun k => tabardlaw12_fixed.f k) true := Ev.of tabardlaw12_fixed.mono (show tabardlaw12_fixed.f 14 = some true by decide +kernel)
end Go.Proofs.Ytghfclgcgecgdaa.Pure
namespace Go.Proofs.Ytghfclgcgecgdaa.Pure
open Go.RowKit Go.Proofs.YtghfclgcgecgdaaW.PrintWords Go.Proofs.YtghfclgcgecgdaaW.PrintLast Go.Proofs.YtghfclgcgecgdaaW.PrintMore Go.Proofs.Ytghfclgcgecgdaa.X
set_option linter.unusedVariables false
theorem and4 {a b c d : Prop} [Decidable a] [Decidable b] [Decidable c] [Decidable d] : decide (a ∧ b ∧ c ∧ d) = (decide a && (decide b && (decide c && decide d))) := by
  by_cases a <;> by_cases b <;> by_cases c <;> by_cases d <;> simp [*]
section
variable {t0 u0 : List ByteArray} {t1 u1 : List Bool} {t2 u2 : List Int} {t3 u3 : List S58}
theorem rsame_loop {v0 w0 : List ByteArray} {v1 w1 : List Bool} {v2 w2 : List Int} (h3 : t3.length ≤ 9000000000000000000) (hl : t3.length = u3.length) : Ev (fun k => tabardref12_Same.l0 k 0 v0 v1 v2 t3 w0 w1 w2 u3) (decide (t3 = u3)) := by
  have key : ∀ (m i : Nat), i + m = t3.length → Ev (fun k => tabardref12_Same.l0 k (i : Int) v0 v1 v2 t3 w0 w1 w2 u3) (decide (t3.drop i = u3.drop i)) := by
    intro m
    induction m with
    | zero =>
      intro i hi
      refine Ev.step (fun k => by rw [tabardref12_Same.l0]) (Ev.ncond (by omega) (Ev.fin ?_))
      rw [List.drop_eq_nil_of_le (by omega), List.drop_eq_nil_of_le (by omega)]; exact (decide_eq_true rfl).symm
    | succ m ih =>
      intro i hi
      refine Ev.step (fun k => by rw [tabardref12_Same.l0]) (Ev.cond (by omega) (Ev.cond (by omega) (Ev.cond (by omega) ?_)))
      refine Ev.ite (fun c => Ev.fin ?_) (fun c => ?_)
      · exact (decide_eq_false (fun e => ((ne_S _ _).1 c) ((drop_rdT t3 u3 (by omega) (by omega)).1 e).1)).symm
      · rw [w64 (by omega) (by omega)]
        have := ih (i + 1) (by omega)
        rwa [decide_eq_decide.2 ((drop_rdT t3 u3 (by omega) (by omega)).trans (and_iff_right (eq_S c)))]
  exact key t3.length 0 (by omega)
theorem rsame_tab (h0 : t0.length ≤ 9000000000000000000) (h1 : t1.length ≤ 9000000000000000000) (h2 : t2.length ≤ 9000000000000000000) (h3 : t3.length ≤ 9000000000000000000) :
    Ev (fun k => tabardref12_Same.f k t0 t1 t2 t3 u0 u1 u2 u3) (decide (t0 = u0 ∧ t1 = u1 ∧ t2 = u2 ∧ t3 = u3)) := by
  rw [and4]
  have no : ∀ {x : Bool}, x = false → Ev (fun k => tabardref12_Same.j0 k true t0 t1 t2 t3 u0 u1 u2 u3) x := fun e => e ▸ Ev.step (fun k => by rw [tabardref12_Same.j0]) (Ev.cond rfl (Ev.fin rfl))
  refine Ev.congr (fun k => by rw [tabardref12_Same.f]) (Ev.bind (texts_ev t0 u0 h0) ?_)
  by_cases c0 : t0 = u0
  · rw [decide_eq_true c0]
    refine Ev.cond rfl (Ev.bind (flags_ev t1 u1 h1) ?_)
    by_cases c1 : t1 = u1
    · rw [decide_eq_true c1]
      refine Ev.cond rfl (Ev.bind (rints_ev t2 u2 h2) ?_)
      by_cases c2 : t2 = u2
      · rw [decide_eq_true c2]
        refine Ev.cond rfl ?_
        by_cases c3 : t3.length = u3.length
        · rw [show ((t3.length : Int) != (u3.length : Int)) = false by simp [c3]]
          exact Ev.step (fun k => by rw [tabardref12_Same.j0]) (Ev.ncond (by decide) (rsame_loop h3 c3))
        · rw [show ((t3.length : Int) != (u3.length : Int)) = true from bne_iff_ne.2 (by omega), decide_eq_false (fun e => c3 (by rw [e]))]
          exact no rfl
      · rw [decide_eq_false c2]; exact Ev.ncond (by decide) (no rfl)
    · rw [decide_eq_false c1]; exact Ev.ncond (by decide) (no rfl)
  · rw [decide_eq_false c0]; exact Ev.ncond (by decide) (no rfl)
theorem copy_tab (h0 : t0.length * 16 ≤ 140737488351232) (h1 : t1.length * 1 ≤ 140737488351232) (h2 : t2.length * 8 ≤ 140737488351232) (h3 : t3.length * 24 ≤ 140737488351232) :
    tabardref12_Copy.f t0 t1 t2 t3 = some (t0, t1, t2, t3) := by
  unfold tabardref12_Copy.f
  simp only [Option.bind_some, List.nil_append, List.length_nil]
  rw [if_pos (by omega), if_pos (by omega), if_pos (by omega), if_pos (by omega)]
end
end Go.Proofs.Ytghfclgcgecgdaa.Pure
namespace Go.Proofs.Ytghfclgcgecgdaa.Pure
open Go.RowKit Go.Proofs.YtghfclgcgecgdaaW.PrintWords Go.Proofs.YtghfclgcgecgdaaW.PrintLast Go.Proofs.YtghfclgcgecgdaaW.PrintMore Go.Proofs.Ytghfclgcgecgdaa.X
set_option linter.unusedVariables false
/-! ### Names -/
def startB (r : Int) : Bool := decide ((65 ≤ r ∧ r ≤ 90) ∨ (97 ≤ r ∧ r ≤ 122) ∨ r = 95 ∨ (913 ≤ r ∧ r ≤ 929) ∨ (931 ≤ r ∧ r ≤ 937) ∨ (945 ≤ r ∧ r ≤ 969))
def restB (r : Int) : Bool := startB r || decide ((48 ≤ r ∧ r ≤ 57) ∨ r = 8242 ∨ (8320 ≤ r ∧ r ≤ 8329))
theorem start_j3 (r : Int) (b : Bool) : Ev (fun k => glyph_Start.j3 k r b) (b || decide (945 ≤ r ∧ r ≤ 969)) := by
  cases b
  · refine Ev.step (fun k => by rw [glyph_Start.j3]) (Ev.ncond (by decide) (Ev.ite (fun h => Ev.ite (fun g => Ev.fin ?_) (fun g => Ev.fin ?_)) (fun h => Ev.fin ?_))) <;> simp <;> omega
  · rw [Bool.true_or]; exact Ev.step (fun k => by rw [glyph_Start.j3]) (Ev.cond rfl (Ev.fin rfl))
theorem start_j2 (r : Int) (b : Bool) : Ev (fun k => glyph_Start.j2 k r b) (b || decide ((931 ≤ r ∧ r ≤ 937) ∨ (945 ≤ r ∧ r ≤ 969))) := by
  cases b
  · refine Ev.step (fun k => by rw [glyph_Start.j2]) (Ev.ncond (by decide) (Ev.ite (fun h => ?_) (fun h => ?_)))
    · have := start_j3 r (decide (r ≤ 937))
      rwa [show (decide (r ≤ 937) || decide (945 ≤ r ∧ r ≤ 969)) = (false || decide ((931 ≤ r ∧ r ≤ 937) ∨ (945 ≤ r ∧ r ≤ 969))) by rw [Bool.eq_iff_iff]; simp; omega] at this
    · have := start_j3 r false
      rwa [show (false || decide (945 ≤ r ∧ r ≤ 969)) = (false || decide ((931 ≤ r ∧ r ≤ 937) ∨ (945 ≤ r ∧ r ≤ 969))) by rw [Bool.eq_iff_iff]; simp; omega] at this
  · rw [Bool.true_or]; exact Ev.step (fun k => by rw [glyph_Start.j2]) (Ev.cond rfl (Ev.fin rfl))
theorem start_j1 (r : Int) (b : Bool) : Ev (fun k => glyph_Start.j1 k r b) (b || decide ((913 ≤ r ∧ r ≤ 929) ∨ (931 ≤ r ∧ r ≤ 937) ∨ (945 ≤ r ∧ r ≤ 969))) := by
  cases b
  · refine Ev.step (fun k => by rw [glyph_Start.j1]) (Ev.ncond (by decide) (Ev.ite (fun h => ?_) (fun h => ?_)))
    · have := start_j2 r (decide (r ≤ 929))
      rwa [show (decide (r ≤ 929) || decide ((931 ≤ r ∧ r ≤ 937) ∨ (945 ≤ r ∧ r ≤ 969))) = (false || decide ((913 ≤ r ∧ r ≤ 929) ∨ (931 ≤ r ∧ r ≤ 937) ∨ (945 ≤ r ∧ r ≤ 969))) by rw [Bool.eq_iff_iff]; simp; omega] at this
    · have := start_j2 r false
      rwa [show (false || decide ((931 ≤ r ∧ r ≤ 937) ∨ (945 ≤ r ∧ r ≤ 969))) = (false || decide ((913 ≤ r ∧ r ≤ 929) ∨ (931 ≤ r ∧ r ≤ 937) ∨ (945 ≤ r ∧ r ≤ 969))) by rw [Bool.eq_iff_iff]; simp; omega] at this
  · rw [Bool.true_or]; exact Ev.step (fun k => by rw [glyph_Start.j1]) (Ev.cond rfl (Ev.fin rfl))
theorem start_j0 (r : Int) (b : Bool) : Ev (fun k => glyph_Start.j0 k r b) (b || decide ((97 ≤ r ∧ r ≤ 122) ∨ r = 95 ∨ (913 ≤ r ∧ r ≤ 929) ∨ (931 ≤ r ∧ r ≤ 937) ∨ (945 ≤ r ∧ r ≤ 969))) := by
  cases b
  · refine Ev.step (fun k => by rw [glyph_Start.j0]) (Ev.ncond (by decide) (Ev.ite (fun h => Ev.ite (fun g => ?_) (fun g => ?_)) (fun h => ?_)))
    · have := start_j1 r (decide (r ≤ 122))
      rwa [show (decide (r ≤ 122) || decide ((913 ≤ r ∧ r ≤ 929) ∨ (931 ≤ r ∧ r ≤ 937) ∨ (945 ≤ r ∧ r ≤ 969))) = (false || decide ((97 ≤ r ∧ r ≤ 122) ∨ r = 95 ∨ (913 ≤ r ∧ r ≤ 929) ∨ (931 ≤ r ∧ r ≤ 937) ∨ (945 ≤ r ∧ r ≤ 969))) by rw [Bool.eq_iff_iff]; simp; omega] at this
    · have := start_j1 r (r == 95)
      rwa [show ((r == 95) || decide ((913 ≤ r ∧ r ≤ 929) ∨ (931 ≤ r ∧ r ≤ 937) ∨ (945 ≤ r ∧ r ≤ 969))) = (false || decide ((97 ≤ r ∧ r ≤ 122) ∨ r = 95 ∨ (913 ≤ r ∧ r ≤ 929) ∨ (931 ≤ r ∧ r ≤ 937) ∨ (945 ≤ r ∧ r ≤ 969))) by rw [Bool.eq_iff_iff]; simp; omega] at this
    · have := start_j1 r (r == 95)
      rwa [show ((r == 95) || decide ((913 ≤ r ∧ r ≤ 929) ∨ (931 ≤ r ∧ r ≤ 937) ∨ (945 ≤ r ∧ r ≤ 969))) = (false || decide ((97 ≤ r ∧ r ≤ 122) ∨ r = 95 ∨ (913 ≤ r ∧ r ≤ 929) ∨ (931 ≤ r ∧ r ≤ 937) ∨ (945 ≤ r ∧ r ≤ 969))) by rw [Bool.eq_iff_iff]; simp; omega] at this
  · have := start_j1 r true
    exact Ev.step (fun k => by rw [glyph_Start.j0]) (Ev.cond rfl this)
theorem start_ev (r : Int) : Ev (fun k => glyph_Start.f k r) (startB r) := by
  refine Ev.congr (fun k => by rw [glyph_Start.f]) (Ev.ite (fun h => ?_) (fun h => ?_))
  · have := start_j0 r (decide (r ≤ 90))
    rwa [show (decide (r ≤ 90) || decide ((97 ≤ r ∧ r ≤ 122) ∨ r = 95 ∨ (913 ≤ r ∧ r ≤ 929) ∨ (931 ≤ r ∧ r ≤ 937) ∨ (945 ≤ r ∧ r ≤ 969))) = startB r by rw [startB, Bool.eq_iff_iff]; simp; omega] at this
  · have := start_j0 r false
    rwa [show (false || decide ((97 ≤ r ∧ r ≤ 122) ∨ r = 95 ∨ (913 ≤ r ∧ r ≤ 929) ∨ (931 ≤ r ∧ r ≤ 937) ∨ (945 ≤ r ∧ r ≤ 969))) = startB r by rw [startB, Bool.eq_iff_iff]; simp; omega] at this
theorem rest_ev (r : Int) : Ev (fun k => glyph_Rest.f k r) (restB r) := by
  refine Ev.congr (fun k => by rw [glyph_Rest.f]) (Ev.bind (start_ev r) ?_)
  rw [restB]
  cases startB r
  · refine Ev.ncond (by decide) (Ev.ite (fun h => Ev.ite (fun g => Ev.fin ?_) (fun g => Ev.ite (fun z => Ev.fin ?_) (fun z => Ev.ite (fun y => Ev.fin ?_) (fun y => Ev.fin ?_)))) (fun h => Ev.ite (fun z => Ev.fin ?_) (fun z => Ev.ite (fun y => Ev.fin ?_) (fun y => Ev.fin ?_)))) <;> rw [Bool.false_or, Bool.eq_iff_iff] <;> simp <;> omega
  · exact Ev.cond rfl (Ev.fin rfl)
def resB (s : ByteArray) : Bool := decide (s.toList ∈ [[97, 110, 100], [111, 114], [110, 111, 116], [101, 120], [97, 108, 108], [109, 111, 100], [116, 114, 117, 101], [102, 97, 108, 115, 101]])
theorem res_eq (s : ByteArray) : glyph_Reserved.f s = some (resB s) := by
  unfold glyph_Reserved.f resB
  simp only [List.mem_cons, List.not_mem_nil, or_false]
  repeat' split
  all_goals simp_all
theorem width_pos (s : ByteArray) (pos : Nat) (h : pos < s.size) : 1 ≤ (Utf8.decode s pos).2 := by
  by_cases ha : (s[pos]'h).toNat < 128
  · rw [decode_ascii s pos h ha]
    exact Nat.le_refl _
  · exact (decode_high s pos h (by omega)).2
/-- A name, from a byte on, behind n characters. -/
def nameR : Nat → ByteArray → Nat → Nat → Bool
  | 0, s, _, n => decide (1 ≤ n ∧ n ≤ 16) && !resB s
  | m + 1, s, p, n =>
    if p < s.size then (if (n = 0 → startB ((Utf8.decode s p).1 : Int) = true) ∧ restB ((Utf8.decode s p).1 : Int) = true then nameR m s (p + (Utf8.decode s p).2) (n + 1) else false)
    else decide (1 ≤ n ∧ n ≤ 16) && !resB s
def nameB (s : ByteArray) : Bool := nameR s.size s 0 0
theorem name_end (s : ByteArray) (n : Nat) : Ev (fun k => if (n : Int) > 0 then (if (n : Int) ≤ 16 then (glyph_Reserved.f s).bind fun t => some (!t) else some false) else some false) (decide (1 ≤ n ∧ n ≤ 16) && !resB s) := by
  by_cases h1 : 1 ≤ n
  · by_cases h2 : n ≤ 16
    · refine Ev.cond (by omega) (Ev.cond (by omega) ?_)
      rw [decide_eq_true ⟨h1, h2⟩, Bool.true_and]
      exact Ev.ret (res_eq s) (Ev.fin rfl)
    · rw [decide_eq_false (fun e => h2 e.2)]
      exact Ev.cond (by omega) (Ev.ncond (by omega) (Ev.fin rfl))
  · rw [decide_eq_false (fun e => h1 e.1)]
    exact Ev.ncond (by omega) (Ev.fin rfl)
theorem name_ev (s : ByteArray) (hs : s.size ≤ 9223372036854775807) : Ev (fun k => glyph_Name.f k s) (nameB s) := by
  have key : ∀ (m p n : Nat), s.size ≤ p + m → n ≤ p → (p = 0 ↔ n = 0) → Ev (fun k => glyph_Name.l0 k s p (n : Int)) (nameR m s p n) := by
    intro m
    induction m with
    | zero =>
      intro p n hp hn _
      exact Ev.step (fun k => by rw [glyph_Name.l0]) (Ev.ncond (by omega) (name_end s n))
    | succ m ih =>
      intro p n hp hn hz
      rw [nameR]
      by_cases c : p < s.size
      · rw [if_pos c]
        have hw := width_pos s p c
        refine Ev.step (fun k => by rw [glyph_Name.l0]) (Ev.cond c ?_)
        have st : Ev (fun k => if p = 0 then glyph_Start.f k ((Utf8.decode s p).1 : Int) else some true) (decide (n = 0 → startB ((Utf8.decode s p).1 : Int) = true)) := by
          refine Ev.ite (fun h => ?_) (fun h => Ev.fin ?_)
          · have n0 := hz.1 h
            rw [show decide (n = 0 → startB ((Utf8.decode s p).1 : Int) = true) = startB ((Utf8.decode s p).1 : Int) by rw [Bool.eq_iff_iff]; simp [n0]]
            exact start_ev _
          · have n0 : ¬ n = 0 := fun e => h (hz.2 e)
            exact (decide_eq_true (fun e => absurd e n0)).symm
        refine Ev.bind st (Ev.ite (fun h => Ev.bind (rest_ev _) (Ev.ite (fun g => ?_) (fun g => Ev.fin ?_))) (fun h => Ev.fin ?_))
        · rw [if_pos ⟨of_decide_eq_true h, g⟩, w64 (by omega) (by omega)]
          exact ih (p + (Utf8.decode s p).2) (n + 1) (by omega) (by omega) (by omega)
        · rw [if_neg (fun e => g e.2)]
        · rw [if_neg (fun e => h (decide_eq_true e.1))]
      · rw [if_neg c]
        exact Ev.step (fun k => by rw [glyph_Name.l0]) (Ev.ncond c (name_end s n))
  exact key s.size 0 0 (by omega) (by omega) (by omega)
/-- From a place on: names, each less than the next. -/
def risesR (ns : List ByteArray) : Nat → Nat → Bool
  | 0, _ => true
  | m + 1, i => nameB (rdOf ByteArray.empty ns (i : Int)) && ((decide (i = 0) || Op.bytesLess (rdOf ByteArray.empty ns ((i - 1 : Nat) : Int)).toList (rdOf ByteArray.empty ns (i : Int)).toList) && risesR ns m (i + 1))
def risesB (ns : List ByteArray) : Bool := risesR ns ns.length 0
theorem rises_ev (ns : List ByteArray) (hn : ns.length ≤ 9000000000000000000) (hs : ∀ x ∈ ns, x.size ≤ 9223372036854775807) : Ev (fun k => glyph_Rises.f k ns) (risesB ns) := by
  refine Ev.congr (fun k => by rw [glyph_Rises.f]) ?_
  have key : ∀ (m i : Nat), i + m = ns.length → Ev (fun k => glyph_Rises.l0 k ns ns (ns.length : Int) (i : Int)) (risesR ns m i) := by
    intro m
    induction m with
    | zero =>
      intro i hi
      refine Ev.step (fun k => by rw [glyph_Rises.l0]) (Ev.ncond (by omega) ?_)
      exact Ev.fin rfl
    | succ m ih =>
      intro i hi
      rw [risesR]
      have sz : (rdOf ByteArray.empty ns (i : Int)).size ≤ 9223372036854775807 := by rw [rdOf_get _ ns (show i < ns.length by omega)]; exact hs _ (List.getElem_mem _)
      refine Ev.step (fun k => by rw [glyph_Rises.l0]) (Ev.cond (by omega) (Ev.cond (by omega) (Ev.cond (by omega) (Ev.bind (name_ev _ sz) ?_))))
      refine Ev.ite (fun a => ?_) (fun a => Ev.fin ?_)
      · rw [a, Bool.true_and]
        have nx := ih (i + 1) (by omega)
        refine Ev.ite (fun b => ?_) (fun b => ?_)
        · rw [w64 (x := (i : Int) - 1) (by omega) (by omega), w64 (x := (i : Int) + 1) (by omega) (by omega), show (i : Int) - 1 = ((i - 1 : Nat) : Int) by omega, decide_eq_false (show ¬ i = 0 by omega), Bool.false_or]
          refine Ev.cond (by omega) (Ev.cond (by omega) (Ev.ite (fun c => ?_) (fun c => Ev.fin ?_)))
          · rw [c, Bool.true_and]; exact nx
          · rw [Bool.not_eq_true] at c; rw [c, Bool.false_and]
        · rw [decide_eq_true (show i = 0 by omega), Bool.true_or, Bool.true_and, w64 (by omega) (by omega)]
          exact nx
      · rw [Bool.not_eq_true] at a; rw [a, Bool.false_and]
  exact key ns.length 0 (by omega)
end Go.Proofs.Ytghfclgcgecgdaa.Pure
namespace Go.Proofs.Ytghfclgcgecgdaa.Pure
open Go.RowKit Go.Proofs.YtghfclgcgecgdaaW.PrintWords Go.Proofs.YtghfclgcgecgdaaW.PrintLast Go.Proofs.YtghfclgcgecgdaaW.PrintMore Go.Proofs.Ytghfclgcgecgdaa.X
set_option linter.unusedVariables false
section
variable {a : List Int} {j : Nat}
theorem tree_at (hj : j ≤ 6) (ha : a.length = 2 ^ j) {i : Nat} (hi : i < 2 ^ j) : atR (tree j a 0 0) (i : Int) = (a.getD i 0, true) := at_one (tree_hit j a hj ha i hi)
theorem tree_row (hj : j ≤ 6) (ha : a.length = 2 ^ j) : rowOf (tree j a 0 0) (2 ^ j) = a := by
  apply List.ext_getElem?
  intro z
  by_cases c : z < 2 ^ j
  · rw [rowOf_get _ _ c, tree_at hj ha c, List.getD_eq_getElem?_getD, List.getElem?_eq_getElem (by omega)]; rfl
  · rw [List.getElem?_eq_none (by rw [rowOf_len]; omega), List.getElem?_eq_none (by omega)]
theorem tree_unp (hj : j ≤ 6) (ha : a.length = 2 ^ j) (pa : ∀ x ∈ a, 0 ≤ x) : UnpOk (tree j a 0 0) j := by
  refine ⟨hj, (tree_len j a 0 0).1, fun i hi => by rw [tree_at hj ha hi], fun i hi => ?_, by rw [tree_row hj ha]⟩
  rw [tree_at hj ha hi, List.getD_eq_getElem?_getD, List.getElem?_eq_getElem (by omega)]
  exact pa _ (List.getElem_mem _)
end
theorem right_bad' {l : List S58} {t s : Int} {e : Int} (he : e ≠ 0) (h : Ev (fun k => row_Unpack.f k l t) ([], e)) : Ev (fun k => row_Right.f k l t s) false :=
  Ev.congr (fun k => by rw [row_Right.f]) (Ev.bind h (Ev.ncond he (Ev.fin rfl)))
theorem right_good' {l : List S58} {t s : Int} {R : List Int} (h1 : 1 ≤ R.length) (h2 : R.length ≤ 64) (h : Ev (fun k => row_Unpack.f k l t) (R, 0)) : Ev (fun k => row_Right.f k l t s) (decide (∀ x ∈ R, x < s)) := by
  obtain ⟨r, hr, hs⟩ := max_ev R h1 (by omega)
  refine Ev.congr (fun k => by rw [row_Right.f]) (Ev.bind h ?_)
  refine Ev.cond rfl ?_
  refine Ev.bind hr (Ev.fin ?_)
  exact decide_eq_decide.2 (hs s)
def SZ (ns : List ByteArray) : Prop := ∀ x ∈ ns, x.size ≤ 9223372036854775807
def RZ (nx : List (List Int)) : Prop := ∀ r ∈ nx, r.length ≤ 9000000000000000000
/-! ### The tracks -/
structure Fr (ns : List ByteArray) (n : Nat) : Prop where
  tr : ns.length ≤ 6
  n1 : 1 ≤ n
  n2 : n ≤ 256
  ri : risesB ns = true
section
variable {ns : List ByteArray} {n : Nat}
theorem tracks_yes (hs : SZ ns) (f : Fr ns n) : Ev (fun k => table_tracks.f k ns (n : Int)) true := by
  have := f.tr; have := f.n1; have := f.n2
  refine Ev.congr (fun k => by rw [table_tracks.f]) (Ev.cond (by omega) (Ev.cond (by omega) (Ev.cond (by omega) (Ev.bind (rises_ev ns (by omega) hs) (Ev.fin f.ri)))))
theorem tracks_no (hs : SZ ns) (hn : ¬ Fr ns n) : Ev (fun k => table_tracks.f k ns (n : Int)) false := by
  refine Ev.congr (fun k => by rw [table_tracks.f]) (Ev.ite (fun a => Ev.ite (fun b => Ev.ite (fun c => Ev.bind (rises_ev ns (by omega) hs) (Ev.fin ?_)) (fun _ => Ev.fin rfl)) (fun _ => Ev.fin rfl)) (fun _ => Ev.fin rfl))
  cases e : risesB ns
  · rfl
  · exact absurd ⟨by omega, by omega, by omega, e⟩ hn
/-! ### Machines -/
theorem right_row {r : List Int} {n e : Int} {j : Nat} {f : Nat → Option Int} (hr : r.length ≤ 9000000000000000000) (hnext : (r.length = 2 ^ j ∧ ∀ x ∈ r, 0 ≤ x ∧ x < n) → Ev f e) (hbad : ¬ (r.length = 2 ^ j ∧ ∀ x ∈ r, 0 ≤ x ∧ x < n) → e = 3) :
    Ev (fun k => if (r.length : Int) = ((2 ^ j : Nat) : Int) then ((slices_Min_int_int.f k r).bind fun t113 => (if t113 < 0 then (some 3) else ((slices_Max_int_int.f k r).bind fun t114 => (if t114 ≥ n then (some 3) else f k)))) else (some 3)) e := by
  refine Ev.ite (fun a => ?_) (fun a => Ev.fin (hbad (fun h => a (by rw [h.1]))).symm)
  have al : r.length = 2 ^ j := by omega
  have h1 : 1 ≤ r.length := by have := Nat.two_pow_pos j; omega
  obtain ⟨x, hx, hxs⟩ := min_ev r h1 hr
  obtain ⟨y, hy, hys⟩ := max_ev r h1 hr
  refine Ev.bind hx (Ev.ite (fun b => Ev.fin (hbad (fun h => ?_)).symm) (fun b => Ev.bind hy (Ev.ite (fun c => Ev.fin (hbad (fun h => ?_)).symm) (fun c => hnext ⟨al, fun z hz => ⟨(hxs 0).1 (by omega) z hz, (hys n).1 (by omega) z hz⟩⟩))))
  · have := (hxs 0).2 (fun z hz => (h.2 z hz).1); omega
  · have := (hys n).2 (fun z hz => (h.2 z hz).2); omega
structure DOk (ns : List ByteArray) (ac : List Bool) (nx : List (List Int)) : Prop where
  fr : Fr ns ac.length
  ln : nx.length = ac.length
  rows : ∀ r ∈ nx, r.length = 2 ^ ns.length ∧ ∀ x ∈ r, 0 ≤ x ∧ x < (ac.length : Int)
theorem shl_tr {ns : List ByteArray} (h : ns.length ≤ 6) : shl .i64 1 (ns.length : Int) = ((2 ^ ns.length : Nat) : Int) := shl_pow ⟨ns.length, by omega⟩
variable {ac : List Bool} {nx : List (List Int)}
theorem right_ok (hs : SZ ns) (hr : RZ nx) (d : DOk ns ac nx) : Ev (fun k => table_Right.f k ns ac nx) 0 := by
  have n2 := d.fr.n2
  have ln := d.ln
  refine Ev.congr (fun k => by rw [table_Right.f]) (Ev.bind (tracks_yes hs d.fr) (Ev.cond rfl ?_))
  rw [show ((nx.length : Int) != (ac.length : Int)) = false by simp [d.ln]]
  refine Ev.step (fun k => by rw [table_Right.j0]) (Ev.ncond (by decide) ?_)
  have key : ∀ (m i : Nat), i + m = nx.length → Ev (fun k => table_Right.l0 k (ac.length : Int) nx (nx.length : Int) (i : Int) ns ac nx) 0 := by
    intro m
    induction m with
    | zero => intro i hi; exact Ev.step (fun k => by rw [table_Right.l0]) (Ev.ncond (by omega) (Ev.fin rfl))
    | succ m ih =>
      intro i hi
      refine Ev.step (fun k => by rw [table_Right.l0]) (Ev.cond (by omega) (Ev.cond (by omega) (Ev.cond (by omega) ?_)))
      rw [rdL_get nx (show i < nx.length by omega), shl_tr d.fr.tr, w64 (by omega) (by omega)]
      have mem : nx[i]'(by omega) ∈ nx := List.getElem_mem _
      exact right_row (hr _ mem) (fun _ => ih (i + 1) (by omega)) (fun h => absurd (d.rows _ mem) h)
  exact key nx.length 0 (by omega)
theorem right_no (hs : SZ ns) (hr : RZ nx) (hx : nx.length ≤ 9000000000000000000) (d : ¬ DOk ns ac nx) : Ev (fun k => table_Right.f k ns ac nx) 3 := by
  have stop : ∀ {b}, b = true → Ev (fun k => table_Right.j0 k (ac.length : Int) b ns ac nx) 3 := fun e => e ▸ Ev.step (fun k => by rw [table_Right.j0]) (Ev.cond rfl (Ev.fin rfl))
  by_cases f : Fr ns ac.length
  · refine Ev.congr (fun k => by rw [table_Right.f]) (Ev.bind (tracks_yes hs f) (Ev.cond rfl ?_))
    by_cases ln : nx.length = ac.length
    · rw [show ((nx.length : Int) != (ac.length : Int)) = false by simp [ln]]
      refine Ev.step (fun k => by rw [table_Right.j0]) (Ev.ncond (by decide) ?_)
      obtain ⟨q, hq, bad⟩ : ∃ q, ∃ h : q < nx.length, ¬ (nx[q].length = 2 ^ ns.length ∧ ∀ x ∈ nx[q], 0 ≤ x ∧ x < (ac.length : Int)) :=
        Classical.byContradiction fun c => d ⟨f, ln, fun r hr => by
          obtain ⟨i, hi, rfl⟩ := List.getElem_of_mem hr
          exact Classical.byContradiction fun z => c ⟨i, hi, z⟩⟩
      have key : ∀ (m i : Nat), i + m = q → Ev (fun k => table_Right.l0 k (ac.length : Int) nx (nx.length : Int) (i : Int) ns ac nx) 3 := by
        intro m
        induction m with
        | zero =>
          intro i hi
          obtain rfl : i = q := by omega
          refine Ev.step (fun k => by rw [table_Right.l0]) (Ev.cond (by omega) (Ev.cond (by omega) (Ev.cond (by omega) ?_)))
          rw [rdL_get nx hq, shl_tr f.tr]
          exact right_row (hr _ (List.getElem_mem hq)) (fun h => absurd h bad) (fun _ => rfl)
        | succ m ih =>
          intro i hi
          refine Ev.step (fun k => by rw [table_Right.l0]) (Ev.cond (by omega) (Ev.cond (by omega) (Ev.cond (by omega) ?_)))
          rw [rdL_get nx (show i < nx.length by omega), shl_tr f.tr, w64 (by omega) (by omega)]
          exact right_row (hr _ (List.getElem_mem _)) (fun _ => ih (i + 1) (by omega)) (fun _ => rfl)
      exact key q 0 (by omega)
    · exact stop (bne_iff_ne.2 (by omega))
  · refine Ev.congr (fun k => by rw [table_Right.f]) (Ev.bind (tracks_no hs f) ?_)
    exact Ev.ncond (by decide) (stop rfl)
end
/-! ### The table of a machine -/
def cu (j : Nat) (nx : List (List Int)) (q : Nat) : List S58 := tree j (nx.getD q []) 0 0
def arU (j : Nat) (nx : List (List Int)) : Nat → List S58
  | 0 => []
  | i + 1 => arU j nx i ++ cu j nx i
def stU (j : Nat) (nx : List (List Int)) (i : Nat) : List Int := (List.range (i + 1)).map fun q => ((arU j nx q).length : Int)
theorem arU_len {j : Nat} (hj : j ≤ 6) (nx : List (List Int)) (i : Nat) : (arU j nx i).length ≤ i * 64 := by
  induction i with
  | zero => simp [arU]
  | succ i ih =>
    rw [arU, List.length_append]
    have := (tree_len j (nx.getD i []) 0 0).1
    have := pow6 hj
    rw [cu]; omega
theorem arU_pre {j : Nat} (nx : List (List Int)) (q d : Nat) : ∃ r, arU j nx (q + d) = arU j nx q ++ r := by
  induction d with
  | zero => exact ⟨[], by simp⟩
  | succ d ih =>
    obtain ⟨r, hr⟩ := ih
    exact ⟨r ++ cu j nx (q + d), by rw [← Nat.add_assoc, arU, hr, List.append_assoc]⟩
theorem stU_len (j : Nat) (nx : List (List Int)) (i : Nat) : (stU j nx i).length = i + 1 := by simp [stU]
theorem stU_rd (j : Nat) (nx : List (List Int)) {i q : Nat} (h : q ≤ i) : rd (stU j nx i) (q : Int) = ((arU j nx q).length : Int) := by
  rw [rd_get _ (by rw [stU_len]; omega)]; simp [stU]
theorem stU_succ (j : Nat) (nx : List (List Int)) (i : Nat) : stU j nx (i + 1) = stU j nx i ++ [((arU j nx i ++ cu j nx i).length : Int)] := by
  rw [stU, List.range_succ, List.map_append]; rfl
section
variable {ns : List ByteArray} {ac : List Bool} {nx : List (List Int)}
theorem pack_start (hs : SZ ns) (hr : RZ nx) {e : List ByteArray × List Bool × List Int × List S58 × Int} (hn : ns.length * 16 ≤ 140737488351232) (d : DOk ns ac nx) (h : Ev (fun k => table_Pack.l0 k nx (nx.length : Int) 0 ns ac [0] []) e) : Ev (fun k => table_Pack.f k ns ac nx) e := by
  have n2 := d.fr.n2
  refine Ev.congr (fun k => by rw [table_Pack.f]) (Ev.bind (right_ok hs hr d) (Ev.cond rfl ?_))
  refine Ev.ret (show slices_Clone_string_string.f ns = some ns by unfold slices_Clone_string_string.f; rw [if_pos (by omega)]) ?_
  refine Ev.ret (show slices_Clone_bool_bool.f ac = some ac by unfold slices_Clone_bool_bool.f; rw [if_pos (by omega)]) ?_
  exact h
theorem row_pack (d : DOk ns ac nx) {i : Nat} (hi : i < nx.length) : Ev (fun k => row_Pack.f k (rd_L1 nx (i : Int))) (cu ns.length nx i, 0) := by
  rw [rdL_get nx hi, cu, List.getD_eq_getElem?_getD, List.getElem?_eq_getElem hi, Option.getD_some]
  have := d.rows _ (List.getElem_mem hi)
  exact pack_ok d.fr.tr this.1 (fun x hx => (this.2 x hx).1)
theorem tpack_ok (hs : SZ ns) (hr : RZ nx) (hn : ns.length * 16 ≤ 140737488351232) (d : DOk ns ac nx) (fit : ∀ q, q < nx.length → (cu ns.length nx q).length ≤ 32) : Ev (fun k => table_Pack.f k ns ac nx) (ns, ac, stU ns.length nx nx.length, arU ns.length nx nx.length, 0) := by
  have n2 := d.fr.n2
  have ln := d.ln
  refine pack_start hs hr hn d ?_
  have key : ∀ (m i : Nat), i + m = nx.length → Ev (fun k => table_Pack.l0 k nx (nx.length : Int) (i : Int) ns ac (stU ns.length nx i) (arU ns.length nx i)) (ns, ac, stU ns.length nx nx.length, arU ns.length nx nx.length, 0) := by
    intro m
    induction m with
    | zero =>
      intro i hi
      obtain rfl : i = nx.length := by omega
      exact Ev.step (fun k => by rw [table_Pack.l0]) (Ev.ncond (by omega) (Ev.fin rfl))
    | succ m ih =>
      intro i hi
      have f := fit i (by omega)
      have al := arU_len d.fr.tr nx i
      refine Ev.step (fun k => by rw [table_Pack.l0]) (Ev.cond (by omega) (Ev.cond (by omega) (Ev.cond (by omega) (Ev.bind (row_pack d (show i < nx.length by omega)) ?_))))
      refine Ev.cond rfl ?_
      refine Ev.ncond (by show ¬ ((cu ns.length nx i).length : Int) > 32; omega) ?_
      refine Ev.cond (by show (arU ns.length nx i).length + (cu ns.length nx i).length < _; omega) ?_
      refine Ev.ret rfl ?_
      refine Ev.cond (by rw [stU_len]; omega) ?_
      rw [w64 (by omega) (by omega)]
      have q := ih (i + 1) (by omega)
      rw [stU_succ, arU] at q
      exact q
  have := key nx.length 0 (by omega)
  exact this
theorem tpack_big (hs : SZ ns) (hr : RZ nx) (hn : ns.length * 16 ≤ 140737488351232) (d : DOk ns ac nx) (fit : ¬ ∀ q, q < nx.length → (cu ns.length nx q).length ≤ 32) : Ev (fun k => table_Pack.f k ns ac nx) ([], [], [], [], 120) := by
  have n2 := d.fr.n2
  have ln := d.ln
  obtain ⟨q, hq, big⟩ : ∃ q, q < nx.length ∧ ¬ (cu ns.length nx q).length ≤ 32 := Classical.byContradiction fun c => fit fun q hq => Classical.byContradiction fun z => c ⟨q, hq, z⟩
  refine pack_start hs hr hn d ?_
  have key : ∀ (m i : Nat) (st : List Int) (ar : List S58), i + m = q → st.length ≤ i + 1 → ar.length ≤ i * 64 → Ev (fun k => table_Pack.l0 k nx (nx.length : Int) (i : Int) ns ac st ar) ([], [], [], [], 120) := by
    intro m
    induction m with
    | zero =>
      intro i st ar hi _ _
      obtain rfl : i = q := by omega
      refine Ev.step (fun k => by rw [table_Pack.l0]) (Ev.cond (by omega) (Ev.cond (by omega) (Ev.cond (by omega) (Ev.bind (row_pack d hq) ?_))))
      refine Ev.cond rfl ?_
      exact Ev.cond (by show ((cu ns.length nx i).length : Int) > 32; omega) (Ev.fin rfl)
    | succ m ih =>
      intro i st ar hi h1 h2
      have tl : (cu ns.length nx i).length ≤ 64 := by have := (tree_len ns.length (nx.getD i []) 0 0).1; have := pow6 d.fr.tr; rw [cu]; omega
      refine Ev.step (fun k => by rw [table_Pack.l0]) (Ev.cond (by omega) (Ev.cond (by omega) (Ev.cond (by omega) (Ev.bind (row_pack d (show i < nx.length by omega)) ?_))))
      refine Ev.cond rfl ?_
      refine Ev.ite (fun _ => Ev.fin rfl) (fun _ => ?_)
      refine Ev.cond (by show ar.length + (cu ns.length nx i).length < _; omega) ?_
      refine Ev.ret rfl ?_
      refine Ev.cond (by omega) ?_
      rw [w64 (by omega) (by omega)]
      exact ih (i + 1) _ _ (by omega) (by simp; omega) (by show (ar ++ cu ns.length nx i).length ≤ _; rw [List.length_append]; omega)
  exact key q 0 [0] [] (by omega) (by simp) (by simp)
theorem tpack_bad (hs : SZ ns) (hr : RZ nx) (hx : nx.length ≤ 9000000000000000000) (d : ¬ DOk ns ac nx) : Ev (fun k => table_Pack.f k ns ac nx) ([], [], [], [], 3) := by
  refine Ev.congr (fun k => by rw [table_Pack.f]) (Ev.bind (right_no hs hr hx d) ?_)
  exact Ev.ncond (by decide) (Ev.fin rfl)
end
end Go.Proofs.Ytghfclgcgecgdaa.Pure
namespace Go.Proofs.Ytghfclgcgecgdaa.Pure
open Go.RowKit Go.Proofs.YtghfclgcgecgdaaW.PrintWords Go.Proofs.YtghfclgcgecgdaaW.PrintLast Go.Proofs.YtghfclgcgecgdaaW.PrintMore Go.Proofs.Ytghfclgcgecgdaa.X
set_option linter.unusedVariables false
/-- The cubes of a state. -/
def cb (st : List Int) (ar : List S58) (q : Nat) : List S58 := (ar.take (rd st ((q + 1 : Nat) : Int)).toNat).drop (rd st (q : Int)).toNat
/-- The places are right. -/
structure Fm (n : Nat) (st : List Int) (ar : List S58) : Prop where
  sl : st.length = n + 1
  s0 : rd st 0 = 0
  se : rd st (n : Int) = (ar.length : Int)
  so : ∀ i : Nat, i < n → rd st (i : Int) ≤ rd st ((i + 1 : Nat) : Int)
theorem Fm.up {n : Nat} {st : List Int} {ar : List S58} (f : Fm n st ar) : ∀ (d i : Nat), i + d ≤ n → rd st (i : Int) ≤ rd st ((i + d : Nat) : Int) := by
  intro d
  induction d with
  | zero => intro i _; exact Int.le_refl _
  | succ d ih => intro i h; exact Int.le_trans (ih i (by omega)) (f.so (i + d) (by omega))
theorem Fm.bounds {n : Nat} {st : List Int} {ar : List S58} (f : Fm n st ar) {q : Nat} (hq : q ≤ n) : 0 ≤ rd st (q : Int) ∧ rd st (q : Int) ≤ (ar.length : Int) := by
  have a := f.up q 0 (by omega)
  have b := f.up (n - q) q (by omega)
  rw [Nat.zero_add] at a
  rw [show q + (n - q) = n by omega, f.se] at b
  have s0 := f.s0
  have e : rd st ((0 : Nat) : Int) = 0 := s0
  omega
theorem rowOf_ev {n : Nat} {ns : List ByteArray} {ac : List Bool} {st : List Int} {ar : List S58} (f : Fm n st ar) (hn : n ≤ 256) {q : Nat} (hq : q < n) : table_rowOf.f ns ac st ar (q : Int) = some (cb st ar q) := by
  have sl := f.sl
  have b0 := f.bounds (show q ≤ n by omega)
  have b1 := f.bounds (show q + 1 ≤ n by omega)
  have so := f.so q hq
  unfold table_rowOf.f
  rw [w64 (x := (q : Int) + 1) (by omega) (by omega), show (q : Int) + 1 = ((q + 1 : Nat) : Int) by omega]
  rw [if_pos (by omega), if_pos (by omega), if_pos (by omega), if_pos (by omega), if_pos b0.1, if_pos so, if_pos b1.2]
  rfl
theorem sorted_ev {n : Nat} {st : List Int} (hl : st.length = n + 1) (hn : n ≤ 256) : Ev (fun k => slices_IsSorted_int_int.f k st) (decide (∀ i : Nat, i < n → rd st (i : Int) ≤ rd st ((i + 1 : Nat) : Int))) := by
  refine Ev.congr (fun k => by rw [slices_IsSorted_int_int.f]) ?_
  have key : ∀ (m : Nat), m ≤ n → Ev (fun k => slices_IsSorted_int_int.l0 k st (m : Int)) (decide (∀ i : Nat, i < m → rd st (i : Int) ≤ rd st ((i + 1 : Nat) : Int))) := by
    intro m
    induction m with
    | zero =>
      intro _
      rw [decide_eq_true (show ∀ i : Nat, i < 0 → rd st (i : Int) ≤ rd st ((i + 1 : Nat) : Int) from fun i hi => absurd hi (by omega))]
      exact Ev.step (fun k => by rw [slices_IsSorted_int_int.l0]) (Ev.ncond (by omega) (Ev.fin rfl))
    | succ m ih =>
      intro hm
      refine Ev.step (fun k => by rw [slices_IsSorted_int_int.l0]) (Ev.cond (by omega) (Ev.cond (by omega) (Ev.cond (by omega) ?_)))
      rw [w64 (by omega) (by omega), show ((m + 1 : Nat) : Int) - 1 = (m : Int) by omega]
      refine Ev.cond (by omega) (Ev.cond (by omega) ?_)
      refine Ev.ret (show cmp_Less_int.f (rd st ((m + 1 : Nat) : Int)) (rd st (m : Int)) = some (decide (rd st ((m + 1 : Nat) : Int) < rd st (m : Int))) by simp [cmp_Less_int.f, cmp_isNaN_int.f]) ?_
      refine Ev.ite (fun c => Ev.fin ?_) (fun c => ?_)
      · have c := of_decide_eq_true c
        exact (decide_eq_false (fun h => by have := h m (by omega); omega)).symm
      · have c : ¬ rd st ((m + 1 : Nat) : Int) < rd st (m : Int) := fun h => c (decide_eq_true h)
        rw [decide_eq_decide.2 (show (∀ i : Nat, i < m + 1 → rd st (i : Int) ≤ rd st ((i + 1 : Nat) : Int)) ↔ (∀ i : Nat, i < m → rd st (i : Int) ≤ rd st ((i + 1 : Nat) : Int)) from
          ⟨fun h i hi => h i (by omega), fun h i hi => by
            by_cases e : i = m
            · subst e; omega
            · exact h i (by omega)⟩)]
        exact ih (by omega)
  have := key n (Nat.le_refl n)
  rw [hl, w64 (by omega) (by omega), show ((n + 1 : Nat) : Int) - 1 = (n : Int) by omega]
  exact this
/-- A right table. -/
structure AOk (ns : List ByteArray) (ac : List Bool) (st : List Int) (ar : List S58) : Prop where
  fr : Fr ns ac.length
  fm : Fm ac.length st ar
  len : ∀ q, q < ac.length → (cb st ar q).length ≤ 32
  unp : ∀ q, q < ac.length → UnpOk (cb st ar q) ns.length
  low : ∀ q, q < ac.length → ∀ x ∈ rowOf (cb st ar q) (2 ^ ns.length), x < (ac.length : Int)
section
variable {ns : List ByteArray} {ac : List Bool} {st : List Int} {ar : List S58}
theorem row_right {l : List S58} {j : Nat} (hj : j ≤ 6) {s : Int} {e : Int} {f : Nat → Option Int} (hl9 : l.length ≤ 9000000000000000000)
    (yes : (UnpOk l j ∧ ∀ x ∈ rowOf l (2 ^ j), x < s) → Ev f e) (no : ¬ (UnpOk l j ∧ ∀ x ∈ rowOf l (2 ^ j), x < s) → e = 3) :
    Ev (fun k => (row_Right.f k l (j : Int) s).bind fun t => if t = true then f k else some 3) e := by
  have h6 := pow6 hj
  have hp := Nat.two_pow_pos j
  by_cases u : UnpOk l j
  · refine Ev.bind (right_good' (by rw [rowOf_len]; omega) (by rw [rowOf_len]; omega) (unpack_ok u)) (Ev.ite (fun t => yes ⟨u, of_decide_eq_true t⟩) (fun t => Ev.fin (no (fun z => t (decide_eq_true z.2))).symm))
  · refine Ev.bind (right_bad' (by decide) (unpack_no hj u hl9)) ?_
    exact Ev.ncond (by decide) (Ev.fin (no (fun z => u z.1)).symm)
theorem check_loop (hs : SZ ns) (fr : Fr ns ac.length) (fm : Fm ac.length st ar) (ha : ar.length ≤ 9000000000000000000) {e : Int} :
    ∀ (m i : Nat), i + m = ac.length → (e = 3 ∨ e = 0) →
      (e = 0 → ∀ q, i ≤ q → q < ac.length → (cb st ar q).length ≤ 32 ∧ UnpOk (cb st ar q) ns.length ∧ ∀ x ∈ rowOf (cb st ar q) (2 ^ ns.length), x < (ac.length : Int)) →
      (e = 3 → ∃ q, i ≤ q ∧ q < ac.length ∧ ¬ ((cb st ar q).length ≤ 32 ∧ UnpOk (cb st ar q) ns.length ∧ ∀ x ∈ rowOf (cb st ar q) (2 ^ ns.length), x < (ac.length : Int))) →
      Ev (fun k => table_Check.l0 k (ac.length : Int) (ac.length : Int) (i : Int) ns ac st ar) e := by
  have n2 := fr.n2
  intro m
  induction m with
  | zero =>
    intro i hi h h0 h3
    refine Ev.step (fun k => by rw [table_Check.l0]) (Ev.ncond (by omega) (Ev.fin ?_))
    rcases h with h | h
    · obtain ⟨q, h1, h2, _⟩ := h3 h; omega
    · exact h.symm
  | succ m ih =>
    intro i hi h h0 h3
    have ii : i < ac.length := by omega
    refine Ev.step (fun k => by rw [table_Check.l0]) (Ev.cond (by omega) ?_)
    refine Ev.ret (rowOf_ev fm n2 ii) ?_
    have cl : (cb st ar i).length ≤ 9000000000000000000 := by rw [cb, List.length_drop, List.length_take]; omega
    by_cases big : (cb st ar i).length ≤ 32
    · refine Ev.ncond (by omega) ?_
      rw [w64 (by omega) (by omega)]
      refine row_right fr.tr cl (fun ok => ih (i + 1) (by omega) h (fun z q h1 h2 => h0 z q (by omega) h2) (fun z => ?_)) (fun no => ?_)
      · obtain ⟨q, h1, h2, h4⟩ := h3 z
        by_cases e1 : q = i
        · subst e1; exact absurd ⟨big, ok.1, ok.2⟩ h4
        · exact ⟨q, by omega, h2, h4⟩
      · rcases h with h | h
        · exact h
        · have := h0 h i (Nat.le_refl i) ii; exact absurd this.2 no
    · refine Ev.cond (by omega) (Ev.fin ?_)
      rcases h with h | h
      · exact h.symm
      · exact absurd (h0 h i (Nat.le_refl i) ii).1 big
theorem check_ok (hs : SZ ns) (ha : ar.length ≤ 9000000000000000000) (a : AOk ns ac st ar) : Ev (fun k => table_Check.f k ns ac st ar) 0 := by
  have n2 := a.fr.n2
  have sl := a.fm.sl
  refine Ev.congr (fun k => by rw [table_Check.f]) (Ev.bind (tracks_yes hs a.fr) (Ev.cond rfl ?_))
  rw [w64 (by omega) (by omega)]
  refine Ev.cond (by omega) (Ev.cond (by omega) (Ev.cond a.fm.s0 (Ev.cond (by omega) (Ev.cond (by omega) (Ev.cond a.fm.se (Ev.bind (sorted_ev sl n2) ?_))))))
  rw [decide_eq_true a.fm.so]
  refine Ev.step (fun k => by rw [table_Check.j0]) (Ev.ncond (by decide) ?_)
  exact check_loop hs a.fr a.fm ha ac.length 0 (by omega) (Or.inr rfl) (fun _ q _ hq => ⟨a.len q hq, a.unp q hq, a.low q hq⟩) (fun h => absurd h (by decide))
/-! ### Words -/
end
/-! ### The table of a machine is right -/
theorem pack_fm {j n : Nat} (nx : List (List Int)) : Fm n (stU j nx n) (arU j nx n) := by
  refine ⟨stU_len _ _ _, ?_, stU_rd _ _ (Nat.le_refl n), fun i hi => ?_⟩
  · have := stU_rd j nx (show 0 ≤ n by omega)
    exact this
  · rw [stU_rd _ _ (by omega), stU_rd _ _ (by omega), arU, List.length_append]
    omega
theorem pack_cb {j n : Nat} (nx : List (List Int)) {q : Nat} (hq : q < n) : cb (stU j nx n) (arU j nx n) q = cu j nx q := by
  rw [cb, stU_rd _ _ (by omega), stU_rd _ _ (by omega)]
  obtain ⟨r, hr⟩ := arU_pre (j := j) nx (q + 1) (n - (q + 1))
  rw [show q + 1 + (n - (q + 1)) = n by omega] at hr
  rw [hr, Int.toNat_natCast, Int.toNat_natCast, List.take_left, arU, List.drop_left]
theorem pack_aok {ns : List ByteArray} {ac : List Bool} {nx : List (List Int)} (d : DOk ns ac nx) (fit : ∀ q, q < nx.length → (cu ns.length nx q).length ≤ 32) : AOk ns ac (stU ns.length nx nx.length) (arU ns.length nx nx.length) := by
  have ln := d.ln
  have row : ∀ q (h : q < ac.length), ∃ r, nx.getD q [] = r ∧ r ∈ nx := fun q h => ⟨_, rfl, by rw [List.getD_eq_getElem?_getD, List.getElem?_eq_getElem (by omega)]; exact List.getElem_mem _⟩
  refine ⟨d.fr, by rw [← ln]; exact pack_fm nx, fun q hq => ?_, fun q hq => ?_, fun q hq => ?_⟩
  · rw [pack_cb nx (by omega)]; exact fit q (by omega)
  · rw [pack_cb nx (by omega), cu]
    obtain ⟨r, e, hr⟩ := row q hq
    rw [e]
    exact tree_unp d.fr.tr (d.rows r hr).1 (fun x hx => ((d.rows r hr).2 x hx).1)
  · rw [pack_cb nx (by omega), cu]
    obtain ⟨r, e, hr⟩ := row q hq
    rw [e, tree_row d.fr.tr (d.rows r hr).1]
    exact fun x hx => ((d.rows r hr).2 x hx).2
end Go.Proofs.Ytghfclgcgecgdaa.Pure
namespace Go.Proofs.Ytghfclgcgecgdaa.Pure
open Go.RowKit Go.Proofs.YtghfclgcgecgdaaW.PrintWords Go.Proofs.YtghfclgcgecgdaaW.PrintLast Go.Proofs.YtghfclgcgecgdaaW.PrintMore Go.Proofs.Ytghfclgcgecgdaa.X
set_option linter.unusedVariables false
end Go.Proofs.Ytghfclgcgecgdaa.Pure
namespace Go.Proofs.Ytghfclgcgecgdaa.Pure
open Go.RowKit Go.Proofs.YtghfclgcgecgdaaW.PrintWords Go.Proofs.YtghfclgcgecgdaaW.PrintLast Go.Proofs.YtghfclgcgecgdaaW.PrintMore Go.Proofs.Ytghfclgcgecgdaa.X
set_option linter.unusedVariables false
section
variable {s : ByteArray} {p : Nat}
end
end Go.Proofs.Ytghfclgcgecgdaa.Pure
namespace Go.Proofs.Ytghfclgcgecgdaa.Pure
open Go.RowKit Go.Proofs.YtghfclgcgecgdaaW.PrintWords Go.Proofs.YtghfclgcgecgdaaW.PrintLast Go.Proofs.YtghfclgcgecgdaaW.PrintMore Go.Proofs.Ytghfclgcgecgdaa.X
set_option linter.unusedVariables false
section
variable {ns : List ByteArray} {n : Nat}
variable {ac : List Bool} {nx : List (List Int)}
end
end Go.Proofs.Ytghfclgcgecgdaa.Pure
namespace Go.Proofs.Ytghfclgcgecgdaa.Pure
open Go.RowKit Go.Proofs.YtghfclgcgecgdaaW.PrintWords Go.Proofs.YtghfclgcgecgdaaW.PrintLast Go.Proofs.YtghfclgcgecgdaaW.PrintMore Go.Proofs.Ytghfclgcgecgdaa.X
set_option linter.unusedVariables false
theorem copy_dense {ns : List ByteArray} {ac : List Bool} {nx : List (List Int)} (h0 : ns.length * 16 ≤ 140737488351232) (h1 : ac.length * 1 ≤ 140737488351232) (h2 : nx.length * 24 ≤ 140737488351232) (hq : ∀ r ∈ nx, r.length * 8 ≤ 140737488351232) :
    Ev (fun k => tabardref12_CopyDense.f k ns ac nx) (ns, ac, nx) := by
  refine Ev.congr (fun k => by rw [tabardref12_CopyDense.f]) ?_
  refine Ev.ret rfl ?_
  refine Ev.cond (by simp; omega) ?_
  refine Ev.ret rfl ?_
  refine Ev.cond (by simp; omega) ?_
  rw [List.nil_append, List.nil_append]
  have key : ∀ (m i : Nat), i + m = nx.length → Ev (fun k => tabardref12_CopyDense.l0 k (i : Int) ns ac nx ns ac (nx.take i)) (ns, ac, nx) := by
    intro m
    induction m with
    | zero =>
      intro i hi
      rw [List.take_of_length_le (by omega)]
      exact Ev.step (fun k => by rw [tabardref12_CopyDense.l0]) (Ev.ncond (by omega) (Ev.fin rfl))
    | succ m ih =>
      intro i hi
      have ii : i < nx.length := by omega
      have rl := hq _ (List.getElem_mem ii)
      refine Ev.step (fun k => by rw [tabardref12_CopyDense.l0]) (Ev.cond (by omega) ?_)
      refine Ev.ret rfl ?_
      rw [rdL_get nx ii, List.nil_append, w64 (by omega) (by omega)]
      refine Ev.cond (by omega) (Ev.cond (by simp; omega) (Ev.cond (by rw [List.length_take]; omega) ?_))
      have q := ih (i + 1) (by omega)
      rw [List.take_succ_eq_append_getElem ii] at q
      exact q
  exact key nx.length 0 (by omega)
theorem same_dense {ns : List ByteArray} {ac : List Bool} {nx : List (List Int)} (h0 : ns.length ≤ 9000000000000000000) (h1 : ac.length ≤ 9000000000000000000) (h2 : nx.length ≤ 9000000000000000000) (hr : RZ nx) :
    Ev (fun k => tabardref12_SameDense.f k ns ac nx ns ac nx) true := by
  have a := texts_ev ns ns h0
  have b := flags_ev ac ac h1
  rw [decide_eq_true rfl] at a b
  refine Ev.congr (fun k => by rw [tabardref12_SameDense.f]) (Ev.bind a (Ev.cond rfl (Ev.bind b (Ev.cond rfl ?_))))
  rw [show ((nx.length : Int) != (nx.length : Int)) = false by simp]
  refine Ev.step (fun k => by rw [tabardref12_SameDense.j0]) (Ev.ncond (by decide) ?_)
  have key : ∀ (m i : Nat), i + m = nx.length → Ev (fun k => tabardref12_SameDense.l0 k (i : Int) ns ac nx ns ac nx) true := by
    intro m
    induction m with
    | zero =>
      intro i hi
      exact Ev.step (fun k => by rw [tabardref12_SameDense.l0]) (Ev.ncond (by omega) (Ev.fin rfl))
    | succ m ih =>
      intro i hi
      have ii : i < nx.length := by omega
      have c := rints_ev (rd_L1 nx (i : Int)) (rd_L1 nx (i : Int)) (by rw [rdL_get nx ii]; exact hr _ (List.getElem_mem ii))
      rw [decide_eq_true rfl] at c
      refine Ev.step (fun k => by rw [tabardref12_SameDense.l0]) (Ev.cond (by omega) (Ev.cond (by omega) (Ev.cond (by omega) (Ev.bind c (Ev.cond rfl ?_)))))
      rw [w64 (by omega) (by omega)]
      exact ih (i + 1) (by omega)
  exact key nx.length 0 (by omega)
section
variable {ns : List ByteArray} {ac : List Bool} {nx : List (List Int)}
end
end Go.Proofs.Ytghfclgcgecgdaa.Pure
namespace Go.Proofs.Ytghfclgcgecgdaa.Pure
open Go.RowKit Go.Proofs.YtghfclgcgecgdaaW.PrintWords Go.Proofs.YtghfclgcgecgdaaW.PrintLast Go.Proofs.YtghfclgcgecgdaaW.PrintMore Go.Proofs.Ytghfclgcgecgdaa.X
set_option linter.unusedVariables false
/-- The first rows that a table tells. -/
def rows (j : Nat) (st : List Int) (ar : List S58) (i : Nat) : List (List Int) := (List.range i).map fun q => rowOf (cb st ar q) (2 ^ j)
theorem rows_len (j : Nat) (st : List Int) (ar : List S58) (i : Nat) : (rows j st ar i).length = i := by simp [rows]
theorem rows_succ (j : Nat) (st : List Int) (ar : List S58) (i : Nat) : rows j st ar (i + 1) = rows j st ar i ++ [rowOf (cb st ar i) (2 ^ j)] := by
  rw [rows, List.range_succ, List.map_append]; rfl
section
variable {ns : List ByteArray} {ac : List Bool} {st : List Int} {ar : List S58}
/-! ### Words -/
end
end Go.Proofs.Ytghfclgcgecgdaa.Pure
namespace Go.Proofs.Ytghfclgcgecgdaa.Pure
open Go.RowKit Go.Proofs.YtghfclgcgecgdaaW.PrintWords Go.Proofs.YtghfclgcgecgdaaW.PrintLast Go.Proofs.YtghfclgcgecgdaaW.PrintMore Go.Proofs.Ytghfclgcgecgdaa.X
set_option linter.unusedVariables false
section
variable {ns : List ByteArray} {ac : List Bool} {st : List Int} {ar : List S58}
theorem tunpack_ok (hs : SZ ns) (ha : ar.length ≤ 9000000000000000000) (hn : ns.length * 16 ≤ 140737488351232) (a : AOk ns ac st ar) : Ev (fun k => table_Unpack.f k ns ac st ar) (ns, ac, rows ns.length st ar ac.length, 0) := by
  have n2 := a.fr.n2
  refine Ev.congr (fun k => by rw [table_Unpack.f]) (Ev.bind (check_ok hs ha a) (Ev.cond rfl ?_))
  refine Ev.ret (show slices_Clone_string_string.f ns = some ns by unfold slices_Clone_string_string.f; rw [if_pos (by omega)]) ?_
  refine Ev.ret (show slices_Clone_bool_bool.f ac = some ac by unfold slices_Clone_bool_bool.f; rw [if_pos (by omega)]) ?_
  have key : ∀ (m i : Nat), i + m = ac.length → Ev (fun k => table_Unpack.l0 k (ac.length : Int) (i : Int) ns ac st ar ns ac (rows ns.length st ar i)) (ns, ac, rows ns.length st ar ac.length, 0) := by
    intro m
    induction m with
    | zero =>
      intro i hi
      obtain rfl : i = ac.length := by omega
      exact Ev.step (fun k => by rw [table_Unpack.l0]) (Ev.ncond (by omega) (Ev.fin rfl))
    | succ m ih =>
      intro i hi
      have ii : i < ac.length := by omega
      refine Ev.step (fun k => by rw [table_Unpack.l0]) (Ev.cond (by omega) (Ev.ret (rowOf_ev a.fm n2 ii) (Ev.bind (unpack_ok (a.unp i ii)) ?_)))
      refine Ev.cond rfl ?_
      refine Ev.cond (by rw [rows_len]; omega) ?_
      rw [w64 (by omega) (by omega)]
      have q := ih (i + 1) (by omega)
      rw [rows_succ] at q
      exact q
  exact key ac.length 0 (by omega)
end
end Go.Proofs.Ytghfclgcgecgdaa.Pure
namespace Go.Proofs.Ytghfclgcgecgdaa.Pure
open Go.RowKit Go.Proofs.YtghfclgcgecgdaaW.PrintWords Go.Proofs.YtghfclgcgecgdaaW.PrintLast Go.Proofs.YtghfclgcgecgdaaW.PrintMore Go.Proofs.Ytghfclgcgecgdaa.X
set_option linter.unusedVariables false
theorem pack_rows' {ns : List ByteArray} {ac : List Bool} {nx : List (List Int)} (d : DOk ns ac nx) : rows ns.length (stU ns.length nx nx.length) (arU ns.length nx nx.length) ac.length = nx := by
  have ln := d.ln
  refine List.ext_getElem (by rw [rows_len, ln]) (fun q h1 h2 => ?_)
  have e : nx.getD q [] = nx[q] := by rw [List.getD_eq_getElem?_getD, List.getElem?_eq_getElem h2]; rfl
  have mem : nx[q] ∈ nx := List.getElem_mem h2
  simp only [rows, List.getElem_map, List.getElem_range]
  rw [pack_cb nx h2, cu, e, tree_row d.fr.tr (d.rows _ mem).1]
theorem TableMemory (ns : List ByteArray) (h0 : ns.length * 16 ≤ 140737488351232) (q0 : ∀ x ∈ ns, x.size ≤ maxLen) (ac : List Bool) (h1 : ac.length * 1 ≤ 140737488351232) (q1 : ∀ x ∈ ac, True) (nx : List (List Int)) (h2 : nx.length * 24 ≤ 140737488351232) (q2 : ∀ x ∈ nx, x.length * 8 ≤ 140737488351232 ∧ ∀ a ∈ x, (Lit.int .i64 a).wf = true) :
    ∃ k t1 t2 t3 t4 er, tabardlaw12_fixed.f k = some true ∧ tabardref12_CopyDense.f k ns ac nx = some (ns, ac, nx) ∧ table_Pack.f k ns ac nx = some (t1, t2, t3, t4, er) ∧
      (er = 0 → tabardref12_Copy.f t1 t2 t3 t4 = some (t1, t2, t3, t4) ∧ table_Unpack.f k t1 t2 t3 t4 = some (ns, ac, nx, 0) ∧ tabardref12_SameDense.f k ns ac nx ns ac nx = some true ∧ tabardref12_Same.f k t1 t2 t3 t4 t1 t2 t3 t4 = some true ∧
        t1.length = ns.length ∧ t2.length = ac.length ∧ nx.length = ac.length ∧ t4.length ≤ 1073741824 ∧ ∀ i, i < nx.length → (nx.getD i []).length ≤ 1073741824) := by
  have hs : SZ ns := fun x hx => q0 x hx
  have hr : RZ nx := fun r hr => by have := (q2 r hr).1; omega
  obtain ⟨k1, e1⟩ := fixed_ev
  obtain ⟨k2, e2⟩ := copy_dense h0 h1 h2 (fun r hr => (q2 r hr).1)
  by_cases d : DOk ns ac nx
  · by_cases fit : ∀ q, q < nx.length → (cu ns.length nx q).length ≤ 32
    · have n2 := d.fr.n2
      have ln := d.ln
      have l6 := d.fr.tr
      have p6 := pow6 l6
      have al := arU_len l6 nx nx.length
      have sl := stU_len ns.length nx nx.length
      have a := pack_aok d fit
      have U := tunpack_ok hs (by omega) h0 a
      rw [pack_rows' d] at U
      have CT := copy_tab (t0 := ns) (t1 := ac) (t2 := stU ns.length nx nx.length) (t3 := arU ns.length nx nx.length) h0 h1 (by omega) (by omega)
      have S := rsame_tab (t0 := ns) (u0 := ns) (t1 := ac) (u1 := ac) (t2 := stU ns.length nx nx.length) (u2 := stU ns.length nx nx.length) (t3 := arU ns.length nx nx.length) (u3 := arU ns.length nx nx.length) (by omega) (by omega) (by omega) (by omega)
      rw [decide_eq_true ⟨rfl, rfl, rfl, rfl⟩] at S
      obtain ⟨k3, e3⟩ := tpack_ok hs hr h0 d fit
      obtain ⟨k4, e4⟩ := U
      obtain ⟨k5, e5⟩ := same_dense (ns := ns) (ac := ac) (nx := nx) (by omega) (by omega) (by omega) hr
      obtain ⟨k6, e6⟩ := S
      refine ⟨k1 + k2 + k3 + k4 + k5 + k6, _, _, _, _, _, e1 _ (by omega), e2 _ (by omega), e3 _ (by omega), fun _ => ⟨CT, e4 _ (by omega), e5 _ (by omega), e6 _ (by omega), rfl, rfl, ln, by omega, fun i hi => ?_⟩⟩
      have m := (d.rows _ (List.getElem_mem hi)).1
      rw [List.getD_eq_getElem?_getD, List.getElem?_eq_getElem hi, Option.getD_some, m]
      omega
    · obtain ⟨k3, e3⟩ := tpack_big hs hr h0 d fit
      exact ⟨k1 + k2 + k3, _, _, _, _, _, e1 _ (by omega), e2 _ (by omega), e3 _ (by omega), fun h => absurd h (by decide)⟩
  · obtain ⟨k3, e3⟩ := tpack_bad (ns := ns) (ac := ac) (nx := nx) hs hr (by omega) d
    exact ⟨k1 + k2 + k3, _, _, _, _, _, e1 _ (by omega), e2 _ (by omega), e3 _ (by omega), fun h => absurd h (by decide)⟩
end Go.Proofs.Ytghfclgcgecgdaa.Pure

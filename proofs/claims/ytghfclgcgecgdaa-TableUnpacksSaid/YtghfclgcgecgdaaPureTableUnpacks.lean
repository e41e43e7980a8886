/- Answers that hold from some round on, and 64 bits: small words of the plain proofs; no condition. · What layer 11's loops over lists come to: comparisons, the least and the greatest of a list, tracks, halves; no condition but lengths. · The tree of a row and its cubes: what row.leaves, row.Pack and the reference's Cubes come to, and what is known of the cubes; no condition but that the row is one over six tracks or fewer. · What At and Unpack come to, the program's and the reference's; no condition but lengths. · What the reference's Unpack and Right come to, and the program's Right; no condition but lengths. · Comparisons of tables, the program's and the reference's; copies; no condition but lengths. · Same and Copy of tables; no condition but lengths. · Names and machines: what glyph.Rises, table.Right, table.Pack, table.Check, table.Run and table.Takes come to, on a right machine and on its table; no condition but lengths. · Machines and tables: what Right, Pack, Check, Run and Takes of table come to; no condition but lengths. · Tables: what table's Check, rowOf, Run and Takes come to; no condition but lengths. · The reference's names: what tabardref04's Start, Rest, Reserved, Read, Name and Rises come to: the same as glyph's; no condition but lengths. · The reference reads characters as Go's ranges do, and so its names and rising lists are glyph's; no condition but lengths. · The reference's names, rising lists, frames and right machines: the same as glyph's and table's; no condition but lengths. · The reference's table of a machine, copies of machines, and the comparison of two; no condition but lengths. · The reference's machine of a table, its words and its runs; no condition but lengths. · A table's machine and its greatest number of cubes, the program's and the reference's; no condition but lengths. · The law TableUnpacks over lists alone: a table is right, unpacks and has as many cubes as the reference says; no condition beyond the statement's own. -/
import Derived.Test.YtghfclgcgecgdaaX0
import Derived.Test.YtghfclgcgecgdaaX11
import Derived.Test.YtghfclgcgecgdaaX15
import Derived.Test.YtghfclgcgecgdaaX17
import Derived.Test.YtghfclgcgecgdaaX18
import Derived.Test.YtghfclgcgecgdaaX1
import Derived.Test.YtghfclgcgecgdaaX23
import Derived.Test.YtghfclgcgecgdaaX27
import Derived.Test.YtghfclgcgecgdaaX34
import Derived.Test.YtghfclgcgecgdaaX35
import Derived.Test.YtghfclgcgecgdaaX36
import Derived.Test.YtghfclgcgecgdaaX37
import Derived.Test.YtghfclgcgecgdaaX40
import Derived.Test.YtghfclgcgecgdaaX43
import Derived.Test.YtghfclgcgecgdaaX46
import Derived.Test.YtghfclgcgecgdaaX48
import Derived.Test.YtghfclgcgecgdaaX8
import Derived.Lib.DecodeN
namespace Go.Proofs.Ytghfclgcgecgdaa.Pure
open Go.RowKit Go.Proofs.YtghfclgcgecgdaaW.PrintWords Go.Proofs.YtghfclgcgecgdaaW.PrintLast Go.Proofs.YtghfclgcgecgdaaW.PrintMore Go.Proofs.Ytghfclgcgecgdaa.X
set_option linter.unusedVariables false
/-! ### Rounds -/
theorem Ev.cond {α : Type} {c : Prop} [Decidable c] {f g : Nat → Option α} {r : α} (h : c) (k : Ev f r) : Ev (fun n => if c then f n else g n) r :=
  Ev.congr (fun _ => if_pos h) k
theorem Ev.ncond {α : Type} {c : Prop} [Decidable c] {f g : Nat → Option α} {r : α} (h : ¬ c) (k : Ev g r) : Ev (fun n => if c then f n else g n) r :=
  Ev.congr (fun _ => if_neg h) k
theorem Ev.ite {α : Type} {c : Prop} [Decidable c] {f g : Nat → Option α} {r : α} (h : c → Ev f r) (k : ¬ c → Ev g r) : Ev (fun n => if c then f n else g n) r := by
  by_cases hc : c
  · exact Ev.cond hc (h hc)
  · exact Ev.ncond hc (k hc)
theorem Ev.fin {α : Type} {r q : α} (h : r = q) : Ev (fun _ => Option.some r) q := h ▸ Ev.now r
theorem Ev.ret {α β : Type} {g : Option α} {a : α} {f : Nat → α → Option β} {r : β} (h : g = Option.some a) (k : Ev (fun n => f n a) r) : Ev (fun n => g.bind (f n)) r := by
  subst h; exact k
theorem w64 {x : Int} (h0 : -9223372036854775808 ≤ x) (h1 : x ≤ 9223372036854775807) : wrap64 x = x := by unfold wrap64; omega
theorem rd_nat (l : List Int) (i : Nat) : rd l (i : Int) = l.getD i 0 := by simp [rd]
end Go.Proofs.Ytghfclgcgecgdaa.Pure
namespace Go.Proofs.Ytghfclgcgecgdaa.Pure
open Go.RowKit Go.Proofs.YtghfclgcgecgdaaW.PrintWords Go.Proofs.YtghfclgcgecgdaaW.PrintLast Go.Proofs.YtghfclgcgecgdaaW.PrintMore Go.Proofs.Ytghfclgcgecgdaa.X
set_option linter.unusedVariables false
instance : DecidableEq S58 := fun x y => decidable_of_iff (x.f0 = y.f0 ∧ x.f1 = y.f1 ∧ x.f2 = y.f2) (by cases x; cases y; simp)
theorem rdT_nat (l : List S58) (i : Nat) : rd_T58 l (i : Int) = l.getD i z58 := by simp [rd_T58]
theorem drop_rd (a b : List Int) {i : Nat} (h : i < a.length) (h' : i < b.length) : a.drop i = b.drop i ↔ rd a (i : Int) = rd b (i : Int) ∧ a.drop (i + 1) = b.drop (i + 1) := by
  rw [List.drop_eq_getElem_cons h, List.drop_eq_getElem_cons h', rd_nat, rd_nat, List.getD_eq_getElem?_getD, List.getD_eq_getElem?_getD, List.getElem?_eq_getElem h, List.getElem?_eq_getElem h', List.cons.injEq]
  rfl
theorem drop_rdT (a b : List S58) {i : Nat} (h : i < a.length) (h' : i < b.length) : a.drop i = b.drop i ↔ rd_T58 a (i : Int) = rd_T58 b (i : Int) ∧ a.drop (i + 1) = b.drop (i + 1) := by
  rw [List.drop_eq_getElem_cons h, List.drop_eq_getElem_cons h', rdT_nat, rdT_nat, List.getD_eq_getElem?_getD, List.getD_eq_getElem?_getD, List.getElem?_eq_getElem h, List.getElem?_eq_getElem h', List.cons.injEq]
  rfl
theorem ne_S (x y : S58) : ((!(x.f0 == y.f0)) || (!(x.f1 == y.f1) || !(x.f2 == y.f2))) = true ↔ ¬ x = y := by
  obtain ⟨a, b, c⟩ := x
  obtain ⟨d, e, f⟩ := y
  by_cases h0 : a = d <;> by_cases h1 : b = e <;> by_cases h2 : c = f <;> simp [h0, h1, h2]
theorem equal_ev (a b : List Int) (ha : a.length ≤ 9000000000000000000) : Ev (fun k => slices_Equal_int_int.f k a b) (decide (a = b)) := by
  refine Ev.congr (fun k => by rw [slices_Equal_int_int.f]) (Ev.ite (fun h => ?_) (fun h => Ev.fin ?_))
  · have hl : a.length = b.length := by omega
    have key : ∀ (m i : Nat), i + m = a.length → Ev (fun k => slices_Equal_int_int.l0 k a b (a.length : Int) (i : Int)) (decide (a.drop i = b.drop i)) := by
      intro m
      induction m with
      | zero =>
        intro i hi
        refine Ev.step (fun k => by rw [slices_Equal_int_int.l0]) (Ev.ncond (by omega) (Ev.fin ?_))
        rw [List.drop_eq_nil_of_le (by omega), List.drop_eq_nil_of_le (by omega)]; exact (decide_eq_true rfl).symm
      | succ m ih =>
        intro i hi
        refine Ev.step (fun k => by rw [slices_Equal_int_int.l0]) (Ev.cond (by omega) (Ev.cond (by omega) (Ev.cond (by omega) (Ev.cond (by omega) ?_))))
        refine Ev.ite (fun c => ?_) (fun c => Ev.fin ?_)
        · rw [w64 (by omega) (by omega)]
          have := ih (i + 1) (by omega)
          rwa [decide_eq_decide.2 ((drop_rd a b (by omega) (by omega)).trans (and_iff_right (id c)))]
        · exact (decide_eq_false (fun e => (id c) ((drop_rd a b (by omega) (by omega)).1 e).1)).symm
    exact key a.length 0 (by omega)
  · exact (decide_eq_false (fun e_ => h (by rw [e_]))).symm
theorem eq_S {x y : S58} (h : ¬ ((!(x.f0 == y.f0)) || (!(x.f1 == y.f1) || !(x.f2 == y.f2))) = true) : x = y := Classical.byContradiction fun d => h ((ne_S _ _).2 d)
theorem cubeq_ev (a b : List S58) (ha : a.length ≤ 9000000000000000000) : Ev (fun k => api_Cube.f k a b) (decide (a = b)) := by
  refine Ev.congr (fun k => by rw [api_Cube.f]) (Ev.ite (fun h => ?_) (fun h => Ev.fin ?_))
  · have hl : a.length = b.length := by omega
    have key : ∀ (m i : Nat), i + m = a.length → Ev (fun k => api_Cube.l0 k a b (a.length : Int) (i : Int)) (decide (a.drop i = b.drop i)) := by
      intro m
      induction m with
      | zero =>
        intro i hi
        refine Ev.step (fun k => by rw [api_Cube.l0]) (Ev.ncond (by omega) (Ev.fin ?_))
        rw [List.drop_eq_nil_of_le (by omega), List.drop_eq_nil_of_le (by omega)]; exact (decide_eq_true rfl).symm
      | succ m ih =>
        intro i hi
        refine Ev.step (fun k => by rw [api_Cube.l0]) (Ev.cond (by omega) (Ev.cond (by omega) (Ev.cond (by omega) (Ev.cond (by omega) ?_))))
        refine Ev.ite (fun c => Ev.fin ?_) (fun c => ?_)
        · exact (decide_eq_false (fun e => ((ne_S _ _).1 c) ((drop_rdT a b (by omega) (by omega)).1 e).1)).symm
        · rw [w64 (by omega) (by omega)]
          have := ih (i + 1) (by omega)
          rwa [decide_eq_decide.2 ((drop_rdT a b (by omega) (by omega)).trans (and_iff_right (eq_S c)))]
    exact key a.length 0 (by omega)
  · exact (decide_eq_false (fun e_ => h (by rw [e_]))).symm
theorem same_ev (a b : List Int) (ha : a.length ≤ 9000000000000000000) (hl : a.length = b.length) : Ev (fun k => tabardref11_same.f k a b) (decide (a = b)) := by
  refine Ev.congr (fun k => by rw [tabardref11_same.f]) ?_
  have key : ∀ (m i : Nat), i + m = a.length → Ev (fun k => tabardref11_same.l0 k a b (i : Int)) (decide (a.drop i = b.drop i)) := by
    intro m
    induction m with
    | zero =>
      intro i hi
      refine Ev.step (fun k => by rw [tabardref11_same.l0]) (Ev.ncond (by omega) (Ev.fin ?_))
      rw [List.drop_eq_nil_of_le (by omega), List.drop_eq_nil_of_le (by omega)]; exact (decide_eq_true rfl).symm
    | succ m ih =>
      intro i hi
      refine Ev.step (fun k => by rw [tabardref11_same.l0]) (Ev.cond (by omega) (Ev.cond (by omega) (Ev.cond (by omega) (Ev.ite (fun c => ?_) (fun c => Ev.fin ?_)))))
      · rw [w64 (by omega) (by omega)]
        have := ih (i + 1) (by omega)
        rwa [decide_eq_decide.2 ((drop_rd a b (by omega) (by omega)).trans (and_iff_right c))]
      · exact (decide_eq_false (fun e => c ((drop_rd a b (by omega) (by omega)).1 e).1)).symm
  exact key a.length 0 (by omega)
/-! ### The least and the greatest -/
theorem mn_le (s x y : Int) : s ≤ mn x y ↔ s ≤ x ∧ s ≤ y := by unfold mn; split <;> omega
theorem mx_lt (s x y : Int) : mx x y < s ↔ x < s ∧ y < s := by unfold mx; split <;> omega
theorem all_drop (p : Int → Prop) (a : List Int) {i : Nat} (h : i < a.length) : (∀ x ∈ a.drop i, p x) ↔ p (rd a (i : Int)) ∧ ∀ x ∈ a.drop (i + 1), p x := by
  rw [List.drop_eq_getElem_cons h, rd_nat, List.getD_eq_getElem?_getD, List.getElem?_eq_getElem h]
  exact List.forall_mem_cons
theorem min_ev (a : List Int) (h1 : 1 ≤ a.length) (ha : a.length ≤ 9000000000000000000) : ∃ r, Ev (fun k => slices_Min_int_int.f k a) r ∧ ∀ s, s ≤ r ↔ ∀ x ∈ a, s ≤ x := by
  have key : ∀ (m i : Nat) (c : Int), i + m = a.length → ∃ r, Ev (fun k => slices_Min_int_int.l0 k a c (i : Int)) r ∧ ∀ s, s ≤ r ↔ s ≤ c ∧ ∀ x ∈ a.drop i, s ≤ x := by
    intro m
    induction m with
    | zero =>
      intro i c hi
      refine ⟨c, Ev.step (fun k => by rw [slices_Min_int_int.l0]) (Ev.ncond (by omega) (Ev.fin rfl)), fun s => ?_⟩
      rw [List.drop_eq_nil_of_le (by omega)]; simp
    | succ m ih =>
      intro i c hi
      obtain ⟨r, hr, hs⟩ := ih (i + 1) (mn c (rd a (i : Int))) (by omega)
      refine ⟨r, Ev.step (fun k => by rw [slices_Min_int_int.l0]) (Ev.cond (by omega) (Ev.cond (by omega) ?_)), fun s => ?_⟩
      · rw [w64 (by omega) (by omega)]; exact hr
      · rw [hs, mn_le, all_drop (fun x => s ≤ x) a (i := i) (by omega), and_assoc]
  obtain ⟨r, hr, hs⟩ := key (a.length - 1) 1 (rd a 0) (by omega)
  have hr' : Ev (fun k => slices_Min_int_int.l0 k a (rd a 0) 1) r := hr
  refine ⟨r, Ev.congr (fun k => by rw [slices_Min_int_int.f]) (Ev.ncond (by omega) (Ev.cond (by omega) hr')), fun s => ?_⟩
  rw [hs, show (∀ x ∈ a, s ≤ x) ↔ (∀ x ∈ a.drop 0, s ≤ x) by rw [List.drop_zero], all_drop (fun x => s ≤ x) a (i := 0) (by omega)]
  exact Iff.rfl
theorem max_ev (a : List Int) (h1 : 1 ≤ a.length) (ha : a.length ≤ 9000000000000000000) : ∃ r, Ev (fun k => slices_Max_int_int.f k a) r ∧ ∀ s, r < s ↔ ∀ x ∈ a, x < s := by
  have key : ∀ (m i : Nat) (c : Int), i + m = a.length → ∃ r, Ev (fun k => slices_Max_int_int.l0 k a c (i : Int)) r ∧ ∀ s, r < s ↔ c < s ∧ ∀ x ∈ a.drop i, x < s := by
    intro m
    induction m with
    | zero =>
      intro i c hi
      refine ⟨c, Ev.step (fun k => by rw [slices_Max_int_int.l0]) (Ev.ncond (by omega) (Ev.fin rfl)), fun s => ?_⟩
      rw [List.drop_eq_nil_of_le (by omega)]; simp
    | succ m ih =>
      intro i c hi
      obtain ⟨r, hr, hs⟩ := ih (i + 1) (mx c (rd a (i : Int))) (by omega)
      refine ⟨r, Ev.step (fun k => by rw [slices_Max_int_int.l0]) (Ev.cond (by omega) (Ev.cond (by omega) ?_)), fun s => ?_⟩
      · rw [w64 (by omega) (by omega)]; exact hr
      · rw [hs, mx_lt, all_drop (fun x => x < s) a (i := i) (by omega), and_assoc]
  obtain ⟨r, hr, hs⟩ := key (a.length - 1) 1 (rd a 0) (by omega)
  have hr' : Ev (fun k => slices_Max_int_int.l0 k a (rd a 0) 1) r := hr
  refine ⟨r, Ev.congr (fun k => by rw [slices_Max_int_int.f]) (Ev.ncond (by omega) (Ev.cond (by omega) hr')), fun s => ?_⟩
  rw [hs, show (∀ x ∈ a, x < s) ↔ (∀ x ∈ a.drop 0, x < s) by rw [List.drop_zero], all_drop (fun x => x < s) a (i := 0) (by omega)]
  exact Iff.rfl
/-! ### Rows -/
/-- Is it a row over some tracks? -/
def IsRow (l : List Int) : Prop := (∃ j, j ≤ 6 ∧ l.length = 2 ^ j) ∧ ∀ x ∈ l, 0 ≤ x
theorem pow_bits : ∀ n : Fin 65, 1 ≤ n.1 → (Go.bits .and .i64 (n.1 : Int) ((n.1 : Int) - 1) = 0 ↔ ∃ j : Fin 7, n.1 = 2 ^ j.1) := by decide +kernel
theorem pow6 {n : Nat} (h : n ≤ 6) : 2 ^ n ≤ 64 := by
  have := Nat.pow_le_pow_right (show 0 < 2 by omega) h
  omega
theorem IsRow.len {l : List Int} (h : IsRow l) : 1 ≤ l.length ∧ l.length ≤ 64 := by
  obtain ⟨⟨j, hj, e⟩, _⟩ := h
  have := pow6 hj
  have := Nat.two_pow_pos j
  omega
noncomputable instance decRow (l : List Int) : Decidable (IsRow l) := Classical.propDecidable _
theorem right_ev (l : List Int) (hl : l.length ≤ 9000000000000000000) : Ev (fun k => row_right.f k l) (decide (IsRow l)) := by
  refine Ev.congr (fun k => by rw [row_right.f]) ?_
  by_cases c : 1 ≤ l.length ∧ l.length ≤ 64
  · refine Ev.cond (by omega) (Ev.cond (by omega) ?_)
    have q := pow_bits ⟨l.length, by omega⟩ c.1
    rw [w64 (by omega) (by omega)]
    refine Ev.ite (fun h => ?_) (fun h => Ev.fin ?_)
    · obtain ⟨j, hj⟩ := q.1 h
      obtain ⟨r, hr, hs⟩ := min_ev l c.1 hl
      refine Ev.bind hr (Ev.fin ?_)
      congr 1
      exact propext ⟨fun h0 => ⟨⟨j.1, by omega, hj⟩, (hs 0).1 h0⟩, fun h0 => (hs 0).2 h0.2⟩
    · exact (decide_eq_false (fun ⟨⟨j, hj, e⟩, _⟩ => h (q.2 ⟨⟨j, by omega⟩, e⟩))).symm
  · have no : ¬ IsRow l := fun h => c h.len
    rw [decide_eq_false no]
    refine Ev.ite (fun h => Ev.ncond (by omega) (Ev.fin rfl)) (fun _ => Ev.fin rfl)
theorem tr (k : Nat) (n x i x' i' : Int) (h : i ≤ 6) (hx : x ≠ n) (e1 : wrap64 (x * 2) = x') (e2 : wrap64 (i + 1) = i') : tabardref11_Tracks.l0 (k + 1) n x i = tabardref11_Tracks.l0 k n x' i' := by
  rw [tabardref11_Tracks.l0, if_pos h, if_neg hx, e1, e2]
theorem half_ev (l : List Int) (j : Nat) (hj : j < 6) (hl : l.length = 2 ^ (j + 1)) (d : Nat) (hd : d ≤ 1) :
    Ev (fun k => tabardref11_half.f k l (d : Int)) ((l.drop (d * 2 ^ j)).take (2 ^ j)) := by
  refine Ev.congr (fun k => by rw [tabardref11_half.f]) ?_
  have hp : 2 ^ (j + 1) = 2 ^ j + 2 ^ j := by rw [Nat.pow_succ]; omega
  have h6 := pow6 (show j ≤ 6 by omega)
  have hd2 : d * 2 ^ j + 2 ^ j ≤ l.length := by
    rcases Nat.le_one_iff_eq_zero_or_eq_one.1 hd with rfl | rfl <;> omega
  obtain ⟨n, hn⟩ : ∃ n, n = 2 ^ j := ⟨_, rfl⟩
  rw [show wrap64 ((l.length : Int) / 2) = (n : Int) by rw [w64 (by omega) (by omega)]; omega]
  rw [← hn] at hd2 hp h6 ⊢
  have hw : wrap64 ((d : Int) * (n : Int)) = ((d * n : Nat) : Int) := by
    rcases Nat.le_one_iff_eq_zero_or_eq_one.1 hd with rfl | rfl <;> rw [w64 (by omega) (by omega)] <;> simp
  have key : ∀ (m i : Nat) (acc : List Int), i + m = n → acc.length ≤ i → Ev (fun k => tabardref11_half.l0 k l (d : Int) acc (n : Int) (i : Int)) (acc ++ (l.drop (d * n + i)).take m) := by
    intro m
    induction m with
    | zero => intro i acc hi _; exact Ev.step (fun k => by rw [tabardref11_half.l0]) (Ev.ncond (by omega) (Ev.fin (by simp)))
    | succ m ih =>
      intro i acc hi ha
      refine Ev.step (fun k => by rw [tabardref11_half.l0]) (Ev.cond (by omega) ?_)
      rw [hw, w64 (x := ((d * n : Nat) : Int) + (i : Int)) (by omega) (by omega), w64 (x := (i : Int) + 1) (by omega) (by omega), show ((d * n : Nat) : Int) + (i : Int) = ((d * n + i : Nat) : Int) by omega]
      refine Ev.cond (by omega) (Ev.cond (by omega) (Ev.cond (by omega) ?_))
      have q := ih (i + 1) (acc ++ [rd l ((d * n + i : Nat) : Int)]) (by omega) (by simp; omega)
      rw [List.drop_eq_getElem_cons (show d * n + i < l.length by omega), List.take_succ_cons]
      rw [rd_nat, List.getD_eq_getElem?_getD, List.getElem?_eq_getElem (show d * n + i < l.length by omega), List.append_assoc] at q
      rw [rd_nat, List.getD_eq_getElem?_getD, List.getElem?_eq_getElem (show d * n + i < l.length by omega)]
      exact q
  have := key n 0 [] (by omega) (by simp)
  simpa using this
end Go.Proofs.Ytghfclgcgecgdaa.Pure
namespace Go.Proofs.Ytghfclgcgecgdaa.Pure
open Go.RowKit Go.Proofs.YtghfclgcgecgdaaW.PrintWords Go.Proofs.YtghfclgcgecgdaaW.PrintLast Go.Proofs.YtghfclgcgecgdaaW.PrintMore Go.Proofs.Ytghfclgcgecgdaa.X
set_option linter.unusedVariables false
def tree : Nat → List Int → Int → Int → List S58
  | 0, l, m, b => [⟨m, b, l.getD 0 0⟩]
  | j + 1, l, m, b =>
    if l.take (2 ^ j) = l.drop (2 ^ j) then tree j (l.take (2 ^ j)) m b
    else tree j (l.take (2 ^ j)) (m + ((2 ^ j : Nat) : Int)) b ++ tree j (l.drop (2 ^ j)) (m + ((2 ^ j : Nat) : Int)) (b + ((2 ^ j : Nat) : Int))
def shift (m b : Int) (x : S58) : S58 := ⟨m + x.f0, b + x.f1, x.f2⟩
/-- What is known of each cube. -/
structure Good (j : Nat) (x : S58) : Prop where
  b0 : 0 ≤ x.f1
  bm : x.f1 ≤ x.f0
  m2 : x.f0 < ((2 ^ j : Nat) : Int)
  lies : Go.bits .andNot .i64 x.f1 x.f0 = 0
def hit (a : Int) (x : S58) : Bool := Go.bits .and .i64 a x.f0 == x.f1

theorem clear_step : ∀ j : Fin 6, ∀ m : Fin 32, ∀ b : Fin 32, m.1 < 2 ^ j.1 → b.1 < 2 ^ j.1 → Go.bits .andNot .i64 (b.1 : Int) (m.1 : Int) = 0 →
    Go.bits .andNot .i64 (b.1 : Int) (((2 ^ j.1 : Nat) : Int) + (m.1 : Int)) = 0 ∧ Go.bits .andNot .i64 (((2 ^ j.1 : Nat) : Int) + (b.1 : Int)) (((2 ^ j.1 : Nat) : Int) + (m.1 : Int)) = 0 := by decide +kernel
theorem or_step : ∀ j : Fin 6, ∀ m : Fin 64, m.1 < 64 / 2 ^ (j.1 + 1) → Go.bits .or .i64 ((m.1 * 2 ^ (j.1 + 1) : Nat) : Int) ((2 ^ j.1 : Nat) : Int) = ((m.1 * 2 ^ (j.1 + 1) : Nat) : Int) + ((2 ^ j.1 : Nat) : Int) := by decide +kernel
theorem pow_le {j : Nat} (h : j < 6) : 2 ^ j ≤ 32 := by
  have : (2 : Nat) ^ j ≤ 2 ^ 5 := Nat.pow_le_pow_right (by decide) (by omega)
  exact this
theorem Good.nat {j : Nat} {x : S58} (g : Good j x) : ∃ m b : Nat, x.f0 = (m : Int) ∧ x.f1 = (b : Int) ∧ m < 2 ^ j ∧ b ≤ m := by
  obtain ⟨h0, h1, h2, _⟩ := g
  obtain ⟨m, hm⟩ := Int.eq_ofNat_of_zero_le (show 0 ≤ x.f0 by omega)
  obtain ⟨b, hb⟩ := Int.eq_ofNat_of_zero_le h0
  exact ⟨m, b, hm, hb, by omega, by omega⟩
theorem Good.up {j : Nat} {x : S58} (g : Good j x) : Good (j + 1) x := by
  obtain ⟨h0, h1, h2, h3⟩ := g
  exact ⟨h0, h1, by rw [Nat.pow_succ]; omega, h3⟩
theorem Good.low {j : Nat} {x : S58} (hj : j < 6) (g : Good j x) : Good (j + 1) (shift ((2 ^ j : Nat) : Int) 0 x) := by
  obtain ⟨m, b, e0, e1, hm, hb⟩ := g.nat
  have q := pow_le hj
  have := (clear_step ⟨j, hj⟩ ⟨m, by omega⟩ ⟨b, by omega⟩ hm (by show b < 2 ^ j; omega) (by have := g.lies; rw [e0, e1] at this; exact this)).1
  refine ⟨?_, ?_, ?_, ?_⟩
  · show 0 ≤ 0 + x.f1; omega
  · show 0 + x.f1 ≤ _ + x.f0; omega
  · show _ + x.f0 < _; rw [Nat.pow_succ]; omega
  · show Go.bits .andNot .i64 (0 + x.f1) (_ + x.f0) = 0
    rw [Int.zero_add, e0, e1]; exact this
theorem tree_len (j : Nat) : ∀ (l : List Int) (m b : Int), (tree j l m b).length ≤ 2 ^ j ∧ 1 ≤ (tree j l m b).length := by
  induction j with
  | zero => intro l m b; simp [tree]
  | succ j ih =>
    intro l m b
    simp only [tree]
    have h1 := ih (l.take (2 ^ j)) m b
    have h2 := ih (l.take (2 ^ j)) (m + ((2 ^ j : Nat) : Int)) b
    have h3 := ih (l.drop (2 ^ j)) (m + ((2 ^ j : Nat) : Int)) (b + ((2 ^ j : Nat) : Int))
    rw [Nat.pow_succ]
    split
    · omega
    · rw [List.length_append]; omega
/-! ### The program's tree and the reference's -/
theorem quot_half : ∀ j : Fin 6, 64 / 2 ^ j.1 = 2 * (64 / 2 ^ (j.1 + 1)) := by decide +kernel
theorem leaves_ev (j : Nat) : ∀ (l : List Int) (q p : Nat), j ≤ 6 → l.length = 2 ^ j → q < 64 / 2 ^ j → p < 64 / 2 ^ j →
    Ev (fun k => row_Pack.leaves k l ((q * 2 ^ j : Nat) : Int) ((p * 2 ^ j : Nat) : Int)) (tree j l ((q * 2 ^ j : Nat) : Int) ((p * 2 ^ j : Nat) : Int)) := by
  induction j with
  | zero =>
    intro l q p _ hl _ _
    have h1 : l.length = 1 := by simpa using hl
    refine Ev.step (fun k => by rw [row_Pack.leaves]) (Ev.cond (by omega) (Ev.cond (by omega) (Ev.fin ?_)))
    rw [tree]; congr 2
  | succ j ih =>
    intro l q p hj hl hq hp
    have hpw : 2 ^ (j + 1) = 2 ^ j + 2 ^ j := by rw [Nat.pow_succ]; omega
    have hpos := Nat.two_pow_pos j
    have hh : l.length / 2 = 2 ^ j := by omega
    have hT : (l.take (2 ^ j)).length = 2 ^ j := by rw [List.length_take]; omega
    have hD : (l.drop (2 ^ j)).length = 2 ^ j := by rw [List.length_drop]; omega
    have q2 := quot_half ⟨j, by omega⟩
    simp only [] at q2
    have e (x : Nat) : x * 2 ^ (j + 1) = (2 * x) * 2 ^ j := by rw [hpw, Nat.mul_add, ← Nat.add_mul, ← Nat.two_mul]
    have e1 (x : Nat) : ((x * 2 ^ (j + 1) : Nat) : Int) + ((2 ^ j : Nat) : Int) = (((2 * x + 1) * 2 ^ j : Nat) : Int) := by
      rw [e, Nat.add_mul, Nat.one_mul]; omega
    have o (x : Nat) (hx : x < 64 / 2 ^ (j + 1)) : Go.bits .or .i64 ((x * 2 ^ (j + 1) : Nat) : Int) ((2 ^ j : Nat) : Int) = ((x * 2 ^ (j + 1) : Nat) : Int) + ((2 ^ j : Nat) : Int) :=
      or_step ⟨j, by omega⟩ ⟨x, Nat.lt_of_lt_of_le hx (Nat.div_le_self _ _)⟩ hx
    refine Ev.step (fun k => by rw [row_Pack.leaves]) (Ev.ncond (by omega) ?_)
    rw [hh, o q hq, o p hp]
    refine Ev.bind (equal_ev _ _ (by rw [hT]; have := pow6 (show j ≤ 6 by omega); omega)) ?_
    rw [tree]
    by_cases c : l.take (2 ^ j) = l.drop (2 ^ j)
    · rw [decide_eq_true c, if_pos c]
      refine Ev.cond rfl ?_
      rw [e q, e p]
      exact ih _ (2 * q) (2 * p) (by omega) hT (by omega) (by omega)
    · rw [decide_eq_false c, if_neg c]
      refine Ev.ncond (by decide) ?_
      rw [e1 q, e1 p, e p]
      refine Ev.bind (ih _ (2 * q + 1) (2 * p) (by omega) hT (by omega) (by omega)) (Ev.bind (ih _ (2 * q + 1) (2 * p + 1) (by omega) hD (by omega) (by omega)) (Ev.fin rfl))
theorem cubes_tree (j : Nat) : ∀ (l : List Int) (m b : Int), j ≤ 6 → l.length = 2 ^ j → 0 ≤ m → m + ((2 ^ j : Nat) : Int) ≤ 64 → 0 ≤ b → b + ((2 ^ j : Nat) : Int) ≤ 64 →
    Ev (fun k => tabardref11_Cubes.f k l m b) (tree j l m b) := by
  induction j with
  | zero =>
    intro l m b _ hl _ _ _ _
    have h1 : l.length = 1 := by simpa using hl
    refine Ev.step (fun k => by rw [tabardref11_Cubes.f]) (Ev.cond (by omega) (Ev.cond (by omega) (Ev.fin ?_)))
    rw [tree]; congr 2
  | succ j ih =>
    intro l m b hj hl hm hm2 hb hb2
    have hpw : 2 ^ (j + 1) = 2 ^ j + 2 ^ j := by rw [Nat.pow_succ]; omega
    have hpos := Nat.two_pow_pos j
    have hT : (l.take (2 ^ j)).length = 2 ^ j := by rw [List.length_take]; omega
    have hD : (l.drop (2 ^ j)).length = 2 ^ j := by rw [List.length_drop]; omega
    have hD2 : (l.drop (2 ^ j)).take (2 ^ j) = l.drop (2 ^ j) := List.take_of_length_le (by omega)
    have b0 := half_ev l j (by omega) hl 0 (by omega)
    have b1 := half_ev l j (by omega) hl 1 (by omega)
    rw [Nat.zero_mul, List.drop_zero] at b0
    rw [Nat.one_mul, hD2] at b1
    have a0 : Ev (fun k => tabardref11_half.f k l 0) (l.take (2 ^ j)) := b0
    have a1 : Ev (fun k => tabardref11_half.f k l 1) (l.drop (2 ^ j)) := b1
    have h64 := pow6 (show j ≤ 6 by omega)
    refine Ev.step (fun k => by rw [tabardref11_Cubes.f]) (Ev.ncond (by omega) (Ev.bind a0 (Ev.bind a1 (Ev.bind (same_ev (l.take (2 ^ j)) (l.drop (2 ^ j)) (by omega) (by omega)) ?_))))
    rw [tree, hT]
    by_cases c : l.take (2 ^ j) = l.drop (2 ^ j)
    · rw [decide_eq_true c, if_pos c]
      exact Ev.cond rfl (Ev.bind (ih _ m b (by omega) hT hm (by omega) hb (by omega)) (Ev.fin rfl))
    · rw [decide_eq_false c, if_neg c]
      refine Ev.ncond (by decide) ?_
      rw [w64 (by omega) (by omega), w64 (by omega) (by omega)]
      have t1 := (tree_len j (l.take (2 ^ j)) (m + ((2 ^ j : Nat) : Int)) b).1
      have t2 := (tree_len j (l.drop (2 ^ j)) (m + ((2 ^ j : Nat) : Int)) (b + ((2 ^ j : Nat) : Int))).1
      refine Ev.bind (ih _ _ b (by omega) hT (by omega) (by omega) hb (by omega)) (Ev.bind (ih _ _ _ (by omega) hD (by omega) (by omega) (by omega) (by omega)) (Ev.cond (by omega) (Ev.fin rfl)))
theorem leaves0 {j : Nat} {l : List Int} (hj : j ≤ 6) (hl : l.length = 2 ^ j) : Ev (fun k => row_Pack.leaves k l 0 0) (tree j l 0 0) := by
  have := leaves_ev j l 0 0 hj hl (Nat.div_pos (pow6 hj) (Nat.two_pow_pos j)) (Nat.div_pos (pow6 hj) (Nat.two_pow_pos j))
  simpa using this
theorem cubes0 {j : Nat} {l : List Int} (hj : j ≤ 6) (hl : l.length = 2 ^ j) : Ev (fun k => tabardref11_Cubes.f k l 0 0) (tree j l 0 0) :=
  cubes_tree j l 0 0 hj hl (by omega) (by have := pow6 hj; omega) (by omega) (by have := pow6 hj; omega)
theorem pack_ok {j : Nat} {l : List Int} (hj : j ≤ 6) (hl : l.length = 2 ^ j) (h : ∀ x ∈ l, 0 ≤ x) : Ev (fun k => row_Pack.f k l) (tree j l 0 0, 0) := by
  refine Ev.congr (fun k => by rw [row_Pack.f]) (Ev.bind (right_ev l (by have := pow6 hj; omega)) ?_)
  rw [decide_eq_true (show IsRow l from ⟨⟨j, hj, hl⟩, h⟩)]
  exact Ev.cond rfl (Ev.bind (leaves0 hj hl) (Ev.fin rfl))
theorem pack_no {l : List Int} (hl : l.length ≤ 9000000000000000000) (h : ¬ IsRow l) : Ev (fun k => row_Pack.f k l) ([], 3) := by
  refine Ev.congr (fun k => by rw [row_Pack.f]) (Ev.bind (right_ev l hl) ?_)
  rw [decide_eq_false h]
  exact Ev.ncond (by decide) (Ev.fin rfl)
end Go.Proofs.Ytghfclgcgecgdaa.Pure
namespace Go.Proofs.Ytghfclgcgecgdaa.Pure
open Go.RowKit Go.Proofs.YtghfclgcgecgdaaW.PrintWords Go.Proofs.YtghfclgcgecgdaaW.PrintLast Go.Proofs.YtghfclgcgecgdaaW.PrintMore Go.Proofs.Ytghfclgcgecgdaa.X
set_option linter.unusedVariables false
def atR : List S58 → Int → Int × Bool
  | [], _ => (0, false)
  | x :: l, a => if hit a x = true then (x.f2, true) else atR l a
theorem hit_iff (a : Int) (x : S58) : hit a x = true ↔ Go.bits .and .i64 a x.f0 = x.f1 := by simp [hit]
theorem rdT_get (l : List S58) {i : Nat} (h : i < l.length) : rd_T58 l (i : Int) = l[i] := by
  rw [rdT_nat, List.getD_eq_getElem?_getD, List.getElem?_eq_getElem h]; rfl
theorem at_ev (l : List S58) (a : Int) (hl : l.length ≤ 9000000000000000000) : Ev (fun k => row_At.f k l a) (atR l a) := by
  refine Ev.congr (fun k => by rw [row_At.f]) ?_
  have key : ∀ (m i : Nat), i + m = l.length → Ev (fun k => row_At.l0 k a l (l.length : Int) (i : Int)) (atR (l.drop i) a) := by
    intro m
    induction m with
    | zero =>
      intro i hi
      rw [List.drop_eq_nil_of_le (by omega)]
      refine Ev.step (fun k => by rw [row_At.l0]) (Ev.ncond (by omega) ?_)
      exact Ev.fin rfl
    | succ m ih =>
      intro i hi
      rw [List.drop_eq_getElem_cons (by omega), atR]
      refine Ev.step (fun k => by rw [row_At.l0]) (Ev.cond (by omega) (Ev.cond (by omega) (Ev.cond (by omega) ?_)))
      rw [rdT_get l (by omega), w64 (by omega) (by omega)]
      by_cases c : hit a l[i] = true
      · rw [if_pos c]; exact Ev.cond ((hit_iff _ _).1 c) (Ev.fin rfl)
      · rw [if_neg c]; exact Ev.ncond (fun e => c ((hit_iff _ _).2 e)) (ih (i + 1) (by omega))
  exact key l.length 0 (by omega)
theorem rat_ev (l : List S58) (a : Int) (hl : l.length ≤ 9000000000000000000) : Ev (fun k => tabardref11_At.f k l a) (atR l a) := by
  refine Ev.congr (fun k => by rw [tabardref11_At.f]) ?_
  have key : ∀ (m i : Nat), i + m = l.length → Ev (fun k => tabardref11_At.l0 k l a (i : Int)) (atR (l.drop i) a) := by
    intro m
    induction m with
    | zero =>
      intro i hi
      rw [List.drop_eq_nil_of_le (by omega)]
      refine Ev.step (fun k => by rw [tabardref11_At.l0]) (Ev.ncond (by omega) ?_)
      exact Ev.fin rfl
    | succ m ih =>
      intro i hi
      rw [List.drop_eq_getElem_cons (by omega), atR]
      refine Ev.step (fun k => by rw [tabardref11_At.l0]) (Ev.cond (by omega) (Ev.cond (by omega) ?_))
      rw [rdT_get l (by omega), w64 (by omega) (by omega)]
      by_cases c : hit a l[i] = true
      · rw [if_pos c]; exact Ev.cond ((hit_iff _ _).1 c) (Ev.fin rfl)
      · rw [if_neg c]; exact Ev.ncond (fun e => c ((hit_iff _ _).2 e)) (ih (i + 1) (by omega))
  exact key l.length 0 (by omega)
/-- The row that a list of cubes tells. -/
def rowOf (l : List S58) (n : Nat) : List Int := (List.range n).map fun i => (atR l ((i : Nat) : Int)).1
theorem rowOf_len (l : List S58) (n : Nat) : (rowOf l n).length = n := by simp [rowOf]
theorem rowOf_get (l : List S58) (n : Nat) {i : Nat} (h : i < n) : (rowOf l n)[i]? = some (atR l (i : Int)).1 := by simp [rowOf, h]
structure UnpOk (l : List S58) (j : Nat) : Prop where
  six : j ≤ 6
  len : l.length ≤ 2 ^ j
  all : ∀ i : Nat, i < 2 ^ j → (atR l (i : Int)).2 = true
  pos : ∀ i : Nat, i < 2 ^ j → 0 ≤ (atR l (i : Int)).1
  tree : tree j (rowOf l (2 ^ j)) 0 0 = l
theorem UnpOk.mem {l : List S58} {j : Nat} (h : ∀ i : Nat, i < 2 ^ j → 0 ≤ (atR l (i : Int)).1) : ∀ x ∈ rowOf l (2 ^ j), 0 ≤ x := by
  intro x hx
  obtain ⟨i, hi, rfl⟩ := List.mem_map.1 hx
  exact h i (List.mem_range.1 hi)
theorem un_loop {l : List S58} {n : Nat} (hn : n ≤ 64) (hl : l.length ≤ 64) (h : ∀ i : Nat, i < n → (atR l (i : Int)).2 = true) {r : List Int × Int}
    (fin : Ev (fun k => (row_Pack.f k (rowOf l n)).bind fun bt => (if bt.2 = 0 then ((api_Cube.f k bt.1 l).bind fun t => (if t = true then (some (rowOf l n, 0)) else (some (([] : List Int), 3)))) else (some (([] : List Int), 3)))) r) :
    ∀ (m i : Nat) (y : List Int), i + m = n → y.length = n → (∀ z, z < i → y[z]? = (rowOf l n)[z]?) → Ev (fun k => row_Unpack.l0 k l y (n : Int) (i : Int)) r := by
  intro m
  induction m with
  | zero =>
    intro i y hi hy hz
    obtain rfl : y = rowOf l n := by
      apply List.ext_getElem?
      intro z
      by_cases c : z < n
      · exact hz z (by omega)
      · rw [List.getElem?_eq_none (by omega), List.getElem?_eq_none (by rw [rowOf_len]; omega)]
    exact Ev.step (fun k => by rw [row_Unpack.l0]) (Ev.ncond (by omega) fin)
  | succ m ih =>
    intro i y hi hy hz
    refine Ev.step (fun k => by rw [row_Unpack.l0]) (Ev.cond (by omega) (Ev.bind (at_ev l _ (by omega)) (Ev.cond (h i (by omega)) ?_)))
    refine Ev.cond (by omega) (Ev.cond (by omega) ?_)
    rw [w64 (by omega) (by omega), show ((i : Nat) : Int).toNat = i from rfl]
    refine ih (i + 1) _ (by omega) (by rw [List.length_set]; exact hy) (fun z hz2 => ?_)
    rw [List.getElem?_set]
    by_cases c : i = z
    · subst c
      rw [if_pos rfl, if_pos (by omega), rowOf_get l n (by omega)]
    · rw [if_neg c]; exact hz z (by omega)
theorem un_stop {l : List S58} {n q : Nat} (hn : n ≤ 64) (hl : l.length ≤ 64) (hq : q < n) (h : (atR l (q : Int)).2 = false) :
    ∀ (m i : Nat) (y : List Int), i + m = q → y.length = n → Ev (fun k => row_Unpack.l0 k l y (n : Int) (i : Int)) ([], 3) := by
  intro m
  induction m with
  | zero =>
    intro i y hi hy
    obtain rfl : i = q := by omega
    refine Ev.step (fun k => by rw [row_Unpack.l0]) (Ev.cond (by omega) (Ev.bind (at_ev l _ (by omega)) ?_))
    exact Ev.ncond (by rw [h]; decide) (Ev.fin rfl)
  | succ m ih =>
    intro i y hi hy
    refine Ev.step (fun k => by rw [row_Unpack.l0]) (Ev.cond (by omega) (Ev.bind (at_ev l _ (by omega)) (Ev.ite (fun _ => ?_) (fun _ => Ev.fin rfl))))
    refine Ev.cond (by omega) (Ev.cond (by omega) ?_)
    rw [w64 (by omega) (by omega)]
    exact ih (i + 1) _ (by omega) (by rw [List.length_set]; exact hy)
theorem shl_pow : ∀ j : Fin 7, shl .i64 1 (j.1 : Int) = ((2 ^ j.1 : Nat) : Int) := by decide +kernel
theorem un_enter {l : List S58} {j : Nat} {r : List Int × Int} (hj : j ≤ 6) (hl : l.length ≤ 2 ^ j) (h : ∀ y : List Int, y.length = 2 ^ j → Ev (fun k => row_Unpack.l0 k l y ((2 ^ j : Nat) : Int) 0) r) : Ev (fun k => row_Unpack.f k l (j : Int)) r := by
  have s := shl_pow ⟨j, by omega⟩
  have h6 := pow6 hj
  simp only [] at s
  refine Ev.congr (fun k => by rw [row_Unpack.f]) (Ev.ncond (by omega) ?_)
  rw [decide_eq_false (show ¬ ((j : Int) > 6) by omega)]
  refine Ev.step (fun k => by rw [row_Unpack.j0]) (Ev.ncond (by decide) (Ev.cond (by omega) ?_))
  rw [s]
  refine Ev.ncond (by omega) (Ev.cond (by omega) (Ev.cond (by rw [Int.toNat_natCast]; omega) ?_))
  refine Ev.ret rfl ?_
  have q := h (List.replicate ((2 ^ j : Nat) : Int).toNat 0) (by rw [List.length_replicate, Int.toNat_natCast])
  rw [List.length_replicate, Int.toNat_natCast]
  rw [Int.toNat_natCast] at q
  exact q
theorem unpack_ok {l : List S58} {j : Nat} (h : UnpOk l j) : Ev (fun k => row_Unpack.f k l (j : Int)) (rowOf l (2 ^ j), 0) := by
  have h6 := pow6 h.six
  have hl := h.len
  refine un_enter h.six h.len (fun y hy => ?_)
  refine un_loop h6 (by omega) h.all ?_ (2 ^ j) 0 y (by omega) hy (fun z hz => absurd hz (by omega))
  refine Ev.bind (pack_ok h.six (rowOf_len _ _) (UnpOk.mem h.pos)) (Ev.cond rfl ?_)
  rw [h.tree]
  refine Ev.bind (cubeq_ev l l (by omega)) ?_
  rw [decide_eq_true rfl]
  exact Ev.cond rfl (Ev.fin rfl)
theorem unpack_no {l : List S58} {j : Nat} (hj : j ≤ 6) (h : ¬ UnpOk l j) (hl9 : l.length ≤ 9000000000000000000) : Ev (fun k => row_Unpack.f k l (j : Int)) ([], 3) := by
  have h6 := pow6 hj
  by_cases hl : l.length ≤ 2 ^ j
  · by_cases ha : ∀ i : Nat, i < 2 ^ j → (atR l (i : Int)).2 = true
    · refine un_enter hj hl (fun y hy => ?_)
      refine un_loop h6 (by omega) ha ?_ (2 ^ j) 0 y (by omega) hy (fun z hz => absurd hz (by omega))
      by_cases hp : ∀ i : Nat, i < 2 ^ j → 0 ≤ (atR l (i : Int)).1
      · refine Ev.bind (pack_ok hj (rowOf_len _ _) (UnpOk.mem hp)) (Ev.cond rfl ?_)
        refine Ev.bind (cubeq_ev _ l (by show (tree j (rowOf l (2 ^ j)) 0 0).length ≤ _; have := (tree_len j (rowOf l (2 ^ j)) 0 0).1; omega)) ?_
        rw [decide_eq_false (fun e => h ⟨hj, hl, ha, hp, e⟩)]
        exact Ev.ncond (by decide) (Ev.fin rfl)
      · have no : ¬ IsRow (rowOf l (2 ^ j)) := fun hr => hp (fun i hi => hr.2 _ (List.mem_map.2 ⟨i, List.mem_range.2 hi, rfl⟩))
        exact Ev.bind (pack_no (by rw [rowOf_len]; omega) no) (Ev.ncond (by decide) (Ev.fin rfl))
    · obtain ⟨q, hq, hn⟩ : ∃ q, q < 2 ^ j ∧ (atR l ((q : Nat) : Int)).2 = false :=
        Classical.byContradiction fun c => ha fun i hi => Classical.byContradiction fun d => c ⟨i, hi, by simpa using d⟩
      exact un_enter hj hl (fun y hy => un_stop h6 (by omega) hq hn q 0 y (by omega) hy)
  · have s := shl_pow ⟨j, by omega⟩
    simp only [] at s
    refine Ev.congr (fun k => by rw [row_Unpack.f]) (Ev.ncond (by omega) ?_)
    rw [decide_eq_false (show ¬ ((j : Int) > 6) by omega)]
    refine Ev.step (fun k => by rw [row_Unpack.j0]) (Ev.ncond (by decide) (Ev.cond (by omega) ?_))
    rw [s]
    exact Ev.cond (by omega) (Ev.fin rfl)
end Go.Proofs.Ytghfclgcgecgdaa.Pure
namespace Go.Proofs.Ytghfclgcgecgdaa.Pure
open Go.RowKit Go.Proofs.YtghfclgcgecgdaaW.PrintWords Go.Proofs.YtghfclgcgecgdaaW.PrintLast Go.Proofs.YtghfclgcgecgdaaW.PrintMore Go.Proofs.Ytghfclgcgecgdaa.X
set_option linter.unusedVariables false
theorem ru_cmp {l c : List S58} {R : List Int} (hl : l.length ≤ 64) (hc : c.length = l.length) : ∀ (m i : Nat), i + m = l.length → Ev (fun k => tabardref11_Unpack.l2 k l R c (i : Int)) (if c.drop i = l.drop i then (R, 0) else ([], 3)) := by
  intro m
  induction m with
  | zero =>
    intro i hi
    rw [if_pos (by rw [List.drop_eq_nil_of_le (by omega), List.drop_eq_nil_of_le (by omega)])]
    exact Ev.step (fun k => by rw [tabardref11_Unpack.l2]) (Ev.ncond (by omega) (Ev.fin rfl))
  | succ m ih =>
    intro i hi
    refine Ev.step (fun k => by rw [tabardref11_Unpack.l2]) (Ev.cond (by omega) (Ev.cond (by omega) (Ev.cond (by omega) (Ev.ite (fun d => Ev.fin ?_) (fun d => ?_)))))
    · rw [if_neg (fun e => (ne_S _ _).1 d ((drop_rdT c l (by omega) (by omega)).1 e).1)]
    · rw [w64 (by omega) (by omega)]
      have q := ih (i + 1) (by omega)
      have e : c.drop i = l.drop i ↔ c.drop (i + 1) = l.drop (i + 1) := (drop_rdT c l (by omega) (by omega)).trans (and_iff_right (Classical.byContradiction fun z => d ((ne_S _ _).2 z)))
      by_cases g : c.drop (i + 1) = l.drop (i + 1)
      · rw [if_pos g] at q; rw [if_pos (e.2 g)]; exact q
      · rw [if_neg g] at q; rw [if_neg (fun z => g (e.1 z))]; exact q
theorem ru_loop {l : List S58} {n : Nat} (hn : n ≤ 64) (hl : l.length ≤ 64) (h : ∀ i : Nat, i < n → (atR l (i : Int)).2 = true) (hp : ∀ i : Nat, i < n → 0 ≤ (atR l (i : Int)).1) {r : List Int × Int}
    (fin : Ev (fun k => (tabardref11_Cubes.f k (rowOf l n) 0 0).bind fun t => (if (t.length : Int) = (l.length : Int) then (tabardref11_Unpack.l2 k l (rowOf l n) t 0) else (some (([] : List Int), 3)))) r) :
    ∀ (m i : Nat), i + m = n → Ev (fun k => tabardref11_Unpack.l1 k l (n : Int) (rowOf l i) (i : Int)) r := by
  intro m
  induction m with
  | zero =>
    intro i hi
    obtain rfl : i = n := by omega
    exact Ev.step (fun k => by rw [tabardref11_Unpack.l1]) (Ev.ncond (by omega) fin)
  | succ m ih =>
    intro i hi
    refine Ev.step (fun k => by rw [tabardref11_Unpack.l1]) (Ev.cond (by omega) (Ev.bind (rat_ev l _ (by omega)) (Ev.cond (h i (by omega)) ?_)))
    refine Ev.ncond (by have := hp i (by omega); omega) (Ev.cond (by rw [rowOf_len]; omega) ?_)
    rw [w64 (by omega) (by omega)]
    have q := ih (i + 1) (by omega)
    rw [show rowOf l (i + 1) = rowOf l i ++ [(atR l (i : Int)).1] by simp [rowOf, List.range_succ]] at q
    exact q
theorem ru_stop {l : List S58} {n q : Nat} (hn : n ≤ 64) (hl : l.length ≤ 64) (hq : q < n) (h : (atR l (q : Int)).2 = false ∨ (atR l (q : Int)).1 < 0) :
    ∀ (m i : Nat), i + m = q → Ev (fun k => tabardref11_Unpack.l1 k l (n : Int) (rowOf l i) (i : Int)) ([], 3) := by
  intro m
  induction m with
  | zero =>
    intro i hi
    obtain rfl : i = q := by omega
    refine Ev.step (fun k => by rw [tabardref11_Unpack.l1]) (Ev.cond (by omega) (Ev.bind (rat_ev l _ (by omega)) ?_))
    refine Ev.ite (fun a => ?_) (fun _ => Ev.fin rfl)
    refine Ev.cond ?_ (Ev.fin rfl)
    rcases h with h | h
    · rw [h] at a; cases a
    · exact h
  | succ m ih =>
    intro i hi
    refine Ev.step (fun k => by rw [tabardref11_Unpack.l1]) (Ev.cond (by omega) (Ev.bind (rat_ev l _ (by omega)) ?_))
    refine Ev.ite (fun a => ?_) (fun _ => Ev.fin rfl)
    refine Ev.ite (fun _ => Ev.fin rfl) (fun _ => Ev.cond (by rw [rowOf_len]; omega) ?_)
    rw [w64 (by omega) (by omega)]
    have q := ih (i + 1) (by omega)
    rw [show rowOf l (i + 1) = rowOf l i ++ [(atR l (i : Int)).1] by simp [rowOf, List.range_succ]] at q
    exact q
theorem ru_enter {l : List S58} {j : Nat} {r : List Int × Int} (hj : j ≤ 6) (h : Ev (fun k => if (l.length : Int) > ((2 ^ j : Nat) : Int) then (some (([] : List Int), 3)) else (tabardref11_Unpack.l1 k l ((2 ^ j : Nat) : Int) ([] : List Int) 0)) r) : Ev (fun k => tabardref11_Unpack.f k l (j : Int)) r := by
  refine Ev.congr (fun k => by rw [tabardref11_Unpack.f]) (Ev.ncond (by omega) ?_)
  rw [decide_eq_false (show ¬ ((j : Int) > 6) by omega)]
  refine Ev.step (fun k => by rw [tabardref11_Unpack.j0]) (Ev.ncond (by decide) ?_)
  have key : ∀ (m i : Nat), i + m = j → Ev (fun k => tabardref11_Unpack.l0 k l (j : Int) ((2 ^ i : Nat) : Int) (i : Int)) r := by
    intro m
    induction m with
    | zero =>
      intro i hi
      obtain rfl : i = j := by omega
      exact Ev.step (fun k => by rw [tabardref11_Unpack.l0]) (Ev.ncond (by omega) h)
    | succ m ih =>
      intro i hi
      have := pow6 (show i ≤ 6 by omega)
      refine Ev.step (fun k => by rw [tabardref11_Unpack.l0]) (Ev.cond (by omega) ?_)
      have q := ih (i + 1) (by omega)
      rw [Nat.pow_succ] at q
      obtain ⟨p, hp⟩ : ∃ p, p = 2 ^ i := ⟨_, rfl⟩
      rw [← hp] at q this ⊢
      rw [w64 (x := (i : Int) + 1) (by omega) (by omega), w64 (x := (p : Int) * 2) (by omega) (by omega), show (p : Int) * 2 = ((p * 2 : Nat) : Int) by omega]
      exact q
  exact key j 0 (by omega)
theorem runpack_ok {l : List S58} {j : Nat} (h : UnpOk l j) : Ev (fun k => tabardref11_Unpack.f k l (j : Int)) (rowOf l (2 ^ j), 0) := by
  have h6 := pow6 h.six
  have hl := h.len
  refine ru_enter h.six (Ev.ncond (by omega) ?_)
  refine ru_loop h6 (by omega) h.all h.pos ?_ (2 ^ j) 0 (by omega)
  refine Ev.bind (cubes0 h.six (rowOf_len _ _)) ?_
  rw [h.tree]
  refine Ev.cond rfl ?_
  have q := ru_cmp (l := l) (c := l) (R := rowOf l (2 ^ j)) (by omega) rfl l.length 0 (by omega)
  rw [if_pos rfl] at q
  exact q
theorem runpack_no {l : List S58} {j : Nat} (hj : j ≤ 6) (h : ¬ UnpOk l j) : Ev (fun k => tabardref11_Unpack.f k l (j : Int)) ([], 3) := by
  have h6 := pow6 hj
  refine ru_enter hj ?_
  by_cases hl : l.length ≤ 2 ^ j
  · refine Ev.ncond (by omega) ?_
    by_cases ha : ∀ i : Nat, i < 2 ^ j → (atR l (i : Int)).2 = true ∧ 0 ≤ (atR l (i : Int)).1
    · refine ru_loop h6 (by omega) (fun i hi => (ha i hi).1) (fun i hi => (ha i hi).2) ?_ (2 ^ j) 0 (by omega)
      refine Ev.bind (cubes0 hj (rowOf_len _ _)) ?_
      refine Ev.ite (fun e => ?_) (fun _ => Ev.fin rfl)
      have q := ru_cmp (l := l) (c := tree j (rowOf l (2 ^ j)) 0 0) (R := rowOf l (2 ^ j)) (by omega) (by omega) l.length 0 (by omega)
      rw [if_neg (fun e => h ⟨hj, hl, fun i hi => (ha i hi).1, fun i hi => (ha i hi).2, by simpa using e⟩)] at q
      exact q
    · obtain ⟨q, hq, hn⟩ : ∃ q : Nat, q < 2 ^ j ∧ ((atR l ((q : Nat) : Int)).2 = false ∨ (atR l ((q : Nat) : Int)).1 < 0) :=
        Classical.byContradiction fun c => ha fun i hi => Classical.byContradiction fun d => c ⟨i, hi, by
          by_cases e : (atR l (i : Int)).2 = true
          · exact Or.inr (by have : ¬ 0 ≤ (atR l (i : Int)).1 := fun z => d ⟨e, z⟩; omega)
          · exact Or.inl (by simpa using e)⟩
      exact ru_stop h6 (by omega) hq hn q 0 (by omega)
  · exact Ev.cond (by omega) (Ev.fin rfl)
/-! ### Right -/
theorem rright_bad {l : List S58} {t s : Int} {e : Int} (he : e ≠ 0) (h : Ev (fun k => tabardref11_Unpack.f k l t) ([], e)) : Ev (fun k => tabardref11_Right.f k l t s) false :=
  Ev.congr (fun k => by rw [tabardref11_Right.f]) (Ev.bind h (Ev.ncond he (Ev.fin rfl)))
theorem rright_good {l : List S58} {t s : Int} {R : List Int} (h2 : R.length ≤ 64) (h : Ev (fun k => tabardref11_Unpack.f k l t) (R, 0)) : Ev (fun k => tabardref11_Right.f k l t s) (decide (∀ x ∈ R, x < s)) := by
  refine Ev.congr (fun k => by rw [tabardref11_Right.f]) (Ev.bind h (Ev.cond rfl ?_))
  have key : ∀ (m i : Nat), i + m = R.length → Ev (fun k => tabardref11_Right.l0 k s R (i : Int)) (decide (∀ x ∈ R.drop i, x < s)) := by
    intro m
    induction m with
    | zero =>
      intro i hi
      rw [decide_eq_true (show ∀ x ∈ R.drop i, x < s by rw [List.drop_eq_nil_of_le (by omega)]; simp)]
      exact Ev.step (fun k => by rw [tabardref11_Right.l0]) (Ev.ncond (by omega) (Ev.fin rfl))
    | succ m ih =>
      intro i hi
      have q := all_drop (fun x => x < s) R (i := i) (by omega)
      refine Ev.step (fun k => by rw [tabardref11_Right.l0]) (Ev.cond (by omega) (Ev.cond (by omega) (Ev.ite (fun d => Ev.fin ?_) (fun d => ?_))))
      · exact (decide_eq_false (fun e => by have := (q.1 e).1; omega)).symm
      · rw [w64 (by omega) (by omega), decide_eq_decide.2 (q.trans (and_iff_right (by omega)))]
        exact ih (i + 1) (by omega)
  exact key R.length 0 (by omega)
end Go.Proofs.Ytghfclgcgecgdaa.Pure
namespace Go.Proofs.Ytghfclgcgecgdaa.Pure
open Go.RowKit Go.Proofs.YtghfclgcgecgdaaW.PrintWords Go.Proofs.YtghfclgcgecgdaaW.PrintLast Go.Proofs.YtghfclgcgecgdaaW.PrintMore Go.Proofs.Ytghfclgcgecgdaa.X
set_option linter.unusedVariables false
theorem rdOf_get {α : Type} (d : α) (l : List α) {i : Nat} (h : i < l.length) : rdOf d l (i : Int) = l[i] := by
  simp [rdOf, List.getD_eq_getElem?_getD, h]
theorem rd_get (l : List Int) {i : Nat} (h : i < l.length) : rd l (i : Int) = l[i] := by
  rw [rd_nat, List.getD_eq_getElem?_getD, List.getElem?_eq_getElem h]; rfl
theorem rdL_get (l : List (List Int)) {i : Nat} (h : i < l.length) : rd_L2 l (i : Int) = l[i] := by
  simp [rd_L2, List.getD_eq_getElem?_getD, h]
theorem drop_rdOf {α : Type} (d : α) (a b : List α) {i : Nat} (h : i < a.length) (h' : i < b.length) : a.drop i = b.drop i ↔ rdOf d a (i : Int) = rdOf d b (i : Int) ∧ a.drop (i + 1) = b.drop (i + 1) := by
  rw [List.drop_eq_getElem_cons h, List.drop_eq_getElem_cons h', rdOf_get d a h, rdOf_get d b h', List.cons.injEq]
theorem drop_rdS (a b : List ByteArray) {i : Nat} (h : i < a.length) (h' : i < b.length) : a.drop i = b.drop i ↔ rdOf ByteArray.empty a (i : Int) = rdOf ByteArray.empty b (i : Int) ∧ a.drop (i + 1) = b.drop (i + 1) := drop_rdOf _ a b h h'
theorem drop_rdB (a b : List Bool) {i : Nat} (h : i < a.length) (h' : i < b.length) : a.drop i = b.drop i ↔ rdOf false a (i : Int) = rdOf false b (i : Int) ∧ a.drop (i + 1) = b.drop (i + 1) := drop_rdOf _ a b h h'
theorem eq_B {x y : ByteArray} (h : x.toList = y.toList) : x = y := by
  rw [ByteArray.toList_eq, ByteArray.toList_eq] at h
  exact Go.WideShapes.bytes_inj h
theorem ne_B {x y : ByteArray} (h : ¬ x.toList = y.toList) (e : x = y) : False := h (by rw [e])
theorem eq_F {x y : Bool} (h : ¬ (x != y) = true) : x = y := by simpa using h
theorem ne_F {x y : Bool} (h : (x != y) = true) (e : x = y) : False := by subst e; simp at h
theorem texts_ev (a b : List ByteArray) (ha : a.length ≤ 9000000000000000000) : Ev (fun k => tabardref12_texts.f k a b) (decide (a = b)) := by
  refine Ev.congr (fun k => by rw [tabardref12_texts.f]) (Ev.ite (fun h => ?_) (fun h => Ev.fin ?_))
  · have hl : a.length = b.length := by omega
    have key : ∀ (m i : Nat), i + m = a.length → Ev (fun k => tabardref12_texts.l0 k a b (i : Int)) (decide (a.drop i = b.drop i)) := by
      intro m
      induction m with
      | zero =>
        intro i hi
        refine Ev.step (fun k => by rw [tabardref12_texts.l0]) (Ev.ncond (by omega) (Ev.fin ?_))
        rw [List.drop_eq_nil_of_le (by omega), List.drop_eq_nil_of_le (by omega)]; exact (decide_eq_true rfl).symm
      | succ m ih =>
        intro i hi
        refine Ev.step (fun k => by rw [tabardref12_texts.l0]) (Ev.cond (by omega) (Ev.cond (by omega) (Ev.cond (by omega) ?_)))
        refine Ev.ite (fun c => ?_) (fun c => Ev.fin ?_)
        · rw [w64 (by omega) (by omega)]
          have := ih (i + 1) (by omega)
          rwa [decide_eq_decide.2 ((drop_rdS a b (by omega) (by omega)).trans (and_iff_right (eq_B c)))]
        · exact (decide_eq_false (fun e => (ne_B c) ((drop_rdS a b (by omega) (by omega)).1 e).1)).symm
    exact key a.length 0 (by omega)
  · exact (decide_eq_false (fun e_ => h (by rw [e_]))).symm
theorem flags_ev (a b : List Bool) (ha : a.length ≤ 9000000000000000000) : Ev (fun k => tabardref12_flags.f k a b) (decide (a = b)) := by
  refine Ev.congr (fun k => by rw [tabardref12_flags.f]) (Ev.ite (fun h => ?_) (fun h => Ev.fin ?_))
  · have hl : a.length = b.length := by omega
    have key : ∀ (m i : Nat), i + m = a.length → Ev (fun k => tabardref12_flags.l0 k a b (i : Int)) (decide (a.drop i = b.drop i)) := by
      intro m
      induction m with
      | zero =>
        intro i hi
        refine Ev.step (fun k => by rw [tabardref12_flags.l0]) (Ev.ncond (by omega) (Ev.fin ?_))
        rw [List.drop_eq_nil_of_le (by omega), List.drop_eq_nil_of_le (by omega)]; exact (decide_eq_true rfl).symm
      | succ m ih =>
        intro i hi
        refine Ev.step (fun k => by rw [tabardref12_flags.l0]) (Ev.cond (by omega) (Ev.cond (by omega) (Ev.cond (by omega) ?_)))
        refine Ev.ite (fun c => Ev.fin ?_) (fun c => ?_)
        · exact (decide_eq_false (fun e => (ne_F c) ((drop_rdB a b (by omega) (by omega)).1 e).1)).symm
        · rw [w64 (by omega) (by omega)]
          have := ih (i + 1) (by omega)
          rwa [decide_eq_decide.2 ((drop_rdB a b (by omega) (by omega)).trans (and_iff_right (eq_F c)))]
    exact key a.length 0 (by omega)
  · exact (decide_eq_false (fun e_ => h (by rw [e_]))).symm
theorem rints_ev (a b : List Int) (ha : a.length ≤ 9000000000000000000) : Ev (fun k => tabardref12_ints.f k a b) (decide (a = b)) := by
  refine Ev.congr (fun k => by rw [tabardref12_ints.f]) (Ev.ite (fun h => ?_) (fun h => Ev.fin ?_))
  · have hl : a.length = b.length := by omega
    have key : ∀ (m i : Nat), i + m = a.length → Ev (fun k => tabardref12_ints.l0 k a b (i : Int)) (decide (a.drop i = b.drop i)) := by
      intro m
      induction m with
      | zero =>
        intro i hi
        refine Ev.step (fun k => by rw [tabardref12_ints.l0]) (Ev.ncond (by omega) (Ev.fin ?_))
        rw [List.drop_eq_nil_of_le (by omega), List.drop_eq_nil_of_le (by omega)]; exact (decide_eq_true rfl).symm
      | succ m ih =>
        intro i hi
        refine Ev.step (fun k => by rw [tabardref12_ints.l0]) (Ev.cond (by omega) (Ev.cond (by omega) (Ev.cond (by omega) ?_)))
        refine Ev.ite (fun c => ?_) (fun c => Ev.fin ?_)
        · rw [w64 (by omega) (by omega)]
          have := ih (i + 1) (by omega)
          rwa [decide_eq_decide.2 ((drop_rd a b (by omega) (by omega)).trans (and_iff_right (id c)))]
        · exact (decide_eq_false (fun e => (id c) ((drop_rd a b (by omega) (by omega)).1 e).1)).symm
    exact key a.length 0 (by omega)
  · exact (decide_eq_false (fun e_ => h (by rw [e_]))).symm
theorem fixed_ev : Ev (fun k => tabardlaw12_fixed.f k) true := Ev.of tabardlaw12_fixed.mono (show tabardlaw12_fixed.f 14 = some true by decide +kernel)
end Go.Proofs.Ytghfclgcgecgdaa.Pure
namespace Go.Proofs.Ytghfclgcgecgdaa.Pure
open Go.RowKit Go.Proofs.YtghfclgcgecgdaaW.PrintWords Go.Proofs.YtghfclgcgecgdaaW.PrintLast Go.Proofs.YtghfclgcgecgdaaW.PrintMore Go.Proofs.Ytghfclgcgecgdaa.X
set_option linter.unusedVariables false
theorem and4 {a b c d : Prop} [Decidable a] [Decidable b] [Decidable c] [Decidable d] : decide (a ∧ b ∧ c ∧ d) = (decide a && (decide b && (decide c && decide d))) := by
  by_cases a <;> by_cases b <;> by_cases c <;> by_cases d <;> simp [*]
section
variable {t0 u0 : List ByteArray} {t1 u1 : List Bool} {t2 u2 : List Int} {t3 u3 : List S58}
theorem rsame_loop {v0 w0 : List ByteArray} {v1 w1 : List Bool} {v2 w2 : List Int} (h3 : t3.length ≤ 9000000000000000000) (hl : t3.length = u3.length) : Ev (fun k => tabardref12_Same.l0 k 0 v0 v1 v2 t3 w0 w1 w2 u3) (decide (t3 = u3)) := by
  have key : ∀ (m i : Nat), i + m = t3.length → Ev (fun k => tabardref12_Same.l0 k (i : Int) v0 v1 v2 t3 w0 w1 w2 u3) (decide (t3.drop i = u3.drop i)) := by
    intro m
    induction m with
    | zero =>
      intro i hi
      refine Ev.step (fun k => by rw [tabardref12_Same.l0]) (Ev.ncond (by omega) (Ev.fin ?_))
      rw [List.drop_eq_nil_of_le (by omega), List.drop_eq_nil_of_le (by omega)]; exact (decide_eq_true rfl).symm
    | succ m ih =>
      intro i hi
      refine Ev.step (fun k => by rw [tabardref12_Same.l0]) (Ev.cond (by omega) (Ev.cond (by omega) (Ev.cond (by omega) ?_)))
      refine Ev.ite (fun c => Ev.fin ?_) (fun c => ?_)
      · exact (decide_eq_false (fun e => ((ne_S _ _).1 c) ((drop_rdT t3 u3 (by omega) (by omega)).1 e).1)).symm
      · rw [w64 (by omega) (by omega)]
        have := ih (i + 1) (by omega)
        rwa [decide_eq_decide.2 ((drop_rdT t3 u3 (by omega) (by omega)).trans (and_iff_right (eq_S c)))]
  exact key t3.length 0 (by omega)
theorem rsame_tab (h0 : t0.length ≤ 9000000000000000000) (h1 : t1.length ≤ 9000000000000000000) (h2 : t2.length ≤ 9000000000000000000) (h3 : t3.length ≤ 9000000000000000000) :
    Ev (fun k => tabardref12_Same.f k t0 t1 t2 t3 u0 u1 u2 u3) (decide (t0 = u0 ∧ t1 = u1 ∧ t2 = u2 ∧ t3 = u3)) := by
  rw [and4]
  have no : ∀ {x : Bool}, x = false → Ev (fun k => tabardref12_Same.j0 k true t0 t1 t2 t3 u0 u1 u2 u3) x := fun e => e ▸ Ev.step (fun k => by rw [tabardref12_Same.j0]) (Ev.cond rfl (Ev.fin rfl))
  refine Ev.congr (fun k => by rw [tabardref12_Same.f]) (Ev.bind (texts_ev t0 u0 h0) ?_)
  by_cases c0 : t0 = u0
  · rw [decide_eq_true c0]
    refine Ev.cond rfl (Ev.bind (flags_ev t1 u1 h1) ?_)
    by_cases c1 : t1 = u1
    · rw [decide_eq_true c1]
      refine Ev.cond rfl (Ev.bind (rints_ev t2 u2 h2) ?_)
      by_cases c2 : t2 = u2
      · rw [decide_eq_true c2]
        refine Ev.cond rfl ?_
        by_cases c3 : t3.length = u3.length
        · rw [show ((t3.length : Int) != (u3.length : Int)) = false by simp [c3]]
          exact Ev.step (fun k => by rw [tabardref12_Same.j0]) (Ev.ncond (by decide) (rsame_loop h3 c3))
        · rw [show ((t3.length : Int) != (u3.length : Int)) = true from bne_iff_ne.2 (by omega), decide_eq_false (fun e => c3 (by rw [e]))]
          exact no rfl
      · rw [decide_eq_false c2]; exact Ev.ncond (by decide) (no rfl)
    · rw [decide_eq_false c1]; exact Ev.ncond (by decide) (no rfl)
  · rw [decide_eq_false c0]; exact Ev.ncond (by decide) (no rfl)
theorem copy_tab (h0 : t0.length * 16 ≤ 140737488351232) (h1 : t1.length * 1 ≤ 140737488351232) (h2 : t2.length * 8 ≤ 140737488351232) (h3 : t3.length * 24 ≤ 140737488351232) :
    tabardref12_Copy.f t0 t1 t2 t3 = some (t0, t1, t2, t3) := by
  unfold tabardref12_Copy.f
  simp only [Option.bind_some, List.nil_append, List.length_nil]
  rw [if_pos (by omega), if_pos (by omega), if_pos (by omega), if_pos (by omega)]
end
end Go.Proofs.Ytghfclgcgecgdaa.Pure
namespace Go.Proofs.Ytghfclgcgecgdaa.Pure
open Go.RowKit Go.Proofs.YtghfclgcgecgdaaW.PrintWords Go.Proofs.YtghfclgcgecgdaaW.PrintLast Go.Proofs.YtghfclgcgecgdaaW.PrintMore Go.Proofs.Ytghfclgcgecgdaa.X
set_option linter.unusedVariables false
/-! ### Names -/
def startB (r : Int) : Bool := decide ((65 ≤ r ∧ r ≤ 90) ∨ (97 ≤ r ∧ r ≤ 122) ∨ r = 95 ∨ (913 ≤ r ∧ r ≤ 929) ∨ (931 ≤ r ∧ r ≤ 937) ∨ (945 ≤ r ∧ r ≤ 969))
def restB (r : Int) : Bool := startB r || decide ((48 ≤ r ∧ r ≤ 57) ∨ r = 8242 ∨ (8320 ≤ r ∧ r ≤ 8329))
theorem start_j3 (r : Int) (b : Bool) : Ev (fun k => glyph_Start.j3 k r b) (b || decide (945 ≤ r ∧ r ≤ 969)) := by
  cases b
  · refine Ev.step (fun k => by rw [glyph_Start.j3]) (Ev.ncond (by decide) (Ev.ite (fun h => Ev.ite (fun g => Ev.fin ?_) (fun g => Ev.fin ?_)) (fun h => Ev.fin ?_))) <;> simp <;> omega
  · rw [Bool.true_or]; exact Ev.step (fun k => by rw [glyph_Start.j3]) (Ev.cond rfl (Ev.fin rfl))
theorem start_j2 (r : Int) (b : Bool) : Ev (fun k => glyph_Start.j2 k r b) (b || decide ((931 ≤ r ∧ r ≤ 937) ∨ (945 ≤ r ∧ r ≤ 969))) := by
  cases b
  · refine Ev.step (fun k => by rw [glyph_Start.j2]) (Ev.ncond (by decide) (Ev.ite (fun h => ?_) (fun h => ?_)))
    · have := start_j3 r (decide (r ≤ 937))
      rwa [show (decide (r ≤ 937) || decide (945 ≤ r ∧ r ≤ 969)) = (false || decide ((931 ≤ r ∧ r ≤ 937) ∨ (945 ≤ r ∧ r ≤ 969))) by rw [Bool.eq_iff_iff]; simp; omega] at this
    · have := start_j3 r false
      rwa [show (false || decide (945 ≤ r ∧ r ≤ 969)) = (false || decide ((931 ≤ r ∧ r ≤ 937) ∨ (945 ≤ r ∧ r ≤ 969))) by rw [Bool.eq_iff_iff]; simp; omega] at this
  · rw [Bool.true_or]; exact Ev.step (fun k => by rw [glyph_Start.j2]) (Ev.cond rfl (Ev.fin rfl))
theorem start_j1 (r : Int) (b : Bool) : Ev (fun k => glyph_Start.j1 k r b) (b || decide ((913 ≤ r ∧ r ≤ 929) ∨ (931 ≤ r ∧ r ≤ 937) ∨ (945 ≤ r ∧ r ≤ 969))) := by
  cases b
  · refine Ev.step (fun k => by rw [glyph_Start.j1]) (Ev.ncond (by decide) (Ev.ite (fun h => ?_) (fun h => ?_)))
    · have := start_j2 r (decide (r ≤ 929))
      rwa [show (decide (r ≤ 929) || decide ((931 ≤ r ∧ r ≤ 937) ∨ (945 ≤ r ∧ r ≤ 969))) = (false || decide ((913 ≤ r ∧ r ≤ 929) ∨ (931 ≤ r ∧ r ≤ 937) ∨ (945 ≤ r ∧ r ≤ 969))) by rw [Bool.eq_iff_iff]; simp; omega] at this
    · have := start_j2 r false
      rwa [show (false || decide ((931 ≤ r ∧ r ≤ 937) ∨ (945 ≤ r ∧ r ≤ 969))) = (false || decide ((913 ≤ r ∧ r ≤ 929) ∨ (931 ≤ r ∧ r ≤ 937) ∨ (945 ≤ r ∧ r ≤ 969))) by rw [Bool.eq_iff_iff]; simp; omega] at this
  · rw [Bool.true_or]; exact Ev.step (fun k => by rw [glyph_Start.j1]) (Ev.cond rfl (Ev.fin rfl))
theorem start_j0 (r : Int) (b : Bool) : Ev (fun k => glyph_Start.j0 k r b) (b || decide ((97 ≤ r ∧ r ≤ 122) ∨ r = 95 ∨ (913 ≤ r ∧ r ≤ 929) ∨ (931 ≤ r ∧ r ≤ 937) ∨ (945 ≤ r ∧ r ≤ 969))) := by
  cases b
  · refine Ev.step (fun k => by rw [glyph_Start.j0]) (Ev.ncond (by decide) (Ev.ite (fun h => Ev.ite (fun g => ?_) (fun g => ?_)) (fun h => ?_)))
    · have := start_j1 r (decide (r ≤ 122))
      rwa [show (decide (r ≤ 122) || decide ((913 ≤ r ∧ r ≤ 929) ∨ (931 ≤ r ∧ r ≤ 937) ∨ (945 ≤ r ∧ r ≤ 969))) = (false || decide ((97 ≤ r ∧ r ≤ 122) ∨ r = 95 ∨ (913 ≤ r ∧ r ≤ 929) ∨ (931 ≤ r ∧ r ≤ 937) ∨ (945 ≤ r ∧ r ≤ 969))) by rw [Bool.eq_iff_iff]; simp; omega] at this
    · have := start_j1 r (r == 95)
      rwa [show ((r == 95) || decide ((913 ≤ r ∧ r ≤ 929) ∨ (931 ≤ r ∧ r ≤ 937) ∨ (945 ≤ r ∧ r ≤ 969))) = (false || decide ((97 ≤ r ∧ r ≤ 122) ∨ r = 95 ∨ (913 ≤ r ∧ r ≤ 929) ∨ (931 ≤ r ∧ r ≤ 937) ∨ (945 ≤ r ∧ r ≤ 969))) by rw [Bool.eq_iff_iff]; simp; omega] at this
    · have := start_j1 r (r == 95)
      rwa [show ((r == 95) || decide ((913 ≤ r ∧ r ≤ 929) ∨ (931 ≤ r ∧ r ≤ 937) ∨ (945 ≤ r ∧ r ≤ 969))) = (false || decide ((97 ≤ r ∧ r ≤ 122) ∨ r = 95 ∨ (913 ≤ r ∧ r ≤ 929) ∨ (931 ≤ r ∧ r ≤ 937) ∨ (945 ≤ r ∧ r ≤ 969))) by rw [Bool.eq_iff_iff]; simp; omega] at this
  · have := start_j1 r true
    exact Ev.step (fun k => by rw [glyph_Start.j0]) (Ev.cond rfl this)
theorem start_ev (r : Int) : Ev (fun k => glyph_Start.f k r) (startB r) := by
  refine Ev.congr (fun k => by rw [glyph_Start.f]) (Ev.ite (fun h => ?_) (fun h => ?_))
  · have := start_j0 r (decide (r ≤ 90))
    rwa [show (decide (r ≤ 90) || decide ((97 ≤ r ∧ r ≤ 122) ∨ r = 95 ∨ (913 ≤ r ∧ r ≤ 929) ∨ (931 ≤ r ∧ r ≤ 937) ∨ (945 ≤ r ∧ r ≤ 969))) = startB r by rw [startB, Bool.eq_iff_iff]; simp; omega] at this
  · have := start_j0 r false
    rwa [show (false || decide ((97 ≤ r ∧ r ≤ 122) ∨ r = 95 ∨ (913 ≤ r ∧ r ≤ 929) ∨ (931 ≤ r ∧ r ≤ 937) ∨ (945 ≤ r ∧ r ≤ 969))) = startB r by rw [startB, Bool.eq_iff_iff]; simp; omega] at this
theorem rest_ev (r : Int) : Ev (fun k => glyph_Rest.f k r) (restB r) := by
  refine Ev.congr (fun k => by rw [glyph_Rest.f]) (Ev.bind (start_ev r) ?_)
  rw [restB]
  cases startB r
  · refine Ev.ncond (by decide) (Ev.ite (fun h => Ev.ite (fun g => Ev.fin ?_) (fun g => Ev.ite (fun z => Ev.fin ?_) (fun z => Ev.ite (fun y => Ev.fin ?_) (fun y => Ev.fin ?_)))) (fun h => Ev.ite (fun z => Ev.fin ?_) (fun z => Ev.ite (fun y => Ev.fin ?_) (fun y => Ev.fin ?_)))) <;> rw [Bool.false_or, Bool.eq_iff_iff] <;> simp <;> omega
  · exact Ev.cond rfl (Ev.fin rfl)
def resB (s : ByteArray) : Bool := decide (s.toList ∈ [[97, 110, 100], [111, 114], [110, 111, 116], [101, 120], [97, 108, 108], [109, 111, 100], [116, 114, 117, 101], [102, 97, 108, 115, 101]])
theorem res_eq (s : ByteArray) : glyph_Reserved.f s = some (resB s) := by
  unfold glyph_Reserved.f resB
  simp only [List.mem_cons, List.not_mem_nil, or_false]
  repeat' split
  all_goals simp_all
theorem width_pos (s : ByteArray) (pos : Nat) (h : pos < s.size) : 1 ≤ (Utf8.decode s pos).2 := by
  by_cases ha : (s[pos]'h).toNat < 128
  · rw [decode_ascii s pos h ha]
    exact Nat.le_refl _
  · exact (decode_high s pos h (by omega)).2
/-- A name, from a byte on, behind n characters. -/
def nameR : Nat → ByteArray → Nat → Nat → Bool
  | 0, s, _, n => decide (1 ≤ n ∧ n ≤ 16) && !resB s
  | m + 1, s, p, n =>
    if p < s.size then (if (n = 0 → startB ((Utf8.decode s p).1 : Int) = true) ∧ restB ((Utf8.decode s p).1 : Int) = true then nameR m s (p + (Utf8.decode s p).2) (n + 1) else false)
    else decide (1 ≤ n ∧ n ≤ 16) && !resB s
def nameB (s : ByteArray) : Bool := nameR s.size s 0 0
theorem name_end (s : ByteArray) (n : Nat) : Ev (fun k => if (n : Int) > 0 then (if (n : Int) ≤ 16 then (glyph_Reserved.f s).bind fun t => some (!t) else some false) else some false) (decide (1 ≤ n ∧ n ≤ 16) && !resB s) := by
  by_cases h1 : 1 ≤ n
  · by_cases h2 : n ≤ 16
    · refine Ev.cond (by omega) (Ev.cond (by omega) ?_)
      rw [decide_eq_true ⟨h1, h2⟩, Bool.true_and]
      exact Ev.ret (res_eq s) (Ev.fin rfl)
    · rw [decide_eq_false (fun e => h2 e.2)]
      exact Ev.cond (by omega) (Ev.ncond (by omega) (Ev.fin rfl))
  · rw [decide_eq_false (fun e => h1 e.1)]
    exact Ev.ncond (by omega) (Ev.fin rfl)
theorem name_ev (s : ByteArray) (hs : s.size ≤ 9223372036854775807) : Ev (fun k => glyph_Name.f k s) (nameB s) := by
  have key : ∀ (m p n : Nat), s.size ≤ p + m → n ≤ p → (p = 0 ↔ n = 0) → Ev (fun k => glyph_Name.l0 k s p (n : Int)) (nameR m s p n) := by
    intro m
    induction m with
    | zero =>
      intro p n hp hn _
      exact Ev.step (fun k => by rw [glyph_Name.l0]) (Ev.ncond (by omega) (name_end s n))
    | succ m ih =>
      intro p n hp hn hz
      rw [nameR]
      by_cases c : p < s.size
      · rw [if_pos c]
        have hw := width_pos s p c
        refine Ev.step (fun k => by rw [glyph_Name.l0]) (Ev.cond c ?_)
        have st : Ev (fun k => if p = 0 then glyph_Start.f k ((Utf8.decode s p).1 : Int) else some true) (decide (n = 0 → startB ((Utf8.decode s p).1 : Int) = true)) := by
          refine Ev.ite (fun h => ?_) (fun h => Ev.fin ?_)
          · have n0 := hz.1 h
            rw [show decide (n = 0 → startB ((Utf8.decode s p).1 : Int) = true) = startB ((Utf8.decode s p).1 : Int) by rw [Bool.eq_iff_iff]; simp [n0]]
            exact start_ev _
          · have n0 : ¬ n = 0 := fun e => h (hz.2 e)
            exact (decide_eq_true (fun e => absurd e n0)).symm
        refine Ev.bind st (Ev.ite (fun h => Ev.bind (rest_ev _) (Ev.ite (fun g => ?_) (fun g => Ev.fin ?_))) (fun h => Ev.fin ?_))
        · rw [if_pos ⟨of_decide_eq_true h, g⟩, w64 (by omega) (by omega)]
          exact ih (p + (Utf8.decode s p).2) (n + 1) (by omega) (by omega) (by omega)
        · rw [if_neg (fun e => g e.2)]
        · rw [if_neg (fun e => h (decide_eq_true e.1))]
      · rw [if_neg c]
        exact Ev.step (fun k => by rw [glyph_Name.l0]) (Ev.ncond c (name_end s n))
  exact key s.size 0 0 (by omega) (by omega) (by omega)
/-- From a place on: names, each less than the next. -/
def risesR (ns : List ByteArray) : Nat → Nat → Bool
  | 0, _ => true
  | m + 1, i => nameB (rdOf ByteArray.empty ns (i : Int)) && ((decide (i = 0) || Op.bytesLess (rdOf ByteArray.empty ns ((i - 1 : Nat) : Int)).toList (rdOf ByteArray.empty ns (i : Int)).toList) && risesR ns m (i + 1))
def risesB (ns : List ByteArray) : Bool := risesR ns ns.length 0
theorem rises_ev (ns : List ByteArray) (hn : ns.length ≤ 9000000000000000000) (hs : ∀ x ∈ ns, x.size ≤ 9223372036854775807) : Ev (fun k => glyph_Rises.f k ns) (risesB ns) := by
  refine Ev.congr (fun k => by rw [glyph_Rises.f]) ?_
  have key : ∀ (m i : Nat), i + m = ns.length → Ev (fun k => glyph_Rises.l0 k ns ns (ns.length : Int) (i : Int)) (risesR ns m i) := by
    intro m
    induction m with
    | zero =>
      intro i hi
      refine Ev.step (fun k => by rw [glyph_Rises.l0]) (Ev.ncond (by omega) ?_)
      exact Ev.fin rfl
    | succ m ih =>
      intro i hi
      rw [risesR]
      have sz : (rdOf ByteArray.empty ns (i : Int)).size ≤ 9223372036854775807 := by rw [rdOf_get _ ns (show i < ns.length by omega)]; exact hs _ (List.getElem_mem _)
      refine Ev.step (fun k => by rw [glyph_Rises.l0]) (Ev.cond (by omega) (Ev.cond (by omega) (Ev.cond (by omega) (Ev.bind (name_ev _ sz) ?_))))
      refine Ev.ite (fun a => ?_) (fun a => Ev.fin ?_)
      · rw [a, Bool.true_and]
        have nx := ih (i + 1) (by omega)
        refine Ev.ite (fun b => ?_) (fun b => ?_)
        · rw [w64 (x := (i : Int) - 1) (by omega) (by omega), w64 (x := (i : Int) + 1) (by omega) (by omega), show (i : Int) - 1 = ((i - 1 : Nat) : Int) by omega, decide_eq_false (show ¬ i = 0 by omega), Bool.false_or]
          refine Ev.cond (by omega) (Ev.cond (by omega) (Ev.ite (fun c => ?_) (fun c => Ev.fin ?_)))
          · rw [c, Bool.true_and]; exact nx
          · rw [Bool.not_eq_true] at c; rw [c, Bool.false_and]
        · rw [decide_eq_true (show i = 0 by omega), Bool.true_or, Bool.true_and, w64 (by omega) (by omega)]
          exact nx
      · rw [Bool.not_eq_true] at a; rw [a, Bool.false_and]
  exact key ns.length 0 (by omega)
end Go.Proofs.Ytghfclgcgecgdaa.Pure
namespace Go.Proofs.Ytghfclgcgecgdaa.Pure
open Go.RowKit Go.Proofs.YtghfclgcgecgdaaW.PrintWords Go.Proofs.YtghfclgcgecgdaaW.PrintLast Go.Proofs.YtghfclgcgecgdaaW.PrintMore Go.Proofs.Ytghfclgcgecgdaa.X
set_option linter.unusedVariables false
section
variable {a : List Int} {j : Nat}
end
theorem right_bad' {l : List S58} {t s : Int} {e : Int} (he : e ≠ 0) (h : Ev (fun k => row_Unpack.f k l t) ([], e)) : Ev (fun k => row_Right.f k l t s) false :=
  Ev.congr (fun k => by rw [row_Right.f]) (Ev.bind h (Ev.ncond he (Ev.fin rfl)))
theorem right_good' {l : List S58} {t s : Int} {R : List Int} (h1 : 1 ≤ R.length) (h2 : R.length ≤ 64) (h : Ev (fun k => row_Unpack.f k l t) (R, 0)) : Ev (fun k => row_Right.f k l t s) (decide (∀ x ∈ R, x < s)) := by
  obtain ⟨r, hr, hs⟩ := max_ev R h1 (by omega)
  refine Ev.congr (fun k => by rw [row_Right.f]) (Ev.bind h ?_)
  refine Ev.cond rfl ?_
  refine Ev.bind hr (Ev.fin ?_)
  exact decide_eq_decide.2 (hs s)
def SZ (ns : List ByteArray) : Prop := ∀ x ∈ ns, x.size ≤ 9223372036854775807
def RZ (nx : List (List Int)) : Prop := ∀ r ∈ nx, r.length ≤ 9000000000000000000
/-! ### The tracks -/
structure Fr (ns : List ByteArray) (n : Nat) : Prop where
  tr : ns.length ≤ 6
  n1 : 1 ≤ n
  n2 : n ≤ 256
  ri : risesB ns = true
section
variable {ns : List ByteArray} {n : Nat}
theorem tracks_yes (hs : SZ ns) (f : Fr ns n) : Ev (fun k => table_tracks.f k ns (n : Int)) true := by
  have := f.tr; have := f.n1; have := f.n2
  refine Ev.congr (fun k => by rw [table_tracks.f]) (Ev.cond (by omega) (Ev.cond (by omega) (Ev.cond (by omega) (Ev.bind (rises_ev ns (by omega) hs) (Ev.fin f.ri)))))
theorem tracks_no (hs : SZ ns) (hn : ¬ Fr ns n) : Ev (fun k => table_tracks.f k ns (n : Int)) false := by
  refine Ev.congr (fun k => by rw [table_tracks.f]) (Ev.ite (fun a => Ev.ite (fun b => Ev.ite (fun c => Ev.bind (rises_ev ns (by omega) hs) (Ev.fin ?_)) (fun _ => Ev.fin rfl)) (fun _ => Ev.fin rfl)) (fun _ => Ev.fin rfl))
  cases e : risesB ns
  · rfl
  · exact absurd ⟨by omega, by omega, by omega, e⟩ hn
/-! ### Machines -/
variable {ac : List Bool} {nx : List (List Int)}
end
/-! ### The table of a machine -/
section
variable {ns : List ByteArray} {ac : List Bool} {nx : List (List Int)}
end
end Go.Proofs.Ytghfclgcgecgdaa.Pure
namespace Go.Proofs.Ytghfclgcgecgdaa.Pure
open Go.RowKit Go.Proofs.YtghfclgcgecgdaaW.PrintWords Go.Proofs.YtghfclgcgecgdaaW.PrintLast Go.Proofs.YtghfclgcgecgdaaW.PrintMore Go.Proofs.Ytghfclgcgecgdaa.X
set_option linter.unusedVariables false
/-- The cubes of a state. -/
def cb (st : List Int) (ar : List S58) (q : Nat) : List S58 := (ar.take (rd st ((q + 1 : Nat) : Int)).toNat).drop (rd st (q : Int)).toNat
/-- The places are right. -/
structure Fm (n : Nat) (st : List Int) (ar : List S58) : Prop where
  sl : st.length = n + 1
  s0 : rd st 0 = 0
  se : rd st (n : Int) = (ar.length : Int)
  so : ∀ i : Nat, i < n → rd st (i : Int) ≤ rd st ((i + 1 : Nat) : Int)
theorem Fm.up {n : Nat} {st : List Int} {ar : List S58} (f : Fm n st ar) : ∀ (d i : Nat), i + d ≤ n → rd st (i : Int) ≤ rd st ((i + d : Nat) : Int) := by
  intro d
  induction d with
  | zero => intro i _; exact Int.le_refl _
  | succ d ih => intro i h; exact Int.le_trans (ih i (by omega)) (f.so (i + d) (by omega))
theorem Fm.bounds {n : Nat} {st : List Int} {ar : List S58} (f : Fm n st ar) {q : Nat} (hq : q ≤ n) : 0 ≤ rd st (q : Int) ∧ rd st (q : Int) ≤ (ar.length : Int) := by
  have a := f.up q 0 (by omega)
  have b := f.up (n - q) q (by omega)
  rw [Nat.zero_add] at a
  rw [show q + (n - q) = n by omega, f.se] at b
  have s0 := f.s0
  have e : rd st ((0 : Nat) : Int) = 0 := s0
  omega
theorem rowOf_ev {n : Nat} {ns : List ByteArray} {ac : List Bool} {st : List Int} {ar : List S58} (f : Fm n st ar) (hn : n ≤ 256) {q : Nat} (hq : q < n) : table_rowOf.f ns ac st ar (q : Int) = some (cb st ar q) := by
  have sl := f.sl
  have b0 := f.bounds (show q ≤ n by omega)
  have b1 := f.bounds (show q + 1 ≤ n by omega)
  have so := f.so q hq
  unfold table_rowOf.f
  rw [w64 (x := (q : Int) + 1) (by omega) (by omega), show (q : Int) + 1 = ((q + 1 : Nat) : Int) by omega]
  rw [if_pos (by omega), if_pos (by omega), if_pos (by omega), if_pos (by omega), if_pos b0.1, if_pos so, if_pos b1.2]
  rfl
theorem cb_len {n : Nat} {st : List Int} {ar : List S58} (f : Fm n st ar) {q : Nat} (hq : q < n) : ((cb st ar q).length : Int) = rd st ((q + 1 : Nat) : Int) - rd st (q : Int) := by
  have b0 := f.bounds (show q ≤ n by omega)
  have b1 := f.bounds (show q + 1 ≤ n by omega)
  have so := f.so q hq
  rw [cb, List.length_drop, List.length_take]
  omega
theorem sorted_ev {n : Nat} {st : List Int} (hl : st.length = n + 1) (hn : n ≤ 256) : Ev (fun k => slices_IsSorted_int_int.f k st) (decide (∀ i : Nat, i < n → rd st (i : Int) ≤ rd st ((i + 1 : Nat) : Int))) := by
  refine Ev.congr (fun k => by rw [slices_IsSorted_int_int.f]) ?_
  have key : ∀ (m : Nat), m ≤ n → Ev (fun k => slices_IsSorted_int_int.l0 k st (m : Int)) (decide (∀ i : Nat, i < m → rd st (i : Int) ≤ rd st ((i + 1 : Nat) : Int))) := by
    intro m
    induction m with
    | zero =>
      intro _
      rw [decide_eq_true (show ∀ i : Nat, i < 0 → rd st (i : Int) ≤ rd st ((i + 1 : Nat) : Int) from fun i hi => absurd hi (by omega))]
      exact Ev.step (fun k => by rw [slices_IsSorted_int_int.l0]) (Ev.ncond (by omega) (Ev.fin rfl))
    | succ m ih =>
      intro hm
      refine Ev.step (fun k => by rw [slices_IsSorted_int_int.l0]) (Ev.cond (by omega) (Ev.cond (by omega) (Ev.cond (by omega) ?_)))
      rw [w64 (by omega) (by omega), show ((m + 1 : Nat) : Int) - 1 = (m : Int) by omega]
      refine Ev.cond (by omega) (Ev.cond (by omega) ?_)
      refine Ev.ret (show cmp_Less_int.f (rd st ((m + 1 : Nat) : Int)) (rd st (m : Int)) = some (decide (rd st ((m + 1 : Nat) : Int) < rd st (m : Int))) by simp [cmp_Less_int.f, cmp_isNaN_int.f]) ?_
      refine Ev.ite (fun c => Ev.fin ?_) (fun c => ?_)
      · have c := of_decide_eq_true c
        exact (decide_eq_false (fun h => by have := h m (by omega); omega)).symm
      · have c : ¬ rd st ((m + 1 : Nat) : Int) < rd st (m : Int) := fun h => c (decide_eq_true h)
        rw [decide_eq_decide.2 (show (∀ i : Nat, i < m + 1 → rd st (i : Int) ≤ rd st ((i + 1 : Nat) : Int)) ↔ (∀ i : Nat, i < m → rd st (i : Int) ≤ rd st ((i + 1 : Nat) : Int)) from
          ⟨fun h i hi => h i (by omega), fun h i hi => by
            by_cases e : i = m
            · subst e; omega
            · exact h i (by omega)⟩)]
        exact ih (by omega)
  have := key n (Nat.le_refl n)
  rw [hl, w64 (by omega) (by omega), show ((n + 1 : Nat) : Int) - 1 = (n : Int) by omega]
  exact this
/-- A right table. -/
structure AOk (ns : List ByteArray) (ac : List Bool) (st : List Int) (ar : List S58) : Prop where
  fr : Fr ns ac.length
  fm : Fm ac.length st ar
  len : ∀ q, q < ac.length → (cb st ar q).length ≤ 32
  unp : ∀ q, q < ac.length → UnpOk (cb st ar q) ns.length
  low : ∀ q, q < ac.length → ∀ x ∈ rowOf (cb st ar q) (2 ^ ns.length), x < (ac.length : Int)
section
variable {ns : List ByteArray} {ac : List Bool} {st : List Int} {ar : List S58}
theorem row_right {l : List S58} {j : Nat} (hj : j ≤ 6) {s : Int} {e : Int} {f : Nat → Option Int} (hl9 : l.length ≤ 9000000000000000000)
    (yes : (UnpOk l j ∧ ∀ x ∈ rowOf l (2 ^ j), x < s) → Ev f e) (no : ¬ (UnpOk l j ∧ ∀ x ∈ rowOf l (2 ^ j), x < s) → e = 3) :
    Ev (fun k => (row_Right.f k l (j : Int) s).bind fun t => if t = true then f k else some 3) e := by
  have h6 := pow6 hj
  have hp := Nat.two_pow_pos j
  by_cases u : UnpOk l j
  · refine Ev.bind (right_good' (by rw [rowOf_len]; omega) (by rw [rowOf_len]; omega) (unpack_ok u)) (Ev.ite (fun t => yes ⟨u, of_decide_eq_true t⟩) (fun t => Ev.fin (no (fun z => t (decide_eq_true z.2))).symm))
  · refine Ev.bind (right_bad' (by decide) (unpack_no hj u hl9)) ?_
    exact Ev.ncond (by decide) (Ev.fin (no (fun z => u z.1)).symm)
theorem check_loop (hs : SZ ns) (fr : Fr ns ac.length) (fm : Fm ac.length st ar) (ha : ar.length ≤ 9000000000000000000) {e : Int} :
    ∀ (m i : Nat), i + m = ac.length → (e = 3 ∨ e = 0) →
      (e = 0 → ∀ q, i ≤ q → q < ac.length → (cb st ar q).length ≤ 32 ∧ UnpOk (cb st ar q) ns.length ∧ ∀ x ∈ rowOf (cb st ar q) (2 ^ ns.length), x < (ac.length : Int)) →
      (e = 3 → ∃ q, i ≤ q ∧ q < ac.length ∧ ¬ ((cb st ar q).length ≤ 32 ∧ UnpOk (cb st ar q) ns.length ∧ ∀ x ∈ rowOf (cb st ar q) (2 ^ ns.length), x < (ac.length : Int))) →
      Ev (fun k => table_Check.l0 k (ac.length : Int) (ac.length : Int) (i : Int) ns ac st ar) e := by
  have n2 := fr.n2
  intro m
  induction m with
  | zero =>
    intro i hi h h0 h3
    refine Ev.step (fun k => by rw [table_Check.l0]) (Ev.ncond (by omega) (Ev.fin ?_))
    rcases h with h | h
    · obtain ⟨q, h1, h2, _⟩ := h3 h; omega
    · exact h.symm
  | succ m ih =>
    intro i hi h h0 h3
    have ii : i < ac.length := by omega
    refine Ev.step (fun k => by rw [table_Check.l0]) (Ev.cond (by omega) ?_)
    refine Ev.ret (rowOf_ev fm n2 ii) ?_
    have cl : (cb st ar i).length ≤ 9000000000000000000 := by rw [cb, List.length_drop, List.length_take]; omega
    by_cases big : (cb st ar i).length ≤ 32
    · refine Ev.ncond (by omega) ?_
      rw [w64 (by omega) (by omega)]
      refine row_right fr.tr cl (fun ok => ih (i + 1) (by omega) h (fun z q h1 h2 => h0 z q (by omega) h2) (fun z => ?_)) (fun no => ?_)
      · obtain ⟨q, h1, h2, h4⟩ := h3 z
        by_cases e1 : q = i
        · subst e1; exact absurd ⟨big, ok.1, ok.2⟩ h4
        · exact ⟨q, by omega, h2, h4⟩
      · rcases h with h | h
        · exact h
        · have := h0 h i (Nat.le_refl i) ii; exact absurd this.2 no
    · refine Ev.cond (by omega) (Ev.fin ?_)
      rcases h with h | h
      · exact h.symm
      · exact absurd (h0 h i (Nat.le_refl i) ii).1 big
theorem check_ok (hs : SZ ns) (ha : ar.length ≤ 9000000000000000000) (a : AOk ns ac st ar) : Ev (fun k => table_Check.f k ns ac st ar) 0 := by
  have n2 := a.fr.n2
  have sl := a.fm.sl
  refine Ev.congr (fun k => by rw [table_Check.f]) (Ev.bind (tracks_yes hs a.fr) (Ev.cond rfl ?_))
  rw [w64 (by omega) (by omega)]
  refine Ev.cond (by omega) (Ev.cond (by omega) (Ev.cond a.fm.s0 (Ev.cond (by omega) (Ev.cond (by omega) (Ev.cond a.fm.se (Ev.bind (sorted_ev sl n2) ?_))))))
  rw [decide_eq_true a.fm.so]
  refine Ev.step (fun k => by rw [table_Check.j0]) (Ev.ncond (by decide) ?_)
  exact check_loop hs a.fr a.fm ha ac.length 0 (by omega) (Or.inr rfl) (fun _ q _ hq => ⟨a.len q hq, a.unp q hq, a.low q hq⟩) (fun h => absurd h (by decide))
theorem check_no (hs : SZ ns) (ha : ar.length ≤ 9000000000000000000) (hc : ac.length ≤ 9000000000000000000) (hst : st.length ≤ 9000000000000000000) (a : ¬ AOk ns ac st ar) : Ev (fun k => table_Check.f k ns ac st ar) 3 := by
  have stop : ∀ {b}, b = true → Ev (fun k => table_Check.j0 k (ac.length : Int) b ns ac st ar) 3 := fun e => e ▸ Ev.step (fun k => by rw [table_Check.j0]) (Ev.cond rfl (Ev.fin rfl))
  by_cases fr : Fr ns ac.length
  · have n2 := fr.n2
    refine Ev.congr (fun k => by rw [table_Check.f]) (Ev.bind (tracks_yes hs fr) (Ev.cond rfl ?_))
    rw [w64 (by omega) (by omega)]
    refine Ev.ite (fun h1 => Ev.cond (by omega) (Ev.ite (fun h2 => Ev.cond (by omega) (Ev.cond (by omega) (Ev.ite (fun h3 => ?_) (fun _ => stop rfl)))) (fun _ => stop rfl))) (fun _ => stop rfl)
    have sl : st.length = ac.length + 1 := by omega
    refine Ev.bind (sorted_ev sl n2) ?_
    by_cases so : ∀ i : Nat, i < ac.length → rd st (i : Int) ≤ rd st ((i + 1 : Nat) : Int)
    · rw [decide_eq_true so]
      have fm : Fm ac.length st ar := ⟨sl, h2, h3, so⟩
      refine Ev.step (fun k => by rw [table_Check.j0]) (Ev.ncond (by decide) ?_)
      refine check_loop hs fr fm ha ac.length 0 (by omega) (Or.inl rfl) (fun h => absurd h (by decide)) (fun _ => ?_)
      refine Classical.byContradiction fun c => a ⟨fr, fm, fun q hq => ?_, fun q hq => ?_, fun q hq => ?_⟩
      · exact Classical.byContradiction fun z => c ⟨q, by omega, hq, fun y => z y.1⟩
      · exact Classical.byContradiction fun z => c ⟨q, by omega, hq, fun y => z y.2.1⟩
      · exact Classical.byContradiction fun z => c ⟨q, by omega, hq, fun y => z y.2.2⟩
    · rw [decide_eq_false so]; exact stop rfl
  · refine Ev.congr (fun k => by rw [table_Check.f]) (Ev.bind (tracks_no hs fr) ?_)
    exact Ev.ncond (by decide) (stop rfl)
/-! ### Words -/
end
/-! ### The table of a machine is right -/
end Go.Proofs.Ytghfclgcgecgdaa.Pure
namespace Go.Proofs.Ytghfclgcgecgdaa.Pure
open Go.RowKit Go.Proofs.YtghfclgcgecgdaaW.PrintWords Go.Proofs.YtghfclgcgecgdaaW.PrintLast Go.Proofs.YtghfclgcgecgdaaW.PrintMore Go.Proofs.Ytghfclgcgecgdaa.X
set_option linter.unusedVariables false
def pairsB (r : Int) : List Int → Bool
  | a :: b :: t => decide (a ≤ r ∧ r ≤ b) || pairsB r t
  | _ => false
theorem within_ev (r : Int) (l : List Int) (hl : l.length ≤ 1000) : ∀ (m i : Nat), i + 2 * m = l.length → Ev (fun k => tabardref04_within.l0 k r l (i : Int)) (pairsB r (l.drop i)) := by
  intro m
  induction m with
  | zero =>
    intro i hi
    rw [List.drop_eq_nil_of_le (by omega)]
    refine Ev.step (fun k => by rw [tabardref04_within.l0]) (Ev.ncond (by rw [w64 (by omega) (by omega)]; omega) ?_)
    exact Ev.fin rfl
  | succ m ih =>
    intro i hi
    have h1 : i < l.length := by omega
    have h2 : i + 1 < l.length := by omega
    have q := ih (i + 2) (by omega)
    rw [List.drop_eq_getElem_cons h1, List.drop_eq_getElem_cons h2, pairsB]
    refine Ev.step (fun k => by rw [tabardref04_within.l0]) ?_
    rw [w64 (x := (i : Int) + 1) (by omega) (by omega), w64 (x := (i : Int) + 2) (by omega) (by omega), show (i : Int) + 1 = ((i + 1 : Nat) : Int) by omega, rd_get l h1, rd_get l h2]
    refine Ev.cond (by omega) (Ev.cond (by omega) (Ev.cond (by omega) (Ev.ite (fun a => Ev.cond (by omega) (Ev.ite (fun b => Ev.fin ?_) (fun b => ?_))) (fun a => ?_))))
    · rw [decide_eq_true (show l[i] ≤ r ∧ r ≤ l[i + 1] from ⟨a, b⟩), Bool.true_or]
    · rw [decide_eq_false (show ¬ (l[i] ≤ r ∧ r ≤ l[i + 1]) from fun z => b z.2), Bool.false_or]; exact q
    · rw [decide_eq_false (show ¬ (l[i] ≤ r ∧ r ≤ l[i + 1]) from fun z => a z.1), Bool.false_or]; exact q
theorem within_f (r : Int) (l : List Int) (m : Nat) (hl : l.length ≤ 1000) (hm : 0 + 2 * m = l.length) : Ev (fun k => tabardref04_within.f k r l) (pairsB r l) := by
  have := within_ev r l hl m 0 hm
  rw [List.drop_zero] at this
  exact Ev.congr (fun k => by rw [tabardref04_within.f]; rfl) this
theorem rstart_ev (r : Int) : Ev (fun k => tabardref04_Start.f k r) (startB r) := by
  refine Ev.congr (fun k => by rw [tabardref04_Start.f]) (Ev.bind (within_f r [65, 90, 97, 122, 95, 95, 913, 929, 931, 937, 945, 969] 6 (by decide) (by decide)) (Ev.fin ?_))
  simp only [pairsB, startB]
  rw [Bool.eq_iff_iff]; simp; omega
theorem rrest_ev (r : Int) : Ev (fun k => tabardref04_Rest.f k r) (restB r) := by
  refine Ev.congr (fun k => by rw [tabardref04_Rest.f]) (Ev.bind (rstart_ev r) ?_)
  rw [restB]
  cases startB r
  · refine Ev.ncond (by decide) (Ev.bind (within_f r [48, 57, 8242, 8242, 8320, 8329] 3 (by decide) (by decide)) (Ev.fin ?_))
    simp only [pairsB]
    rw [Bool.eq_iff_iff]; simp; omega
  · exact Ev.cond rfl (Ev.fin rfl)
theorem rres_ev (s : ByteArray) : Ev (fun k => tabardref04_Reserved.f k s) (resB s) := by
  refine Ev.congr (fun k => by rw [tabardref04_Reserved.f]) ?_
  have key : ∀ (L : List ByteArray) (hL : L.length ≤ 100) (m i : Nat), i + m = L.length → Ev (fun k => tabardref04_Reserved.l0 k s L (i : Int)) (decide (∃ x ∈ L.drop i, x.toList = s.toList)) := by
    intro L hL m
    induction m with
    | zero =>
      intro i hi
      rw [List.drop_eq_nil_of_le (by omega)]
      refine Ev.step (fun k => by rw [tabardref04_Reserved.l0]) (Ev.ncond (by omega) (Ev.fin ?_))
      simp
    | succ m ih =>
      intro i hi
      have h1 : i < L.length := by omega
      rw [List.drop_eq_getElem_cons h1]
      refine Ev.step (fun k => by rw [tabardref04_Reserved.l0]) (Ev.cond (by omega) (Ev.cond (by omega) ?_))
      rw [rdOf_get _ L h1, w64 (by omega) (by omega)]
      refine Ev.ite (fun c => Ev.fin ?_) (fun c => ?_)
      · exact (decide_eq_true ⟨_, List.mem_cons_self .., c⟩).symm
      · have q := ih (i + 1) (by omega)
        rw [decide_eq_decide.2 (show (∃ x ∈ L[i] :: L.drop (i + 1), x.toList = s.toList) ↔ (∃ x ∈ L.drop (i + 1), x.toList = s.toList) from ⟨fun ⟨x, hx, e⟩ => by
          rcases List.mem_cons.1 hx with rfl | h
          · exact absurd e c
          · exact ⟨x, h, e⟩, fun ⟨x, hx, e⟩ => ⟨x, List.mem_cons_of_mem _ hx, e⟩⟩)]
        exact q
  have := key ([(⟨#[97, 110, 100]⟩ : ByteArray), (⟨#[111, 114]⟩ : ByteArray), (⟨#[110, 111, 116]⟩ : ByteArray), (⟨#[101, 120]⟩ : ByteArray), (⟨#[97, 108, 108]⟩ : ByteArray), (⟨#[109, 111, 100]⟩ : ByteArray), (⟨#[116, 114, 117, 101]⟩ : ByteArray), (⟨#[102, 97, 108, 115, 101]⟩ : ByteArray)] : List ByteArray) (by simp) 8 0 (by simp)
  rw [show resB s = decide (∃ x ∈ List.drop 0 ([(⟨#[97, 110, 100]⟩ : ByteArray), (⟨#[111, 114]⟩ : ByteArray), (⟨#[110, 111, 116]⟩ : ByteArray), (⟨#[101, 120]⟩ : ByteArray), (⟨#[97, 108, 108]⟩ : ByteArray), (⟨#[109, 111, 100]⟩ : ByteArray), (⟨#[116, 114, 117, 101]⟩ : ByteArray), (⟨#[102, 97, 108, 115, 101]⟩ : ByteArray)] : List ByteArray), x.toList = s.toList) from by
    rw [resB]
    apply decide_eq_decide.2
    simp only [List.drop_zero, List.mem_cons, List.not_mem_nil, or_false, exists_eq_or_imp, exists_eq_left, ByteArray.toList_eq]
    simp only [eq_comm]]
  exact this
end Go.Proofs.Ytghfclgcgecgdaa.Pure
namespace Go.Proofs.Ytghfclgcgecgdaa.Pure
open Go.RowKit Go.Proofs.YtghfclgcgecgdaaW.PrintWords Go.Proofs.YtghfclgcgecgdaaW.PrintLast Go.Proofs.YtghfclgcgecgdaaW.PrintMore Go.Proofs.Ytghfclgcgecgdaa.X
set_option linter.unusedVariables false
theorem bt_get (s : ByteArray) {q : Nat} (h : q < s.size) : bt s (q : Int) = ((s.get! q).toNat : Int) := by
  have e := bt_at s (q : Int) (by simpa using h)
  rw [← e]
  simp only [Int.toNat_natCast]
  rw [← get_at s q h]; rfl
theorem get_lt (s : ByteArray) (q : Nat) : (s.get! q).toNat < 256 := (s.get! q).toNat_lt
/-- What Read answers, held against the decoding. -/
def Fits (d : Nat × Nat) (r : Int × Int × Bool) : Prop := (r.2.2 = true ∧ r.1 = (d.1 : Int) ∧ r.2.1 = (d.2 : Int)) ∨ (r.2.2 = false ∧ d = (65533, 1))
section
variable {s : ByteArray} {p : Nat}
theorem read_end {X w L : Int} {i : Int} (hi : ¬ i < w) : ∃ r, Ev (fun k => tabardref04_Read.l0 k s (p : Int) X w L i) r ∧ ((r = (X, w, true) ∧ L ≤ X ∧ X ≤ 1114111 ∧ ¬ (55296 ≤ X ∧ X ≤ 57343)) ∨ (r = (65533, 1, false) ∧ ¬ (L ≤ X ∧ X ≤ 1114111 ∧ ¬ (55296 ≤ X ∧ X ≤ 57343)))) := by
  by_cases h1 : X < L
  · exact ⟨_, Ev.step (fun k => by rw [tabardref04_Read.l0]) (Ev.ncond hi (Ev.cond h1 (Ev.fin rfl))), Or.inr ⟨rfl, by omega⟩⟩
  by_cases h2 : X > 1114111
  · exact ⟨_, Ev.step (fun k => by rw [tabardref04_Read.l0]) (Ev.ncond hi (Ev.ncond h1 (Ev.cond h2 (Ev.fin rfl)))), Or.inr ⟨rfl, by omega⟩⟩
  by_cases h3 : X ≥ 55296
  · by_cases h4 : X ≤ 57343
    · exact ⟨_, Ev.step (fun k => by rw [tabardref04_Read.l0]) (Ev.ncond hi (Ev.ncond h1 (Ev.ncond h2 (Ev.cond h3 (Ev.cond h4 (Ev.fin rfl)))))), Or.inr ⟨rfl, by omega⟩⟩
    · exact ⟨_, Ev.step (fun k => by rw [tabardref04_Read.l0]) (Ev.ncond hi (Ev.ncond h1 (Ev.ncond h2 (Ev.cond h3 (Ev.ncond h4 (Ev.fin rfl)))))), Or.inl ⟨rfl, by omega⟩⟩
  · exact ⟨_, Ev.step (fun k => by rw [tabardref04_Read.l0]) (Ev.ncond hi (Ev.ncond h1 (Ev.ncond h2 (Ev.ncond h3 (Ev.fin rfl))))), Or.inl ⟨rfl, by omega⟩⟩
theorem read_more (hs : s.size ≤ 9223372036854775807) {X w L : Int} {i : Nat} (hi : (i : Int) < w) (hX : 0 ≤ X) (hX2 : X ≤ 20000000) (h : p + i < s.size) :
    (¬ (128 ≤ (s.get! (p + i)).toNat ∧ (s.get! (p + i)).toNat ≤ 191) ∧ Ev (fun k => tabardref04_Read.l0 k s (p : Int) X w L (i : Int)) (65533, 1, false)) ∨
    ((128 ≤ (s.get! (p + i)).toNat ∧ (s.get! (p + i)).toNat ≤ 191) ∧ ∀ r, Ev (fun k => tabardref04_Read.l0 k s (p : Int) (X * 64 + ((s.get! (p + i)).toNat : Int) - 128) w L ((i + 1 : Nat) : Int)) r → Ev (fun k => tabardref04_Read.l0 k s (p : Int) X w L (i : Int)) r) := by
  have b := get_lt s (p + i)
  have e : wrap64 ((p : Int) + (i : Int)) = ((p + i : Nat) : Int) := by rw [w64 (by omega) (by omega)]; omega
  have e2 : wrap64 (bt s ((p + i : Nat) : Int)) = ((s.get! (p + i)).toNat : Int) := by rw [bt_get s h, w64 (by omega) (by omega)]
  by_cases h1 : (s.get! (p + i)).toNat < 128
  · refine Or.inl ⟨by omega, Ev.step (fun k => by rw [tabardref04_Read.l0]) (Ev.cond hi ?_)⟩
    rw [e, e2]
    exact Ev.cond (by omega) (Ev.cond (by omega) (Ev.cond (by omega) (Ev.fin rfl)))
  by_cases h2 : (s.get! (p + i)).toNat > 191
  · refine Or.inl ⟨by omega, Ev.step (fun k => by rw [tabardref04_Read.l0]) (Ev.cond hi ?_)⟩
    rw [e, e2]
    exact Ev.cond (by omega) (Ev.cond (by omega) (Ev.ncond (by omega) (Ev.cond (by omega) (Ev.fin rfl))))
  · refine Or.inr ⟨by omega, fun r hr => Ev.step (fun k => by rw [tabardref04_Read.l0]) (Ev.cond hi ?_)⟩
    rw [e, e2, w64 (x := X * 64) (by omega) (by omega), w64 (x := X * 64 + ((s.get! (p + i)).toNat : Int)) (by omega) (by omega), w64 (x := X * 64 + ((s.get! (p + i)).toNat : Int) - 128) (by omega) (by omega), w64 (x := (i : Int) + 1) (by omega) (by omega)]
    exact Ev.cond (by omega) (Ev.cond (by omega) (Ev.ncond (by omega) (Ev.ncond (by omega) hr)))
theorem read_w2 (hs : s.size ≤ 9223372036854775807) (hp : p < s.size) (h0 : 194 ≤ (s.get! p).toNat ∧ (s.get! p).toNat < 224) :
    ∃ r, Ev (fun k => tabardref04_Read.j2 k s (p : Int) (((s.get! p).toNat : Int) - 192) 2 128) r ∧ Fits (Go.Lib.decodeN (s.size - p) (s.get! p).toNat (s.get! (p + 1)).toNat (s.get! (p + 2)).toNat (s.get! (p + 3)).toNat) r := by
  have g1 := get_lt s (p + 1); have g2 := get_lt s (p + 2); have g3 := get_lt s (p + 3)
  by_cases c : s.size - p < 2
  · refine ⟨_, Ev.step (fun k => by rw [tabardref04_Read.j2]) (Ev.cond (by rw [w64 (by omega) (by omega)]; omega) (Ev.fin rfl)), Or.inr ⟨rfl, ?_⟩⟩
    unfold Go.Lib.decodeN; repeat' split
    all_goals first | (exfalso; omega) | rfl
  · have go : ∀ r, Ev (fun k => tabardref04_Read.l0 k s (p : Int) (((s.get! p).toNat : Int) - 192) 2 128 1) r → Ev (fun k => tabardref04_Read.j2 k s (p : Int) (((s.get! p).toNat : Int) - 192) 2 128) r :=
      by
        intro r h
        refine Ev.step (fun k => by rw [tabardref04_Read.j2]) (Ev.ncond ?_ h)
        rw [w64 (by omega) (by omega)]; omega
    rcases read_more (X := ((s.get! p).toNat : Int) - 192) (w := 2) (L := 128) (i := 1) hs (by omega) (by omega) (by omega) (show p + 1 < s.size by omega) with ⟨bad, e⟩ | ⟨ok1, k1⟩
    · refine ⟨_, go _ e, Or.inr ⟨rfl, ?_⟩⟩
      unfold Go.Lib.decodeN; repeat' split
      all_goals first | (exfalso; omega) | rfl
    · obtain ⟨r, hr, hc⟩ := read_end (s := s) (p := p) (X := (((s.get! p).toNat : Int) - 192) * 64 + ((s.get! (p + 1)).toNat : Int) - 128) (w := 2) (L := 128) (i := ((1 + 1 : Nat) : Int)) (by omega)
      refine ⟨r, go _ (k1 r hr), ?_⟩
      rcases hc with ⟨rfl, hc⟩ | ⟨rfl, hc⟩
      · have d : Go.Lib.decodeN (s.size - p) (s.get! p).toNat (s.get! (p + 1)).toNat (s.get! (p + 2)).toNat (s.get! (p + 3)).toNat = ((s.get! p).toNat % 32 * 64 + (s.get! (p + 1)).toNat % 64, 2) := by
          unfold Go.Lib.decodeN; repeat' split
          all_goals first | (exfalso; omega) | rfl
        rw [d]; exact Or.inl ⟨rfl, by simp only []; omega, rfl⟩
      · refine Or.inr ⟨rfl, ?_⟩
        unfold Go.Lib.decodeN; repeat' split
        all_goals first | (exfalso; omega) | rfl
theorem read_w3 (hs : s.size ≤ 9223372036854775807) (hp : p < s.size) (h0 : 224 ≤ (s.get! p).toNat ∧ (s.get! p).toNat < 240) :
    ∃ r, Ev (fun k => tabardref04_Read.j2 k s (p : Int) (((s.get! p).toNat : Int) - 224) 3 2048) r ∧ Fits (Go.Lib.decodeN (s.size - p) (s.get! p).toNat (s.get! (p + 1)).toNat (s.get! (p + 2)).toNat (s.get! (p + 3)).toNat) r := by
  have g1 := get_lt s (p + 1); have g2 := get_lt s (p + 2); have g3 := get_lt s (p + 3)
  by_cases c : s.size - p < 3
  · refine ⟨_, Ev.step (fun k => by rw [tabardref04_Read.j2]) (Ev.cond (by rw [w64 (by omega) (by omega)]; omega) (Ev.fin rfl)), Or.inr ⟨rfl, ?_⟩⟩
    unfold Go.Lib.decodeN; repeat' split
    all_goals first | (exfalso; omega) | rfl
  · have go : ∀ r, Ev (fun k => tabardref04_Read.l0 k s (p : Int) (((s.get! p).toNat : Int) - 224) 3 2048 1) r → Ev (fun k => tabardref04_Read.j2 k s (p : Int) (((s.get! p).toNat : Int) - 224) 3 2048) r :=
      by
        intro r h
        refine Ev.step (fun k => by rw [tabardref04_Read.j2]) (Ev.ncond ?_ h)
        rw [w64 (by omega) (by omega)]; omega
    rcases read_more (X := ((s.get! p).toNat : Int) - 224) (w := 3) (L := 2048) (i := 1) hs (by omega) (by omega) (by omega) (show p + 1 < s.size by omega) with ⟨bad, e⟩ | ⟨ok1, k1⟩
    · refine ⟨_, go _ e, Or.inr ⟨rfl, ?_⟩⟩
      unfold Go.Lib.decodeN; repeat' split
      all_goals first | (exfalso; omega) | rfl
    rcases read_more (X := (((s.get! p).toNat : Int) - 224) * 64 + ((s.get! (p + 1)).toNat : Int) - 128) (w := 3) (L := 2048) (i := 2) hs (by omega) (by omega) (by omega) (show p + 2 < s.size by omega) with ⟨bad, e⟩ | ⟨ok2, k2⟩
    · refine ⟨_, go _ (k1 _ e), Or.inr ⟨rfl, ?_⟩⟩
      unfold Go.Lib.decodeN; repeat' split
      all_goals first | (exfalso; omega) | rfl
    · obtain ⟨r, hr, hc⟩ := read_end (s := s) (p := p) (X := ((((s.get! p).toNat : Int) - 224) * 64 + ((s.get! (p + 1)).toNat : Int) - 128) * 64 + ((s.get! (p + 2)).toNat : Int) - 128) (w := 3) (L := 2048) (i := ((2 + 1 : Nat) : Int)) (by omega)
      refine ⟨r, go _ (k1 _ (k2 r hr)), ?_⟩
      rcases hc with ⟨rfl, hc⟩ | ⟨rfl, hc⟩
      · have d : Go.Lib.decodeN (s.size - p) (s.get! p).toNat (s.get! (p + 1)).toNat (s.get! (p + 2)).toNat (s.get! (p + 3)).toNat = ((s.get! p).toNat % 16 * 4096 + (s.get! (p + 1)).toNat % 64 * 64 + (s.get! (p + 2)).toNat % 64, 3) := by
          unfold Go.Lib.decodeN; repeat' split
          all_goals first | (exfalso; omega) | rfl
        rw [d]; exact Or.inl ⟨rfl, by simp only []; omega, rfl⟩
      · refine Or.inr ⟨rfl, ?_⟩
        unfold Go.Lib.decodeN; repeat' split
        all_goals first | (exfalso; omega) | rfl
theorem read_w4 (hs : s.size ≤ 9223372036854775807) (hp : p < s.size) (h0 : 240 ≤ (s.get! p).toNat ∧ (s.get! p).toNat < 245) :
    ∃ r, Ev (fun k => tabardref04_Read.j2 k s (p : Int) (((s.get! p).toNat : Int) - 240) 4 65536) r ∧ Fits (Go.Lib.decodeN (s.size - p) (s.get! p).toNat (s.get! (p + 1)).toNat (s.get! (p + 2)).toNat (s.get! (p + 3)).toNat) r := by
  have g1 := get_lt s (p + 1); have g2 := get_lt s (p + 2); have g3 := get_lt s (p + 3)
  by_cases c : s.size - p < 4
  · refine ⟨_, Ev.step (fun k => by rw [tabardref04_Read.j2]) (Ev.cond (by rw [w64 (by omega) (by omega)]; omega) (Ev.fin rfl)), Or.inr ⟨rfl, ?_⟩⟩
    unfold Go.Lib.decodeN; repeat' split
    all_goals first | (exfalso; omega) | rfl
  · have go : ∀ r, Ev (fun k => tabardref04_Read.l0 k s (p : Int) (((s.get! p).toNat : Int) - 240) 4 65536 1) r → Ev (fun k => tabardref04_Read.j2 k s (p : Int) (((s.get! p).toNat : Int) - 240) 4 65536) r :=
      by
        intro r h
        refine Ev.step (fun k => by rw [tabardref04_Read.j2]) (Ev.ncond ?_ h)
        rw [w64 (by omega) (by omega)]; omega
    rcases read_more (X := ((s.get! p).toNat : Int) - 240) (w := 4) (L := 65536) (i := 1) hs (by omega) (by omega) (by omega) (show p + 1 < s.size by omega) with ⟨bad, e⟩ | ⟨ok1, k1⟩
    · refine ⟨_, go _ e, Or.inr ⟨rfl, ?_⟩⟩
      unfold Go.Lib.decodeN; repeat' split
      all_goals first | (exfalso; omega) | rfl
    rcases read_more (X := (((s.get! p).toNat : Int) - 240) * 64 + ((s.get! (p + 1)).toNat : Int) - 128) (w := 4) (L := 65536) (i := 2) hs (by omega) (by omega) (by omega) (show p + 2 < s.size by omega) with ⟨bad, e⟩ | ⟨ok2, k2⟩
    · refine ⟨_, go _ (k1 _ e), Or.inr ⟨rfl, ?_⟩⟩
      unfold Go.Lib.decodeN; repeat' split
      all_goals first | (exfalso; omega) | rfl
    rcases read_more (X := ((((s.get! p).toNat : Int) - 240) * 64 + ((s.get! (p + 1)).toNat : Int) - 128) * 64 + ((s.get! (p + 2)).toNat : Int) - 128) (w := 4) (L := 65536) (i := 3) hs (by omega) (by omega) (by omega) (show p + 3 < s.size by omega) with ⟨bad, e⟩ | ⟨ok3, k3⟩
    · refine ⟨_, go _ (k1 _ (k2 _ e)), Or.inr ⟨rfl, ?_⟩⟩
      unfold Go.Lib.decodeN; repeat' split
      all_goals first | (exfalso; omega) | rfl
    · obtain ⟨r, hr, hc⟩ := read_end (s := s) (p := p) (X := (((((s.get! p).toNat : Int) - 240) * 64 + ((s.get! (p + 1)).toNat : Int) - 128) * 64 + ((s.get! (p + 2)).toNat : Int) - 128) * 64 + ((s.get! (p + 3)).toNat : Int) - 128) (w := 4) (L := 65536) (i := ((3 + 1 : Nat) : Int)) (by omega)
      refine ⟨r, go _ (k1 _ (k2 _ (k3 r hr))), ?_⟩
      rcases hc with ⟨rfl, hc⟩ | ⟨rfl, hc⟩
      · have d : Go.Lib.decodeN (s.size - p) (s.get! p).toNat (s.get! (p + 1)).toNat (s.get! (p + 2)).toNat (s.get! (p + 3)).toNat = ((s.get! p).toNat % 8 * 262144 + (s.get! (p + 1)).toNat % 64 * 4096 + (s.get! (p + 2)).toNat % 64 * 64 + (s.get! (p + 3)).toNat % 64, 4) := by
          unfold Go.Lib.decodeN; repeat' split
          all_goals first | (exfalso; omega) | rfl
        rw [d]; exact Or.inl ⟨rfl, by simp only []; omega, rfl⟩
      · refine Or.inr ⟨rfl, ?_⟩
        unfold Go.Lib.decodeN; repeat' split
        all_goals first | (exfalso; omega) | rfl
theorem read_ev (hs : s.size ≤ 9223372036854775807) (hp : p < s.size) : ∃ r, Ev (fun k => tabardref04_Read.f k s (p : Int)) r ∧ Fits (Utf8.decode s p) r := by
  rw [Go.Lib.decode_at]
  have b := get_lt s p
  have g1 := get_lt s (p + 1); have g2 := get_lt s (p + 2); have g3 := get_lt s (p + 3)
  have e0 : wrap64 (bt s (p : Int)) = ((s.get! p).toNat : Int) := by rw [bt_get s hp, w64 (by omega) (by omega)]
  have enter : ∀ r, Ev (fun k => if ((s.get! p).toNat : Int) < 128 then (some (((s.get! p).toNat : Int), (1 : Int), true)) else (if ((s.get! p).toNat : Int) ≥ 194 then (tabardref04_Read.j0 k s (p : Int) ((s.get! p).toNat : Int) (decide (((s.get! p).toNat : Int) < 224))) else (tabardref04_Read.j0 k s (p : Int) ((s.get! p).toNat : Int) false))) r → Ev (fun k => tabardref04_Read.f k s (p : Int)) r := by
    intro r h
    refine Ev.congr (fun k => by rw [tabardref04_Read.f, e0]) (Ev.cond (by omega) (Ev.cond (by omega) h))
  by_cases c0 : (s.get! p).toNat < 128
  · refine ⟨_, enter _ (Ev.cond (by omega) (Ev.fin rfl)), Or.inl ⟨rfl, ?_, ?_⟩⟩ <;> unfold Go.Lib.decodeN <;> rw [if_pos c0]
    rfl
  have w1 : wrap64 (((s.get! p).toNat : Int) - 192) = ((s.get! p).toNat : Int) - 192 := w64 (by omega) (by omega)
  have w2 : wrap64 (((s.get! p).toNat : Int) - 224) = ((s.get! p).toNat : Int) - 224 := w64 (by omega) (by omega)
  have w3 : wrap64 (((s.get! p).toNat : Int) - 240) = ((s.get! p).toNat : Int) - 240 := w64 (by omega) (by omega)
  by_cases c1 : 194 ≤ (s.get! p).toNat ∧ (s.get! p).toNat < 224
  · obtain ⟨r, hr, hf⟩ := read_w2 hs hp c1
    refine ⟨r, enter _ (Ev.ncond (by omega) (Ev.cond (by omega) ?_)), hf⟩
    rw [decide_eq_true (show ((s.get! p).toNat : Int) < 224 by omega)]
    refine Ev.step (fun k => by rw [tabardref04_Read.j0, w1]) (Ev.cond rfl hr)
  have j1 : ∀ r, (¬ ((s.get! p).toNat : Int) < 224 ∨ ¬ ((s.get! p).toNat : Int) ≥ 194) → Ev (fun k => if ((s.get! p).toNat : Int) ≥ 224 then tabardref04_Read.j1 k s (p : Int) ((s.get! p).toNat : Int) (decide (((s.get! p).toNat : Int) < 240)) else tabardref04_Read.j1 k s (p : Int) ((s.get! p).toNat : Int) false) r → Ev (fun k => tabardref04_Read.f k s (p : Int)) r := by
    intro r hc h
    refine enter _ (Ev.ncond (by omega) (Ev.ite (fun g => ?_) (fun g => ?_)))
    · rw [decide_eq_false (show ¬ ((s.get! p).toNat : Int) < 224 by omega)]
      exact Ev.step (fun k => by rw [tabardref04_Read.j0]) (Ev.ncond (by decide) h)
    · exact Ev.step (fun k => by rw [tabardref04_Read.j0]) (Ev.ncond (by decide) h)
  by_cases c2 : 224 ≤ (s.get! p).toNat ∧ (s.get! p).toNat < 240
  · obtain ⟨r, hr, hf⟩ := read_w3 hs hp c2
    refine ⟨r, j1 _ (by omega) (Ev.cond (by omega) ?_), hf⟩
    rw [decide_eq_true (show ((s.get! p).toNat : Int) < 240 by omega)]
    refine Ev.step (fun k => by rw [tabardref04_Read.j1, w2]) (Ev.cond rfl hr)
  by_cases c3 : 240 ≤ (s.get! p).toNat ∧ (s.get! p).toNat < 245
  · obtain ⟨r, hr, hf⟩ := read_w4 hs hp c3
    refine ⟨r, j1 _ (by omega) (Ev.cond (by omega) ?_), hf⟩
    rw [decide_eq_false (show ¬ ((s.get! p).toNat : Int) < 240 by omega)]
    refine Ev.step (fun k => by rw [tabardref04_Read.j1, w3]) (Ev.ncond (by decide) (Ev.cond (by omega) (Ev.cond (by omega) hr)))
  · refine ⟨(65533, 1, false), j1 _ (by omega) (Ev.ite (fun g => ?_) (fun g => ?_)), Or.inr ⟨rfl, ?_⟩⟩
    · rw [decide_eq_false (show ¬ ((s.get! p).toNat : Int) < 240 by omega)]
      exact Ev.step (fun k => by rw [tabardref04_Read.j1]) (Ev.ncond (by decide) (Ev.cond (by omega) (Ev.ncond (by omega) (Ev.fin rfl))))
    · exact Ev.step (fun k => by rw [tabardref04_Read.j1]) (Ev.ncond (by decide) (Ev.ncond (by omega) (Ev.fin rfl)))
    · unfold Go.Lib.decodeN; repeat' split
      all_goals first | (exfalso; omega) | rfl
end
end Go.Proofs.Ytghfclgcgecgdaa.Pure
namespace Go.Proofs.Ytghfclgcgecgdaa.Pure
open Go.RowKit Go.Proofs.YtghfclgcgecgdaaW.PrintWords Go.Proofs.YtghfclgcgecgdaaW.PrintLast Go.Proofs.YtghfclgcgecgdaaW.PrintMore Go.Proofs.Ytghfclgcgecgdaa.X
set_option linter.unusedVariables false
theorem rname_end (s : ByteArray) (n : Nat) : Ev (fun k => if (n : Int) ≥ 1 then (if (n : Int) ≤ 16 then ((tabardref04_Reserved.f k s).bind fun t => some (!t)) else some false) else some false) (decide (1 ≤ n ∧ n ≤ 16) && !resB s) := by
  by_cases h1 : 1 ≤ n
  · by_cases h2 : n ≤ 16
    · refine Ev.cond (by omega) (Ev.cond (by omega) ?_)
      rw [decide_eq_true ⟨h1, h2⟩, Bool.true_and]
      exact Ev.bind (rres_ev s) (Ev.fin rfl)
    · rw [decide_eq_false (fun e => h2 e.2)]
      exact Ev.cond (by omega) (Ev.ncond (by omega) (Ev.fin rfl))
  · rw [decide_eq_false (fun e => h1 e.1)]
    exact Ev.ncond (by omega) (Ev.fin rfl)
theorem decN_le (n a b c d : Nat) (h : 1 ≤ n) : (Go.Lib.decodeN n a b c d).2 ≤ n := by
  unfold Go.Lib.decodeN; repeat' split
  all_goals (simp only []; omega)
theorem dec_in (s : ByteArray) (p : Nat) (h : p < s.size) : p + (Utf8.decode s p).2 ≤ s.size := by
  rw [Go.Lib.decode_at]
  have := decN_le (s.size - p) (s.get! p).toNat (s.get! (p + 1)).toNat (s.get! (p + 2)).toNat (s.get! (p + 3)).toNat (by omega)
  omega
theorem rest_bad : restB ((65533 : Nat) : Int) = false := by decide +kernel
theorem rname_ev (s : ByteArray) (hs : s.size ≤ 9223372036854775807) : Ev (fun k => tabardref04_Name.f k s) (nameB s) := by
  have key : ∀ (m p n : Nat), s.size ≤ p + m → p ≤ s.size → n ≤ p → Ev (fun k => tabardref04_Name.l0 k s (n : Int) (p : Int)) (nameR m s p n) := by
    intro m
    induction m with
    | zero =>
      intro p n hp _ hn
      exact Ev.step (fun k => by rw [tabardref04_Name.l0]) (Ev.ncond (by omega) (rname_end s n))
    | succ m ih =>
      intro p n hp hp2 hn
      rw [nameR]
      by_cases c : p < s.size
      · rw [if_pos c]
        have hw := width_pos s p c
        obtain ⟨r, hr, hf⟩ := read_ev hs c
        refine Ev.step (fun k => by rw [tabardref04_Name.l0]) (Ev.cond (by omega) (Ev.bind hr ?_))
        rcases hf with ⟨f1, f2, f3⟩ | ⟨f1, f2⟩
        · have hb : p + (Utf8.decode s p).2 ≤ s.size := dec_in s p c
          rw [f2, f3]
          refine Ev.cond f1 ?_
          have go : restB ((Utf8.decode s p).1 : Int) = true → Ev (fun k => tabardref04_Name.l0 k s (wrap64 ((n : Int) + 1)) (wrap64 ((p : Int) + ((Utf8.decode s p).2 : Int)))) (nameR m s (p + (Utf8.decode s p).2) (n + 1)) := by
            intro _
            rw [w64 (x := (n : Int) + 1) (by omega) (by omega), w64 (x := (p : Int) + ((Utf8.decode s p).2 : Int)) (by omega) (by omega)]
            have := ih (p + (Utf8.decode s p).2) (n + 1) (by omega) hb (by omega)
            rwa [Int.natCast_add, Int.natCast_add] at this
          have tail : (n = 0 → startB ((Utf8.decode s p).1 : Int) = true) → Ev (fun k => (tabardref04_Rest.f k ((Utf8.decode s p).1 : Int)).bind fun t => (if t = true then (tabardref04_Name.l0 k s (wrap64 ((n : Int) + 1)) (wrap64 ((p : Int) + ((Utf8.decode s p).2 : Int)))) else (some false))) (if (n = 0 → startB ((Utf8.decode s p).1 : Int) = true) ∧ restB ((Utf8.decode s p).1 : Int) = true then nameR m s (p + (Utf8.decode s p).2) (n + 1) else false) := by
            intro h
            refine Ev.bind (rrest_ev _) (Ev.ite (fun g => ?_) (fun g => Ev.fin ?_))
            · rw [if_pos ⟨h, g⟩]; exact go g
            · rw [if_neg (fun e => g e.2)]
          refine Ev.ite (fun z => Ev.bind (rstart_ev _) (Ev.ite (fun h => tail (fun _ => h)) (fun h => Ev.fin ?_))) (fun z => tail (fun e => absurd (show (n : Int) = 0 by omega) z))
          rw [if_neg (fun e => h (e.1 (by omega)))]
        · rw [if_neg (fun e => by rw [f2] at e; exact absurd e.2 (by rw [rest_bad]; decide))]
          exact Ev.ncond (by rw [f1]; decide) (Ev.fin rfl)
      · rw [if_neg c]
        exact Ev.step (fun k => by rw [tabardref04_Name.l0]) (Ev.ncond (by omega) (rname_end s n))
  exact Ev.congr (fun k => by rw [tabardref04_Name.f]; rfl) (key s.size 0 0 (by omega) (by omega) (by omega))
theorem rrises_ev (ns : List ByteArray) (hn : ns.length ≤ 9000000000000000000) (hs : ∀ x ∈ ns, x.size ≤ 9223372036854775807) : Ev (fun k => tabardref04_Rises.f k ns) (risesB ns) := by
  have key : ∀ (m i : Nat), i + m = ns.length → Ev (fun k => tabardref04_Rises.l0 k ns (i : Int)) (risesR ns m i) := by
    intro m
    induction m with
    | zero =>
      intro i hi
      refine Ev.step (fun k => by rw [tabardref04_Rises.l0]) (Ev.ncond (by omega) ?_)
      exact Ev.fin rfl
    | succ m ih =>
      intro i hi
      rw [risesR]
      have sz : (rdOf ByteArray.empty ns (i : Int)).size ≤ 9223372036854775807 := by rw [rdOf_get _ ns (show i < ns.length by omega)]; exact hs _ (List.getElem_mem _)
      refine Ev.step (fun k => by rw [tabardref04_Rises.l0]) (Ev.cond (by omega) (Ev.cond (by omega) (Ev.bind (rname_ev _ sz) ?_)))
      refine Ev.ite (fun a => ?_) (fun a => Ev.fin ?_)
      · rw [a, Bool.true_and]
        have nx := ih (i + 1) (by omega)
        refine Ev.ite (fun b => ?_) (fun b => ?_)
        · rw [w64 (x := (i : Int) - 1) (by omega) (by omega), w64 (x := (i : Int) + 1) (by omega) (by omega), show (i : Int) - 1 = ((i - 1 : Nat) : Int) by omega, decide_eq_false (show ¬ i = 0 by omega), Bool.false_or]
          refine Ev.cond (by omega) (Ev.cond (by omega) (Ev.ite (fun c => ?_) (fun c => Ev.fin ?_)))
          · rw [c, Bool.true_and]; exact nx
          · rw [Bool.not_eq_true] at c; rw [c, Bool.false_and]
        · rw [decide_eq_true (show i = 0 by omega), Bool.true_or, Bool.true_and, w64 (by omega) (by omega)]
          exact nx
      · rw [Bool.not_eq_true] at a; rw [a, Bool.false_and]
  exact Ev.congr (fun k => by rw [tabardref04_Rises.f]; rfl) (key ns.length 0 (by omega))
section
variable {ns : List ByteArray} {n : Nat}
theorem rframe_yes (hs : SZ ns) (f : Fr ns n) : Ev (fun k => tabardref12_Frame.f k ns (n : Int)) true := by
  have := f.tr; have := f.n1; have := f.n2
  refine Ev.congr (fun k => by rw [tabardref12_Frame.f]) (Ev.cond (by omega) (Ev.bind (rrises_ev ns (by omega) hs) (Ev.cond f.ri (Ev.cond (show (n : Int) ≥ 1 by omega) (Ev.fin ?_)))))
  exact decide_eq_true (show (n : Int) ≤ 256 by omega)
theorem rframe_no (hs : SZ ns) (hn : ¬ Fr ns n) : Ev (fun k => tabardref12_Frame.f k ns (n : Int)) false := by
  refine Ev.congr (fun k => by rw [tabardref12_Frame.f]) (Ev.ite (fun a => Ev.bind (rrises_ev ns (by omega) hs) (Ev.ite (fun b => Ev.ite (fun c => Ev.fin ?_) (fun _ => Ev.fin rfl)) (fun _ => Ev.fin rfl))) (fun _ => Ev.fin rfl))
  exact decide_eq_false (fun e : (n : Int) ≤ 256 => hn ⟨by omega, by omega, by omega, b⟩)
variable {ac : List Bool} {nx : List (List Int)}
end
end Go.Proofs.Ytghfclgcgecgdaa.Pure
namespace Go.Proofs.Ytghfclgcgecgdaa.Pure
open Go.RowKit Go.Proofs.YtghfclgcgecgdaaW.PrintWords Go.Proofs.YtghfclgcgecgdaaW.PrintLast Go.Proofs.YtghfclgcgecgdaaW.PrintMore Go.Proofs.Ytghfclgcgecgdaa.X
set_option linter.unusedVariables false
theorem same_dense {ns : List ByteArray} {ac : List Bool} {nx : List (List Int)} (h0 : ns.length ≤ 9000000000000000000) (h1 : ac.length ≤ 9000000000000000000) (h2 : nx.length ≤ 9000000000000000000) (hr : RZ nx) :
    Ev (fun k => tabardref12_SameDense.f k ns ac nx ns ac nx) true := by
  have a := texts_ev ns ns h0
  have b := flags_ev ac ac h1
  rw [decide_eq_true rfl] at a b
  refine Ev.congr (fun k => by rw [tabardref12_SameDense.f]) (Ev.bind a (Ev.cond rfl (Ev.bind b (Ev.cond rfl ?_))))
  rw [show ((nx.length : Int) != (nx.length : Int)) = false by simp]
  refine Ev.step (fun k => by rw [tabardref12_SameDense.j0]) (Ev.ncond (by decide) ?_)
  have key : ∀ (m i : Nat), i + m = nx.length → Ev (fun k => tabardref12_SameDense.l0 k (i : Int) ns ac nx ns ac nx) true := by
    intro m
    induction m with
    | zero =>
      intro i hi
      exact Ev.step (fun k => by rw [tabardref12_SameDense.l0]) (Ev.ncond (by omega) (Ev.fin rfl))
    | succ m ih =>
      intro i hi
      have ii : i < nx.length := by omega
      have c := rints_ev (rd_L2 nx (i : Int)) (rd_L2 nx (i : Int)) (by rw [rdL_get nx ii]; exact hr _ (List.getElem_mem ii))
      rw [decide_eq_true rfl] at c
      refine Ev.step (fun k => by rw [tabardref12_SameDense.l0]) (Ev.cond (by omega) (Ev.cond (by omega) (Ev.cond (by omega) (Ev.bind c (Ev.cond rfl ?_)))))
      rw [w64 (by omega) (by omega)]
      exact ih (i + 1) (by omega)
  exact key nx.length 0 (by omega)
section
variable {ns : List ByteArray} {ac : List Bool} {nx : List (List Int)}
end
end Go.Proofs.Ytghfclgcgecgdaa.Pure
namespace Go.Proofs.Ytghfclgcgecgdaa.Pure
open Go.RowKit Go.Proofs.YtghfclgcgecgdaaW.PrintWords Go.Proofs.YtghfclgcgecgdaaW.PrintLast Go.Proofs.YtghfclgcgecgdaaW.PrintMore Go.Proofs.Ytghfclgcgecgdaa.X
set_option linter.unusedVariables false
/-- The first rows that a table tells. -/
def rows (j : Nat) (st : List Int) (ar : List S58) (i : Nat) : List (List Int) := (List.range i).map fun q => rowOf (cb st ar q) (2 ^ j)
theorem rows_len (j : Nat) (st : List Int) (ar : List S58) (i : Nat) : (rows j st ar i).length = i := by simp [rows]
theorem rows_succ (j : Nat) (st : List Int) (ar : List S58) (i : Nat) : rows j st ar (i + 1) = rows j st ar i ++ [rowOf (cb st ar i) (2 ^ j)] := by
  rw [rows, List.range_succ, List.map_append]; rfl
section
variable {ns : List ByteArray} {ac : List Bool} {st : List Int} {ar : List S58}
/-- A state's cubes are right. -/
def Ok (ns : List ByteArray) (ac : List Bool) (st : List Int) (ar : List S58) (q : Nat) : Prop := (cb st ar q).length ≤ 32 ∧ UnpOk (cb st ar q) ns.length ∧ ∀ x ∈ rowOf (cb st ar q) (2 ^ ns.length), x < (ac.length : Int)
theorem rt_l1 (fr : Fr ns ac.length) (fm : Fm ac.length st ar) {e : List ByteArray × List Bool × List (List Int) × Bool} (good : (∀ q, q < ac.length → Ok ns ac st ar q) → e = (ns, ac, rows ns.length st ar ac.length, true)) (bad : ¬ (∀ q, q < ac.length → Ok ns ac st ar q) → e = ([], [], [], false)) :
    ∀ (m i : Nat), i + m = ac.length → (∀ q, q < i → Ok ns ac st ar q) → Ev (fun k => tabardref12_Unpack.l1 k (ac.length : Int) (i : Int) ns ac st ar ns ac (rows ns.length st ar i)) e := by
  have n2 := fr.n2
  have sl := fm.sl
  have h6 := pow6 fr.tr
  intro m
  induction m with
  | zero =>
    intro i hi h
    obtain rfl : i = ac.length := by omega
    exact Ev.step (fun k => by rw [tabardref12_Unpack.l1]) (Ev.ncond (by omega) (Ev.fin (good h).symm))
  | succ m ih =>
    intro i hi h
    have ii : i < ac.length := by omega
    have b0 := fm.bounds (show i ≤ ac.length by omega)
    have b1 := fm.bounds (show i + 1 ≤ ac.length by omega)
    have so := fm.so i ii
    refine Ev.step (fun k => by rw [tabardref12_Unpack.l1]) ?_
    rw [w64 (x := (i : Int) + 1) (by omega) (by omega), show (i : Int) + 1 = ((i + 1 : Nat) : Int) by omega]
    refine Ev.cond (by omega) (Ev.cond (by omega) (Ev.cond (by omega) (Ev.cond (by omega) (Ev.cond (by omega) (Ev.cond b0.1 (Ev.cond so (Ev.cond b1.2 (Ev.ret rfl ?_))))))))
    show Ev (fun k => if ((cb st ar i).length : Int) > 32 then _ else _) e
    by_cases big : (cb st ar i).length ≤ 32
    · refine Ev.ncond (by omega) ?_
      by_cases u : UnpOk (cb st ar i) ns.length
      · refine Ev.bind (rright_good (by rw [rowOf_len]; omega) (runpack_ok u)) (Ev.ite (fun t => ?_) (fun t => Ev.fin (bad (fun z => t (decide_eq_true (z i ii).2.2))).symm))
        refine Ev.bind (runpack_ok u) (Ev.cond (by rw [rows_len]; omega) ?_)
        have q := ih (i + 1) (by omega) (fun q hq => by
          by_cases c : q = i
          · subst c; exact ⟨big, u, of_decide_eq_true t⟩
          · exact h q (by omega))
        rw [rows_succ] at q
        exact q
      · refine Ev.bind (rright_bad (by decide) (runpack_no fr.tr u)) ?_
        exact Ev.ncond (by decide) (Ev.fin (bad (fun z => u (z i ii).2.1)).symm)
    · exact Ev.cond (by omega) (Ev.fin (bad (fun z => big (z i ii).1)).symm)
theorem rt_l0 (fr : Fr ns ac.length) (sl : st.length = ac.length + 1) {e : List ByteArray × List Bool × List (List Int) × Bool} (hn : ns.length * 16 ≤ 140737488351232)
    (yes : (∀ i : Nat, i < ac.length → rd st (i : Int) ≤ rd st ((i + 1 : Nat) : Int)) → Ev (fun k => tabardref12_Unpack.l1 k (ac.length : Int) 0 ns ac st ar ns ac []) e) (no : ¬ (∀ i : Nat, i < ac.length → rd st (i : Int) ≤ rd st ((i + 1 : Nat) : Int)) → e = ([], [], [], false)) :
    ∀ (m i : Nat), i + m = ac.length → (∀ q : Nat, q < i → rd st (q : Int) ≤ rd st ((q + 1 : Nat) : Int)) → Ev (fun k => tabardref12_Unpack.l0 k (ac.length : Int) (i : Int) ns ac st ar) e := by
  have n2 := fr.n2
  intro m
  induction m with
  | zero =>
    intro i hi h
    obtain rfl : i = ac.length := by omega
    refine Ev.step (fun k => by rw [tabardref12_Unpack.l0]) ?_
    refine Ev.ncond (by omega) ?_
    refine Ev.ret rfl ?_
    refine Ev.cond (by simp; omega) ?_
    refine Ev.ret rfl ?_
    refine Ev.cond (by simp; omega) ?_
    exact yes h
  | succ m ih =>
    intro i hi h
    have ii : i < ac.length := by omega
    refine Ev.step (fun k => by rw [tabardref12_Unpack.l0]) ?_
    rw [w64 (x := (i : Int) + 1) (by omega) (by omega), show (i : Int) + 1 = ((i + 1 : Nat) : Int) by omega]
    refine Ev.cond (by omega) (Ev.cond (by omega) (Ev.cond (by omega) (Ev.cond (by omega) (Ev.cond (by omega) (Ev.ite (fun c => Ev.fin (no (fun z => by have := z i ii; omega)).symm) (fun c => ?_))))))
    refine ih (i + 1) (by omega) (fun q hq => ?_)
    by_cases d : q = i
    · subst d; omega
    · exact h q (by omega)
theorem rtab_ev (hs : SZ ns) (hn : ns.length * 16 ≤ 140737488351232) (hc : ac.length ≤ 9000000000000000000) {e : List ByteArray × List Bool × List (List Int) × Bool} (good : AOk ns ac st ar → e = (ns, ac, rows ns.length st ar ac.length, true)) (bad : ¬ AOk ns ac st ar → e = ([], [], [], false)) :
    Ev (fun k => tabardref12_Unpack.f k ns ac st ar) e := by
  have stop : ∀ {b}, b = true → ¬ AOk ns ac st ar → Ev (fun k => tabardref12_Unpack.j0 k (ac.length : Int) b ns ac st ar) e := fun h z => h ▸ Ev.step (fun k => by rw [tabardref12_Unpack.j0]) (Ev.cond rfl (Ev.fin (bad z).symm))
  by_cases fr : Fr ns ac.length
  · have n2 := fr.n2
    refine Ev.congr (fun k => by rw [tabardref12_Unpack.f]) (Ev.bind (rframe_yes hs fr) (Ev.cond rfl ?_))
    rw [w64 (by omega) (by omega)]
    refine Ev.ite (fun h1 => Ev.cond (by omega) (Ev.ite (fun h2 => Ev.cond (by omega) (Ev.cond (by omega) ?_)) (fun h2 => stop rfl (fun a => h2 a.fm.s0)))) (fun h1 => stop rfl (fun a => h1 (by have := a.fm.sl; omega)))
    have sl : st.length = ac.length + 1 := by omega
    by_cases h3 : rd st (ac.length : Int) = (ar.length : Int)
    · rw [show (rd st (ac.length : Int) != (ar.length : Int)) = false by simp [h3]]
      refine Ev.step (fun k => by rw [tabardref12_Unpack.j0]) (Ev.ncond (by decide) ?_)
      refine rt_l0 fr sl hn (fun so => ?_) (fun so => bad (fun a => so a.fm.so)) ac.length 0 (by omega) (by omega)
      have fm : Fm ac.length st ar := ⟨sl, h2, h3, so⟩
      exact rt_l1 fr fm (fun z => good ⟨fr, fm, fun q hq => (z q hq).1, fun q hq => (z q hq).2.1, fun q hq => (z q hq).2.2⟩) (fun z => bad (fun a => z (fun q hq => ⟨a.len q hq, a.unp q hq, a.low q hq⟩))) ac.length 0 (by omega) (by omega)
    · exact stop (bne_iff_ne.2 h3) (fun a => h3 a.fm.se)
  · refine Ev.congr (fun k => by rw [tabardref12_Unpack.f]) (Ev.bind (rframe_no hs fr) ?_)
    exact Ev.ncond (by decide) (stop rfl (fun a => fr a.fr))
/-! ### Words -/
end
end Go.Proofs.Ytghfclgcgecgdaa.Pure
namespace Go.Proofs.Ytghfclgcgecgdaa.Pure
open Go.RowKit Go.Proofs.YtghfclgcgecgdaaW.PrintWords Go.Proofs.YtghfclgcgecgdaaW.PrintLast Go.Proofs.YtghfclgcgecgdaaW.PrintMore Go.Proofs.Ytghfclgcgecgdaa.X
set_option linter.unusedVariables false
section
variable {ns : List ByteArray} {ac : List Bool} {st : List Int} {ar : List S58}
theorem tunpack_ok (hs : SZ ns) (ha : ar.length ≤ 9000000000000000000) (hn : ns.length * 16 ≤ 140737488351232) (a : AOk ns ac st ar) : Ev (fun k => table_Unpack.f k ns ac st ar) (ns, ac, rows ns.length st ar ac.length, 0) := by
  have n2 := a.fr.n2
  refine Ev.congr (fun k => by rw [table_Unpack.f]) (Ev.bind (check_ok hs ha a) (Ev.cond rfl ?_))
  refine Ev.ret (show slices_Clone_string_string.f ns = some ns by unfold slices_Clone_string_string.f; rw [if_pos (by omega)]) ?_
  refine Ev.ret (show slices_Clone_bool_bool.f ac = some ac by unfold slices_Clone_bool_bool.f; rw [if_pos (by omega)]) ?_
  have key : ∀ (m i : Nat), i + m = ac.length → Ev (fun k => table_Unpack.l0 k (ac.length : Int) (i : Int) ns ac st ar ns ac (rows ns.length st ar i)) (ns, ac, rows ns.length st ar ac.length, 0) := by
    intro m
    induction m with
    | zero =>
      intro i hi
      obtain rfl : i = ac.length := by omega
      exact Ev.step (fun k => by rw [table_Unpack.l0]) (Ev.ncond (by omega) (Ev.fin rfl))
    | succ m ih =>
      intro i hi
      have ii : i < ac.length := by omega
      refine Ev.step (fun k => by rw [table_Unpack.l0]) (Ev.cond (by omega) (Ev.ret (rowOf_ev a.fm n2 ii) (Ev.bind (unpack_ok (a.unp i ii)) ?_)))
      refine Ev.cond rfl ?_
      refine Ev.cond (by rw [rows_len]; omega) ?_
      rw [w64 (by omega) (by omega)]
      have q := ih (i + 1) (by omega)
      rw [rows_succ] at q
      exact q
  exact key ac.length 0 (by omega)
theorem tunpack_no (hs : SZ ns) (ha : ar.length ≤ 9000000000000000000) (hc : ac.length ≤ 9000000000000000000) (hst : st.length ≤ 9000000000000000000) (a : ¬ AOk ns ac st ar) : Ev (fun k => table_Unpack.f k ns ac st ar) ([], [], [], 3) := by
  refine Ev.congr (fun k => by rw [table_Unpack.f]) (Ev.bind (check_no hs ha hc hst a) ?_)
  exact Ev.ncond (by decide) (Ev.fin rfl)
/-- The greatest number of cubes of the first states. -/
def mostR (st : List Int) (ar : List S58) : Nat → Int
  | 0 => 0
  | i + 1 => mx (mostR st ar i) ((cb st ar i).length : Int)
theorem most_ok (hs : SZ ns) (ha : ar.length ≤ 9000000000000000000) (a : AOk ns ac st ar) : Ev (fun k => table_Most.f k ns ac st ar) (mostR st ar ac.length, 0) := by
  have n2 := a.fr.n2
  refine Ev.congr (fun k => by rw [table_Most.f]) (Ev.bind (check_ok hs ha a) (Ev.cond rfl ?_))
  have key : ∀ (m i : Nat), i + m = ac.length → Ev (fun k => table_Most.l0 k (mostR st ar i) (ac.length : Int) (i : Int) ns ac st ar) (mostR st ar ac.length, 0) := by
    intro m
    induction m with
    | zero =>
      intro i hi
      obtain rfl : i = ac.length := by omega
      exact Ev.step (fun k => by rw [table_Most.l0]) (Ev.ncond (by omega) (Ev.fin rfl))
    | succ m ih =>
      intro i hi
      refine Ev.step (fun k => by rw [table_Most.l0]) (Ev.cond (by omega) (Ev.ret (rowOf_ev a.fm n2 (show i < ac.length by omega)) ?_))
      rw [w64 (by omega) (by omega)]
      exact ih (i + 1) (by omega)
  exact key ac.length 0 (by omega)
theorem most_no (hs : SZ ns) (ha : ar.length ≤ 9000000000000000000) (hc : ac.length ≤ 9000000000000000000) (hst : st.length ≤ 9000000000000000000) (a : ¬ AOk ns ac st ar) : Ev (fun k => table_Most.f k ns ac st ar) (0, 3) := by
  refine Ev.congr (fun k => by rw [table_Most.f]) (Ev.bind (check_no hs ha hc hst a) ?_)
  exact Ev.ncond (by decide) (Ev.fin rfl)
theorem rmost_ok (ha : ar.length ≤ 9000000000000000000) (a : AOk ns ac st ar) : Ev (fun k => tabardref12_Most.f k ns ac st ar) (mostR st ar ac.length) := by
  have n2 := a.fr.n2
  have sl := a.fm.sl
  have key : ∀ (m i : Nat), i + m = ac.length → Ev (fun k => tabardref12_Most.l0 k (mostR st ar i) (i : Int) ns ac st ar) (mostR st ar ac.length) := by
    intro m
    induction m with
    | zero =>
      intro i hi
      obtain rfl : i = ac.length := by omega
      exact Ev.step (fun k => by rw [tabardref12_Most.l0]) (Ev.ncond (by omega) (Ev.fin rfl))
    | succ m ih =>
      intro i hi
      have ii : i < ac.length := by omega
      have b0 := a.fm.bounds (show i ≤ ac.length by omega)
      have b1 := a.fm.bounds (show i + 1 ≤ ac.length by omega)
      have cl := cb_len a.fm ii
      refine Ev.step (fun k => by rw [tabardref12_Most.l0]) ?_
      rw [w64 (x := (i : Int) + 1) (by omega) (by omega), show (i : Int) + 1 = ((i + 1 : Nat) : Int) by omega, w64 (x := rd st ((i + 1 : Nat) : Int) - rd st (i : Int)) (by omega) (by omega), ← cl]
      exact Ev.cond (by omega) (Ev.cond (by omega) (Ev.cond (by omega) (Ev.cond (by omega) (Ev.cond (by omega) (ih (i + 1) (by omega))))))
  exact Ev.congr (fun k => by rw [tabardref12_Most.f]; rfl) (key ac.length 0 (by omega))
end
end Go.Proofs.Ytghfclgcgecgdaa.Pure
namespace Go.Proofs.Ytghfclgcgecgdaa.Pure
open Go.RowKit Go.Proofs.YtghfclgcgecgdaaW.PrintWords Go.Proofs.YtghfclgcgecgdaaW.PrintLast Go.Proofs.YtghfclgcgecgdaaW.PrintMore Go.Proofs.Ytghfclgcgecgdaa.X
set_option linter.unusedVariables false
theorem TableUnpacks (ns : List ByteArray) (h0 : ns.length * 16 ≤ 140737488351232) (q0 : ∀ x ∈ ns, x.size ≤ maxLen) (ac : List Bool) (h1 : ac.length * 1 ≤ 140737488351232) (q1 : ∀ x ∈ ac, True) (st : List Int) (h2 : st.length * 8 ≤ 140737488351232) (q2 : ∀ x ∈ st, (Lit.int .i64 x).wf = true) (ar : List S58) (h3 : ar.length * 24 ≤ 140737488351232) (q3 : ∀ x ∈ ar, True) :
    ∃ k, tabardlaw12_TableUnpacks.f k ns ac st ar = some true := by
  have hs : SZ ns := fun x hx => q0 x hx
  have ha : ar.length ≤ 9000000000000000000 := by omega
  have hc : ac.length ≤ 9000000000000000000 := by omega
  have ht : st.length ≤ 9000000000000000000 := by omega
  have s := rsame_tab (t0 := ns) (u0 := ns) (t1 := ac) (u1 := ac) (t2 := st) (u2 := st) (t3 := ar) (u3 := ar) (by omega) (by omega) (by omega) (by omega)
  rw [decide_eq_true ⟨rfl, rfl, rfl, rfl⟩] at s
  refine Ev.rounds (Ev.congr (fun k => by rw [tabardlaw12_TableUnpacks.f]) (Ev.ret (copy_tab h0 h1 h2 h3) ?_))
  by_cases a : AOk ns ac st ar
  · have h6 := pow6 a.fr.tr
    have n2 := a.fr.n2
    refine Ev.bind (rtab_ev hs h0 (by omega) (fun _ => rfl) (fun z => absurd a z)) (Ev.bind (tunpack_ok hs ha h0 a) (Ev.bind (most_ok hs ha a) (Ev.bind fixed_ev (Ev.cond rfl (Ev.bind (check_ok hs ha a) ?_)))))
    refine Ev.ret rfl (Ev.cond rfl ?_)
    refine Ev.ret rfl (Ev.cond rfl ?_)
    refine Ev.ret rfl (Ev.cond rfl ?_)
    refine Ev.bind s ?_
    refine Ev.step (fun k => by rw [tabardlaw12_TableUnpacks.j0]) (Ev.ncond (by decide) (Ev.cond rfl ?_))
    have rz : RZ (rows ns.length st ar ac.length) := fun r hr => by
      obtain ⟨q, _, rfl⟩ := List.mem_map.1 hr
      rw [rowOf_len]; omega
    have sd := same_dense (ns := ns) (ac := ac) (nx := rows ns.length st ar ac.length) (by omega) hc (by rw [rows_len]; omega) rz
    refine Ev.bind sd (Ev.cond rfl (Ev.bind (rmost_ok ha a) (Ev.fin (by simp))))
  · refine Ev.bind (rtab_ev hs h0 (by omega) (fun z => absurd z a) (fun _ => rfl)) (Ev.bind (tunpack_no hs ha hc ht a) (Ev.bind (most_no hs ha hc ht a) (Ev.bind fixed_ev (Ev.cond rfl (Ev.bind (check_no hs ha hc ht a) ?_)))))
    refine Ev.ret rfl (Ev.cond rfl ?_)
    refine Ev.ret rfl (Ev.cond rfl ?_)
    refine Ev.ret rfl (Ev.cond rfl ?_)
    refine Ev.bind s ?_
    refine Ev.step (fun k => by rw [tabardlaw12_TableUnpacks.j0]) (Ev.ncond (by decide) ?_)
    refine Ev.ncond (by decide) ?_
    exact Ev.cond rfl (Ev.cond rfl (Ev.cond rfl (Ev.fin rfl)))
end Go.Proofs.Ytghfclgcgecgdaa.Pure

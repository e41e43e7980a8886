/- Answers that hold from some round on, and 64 bits: small words of the plain proofs; no condition. · What layer 11's loops over lists come to: comparisons, the least and the greatest of a list, tracks, halves; no condition but lengths. · The tree of a row and its cubes: what row.leaves, row.Pack and the reference's Cubes come to, and what is known of the cubes; no condition but that the row is one over six tracks or fewer. · What At and Unpack come to, the program's and the reference's; no condition but lengths. · What the reference's Unpack and Right come to, and the program's Right; no condition but lengths. · Comparisons of tables, the program's and the reference's; copies; no condition but lengths. · Same and Copy of tables; no condition but lengths. · Names and machines: what glyph.Rises, table.Right, table.Pack, table.Check, table.Run and table.Takes come to, on a right machine and on its table; no condition but lengths. · Machines and tables: what Right, Pack, Check, Run and Takes of table come to; no condition but lengths. · Tables: what table's Check, rowOf, Run and Takes come to; no condition but lengths. · The reference's names: what tabardref04's Start, Rest, Reserved, Read, Name and Rises come to: the same as glyph's; no condition but lengths. · The reference reads characters as Go's ranges do, and so its names and rising lists are glyph's; no condition but lengths. · The reference's names, rising lists, frames and right machines: the same as glyph's and table's; no condition but lengths. · The reference's table of a machine, copies of machines, and the comparison of two; no condition but lengths. · The reference's machine of a table, its words and its runs; no condition but lengths. · A table's machine and its greatest number of cubes, the program's and the reference's; no condition but lengths. · Words by their rank: the shorter first, then by their letters; the least word that a machine takes: plain lists and numbers, no program; no condition. · What pick's search and the reference's come to: the least word; no condition but lengths. · pick.shortest: the least word, or none; no condition but lengths. · The reference's shortest word: the least word, or none; no condition but lengths. · pick.Shortest, Empty and Solve on a right table, and on one that isn't; no condition but lengths. · What the layer of words and its reference compute: lengths, digits, words of tuples; each of the program's and of the reference's functions comes to one plain function of lists. No condition but that numbers are 64 bits wide. · Words of tuples: the program's Encode and Shortest and the reference's come to one plain function; so each WordEncodes is true. No condition but that numbers are 64 bits wide. · Digits and Number of the layer of words and of its reference come to one plain function; no condition but that numbers are 64 bits wide. · Decode of the layer of words and of its reference come to one plain function; no condition but that numbers are 64 bits wide. · Trim and Compare of the layer of words and of its reference come to plain functions; and what Decode, Digits, Number and Encode have to do with each other. No condition but that numbers are 64 bits wide. · Runs over a table against runs over its rows, comparisons of words against their ranks, and a word out of its own numbers again; no condition but lengths. · The law PickTakes over lists alone: the shortest word is taken, and no given word that is taken comes ahead of it; no condition beyond the statement's own. -/
import Derived.Test.YtninoenmhcbonaaX0
import Derived.Test.YtninoenmhcbonaaX0
import Derived.Test.YtninoenmhcbonaaX1
import Derived.Test.YtninoenmhcbonaaX12
import Derived.Test.YtninoenmhcbonaaX16
import Derived.Test.YtninoenmhcbonaaX19
import Derived.Test.YtninoenmhcbonaaX20
import Derived.Test.YtninoenmhcbonaaX28
import Derived.Test.YtninoenmhcbonaaX5
import Derived.Test.YtninoenmhcbonaaX58
import Derived.Test.YtninoenmhcbonaaX59
import Derived.Test.YtninoenmhcbonaaX60
import Derived.Test.YtninoenmhcbonaaX61
import Derived.Test.YtninoenmhcbonaaX62
import Derived.Test.YtninoenmhcbonaaX63
import Derived.Lib.DecodeN
namespace Go.Proofs.Ytninoenmhcbonaa.Pure
open Go.RowKit Go.Proofs.YtninoenmhcbonaaW.PrintWords Go.Proofs.YtninoenmhcbonaaW.PrintLast Go.Proofs.YtninoenmhcbonaaW.PrintMore Go.Proofs.Ytninoenmhcbonaa.X
set_option linter.unusedVariables false
/-! ### Rounds -/
theorem Ev.cond {α : Type} {c : Prop} [Decidable c] {f g : Nat → Option α} {r : α} (h : c) (k : Ev f r) : Ev (fun n => if c then f n else g n) r :=
  Ev.congr (fun _ => if_pos h) k
theorem Ev.ncond {α : Type} {c : Prop} [Decidable c] {f g : Nat → Option α} {r : α} (h : ¬ c) (k : Ev g r) : Ev (fun n => if c then f n else g n) r :=
  Ev.congr (fun _ => if_neg h) k
theorem Ev.ite {α : Type} {c : Prop} [Decidable c] {f g : Nat → Option α} {r : α} (h : c → Ev f r) (k : ¬ c → Ev g r) : Ev (fun n => if c then f n else g n) r := by
  by_cases hc : c
  · exact Ev.cond hc (h hc)
  · exact Ev.ncond hc (k hc)
theorem Ev.fin {α : Type} {r q : α} (h : r = q) : Ev (fun _ => Option.some r) q := h ▸ Ev.now r
theorem Ev.ret {α β : Type} {g : Option α} {a : α} {f : Nat → α → Option β} {r : β} (h : g = Option.some a) (k : Ev (fun n => f n a) r) : Ev (fun n => g.bind (f n)) r := by
  subst h; exact k
theorem w64 {x : Int} (h0 : -9223372036854775808 ≤ x) (h1 : x ≤ 9223372036854775807) : wrap64 x = x := by unfold wrap64; omega
theorem u64 {x : Int} (h0 : 0 ≤ x) (h1 : x < 18446744073709551616) : IntKind.u64.wrap x = x := by
  simp [IntKind.wrap, IntKind.bits, IntKind.signed]; omega
theorem rd_nat (l : List Int) (i : Nat) : rd l (i : Int) = l.getD i 0 := by simp [rd]
end Go.Proofs.Ytninoenmhcbonaa.Pure
namespace Go.Proofs.Ytninoenmhcbonaa.Pure
open Go.RowKit Go.Proofs.YtninoenmhcbonaaW.PrintWords Go.Proofs.YtninoenmhcbonaaW.PrintLast Go.Proofs.YtninoenmhcbonaaW.PrintMore Go.Proofs.Ytninoenmhcbonaa.X
set_option linter.unusedVariables false
instance : DecidableEq S73 := fun x y => decidable_of_iff (x.f0 = y.f0 ∧ x.f1 = y.f1 ∧ x.f2 = y.f2) (by cases x; cases y; simp)
theorem rdT_nat (l : List S73) (i : Nat) : rd_T73 l (i : Int) = l.getD i z73 := by simp [rd_T73]
theorem drop_rd (a b : List Int) {i : Nat} (h : i < a.length) (h' : i < b.length) : a.drop i = b.drop i ↔ rd a (i : Int) = rd b (i : Int) ∧ a.drop (i + 1) = b.drop (i + 1) := by
  rw [List.drop_eq_getElem_cons h, List.drop_eq_getElem_cons h', rd_nat, rd_nat, List.getD_eq_getElem?_getD, List.getD_eq_getElem?_getD, List.getElem?_eq_getElem h, List.getElem?_eq_getElem h', List.cons.injEq]
  rfl
theorem drop_rdT (a b : List S73) {i : Nat} (h : i < a.length) (h' : i < b.length) : a.drop i = b.drop i ↔ rd_T73 a (i : Int) = rd_T73 b (i : Int) ∧ a.drop (i + 1) = b.drop (i + 1) := by
  rw [List.drop_eq_getElem_cons h, List.drop_eq_getElem_cons h', rdT_nat, rdT_nat, List.getD_eq_getElem?_getD, List.getD_eq_getElem?_getD, List.getElem?_eq_getElem h, List.getElem?_eq_getElem h', List.cons.injEq]
  rfl
theorem ne_S (x y : S73) : ((!(x.f0 == y.f0)) || (!(x.f1 == y.f1) || !(x.f2 == y.f2))) = true ↔ ¬ x = y := by
  obtain ⟨a, b, c⟩ := x
  obtain ⟨d, e, f⟩ := y
  by_cases h0 : a = d <;> by_cases h1 : b = e <;> by_cases h2 : c = f <;> simp [h0, h1, h2]
theorem equal_ev (a b : List Int) (ha : a.length ≤ 9000000000000000000) : Ev (fun k => slices_Equal_int_int.f k a b) (decide (a = b)) := by
  refine Ev.congr (fun k => by rw [slices_Equal_int_int.f]) (Ev.ite (fun h => ?_) (fun h => Ev.fin ?_))
  · have hl : a.length = b.length := by omega
    have key : ∀ (m i : Nat), i + m = a.length → Ev (fun k => slices_Equal_int_int.l0 k a b (a.length : Int) (i : Int)) (decide (a.drop i = b.drop i)) := by
      intro m
      induction m with
      | zero =>
        intro i hi
        refine Ev.step (fun k => by rw [slices_Equal_int_int.l0]) (Ev.ncond (by omega) (Ev.fin ?_))
        rw [List.drop_eq_nil_of_le (by omega), List.drop_eq_nil_of_le (by omega)]; exact (decide_eq_true rfl).symm
      | succ m ih =>
        intro i hi
        refine Ev.step (fun k => by rw [slices_Equal_int_int.l0]) (Ev.cond (by omega) (Ev.cond (by omega) (Ev.cond (by omega) (Ev.cond (by omega) ?_))))
        refine Ev.ite (fun c => ?_) (fun c => Ev.fin ?_)
        · rw [w64 (by omega) (by omega)]
          have := ih (i + 1) (by omega)
          rwa [decide_eq_decide.2 ((drop_rd a b (by omega) (by omega)).trans (and_iff_right (id c)))]
        · exact (decide_eq_false (fun e => (id c) ((drop_rd a b (by omega) (by omega)).1 e).1)).symm
    exact key a.length 0 (by omega)
  · exact (decide_eq_false (fun e_ => h (by rw [e_]))).symm
theorem eq_S {x y : S73} (h : ¬ ((!(x.f0 == y.f0)) || (!(x.f1 == y.f1) || !(x.f2 == y.f2))) = true) : x = y := Classical.byContradiction fun d => h ((ne_S _ _).2 d)
theorem cubeq_ev (a b : List S73) (ha : a.length ≤ 9000000000000000000) : Ev (fun k => api_Cube.f k a b) (decide (a = b)) := by
  refine Ev.congr (fun k => by rw [api_Cube.f]) (Ev.ite (fun h => ?_) (fun h => Ev.fin ?_))
  · have hl : a.length = b.length := by omega
    have key : ∀ (m i : Nat), i + m = a.length → Ev (fun k => api_Cube.l0 k a b (a.length : Int) (i : Int)) (decide (a.drop i = b.drop i)) := by
      intro m
      induction m with
      | zero =>
        intro i hi
        refine Ev.step (fun k => by rw [api_Cube.l0]) (Ev.ncond (by omega) (Ev.fin ?_))
        rw [List.drop_eq_nil_of_le (by omega), List.drop_eq_nil_of_le (by omega)]; exact (decide_eq_true rfl).symm
      | succ m ih =>
        intro i hi
        refine Ev.step (fun k => by rw [api_Cube.l0]) (Ev.cond (by omega) (Ev.cond (by omega) (Ev.cond (by omega) (Ev.cond (by omega) ?_))))
        refine Ev.ite (fun c => Ev.fin ?_) (fun c => ?_)
        · exact (decide_eq_false (fun e => ((ne_S _ _).1 c) ((drop_rdT a b (by omega) (by omega)).1 e).1)).symm
        · rw [w64 (by omega) (by omega)]
          have := ih (i + 1) (by omega)
          rwa [decide_eq_decide.2 ((drop_rdT a b (by omega) (by omega)).trans (and_iff_right (eq_S c)))]
    exact key a.length 0 (by omega)
  · exact (decide_eq_false (fun e_ => h (by rw [e_]))).symm
/-! ### The least and the greatest -/
theorem mn_le (s x y : Int) : s ≤ mn x y ↔ s ≤ x ∧ s ≤ y := by unfold mn; split <;> omega
theorem mx_lt (s x y : Int) : mx x y < s ↔ x < s ∧ y < s := by unfold mx; split <;> omega
theorem all_drop (p : Int → Prop) (a : List Int) {i : Nat} (h : i < a.length) : (∀ x ∈ a.drop i, p x) ↔ p (rd a (i : Int)) ∧ ∀ x ∈ a.drop (i + 1), p x := by
  rw [List.drop_eq_getElem_cons h, rd_nat, List.getD_eq_getElem?_getD, List.getElem?_eq_getElem h]
  exact List.forall_mem_cons
theorem min_ev (a : List Int) (h1 : 1 ≤ a.length) (ha : a.length ≤ 9000000000000000000) : ∃ r, Ev (fun k => slices_Min_int_int.f k a) r ∧ ∀ s, s ≤ r ↔ ∀ x ∈ a, s ≤ x := by
  have key : ∀ (m i : Nat) (c : Int), i + m = a.length → ∃ r, Ev (fun k => slices_Min_int_int.l0 k a c (i : Int)) r ∧ ∀ s, s ≤ r ↔ s ≤ c ∧ ∀ x ∈ a.drop i, s ≤ x := by
    intro m
    induction m with
    | zero =>
      intro i c hi
      refine ⟨c, Ev.step (fun k => by rw [slices_Min_int_int.l0]) (Ev.ncond (by omega) (Ev.fin rfl)), fun s => ?_⟩
      rw [List.drop_eq_nil_of_le (by omega)]; simp
    | succ m ih =>
      intro i c hi
      obtain ⟨r, hr, hs⟩ := ih (i + 1) (mn c (rd a (i : Int))) (by omega)
      refine ⟨r, Ev.step (fun k => by rw [slices_Min_int_int.l0]) (Ev.cond (by omega) (Ev.cond (by omega) ?_)), fun s => ?_⟩
      · rw [w64 (by omega) (by omega)]; exact hr
      · rw [hs, mn_le, all_drop (fun x => s ≤ x) a (i := i) (by omega), and_assoc]
  obtain ⟨r, hr, hs⟩ := key (a.length - 1) 1 (rd a 0) (by omega)
  have hr' : Ev (fun k => slices_Min_int_int.l0 k a (rd a 0) 1) r := hr
  refine ⟨r, Ev.congr (fun k => by rw [slices_Min_int_int.f]) (Ev.ncond (by omega) (Ev.cond (by omega) hr')), fun s => ?_⟩
  rw [hs, show (∀ x ∈ a, s ≤ x) ↔ (∀ x ∈ a.drop 0, s ≤ x) by rw [List.drop_zero], all_drop (fun x => s ≤ x) a (i := 0) (by omega)]
  exact Iff.rfl
theorem max_ev (a : List Int) (h1 : 1 ≤ a.length) (ha : a.length ≤ 9000000000000000000) : ∃ r, Ev (fun k => slices_Max_int_int.f k a) r ∧ ∀ s, r < s ↔ ∀ x ∈ a, x < s := by
  have key : ∀ (m i : Nat) (c : Int), i + m = a.length → ∃ r, Ev (fun k => slices_Max_int_int.l0 k a c (i : Int)) r ∧ ∀ s, r < s ↔ c < s ∧ ∀ x ∈ a.drop i, x < s := by
    intro m
    induction m with
    | zero =>
      intro i c hi
      refine ⟨c, Ev.step (fun k => by rw [slices_Max_int_int.l0]) (Ev.ncond (by omega) (Ev.fin rfl)), fun s => ?_⟩
      rw [List.drop_eq_nil_of_le (by omega)]; simp
    | succ m ih =>
      intro i c hi
      obtain ⟨r, hr, hs⟩ := ih (i + 1) (mx c (rd a (i : Int))) (by omega)
      refine ⟨r, Ev.step (fun k => by rw [slices_Max_int_int.l0]) (Ev.cond (by omega) (Ev.cond (by omega) ?_)), fun s => ?_⟩
      · rw [w64 (by omega) (by omega)]; exact hr
      · rw [hs, mx_lt, all_drop (fun x => x < s) a (i := i) (by omega), and_assoc]
  obtain ⟨r, hr, hs⟩ := key (a.length - 1) 1 (rd a 0) (by omega)
  have hr' : Ev (fun k => slices_Max_int_int.l0 k a (rd a 0) 1) r := hr
  refine ⟨r, Ev.congr (fun k => by rw [slices_Max_int_int.f]) (Ev.ncond (by omega) (Ev.cond (by omega) hr')), fun s => ?_⟩
  rw [hs, show (∀ x ∈ a, x < s) ↔ (∀ x ∈ a.drop 0, x < s) by rw [List.drop_zero], all_drop (fun x => x < s) a (i := 0) (by omega)]
  exact Iff.rfl
/-! ### Rows -/
/-- Is it a row over some tracks? -/
def IsRow (l : List Int) : Prop := (∃ j, j ≤ 6 ∧ l.length = 2 ^ j) ∧ ∀ x ∈ l, 0 ≤ x
theorem pow_bits : ∀ n : Fin 65, 1 ≤ n.1 → (Go.bits .and .i64 (n.1 : Int) ((n.1 : Int) - 1) = 0 ↔ ∃ j : Fin 7, n.1 = 2 ^ j.1) := by decide +kernel
theorem pow6 {n : Nat} (h : n ≤ 6) : 2 ^ n ≤ 64 := by
  have := Nat.pow_le_pow_right (show 0 < 2 by omega) h
  omega
theorem IsRow.len {l : List Int} (h : IsRow l) : 1 ≤ l.length ∧ l.length ≤ 64 := by
  obtain ⟨⟨j, hj, e⟩, _⟩ := h
  have := pow6 hj
  have := Nat.two_pow_pos j
  omega
noncomputable instance decRow (l : List Int) : Decidable (IsRow l) := Classical.propDecidable _
theorem right_ev (l : List Int) (hl : l.length ≤ 9000000000000000000) : Ev (fun k => row_right.f k l) (decide (IsRow l)) := by
  refine Ev.congr (fun k => by rw [row_right.f]) ?_
  by_cases c : 1 ≤ l.length ∧ l.length ≤ 64
  · refine Ev.cond (by omega) (Ev.cond (by omega) ?_)
    have q := pow_bits ⟨l.length, by omega⟩ c.1
    rw [w64 (by omega) (by omega)]
    refine Ev.ite (fun h => ?_) (fun h => Ev.fin ?_)
    · obtain ⟨j, hj⟩ := q.1 h
      obtain ⟨r, hr, hs⟩ := min_ev l c.1 hl
      refine Ev.bind hr (Ev.fin ?_)
      congr 1
      exact propext ⟨fun h0 => ⟨⟨j.1, by omega, hj⟩, (hs 0).1 h0⟩, fun h0 => (hs 0).2 h0.2⟩
    · exact (decide_eq_false (fun ⟨⟨j, hj, e⟩, _⟩ => h (q.2 ⟨⟨j, by omega⟩, e⟩))).symm
  · have no : ¬ IsRow l := fun h => c h.len
    rw [decide_eq_false no]
    refine Ev.ite (fun h => Ev.ncond (by omega) (Ev.fin rfl)) (fun _ => Ev.fin rfl)
theorem tr (k : Nat) (n x i x' i' : Int) (h : i ≤ 6) (hx : x ≠ n) (e1 : wrap64 (x * 2) = x') (e2 : wrap64 (i + 1) = i') : tabardref11_Tracks.l0 (k + 1) n x i = tabardref11_Tracks.l0 k n x' i' := by
  rw [tabardref11_Tracks.l0, if_pos h, if_neg hx, e1, e2]
end Go.Proofs.Ytninoenmhcbonaa.Pure
namespace Go.Proofs.Ytninoenmhcbonaa.Pure
open Go.RowKit Go.Proofs.YtninoenmhcbonaaW.PrintWords Go.Proofs.YtninoenmhcbonaaW.PrintLast Go.Proofs.YtninoenmhcbonaaW.PrintMore Go.Proofs.Ytninoenmhcbonaa.X
set_option linter.unusedVariables false
def tree : Nat → List Int → Int → Int → List S73
  | 0, l, m, b => [⟨m, b, l.getD 0 0⟩]
  | j + 1, l, m, b =>
    if l.take (2 ^ j) = l.drop (2 ^ j) then tree j (l.take (2 ^ j)) m b
    else tree j (l.take (2 ^ j)) (m + ((2 ^ j : Nat) : Int)) b ++ tree j (l.drop (2 ^ j)) (m + ((2 ^ j : Nat) : Int)) (b + ((2 ^ j : Nat) : Int))
def shift (m b : Int) (x : S73) : S73 := ⟨m + x.f0, b + x.f1, x.f2⟩
/-- What is known of each cube. -/
structure Good (j : Nat) (x : S73) : Prop where
  b0 : 0 ≤ x.f1
  bm : x.f1 ≤ x.f0
  m2 : x.f0 < ((2 ^ j : Nat) : Int)
  lies : Go.bits .andNot .i64 x.f1 x.f0 = 0
def hit (a : Int) (x : S73) : Bool := Go.bits .and .i64 a x.f0 == x.f1

theorem clear_step : ∀ j : Fin 6, ∀ m : Fin 32, ∀ b : Fin 32, m.1 < 2 ^ j.1 → b.1 < 2 ^ j.1 → Go.bits .andNot .i64 (b.1 : Int) (m.1 : Int) = 0 →
    Go.bits .andNot .i64 (b.1 : Int) (((2 ^ j.1 : Nat) : Int) + (m.1 : Int)) = 0 ∧ Go.bits .andNot .i64 (((2 ^ j.1 : Nat) : Int) + (b.1 : Int)) (((2 ^ j.1 : Nat) : Int) + (m.1 : Int)) = 0 := by decide +kernel
theorem or_step : ∀ j : Fin 6, ∀ m : Fin 64, m.1 < 64 / 2 ^ (j.1 + 1) → Go.bits .or .i64 ((m.1 * 2 ^ (j.1 + 1) : Nat) : Int) ((2 ^ j.1 : Nat) : Int) = ((m.1 * 2 ^ (j.1 + 1) : Nat) : Int) + ((2 ^ j.1 : Nat) : Int) := by decide +kernel
theorem pow_le {j : Nat} (h : j < 6) : 2 ^ j ≤ 32 := by
  have : (2 : Nat) ^ j ≤ 2 ^ 5 := Nat.pow_le_pow_right (by decide) (by omega)
  exact this
theorem Good.nat {j : Nat} {x : S73} (g : Good j x) : ∃ m b : Nat, x.f0 = (m : Int) ∧ x.f1 = (b : Int) ∧ m < 2 ^ j ∧ b ≤ m := by
  obtain ⟨h0, h1, h2, _⟩ := g
  obtain ⟨m, hm⟩ := Int.eq_ofNat_of_zero_le (show 0 ≤ x.f0 by omega)
  obtain ⟨b, hb⟩ := Int.eq_ofNat_of_zero_le h0
  exact ⟨m, b, hm, hb, by omega, by omega⟩
theorem Good.up {j : Nat} {x : S73} (g : Good j x) : Good (j + 1) x := by
  obtain ⟨h0, h1, h2, h3⟩ := g
  exact ⟨h0, h1, by rw [Nat.pow_succ]; omega, h3⟩
theorem Good.low {j : Nat} {x : S73} (hj : j < 6) (g : Good j x) : Good (j + 1) (shift ((2 ^ j : Nat) : Int) 0 x) := by
  obtain ⟨m, b, e0, e1, hm, hb⟩ := g.nat
  have q := pow_le hj
  have := (clear_step ⟨j, hj⟩ ⟨m, by omega⟩ ⟨b, by omega⟩ hm (by show b < 2 ^ j; omega) (by have := g.lies; rw [e0, e1] at this; exact this)).1
  refine ⟨?_, ?_, ?_, ?_⟩
  · show 0 ≤ 0 + x.f1; omega
  · show 0 + x.f1 ≤ _ + x.f0; omega
  · show _ + x.f0 < _; rw [Nat.pow_succ]; omega
  · show Go.bits .andNot .i64 (0 + x.f1) (_ + x.f0) = 0
    rw [Int.zero_add, e0, e1]; exact this
theorem tree_len (j : Nat) : ∀ (l : List Int) (m b : Int), (tree j l m b).length ≤ 2 ^ j ∧ 1 ≤ (tree j l m b).length := by
  induction j with
  | zero => intro l m b; simp [tree]
  | succ j ih =>
    intro l m b
    simp only [tree]
    have h1 := ih (l.take (2 ^ j)) m b
    have h2 := ih (l.take (2 ^ j)) (m + ((2 ^ j : Nat) : Int)) b
    have h3 := ih (l.drop (2 ^ j)) (m + ((2 ^ j : Nat) : Int)) (b + ((2 ^ j : Nat) : Int))
    rw [Nat.pow_succ]
    split
    · omega
    · rw [List.length_append]; omega
/-! ### The program's tree and the reference's -/
theorem quot_half : ∀ j : Fin 6, 64 / 2 ^ j.1 = 2 * (64 / 2 ^ (j.1 + 1)) := by decide +kernel
theorem leaves_ev (j : Nat) : ∀ (l : List Int) (q p : Nat), j ≤ 6 → l.length = 2 ^ j → q < 64 / 2 ^ j → p < 64 / 2 ^ j →
    Ev (fun k => row_Pack.leaves k l ((q * 2 ^ j : Nat) : Int) ((p * 2 ^ j : Nat) : Int)) (tree j l ((q * 2 ^ j : Nat) : Int) ((p * 2 ^ j : Nat) : Int)) := by
  induction j with
  | zero =>
    intro l q p _ hl _ _
    have h1 : l.length = 1 := by simpa using hl
    refine Ev.step (fun k => by rw [row_Pack.leaves]) (Ev.cond (by omega) (Ev.cond (by omega) (Ev.fin ?_)))
    rw [tree]; congr 2
  | succ j ih =>
    intro l q p hj hl hq hp
    have hpw : 2 ^ (j + 1) = 2 ^ j + 2 ^ j := by rw [Nat.pow_succ]; omega
    have hpos := Nat.two_pow_pos j
    have hh : l.length / 2 = 2 ^ j := by omega
    have hT : (l.take (2 ^ j)).length = 2 ^ j := by rw [List.length_take]; omega
    have hD : (l.drop (2 ^ j)).length = 2 ^ j := by rw [List.length_drop]; omega
    have q2 := quot_half ⟨j, by omega⟩
    simp only [] at q2
    have e (x : Nat) : x * 2 ^ (j + 1) = (2 * x) * 2 ^ j := by rw [hpw, Nat.mul_add, ← Nat.add_mul, ← Nat.two_mul]
    have e1 (x : Nat) : ((x * 2 ^ (j + 1) : Nat) : Int) + ((2 ^ j : Nat) : Int) = (((2 * x + 1) * 2 ^ j : Nat) : Int) := by
      rw [e, Nat.add_mul, Nat.one_mul]; omega
    have o (x : Nat) (hx : x < 64 / 2 ^ (j + 1)) : Go.bits .or .i64 ((x * 2 ^ (j + 1) : Nat) : Int) ((2 ^ j : Nat) : Int) = ((x * 2 ^ (j + 1) : Nat) : Int) + ((2 ^ j : Nat) : Int) :=
      or_step ⟨j, by omega⟩ ⟨x, Nat.lt_of_lt_of_le hx (Nat.div_le_self _ _)⟩ hx
    refine Ev.step (fun k => by rw [row_Pack.leaves]) (Ev.ncond (by omega) ?_)
    rw [hh, o q hq, o p hp]
    refine Ev.bind (equal_ev _ _ (by rw [hT]; have := pow6 (show j ≤ 6 by omega); omega)) ?_
    rw [tree]
    by_cases c : l.take (2 ^ j) = l.drop (2 ^ j)
    · rw [decide_eq_true c, if_pos c]
      refine Ev.cond rfl ?_
      rw [e q, e p]
      exact ih _ (2 * q) (2 * p) (by omega) hT (by omega) (by omega)
    · rw [decide_eq_false c, if_neg c]
      refine Ev.ncond (by decide) ?_
      rw [e1 q, e1 p, e p]
      refine Ev.bind (ih _ (2 * q + 1) (2 * p) (by omega) hT (by omega) (by omega)) (Ev.bind (ih _ (2 * q + 1) (2 * p + 1) (by omega) hD (by omega) (by omega)) (Ev.fin rfl))
theorem leaves0 {j : Nat} {l : List Int} (hj : j ≤ 6) (hl : l.length = 2 ^ j) : Ev (fun k => row_Pack.leaves k l 0 0) (tree j l 0 0) := by
  have := leaves_ev j l 0 0 hj hl (Nat.div_pos (pow6 hj) (Nat.two_pow_pos j)) (Nat.div_pos (pow6 hj) (Nat.two_pow_pos j))
  simpa using this
theorem pack_ok {j : Nat} {l : List Int} (hj : j ≤ 6) (hl : l.length = 2 ^ j) (h : ∀ x ∈ l, 0 ≤ x) : Ev (fun k => row_Pack.f k l) (tree j l 0 0, 0) := by
  refine Ev.congr (fun k => by rw [row_Pack.f]) (Ev.bind (right_ev l (by have := pow6 hj; omega)) ?_)
  rw [decide_eq_true (show IsRow l from ⟨⟨j, hj, hl⟩, h⟩)]
  exact Ev.cond rfl (Ev.bind (leaves0 hj hl) (Ev.fin rfl))
theorem pack_no {l : List Int} (hl : l.length ≤ 9000000000000000000) (h : ¬ IsRow l) : Ev (fun k => row_Pack.f k l) ([], 3) := by
  refine Ev.congr (fun k => by rw [row_Pack.f]) (Ev.bind (right_ev l hl) ?_)
  rw [decide_eq_false h]
  exact Ev.ncond (by decide) (Ev.fin rfl)
end Go.Proofs.Ytninoenmhcbonaa.Pure
namespace Go.Proofs.Ytninoenmhcbonaa.Pure
open Go.RowKit Go.Proofs.YtninoenmhcbonaaW.PrintWords Go.Proofs.YtninoenmhcbonaaW.PrintLast Go.Proofs.YtninoenmhcbonaaW.PrintMore Go.Proofs.Ytninoenmhcbonaa.X
set_option linter.unusedVariables false
def atR : List S73 → Int → Int × Bool
  | [], _ => (0, false)
  | x :: l, a => if hit a x = true then (x.f2, true) else atR l a
theorem hit_iff (a : Int) (x : S73) : hit a x = true ↔ Go.bits .and .i64 a x.f0 = x.f1 := by simp [hit]
theorem rdT_get (l : List S73) {i : Nat} (h : i < l.length) : rd_T73 l (i : Int) = l[i] := by
  rw [rdT_nat, List.getD_eq_getElem?_getD, List.getElem?_eq_getElem h]; rfl
theorem at_ev (l : List S73) (a : Int) (hl : l.length ≤ 9000000000000000000) : Ev (fun k => row_At.f k l a) (atR l a) := by
  refine Ev.congr (fun k => by rw [row_At.f]) ?_
  have key : ∀ (m i : Nat), i + m = l.length → Ev (fun k => row_At.l0 k a l (l.length : Int) (i : Int)) (atR (l.drop i) a) := by
    intro m
    induction m with
    | zero =>
      intro i hi
      rw [List.drop_eq_nil_of_le (by omega)]
      refine Ev.step (fun k => by rw [row_At.l0]) (Ev.ncond (by omega) ?_)
      exact Ev.fin rfl
    | succ m ih =>
      intro i hi
      rw [List.drop_eq_getElem_cons (by omega), atR]
      refine Ev.step (fun k => by rw [row_At.l0]) (Ev.cond (by omega) (Ev.cond (by omega) (Ev.cond (by omega) ?_)))
      rw [rdT_get l (by omega), w64 (by omega) (by omega)]
      by_cases c : hit a l[i] = true
      · rw [if_pos c]; exact Ev.cond ((hit_iff _ _).1 c) (Ev.fin rfl)
      · rw [if_neg c]; exact Ev.ncond (fun e => c ((hit_iff _ _).2 e)) (ih (i + 1) (by omega))
  exact key l.length 0 (by omega)
/-- The row that a list of cubes tells. -/
def rowOf (l : List S73) (n : Nat) : List Int := (List.range n).map fun i => (atR l ((i : Nat) : Int)).1
theorem rowOf_len (l : List S73) (n : Nat) : (rowOf l n).length = n := by simp [rowOf]
theorem rowOf_get (l : List S73) (n : Nat) {i : Nat} (h : i < n) : (rowOf l n)[i]? = some (atR l (i : Int)).1 := by simp [rowOf, h]
structure UnpOk (l : List S73) (j : Nat) : Prop where
  six : j ≤ 6
  len : l.length ≤ 2 ^ j
  all : ∀ i : Nat, i < 2 ^ j → (atR l (i : Int)).2 = true
  pos : ∀ i : Nat, i < 2 ^ j → 0 ≤ (atR l (i : Int)).1
  tree : tree j (rowOf l (2 ^ j)) 0 0 = l
theorem UnpOk.mem {l : List S73} {j : Nat} (h : ∀ i : Nat, i < 2 ^ j → 0 ≤ (atR l (i : Int)).1) : ∀ x ∈ rowOf l (2 ^ j), 0 ≤ x := by
  intro x hx
  obtain ⟨i, hi, rfl⟩ := List.mem_map.1 hx
  exact h i (List.mem_range.1 hi)
theorem un_loop {l : List S73} {n : Nat} (hn : n ≤ 64) (hl : l.length ≤ 64) (h : ∀ i : Nat, i < n → (atR l (i : Int)).2 = true) {r : List Int × Int}
    (fin : Ev (fun k => (row_Pack.f k (rowOf l n)).bind fun bt => (if bt.2 = 0 then ((api_Cube.f k bt.1 l).bind fun t => (if t = true then (some (rowOf l n, 0)) else (some (([] : List Int), 3)))) else (some (([] : List Int), 3)))) r) :
    ∀ (m i : Nat) (y : List Int), i + m = n → y.length = n → (∀ z, z < i → y[z]? = (rowOf l n)[z]?) → Ev (fun k => row_Unpack.l0 k l y (n : Int) (i : Int)) r := by
  intro m
  induction m with
  | zero =>
    intro i y hi hy hz
    obtain rfl : y = rowOf l n := by
      apply List.ext_getElem?
      intro z
      by_cases c : z < n
      · exact hz z (by omega)
      · rw [List.getElem?_eq_none (by omega), List.getElem?_eq_none (by rw [rowOf_len]; omega)]
    exact Ev.step (fun k => by rw [row_Unpack.l0]) (Ev.ncond (by omega) fin)
  | succ m ih =>
    intro i y hi hy hz
    refine Ev.step (fun k => by rw [row_Unpack.l0]) (Ev.cond (by omega) (Ev.bind (at_ev l _ (by omega)) (Ev.cond (h i (by omega)) ?_)))
    refine Ev.cond (by omega) (Ev.cond (by omega) ?_)
    rw [w64 (by omega) (by omega), show ((i : Nat) : Int).toNat = i from rfl]
    refine ih (i + 1) _ (by omega) (by rw [List.length_set]; exact hy) (fun z hz2 => ?_)
    rw [List.getElem?_set]
    by_cases c : i = z
    · subst c
      rw [if_pos rfl, if_pos (by omega), rowOf_get l n (by omega)]
    · rw [if_neg c]; exact hz z (by omega)
theorem un_stop {l : List S73} {n q : Nat} (hn : n ≤ 64) (hl : l.length ≤ 64) (hq : q < n) (h : (atR l (q : Int)).2 = false) :
    ∀ (m i : Nat) (y : List Int), i + m = q → y.length = n → Ev (fun k => row_Unpack.l0 k l y (n : Int) (i : Int)) ([], 3) := by
  intro m
  induction m with
  | zero =>
    intro i y hi hy
    obtain rfl : i = q := by omega
    refine Ev.step (fun k => by rw [row_Unpack.l0]) (Ev.cond (by omega) (Ev.bind (at_ev l _ (by omega)) ?_))
    exact Ev.ncond (by rw [h]; decide) (Ev.fin rfl)
  | succ m ih =>
    intro i y hi hy
    refine Ev.step (fun k => by rw [row_Unpack.l0]) (Ev.cond (by omega) (Ev.bind (at_ev l _ (by omega)) (Ev.ite (fun _ => ?_) (fun _ => Ev.fin rfl))))
    refine Ev.cond (by omega) (Ev.cond (by omega) ?_)
    rw [w64 (by omega) (by omega)]
    exact ih (i + 1) _ (by omega) (by rw [List.length_set]; exact hy)
theorem shl_pow : ∀ j : Fin 7, shl .i64 1 (j.1 : Int) = ((2 ^ j.1 : Nat) : Int) := by decide +kernel
theorem un_enter {l : List S73} {j : Nat} {r : List Int × Int} (hj : j ≤ 6) (hl : l.length ≤ 2 ^ j) (h : ∀ y : List Int, y.length = 2 ^ j → Ev (fun k => row_Unpack.l0 k l y ((2 ^ j : Nat) : Int) 0) r) : Ev (fun k => row_Unpack.f k l (j : Int)) r := by
  have s := shl_pow ⟨j, by omega⟩
  have h6 := pow6 hj
  simp only [] at s
  refine Ev.congr (fun k => by rw [row_Unpack.f]) (Ev.ncond (by omega) ?_)
  rw [decide_eq_false (show ¬ ((j : Int) > 6) by omega)]
  refine Ev.step (fun k => by rw [row_Unpack.j0]) (Ev.ncond (by decide) (Ev.cond (by omega) ?_))
  rw [s]
  refine Ev.ncond (by omega) (Ev.cond (by omega) (Ev.cond (by rw [Int.toNat_natCast]; omega) ?_))
  refine Ev.ret rfl ?_
  have q := h (List.replicate ((2 ^ j : Nat) : Int).toNat 0) (by rw [List.length_replicate, Int.toNat_natCast])
  rw [List.length_replicate, Int.toNat_natCast]
  rw [Int.toNat_natCast] at q
  exact q
theorem unpack_ok {l : List S73} {j : Nat} (h : UnpOk l j) : Ev (fun k => row_Unpack.f k l (j : Int)) (rowOf l (2 ^ j), 0) := by
  have h6 := pow6 h.six
  have hl := h.len
  refine un_enter h.six h.len (fun y hy => ?_)
  refine un_loop h6 (by omega) h.all ?_ (2 ^ j) 0 y (by omega) hy (fun z hz => absurd hz (by omega))
  refine Ev.bind (pack_ok h.six (rowOf_len _ _) (UnpOk.mem h.pos)) (Ev.cond rfl ?_)
  rw [h.tree]
  refine Ev.bind (cubeq_ev l l (by omega)) ?_
  rw [decide_eq_true rfl]
  exact Ev.cond rfl (Ev.fin rfl)
theorem unpack_no {l : List S73} {j : Nat} (hj : j ≤ 6) (h : ¬ UnpOk l j) (hl9 : l.length ≤ 9000000000000000000) : Ev (fun k => row_Unpack.f k l (j : Int)) ([], 3) := by
  have h6 := pow6 hj
  by_cases hl : l.length ≤ 2 ^ j
  · by_cases ha : ∀ i : Nat, i < 2 ^ j → (atR l (i : Int)).2 = true
    · refine un_enter hj hl (fun y hy => ?_)
      refine un_loop h6 (by omega) ha ?_ (2 ^ j) 0 y (by omega) hy (fun z hz => absurd hz (by omega))
      by_cases hp : ∀ i : Nat, i < 2 ^ j → 0 ≤ (atR l (i : Int)).1
      · refine Ev.bind (pack_ok hj (rowOf_len _ _) (UnpOk.mem hp)) (Ev.cond rfl ?_)
        refine Ev.bind (cubeq_ev _ l (by show (tree j (rowOf l (2 ^ j)) 0 0).length ≤ _; have := (tree_len j (rowOf l (2 ^ j)) 0 0).1; omega)) ?_
        rw [decide_eq_false (fun e => h ⟨hj, hl, ha, hp, e⟩)]
        exact Ev.ncond (by decide) (Ev.fin rfl)
      · have no : ¬ IsRow (rowOf l (2 ^ j)) := fun hr => hp (fun i hi => hr.2 _ (List.mem_map.2 ⟨i, List.mem_range.2 hi, rfl⟩))
        exact Ev.bind (pack_no (by rw [rowOf_len]; omega) no) (Ev.ncond (by decide) (Ev.fin rfl))
    · obtain ⟨q, hq, hn⟩ : ∃ q, q < 2 ^ j ∧ (atR l ((q : Nat) : Int)).2 = false :=
        Classical.byContradiction fun c => ha fun i hi => Classical.byContradiction fun d => c ⟨i, hi, by simpa using d⟩
      exact un_enter hj hl (fun y hy => un_stop h6 (by omega) hq hn q 0 y (by omega) hy)
  · have s := shl_pow ⟨j, by omega⟩
    simp only [] at s
    refine Ev.congr (fun k => by rw [row_Unpack.f]) (Ev.ncond (by omega) ?_)
    rw [decide_eq_false (show ¬ ((j : Int) > 6) by omega)]
    refine Ev.step (fun k => by rw [row_Unpack.j0]) (Ev.ncond (by decide) (Ev.cond (by omega) ?_))
    rw [s]
    exact Ev.cond (by omega) (Ev.fin rfl)
end Go.Proofs.Ytninoenmhcbonaa.Pure
namespace Go.Proofs.Ytninoenmhcbonaa.Pure
open Go.RowKit Go.Proofs.YtninoenmhcbonaaW.PrintWords Go.Proofs.YtninoenmhcbonaaW.PrintLast Go.Proofs.YtninoenmhcbonaaW.PrintMore Go.Proofs.Ytninoenmhcbonaa.X
set_option linter.unusedVariables false
/-! ### Right -/
end Go.Proofs.Ytninoenmhcbonaa.Pure
namespace Go.Proofs.Ytninoenmhcbonaa.Pure
open Go.RowKit Go.Proofs.YtninoenmhcbonaaW.PrintWords Go.Proofs.YtninoenmhcbonaaW.PrintLast Go.Proofs.YtninoenmhcbonaaW.PrintMore Go.Proofs.Ytninoenmhcbonaa.X
set_option linter.unusedVariables false
theorem rdOf_get {α : Type} (d : α) (l : List α) {i : Nat} (h : i < l.length) : rdOf d l (i : Int) = l[i] := by
  simp [rdOf, List.getD_eq_getElem?_getD, h]
theorem rd_get (l : List Int) {i : Nat} (h : i < l.length) : rd l (i : Int) = l[i] := by
  rw [rd_nat, List.getD_eq_getElem?_getD, List.getElem?_eq_getElem h]; rfl
theorem rdL_get (l : List (List Int)) {i : Nat} (h : i < l.length) : rd_L4 l (i : Int) = l[i] := by
  simp [rd_L4, List.getD_eq_getElem?_getD, h]
end Go.Proofs.Ytninoenmhcbonaa.Pure
namespace Go.Proofs.Ytninoenmhcbonaa.Pure
open Go.RowKit Go.Proofs.YtninoenmhcbonaaW.PrintWords Go.Proofs.YtninoenmhcbonaaW.PrintLast Go.Proofs.YtninoenmhcbonaaW.PrintMore Go.Proofs.Ytninoenmhcbonaa.X
set_option linter.unusedVariables false
section
variable {t0 u0 : List ByteArray} {t1 u1 : List Bool} {t2 u2 : List Int} {t3 u3 : List S73}
theorem copy_tab (h0 : t0.length * 16 ≤ 140737488351232) (h1 : t1.length * 1 ≤ 140737488351232) (h2 : t2.length * 8 ≤ 140737488351232) (h3 : t3.length * 24 ≤ 140737488351232) :
    tabardref12_Copy.f t0 t1 t2 t3 = some (t0, t1, t2, t3) := by
  unfold tabardref12_Copy.f
  simp only [Option.bind_some, List.nil_append, List.length_nil]
  rw [if_pos (by omega), if_pos (by omega), if_pos (by omega), if_pos (by omega)]
end
end Go.Proofs.Ytninoenmhcbonaa.Pure
namespace Go.Proofs.Ytninoenmhcbonaa.Pure
open Go.RowKit Go.Proofs.YtninoenmhcbonaaW.PrintWords Go.Proofs.YtninoenmhcbonaaW.PrintLast Go.Proofs.YtninoenmhcbonaaW.PrintMore Go.Proofs.Ytninoenmhcbonaa.X
set_option linter.unusedVariables false
/-! ### Names -/
def startB (r : Int) : Bool := decide ((65 ≤ r ∧ r ≤ 90) ∨ (97 ≤ r ∧ r ≤ 122) ∨ r = 95 ∨ (913 ≤ r ∧ r ≤ 929) ∨ (931 ≤ r ∧ r ≤ 937) ∨ (945 ≤ r ∧ r ≤ 969))
def restB (r : Int) : Bool := startB r || decide ((48 ≤ r ∧ r ≤ 57) ∨ r = 8242 ∨ (8320 ≤ r ∧ r ≤ 8329))
theorem start_j3 (r : Int) (b : Bool) : Ev (fun k => glyph_Start.j3 k r b) (b || decide (945 ≤ r ∧ r ≤ 969)) := by
  cases b
  · refine Ev.step (fun k => by rw [glyph_Start.j3]) (Ev.ncond (by decide) (Ev.ite (fun h => Ev.ite (fun g => Ev.fin ?_) (fun g => Ev.fin ?_)) (fun h => Ev.fin ?_))) <;> simp <;> omega
  · rw [Bool.true_or]; exact Ev.step (fun k => by rw [glyph_Start.j3]) (Ev.cond rfl (Ev.fin rfl))
theorem start_j2 (r : Int) (b : Bool) : Ev (fun k => glyph_Start.j2 k r b) (b || decide ((931 ≤ r ∧ r ≤ 937) ∨ (945 ≤ r ∧ r ≤ 969))) := by
  cases b
  · refine Ev.step (fun k => by rw [glyph_Start.j2]) (Ev.ncond (by decide) (Ev.ite (fun h => ?_) (fun h => ?_)))
    · have := start_j3 r (decide (r ≤ 937))
      rwa [show (decide (r ≤ 937) || decide (945 ≤ r ∧ r ≤ 969)) = (false || decide ((931 ≤ r ∧ r ≤ 937) ∨ (945 ≤ r ∧ r ≤ 969))) by rw [Bool.eq_iff_iff]; simp; omega] at this
    · have := start_j3 r false
      rwa [show (false || decide (945 ≤ r ∧ r ≤ 969)) = (false || decide ((931 ≤ r ∧ r ≤ 937) ∨ (945 ≤ r ∧ r ≤ 969))) by rw [Bool.eq_iff_iff]; simp; omega] at this
  · rw [Bool.true_or]; exact Ev.step (fun k => by rw [glyph_Start.j2]) (Ev.cond rfl (Ev.fin rfl))
theorem start_j1 (r : Int) (b : Bool) : Ev (fun k => glyph_Start.j1 k r b) (b || decide ((913 ≤ r ∧ r ≤ 929) ∨ (931 ≤ r ∧ r ≤ 937) ∨ (945 ≤ r ∧ r ≤ 969))) := by
  cases b
  · refine Ev.step (fun k => by rw [glyph_Start.j1]) (Ev.ncond (by decide) (Ev.ite (fun h => ?_) (fun h => ?_)))
    · have := start_j2 r (decide (r ≤ 929))
      rwa [show (decide (r ≤ 929) || decide ((931 ≤ r ∧ r ≤ 937) ∨ (945 ≤ r ∧ r ≤ 969))) = (false || decide ((913 ≤ r ∧ r ≤ 929) ∨ (931 ≤ r ∧ r ≤ 937) ∨ (945 ≤ r ∧ r ≤ 969))) by rw [Bool.eq_iff_iff]; simp; omega] at this
    · have := start_j2 r false
      rwa [show (false || decide ((931 ≤ r ∧ r ≤ 937) ∨ (945 ≤ r ∧ r ≤ 969))) = (false || decide ((913 ≤ r ∧ r ≤ 929) ∨ (931 ≤ r ∧ r ≤ 937) ∨ (945 ≤ r ∧ r ≤ 969))) by rw [Bool.eq_iff_iff]; simp; omega] at this
  · rw [Bool.true_or]; exact Ev.step (fun k => by rw [glyph_Start.j1]) (Ev.cond rfl (Ev.fin rfl))
theorem start_j0 (r : Int) (b : Bool) : Ev (fun k => glyph_Start.j0 k r b) (b || decide ((97 ≤ r ∧ r ≤ 122) ∨ r = 95 ∨ (913 ≤ r ∧ r ≤ 929) ∨ (931 ≤ r ∧ r ≤ 937) ∨ (945 ≤ r ∧ r ≤ 969))) := by
  cases b
  · refine Ev.step (fun k => by rw [glyph_Start.j0]) (Ev.ncond (by decide) (Ev.ite (fun h => Ev.ite (fun g => ?_) (fun g => ?_)) (fun h => ?_)))
    · have := start_j1 r (decide (r ≤ 122))
      rwa [show (decide (r ≤ 122) || decide ((913 ≤ r ∧ r ≤ 929) ∨ (931 ≤ r ∧ r ≤ 937) ∨ (945 ≤ r ∧ r ≤ 969))) = (false || decide ((97 ≤ r ∧ r ≤ 122) ∨ r = 95 ∨ (913 ≤ r ∧ r ≤ 929) ∨ (931 ≤ r ∧ r ≤ 937) ∨ (945 ≤ r ∧ r ≤ 969))) by rw [Bool.eq_iff_iff]; simp; omega] at this
    · have := start_j1 r (r == 95)
      rwa [show ((r == 95) || decide ((913 ≤ r ∧ r ≤ 929) ∨ (931 ≤ r ∧ r ≤ 937) ∨ (945 ≤ r ∧ r ≤ 969))) = (false || decide ((97 ≤ r ∧ r ≤ 122) ∨ r = 95 ∨ (913 ≤ r ∧ r ≤ 929) ∨ (931 ≤ r ∧ r ≤ 937) ∨ (945 ≤ r ∧ r ≤ 969))) by rw [Bool.eq_iff_iff]; simp; omega] at this
    · have := start_j1 r (r == 95)
      rwa [show ((r == 95) || decide ((913 ≤ r ∧ r ≤ 929) ∨ (931 ≤ r ∧ r ≤ 937) ∨ (945 ≤ r ∧ r ≤ 969))) = (false || decide ((97 ≤ r ∧ r ≤ 122) ∨ r = 95 ∨ (913 ≤ r ∧ r ≤ 929) ∨ (931 ≤ r ∧ r ≤ 937) ∨ (945 ≤ r ∧ r ≤ 969))) by rw [Bool.eq_iff_iff]; simp; omega] at this
  · have := start_j1 r true
    exact Ev.step (fun k => by rw [glyph_Start.j0]) (Ev.cond rfl this)
theorem start_ev (r : Int) : Ev (fun k => glyph_Start.f k r) (startB r) := by
  refine Ev.congr (fun k => by rw [glyph_Start.f]) (Ev.ite (fun h => ?_) (fun h => ?_))
  · have := start_j0 r (decide (r ≤ 90))
    rwa [show (decide (r ≤ 90) || decide ((97 ≤ r ∧ r ≤ 122) ∨ r = 95 ∨ (913 ≤ r ∧ r ≤ 929) ∨ (931 ≤ r ∧ r ≤ 937) ∨ (945 ≤ r ∧ r ≤ 969))) = startB r by rw [startB, Bool.eq_iff_iff]; simp; omega] at this
  · have := start_j0 r false
    rwa [show (false || decide ((97 ≤ r ∧ r ≤ 122) ∨ r = 95 ∨ (913 ≤ r ∧ r ≤ 929) ∨ (931 ≤ r ∧ r ≤ 937) ∨ (945 ≤ r ∧ r ≤ 969))) = startB r by rw [startB, Bool.eq_iff_iff]; simp; omega] at this
theorem rest_ev (r : Int) : Ev (fun k => glyph_Rest.f k r) (restB r) := by
  refine Ev.congr (fun k => by rw [glyph_Rest.f]) (Ev.bind (start_ev r) ?_)
  rw [restB]
  cases startB r
  · refine Ev.ncond (by decide) (Ev.ite (fun h => Ev.ite (fun g => Ev.fin ?_) (fun g => Ev.ite (fun z => Ev.fin ?_) (fun z => Ev.ite (fun y => Ev.fin ?_) (fun y => Ev.fin ?_)))) (fun h => Ev.ite (fun z => Ev.fin ?_) (fun z => Ev.ite (fun y => Ev.fin ?_) (fun y => Ev.fin ?_)))) <;> rw [Bool.false_or, Bool.eq_iff_iff] <;> simp <;> omega
  · exact Ev.cond rfl (Ev.fin rfl)
def resB (s : ByteArray) : Bool := decide (s.toList ∈ [[97, 110, 100], [111, 114], [110, 111, 116], [101, 120], [97, 108, 108], [109, 111, 100], [116, 114, 117, 101], [102, 97, 108, 115, 101]])
theorem res_eq (s : ByteArray) : glyph_Reserved.f s = some (resB s) := by
  unfold glyph_Reserved.f resB
  simp only [List.mem_cons, List.not_mem_nil, or_false]
  repeat' split
  all_goals simp_all
theorem width_pos (s : ByteArray) (pos : Nat) (h : pos < s.size) : 1 ≤ (Utf8.decode s pos).2 := by
  by_cases ha : (s[pos]'h).toNat < 128
  · rw [decode_ascii s pos h ha]
    exact Nat.le_refl _
  · exact (decode_high s pos h (by omega)).2
/-- A name, from a byte on, behind n characters. -/
def nameR : Nat → ByteArray → Nat → Nat → Bool
  | 0, s, _, n => decide (1 ≤ n ∧ n ≤ 16) && !resB s
  | m + 1, s, p, n =>
    if p < s.size then (if (n = 0 → startB ((Utf8.decode s p).1 : Int) = true) ∧ restB ((Utf8.decode s p).1 : Int) = true then nameR m s (p + (Utf8.decode s p).2) (n + 1) else false)
    else decide (1 ≤ n ∧ n ≤ 16) && !resB s
def nameB (s : ByteArray) : Bool := nameR s.size s 0 0
theorem name_end (s : ByteArray) (n : Nat) : Ev (fun k => if (n : Int) > 0 then (if (n : Int) ≤ 16 then (glyph_Reserved.f s).bind fun t => some (!t) else some false) else some false) (decide (1 ≤ n ∧ n ≤ 16) && !resB s) := by
  by_cases h1 : 1 ≤ n
  · by_cases h2 : n ≤ 16
    · refine Ev.cond (by omega) (Ev.cond (by omega) ?_)
      rw [decide_eq_true ⟨h1, h2⟩, Bool.true_and]
      exact Ev.ret (res_eq s) (Ev.fin rfl)
    · rw [decide_eq_false (fun e => h2 e.2)]
      exact Ev.cond (by omega) (Ev.ncond (by omega) (Ev.fin rfl))
  · rw [decide_eq_false (fun e => h1 e.1)]
    exact Ev.ncond (by omega) (Ev.fin rfl)
theorem name_ev (s : ByteArray) (hs : s.size ≤ 9223372036854775807) : Ev (fun k => glyph_Name.f k s) (nameB s) := by
  have key : ∀ (m p n : Nat), s.size ≤ p + m → n ≤ p → (p = 0 ↔ n = 0) → Ev (fun k => glyph_Name.l0 k s p (n : Int)) (nameR m s p n) := by
    intro m
    induction m with
    | zero =>
      intro p n hp hn _
      exact Ev.step (fun k => by rw [glyph_Name.l0]) (Ev.ncond (by omega) (name_end s n))
    | succ m ih =>
      intro p n hp hn hz
      rw [nameR]
      by_cases c : p < s.size
      · rw [if_pos c]
        have hw := width_pos s p c
        refine Ev.step (fun k => by rw [glyph_Name.l0]) (Ev.cond c ?_)
        have st : Ev (fun k => if p = 0 then glyph_Start.f k ((Utf8.decode s p).1 : Int) else some true) (decide (n = 0 → startB ((Utf8.decode s p).1 : Int) = true)) := by
          refine Ev.ite (fun h => ?_) (fun h => Ev.fin ?_)
          · have n0 := hz.1 h
            rw [show decide (n = 0 → startB ((Utf8.decode s p).1 : Int) = true) = startB ((Utf8.decode s p).1 : Int) by rw [Bool.eq_iff_iff]; simp [n0]]
            exact start_ev _
          · have n0 : ¬ n = 0 := fun e => h (hz.2 e)
            exact (decide_eq_true (fun e => absurd e n0)).symm
        refine Ev.bind st (Ev.ite (fun h => Ev.bind (rest_ev _) (Ev.ite (fun g => ?_) (fun g => Ev.fin ?_))) (fun h => Ev.fin ?_))
        · rw [if_pos ⟨of_decide_eq_true h, g⟩, w64 (by omega) (by omega)]
          exact ih (p + (Utf8.decode s p).2) (n + 1) (by omega) (by omega) (by omega)
        · rw [if_neg (fun e => g e.2)]
        · rw [if_neg (fun e => h (decide_eq_true e.1))]
      · rw [if_neg c]
        exact Ev.step (fun k => by rw [glyph_Name.l0]) (Ev.ncond c (name_end s n))
  exact key s.size 0 0 (by omega) (by omega) (by omega)
/-- From a place on: names, each less than the next. -/
def risesR (ns : List ByteArray) : Nat → Nat → Bool
  | 0, _ => true
  | m + 1, i => nameB (rdOf ByteArray.empty ns (i : Int)) && ((decide (i = 0) || Op.bytesLess (rdOf ByteArray.empty ns ((i - 1 : Nat) : Int)).toList (rdOf ByteArray.empty ns (i : Int)).toList) && risesR ns m (i + 1))
def risesB (ns : List ByteArray) : Bool := risesR ns ns.length 0
theorem rises_ev (ns : List ByteArray) (hn : ns.length ≤ 9000000000000000000) (hs : ∀ x ∈ ns, x.size ≤ 9223372036854775807) : Ev (fun k => glyph_Rises.f k ns) (risesB ns) := by
  refine Ev.congr (fun k => by rw [glyph_Rises.f]) ?_
  have key : ∀ (m i : Nat), i + m = ns.length → Ev (fun k => glyph_Rises.l0 k ns ns (ns.length : Int) (i : Int)) (risesR ns m i) := by
    intro m
    induction m with
    | zero =>
      intro i hi
      refine Ev.step (fun k => by rw [glyph_Rises.l0]) (Ev.ncond (by omega) ?_)
      exact Ev.fin rfl
    | succ m ih =>
      intro i hi
      rw [risesR]
      have sz : (rdOf ByteArray.empty ns (i : Int)).size ≤ 9223372036854775807 := by rw [rdOf_get _ ns (show i < ns.length by omega)]; exact hs _ (List.getElem_mem _)
      refine Ev.step (fun k => by rw [glyph_Rises.l0]) (Ev.cond (by omega) (Ev.cond (by omega) (Ev.cond (by omega) (Ev.bind (name_ev _ sz) ?_))))
      refine Ev.ite (fun a => ?_) (fun a => Ev.fin ?_)
      · rw [a, Bool.true_and]
        have nx := ih (i + 1) (by omega)
        refine Ev.ite (fun b => ?_) (fun b => ?_)
        · rw [w64 (x := (i : Int) - 1) (by omega) (by omega), w64 (x := (i : Int) + 1) (by omega) (by omega), show (i : Int) - 1 = ((i - 1 : Nat) : Int) by omega, decide_eq_false (show ¬ i = 0 by omega), Bool.false_or]
          refine Ev.cond (by omega) (Ev.cond (by omega) (Ev.ite (fun c => ?_) (fun c => Ev.fin ?_)))
          · rw [c, Bool.true_and]; exact nx
          · rw [Bool.not_eq_true] at c; rw [c, Bool.false_and]
        · rw [decide_eq_true (show i = 0 by omega), Bool.true_or, Bool.true_and, w64 (by omega) (by omega)]
          exact nx
      · rw [Bool.not_eq_true] at a; rw [a, Bool.false_and]
  exact key ns.length 0 (by omega)
end Go.Proofs.Ytninoenmhcbonaa.Pure
namespace Go.Proofs.Ytninoenmhcbonaa.Pure
open Go.RowKit Go.Proofs.YtninoenmhcbonaaW.PrintWords Go.Proofs.YtninoenmhcbonaaW.PrintLast Go.Proofs.YtninoenmhcbonaaW.PrintMore Go.Proofs.Ytninoenmhcbonaa.X
set_option linter.unusedVariables false
section
variable {a : List Int} {j : Nat}
end
theorem right_bad' {l : List S73} {t s : Int} {e : Int} (he : e ≠ 0) (h : Ev (fun k => row_Unpack.f k l t) ([], e)) : Ev (fun k => row_Right.f k l t s) false :=
  Ev.congr (fun k => by rw [row_Right.f]) (Ev.bind h (Ev.ncond he (Ev.fin rfl)))
theorem right_good' {l : List S73} {t s : Int} {R : List Int} (h1 : 1 ≤ R.length) (h2 : R.length ≤ 64) (h : Ev (fun k => row_Unpack.f k l t) (R, 0)) : Ev (fun k => row_Right.f k l t s) (decide (∀ x ∈ R, x < s)) := by
  obtain ⟨r, hr, hs⟩ := max_ev R h1 (by omega)
  refine Ev.congr (fun k => by rw [row_Right.f]) (Ev.bind h ?_)
  refine Ev.cond rfl ?_
  refine Ev.bind hr (Ev.fin ?_)
  exact decide_eq_decide.2 (hs s)
def SZ (ns : List ByteArray) : Prop := ∀ x ∈ ns, x.size ≤ 9223372036854775807
/-! ### The tracks -/
structure Fr (ns : List ByteArray) (n : Nat) : Prop where
  tr : ns.length ≤ 6
  n1 : 1 ≤ n
  n2 : n ≤ 256
  ri : risesB ns = true
section
variable {ns : List ByteArray} {n : Nat}
theorem tracks_yes (hs : SZ ns) (f : Fr ns n) : Ev (fun k => table_tracks.f k ns (n : Int)) true := by
  have := f.tr; have := f.n1; have := f.n2
  refine Ev.congr (fun k => by rw [table_tracks.f]) (Ev.cond (by omega) (Ev.cond (by omega) (Ev.cond (by omega) (Ev.bind (rises_ev ns (by omega) hs) (Ev.fin f.ri)))))
theorem tracks_no (hs : SZ ns) (hn : ¬ Fr ns n) : Ev (fun k => table_tracks.f k ns (n : Int)) false := by
  refine Ev.congr (fun k => by rw [table_tracks.f]) (Ev.ite (fun a => Ev.ite (fun b => Ev.ite (fun c => Ev.bind (rises_ev ns (by omega) hs) (Ev.fin ?_)) (fun _ => Ev.fin rfl)) (fun _ => Ev.fin rfl)) (fun _ => Ev.fin rfl))
  cases e : risesB ns
  · rfl
  · exact absurd ⟨by omega, by omega, by omega, e⟩ hn
/-! ### Machines -/
theorem shl_tr {ns : List ByteArray} (h : ns.length ≤ 6) : shl .i64 1 (ns.length : Int) = ((2 ^ ns.length : Nat) : Int) := shl_pow ⟨ns.length, by omega⟩
variable {ac : List Bool} {nx : List (List Int)}
end
/-! ### The table of a machine -/
section
variable {ns : List ByteArray} {ac : List Bool} {nx : List (List Int)}
end
end Go.Proofs.Ytninoenmhcbonaa.Pure
namespace Go.Proofs.Ytninoenmhcbonaa.Pure
open Go.RowKit Go.Proofs.YtninoenmhcbonaaW.PrintWords Go.Proofs.YtninoenmhcbonaaW.PrintLast Go.Proofs.YtninoenmhcbonaaW.PrintMore Go.Proofs.Ytninoenmhcbonaa.X
set_option linter.unusedVariables false
/-- The cubes of a state. -/
def cb (st : List Int) (ar : List S73) (q : Nat) : List S73 := (ar.take (rd st ((q + 1 : Nat) : Int)).toNat).drop (rd st (q : Int)).toNat
/-- The places are right. -/
structure Fm (n : Nat) (st : List Int) (ar : List S73) : Prop where
  sl : st.length = n + 1
  s0 : rd st 0 = 0
  se : rd st (n : Int) = (ar.length : Int)
  so : ∀ i : Nat, i < n → rd st (i : Int) ≤ rd st ((i + 1 : Nat) : Int)
theorem Fm.up {n : Nat} {st : List Int} {ar : List S73} (f : Fm n st ar) : ∀ (d i : Nat), i + d ≤ n → rd st (i : Int) ≤ rd st ((i + d : Nat) : Int) := by
  intro d
  induction d with
  | zero => intro i _; exact Int.le_refl _
  | succ d ih => intro i h; exact Int.le_trans (ih i (by omega)) (f.so (i + d) (by omega))
theorem Fm.bounds {n : Nat} {st : List Int} {ar : List S73} (f : Fm n st ar) {q : Nat} (hq : q ≤ n) : 0 ≤ rd st (q : Int) ∧ rd st (q : Int) ≤ (ar.length : Int) := by
  have a := f.up q 0 (by omega)
  have b := f.up (n - q) q (by omega)
  rw [Nat.zero_add] at a
  rw [show q + (n - q) = n by omega, f.se] at b
  have s0 := f.s0
  have e : rd st ((0 : Nat) : Int) = 0 := s0
  omega
theorem rowOf_ev {n : Nat} {ns : List ByteArray} {ac : List Bool} {st : List Int} {ar : List S73} (f : Fm n st ar) (hn : n ≤ 256) {q : Nat} (hq : q < n) : table_rowOf.f ns ac st ar (q : Int) = some (cb st ar q) := by
  have sl := f.sl
  have b0 := f.bounds (show q ≤ n by omega)
  have b1 := f.bounds (show q + 1 ≤ n by omega)
  have so := f.so q hq
  unfold table_rowOf.f
  rw [w64 (x := (q : Int) + 1) (by omega) (by omega), show (q : Int) + 1 = ((q + 1 : Nat) : Int) by omega]
  rw [if_pos (by omega), if_pos (by omega), if_pos (by omega), if_pos (by omega), if_pos b0.1, if_pos so, if_pos b1.2]
  rfl
theorem sorted_ev {n : Nat} {st : List Int} (hl : st.length = n + 1) (hn : n ≤ 256) : Ev (fun k => slices_IsSorted_int_int.f k st) (decide (∀ i : Nat, i < n → rd st (i : Int) ≤ rd st ((i + 1 : Nat) : Int))) := by
  refine Ev.congr (fun k => by rw [slices_IsSorted_int_int.f]) ?_
  have key : ∀ (m : Nat), m ≤ n → Ev (fun k => slices_IsSorted_int_int.l0 k st (m : Int)) (decide (∀ i : Nat, i < m → rd st (i : Int) ≤ rd st ((i + 1 : Nat) : Int))) := by
    intro m
    induction m with
    | zero =>
      intro _
      rw [decide_eq_true (show ∀ i : Nat, i < 0 → rd st (i : Int) ≤ rd st ((i + 1 : Nat) : Int) from fun i hi => absurd hi (by omega))]
      exact Ev.step (fun k => by rw [slices_IsSorted_int_int.l0]) (Ev.ncond (by omega) (Ev.fin rfl))
    | succ m ih =>
      intro hm
      refine Ev.step (fun k => by rw [slices_IsSorted_int_int.l0]) (Ev.cond (by omega) (Ev.cond (by omega) (Ev.cond (by omega) ?_)))
      rw [w64 (by omega) (by omega), show ((m + 1 : Nat) : Int) - 1 = (m : Int) by omega]
      refine Ev.cond (by omega) (Ev.cond (by omega) ?_)
      refine Ev.ret (show cmp_Less_int.f (rd st ((m + 1 : Nat) : Int)) (rd st (m : Int)) = some (decide (rd st ((m + 1 : Nat) : Int) < rd st (m : Int))) by simp [cmp_Less_int.f, cmp_isNaN_int.f]) ?_
      refine Ev.ite (fun c => Ev.fin ?_) (fun c => ?_)
      · have c := of_decide_eq_true c
        exact (decide_eq_false (fun h => by have := h m (by omega); omega)).symm
      · have c : ¬ rd st ((m + 1 : Nat) : Int) < rd st (m : Int) := fun h => c (decide_eq_true h)
        rw [decide_eq_decide.2 (show (∀ i : Nat, i < m + 1 → rd st (i : Int) ≤ rd st ((i + 1 : Nat) : Int)) ↔ (∀ i : Nat, i < m → rd st (i : Int) ≤ rd st ((i + 1 : Nat) : Int)) from
          ⟨fun h i hi => h i (by omega), fun h i hi => by
            by_cases e : i = m
            · subst e; omega
            · exact h i (by omega)⟩)]
        exact ih (by omega)
  have := key n (Nat.le_refl n)
  rw [hl, w64 (by omega) (by omega), show ((n + 1 : Nat) : Int) - 1 = (n : Int) by omega]
  exact this
/-- A right table. -/
structure AOk (ns : List ByteArray) (ac : List Bool) (st : List Int) (ar : List S73) : Prop where
  fr : Fr ns ac.length
  fm : Fm ac.length st ar
  len : ∀ q, q < ac.length → (cb st ar q).length ≤ 32
  unp : ∀ q, q < ac.length → UnpOk (cb st ar q) ns.length
  low : ∀ q, q < ac.length → ∀ x ∈ rowOf (cb st ar q) (2 ^ ns.length), x < (ac.length : Int)
section
variable {ns : List ByteArray} {ac : List Bool} {st : List Int} {ar : List S73}
theorem row_right {l : List S73} {j : Nat} (hj : j ≤ 6) {s : Int} {e : Int} {f : Nat → Option Int} (hl9 : l.length ≤ 9000000000000000000)
    (yes : (UnpOk l j ∧ ∀ x ∈ rowOf l (2 ^ j), x < s) → Ev f e) (no : ¬ (UnpOk l j ∧ ∀ x ∈ rowOf l (2 ^ j), x < s) → e = 3) :
    Ev (fun k => (row_Right.f k l (j : Int) s).bind fun t => if t = true then f k else some 3) e := by
  have h6 := pow6 hj
  have hp := Nat.two_pow_pos j
  by_cases u : UnpOk l j
  · refine Ev.bind (right_good' (by rw [rowOf_len]; omega) (by rw [rowOf_len]; omega) (unpack_ok u)) (Ev.ite (fun t => yes ⟨u, of_decide_eq_true t⟩) (fun t => Ev.fin (no (fun z => t (decide_eq_true z.2))).symm))
  · refine Ev.bind (right_bad' (by decide) (unpack_no hj u hl9)) ?_
    exact Ev.ncond (by decide) (Ev.fin (no (fun z => u z.1)).symm)
theorem check_loop (hs : SZ ns) (fr : Fr ns ac.length) (fm : Fm ac.length st ar) (ha : ar.length ≤ 9000000000000000000) {e : Int} :
    ∀ (m i : Nat), i + m = ac.length → (e = 3 ∨ e = 0) →
      (e = 0 → ∀ q, i ≤ q → q < ac.length → (cb st ar q).length ≤ 32 ∧ UnpOk (cb st ar q) ns.length ∧ ∀ x ∈ rowOf (cb st ar q) (2 ^ ns.length), x < (ac.length : Int)) →
      (e = 3 → ∃ q, i ≤ q ∧ q < ac.length ∧ ¬ ((cb st ar q).length ≤ 32 ∧ UnpOk (cb st ar q) ns.length ∧ ∀ x ∈ rowOf (cb st ar q) (2 ^ ns.length), x < (ac.length : Int))) →
      Ev (fun k => table_Check.l0 k (ac.length : Int) (ac.length : Int) (i : Int) ns ac st ar) e := by
  have n2 := fr.n2
  intro m
  induction m with
  | zero =>
    intro i hi h h0 h3
    refine Ev.step (fun k => by rw [table_Check.l0]) (Ev.ncond (by omega) (Ev.fin ?_))
    rcases h with h | h
    · obtain ⟨q, h1, h2, _⟩ := h3 h; omega
    · exact h.symm
  | succ m ih =>
    intro i hi h h0 h3
    have ii : i < ac.length := by omega
    refine Ev.step (fun k => by rw [table_Check.l0]) (Ev.cond (by omega) ?_)
    refine Ev.ret (rowOf_ev fm n2 ii) ?_
    have cl : (cb st ar i).length ≤ 9000000000000000000 := by rw [cb, List.length_drop, List.length_take]; omega
    by_cases big : (cb st ar i).length ≤ 32
    · refine Ev.ncond (by omega) ?_
      rw [w64 (by omega) (by omega)]
      refine row_right fr.tr cl (fun ok => ih (i + 1) (by omega) h (fun z q h1 h2 => h0 z q (by omega) h2) (fun z => ?_)) (fun no => ?_)
      · obtain ⟨q, h1, h2, h4⟩ := h3 z
        by_cases e1 : q = i
        · subst e1; exact absurd ⟨big, ok.1, ok.2⟩ h4
        · exact ⟨q, by omega, h2, h4⟩
      · rcases h with h | h
        · exact h
        · have := h0 h i (Nat.le_refl i) ii; exact absurd this.2 no
    · refine Ev.cond (by omega) (Ev.fin ?_)
      rcases h with h | h
      · exact h.symm
      · exact absurd (h0 h i (Nat.le_refl i) ii).1 big
theorem check_ok (hs : SZ ns) (ha : ar.length ≤ 9000000000000000000) (a : AOk ns ac st ar) : Ev (fun k => table_Check.f k ns ac st ar) 0 := by
  have n2 := a.fr.n2
  have sl := a.fm.sl
  refine Ev.congr (fun k => by rw [table_Check.f]) (Ev.bind (tracks_yes hs a.fr) (Ev.cond rfl ?_))
  rw [w64 (by omega) (by omega)]
  refine Ev.cond (by omega) (Ev.cond (by omega) (Ev.cond a.fm.s0 (Ev.cond (by omega) (Ev.cond (by omega) (Ev.cond a.fm.se (Ev.bind (sorted_ev sl n2) ?_))))))
  rw [decide_eq_true a.fm.so]
  refine Ev.step (fun k => by rw [table_Check.j0]) (Ev.ncond (by decide) ?_)
  exact check_loop hs a.fr a.fm ha ac.length 0 (by omega) (Or.inr rfl) (fun _ q _ hq => ⟨a.len q hq, a.unp q hq, a.low q hq⟩) (fun h => absurd h (by decide))
theorem check_no (hs : SZ ns) (ha : ar.length ≤ 9000000000000000000) (hc : ac.length ≤ 9000000000000000000) (hst : st.length ≤ 9000000000000000000) (a : ¬ AOk ns ac st ar) : Ev (fun k => table_Check.f k ns ac st ar) 3 := by
  have stop : ∀ {b}, b = true → Ev (fun k => table_Check.j0 k (ac.length : Int) b ns ac st ar) 3 := fun e => e ▸ Ev.step (fun k => by rw [table_Check.j0]) (Ev.cond rfl (Ev.fin rfl))
  by_cases fr : Fr ns ac.length
  · have n2 := fr.n2
    refine Ev.congr (fun k => by rw [table_Check.f]) (Ev.bind (tracks_yes hs fr) (Ev.cond rfl ?_))
    rw [w64 (by omega) (by omega)]
    refine Ev.ite (fun h1 => Ev.cond (by omega) (Ev.ite (fun h2 => Ev.cond (by omega) (Ev.cond (by omega) (Ev.ite (fun h3 => ?_) (fun _ => stop rfl)))) (fun _ => stop rfl))) (fun _ => stop rfl)
    have sl : st.length = ac.length + 1 := by omega
    refine Ev.bind (sorted_ev sl n2) ?_
    by_cases so : ∀ i : Nat, i < ac.length → rd st (i : Int) ≤ rd st ((i + 1 : Nat) : Int)
    · rw [decide_eq_true so]
      have fm : Fm ac.length st ar := ⟨sl, h2, h3, so⟩
      refine Ev.step (fun k => by rw [table_Check.j0]) (Ev.ncond (by decide) ?_)
      refine check_loop hs fr fm ha ac.length 0 (by omega) (Or.inl rfl) (fun h => absurd h (by decide)) (fun _ => ?_)
      refine Classical.byContradiction fun c => a ⟨fr, fm, fun q hq => ?_, fun q hq => ?_, fun q hq => ?_⟩
      · exact Classical.byContradiction fun z => c ⟨q, by omega, hq, fun y => z y.1⟩
      · exact Classical.byContradiction fun z => c ⟨q, by omega, hq, fun y => z y.2.1⟩
      · exact Classical.byContradiction fun z => c ⟨q, by omega, hq, fun y => z y.2.2⟩
    · rw [decide_eq_false so]; exact stop rfl
  · refine Ev.congr (fun k => by rw [table_Check.f]) (Ev.bind (tracks_no hs fr) ?_)
    exact Ev.ncond (by decide) (stop rfl)
/-! ### Words -/
/-- One letter's step. -/
def nxt (st : List Int) (ar : List S73) (q x : Int) : Int := (atR (cb st ar q.toNat) x).1
def runR (st : List Int) (ar : List S73) (q : Int) (w : List Int) : Int := w.foldl (nxt st ar) q
def Lets (j : Nat) (w : List Int) : Prop := ∀ x ∈ w, 0 ≤ x ∧ x < ((2 ^ j : Nat) : Int)
theorem nxt_lt (a : AOk ns ac st ar) {q x : Int} (h0 : 0 ≤ q) (h1 : q < (ac.length : Int)) (h2 : 0 ≤ x) (h3 : x < ((2 ^ ns.length : Nat) : Int)) : 0 ≤ nxt st ar q x ∧ nxt st ar q x < (ac.length : Int) := by
  obtain ⟨i, rfl⟩ := Int.eq_ofNat_of_zero_le h0
  obtain ⟨z, rfl⟩ := Int.eq_ofNat_of_zero_le h2
  have u := a.unp i (by omega)
  have p := u.pos z (by omega)
  have l := a.low i (by omega) _ (List.mem_map.2 ⟨z, List.mem_range.2 (by omega), rfl⟩)
  exact ⟨p, l⟩
theorem run_lt (a : AOk ns ac st ar) (w : List Int) : ∀ {q : Int}, 0 ≤ q → q < (ac.length : Int) → Lets ns.length w → 0 ≤ runR st ar q w ∧ runR st ar q w < (ac.length : Int) := by
  induction w with
  | nil => intro q h0 h1 _; exact ⟨h0, h1⟩
  | cons x w ih =>
    intro q h0 h1 hw
    have hx := hw x (List.mem_cons_self ..)
    have s := nxt_lt a h0 h1 hx.1 hx.2
    exact ih s.1 s.2 (fun y hy => hw y (List.mem_cons_of_mem _ hy))
theorem run_l1 (a : AOk ns ac st ar) {w : List Int} (hw : Lets ns.length w) (hl : w.length ≤ 9000000000000000000) (ha : ar.length ≤ 9000000000000000000) : ∀ (m i : Nat) (q : Int), i + m = w.length → 0 ≤ q → q < (ac.length : Int) →
    Ev (fun k => table_Run.l1 k q w (w.length : Int) (i : Int) ns ac st ar) (runR st ar q (w.drop i), 0) := by
  intro m
  induction m with
  | zero =>
    intro i q hi _ _
    rw [List.drop_eq_nil_of_le (by omega)]
    refine Ev.step (fun k => by rw [table_Run.l1]) (Ev.ncond (by omega) ?_)
    exact Ev.fin rfl
  | succ m ih =>
    intro i q hi h0 h1
    have ii : i < w.length := by omega
    have mem : w[i] ∈ w := List.getElem_mem ii
    have hx := hw _ mem
    obtain ⟨z, rfl⟩ := Int.eq_ofNat_of_zero_le h0
    have n := nxt_lt a h0 h1 hx.1 hx.2
    have cl : (cb st ar z).length ≤ 9000000000000000000 := by rw [cb, List.length_drop, List.length_take]; omega
    refine Ev.step (fun k => by rw [table_Run.l1]) (Ev.cond (by omega) (Ev.cond (by omega) (Ev.cond (by omega) ?_)))
    refine Ev.ret (rowOf_ev a.fm a.fr.n2 (by omega)) ?_
    rw [rd_get w ii, w64 (by omega) (by omega), List.drop_eq_getElem_cons ii]
    refine Ev.bind (at_ev _ _ cl) ?_
    exact ih (i + 1) _ (by omega) n.1 n.2
theorem run_ok (hs : SZ ns) (a : AOk ns ac st ar) {w : List Int} (hw : Lets ns.length w) (hl : w.length ≤ 9000000000000000000) (ha : ar.length ≤ 9000000000000000000) : Ev (fun k => table_Run.f k ns ac st ar w) (runR st ar 0 w, 0) := by
  have n1 := a.fr.n1
  refine Ev.congr (fun k => by rw [table_Run.f]) (Ev.bind (check_ok hs ha a) (Ev.cond rfl ?_))
  have key : ∀ (m i : Nat), i + m = w.length → Ev (fun k => table_Run.l0 k w w (w.length : Int) (i : Int) ns ac st ar) (runR st ar 0 w, 0) := by
    intro m
    induction m with
    | zero =>
      intro i hi
      refine Ev.step (fun k => by rw [table_Run.l0]) (Ev.ncond (by omega) ?_)
      have := run_l1 a hw hl ha w.length 0 0 (by omega) (by omega) (by omega)
      exact this
    | succ m ih =>
      intro i hi
      have ii : i < w.length := by omega
      have hx := hw _ (List.getElem_mem ii)
      refine Ev.step (fun k => by rw [table_Run.l0]) (Ev.cond (by omega) (Ev.cond (by omega) (Ev.cond (by omega) ?_)))
      rw [rd_get w ii, shl_tr a.fr.tr, w64 (by omega) (by omega)]
      exact Ev.ncond (by omega) (Ev.ncond (by omega) (ih (i + 1) (by omega)))
  exact key w.length 0 (by omega)
theorem run_let (hs : SZ ns) (a : AOk ns ac st ar) {w : List Int} (hw : ¬ Lets ns.length w) (hl : w.length ≤ 9000000000000000000) (ha : ar.length ≤ 9000000000000000000) : Ev (fun k => table_Run.f k ns ac st ar w) (0, 30) := by
  refine Ev.congr (fun k => by rw [table_Run.f]) (Ev.bind (check_ok hs ha a) (Ev.cond rfl ?_))
  obtain ⟨q, hq, bad⟩ : ∃ q, ∃ h : q < w.length, ¬ (0 ≤ w[q] ∧ w[q] < ((2 ^ ns.length : Nat) : Int)) :=
    Classical.byContradiction fun c => hw fun x hx => by
      obtain ⟨i, hi, rfl⟩ := List.getElem_of_mem hx
      exact Classical.byContradiction fun z => c ⟨i, hi, z⟩
  have key : ∀ (m i : Nat), i + m = q → Ev (fun k => table_Run.l0 k w w (w.length : Int) (i : Int) ns ac st ar) (0, 30) := by
    intro m
    induction m with
    | zero =>
      intro i hi
      obtain rfl : i = q := by omega
      refine Ev.step (fun k => by rw [table_Run.l0]) (Ev.cond (by omega) (Ev.cond (by omega) (Ev.cond (by omega) ?_)))
      rw [rd_get w hq, shl_tr a.fr.tr]
      exact Ev.ite (fun _ => Ev.fin rfl) (fun c => Ev.cond (by omega) (Ev.fin rfl))
    | succ m ih =>
      intro i hi
      have ii : i < w.length := by omega
      refine Ev.step (fun k => by rw [table_Run.l0]) (Ev.cond (by omega) (Ev.cond (by omega) (Ev.cond (by omega) ?_)))
      rw [rd_get w ii, shl_tr a.fr.tr, w64 (by omega) (by omega)]
      exact Ev.ite (fun _ => Ev.fin rfl) (fun _ => Ev.ite (fun _ => Ev.fin rfl) (fun _ => ih (i + 1) (by omega)))
  exact key q 0 (by omega)
theorem takes_ok (hs : SZ ns) (a : AOk ns ac st ar) {w : List Int} (hw : Lets ns.length w) (hl : w.length ≤ 9000000000000000000) (ha : ar.length ≤ 9000000000000000000) : Ev (fun k => table_Takes.f k ns ac st ar w) (rdOf false ac (runR st ar 0 w), 0) := by
  have n1 := a.fr.n1
  have l := run_lt a w (q := 0) (by omega) (by omega) hw
  refine Ev.congr (fun k => by rw [table_Takes.f]) (Ev.bind (run_ok hs a hw hl ha) ?_)
  exact Ev.cond rfl (Ev.cond l.1 (Ev.cond l.2 (Ev.fin rfl)))
theorem takes_bad {w : List Int} {q e : Int} (he : e ≠ 0) (h : Ev (fun k => table_Run.f k ns ac st ar w) (q, e)) : Ev (fun k => table_Takes.f k ns ac st ar w) (false, e) :=
  Ev.congr (fun k => by rw [table_Takes.f]) (Ev.bind h (Ev.ncond he (Ev.fin rfl)))
end
/-! ### The table of a machine is right -/
end Go.Proofs.Ytninoenmhcbonaa.Pure
namespace Go.Proofs.Ytninoenmhcbonaa.Pure
open Go.RowKit Go.Proofs.YtninoenmhcbonaaW.PrintWords Go.Proofs.YtninoenmhcbonaaW.PrintLast Go.Proofs.YtninoenmhcbonaaW.PrintMore Go.Proofs.Ytninoenmhcbonaa.X
set_option linter.unusedVariables false
end Go.Proofs.Ytninoenmhcbonaa.Pure
namespace Go.Proofs.Ytninoenmhcbonaa.Pure
open Go.RowKit Go.Proofs.YtninoenmhcbonaaW.PrintWords Go.Proofs.YtninoenmhcbonaaW.PrintLast Go.Proofs.YtninoenmhcbonaaW.PrintMore Go.Proofs.Ytninoenmhcbonaa.X
set_option linter.unusedVariables false
section
variable {s : ByteArray} {p : Nat}
end
end Go.Proofs.Ytninoenmhcbonaa.Pure
namespace Go.Proofs.Ytninoenmhcbonaa.Pure
open Go.RowKit Go.Proofs.YtninoenmhcbonaaW.PrintWords Go.Proofs.YtninoenmhcbonaaW.PrintLast Go.Proofs.YtninoenmhcbonaaW.PrintMore Go.Proofs.Ytninoenmhcbonaa.X
set_option linter.unusedVariables false
section
variable {ns : List ByteArray} {n : Nat}
variable {ac : List Bool} {nx : List (List Int)}
end
end Go.Proofs.Ytninoenmhcbonaa.Pure
namespace Go.Proofs.Ytninoenmhcbonaa.Pure
open Go.RowKit Go.Proofs.YtninoenmhcbonaaW.PrintWords Go.Proofs.YtninoenmhcbonaaW.PrintLast Go.Proofs.YtninoenmhcbonaaW.PrintMore Go.Proofs.Ytninoenmhcbonaa.X
set_option linter.unusedVariables false
section
variable {ns : List ByteArray} {ac : List Bool} {nx : List (List Int)}
end
end Go.Proofs.Ytninoenmhcbonaa.Pure
namespace Go.Proofs.Ytninoenmhcbonaa.Pure
open Go.RowKit Go.Proofs.YtninoenmhcbonaaW.PrintWords Go.Proofs.YtninoenmhcbonaaW.PrintLast Go.Proofs.YtninoenmhcbonaaW.PrintMore Go.Proofs.Ytninoenmhcbonaa.X
set_option linter.unusedVariables false
/-- The first rows that a table tells. -/
def rows (j : Nat) (st : List Int) (ar : List S73) (i : Nat) : List (List Int) := (List.range i).map fun q => rowOf (cb st ar q) (2 ^ j)
theorem rows_len (j : Nat) (st : List Int) (ar : List S73) (i : Nat) : (rows j st ar i).length = i := by simp [rows]
theorem rows_succ (j : Nat) (st : List Int) (ar : List S73) (i : Nat) : rows j st ar (i + 1) = rows j st ar i ++ [rowOf (cb st ar i) (2 ^ j)] := by
  rw [rows, List.range_succ, List.map_append]; rfl
section
variable {ns : List ByteArray} {ac : List Bool} {st : List Int} {ar : List S73}
/-! ### Words -/
end
end Go.Proofs.Ytninoenmhcbonaa.Pure
namespace Go.Proofs.Ytninoenmhcbonaa.Pure
open Go.RowKit Go.Proofs.YtninoenmhcbonaaW.PrintWords Go.Proofs.YtninoenmhcbonaaW.PrintLast Go.Proofs.YtninoenmhcbonaaW.PrintMore Go.Proofs.Ytninoenmhcbonaa.X
set_option linter.unusedVariables false
section
variable {ns : List ByteArray} {ac : List Bool} {st : List Int} {ar : List S73}
theorem tunpack_ok (hs : SZ ns) (ha : ar.length ≤ 9000000000000000000) (hn : ns.length * 16 ≤ 140737488351232) (a : AOk ns ac st ar) : Ev (fun k => table_Unpack.f k ns ac st ar) (ns, ac, rows ns.length st ar ac.length, 0) := by
  have n2 := a.fr.n2
  refine Ev.congr (fun k => by rw [table_Unpack.f]) (Ev.bind (check_ok hs ha a) (Ev.cond rfl ?_))
  refine Ev.ret (show slices_Clone_string_string.f ns = some ns by unfold slices_Clone_string_string.f; rw [if_pos (by omega)]) ?_
  refine Ev.ret (show slices_Clone_bool_bool.f ac = some ac by unfold slices_Clone_bool_bool.f; rw [if_pos (by omega)]) ?_
  have key : ∀ (m i : Nat), i + m = ac.length → Ev (fun k => table_Unpack.l0 k (ac.length : Int) (i : Int) ns ac st ar ns ac (rows ns.length st ar i)) (ns, ac, rows ns.length st ar ac.length, 0) := by
    intro m
    induction m with
    | zero =>
      intro i hi
      obtain rfl : i = ac.length := by omega
      exact Ev.step (fun k => by rw [table_Unpack.l0]) (Ev.ncond (by omega) (Ev.fin rfl))
    | succ m ih =>
      intro i hi
      have ii : i < ac.length := by omega
      refine Ev.step (fun k => by rw [table_Unpack.l0]) (Ev.cond (by omega) (Ev.ret (rowOf_ev a.fm n2 ii) (Ev.bind (unpack_ok (a.unp i ii)) ?_)))
      refine Ev.cond rfl ?_
      refine Ev.cond (by rw [rows_len]; omega) ?_
      rw [w64 (by omega) (by omega)]
      have q := ih (i + 1) (by omega)
      rw [rows_succ] at q
      exact q
  exact key ac.length 0 (by omega)
theorem tunpack_no (hs : SZ ns) (ha : ar.length ≤ 9000000000000000000) (hc : ac.length ≤ 9000000000000000000) (hst : st.length ≤ 9000000000000000000) (a : ¬ AOk ns ac st ar) : Ev (fun k => table_Unpack.f k ns ac st ar) ([], [], [], 3) := by
  refine Ev.congr (fun k => by rw [table_Unpack.f]) (Ev.bind (check_no hs ha hc hst a) ?_)
  exact Ev.ncond (by decide) (Ev.fin rfl)
end
end Go.Proofs.Ytninoenmhcbonaa.Pure
namespace Go.Proofs.Ytninoenmhcbonaa.Pure
set_option linter.unusedVariables false
section
variable (L : Nat)
/-- A word's rank, behind what has one. -/
def rkF (r : Nat) (w : List Nat) : Nat := w.foldl (fun r a => r * L + a + 1) r
def Let (w : List Nat) : Prop := ∀ a ∈ w, a < L
end
section
variable {L : Nat}
theorem rkF_snoc (r : Nat) (u : List Nat) (b : Nat) : rkF L r (u ++ [b]) = rkF L r u * L + b + 1 := by simp [rkF]
theorem rkF_app (r : Nat) (u v : List Nat) : rkF L r (u ++ v) = rkF L (rkF L r u) v := by simp [rkF]
theorem rkF_cons (r a : Nat) (v : List Nat) : rkF L r (a :: v) = rkF L (r * L + a + 1) v := rfl
theorem step_lt {r r' a b : Nat} (h : r < r') (ha : a < L) : r * L + a + 1 < r' * L + b + 1 := by
  have : (r + 1) * L ≤ r' * L := Nat.mul_le_mul_right L h
  rw [Nat.add_mul] at this
  omega
theorem rk_lt : ∀ (x y : List Nat) (r r' : Nat), x.length = y.length → Let L x → r < r' → rkF L r x < rkF L r' y
  | [], [], _, _, _, _, h => h
  | [], _ :: _, _, _, h, _, _ => by simp at h
  | _ :: _, [], _, _, h, _, _ => by simp at h
  | a :: x, b :: y, r, r', hl, hx, h => by
    rw [rkF_cons, rkF_cons]
    exact rk_lt x y _ _ (by simpa using hl) (fun c hc => hx c (by simp [hc])) (step_lt h (hx a (by simp)))
theorem rk_ge : ∀ (x : List Nat) (r : Nat), 1 ≤ L → r + x.length ≤ rkF L r x
  | [], r, _ => Nat.le_refl _
  | a :: x, r, hL => by
    have := rk_ge x (r * L + a + 1) hL
    have h2 : r * 1 ≤ r * L := Nat.mul_le_mul_left r hL
    rw [rkF_cons, List.length_cons]; omega
theorem rk_short {x y : List Nat} (h : x.length < y.length) (hx : Let L x) (hy : Let L y) : rkF L 0 x < rkF L 0 y := by
  have hL : 1 ≤ L := by
    rcases y with _ | ⟨b, y⟩
    · simp at h
    · have := hy b (by simp); omega
  have e : y = y.take (y.length - x.length) ++ y.drop (y.length - x.length) := (List.take_append_drop _ _).symm
  rw [e, rkF_app]
  refine rk_lt x _ _ _ (by rw [List.length_drop]; omega) hx ?_
  have := rk_ge (y.take (y.length - x.length)) 0 hL
  rw [List.length_take] at this
  omega
theorem rk_len {x y : List Nat} (hx : Let L x) (hy : Let L y) (h : rkF L 0 x ≤ rkF L 0 y) : x.length ≤ y.length := by
  refine Nat.le_of_not_lt (fun c => ?_)
  have := rk_short c hy hx
  omega
end
/-! ### The least word that is taken -/
section
variable (acc : Nat → Bool) (δ : Nat → Nat → Nat) (L : Nat)
def runN (q : Nat) (w : List Nat) : Nat := w.foldl δ q
/-- The least word, other than the empty one, that leads to an accepting state. -/
structure IsLeast (w : List Nat) : Prop where
  ne : w ≠ []
  lets : Let L w
  tk : acc (runN δ 0 w) = true
  least : ∀ v, v ≠ [] → Let L v → acc (runN δ 0 v) = true → rkF L 0 w ≤ rkF L 0 v
def NoWord : Prop := ∀ v, v ≠ [] → Let L v → acc (runN δ 0 v) = false
/-- Do some so many letters lead from q to an accepting state? -/
def accN : Nat → Nat → Bool
  | 0, q => acc q
  | n + 1, q => (List.range L).any fun a => accN n (δ q a)
end
section
variable {acc : Nat → Bool} {δ : Nat → Nat → Nat} {L : Nat}
theorem runN_snoc (q : Nat) (u : List Nat) (b : Nat) : runN δ q (u ++ [b]) = δ (runN δ q u) b := by simp [runN]
theorem accN_iff : ∀ (n q : Nat), accN acc δ L n q = true ↔ ∃ w, w.length = n ∧ Let L w ∧ acc (runN δ q w) = true
  | 0, q => by
    constructor
    · intro h; exact ⟨[], rfl, by simp [Let], h⟩
    · rintro ⟨w, h0, _, h⟩
      rw [List.length_eq_zero_iff.1 h0] at h
      exact h
  | n + 1, q => by
    rw [accN, List.any_eq_true]
    constructor
    · rintro ⟨a, ha, h⟩
      obtain ⟨w, h1, h2, h3⟩ := (accN_iff n (δ q a)).1 h
      exact ⟨a :: w, by simp [h1], by intro c hc; rcases List.mem_cons.1 hc with rfl | h; exact List.mem_range.1 ha; exact h2 c h, h3⟩
    · rintro ⟨w, h1, h2, h3⟩
      rcases w with _ | ⟨a, w⟩
      · simp at h1
      · exact ⟨a, List.mem_range.2 (h2 a (by simp)), (accN_iff n (δ q a)).2 ⟨w, by simpa using h1, fun c hc => h2 c (by simp [hc]), h3⟩⟩
/-- Letter by letter the least one from which so many letters more will do. -/
inductive Greedy (acc : Nat → Bool) (δ : Nat → Nat → Nat) (L : Nat) : Nat → Nat → List Nat → Prop
  | nil (q : Nat) (h : acc q = true) : Greedy acc δ L 0 q []
  | cons (n q a : Nat) (w : List Nat) (ha : a < L) (hl : ∀ b, b < a → accN acc δ L n (δ q b) = false) (h : Greedy acc δ L n (δ q a) w) : Greedy acc δ L (n + 1) q (a :: w)
theorem Greedy.len {n q : Nat} {w : List Nat} (h : Greedy acc δ L n q w) : w.length = n ∧ Let L w ∧ acc (runN δ q w) = true := by
  induction h with
  | nil q h => exact ⟨rfl, by simp [Let], h⟩
  | cons n q a w ha hl h ih => exact ⟨by simp [ih.1], by intro c hc; rcases List.mem_cons.1 hc with rfl | h; exact ha; exact ih.2.1 c h, ih.2.2⟩
theorem Greedy.least {n q : Nat} {w : List Nat} (h : Greedy acc δ L n q w) : ∀ (v : List Nat) (r : Nat), v.length = n → Let L v → acc (runN δ q v) = true → rkF L r w ≤ rkF L r v := by
  induction h with
  | nil q h => intro v r hv _ _; rw [List.length_eq_zero_iff.1 hv]; exact Nat.le_refl _
  | cons n q a w ha hl h ih =>
    intro v r hv hlv hacc
    rcases v with _ | ⟨c, v⟩
    · simp at hv
    have hv' : v.length = n := by simpa using hv
    have hlv' : Let L v := fun z hz => hlv z (by simp [hz])
    rw [rkF_cons, rkF_cons]
    rcases Nat.lt_trichotomy a c with d | d | d
    · exact Nat.le_of_lt (rk_lt w v _ _ (by rw [h.len.1, hv']) h.len.2.1 (by omega))
    · subst d; exact ih v _ hv' hlv' hacc
    · have := hl c d
      rw [(accN_iff n (δ q c)).2 ⟨v, hv', hlv', hacc⟩] at this
      cases this
/-! ### Breadth first -/
/-- States in the order in which they are met, with the words by which they are met. -/
structure Met (acc : Nat → Bool) (δ : Nat → Nat → Nat) (L n : Nat) (ls : List Nat) (ws : List (List Nat)) : Prop where
  len : ws.length = ls.length
  h0 : ls[0]? = some 0 ∧ ws[0]? = some []
  run : ∀ (k q : Nat) (w : List Nat), ls[k]? = some q → ws[k]? = some w → runN δ 0 w = q ∧ Let L w ∧ q < n ∧ w.length ≤ k
  up : ∀ (k k' : Nat) (w w' : List Nat), k < k' → ws[k]? = some w → ws[k']? = some w' → rkF L 0 w < rkF L 0 w'
  nodup : ls.Nodup
/-- A pair of a state and a letter has been gone through. -/
def Done (acc : Nat → Bool) (δ : Nat → Nat → Nat) (L : Nat) (ls : List Nat) (ws : List (List Nat)) (k b : Nat) : Prop :=
  ∀ (q : Nat) (w : List Nat), ls[k]? = some q → ws[k]? = some w → acc (δ q b) = false ∧ ∃ (k' : Nat) (w' : List Nat), ls[k']? = some (δ q b) ∧ ws[k']? = some w' ∧ rkF L 0 w' ≤ rkF L 0 w * L + b + 1
theorem Met.cover {n : Nat} {ls : List Nat} {ws : List (List Nat)} (M : Met acc δ L n ls ws) {i a : Nat} {wi : List Nat} (hi : ws[i]? = some wi) (ha : a ≤ L)
    (h1 : ∀ k b, k < i → b < L → Done acc δ L ls ws k b) (h2 : ∀ b, b < a → Done acc δ L ls ws i b) :
    ∀ (m : Nat) (v : List Nat), v.length = m → Let L v → rkF L 0 v ≤ rkF L 0 wi * L + a → (∃ (k : Nat) (w : List Nat), ls[k]? = some (runN δ 0 v) ∧ ws[k]? = some w ∧ rkF L 0 w ≤ rkF L 0 v) ∧ (v ≠ [] → acc (runN δ 0 v) = false) := by
  intro m
  induction m with
  | zero =>
    intro v hv _ _
    rw [List.length_eq_zero_iff.1 hv]
    exact ⟨⟨0, [], M.h0.1, M.h0.2, Nat.le_refl _⟩, fun h => absurd rfl h⟩
  | succ m ih =>
    intro v hv hl hr
    rcases List.eq_nil_or_concat v with rfl | ⟨u, b, rfl⟩
    · simp at hv
    rw [List.concat_eq_append] at *
    have hb : b < L := hl b (by simp)
    have hlu : Let L u := fun c hc => hl c (by simp [hc])
    rw [rkF_snoc] at hr
    have hru : rkF L 0 u ≤ rkF L 0 wi := by
      refine Nat.le_of_not_lt (fun c => ?_)
      have : (rkF L 0 wi + 1) * L ≤ rkF L 0 u * L := Nat.mul_le_mul_right L c
      rw [Nat.add_mul] at this
      omega
    have h1u : rkF L 0 wi * 1 ≤ rkF L 0 wi * L := Nat.mul_le_mul_left _ (by omega)
    obtain ⟨⟨k, w, e1, e2, e3⟩, _⟩ := ih u (by simpa using hv) hlu (by omega)
    have hk : k ≤ i := by
      refine Nat.le_of_not_lt (fun c => ?_)
      have := M.up i k wi w c hi e2
      omega
    have dn : Done acc δ L ls ws k b := by
      rcases Nat.lt_or_eq_of_le hk with c | c
      · exact h1 k b c hb
      · subst c
        rw [hi] at e2
        obtain rfl := Option.some.inj e2
        have : rkF L 0 u = rkF L 0 wi := by omega
        rw [this] at hr
        exact h2 b (by omega)
    obtain ⟨d1, k', w', d2, d3, d4⟩ := dn _ _ e1 e2
    rw [runN_snoc, rkF_snoc]
    refine ⟨⟨k', w', d2, d3, Nat.le_trans d4 ?_⟩, fun _ => d1⟩
    have : rkF L 0 w * L ≤ rkF L 0 u * L := Nat.mul_le_mul_right L e3
    omega
theorem Met.found {n : Nat} {ls : List Nat} {ws : List (List Nat)} (M : Met acc δ L n ls ws) {i a q : Nat} {wi : List Nat} (hq : ls[i]? = some q) (hi : ws[i]? = some wi) (ha : a < L)
    (h1 : ∀ k b, k < i → b < L → Done acc δ L ls ws k b) (h2 : ∀ b, b < a → Done acc δ L ls ws i b) (h : acc (δ q a) = true) : IsLeast acc δ L (wi ++ [a]) := by
  have r := M.run i q wi hq hi
  refine ⟨by simp, ?_, by rw [runN_snoc, r.1]; exact h, fun v hv hl hacc => ?_⟩
  · intro c hc
    rcases List.mem_append.1 hc with d | d
    · exact r.2.1 c d
    · rw [List.mem_singleton.1 d]; exact ha
  · refine Nat.le_of_not_lt (fun c => ?_)
    rw [rkF_snoc] at c
    have := (M.cover hi (Nat.le_of_lt ha) h1 h2 v.length v rfl hl (by omega)).2 hv
    rw [hacc] at this
    cases this
theorem Met.none {n : Nat} {ls : List Nat} {ws : List (List Nat)} (M : Met acc δ L n ls ws) (h1 : ∀ k b, k < ls.length → b < L → Done acc δ L ls ws k b) : NoWord acc δ L := by
  have key : ∀ (m : Nat) (v : List Nat), v.length = m → Let L v → (∃ (k : Nat) (w : List Nat), ls[k]? = some (runN δ 0 v) ∧ ws[k]? = some w) ∧ (v ≠ [] → acc (runN δ 0 v) = false) := by
    intro m
    induction m with
    | zero =>
      intro v hv _
      rw [List.length_eq_zero_iff.1 hv]
      exact ⟨⟨0, [], M.h0.1, M.h0.2⟩, fun h => absurd rfl h⟩
    | succ m ih =>
      intro v hv hl
      rcases List.eq_nil_or_concat v with rfl | ⟨u, b, rfl⟩
      · simp at hv
      rw [List.concat_eq_append] at *
      obtain ⟨⟨k, w, e1, e2⟩, _⟩ := ih u (by simpa using hv) (fun c hc => hl c (by simp [hc]))
      obtain ⟨d1, k', w', d2, d3, _⟩ := h1 k b (by have := (List.getElem?_eq_some_iff.1 e1).1; exact this) (hl b (by simp)) _ _ e1 e2
      rw [runN_snoc]
      exact ⟨⟨k', w', d2, d3⟩, fun _ => d1⟩
  intro v hv hl
  exact (key v.length v rfl hl).2 hv
theorem snoc_get {α : Type} {l : List α} {t q : α} {k : Nat} (h : (l ++ [t])[k]? = some q) : l[k]? = some q ∨ (k = l.length ∧ q = t) := by
  rcases Nat.lt_trichotomy k l.length with c | c | c
  · rw [List.getElem?_append_left c] at h; exact Or.inl h
  · subst c; rw [List.getElem?_append_right (Nat.le_refl _)] at h; simp at h; exact Or.inr ⟨rfl, h.symm⟩
  · rw [List.getElem?_eq_none (by simp; omega)] at h; cases h
theorem get_snoc {α : Type} {l : List α} {t q : α} {k : Nat} (h : l[k]? = some q) : (l ++ [t])[k]? = some q := by
  rw [List.getElem?_append_left (List.getElem?_eq_some_iff.1 h).1]; exact h
theorem Met.push {n : Nat} {ls : List Nat} {ws : List (List Nat)} (M : Met acc δ L n ls ws) {i a q : Nat} {wi : List Nat} (hq : ls[i]? = some q) (hi : ws[i]? = some wi) (ha : a < L) (hn : δ q a < n) (hnew : ¬ δ q a ∈ ls)
    (top : ∀ (k : Nat) (w : List Nat), ws[k]? = some w → rkF L 0 w ≤ rkF L 0 wi * L + a) : Met acc δ L n (ls ++ [δ q a]) (ws ++ [wi ++ [a]]) := by
  have r := M.run i q wi hq hi
  have il : i < ls.length := (List.getElem?_eq_some_iff.1 hq).1
  refine ⟨by simp [M.len], ⟨get_snoc M.h0.1, get_snoc M.h0.2⟩, ?_, ?_, ?_⟩
  · intro k p w h1 h2
    rcases snoc_get h1 with h1 | ⟨rfl, rfl⟩
    · rcases snoc_get h2 with h2 | ⟨rfl, rfl⟩
      · exact M.run k p w h1 h2
      · have := (List.getElem?_eq_some_iff.1 h1).1; rw [M.len] at this; omega
    · rcases snoc_get h2 with h2 | ⟨_, rfl⟩
      · have := (List.getElem?_eq_some_iff.1 h2).1; rw [M.len] at this; omega
      · refine ⟨by rw [runN_snoc, r.1], ?_, hn, by rw [List.length_append]; simp; omega⟩
        intro c hc
        rcases List.mem_append.1 hc with d | d
        · exact r.2.1 c d
        · rw [List.mem_singleton.1 d]; exact ha
  · intro k k' w w' hk h1 h2
    rcases snoc_get h1 with h1 | ⟨rfl, rfl⟩
    · rcases snoc_get h2 with h2 | ⟨rfl, rfl⟩
      · exact M.up k k' w w' hk h1 h2
      · rw [rkF_snoc]; have := top k w h1; omega
    · have := (List.getElem?_eq_some_iff.1 h2).1; simp at this; omega
  · rw [List.nodup_append]
    exact ⟨M.nodup, by simp, fun x hx y hy e => hnew (by rw [List.mem_singleton.1 hy] at e; exact e ▸ hx)⟩
theorem Done.ext {ls : List Nat} {ws : List (List Nat)} {k b t : Nat} {w0 : List Nat} (h : Done acc δ L ls ws k b) (hl : ws.length = ls.length) (hk : k < ls.length) : Done acc δ L (ls ++ [t]) (ws ++ [w0]) k b := by
  intro q w h1 h2
  rcases snoc_get h1 with h1 | ⟨rfl, rfl⟩
  · rcases snoc_get h2 with h2 | ⟨rfl, rfl⟩
    · obtain ⟨d1, k', w', d2, d3, d4⟩ := h q w h1 h2
      exact ⟨d1, k', w', get_snoc d2, get_snoc d3, d4⟩
    · omega
  · omega
theorem Met.size {n : Nat} {ls : List Nat} {ws : List (List Nat)} (M : Met acc δ L n ls ws) : ls.length ≤ n := by
  have : ∀ x ∈ ls, x ∈ List.range n := by
    intro x hx
    obtain ⟨k, hk, rfl⟩ := List.getElem_of_mem hx
    obtain ⟨w, hw⟩ : ∃ w, ws[k]? = some w := ⟨_, List.getElem?_eq_getElem (by rw [M.len]; exact hk)⟩
    exact List.mem_range.2 (M.run k _ w (List.getElem?_eq_getElem hk) hw).2.2.1
  have key : ∀ (S : List Nat) (T : List Nat), S.Nodup → (∀ x ∈ S, x ∈ T) → S.length ≤ T.length := by
    intro S
    induction S with
    | nil => intro T _ _; simp
    | cons x S ih =>
      intro T hn hs
      have hx : x ∈ T := hs x (by simp)
      have hn2 := List.nodup_cons.1 hn
      have := ih (T.erase x) hn2.2 (fun z hz => (List.mem_erase_of_ne (show z ≠ x from fun e => hn2.1 (e ▸ hz))).2 (hs z (by simp [hz])))
      rw [List.length_erase_of_mem hx] at this
      have : 0 < T.length := List.length_pos_of_mem hx
      rw [List.length_cons]; omega
  have := key ls (List.range n) M.nodup this
  simpa using this
end
end Go.Proofs.Ytninoenmhcbonaa.Pure
namespace Go.Proofs.Ytninoenmhcbonaa.Pure
open Go.RowKit Go.Proofs.YtninoenmhcbonaaW.PrintWords Go.Proofs.YtninoenmhcbonaaW.PrintLast Go.Proofs.YtninoenmhcbonaaW.PrintMore Go.Proofs.Ytninoenmhcbonaa.X
set_option linter.unusedVariables false
/-! ### A right machine's rows -/
def acF (ac : List Bool) (q : Nat) : Bool := ac.getD q false
def dlF (nx : List (List Int)) (q a : Nat) : Nat := ((nx.getD q []).getD a 0).toNat
structure Mk (ac : List Bool) (nx : List (List Int)) (L : Nat) : Prop where
  len : nx.length = ac.length
  n1 : 1 ≤ ac.length
  n2 : ac.length ≤ 256
  l1 : 1 ≤ L
  l2 : L ≤ 64
  rows : ∀ r ∈ nx, r.length = L ∧ ∀ x ∈ r, 0 ≤ x ∧ x < (ac.length : Int)
section
variable {ac : List Bool} {nx : List (List Int)} {L : Nat}
theorem Mk.row (h : Mk ac nx L) {q : Nat} (hq : q < ac.length) : (rd_L4 nx (q : Int)).length = L ∧ ∀ a : Nat, a < L → rd (rd_L4 nx (q : Int)) (a : Int) = ((dlF nx q a : Nat) : Int) ∧ dlF nx q a < ac.length := by
  have hq' : q < nx.length := by rw [h.len]; exact hq
  have r := h.rows _ (List.getElem_mem hq')
  rw [rdL_get nx hq']
  refine ⟨r.1, fun a ha => ?_⟩
  have ha' : a < (nx[q]).length := by rw [r.1]; exact ha
  have x := r.2 _ (List.getElem_mem ha')
  have e : dlF nx q a = ((nx[q])[a]).toNat := by simp [dlF, List.getD_eq_getElem?_getD, List.getElem?_eq_getElem hq', List.getElem?_eq_getElem ha']
  rw [rd_get _ ha', e]
  omega
theorem Mk.acc (h : Mk ac nx L) {q : Nat} (hq : q < ac.length) : rdOf false ac (q : Int) = acF ac q := by
  rw [rdOf_get false ac hq, acF, List.getD_eq_getElem?_getD, List.getElem?_eq_getElem hq]; rfl
end
/-! ### A list turned about -/
theorem rev_loop : ∀ (m : Nat) (p l s : List Int), l.length = m → p.length = s.length → p.length + m + s.length ≤ 9000000000000000000 → Ev (fun k => slices_Reverse_int_int.l0 k (p ++ l ++ s) (p.length : Int) ((p.length : Int) + (m : Int) - 1)) (p ++ l.reverse ++ s) := by
  intro m
  induction m using Nat.strongRecOn with
  | ind m ih =>
    intro p l s hl hps hb
    rcases l with _ | ⟨a, l⟩
    · have : m = 0 := by simpa using hl.symm
      subst this
      exact Ev.step (fun k => by rw [slices_Reverse_int_int.l0]) (Ev.ncond (by omega) (Ev.fin (by simp)))
    rcases List.eq_nil_or_concat l with rfl | ⟨l, b, rfl⟩
    · have : m = 1 := by simpa using hl.symm
      subst this
      exact Ev.step (fun k => by rw [slices_Reverse_int_int.l0]) (Ev.ncond (by omega) (Ev.fin (by simp)))
    rw [List.concat_eq_append] at *
    have hm : m = l.length + 2 := by simp at hl; omega
    have e0 : p ++ (a :: (l ++ [b])) ++ s = p ++ [a] ++ l ++ [b] ++ s := by simp
    have r1 : rd (p ++ (a :: (l ++ [b])) ++ s) ((p.length : Int) + (m : Int) - 1) = b := by
      have e : (p.length : Int) + (m : Int) - 1 = ((p ++ [a] ++ l).length : Int) := by simp; omega
      rw [e0, e, rd_nat]
      simp
    have r2 : rd (p ++ (a :: (l ++ [b])) ++ s) (p.length : Int) = a := by
      rw [rd_nat]
      simp
    have st : ((p ++ (a :: (l ++ [b])) ++ s).set (p.length : Int).toNat b).set ((p.length : Int) + (m : Int) - 1).toNat a = (p ++ [b]) ++ l ++ ([a] ++ s) := by
      have e : ((p.length : Int) + (m : Int) - 1).toNat = (p ++ [b] ++ l).length := by simp; omega
      rw [e0, e, Int.toNat_natCast]
      have e1 : (p ++ [a] ++ l ++ [b] ++ s).set p.length b = p ++ [b] ++ l ++ [b] ++ s := by simp
      rw [e1]
      have e2 : (p ++ [b] ++ l ++ [b] ++ s) = (p ++ [b] ++ l) ++ (b :: s) := by simp
      rw [e2, List.set_append_right _ _ (Nat.le_refl _)]
      simp
    have q := ih l.length (by omega) (p ++ [b]) l ([a] ++ s) rfl (by simp; omega) (by simp; omega)
    refine Ev.step (fun k => by rw [slices_Reverse_int_int.l0]) ?_
    rw [r1, r2, st]
    have hlen : ((p ++ (a :: (l ++ [b])) ++ s).length : Int) = (p.length : Int) + (m : Int) + (s.length : Int) := by simp; omega
    rw [hlen, w64 (x := (p.length : Int) + 1) (by omega) (by omega), w64 (x := (p.length : Int) + (m : Int) - 1 - 1) (by omega) (by omega)]
    refine Ev.cond (by omega) (Ev.cond (by omega) (Ev.cond (by omega) (Ev.cond (by omega) (Ev.cond (by omega) ?_))))
    have e3 : ((p ++ [b]).length : Int) = (p.length : Int) + 1 := by simp
    have e4 : (p.length : Int) + 1 + (l.length : Int) - 1 = (p.length : Int) + (m : Int) - 1 - 1 := by omega
    rw [e3, e4] at q
    have e5 : p ++ [b] ++ l.reverse ++ ([a] ++ s) = p ++ (a :: (l ++ [b])).reverse ++ s := by simp
    rw [e5] at q
    exact q
theorem rev_ev (l : List Int) (h : l.length ≤ 9000000000000000000) : Ev (fun k => slices_Reverse_int_int.f k l) l.reverse := by
  refine Ev.congr (fun k => by rw [slices_Reverse_int_int.f]) ?_
  rw [w64 (by omega) (by omega)]
  have := rev_loop l.length [] l [] rfl rfl (by simp; omega)
  simpa using this
/-! ### The way back -/
def toI (w : List Nat) : List Int := w.map Int.ofNat
/-- How each state was met: from which one, by which letter. -/
structure Chain (ss : List S109) (ls : List Nat) (ws : List (List Nat)) : Prop where
  low : ∀ q ∈ ls, q < ss.length
  c0 : rd_T109 ss 0 = ⟨-1, -1⟩
  up : ∀ (k q : Nat) (w : List Nat), ls[k + 1]? = some q → ws[k + 1]? = some w → ∃ (k' p a : Nat) (u : List Nat), k' ≤ k ∧ ls[k']? = some p ∧ ws[k']? = some u ∧ w = u ++ [a] ∧ rd_T109 ss (q : Int) = ⟨(p : Int), (a : Int)⟩
theorem way_loop {acc : Nat → Bool} {δ : Nat → Nat → Nat} {L n : Nat} {ss : List S109} {ls : List Nat} {ws : List (List Nat)} (M : Met acc δ L n ls ws) (C : Chain ss ls ws) :
    ∀ (k q : Nat) (w : List Nat) (x : List Int), ls[k]? = some q → ws[k]? = some w → x.length + k ≤ 1000000 → Ev (fun f => pick_way.l0 f ss x (q : Int)) (toI w ++ x.reverse) := by
  intro k
  induction k using Nat.strongRecOn with
  | ind k ih =>
    intro q w x h1 h2 hb
    have lo := C.low q (List.mem_of_getElem? h1)
    rcases k with _ | k
    · rw [M.h0.1] at h1
      rw [M.h0.2] at h2
      obtain rfl := Option.some.inj h1
      obtain rfl := Option.some.inj h2
      refine Ev.step (fun k => by rw [pick_way.l0]) (Ev.cond (by omega) (Ev.cond (by omega) (Ev.cond (by omega) ?_)))
      rw [show ((0 : Nat) : Int) = 0 from rfl, C.c0]
      exact Ev.ncond (by decide) (Ev.bind (rev_ev x (by omega)) (Ev.fin (by simp [toI])))
    · obtain ⟨k', p, a, u, hk, e1, e2, rfl, e3⟩ := C.up k q w h1 h2
      have q' := ih k' (by omega) p u (x ++ [(a : Int)]) e1 e2 (by simp; omega)
      refine Ev.step (fun k => by rw [pick_way.l0]) (Ev.cond (by omega) (Ev.cond (by omega) (Ev.cond (by omega) ?_)))
      rw [e3]
      refine Ev.cond (by show (a : Int) ≥ 0; omega) (Ev.cond (by omega) ?_)
      rw [show toI u ++ (x ++ [(a : Int)]).reverse = toI (u ++ [a]) ++ x.reverse by simp [toI]] at q'
      exact q'
theorem way_ev {acc : Nat → Bool} {δ : Nat → Nat → Nat} {L n : Nat} {ss : List S109} {ls : List Nat} {ws : List (List Nat)} (M : Met acc δ L n ls ws) (C : Chain ss ls ws) {k q a : Nat} {w : List Nat} (h1 : ls[k]? = some q) (h2 : ws[k]? = some w) (hk : k ≤ 1000) :
    Ev (fun f => pick_way.f f ss (q : Int) (a : Int)) (toI (w ++ [a])) := by
  refine Ev.congr (fun k => by rw [pick_way.f]) ?_
  have := way_loop M C k q w [(a : Int)] h1 h2 (by simp; omega)
  rwa [show toI w ++ [(a : Int)].reverse = toI (w ++ [a]) by simp [toI]] at this
end Go.Proofs.Ytninoenmhcbonaa.Pure
namespace Go.Proofs.Ytninoenmhcbonaa.Pure
open Go.RowKit Go.Proofs.YtninoenmhcbonaaW.PrintWords Go.Proofs.YtninoenmhcbonaaW.PrintLast Go.Proofs.YtninoenmhcbonaaW.PrintMore Go.Proofs.Ytninoenmhcbonaa.X
set_option linter.unusedVariables false
/-- The search has gone through all pairs ahead of (i, a). -/
structure Bf (ac : List Bool) (nx : List (List Int)) (L : Nat) (ls : List Nat) (ws : List (List Nat)) (ss : List S109) (mt : List Bool) (i a : Nat) : Prop where
  met : Met (acF ac) (dlF nx) L ac.length ls ws
  chain : Chain ss ls ws
  sl : ss.length = ac.length
  ml : mt.length = ac.length
  mark : ∀ q, q < ac.length → (rdOf false mt (q : Int) = true ↔ q ∈ ls)
  d1 : ∀ k b, k < i → b < L → Done (acF ac) (dlF nx) L ls ws k b
  d2 : ∀ b, b < a → Done (acF ac) (dlF nx) L ls ws i b
  top : ∀ (w : List Nat), ws[i]? = some w → ∀ (k : Nat) (u : List Nat), ws[k]? = some u → rkF L 0 u ≤ rkF L 0 w * L + a
/-- What the search answers. -/
def Ans (ac : List Bool) (nx : List (List Int)) (L : Nat) (r : List Int × Bool) : Prop :=
  (∃ w, IsLeast (acF ac) (dlF nx) L w ∧ w.length ≤ ac.length ∧ r = (toI w, true)) ∨ (NoWord (acF ac) (dlF nx) L ∧ r = ([], false))
section
variable {ns : List ByteArray} {ac : List Bool} {nx : List (List Int)} {L : Nat}
theorem rdOf_set {α : Type} (d : α) (l : List α) {p q : Nat} (v : α) (hp : p < l.length) : rdOf d (l.set p v) (q : Int) = if q = p then v else rdOf d l (q : Int) := by
  simp only [rdOf, Int.toNat_natCast, List.getD_eq_getElem?_getD]
  by_cases c : q = p
  · subst c; simp [hp]
  · rw [List.getElem?_set_ne (fun e => c e.symm), if_neg c]
theorem rdP_set (l : List S109) {p q : Nat} (v : S109) (hp : p < l.length) : rd_T109 (l.set p v) (q : Int) = if q = p then v else rd_T109 l (q : Int) := by
  simp only [rd_T109, Int.toNat_natCast, List.getD_eq_getElem?_getD]
  by_cases c : q = p
  · subst c; simp [hp]
  · rw [List.getElem?_set_ne (fun e => c e.symm), if_neg c]
theorem Bf.next (m : Mk ac nx L) {ls : List Nat} {ws : List (List Nat)} {ss : List S109} {mt : List Bool} {i : Nat} (B : Bf ac nx L ls ws ss mt i L) (hi : i + 1 ≤ ls.length) : Bf ac nx L ls ws ss mt (i + 1) 0 := by
  refine ⟨B.met, B.chain, B.sl, B.ml, B.mark, fun k b hk hb => ?_, fun b hb => absurd hb (Nat.not_lt_zero _), fun w hw k u hu => ?_⟩
  · rcases Nat.lt_or_eq_of_le (Nat.le_of_lt_succ hk) with c | c
    · exact B.d1 k b c hb
    · subst c; exact B.d2 b hb
  · obtain ⟨w0, h0⟩ : ∃ w0, ws[i]? = some w0 := ⟨_, List.getElem?_eq_getElem (by rw [B.met.len]; omega)⟩
    have h1 := B.top w0 h0 k u hu
    have h2 := B.met.up i (i + 1) w0 w (by omega) h0 hw
    have : (rkF L 0 w0 + 1) * L ≤ rkF L 0 w * L := Nat.mul_le_mul_right L h2
    rw [Nat.add_mul] at this
    omega
theorem Bf.old {ls : List Nat} {ws : List (List Nat)} {ss : List S109} {mt : List Bool} {i a q : Nat} (B : Bf ac nx L ls ws ss mt i a) (hq : ls[i]? = some q) (hacc : acF ac (dlF nx q a) = false) (hin : dlF nx q a ∈ ls) : Bf ac nx L ls ws ss mt i (a + 1) := by
  refine ⟨B.met, B.chain, B.sl, B.ml, B.mark, B.d1, fun b hb => ?_, fun w hw k u hu => by have := B.top w hw k u hu; omega⟩
  rcases Nat.lt_or_eq_of_le (Nat.le_of_lt_succ hb) with c | c
  · exact B.d2 b c
  · subst c
    intro q' w h1 h2
    rw [hq] at h1
    obtain rfl := Option.some.inj h1
    obtain ⟨k', hk', e⟩ := List.getElem_of_mem hin
    have hk2 : k' < ws.length := by rw [B.met.len]; exact hk'
    refine ⟨hacc, k', ws[k'], by rw [List.getElem?_eq_getElem hk', e], List.getElem?_eq_getElem hk2, ?_⟩
    have := B.top w h2 k' _ (List.getElem?_eq_getElem hk2)
    omega
theorem Bf.push (m : Mk ac nx L) {ls : List Nat} {ws : List (List Nat)} {ss : List S109} {mt : List Bool} {i a q : Nat} {wi : List Nat} (B : Bf ac nx L ls ws ss mt i a) (hq : ls[i]? = some q) (hw : ws[i]? = some wi) (ha : a < L) (hn : dlF nx q a < ac.length) (hacc : acF ac (dlF nx q a) = false) (hnew : ¬ dlF nx q a ∈ ls) :
    Bf ac nx L (ls ++ [dlF nx q a]) (ws ++ [wi ++ [a]]) (ss.set (dlF nx q a) ⟨(q : Int), (a : Int)⟩) (mt.set (dlF nx q a) true) i (a + 1) := by
  have il : i < ls.length := (List.getElem?_eq_some_iff.1 hq).1
  have M := B.met.push hq hw ha hn hnew (B.top wi hw)
  refine ⟨M, ⟨?_, ?_, ?_⟩, by rw [List.length_set]; exact B.sl, by rw [List.length_set]; exact B.ml, ?_, ?_, ?_, ?_⟩
  · intro z hz
    rw [List.length_set]
    rcases List.mem_append.1 hz with d | d
    · exact B.chain.low z d
    · rw [List.mem_singleton.1 d, B.sl]; exact hn
  · have := rdP_set ss (p := dlF nx q a) (q := 0) ⟨(q : Int), (a : Int)⟩ (by rw [B.sl]; exact hn)
    rw [show ((0 : Nat) : Int) = 0 from rfl] at this
    rw [this, if_neg, B.chain.c0]
    exact fun e => hnew (e ▸ List.mem_of_getElem? B.met.h0.1)
  · intro k p w h1 h2
    rcases snoc_get h1 with h1 | ⟨hk, rfl⟩
    · rcases snoc_get h2 with h2 | ⟨hk2, _⟩
      · obtain ⟨k', p', a', u, e1, e2, e3, e4, e5⟩ := B.chain.up k p w h1 h2
        refine ⟨k', p', a', u, e1, get_snoc e2, get_snoc e3, e4, ?_⟩
        rw [rdP_set ss _ (by rw [B.sl]; exact hn), if_neg, e5]
        exact fun e => hnew (e ▸ List.mem_of_getElem? h1)
      · have := (List.getElem?_eq_some_iff.1 h1).1; rw [hk2, B.met.len] at this; omega
    · rcases snoc_get h2 with h2 | ⟨_, rfl⟩
      · have := (List.getElem?_eq_some_iff.1 h2).1; rw [B.met.len] at this; omega
      · exact ⟨i, q, a, wi, by omega, get_snoc hq, get_snoc hw, rfl, by rw [rdP_set ss _ (by rw [B.sl]; exact hn), if_pos rfl]⟩
  · intro z hz
    rw [rdOf_set false mt true (by rw [B.ml]; exact hn), List.mem_append, List.mem_singleton]
    by_cases c : z = dlF nx q a
    · rw [if_pos c]; exact ⟨fun _ => Or.inr c, fun _ => rfl⟩
    · rw [if_neg c, B.mark z hz]; exact ⟨Or.inl, fun h => h.elim id (fun e => absurd e c)⟩
  · intro k b hk hb
    exact Done.ext (B.d1 k b hk hb) B.met.len (by omega)
  · intro b hb
    rcases Nat.lt_or_eq_of_le (Nat.le_of_lt_succ hb) with c | c
    · exact Done.ext (B.d2 b c) B.met.len il
    · subst c
      intro q' w h1 h2
      have h1' : q' = q := by
        have := get_snoc (t := dlF nx q b) hq
        rw [this] at h1
        exact (Option.some.inj h1).symm
      have h2' : w = wi := by
        have := get_snoc (t := wi ++ [b]) hw
        rw [this] at h2
        exact (Option.some.inj h2).symm
      subst h1' h2'
      exact ⟨hacc, ls.length, w ++ [b], by simp, by rw [← B.met.len]; simp, by rw [rkF_snoc]; exact Nat.le_refl _⟩
  · intro w h2 k u hu
    have h2' : w = wi := by
      have := get_snoc (t := wi ++ [a]) hw
      rw [this] at h2
      exact (Option.some.inj h2).symm
    subst h2'
    rcases snoc_get hu with hu | ⟨_, rfl⟩
    · have := B.top w hw k u hu; omega
    · rw [rkF_snoc]; omega
theorem toI_get (ls : List Nat) {i q : Nat} (h : ls[i]? = some q) : rd (toI ls) (i : Int) = (q : Int) := by
  obtain ⟨hi, e⟩ := List.getElem?_eq_some_iff.1 h
  rw [rd_get (toI ls) (show i < (toI ls).length by simpa [toI] using hi)]
  simp [toI, e]
theorem shortest_loop (m : Mk ac nx L) : ∀ (f i : Nat), i + f = ac.length → ∀ (g a : Nat), a + g = L → ∀ (ls : List Nat) (ws : List (List Nat)) (ss : List S109) (mt : List Bool) (q : Nat), Bf ac nx L ls ws ss mt i a → ls[i]? = some q →
    ∃ r, Ev (fun k => pick_shortest.l1 k ss mt (toI ls) (i : Int) (rd_L4 nx (q : Int)) ((rd_L4 nx (q : Int)).length : Int) (a : Int) ns ac nx) r ∧ Ans ac nx L r := by
  have n2 := m.n2
  have l2 := m.l2
  intro f
  induction f with
  | zero =>
    intro i hi g a _ ls ws ss mt q B hq
    have := B.met.size
    have := (List.getElem?_eq_some_iff.1 hq).1
    omega
  | succ f ihf =>
    intro i hi g
    induction g with
    | zero =>
      intro a hg ls ws ss mt q B hq
      have sz := B.met.size
      have il := (List.getElem?_eq_some_iff.1 hq).1
      obtain ⟨wi, hw⟩ : ∃ w, ws[i]? = some w := ⟨_, List.getElem?_eq_getElem (by rw [B.met.len]; exact il)⟩
      have qn := (B.met.run i q wi hq hw).2.2.1
      have row := (m.row qn).1
      obtain rfl : L = a := by omega
      have enter : ∀ r, Ev (fun k => pick_shortest.l0 k ss mt (toI ls) (((i + 1 : Nat)) : Int) ns ac nx) r → Ev (fun k => pick_shortest.l1 k ss mt (toI ls) (i : Int) (rd_L4 nx (q : Int)) ((rd_L4 nx (q : Int)).length : Int) (L : Int) ns ac nx) r := by
        intro r h
        refine Ev.step (fun k => by rw [pick_shortest.l1]) (Ev.ncond (by omega) ?_)
        rw [w64 (by omega) (by omega)]
        exact h
      by_cases c : i + 1 < ls.length
      · have B' := B.next m (by omega)
        obtain ⟨q2, hq2⟩ : ∃ q2, ls[i + 1]? = some q2 := ⟨_, List.getElem?_eq_getElem c⟩
        obtain ⟨r, hr, hA⟩ := ihf (i + 1) (by omega) L 0 (by omega) ls ws ss mt q2 B' hq2
        obtain ⟨w2, hw2⟩ : ∃ w, ws[i + 1]? = some w := ⟨_, List.getElem?_eq_getElem (by rw [B.met.len]; exact c)⟩
        have q2n := (B.met.run (i + 1) q2 w2 hq2 hw2).2.2.1
        refine ⟨r, enter r (Ev.step (fun k => by rw [pick_shortest.l0]) ?_), hA⟩
        rw [toI_get ls hq2]
        have tl : ((toI ls).length : Int) = (ls.length : Int) := by simp [toI]
        have nl := m.len
        exact Ev.cond (by omega) (Ev.cond (by omega) (Ev.cond (by omega) (Ev.cond (by omega) hr)))
      · have tl : ((toI ls).length : Int) = (ls.length : Int) := by simp [toI]
        refine ⟨([], false), enter _ (Ev.step (fun k => by rw [pick_shortest.l0]) (Ev.ncond (by omega) (Ev.fin rfl))), Or.inr ⟨B.met.none (fun k b hk hb => ?_), rfl⟩⟩
        rcases Nat.lt_or_eq_of_le (show k ≤ i by omega) with d | d
        · exact B.d1 k b d hb
        · subst d; exact B.d2 b hb
    | succ g ihg =>
      intro a hg ls ws ss mt q B hq
      have sz := B.met.size
      have il := (List.getElem?_eq_some_iff.1 hq).1
      obtain ⟨wi, hw⟩ : ∃ w, ws[i]? = some w := ⟨_, List.getElem?_eq_getElem (by rw [B.met.len]; exact il)⟩
      have qr := B.met.run i q wi hq hw
      have row := m.row qr.2.2.1
      have ra := row.2 a (by omega)
      have tl : ((toI ls).length : Int) = (ls.length : Int) := by simp [toI]
      have sl := B.sl
      have ml := B.ml
      have aE : rdOf false ac ((dlF nx q a : Nat) : Int) = acF ac (dlF nx q a) := m.acc ra.2
      by_cases c1 : acF ac (dlF nx q a) = true
      · refine ⟨(toI (wi ++ [a]), true), ?_, Or.inl ⟨wi ++ [a], B.met.found hq hw (by omega) B.d1 B.d2 c1, by rw [List.length_append]; have := qr.2.2.2; simp; omega, rfl⟩⟩
        refine Ev.step (fun k => by rw [pick_shortest.l1]) (Ev.cond (by omega) (Ev.cond (by omega) (Ev.cond (by omega) ?_)))
        rw [ra.1, aE, toI_get ls hq]
        exact Ev.cond (by omega) (Ev.cond (by omega) (Ev.cond c1 (Ev.cond (by omega) (Ev.cond (by omega) (Ev.bind (way_ev B.met B.chain hq hw (by omega)) (Ev.fin rfl))))))
      have c1' : acF ac (dlF nx q a) = false := by simpa using c1
      by_cases c2 : rdOf false mt ((dlF nx q a : Nat) : Int) = true
      · obtain ⟨r, hr, hA⟩ := ihg (a + 1) (by omega) ls ws ss mt q (B.old hq c1' ((B.mark _ ra.2).1 c2)) hq
        refine ⟨r, Ev.step (fun k => by rw [pick_shortest.l1]) (Ev.cond (by omega) (Ev.cond (by omega) (Ev.cond (by omega) ?_))), hA⟩
        rw [ra.1, aE, w64 (x := (a : Int) + 1) (by omega) (by omega)]
        exact Ev.cond (by omega) (Ev.cond (by omega) (Ev.ncond c1 (Ev.cond (by omega) (Ev.cond c2 hr))))
      · have B' := B.push m hq hw (by omega) ra.2 c1' (fun e => c2 ((B.mark _ ra.2).2 e))
        obtain ⟨r, hr, hA⟩ := ihg (a + 1) (by omega) _ _ _ _ q B' (get_snoc hq)
        refine ⟨r, Ev.step (fun k => by rw [pick_shortest.l1]) (Ev.cond (by omega) (Ev.cond (by omega) (Ev.cond (by omega) ?_))), hA⟩
        have tp : toI ls ++ [((dlF nx q a : Nat) : Int)] = toI (ls ++ [dlF nx q a]) := by simp [toI]
        rw [ra.1, aE, toI_get ls hq, w64 (x := (a : Int) + 1) (by omega) (by omega), tp, Int.toNat_natCast]
        exact Ev.cond (by omega) (Ev.cond (by omega) (Ev.ncond c1 (Ev.cond (by omega) (Ev.ncond c2 (Ev.cond (by omega) (Ev.cond (by omega) (Ev.cond (by omega) (Ev.cond (by omega) hr))))))))
theorem shortest_ev (m : Mk ac nx L) : ∃ r, Ev (fun k => pick_shortest.f k ns ac nx) r ∧ Ans ac nx L r := by
  have n1 := m.n1
  have n2 := m.n2
  have B : Bf ac nx L [0] [[]] ((List.replicate ac.length z109).set 0 ⟨-1, -1⟩) ((List.replicate ac.length false).set 0 true) 0 0 := by
    refine ⟨⟨rfl, ⟨rfl, rfl⟩, ?_, ?_, by simp⟩, ⟨?_, ?_, ?_⟩, by simp, by simp, ?_, fun k b hk => absurd hk (Nat.not_lt_zero _), fun b hb => absurd hb (Nat.not_lt_zero _), ?_⟩
    · intro k q w h1 h2
      rcases k with _ | k
      · simp at h1 h2; subst h1 h2; exact ⟨rfl, by simp [Let], by omega, Nat.le_refl _⟩
      · simp at h1
    · intro k k' w w' hk h1 h2
      rcases k' with _ | k'
      · omega
      · simp at h2
    · intro q hq; rw [List.mem_singleton.1 hq]; simp; omega
    · have := rdP_set (List.replicate ac.length z109) (p := 0) (q := 0) ⟨-1, -1⟩ (by simp; omega)
      exact this
    · intro k q w h1; simp at h1
    · intro q hq
      rw [rdOf_set false _ true (by simp; omega)]
      by_cases c : q = 0
      · rw [if_pos c]; simp [c]
      · rw [if_neg c]
        have : rdOf false (List.replicate ac.length false) (q : Int) = false := by rw [rdOf_get false _ (by simpa using hq)]; simp
        rw [this]; simp [c]
    · intro w hw k u hu
      rcases k with _ | k
      · simp at hw hu; subst hw hu; simp [rkF]
      · simp at hu
  obtain ⟨r, hr, hA⟩ := shortest_loop (ns := ns) m ac.length 0 (by omega) L 0 (by omega) _ _ _ _ 0 B rfl
  refine ⟨r, Ev.congr (fun k => by rw [pick_shortest.f]) ?_, hA⟩
  refine Ev.cond (by omega) (Ev.cond (by omega) ?_)
  refine Ev.ret rfl ?_
  refine Ev.cond (by omega) ?_
  refine Ev.ret rfl ?_
  refine Ev.cond (by simp; omega) (Ev.cond (by simp; omega) (Ev.step (fun k => by rw [pick_shortest.l0]) ?_))
  have nl := m.len
  exact Ev.cond (by simp) (Ev.cond (by simp) (Ev.cond (by simp [rd]) (Ev.cond (by simp [rd]; omega) hr)))
end
end Go.Proofs.Ytninoenmhcbonaa.Pure
namespace Go.Proofs.Ytninoenmhcbonaa.Pure
open Go.RowKit Go.Proofs.YtninoenmhcbonaaW.PrintWords Go.Proofs.YtninoenmhcbonaaW.PrintLast Go.Proofs.YtninoenmhcbonaaW.PrintMore Go.Proofs.Ytninoenmhcbonaa.X
set_option linter.unusedVariables false
section
variable {ns : List ByteArray} {ac : List Bool} {nx : List (List Int)} {L : Nat}
/-- The list of the states from which so many letters lead to an accepting one. -/
def accL (ac : List Bool) (nx : List (List Int)) (L n : Nat) : List Bool := (List.range ac.length).map (accN (acF ac) (dlF nx) L n)
/-- The lists, as far as they are made. -/
def lists (ac : List Bool) (nx : List (List Int)) (L n : Nat) : List (List Bool) := (List.range (n + 1)).map (accL ac nx L)
end
end Go.Proofs.Ytninoenmhcbonaa.Pure
namespace Go.Proofs.Ytninoenmhcbonaa.Pure
open Go.RowKit Go.Proofs.YtninoenmhcbonaaW.PrintWords Go.Proofs.YtninoenmhcbonaaW.PrintLast Go.Proofs.YtninoenmhcbonaaW.PrintMore Go.Proofs.Ytninoenmhcbonaa.X
set_option linter.unusedVariables false
section
variable {ns : List ByteArray} {ac : List Bool} {st : List Int} {ar : List S73}
theorem AOk.mach (a : AOk ns ac st ar) : Mk ac (rows ns.length st ar ac.length) (2 ^ ns.length) := by
  refine ⟨rows_len .., a.fr.n1, a.fr.n2, Nat.two_pow_pos _, pow6 a.fr.tr, fun r hr => ?_⟩
  obtain ⟨q, hq, rfl⟩ := List.mem_map.1 hr
  have hq := List.mem_range.1 hq
  exact ⟨rowOf_len .., fun x hx => ⟨UnpOk.mem (a.unp q hq).pos x hx, a.low q hq x hx⟩⟩
theorem pshort_ok (hs : SZ ns) (ha : ar.length ≤ 9000000000000000000) (hn : ns.length * 16 ≤ 140737488351232) (a : AOk ns ac st ar) {r : List Int × Bool} (hr : Ev (fun k => pick_shortest.f k ns ac (rows ns.length st ar ac.length)) r) :
    Ev (fun k => pick_Shortest.f k ns ac st ar) (if r.2 = true then (r.1, 0) else ([], 190)) := by
  refine Ev.congr (fun k => by rw [pick_Shortest.f]) (Ev.bind (tunpack_ok hs ha hn a) (Ev.cond rfl (Ev.bind hr ?_)))
  by_cases c : r.2 = true
  · rw [show (if r.2 = true then (r.1, (0 : Int)) else ([], 190)) = (r.1, 0) from if_pos c]; exact Ev.cond c (Ev.fin rfl)
  · rw [show (if r.2 = true then (r.1, (0 : Int)) else ([], 190)) = ([], 190) from if_neg c]; exact Ev.ncond c (Ev.fin rfl)
theorem pempty_ok (hs : SZ ns) (ha : ar.length ≤ 9000000000000000000) (hn : ns.length * 16 ≤ 140737488351232) (a : AOk ns ac st ar) {r : List Int × Bool} (hr : Ev (fun k => pick_shortest.f k ns ac (rows ns.length st ar ac.length)) r) :
    Ev (fun k => pick_Empty.f k ns ac st ar) (!r.2, 0) := by
  refine Ev.congr (fun k => by rw [pick_Empty.f]) (Ev.bind (tunpack_ok hs ha hn a) ?_)
  refine Ev.cond rfl ?_
  exact Ev.bind hr (Ev.fin rfl)
theorem pshort_no (hs : SZ ns) (ha : ar.length ≤ 9000000000000000000) (hc : ac.length ≤ 9000000000000000000) (hst : st.length ≤ 9000000000000000000) (a : ¬ AOk ns ac st ar) : Ev (fun k => pick_Shortest.f k ns ac st ar) ([], 3) := by
  refine Ev.congr (fun k => by rw [pick_Shortest.f]) (Ev.bind (tunpack_no hs ha hc hst a) ?_)
  exact Ev.ncond (by decide) (Ev.fin rfl)
theorem pempty_no (hs : SZ ns) (ha : ar.length ≤ 9000000000000000000) (hc : ac.length ≤ 9000000000000000000) (hst : st.length ≤ 9000000000000000000) (a : ¬ AOk ns ac st ar) : Ev (fun k => pick_Empty.f k ns ac st ar) (false, 3) := by
  refine Ev.congr (fun k => by rw [pick_Empty.f]) (Ev.bind (tunpack_no hs ha hc hst a) ?_)
  exact Ev.ncond (by decide) (Ev.fin rfl)
theorem fixed19_ev : Ev (fun k => tabardlaw19_fixed.f k) true := Ev.of tabardlaw19_fixed.mono (show tabardlaw19_fixed.f 100 = some true by decide +kernel)
theorem ints_self (l : List Int) (h : l.length ≤ 9000000000000000000) : Ev (fun k => tabardlaw19_ints.f k l l) true := by
  refine Ev.congr (fun k => by rw [tabardlaw19_ints.f]) (Ev.cond rfl ?_)
  have key : ∀ (m i : Nat), i + m = l.length → Ev (fun k => tabardlaw19_ints.l0 k l l (l.length : Int) (i : Int)) true := by
    intro m
    induction m with
    | zero => intro i hi; exact Ev.step (fun k => by rw [tabardlaw19_ints.l0]) (Ev.ncond (by omega) (Ev.fin rfl))
    | succ m ih =>
      intro i hi
      refine Ev.step (fun k => by rw [tabardlaw19_ints.l0]) (Ev.cond (by omega) (Ev.cond (by omega) (Ev.cond (by omega) (Ev.cond (by omega) (Ev.cond rfl ?_)))))
      rw [w64 (by omega) (by omega)]
      exact ih (i + 1) (by omega)
  exact key l.length 0 (by omega)
end
end Go.Proofs.Ytninoenmhcbonaa.Pure
namespace Go.Proofs.Ytninoenmhcbonaa.Pure
open Go.RowKit Go.Proofs.YtninoenmhcbonaaW.PrintWords Go.Proofs.YtninoenmhcbonaaW.PrintLast Go.Proofs.YtninoenmhcbonaaW.PrintMore Go.Proofs.Ytninoenmhcbonaa.X
set_option linter.unusedVariables false

/-! ### Lists against each other -/
theorem list_eq_of {a b : List Int} (h : a.length = b.length) (he : ∀ i, i < a.length → rd a i = rd b i) : a = b := by
  apply List.ext_getElem h
  intro i h1 h2
  have := he i h1
  simp only [rd, Int.toNat_natCast, List.getD_eq_getElem?_getD, List.getElem?_eq_getElem h1, List.getElem?_eq_getElem h2, Option.getD_some] at this
  exact this
/-! ### Length -/
def uabs (v : Int) : Nat := if v < 0 then (-v - 1).toNat else v.toNat
def len2 (v : Int) : Nat := Go.Lib.bitLen (uabs v) + 1
def I64 (v : Int) : Prop := -9223372036854775808 ≤ v ∧ v ≤ 9223372036854775807
theorem uabs_lt {v : Int} (h : I64 v) : uabs v < 9223372036854775808 := by unfold uabs; unfold I64 at h; split <;> omega
theorem uabs_half (v : Int) : uabs (v / 2) = uabs v / 2 := by unfold uabs; split <;> split <;> omega
theorem uabs_zero {v : Int} : uabs v = 0 ↔ v = 0 ∨ v = -1 := by unfold uabs; split <;> omega
theorem bitLen_zero : Go.Lib.bitLen 0 = 0 := by decide
theorem bitLen_le {x f : Nat} (hf : f ≤ 64) (h : x < 2 ^ f) : Go.Lib.bitLen x ≤ f := by
  have hl : ∀ (g y : Nat), Go.Lib.bitLenAux g y ≤ g := by
    intro g
    induction g with
    | zero => intro y; simp [Go.Lib.bitLenAux]
    | succ g ih =>
      intro y
      rw [Go.Lib.bitLenAux]
      have := ih (y / 2)
      split <;> omega
  unfold Go.Lib.bitLen
  rw [Go.Lib.bitLenAux_fuel f x h 64 hf]
  exact hl f x
theorem len2_small {v : Int} (h : v = 0 ∨ v = -1) : len2 v = 1 := by unfold len2; rw [uabs_zero.2 h, bitLen_zero]
theorem len2_step {v : Int} (h : I64 v) (h0 : ¬ (v = 0 ∨ v = -1)) : len2 v = len2 (v / 2) + 1 := by
  have hu := uabs_lt h
  have hz : uabs v ≠ 0 := fun e => h0 (uabs_zero.1 e)
  unfold len2
  rw [Go.Lib.bitLen_half _ hz (by omega), uabs_half]; omega
theorem len2_le {v : Int} (h : I64 v) : len2 v ≤ 64 := by
  unfold len2
  have := bitLen_le (f := 63) (by omega) (uabs_lt h)
  omega
theorem i64_half {v : Int} (h : I64 v) : I64 (v / 2) := by unfold I64 at *; omega
theorem xor_neg {v : Int} (h : I64 v) : Go.bits .xor .i64 (-1) v = -v - 1 := by
  unfold I64 at h
  have : Go.bits .xor .i64 (-1) v = IntKind.i64.wrap ((BitVec.ofInt 64 (-1) ^^^ BitVec.ofInt 64 v).toNat : Int) := rfl
  rw [this]
  have e1 : BitVec.ofInt 64 (-1) ^^^ BitVec.ofInt 64 v = ~~~ (BitVec.ofInt 64 v) := by
    have : BitVec.ofInt 64 (-1) = BitVec.allOnes 64 := by decide
    rw [this, BitVec.allOnes_xor]
  rw [e1, BitVec.toNat_not, BitVec.toNat_ofInt]
  have hw : ∀ z : Int, IntKind.i64.wrap z = (z + 9223372036854775808) % 18446744073709551616 - 9223372036854775808 := fun z => IntKind.wrap_i64 z
  rw [hw]
  omega
theorem length_eq {v : Int} (h : I64 v) : word_Length.f v = some (len2 v : Int) := by
  have hu := uabs_lt h
  have hl := len2_le h
  unfold I64 at h
  unfold word_Length.f
  by_cases hn : v < 0
  · rw [if_pos hn, xor_neg h, u64 (by omega) (by omega), bits_Len64.f, if_pos (by omega)]
    have : (-v - 1).toNat = uabs v := by unfold uabs; rw [if_pos hn]
    rw [this]
    unfold len2 at hl ⊢
    rw [Option.bind_some, w64 (by omega) (by omega)]; simp
  · rw [if_neg hn, u64 (by omega) (by omega), bits_Len64.f, if_pos (by omega)]
    have : v.toNat = uabs v := by unfold uabs; rw [if_neg hn]
    rw [this]
    unfold len2 at hl ⊢
    rw [Option.bind_some, w64 (by omega) (by omega)]; simp
/-! ### Longest -/
def longest (l : List Int) : Nat := l.foldl (fun n v => max n (len2 v)) 1
def AllI (l : List Int) : Prop := ∀ v ∈ l, I64 v
theorem allI_rd {l : List Int} (h : AllI l) {i : Nat} (hi : i < l.length) : I64 (rd l (i : Int)) := by
  rw [rd_nat, List.getD_eq_getElem?_getD, List.getElem?_eq_getElem hi]
  exact h _ (List.getElem_mem hi)
theorem fold_from (l : List Int) (n : Nat) (hn : 1 ≤ n) (hn2 : n ≤ 64) (h : AllI l) : 1 ≤ l.foldl (fun n v => max n (len2 v)) n ∧ l.foldl (fun n v => max n (len2 v)) n ≤ 64 ∧ n ≤ l.foldl (fun n v => max n (len2 v)) n ∧ ∀ v ∈ l, len2 v ≤ l.foldl (fun n v => max n (len2 v)) n := by
  induction l generalizing n with
  | nil => exact ⟨hn, hn2, Nat.le_refl _, fun v hv => by simp at hv⟩
  | cons a l ih =>
    have ha := len2_le (h a (List.mem_cons_self ..))
    obtain ⟨h1, h2, h3, h4⟩ := ih (max n (len2 a)) (by omega) (by omega) (fun v hv => h v (List.mem_cons_of_mem _ hv))
    refine ⟨h1, h2, Nat.le_trans (Nat.le_max_left _ _) h3, fun v hv => ?_⟩
    rcases List.mem_cons.1 hv with rfl | hv
    · exact Nat.le_trans (Nat.le_max_right _ _) h3
    · exact h4 v hv
theorem longest_bd {l : List Int} (h : AllI l) : 1 ≤ longest l ∧ longest l ≤ 64 := ⟨(fold_from l 1 (by omega) (by omega) h).1, (fold_from l 1 (by omega) (by omega) h).2.1⟩
theorem mx_nat (a b : Nat) : mx (a : Int) (b : Int) = ((max a b : Nat) : Int) := by unfold mx; split <;> omega
theorem fold_drop (l : List Int) (i n : Nat) (hi : i < l.length) : (l.drop i).foldl (fun n v => max n (len2 v)) n = (l.drop (i + 1)).foldl (fun n v => max n (len2 v)) (max n (len2 (rd l (i : Int)))) := by
  rw [List.drop_eq_getElem_cons hi, List.foldl_cons, rd_nat, List.getD_eq_getElem?_getD, List.getElem?_eq_getElem hi]; rfl
theorem longest_ev {l : List Int} (h : AllI l) (hl : l.length ≤ 9000000000000000000) : Ev (fun k => word_Longest.f k l) (longest l : Int) := by
  have key : ∀ (d i n : Nat), i + d = l.length → Ev (fun k => word_Longest.l0 k (n : Int) l (l.length : Int) (i : Int)) (((l.drop i).foldl (fun n v => max n (len2 v)) n : Nat) : Int) := by
    intro d
    induction d with
    | zero =>
      intro i n hi
      refine Ev.step (fun k => by rw [word_Longest.l0]) (Ev.ncond (by omega) (Ev.fin ?_))
      rw [List.drop_eq_nil_of_le (by omega)]; rfl
    | succ d ih =>
      intro i n hi
      refine Ev.step (fun k => by rw [word_Longest.l0]) ?_
      refine Ev.cond (by omega) (Ev.cond (by omega) (Ev.cond (by omega) ?_))
      refine Ev.ret (length_eq (allI_rd h (by omega))) ?_
      rw [mx_nat, w64 (by omega) (by omega), fold_drop l i n (by omega)]
      exact ih (i + 1) _ (by omega)
  have := key l.length 0 1 (by omega)
  exact this
/-! ### Digits -/
def dgt (v : Int) (i : Nat) : Nat := (v / 2 ^ i % 2).toNat
theorem dgt_lt (v : Int) (i : Nat) : dgt v i < 2 := by unfold dgt; omega
theorem dgt_int (v : Int) (i : Nat) : (dgt v i : Int) = v / 2 ^ i % 2 := by unfold dgt; omega
theorem dgt_half (v : Int) (i : Nat) : dgt (v / 2) i = dgt v (i + 1) := by
  unfold dgt
  rw [Int.ediv_ediv_of_nonneg (by omega), Int.pow_succ, Int.mul_comm]
theorem and1_i64 {x : Int} (h : I64 x) : Go.bits .and .i64 x 1 = x % 2 := by
  unfold I64 at h
  have e0 : Go.bits .and .i64 x 1 = IntKind.i64.wrap ((BitVec.ofInt 64 x &&& BitVec.ofInt 64 1).toNat : Int) := rfl
  have e1 : (BitVec.ofInt 64 x &&& BitVec.ofInt 64 1).toNat = (BitVec.ofInt 64 x).toNat % 2 := by
    rw [BitVec.toNat_and, show (BitVec.ofInt 64 1).toNat = 2 ^ 1 - 1 from rfl, Nat.and_two_pow_sub_one_eq_mod]
  have hw : ∀ z : Int, IntKind.i64.wrap z = (z + 9223372036854775808) % 18446744073709551616 - 9223372036854775808 := fun z => IntKind.wrap_i64 z
  rw [e0, e1, hw, BitVec.toNat_ofInt]
  omega
theorem i64_shr {v : Int} (h : I64 v) (i : Nat) : I64 (v / 2 ^ i) := by
  induction i with
  | zero => simpa using h
  | succ i ih =>
    have e : v / 2 ^ (i + 1) = v / 2 ^ i / 2 := by rw [Int.pow_succ, Int.ediv_ediv_of_nonneg (Int.pow_nonneg (by omega))]
    rw [e]; exact i64_half ih
theorem shr_i64 (v : Int) {i : Nat} (h : i ≤ 64) : shr .i64 v (i : Int) = v / 2 ^ i := by
  unfold shr
  rw [Int.toNat_natCast, Nat.min_eq_left (by simpa [IntKind.bits] using h)]
theorem digit_of {v : Int} (h : I64 v) {i : Nat} (hi : i ≤ 64) : Go.bits .and .i64 (shr .i64 v (i : Int)) 1 = (dgt v i : Int) := by
  rw [shr_i64 v hi, and1_i64 (i64_shr h i), dgt_int]
end Go.Proofs.Ytninoenmhcbonaa.Pure
namespace Go.Proofs.Ytninoenmhcbonaa.Pure
open Go.RowKit Go.Proofs.YtninoenmhcbonaaW.PrintWords Go.Proofs.YtninoenmhcbonaaW.PrintLast Go.Proofs.YtninoenmhcbonaaW.PrintMore Go.Proofs.Ytninoenmhcbonaa.X
set_option linter.unusedVariables false

/-! ### The word of a tuple -/
def lt (l : List Int) : Nat → Nat → Nat
  | 0, _ => 0
  | t + 1, i => lt l t i + dgt (rd l (t : Int)) i * 2 ^ t
theorem lt_lt (l : List Int) (t i : Nat) : lt l t i < 2 ^ t := by
  induction t with
  | zero => simp [lt]
  | succ t ih =>
    have := dgt_lt (rd l (t : Int)) i
    rw [lt, Nat.pow_succ]
    have h2 : dgt (rd l (t : Int)) i * 2 ^ t ≤ 1 * 2 ^ t := Nat.mul_le_mul_right _ (by omega)
    omega
def upd (l : List Int) (n t i : Nat) : List Int := (List.range n).map fun j => ((if j < i then lt l (t + 1) j else lt l t j : Nat) : Int)
def enc (l : List Int) (n : Nat) : List Int := (List.range n).map fun j => (lt l l.length j : Int)
theorem upd_length (l : List Int) (n t i : Nat) : (upd l n t i).length = n := by simp [upd]
theorem upd_rd (l : List Int) {n t i j : Nat} (h : j < n) : rd (upd l n t i) (j : Int) = ((if j < i then lt l (t + 1) j else lt l t j : Nat) : Int) := by
  rw [rd_nat, List.getD_eq_getElem?_getD, List.getElem?_eq_getElem (by rw [upd_length]; exact h)]
  simp [upd]
theorem upd_set (l : List Int) {n t i : Nat} (h : i < n) : (upd l n t i).set i (lt l (t + 1) i : Int) = upd l n t (i + 1) := by
  apply List.ext_getElem
  · simp [upd]
  · intro j h1 h2
    rw [List.getElem_set]
    by_cases e : i = j
    · subst e; simp [upd]
    · rw [if_neg e]
      simp only [upd, List.getElem_map, List.getElem_range]
      by_cases hj : j < i
      · rw [if_pos hj, if_pos (by omega)]
      · rw [if_neg hj, if_neg (by omega)]
theorem upd_full (l : List Int) (n t : Nat) : upd l n t n = upd l n (t + 1) 0 := by
  unfold upd
  apply List.map_congr_left
  intro j hj
  rw [List.mem_range] at hj
  rw [if_pos hj, if_neg (by omega)]
theorem upd_none (l : List Int) (n : Nat) : upd l n 0 0 = List.replicate n 0 := by
  unfold upd
  apply List.ext_getElem
  · simp
  · intro j h1 h2; simp [lt]
theorem upd_enc (l : List Int) (n : Nat) : upd l n l.length 0 = enc l n := by
  unfold upd enc
  apply List.map_congr_left
  intro j hj
  rw [if_neg (by omega)]
theorem pow_le6 {t : Nat} (h : t ≤ 6) : 2 ^ t ≤ 64 := by
  have : 2 ^ t ≤ 2 ^ 6 := Nat.pow_le_pow_right (by omega) h
  simpa using this
theorem or_shl {a d t : Nat} (ha : a < 2 ^ t) (hd : d < 2) (ht : t ≤ 6) : Go.bits .or .i64 (a : Int) (shl .i64 (d : Int) (t : Int)) = ((a + d * 2 ^ t : Nat) : Int) := by
  have hp := pow_le6 ht
  have hdp : d * 2 ^ t ≤ 1 * 2 ^ t := Nat.mul_le_mul_right _ (by omega)
  have e1 : shl .i64 (d : Int) (t : Int) = ((d * 2 ^ t : Nat) : Int) := by
    unfold shl
    rw [Int.toNat_natCast, Nat.min_eq_left (by simp [IntKind.bits]; omega), show (d : Int) * 2 ^ t = ((d * 2 ^ t : Nat) : Int) by simp, IntKind.wrap_i64]
    omega
  rw [e1, (bits_nat .i64 63 (by decide) (fun n h0 h1 => by rw [IntKind.wrap_i64]; omega) a (d * 2 ^ t) (by omega) (by omega)).2]
  congr 1
  rw [Nat.or_comm, Nat.mul_comm d, ← Nat.two_pow_add_eq_or_of_lt ha d]
  omega
/-- What Encode answers. -/
def encS (l : List Int) (n : Int) : List Int × Int := if l.length > 6 then ([], 150) else if n < (longest l : Int) ∨ n > 64 then ([], 2) else (enc l n.toNat, 0)
theorem encode_ev {l : List Int} (h : AllI l) (hl : l.length ≤ 9000000000000000000) (n : Int) : Ev (fun k => word_Encode.f k l n) (encS l n) := by
  refine Ev.congr (fun k => by rw [word_Encode.f]) ?_
  unfold encS
  by_cases h6 : l.length > 6
  · rw [if_pos h6]
    exact Ev.cond (by omega) (Ev.now _)
  rw [if_neg h6]
  have hb := longest_bd h
  refine Ev.ncond (by omega) (Ev.bind (longest_ev h hl) ?_)
  have bad : Ev (fun k => word_Encode.j0 k l n true) (([] : List Int), 2) := Ev.step (fun k => by rw [word_Encode.j0]) (Ev.cond rfl (Ev.now _))
  refine Ev.ite (fun hc => ?_) (fun hc => ?_)
  · rw [if_pos (.inl hc)]; exact bad
  by_cases h64 : n > 64
  · rw [if_pos (.inr h64), decide_eq_true h64]; exact bad
  rw [if_neg (by omega), decide_eq_false h64]
  obtain ⟨m, rfl⟩ := Int.eq_ofNat_of_zero_le (show 0 ≤ n by omega)
  rw [Int.toNat_natCast]
  refine Ev.step (fun k => by rw [word_Encode.j0]) (Ev.ncond (by simp) (Ev.cond (by omega) (Ev.cond (by omega) ?_)))
  rw [Int.toNat_natCast, ← upd_none l m]
  have inner : ∀ (t : Nat), t < l.length → ∀ (d i : Nat), i + d = m → Ev (fun k => word_Encode.l0 k (upd l m (t + 1) 0) l (l.length : Int) ((t + 1 : Nat) : Int)) (enc l m, 0) →
      Ev (fun k => word_Encode.l1 k (upd l m t i) (t : Int) (rd l (t : Int)) l (l.length : Int) (t : Int) ((upd l m t i).length : Int) (i : Int)) (enc l m, 0) := by
    intro t ht d
    induction d with
    | zero =>
      intro i hi hk
      refine Ev.step (fun k => by rw [word_Encode.l1]) ?_
      rw [upd_length]
      refine Ev.ncond (by omega) ?_
      rw [w64 (by omega) (by omega)]
      obtain rfl : i = m := by omega
      rw [upd_full]
      exact hk
    | succ d ih =>
      intro i hi hk
      refine Ev.step (fun k => by rw [word_Encode.l1]) ?_
      have e1 := ih (i + 1) (by omega) hk
      rw [upd_length] at e1 ⊢
      refine Ev.cond (by omega) (Ev.cond (by omega) (Ev.cond (by omega) (Ev.cond (by omega) ?_)))
      have hv := allI_rd h ht
      rw [upd_rd l (show i < m by omega), if_neg (Nat.lt_irrefl i), digit_of hv (by omega), or_shl (lt_lt l t i) (dgt_lt _ _) (by omega), Int.toNat_natCast, w64 (x := (i : Int) + 1) (by omega) (by omega)]
      have e2 := upd_set l (t := t) (show i < m by omega)
      rw [lt] at e2
      rw [e2]
      exact e1
  have outer : ∀ (d t : Nat), t + d = l.length → Ev (fun k => word_Encode.l0 k (upd l m t 0) l (l.length : Int) (t : Int)) (enc l m, 0) := by
    intro d
    induction d with
    | zero =>
      intro t ht
      refine Ev.step (fun k => by rw [word_Encode.l0]) (Ev.ncond (by omega) (Ev.fin ?_))
      obtain rfl : t = l.length := by omega
      rw [upd_enc]
    | succ d ih =>
      intro t ht
      refine Ev.step (fun k => by rw [word_Encode.l0]) ?_
      refine Ev.cond (by omega) (Ev.cond (by omega) (Ev.cond (by omega) ?_))
      exact inner t (by omega) m 0 (by omega) (ih (t + 1) (by omega))
  exact outer l.length 0 (by omega)
end Go.Proofs.Ytninoenmhcbonaa.Pure
namespace Go.Proofs.Ytninoenmhcbonaa.Pure
open Go.RowKit Go.Proofs.YtninoenmhcbonaaW.PrintWords Go.Proofs.YtninoenmhcbonaaW.PrintLast Go.Proofs.YtninoenmhcbonaaW.PrintMore Go.Proofs.Ytninoenmhcbonaa.X
set_option linter.unusedVariables false

/-! ### Digits -/
/-! ### Number -/
def Bits (l : List Int) : Prop := ∀ d ∈ l, d = 0 ∨ d = 1
instance (l : List Int) : Decidable (Bits l) := inferInstanceAs (Decidable (∀ d ∈ l, d = 0 ∨ d = 1))
def uv : List Int → Nat
  | [] => 0
  | d :: ds => d.toNat + 2 * uv ds
/-- Two's complement. -/
def tv : List Int → Int
  | [] => 0
  | [d] => -d
  | d :: e :: ds => d + 2 * tv (e :: ds)
theorem bits_tail {d : Int} {l : List Int} (h : Bits (d :: l)) : Bits l := fun x hx => h x (List.mem_cons_of_mem _ hx)
theorem bits_head {d : Int} {l : List Int} (h : Bits (d :: l)) : d = 0 ∨ d = 1 := h d (List.mem_cons_self ..)
theorem uv_lt {l : List Int} (h : Bits l) : uv l < 2 ^ l.length := by
  induction l with
  | nil => simp [uv]
  | cons d ds ih =>
    have := ih (bits_tail h)
    rw [uv, List.length_cons, Nat.pow_succ]
    rcases bits_head h with rfl | rfl <;> simp <;> omega
theorem tv_uv {l : List Int} (h : Bits l) (hl : l ≠ []) : tv l = (uv l : Int) - (if 2 ^ (l.length - 1) ≤ uv l then ((2 ^ l.length : Nat) : Int) else 0) := by
  induction l with
  | nil => exact absurd rfl hl
  | cons d ds ih =>
    cases ds with
    | nil => rcases bits_head h with rfl | rfl <;> simp [tv, uv]
    | cons e ds =>
      have ih' := ih (bits_tail h) (by simp)
      have e3 : uv (d :: e :: ds) = d.toNat + 2 * uv (e :: ds) := rfl
      rw [tv, ih', e3]
      simp only [List.length_cons, Nat.add_sub_cancel] at ih' ⊢
      generalize uv (e :: ds) = u
      have e1 : 2 ^ (ds.length + 1) = 2 * 2 ^ ds.length := by rw [Nat.pow_succ, Nat.mul_comm]
      have e2 : 2 ^ (ds.length + 1 + 1) = 2 * 2 ^ (ds.length + 1) := by rw [Nat.pow_succ, Nat.mul_comm]
      rw [e2, e1]
      generalize 2 ^ ds.length = p
      rcases bits_head h with rfl | rfl
      · by_cases hp : p ≤ u
        · rw [if_pos hp, if_pos (by simp; omega)]; simp; omega
        · rw [if_neg hp, if_neg (by simp; omega)]; simp
      · by_cases hp : p ≤ u
        · rw [if_pos hp, if_pos (by simp; omega)]; simp; omega
        · rw [if_neg hp, if_neg (by simp; omega)]; simp
theorem tv_bd {l : List Int} (h : Bits l) (hl : l ≠ []) : -((2 ^ (l.length - 1) : Nat) : Int) ≤ tv l ∧ tv l < ((2 ^ (l.length - 1) : Nat) : Int) := by
  have h1 := uv_lt h
  have h2 := tv_uv h hl
  have h3 : 2 ^ l.length = 2 * 2 ^ (l.length - 1) := by
    have : l.length ≠ 0 := fun e => hl (List.eq_nil_of_length_eq_zero e)
    rw [← Nat.pow_succ']; congr 1; omega
  rw [h3] at h1 h2
  rw [h2]
  generalize 2 ^ (l.length - 1) = p at *
  split <;> omega
theorem pow63 {m : Nat} (h : m ≤ 63) : 2 ^ m ≤ 9223372036854775808 := by
  have : 2 ^ m ≤ 2 ^ 63 := Nat.pow_le_pow_right (by omega) h
  simpa using this
theorem tv_i64 {l : List Int} (h : Bits l) (hl : l ≠ []) (h64 : l.length ≤ 64) : I64 (tv l) := by
  have := tv_bd h hl
  have := pow63 (show l.length - 1 ≤ 63 by omega)
  unfold I64
  omega
/-- What Number answers. -/
def numS (l : List Int) : Int × Int := if l = [] ∨ ¬ Bits l then (0, 3) else if l.length > 64 then (0, 31) else (tv l, 0)
theorem bits_dec (l : List Int) : Bits l ∨ ∃ i, i < l.length ∧ (∀ j, j < i → rd l (j : Int) = 0 ∨ rd l (j : Int) = 1) ∧ rd l (i : Int) ≠ 0 ∧ rd l (i : Int) ≠ 1 := by
  induction l with
  | nil => exact .inl fun d hd => by simp at hd
  | cons d ds ih =>
    by_cases hd : d = 0 ∨ d = 1
    · rcases ih with ih | ⟨i, h1, h2, h3⟩
      · exact .inl fun x hx => by
          rcases List.mem_cons.1 hx with rfl | hx
          · exact hd
          · exact ih x hx
      · refine .inr ⟨i + 1, by simpa using h1, fun j hj => ?_, by simpa [rd] using h3⟩
        cases j with
        | zero => simpa [rd] using hd
        | succ j => have := h2 j (by omega); simpa [rd] using this
    · exact .inr ⟨0, by simp, fun j hj => absurd hj (Nat.not_lt_zero _), by simpa [rd] using not_or.1 hd⟩
theorem bits_rd {l : List Int} (h : Bits l) {i : Nat} (hi : i < l.length) : rd l (i : Int) = 0 ∨ rd l (i : Int) = 1 := by
  rw [rd_nat, List.getD_eq_getElem?_getD, List.getElem?_eq_getElem hi]
  exact h _ (List.getElem_mem hi)
theorem any_noDigit (l : List Int) : l.any noDigit = decide (¬ Bits l) := by
  rw [Bool.eq_iff_iff, List.any_eq_true, decide_eq_true_iff]
  constructor
  · rintro ⟨x, hx, hn⟩ hb
    rcases hb x hx with rfl | rfl <;> simp [noDigit] at hn
  · intro hb
    rcases bits_dec l with h | ⟨i, h1, _, h2, h3⟩
    · exact absurd h hb
    · rw [rd_nat, List.getD_eq_getElem?_getD, List.getElem?_eq_getElem h1] at h2 h3
      exact ⟨_, List.getElem_mem h1, by simp [noDigit]; exact ⟨h2, h3⟩⟩
theorem or_i64 {u d i : Nat} (hu : u < 2 ^ i) (hd : d < 2) (hi : i ≤ 63) : Go.bits .or .i64 (wrap64 (u : Int)) (shl .i64 (d : Int) (i : Int)) = wrap64 ((u + d * 2 ^ i : Nat) : Int) := by
  have hp := pow63 hi
  have hdp : d * 2 ^ i ≤ 1 * 2 ^ i := Nat.mul_le_mul_right _ (by omega)
  have e0 : ∀ x y : Int, Go.bits .or .i64 x y = IntKind.i64.wrap ((BitVec.ofInt 64 x ||| BitVec.ofInt 64 y).toNat : Int) := fun _ _ => rfl
  have hw : ∀ z : Int, IntKind.i64.wrap z = wrap64 z := fun z => i64_w z
  have eb : ∀ z : Nat, z < 18446744073709551616 → (BitVec.ofInt 64 (wrap64 (z : Int))).toNat = z := by
    intro z hz
    rw [BitVec.toNat_ofInt]
    unfold wrap64
    omega
  have e1 : shl .i64 (d : Int) (i : Int) = wrap64 ((d * 2 ^ i : Nat) : Int) := by
    unfold shl
    rw [Int.toNat_natCast, Nat.min_eq_left (by simp [IntKind.bits]; omega), show (d : Int) * 2 ^ i = ((d * 2 ^ i : Nat) : Int) by simp, hw]
  rw [e0, e1, BitVec.toNat_or, eb u (by omega), eb _ (by omega), hw, Nat.or_comm, Nat.mul_comm d, ← Nat.two_pow_add_eq_or_of_lt hu d]
  congr 2
  omega
theorem uv_take (l : List Int) (h : Bits l) (i : Nat) (hi : i < l.length) : uv (l.take (i + 1)) = uv (l.take i) + (rd l (i : Int)).toNat * 2 ^ i := by
  induction l generalizing i with
  | nil => simp at hi
  | cons d ds ih =>
    cases i with
    | zero => simp [uv, rd]
    | succ i =>
      rw [List.take_succ_cons, List.take_succ_cons, uv, uv, ih (bits_tail h) i (by simpa using hi)]
      have : rd (d :: ds) ((i + 1 : Nat) : Int) = rd ds (i : Int) := by simp [rd]
      rw [this, Nat.pow_succ, Nat.mul_add, Nat.add_assoc]
      congr 2
      rw [Nat.mul_comm 2, Nat.mul_assoc]
theorem number_ev {l : List Int} (hl : l.length ≤ 9000000000000000000) : Ev (fun k => word_Number.f k l) (numS l) := by
  refine Ev.congr (fun k => by rw [word_Number.f]) ?_
  unfold numS
  have bad : Ev (fun k => word_Number.j0 k l true) ((0 : Int), 3) := Ev.step (fun k => by rw [word_Number.j0]) (Ev.cond rfl (Ev.now _))
  refine Ev.ite (fun h0 => ?_) (fun h0 => ?_)
  · rw [if_pos (.inl (List.eq_nil_of_length_eq_zero (by omega)))]; exact bad
  have hne : l ≠ [] := fun e => h0 (by rw [e]; rfl)
  refine Ev.ret (show slices_ContainsFunc_int_int.f l = some (decide (¬ Bits l)) by unfold slices_ContainsFunc_int_int.f; rw [any_noDigit]) ?_
  by_cases hnb : ¬ Bits l
  · rw [if_pos (.inr hnb), decide_eq_true hnb]; exact bad
  have hb : Bits l := Decidable.not_not.1 hnb
  rw [if_neg (fun h => h.elim hne (fun h => h hb)), decide_eq_false (fun h => h hb)]
  refine Ev.step (fun k => by rw [word_Number.j0]) (Ev.ncond (by simp) ?_)
  by_cases h64 : l.length > 64
  · rw [if_pos h64]; exact Ev.cond (by omega) (Ev.now _)
  rw [if_neg h64]
  refine Ev.ncond (by omega) ?_
  have loop : ∀ (d i : Nat), i + d = l.length → Ev (fun k => word_Number.l0 k l (wrap64 ((uv (l.take i) : Nat) : Int)) l (l.length : Int) (i : Int)) (tv l, 0) := by
    intro d
    induction d with
    | zero =>
      intro i hi
      refine Ev.step (fun k => by rw [word_Number.l0]) (Ev.ncond (by omega) ?_)
      have es : wrap64 (64 - (l.length : Int)) = ((64 - l.length : Nat) : Int) := by rw [w64 (by omega) (by omega)]; omega
      rw [es]
      refine Ev.cond (by omega) (Ev.fin ?_)
      rw [List.take_of_length_le (by omega), tv_uv hb hne]
      have hu := uv_lt hb
      have h1 : 2 ^ l.length * 2 ^ (64 - l.length) = 18446744073709551616 := by rw [← Nat.pow_add, show l.length + (64 - l.length) = 64 by omega]
      have h3 : 2 ^ l.length = 2 * 2 ^ (l.length - 1) := by
        rw [← Nat.pow_succ']; congr 1; omega
      have hw : ∀ z : Int, IntKind.i64.wrap z = wrap64 z := fun z => i64_w z
      unfold shr shl
      rw [Int.toNat_natCast, Nat.min_eq_left (by simp [IntKind.bits]), hw]
      have hc : (2 : Int) ^ (64 - l.length) = ((2 ^ (64 - l.length) : Nat) : Int) := by simp
      rw [hc]
      have hpos : 0 < 2 ^ (64 - l.length) := Nat.two_pow_pos _
      generalize 2 ^ (64 - l.length) = s at h1 hpos
      rw [h3] at h1 hu ⊢
      generalize 2 ^ (l.length - 1) = p at h1 hu ⊢
      generalize uv l = u at hu ⊢
      have hps : 2 * (p * s) = 18446744073709551616 := by rw [← Nat.mul_assoc]; exact h1
      have hmod : wrap64 (wrap64 (u : Int) * (s : Int)) = wrap64 ((u * s : Nat) : Int) := by
        unfold wrap64
        have : ∃ q : Int, (((u : Int) + 9223372036854775808) % 18446744073709551616 - 9223372036854775808) = (u : Int) - 18446744073709551616 * q := ⟨((u : Int) + 9223372036854775808) / 18446744073709551616, by omega⟩
        obtain ⟨q, hq⟩ := this
        rw [hq, Int.sub_mul, Int.mul_assoc]
        generalize q * (s : Int) = z
        rw [show ((u * s : Nat) : Int) = (u : Int) * (s : Int) by simp]
        generalize (u : Int) * (s : Int) = y
        omega
      rw [hmod]
      congr 1
      by_cases hp : p ≤ u
      · rw [if_pos hp]
        have a1 : p * s ≤ u * s := Nat.mul_le_mul_right _ hp
        have a2 : u * s < 2 * p * s := Nat.mul_lt_mul_of_pos_right hu hpos
        rw [h1] at a2
        have : wrap64 ((u * s : Nat) : Int) = ((u : Int) - ((2 * p : Nat) : Int)) * (s : Int) := by
          rw [Int.sub_mul, show ((2 * p : Nat) : Int) * (s : Int) = ((2 * p * s : Nat) : Int) by simp, h1, show (u : Int) * (s : Int) = ((u * s : Nat) : Int) by simp]
          unfold wrap64
          generalize u * s = y at a1 a2
          omega
        rw [this, Int.mul_ediv_cancel _ (by omega)]
      · rw [if_neg hp]
        have a1 : u * s < p * s := Nat.mul_lt_mul_of_pos_right (by omega) hpos
        have : wrap64 ((u * s : Nat) : Int) = (u : Int) * (s : Int) := by
          rw [w64 (by omega) (by omega)]; simp
        rw [this, Int.mul_ediv_cancel _ (by omega)]
        simp
    | succ d ih =>
      intro i hi
      refine Ev.step (fun k => by rw [word_Number.l0]) ?_
      refine Ev.cond (by omega) (Ev.cond (by omega) (Ev.cond (by omega) ?_))
      have hbi := bits_rd hb (show i < l.length by omega)
      have hui := uv_lt (l := l.take i) (fun x hx => hb x (List.mem_of_mem_take hx))
      rw [List.length_take, Nat.min_eq_left (by omega)] at hui
      have e1 : rd l (i : Int) = (((rd l (i : Int)).toNat : Nat) : Int) := by omega
      have hd : (rd l (i : Int)).toNat < 2 := by omega
      have e2 := or_i64 hui hd (show i ≤ 63 by omega)
      rw [← e1, ← uv_take l hb i (by omega)] at e2
      rw [e2, w64 (x := (i : Int) + 1) (by omega) (by omega)]
      exact ih (i + 1) (by omega)
  have := loop l.length 0 (by omega)
  simpa [uv, wrap64] using this
end Go.Proofs.Ytninoenmhcbonaa.Pure
namespace Go.Proofs.Ytninoenmhcbonaa.Pure
open Go.RowKit Go.Proofs.YtninoenmhcbonaaW.PrintWords Go.Proofs.YtninoenmhcbonaaW.PrintLast Go.Proofs.YtninoenmhcbonaaW.PrintMore Go.Proofs.Ytninoenmhcbonaa.X
set_option linter.unusedVariables false

theorem scan (P : Int → Prop) [DecidablePred P] (l : List Int) : (∀ i : Nat, i < l.length → P (rd l (i : Int))) ∨ ∃ i : Nat, i < l.length ∧ (∀ j : Nat, j < i → P (rd l (j : Int))) ∧ ¬ P (rd l (i : Int)) := by
  induction l with
  | nil => exact .inl fun i hi => by simp at hi
  | cons d ds ih =>
    by_cases hd : P d
    · rcases ih with ih | ⟨i, h1, h2, h3⟩
      · refine .inl fun i hi => ?_
        cases i with
        | zero => simpa [rd] using hd
        | succ i => have := ih i (by simpa using hi); simpa [rd] using this
      · refine .inr ⟨i + 1, by simpa using h1, fun j hj => ?_, by simpa [rd] using h3⟩
        cases j with
        | zero => simpa [rd] using hd
        | succ j => have := h2 j (by omega); simpa [rd] using this
    · exact .inr ⟨0, by simp, fun j hj => absurd hj (Nat.not_lt_zero _), by simpa [rd] using hd⟩
theorem all_of_rd {P : Int → Prop} {l : List Int} (h : ∀ i : Nat, i < l.length → P (rd l (i : Int))) : ∀ a ∈ l, P a := by
  intro d hd
  obtain ⟨i, hi, rfl⟩ := List.getElem_of_mem hd
  have := h i hi
  rwa [rd_nat, List.getD_eq_getElem?_getD, List.getElem?_eq_getElem hi] at this
theorem rd_of_all {P : Int → Prop} {l : List Int} (h : ∀ a ∈ l, P a) {i : Nat} (hi : i < l.length) : P (rd l (i : Int)) := by
  rw [rd_nat, List.getD_eq_getElem?_getD, List.getElem?_eq_getElem hi]
  exact h _ (List.getElem_mem hi)
/-! ### The digits of a word at a track -/
def Letters (w : List Int) (k : Nat) : Prop := ∀ a ∈ w, 0 ≤ a ∧ a < ((2 ^ k : Nat) : Int)
instance (w : List Int) (k : Nat) : Decidable (Letters w k) := inferInstanceAs (Decidable (∀ a ∈ w, 0 ≤ a ∧ a < ((2 ^ k : Nat) : Int)))
def trk (w : List Int) (t : Nat) : List Int := w.map fun a => (dgt a t : Int)
theorem trk_length (w : List Int) (t : Nat) : (trk w t).length = w.length := by simp [trk]
theorem trk_rd (w : List Int) (t : Nat) {i : Nat} (hi : i < w.length) : rd (trk w t) (i : Int) = (dgt (rd w (i : Int)) t : Int) := by
  rw [rd_nat, List.getD_eq_getElem?_getD, List.getElem?_eq_getElem (by rw [trk_length]; exact hi), rd_nat, List.getD_eq_getElem?_getD, List.getElem?_eq_getElem hi]
  simp [trk]
theorem trk_bits (w : List Int) (t : Nat) : Bits (trk w t) := by
  intro d hd
  simp only [trk, List.mem_map] at hd
  obtain ⟨a, _, rfl⟩ := hd
  have := dgt_lt a t
  omega
theorem trk_ne {w : List Int} (h : w ≠ []) (t : Nat) : trk w t ≠ [] := by simpa [trk] using h
def tup (w : List Int) (k : Nat) : List Int := (List.range k).map fun t => tv (trk w t)
theorem tup_length (w : List Int) (k : Nat) : (tup w k).length = k := by simp [tup]
/-- What Decode answers. -/
def decS (w : List Int) (k : Int) : List Int × Int :=
  if k < 0 ∨ k > 6 then ([], 150) else if w = [] then ([], 3) else if w.length > 64 then ([], 31) else if Letters w k.toNat then (tup w k.toNat, 0) else ([], 30)
theorem letters_i64 {w : List Int} {k : Nat} (hk : k ≤ 6) (h : Letters w k) : AllI w := fun a ha => by
  have h1 := h a ha
  have h2 := pow_le6 hk
  unfold I64; omega
theorem digit_eq {a : Int} {t : Nat} (h : I64 a) (h0 : 0 ≤ a) (ht : t ≤ 61) : bits_Digit.f a (t : Int) = some (dgt a t : Int) := by
  unfold bits_Digit.f
  rw [if_neg (by omega), if_neg (by omega), if_neg (by omega), if_pos (by omega), digit_of h (by omega)]
def tset (w : List Int) (k t : Nat) : List Int := (List.range k).map fun j => if j < t then tv (trk w j) else 0
theorem tset_length (w : List Int) (k t : Nat) : (tset w k t).length = k := by simp [tset]
theorem tset_set (w : List Int) {k t : Nat} (h : t < k) : (tset w k t).set t (tv (trk w t)) = tset w k (t + 1) := by
  apply List.ext_getElem
  · simp [tset]
  · intro j h1 h2
    rw [List.getElem_set]
    by_cases e : t = j
    · subst e; simp [tset]
    · rw [if_neg e]
      simp only [tset, List.getElem_map, List.getElem_range]
      by_cases hj : j < t
      · rw [if_pos hj, if_pos (by omega)]
      · rw [if_neg hj, if_neg (by omega)]
theorem tset_none (w : List Int) (k : Nat) : tset w k 0 = List.replicate k 0 := by
  apply List.ext_getElem
  · simp [tset]
  · intro j h1 h2; simp [tset]
theorem tset_full (w : List Int) (k : Nat) : tset w k k = tup w k := by
  unfold tset tup
  apply List.map_congr_left
  intro j hj
  rw [List.mem_range] at hj
  rw [if_pos hj]
theorem rd_set (l : List Int) (i j : Nat) (x : Int) (hi : i < l.length) : rd (l.set i x) (j : Int) = if i = j then x else rd l (j : Int) := by
  rw [rd_nat, rd_nat, List.getD_eq_getElem?_getD, List.getD_eq_getElem?_getD, List.getElem?_set]
  by_cases h : i = j
  · subst h; simp [hi]
  · simp [h]
theorem numS_trk {w : List Int} (hne : w ≠ []) (h64 : w.length ≤ 64) (t : Nat) : numS (trk w t) = (tv (trk w t), 0) := by
  unfold numS
  rw [if_neg (fun h => h.elim (trk_ne hne t) (fun h => h (trk_bits w t))), if_neg (by rw [trk_length]; omega)]
theorem decode_ev {w : List Int} (hl : w.length ≤ 9000000000000000000) (k : Int) : Ev (fun n => word_Decode.f n w k) (decS w k) := by
  refine Ev.congr (fun n => by rw [word_Decode.f]) ?_
  unfold decS
  have bad : Ev (fun n => word_Decode.j0 n w k true) (([] : List Int), 150) := Ev.step (fun n => by rw [word_Decode.j0]) (Ev.cond rfl (Ev.now _))
  refine Ev.ite (fun hc => ?_) (fun hc => ?_)
  · rw [if_pos (.inl hc)]; exact bad
  by_cases h6 : k > 6
  · rw [if_pos (.inr h6), decide_eq_true h6]; exact bad
  rw [if_neg (by omega), decide_eq_false h6]
  obtain ⟨m, rfl⟩ := Int.eq_ofNat_of_zero_le (show 0 ≤ k by omega)
  rw [Int.toNat_natCast]
  refine Ev.step (fun n => by rw [word_Decode.j0]) ?_
  refine Ev.ncond (by simp) ?_
  refine Ev.ite (fun h0 => ?_) (fun h0 => ?_)
  · rw [if_pos (List.eq_nil_of_length_eq_zero (by omega))]; exact Ev.now _
  have hne : w ≠ [] := fun e => h0 (by rw [e]; rfl)
  rw [if_neg hne]
  by_cases h64 : w.length > 64
  · rw [if_pos h64]; exact Ev.cond (by omega) (Ev.now _)
  rw [if_neg h64]
  refine Ev.ncond (by omega) ?_
  have hp := pow_le6 (show m ≤ 6 by omega)
  have es : shl .i64 1 (m : Int) = ((2 ^ m : Nat) : Int) := by
    unfold shl
    rw [Int.toNat_natCast, Nat.min_eq_left (by simp [IntKind.bits]; omega), Int.one_mul, show (2 : Int) ^ m = ((2 ^ m : Nat) : Int) by simp, i64_w]
    generalize 2 ^ m = p at hp
    exact w64 (by omega) (by omega)
  rcases scan (fun a => 0 ≤ a ∧ a < ((2 ^ m : Nat) : Int)) w with hg | ⟨z, hz, hz1, hz2⟩
  · have hL : Letters w m := all_of_rd hg
    have hA := letters_i64 (by omega) hL
    rw [if_pos hL]
    have l2 : ∀ (t : Nat), t < m → ∀ (d i : Nat) (buf : List Int), i + d = w.length → buf.length = w.length → (∀ j : Nat, j < i → rd buf (j : Int) = (dgt (rd w (j : Int)) t : Int)) →
        (Ev (fun n => word_Decode.l1 n w (tset w m (t + 1)) (trk w t) (m : Int) ((t + 1 : Nat) : Int)) (tup w m, 0)) →
        Ev (fun n => word_Decode.l2 n w (tset w m t) buf (t : Int) (m : Int) (t : Int) w (w.length : Int) (i : Int)) (tup w m, 0) := by
      intro t ht d
      induction d with
      | zero =>
        intro i buf hi hbl hb hk
        have hbuf : buf = trk w t := by
          refine list_eq_of (by rw [trk_length]; exact hbl) fun j hj => ?_
          rw [hb j (by omega), trk_rd w t (by omega)]
        refine Ev.step (fun n => by rw [word_Decode.l2]) ?_
        refine Ev.ncond (by omega) ?_
        have hn := number_ev (l := buf) (by omega)
        rw [hbuf, numS_trk hne (by omega) t] at hn
        rw [hbuf]
        refine Ev.bind hn (Ev.cond (by omega) (Ev.cond (by rw [tset_length]; omega) ?_))
        rw [Int.toNat_natCast, tset_set w ht, w64 (by omega) (by omega)]
        exact hk
      | succ d ih =>
        intro i buf hi hbl hb hk
        refine Ev.step (fun n => by rw [word_Decode.l2]) ?_
        refine Ev.cond (by omega) (Ev.cond (by omega) (Ev.cond (by omega) ?_))
        have hgi := hg i (by omega)
        refine Ev.ret (digit_eq (allI_rd hA (by omega)) hgi.1 (by omega)) ?_
        refine Ev.cond (by omega) ?_
        rw [Int.toNat_natCast, w64 (by omega) (by omega)]
        refine ih (i + 1) _ (by omega) (by rw [List.length_set]; exact hbl) (fun j hj => ?_) hk
        rw [rd_set buf i j _ (by omega)]
        by_cases e : i = j
        · subst e; rw [if_pos rfl]
        · rw [if_neg e]; exact hb j (by omega)
    have l1 : ∀ (d t : Nat) (buf : List Int), t + d = m → buf.length = w.length → Ev (fun n => word_Decode.l1 n w (tset w m t) buf (m : Int) (t : Int)) (tup w m, 0) := by
      intro d
      induction d with
      | zero =>
        intro t buf ht hbl
        refine Ev.step (fun n => by rw [word_Decode.l1]) (Ev.ncond (by omega) (Ev.fin ?_))
        obtain rfl : t = m := by omega
        rw [tset_full]
      | succ d ih =>
        intro t buf ht hbl
        refine Ev.step (fun n => by rw [word_Decode.l1]) (Ev.cond (by omega) ?_)
        exact l2 t (by omega) w.length 0 buf (by omega) hbl (fun j hj => absurd hj (Nat.not_lt_zero _)) (ih (t + 1) (trk w t) (by omega) (trk_length w t))
    have l0 : ∀ (d i : Nat), i + d = w.length → Ev (fun n => word_Decode.l0 n w (m : Int) w (w.length : Int) (i : Int)) (tup w m, 0) := by
      intro d
      induction d with
      | zero =>
        intro i hi
        refine Ev.step (fun n => by rw [word_Decode.l0]) ?_
        refine Ev.ncond (by omega) (Ev.cond (by omega) (Ev.cond (by omega) (Ev.ret rfl (Ev.cond (by omega) (Ev.cond (by omega) ?_)))))
        rw [Int.toNat_natCast, ← tset_none w m, tset_length]
        exact l1 m 0 _ (by omega) (by simp)
      | succ d ih =>
        intro i hi
        have hgi := hg i (by omega)
        refine Ev.step (fun n => by rw [word_Decode.l0]) ?_
        refine Ev.cond (by omega) (Ev.cond (by omega) (Ev.cond (by omega) (Ev.ncond (by omega) (Ev.cond (by omega) ?_))))
        rw [es]
        refine Ev.ncond (by omega) ?_
        rw [w64 (by omega) (by omega)]
        exact ih (i + 1) (by omega)
    exact l0 w.length 0 (by omega)
  · have hL : ¬ Letters w m := fun h => hz2 (rd_of_all h hz)
    rw [if_neg hL]
    have l0 : ∀ (d i : Nat), i + d = z → Ev (fun n => word_Decode.l0 n w (m : Int) w (w.length : Int) (i : Int)) (([] : List Int), 30) := by
      intro d
      induction d with
      | zero =>
        intro i hi
        obtain rfl : i = z := by omega
        refine Ev.step (fun n => by rw [word_Decode.l0]) ?_
        refine Ev.cond (by omega) (Ev.cond (by omega) (Ev.cond (by omega) ?_))
        refine Ev.ite (fun _ => Ev.now _) (fun hn => Ev.cond (by omega) ?_)
        rw [es]
        refine Ev.cond ?_ (Ev.now _)
        have : ¬ (rd w (i : Int) < ((2 ^ m : Nat) : Int)) := fun h => hz2 ⟨by omega, h⟩
        omega
      | succ d ih =>
        intro i hi
        have hgi := hz1 i (by omega)
        refine Ev.step (fun n => by rw [word_Decode.l0]) ?_
        refine Ev.cond (by omega) (Ev.cond (by omega) (Ev.cond (by omega) (Ev.ncond (by omega) (Ev.cond (by omega) ?_))))
        rw [es]
        refine Ev.ncond (by omega) ?_
        rw [w64 (by omega) (by omega)]
        exact ih (i + 1) (by omega)
    exact l0 z 0 (by omega)

/-! ### The reference's Decode -/
end Go.Proofs.Ytninoenmhcbonaa.Pure
namespace Go.Proofs.Ytninoenmhcbonaa.Pure
open Go.RowKit Go.Proofs.YtninoenmhcbonaaW.PrintWords Go.Proofs.YtninoenmhcbonaaW.PrintLast Go.Proofs.YtninoenmhcbonaaW.PrintMore Go.Proofs.Ytninoenmhcbonaa.X
set_option linter.unusedVariables false

/-! ### Trim -/
/-! ### Compare -/
def cmp1 (x y : Int) : Int := if x < y then -1 else if x > y then 1 else 0
def lexI : List Int → List Int → Int
  | [], [] => 0
  | [], _ :: _ => -1
  | _ :: _, [] => 1
  | x :: xs, y :: ys => if x < y then -1 else if x > y then 1 else lexI xs ys
def cmpS (a b : List Int) : Int := if a.length < b.length then -1 else if a.length > b.length then 1 else lexI a b
theorem compare1_eq (x y : Int) : cmp_Compare_int.f x y = some (cmp1 x y) := by
  unfold cmp_Compare_int.f cmp_isNaN_int.f cmp1
  simp
  split
  · rfl
  · split <;> rfl
theorem lex_drop_end {a b : List Int} {i : Nat} (hi : a.length ≤ i) : lexI (a.drop i) (b.drop i) = if i < b.length then -1 else 0 := by
  rw [List.drop_eq_nil_of_le hi]
  by_cases h : i < b.length
  · rw [if_pos h, List.drop_eq_getElem_cons h]; rfl
  · rw [if_neg h, List.drop_eq_nil_of_le (by omega)]; rfl
theorem lex_drop_over {a b : List Int} {i : Nat} (hi : i < a.length) (hb : b.length ≤ i) : lexI (a.drop i) (b.drop i) = 1 := by
  rw [List.drop_eq_nil_of_le hb, List.drop_eq_getElem_cons hi]; rfl
theorem lex_drop_step {a b : List Int} {i : Nat} (hi : i < a.length) (hb : i < b.length) : lexI (a.drop i) (b.drop i) = if rd a (i : Int) < rd b (i : Int) then -1 else if rd a (i : Int) > rd b (i : Int) then 1 else lexI (a.drop (i + 1)) (b.drop (i + 1)) := by
  rw [List.drop_eq_getElem_cons hi, List.drop_eq_getElem_cons hb, lexI, rd_nat, rd_nat, List.getD_eq_getElem?_getD, List.getElem?_eq_getElem hi, List.getD_eq_getElem?_getD, List.getElem?_eq_getElem hb]; rfl
theorem slcompare_ev {a b : List Int} (ha : a.length ≤ 9000000000000000000) : Ev (fun k => slices_Compare_int_int.f k a b) (lexI a b) := by
  refine Ev.congr (fun k => by rw [slices_Compare_int_int.f]) ?_
  have key : ∀ (d i : Nat), i + d = a.length → i ≤ b.length → Ev (fun k => slices_Compare_int_int.l0 k a b a (a.length : Int) (i : Int)) (lexI (a.drop i) (b.drop i)) := by
    intro d
    induction d with
    | zero =>
      intro i hi hb
      refine Ev.step (fun k => by rw [slices_Compare_int_int.l0]) (Ev.ncond (by omega) ?_)
      rw [lex_drop_end (by omega)]
      by_cases h : i < b.length
      · rw [if_pos h]; exact Ev.cond (by omega) (Ev.now _)
      · rw [if_neg h]; exact Ev.ncond (by omega) (Ev.now _)
    | succ d ih =>
      intro i hi hb
      refine Ev.step (fun k => by rw [slices_Compare_int_int.l0]) (Ev.cond (by omega) (Ev.cond (by omega) (Ev.cond (by omega) ?_)))
      refine Ev.ite (fun h => ?_) (fun h => ?_)
      · rw [lex_drop_over (by omega) (by omega)]; exact Ev.now _
      · refine Ev.cond (by omega) (Ev.ret (compare1_eq _ _) ?_)
        rw [lex_drop_step (by omega) (by omega)]
        unfold cmp1
        by_cases h1 : rd a (i : Int) < rd b (i : Int)
        · rw [if_pos h1, if_pos h1]; exact Ev.ncond (by omega) (Ev.now _)
        · rw [if_neg h1, if_neg h1]
          by_cases h2 : rd a (i : Int) > rd b (i : Int)
          · rw [if_pos h2, if_pos h2]; exact Ev.ncond (by omega) (Ev.now _)
          · rw [if_neg h2, if_neg h2, w64 (by omega) (by omega)]
            exact Ev.cond rfl (ih (i + 1) (by omega) (by omega))
  have := key a.length 0 (by omega) (by omega)
  exact this
theorem or_ev (x y : Int) : Ev (fun k => cmp_Or_int.f k [x, y]) (if x = 0 then y else x) := by
  refine Ev.congr (fun k => by rw [cmp_Or_int.f]) ?_
  refine Ev.step (fun k => by rw [cmp_Or_int.l0]) (Ev.cond (by simp) (Ev.cond (by omega) (Ev.cond (by simp) ?_)))
  have r0 : rd [x, y] 0 = x := rfl
  have r1 : rd [x, y] (wrap64 (0 + 1)) = y := by rw [w64 (by omega) (by omega)]; rfl
  rw [r0]
  by_cases hx : x = 0
  · rw [if_pos hx]
    refine Ev.cond hx ?_
    refine Ev.step (fun k => by rw [cmp_Or_int.l0]) ?_
    rw [r1]
    refine Ev.cond (by rw [w64 (by omega) (by omega)]; simp) (Ev.cond (by rw [w64 (by omega) (by omega)]; omega) (Ev.cond (by rw [w64 (by omega) (by omega)]; simp) ?_))
    by_cases hy : y = 0
    · refine Ev.cond hy ?_
      refine Ev.step (fun k => by rw [cmp_Or_int.l0]) (Ev.ncond ?_ (Ev.fin hy.symm))
      rw [w64 (x := 0 + 1) (by omega) (by omega), w64 (by omega) (by omega)]; simp
    · exact Ev.ncond hy (Ev.now _)
  · rw [if_neg hx]
    exact Ev.ncond hx (Ev.now _)
theorem compare_ev {a b : List Int} (ha : a.length ≤ 9000000000000000000) : Ev (fun k => word_Compare.f k a b) (cmpS a b) := by
  refine Ev.congr (fun k => by rw [word_Compare.f]) ?_
  refine Ev.ret (compare1_eq _ _) (Ev.bind (slcompare_ev ha) (Ev.bind (or_ev _ _) (Ev.fin ?_)))
  unfold cmp1 cmpS
  by_cases h1 : a.length < b.length <;> by_cases h2 : b.length < a.length <;> simp [h1, h2]
end Go.Proofs.Ytninoenmhcbonaa.Pure
namespace Go.Proofs.Ytninoenmhcbonaa.Pure
open Go.RowKit Go.Proofs.YtninoenmhcbonaaW.PrintWords Go.Proofs.YtninoenmhcbonaaW.PrintLast Go.Proofs.YtninoenmhcbonaaW.PrintMore Go.Proofs.Ytninoenmhcbonaa.X
set_option linter.unusedVariables false
section
variable {ns : List ByteArray} {ac : List Bool} {st : List Int} {ar : List S73}
theorem nxt_nat (a : AOk ns ac st ar) {q x : Nat} (hq : q < ac.length) (hx : x < 2 ^ ns.length) :
    nxt st ar (q : Int) (x : Int) = ((dlF (rows ns.length st ar ac.length) q x : Nat) : Int) := by
  have nl := nxt_lt a (q := (q : Int)) (x := (x : Int)) (by omega) (by omega) (by omega) (by omega)
  have e : ((rows ns.length st ar ac.length).getD q []).getD x 0 = nxt st ar (q : Int) (x : Int) := by
    simp [rows, rowOf, nxt, hq, hx]
  rw [dlF, e]
  omega
theorem run_nat (a : AOk ns ac st ar) : ∀ (w : List Nat) (q : Nat), q < ac.length → Let (2 ^ ns.length) w →
    runR st ar (q : Int) (toI w) = ((runN (dlF (rows ns.length st ar ac.length)) q w : Nat) : Int) ∧ runN (dlF (rows ns.length st ar ac.length)) q w < ac.length := by
  intro w
  induction w with
  | nil => intro q hq _; exact ⟨rfl, hq⟩
  | cons x w ih =>
    intro q hq hw
    have hx : x < 2 ^ ns.length := hw x (List.mem_cons_self ..)
    have e := nxt_nat a hq hx
    have nl := nxt_lt a (q := (q : Int)) (x := (x : Int)) (by omega) (by omega) (by omega) (by omega)
    have i := ih (dlF (rows ns.length st ar ac.length) q x) (by omega) (fun z hz => hw z (List.mem_cons_of_mem _ hz))
    rw [← e] at i
    exact i
theorem toI_lets {j : Nat} {w : List Nat} (h : Let (2 ^ j) w) : Lets j (toI w) := by
  intro x hx
  obtain ⟨n, hn, rfl⟩ := List.mem_map.1 hx
  have := h n hn
  exact ⟨Int.natCast_nonneg _, by show ((n : Nat) : Int) < _; omega⟩
theorem of_lets {j : Nat} {v : List Int} (h : Lets j v) : ∃ w : List Nat, v = toI w ∧ Let (2 ^ j) w := by
  refine ⟨v.map Int.toNat, ?_, ?_⟩
  · rw [toI, List.map_map]
    conv => lhs; rw [← List.map_id v]
    apply List.map_congr_left
    intro x hx
    have := (h x hx).1
    show x = ((x.toNat : Nat) : Int)
    omega
  · intro n hn
    obtain ⟨x, hx, rfl⟩ := List.mem_map.1 hn
    have := h x hx
    omega
end
theorem lex_rk {L : Nat} : ∀ (x y : List Nat) (r : Nat), x.length = y.length → Let L x → Let L y → lexI (toI x) (toI y) > 0 → rkF L r y < rkF L r x := by
  intro x
  induction x with
  | nil =>
    intro y r hl _ _ h
    have e : y = [] := List.eq_nil_of_length_eq_zero hl.symm
    subst e
    simp [toI, lexI] at h
  | cons a x ih =>
    intro y r hl hx hy h
    cases y with
    | nil => simp at hl
    | cons b y =>
      have hl' : x.length = y.length := by simpa using hl
      have hx' : Let L x := fun z hz => hx z (List.mem_cons_of_mem _ hz)
      have hy' : Let L y := fun z hz => hy z (List.mem_cons_of_mem _ hz)
      have ha := hx a (List.mem_cons_self ..)
      have hb := hy b (List.mem_cons_self ..)
      rw [rkF_cons, rkF_cons]
      change (if (a : Int) < (b : Int) then (-1 : Int) else if (a : Int) > (b : Int) then 1 else lexI (toI x) (toI y)) > 0 at h
      by_cases c : (a : Int) < (b : Int)
      · rw [if_pos c] at h; omega
      · rw [if_neg c] at h
        by_cases c2 : (a : Int) > (b : Int)
        · exact rk_lt y x _ _ hl'.symm hy' (by omega)
        · rw [if_neg c2] at h
          have e : a = b := by omega
          subst e
          exact ih y _ hl' hx' hy' h
theorem cmp_le {L : Nat} {x y : List Nat} (hx : Let L x) (hy : Let L y) (h : rkF L 0 x ≤ rkF L 0 y) : ¬ cmpS (toI x) (toI y) > 0 := by
  intro c
  have hl := rk_len hx hy h
  have lx : (toI x).length = x.length := by simp [toI]
  have ly : (toI y).length = y.length := by simp [toI]
  unfold cmpS at c
  by_cases c1 : (toI x).length < (toI y).length
  · rw [if_pos c1] at c; omega
  · rw [if_neg c1, if_neg (by omega)] at c
    have := lex_rk x y 0 (by omega) hx hy c
    omega
theorem tv_dgt : ∀ (l : List Int), Bits l → ∀ i : Nat, i < l.length → (dgt (tv l) i : Int) = rd l (i : Int) := by
  intro l
  induction l with
  | nil => intro _ i hi; exact absurd hi (Nat.not_lt_zero _)
  | cons d l ih =>
    intro hb i hi
    have hd := bits_head hb
    cases l with
    | nil =>
      have e : i = 0 := by simp at hi; exact hi
      subst e
      rcases hd with rfl | rfl <;> decide
    | cons e ds =>
      cases i with
      | zero =>
        rw [tv, dgt_int]
        show (d + 2 * tv (e :: ds)) / 2 ^ 0 % 2 = d
        rcases hd with rfl | rfl <;> omega
      | succ i =>
        have h := ih (bits_tail hb) i (by simp at hi ⊢; omega)
        rw [tv, ← dgt_half, show (d + 2 * tv (e :: ds)) / 2 = tv (e :: ds) by rcases hd with rfl | rfl <;> omega, h, rd_nat, rd_nat]
        rfl
theorem tv_len2 : ∀ (l : List Int), Bits l → l ≠ [] → l.length ≤ 64 → len2 (tv l) ≤ l.length := by
  intro l
  induction l with
  | nil => intro _ h; exact absurd rfl h
  | cons d l ih =>
    intro hb hn h64
    have hd := bits_head hb
    cases l with
    | nil =>
      rw [len2_small (by rcases hd with rfl | rfl <;> decide)]
      simp
    | cons e ds =>
      have h := ih (bits_tail hb) (by simp) (by simp at h64 ⊢; omega)
      by_cases c : tv (d :: e :: ds) = 0 ∨ tv (d :: e :: ds) = -1
      · rw [len2_small c]; simp
      · rw [len2_step (tv_i64 hb (by simp) h64) c, show tv (d :: e :: ds) / 2 = tv (e :: ds) by rw [tv]; rcases hd with rfl | rfl <;> omega]
        simp at h ⊢
        omega
theorem fold_le (m : Nat) : ∀ (l : List Int) (n : Nat), n ≤ m → (∀ v ∈ l, len2 v ≤ m) → l.foldl (fun n v => max n (len2 v)) n ≤ m := by
  intro l
  induction l with
  | nil => intro n h _; exact h
  | cons x l ih =>
    intro n h hl
    exact ih _ (Nat.max_le.2 ⟨h, hl x (List.mem_cons_self ..)⟩) (fun v hv => hl v (List.mem_cons_of_mem _ hv))
section
variable {q : List Int} {n : Nat}
theorem tup_lt (hq : Letters q n) {j : Nat} (hj : j < q.length) : ∀ t : Nat, t ≤ n → lt (tup q n) t j = (rd q (j : Int)).toNat % 2 ^ t := by
  intro t
  induction t with
  | zero => intro _; simp [lt, Nat.mod_one]
  | succ t ih =>
    intro ht
    have r0 : 0 ≤ rd q (j : Int) := by
      rw [rd_nat, List.getD_eq_getElem?_getD, List.getElem?_eq_getElem hj]
      exact (hq _ (List.getElem_mem hj)).1
    have e : rd (tup q n) (t : Int) = tv (trk q t) := by
      rw [rd_nat]
      simp [tup, show t < n by omega]
    have d := tv_dgt (trk q t) (trk_bits q t) j (by rw [trk_length]; exact hj)
    rw [trk_rd q t hj] at d
    have d' : dgt (tv (trk q t)) j = (rd q (j : Int)).toNat / 2 ^ t % 2 := by
      have z : dgt (tv (trk q t)) j = dgt (rd q (j : Int)) t := by omega
      rw [z]
      obtain ⟨p, hp⟩ := Int.eq_ofNat_of_zero_le r0
      rw [hp]
      unfold dgt
      rw [Int.toNat_natCast]
      exact_mod_cast rfl
    rw [lt, ih (by omega), e, d', Nat.mod_pow_succ]
    rw [Nat.mul_comm]
theorem back_dec (hq : Letters q n) (h6 : n ≤ 6) (h1 : q ≠ []) (h64 : q.length ≤ 64) : AllI (tup q n) ∧ encS (tup q n) (q.length : Int) = (q, 0) := by
  have qn : ∀ t, trk q t ≠ [] := fun t e => h1 (List.eq_nil_of_length_eq_zero (by rw [← trk_length q t, e]; rfl))
  have all : AllI (tup q n) := by
    intro v hv
    obtain ⟨t, _, rfl⟩ := List.mem_map.1 hv
    exact tv_i64 (trk_bits q t) (qn t) (by rw [trk_length]; exact h64)
  refine ⟨all, ?_⟩
  have ql : 1 ≤ q.length := by cases q with
    | nil => exact absurd rfl h1
    | cons a b => simp
  have lo : longest (tup q n) ≤ q.length := by
    refine fold_le _ _ _ ql fun v hv => ?_
    obtain ⟨t, _, rfl⟩ := List.mem_map.1 hv
    have := tv_len2 (trk q t) (trk_bits q t) (qn t) (by rw [trk_length]; exact h64)
    rwa [trk_length] at this
  unfold encS
  rw [if_neg (by rw [tup_length]; omega), if_neg (by omega), Int.toNat_natCast]
  congr 1
  refine List.ext_getElem (by simp [enc]) fun j h1 h2 => ?_
  have lj := tup_lt hq h2 n (Nat.le_refl _)
  have hj := hq _ (List.getElem_mem h2)
  have er : rd q (j : Int) = q[j] := by rw [rd_nat, List.getD_eq_getElem?_getD, List.getElem?_eq_getElem h2]; rfl
  simp only [enc, List.getElem_map, List.getElem_range, tup_length]
  rw [lj, er, Nat.mod_eq_of_lt (by omega)]
  omega
end
end Go.Proofs.Ytninoenmhcbonaa.Pure
namespace Go.Proofs.Ytninoenmhcbonaa.Pure
open Go.RowKit Go.Proofs.YtninoenmhcbonaaW.PrintWords Go.Proofs.YtninoenmhcbonaaW.PrintLast Go.Proofs.YtninoenmhcbonaaW.PrintMore Go.Proofs.Ytninoenmhcbonaa.X
set_option linter.unusedVariables false
section
variable {ns : List ByteArray} {ac : List Bool} {st : List Int} {ar : List S73}
/-- What the loop over the given words comes to: none of them stops it. -/
theorem takes_loop (hs : SZ ns) (a : AOk ns ac st ar) (ha : ar.length ≤ 9000000000000000000) {ws : List (List Int)} (hw : ws.length ≤ 9000000000000000000) (hw2 : ∀ v ∈ ws, v.length ≤ 9000000000000000000) {x5 x7 : List Int} {x6 x8 : Int} {x9 : Bool} (h5 : x5.length ≤ 9000000000000000000)
    (ok : ∀ v ∈ ws, Lets ns.length v → rdOf false ac (runR st ar 0 v) = true → v ≠ [] → x9 = false ∧ ¬ cmpS x5 v > 0)
    (last : Ev (fun k => tabardlaw19_PickTakes.l0 k x5 x6 x7 x8 x9 ws (ws.length : Int) (ws.length : Int) ns ac st ar) true) :
    Ev (fun k => tabardlaw19_PickTakes.l0 k x5 x6 x7 x8 x9 ws (ws.length : Int) 0 ns ac st ar) true := by
  have key : ∀ (m i : Nat), i + m = ws.length → Ev (fun k => tabardlaw19_PickTakes.l0 k x5 x6 x7 x8 x9 ws (ws.length : Int) (i : Int) ns ac st ar) true := by
    intro m
    induction m with
    | zero =>
      intro i hi
      have e : i = ws.length := by omega
      subst e
      exact last
    | succ m ih =>
      intro i hi
      have ii : i < ws.length := by omega
      have next : Ev (fun k => tabardlaw19_PickTakes.l0 k x5 x6 x7 x8 x9 ws (ws.length : Int) (wrap64 ((i : Int) + 1)) ns ac st ar) true := by
        rw [w64 (by omega) (by omega)]
        exact ih (i + 1) (by omega)
      refine Ev.step (fun k => by rw [tabardlaw19_PickTakes.l0]) (Ev.cond (by omega) (Ev.cond (by omega) (Ev.cond (by omega) ?_)))
      rw [rdL_get ws ii]
      have mem : ws[i] ∈ ws := List.getElem_mem ii
      generalize ws[i] = v at mem
      have vl := hw2 v mem
      by_cases c : Lets ns.length v
      · refine Ev.bind (takes_ok hs a c vl ha) (Ev.cond rfl ?_)
        by_cases t : rdOf false ac (runR st ar 0 v) = true
        · refine Ev.cond t ?_
          by_cases n : (v.length : Int) > 0
          · refine Ev.cond n ?_
            obtain ⟨o1, o2⟩ := ok v mem c t (fun e => by rw [e] at n; simp at n)
            refine Ev.ncond (by rw [o1]; decide) (Ev.bind (compare_ev h5) (Ev.ncond o2 next))
          · exact Ev.ncond n next
        · exact Ev.ncond t next
      · exact Ev.bind (takes_bad (by decide) (run_let hs a c vl ha)) (Ev.ncond (by decide) next)
  exact key ws.length 0 (by omega)
end
theorem PickTakes (ns : List ByteArray) (h0 : ns.length * 16 ≤ 140737488351232) (q0 : ∀ x ∈ ns, x.size ≤ maxLen) (ac : List Bool) (h1 : ac.length * 1 ≤ 140737488351232) (q1 : ∀ x ∈ ac, True) (st : List Int) (h2 : st.length * 8 ≤ 140737488351232) (q2 : ∀ x ∈ st, (Lit.int .i64 x).wf = true) (ar : List S73) (h3 : ar.length * 24 ≤ 140737488351232) (q3 : ∀ x ∈ ar, True)
    (ws : List (List Int)) (h4 : ws.length * 24 ≤ 140737488351232) (q4 : ∀ x ∈ ws, x.length * 8 ≤ 140737488351232 ∧ ∀ a ∈ x, (Lit.int .i64 a).wf = true) :
    ∃ k, tabardlaw19_PickTakes.f k ns ac st ar ws = some true := by
  have hs : SZ ns := fun x hx => q0 x hx
  have ha : ar.length ≤ 9000000000000000000 := by omega
  have hc : ac.length ≤ 9000000000000000000 := by omega
  have ht : st.length ≤ 9000000000000000000 := by omega
  have hwl : ∀ v ∈ ws, v.length ≤ 9000000000000000000 := fun v hv => by have := (q4 v hv).1; omega
  have cp := copy_tab h0 h1 h2 h3
  refine Ev.rounds (Ev.congr (fun k => by rw [tabardlaw19_PickTakes.f]) (Ev.bind fixed19_ev (Ev.cond rfl (Ev.ret cp ?_))))
  by_cases a : AOk ns ac st ar
  · have m := a.mach
    have n1 := a.fr.n1
    have n2 := a.fr.n2
    have tr := a.fr.tr
    obtain ⟨r, hr, hA⟩ := shortest_ev (ns := ns) m
    have P := pshort_ok hs ha h0 a hr
    have E := pempty_ok hs ha h0 a hr
    have acc : ∀ w : List Nat, Let (2 ^ ns.length) w → rdOf false ac (runR st ar 0 (toI w)) = acF ac (runN (dlF (rows ns.length st ar ac.length)) 0 w) := by
      intro w hw
      have := (run_nat a w 0 (by omega) hw).1
      rw [show ((0 : Nat) : Int) = 0 from rfl] at this
      rw [this]
      simp [rdOf, acF]
    rcases hA with ⟨w, hw, hl, rfl⟩ | ⟨hn, rfl⟩
    · -- a least word
      rw [if_pos rfl] at P
      replace P : Ev (fun k => pick_Shortest.f k ns ac st ar) (toI w, 0) := P
      have wl : (toI w).length = w.length := by simp [toI]
      have wn : toI w ≠ [] := by simp [toI, hw.ne]
      have lw := toI_lets hw.lets
      have S : Ev (fun k => pick_Solve.f k ns ac st ar) (decS (toI w) (ns.length : Int)) := by
        refine Ev.congr (fun k => by rw [pick_Solve.f]) (Ev.bind P ?_)
        refine Ev.cond rfl ?_
        refine Ev.bind (decode_ev (w := toI w) (by omega) (ns.length : Int)) ?_
        exact Ev.fin rfl
      refine Ev.bind P (Ev.ret cp (Ev.bind S (Ev.ret cp (Ev.bind E (Ev.cond rfl ?_)))))
      refine takes_loop hs a ha (by omega) hwl (by show (toI w).length ≤ _; omega) ?_ ?_
      · intro v hv l t n
        obtain ⟨u, rfl, hu⟩ := of_lets l
        rw [acc u hu] at t
        exact ⟨rfl, cmp_le hw.lets hu (hw.least u (fun e => n (by rw [e]; rfl)) hu t)⟩
      · refine Ev.step (fun k => by rw [tabardlaw19_PickTakes.l0]) (Ev.ncond (by omega) (Ev.ncond (show ¬ (!true) = true by decide) ?_))
        have T := takes_ok hs a lw (w := toI w) (by omega) ha
        rw [acc w hw.lets, hw.tk] at T
        refine Ev.bind T (Ev.cond rfl (Ev.cond rfl (Ev.cond rfl (Ev.ncond ?_ ?_))))
        · show ¬ ((toI w).length : Int) = 0
          have : w.length ≠ 0 := fun e => hw.ne (List.eq_nil_of_length_eq_zero e)
          omega
        · refine Ev.step (fun k => by rw [tabardlaw19_PickTakes.j1]) (Ev.ncond ?_ ?_)
          · simp only [decide_eq_true_eq]
            show ¬ ((toI w).length : Int) > (ac.length : Int)
            omega
          · by_cases c : ((toI w).length : Int) > 64
            · have d : decS (toI w) (ns.length : Int) = ([], 31) := by
                unfold decS
                rw [if_neg (by omega), if_neg wn, if_pos (by omega)]
              rw [d]
              exact Ev.cond c (Ev.cond rfl (Ev.fin rfl))
            · have d : decS (toI w) (ns.length : Int) = (tup (toI w) ns.length, 0) := by
                unfold decS
                rw [if_neg (by omega), if_neg wn, if_neg (by omega), Int.toNat_natCast, if_pos (show Letters (toI w) ns.length from lw)]
              rw [d]
              obtain ⟨b1, b2⟩ := back_dec (q := toI w) (n := ns.length) lw tr wn (by omega)
              have tl := tup_length (toI w) ns.length
              have en := encode_ev b1 (by omega) ((toI w).length : Int)
              rw [b2] at en
              refine Ev.ncond c (Ev.ret rfl (Ev.cond ?_ ?_))
              · show ([] : List Int).length + (tup (toI w) ns.length).length < _
                simp only [List.length_nil]
                omega
              · rw [List.nil_append]
                refine Ev.bind en (Ev.cond rfl (Ev.cond rfl ?_))
                exact Ev.bind (ints_self (toI w) (by omega)) (Ev.fin rfl)
    · rw [if_neg (by decide)] at P
      have S : Ev (fun k => pick_Solve.f k ns ac st ar) ([], 190) := by
        refine Ev.congr (fun k => by rw [pick_Solve.f]) (Ev.bind P ?_)
        refine Ev.ncond (by decide) ?_
        exact Ev.fin rfl
      refine Ev.bind P (Ev.ret cp (Ev.bind S (Ev.ret cp (Ev.bind E (Ev.cond rfl ?_)))))
      refine takes_loop hs a ha (by omega) hwl (by simp) ?_ ?_
      · intro v hv l t n
        obtain ⟨u, rfl, hu⟩ := of_lets l
        rw [acc u hu, hn u (fun e => n (by rw [e]; rfl)) hu] at t
        exact absurd t (by decide)
      · refine Ev.step (fun k => by rw [tabardlaw19_PickTakes.l0]) (Ev.ncond (by omega) ?_)
        refine Ev.cond rfl ?_
        refine Ev.cond rfl ?_
        refine Ev.cond rfl ?_
        refine Ev.cond rfl ?_
        exact Ev.fin rfl
  · have P := pshort_no hs ha hc ht a
    have S : Ev (fun k => pick_Solve.f k ns ac st ar) ([], 3) := by
      refine Ev.congr (fun k => by rw [pick_Solve.f]) (Ev.bind P ?_)
      refine Ev.ncond (by decide) ?_
      exact Ev.fin rfl
    refine Ev.bind P (Ev.ret cp (Ev.bind S (Ev.ret cp (Ev.bind (pempty_no hs ha hc ht a) ?_))))
    refine Ev.ncond (by decide) ?_
    refine Ev.cond rfl ?_
    refine Ev.cond rfl ?_
    refine Ev.cond rfl ?_
    refine Ev.bind (check_no hs ha hc ht a) ?_
    exact Ev.fin rfl
end Go.Proofs.Ytninoenmhcbonaa.Pure

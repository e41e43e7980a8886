/- Answers that hold from some round on, and 64 bits: small words of the plain proofs; no condition. · What layer 11's loops over lists come to: comparisons, the least and the greatest of a list, tracks, halves; no condition but lengths. · The tree of a row and its cubes: what row.leaves, row.Pack and the reference's Cubes come to, and what is known of the cubes; no condition but that the row is one over six tracks or fewer. · What At and Unpack come to, the program's and the reference's; no condition but lengths. · What the reference's Unpack and Right come to, and the program's Right; no condition but lengths. · Comparisons of tables, the program's and the reference's; copies; no condition but lengths. · Same and Copy of tables; no condition but lengths. · Names and machines: what glyph.Rises, table.Right, table.Pack, table.Check, table.Run and table.Takes come to, on a right machine and on its table; no condition but lengths. · Machines and tables: what Right, Pack, Check, Run and Takes of table come to; no condition but lengths. · Tables: what table's Check, rowOf, Run and Takes come to; no condition but lengths. · The reference's names: what tabardref04's Start, Rest, Reserved, Read, Name and Rises come to: the same as glyph's; no condition but lengths. · The reference reads characters as Go's ranges do, and so its names and rising lists are glyph's; no condition but lengths. · The reference's names, rising lists, frames and right machines: the same as glyph's and table's; no condition but lengths. · The reference's table of a machine, copies of machines, and the comparison of two; no condition but lengths. · The reference's machine of a table, its words and its runs; no condition but lengths. · A table's machine and its greatest number of cubes, the program's and the reference's; no condition but lengths. · Words by their rank: the shorter first, then by their letters; the least word that a machine takes: plain lists and numbers, no program; no condition. · What pick's search and the reference's come to: the least word; no condition but lengths. · pick.shortest: the least word, or none; no condition but lengths. · The reference's shortest word: the least word, or none; no condition but lengths. · pick.Shortest, Empty and Solve on a right table, and on one that isn't; no condition but lengths. · The law PickShortest over lists alone: a table's shortest word is the reference's; no condition beyond the statement's own. -/
import Derived.Test.YtninoenmhcbonaaX0
import Derived.Test.YtninoenmhcbonaaX5
import Derived.Test.YtninoenmhcbonaaX12
import Derived.Test.YtninoenmhcbonaaX16
import Derived.Test.YtninoenmhcbonaaX19
import Derived.Test.YtninoenmhcbonaaX1
import Derived.Test.YtninoenmhcbonaaX20
import Derived.Test.YtninoenmhcbonaaX28
import Derived.Test.YtninoenmhcbonaaX31
import Derived.Test.YtninoenmhcbonaaX36
import Derived.Test.YtninoenmhcbonaaX39
import Derived.Test.YtninoenmhcbonaaX40
import Derived.Test.YtninoenmhcbonaaX42
import Derived.Lib.DecodeN
namespace Go.Proofs.Ytninoenmhcbonaa.Pure
open Go.RowKit Go.Proofs.YtninoenmhcbonaaW.PrintWords Go.Proofs.YtninoenmhcbonaaW.PrintLast Go.Proofs.YtninoenmhcbonaaW.PrintMore Go.Proofs.Ytninoenmhcbonaa.X
set_option linter.unusedVariables false
theorem Ev.cond {α : Type} {c : Prop} [Decidable c] {f g : Nat → Option α} {r : α} (h : c) (k : Ev f r) : Ev (fun n => if c then f n else g n) r :=
  Ev.congr (fun _ => if_pos h) k
theorem Ev.ncond {α : Type} {c : Prop} [Decidable c] {f g : Nat → Option α} {r : α} (h : ¬ c) (k : Ev g r) : Ev (fun n => if c then f n else g n) r :=
  Ev.congr (fun _ => if_neg h) k
theorem Ev.ite {α : Type} {c : Prop} [Decidable c] {f g : Nat → Option α} {r : α} (h : c → Ev f r) (k : ¬ c → Ev g r) : Ev (fun n => if c then f n else g n) r := by
  by_cases hc : c
  · exact Ev.cond hc (h hc)
  · exact Ev.ncond hc (k hc)
theorem Ev.fin {α : Type} {r q : α} (h : r = q) : Ev (fun _ => Option.some r) q := h ▸ Ev.now r
theorem Ev.ret {α β : Type} {g : Option α} {a : α} {f : Nat → α → Option β} {r : β} (h : g = Option.some a) (k : Ev (fun n => f n a) r) : Ev (fun n => g.bind (f n)) r := by
  subst h; exact k
theorem w64 {x : Int} (h0 : -9223372036854775808 ≤ x) (h1 : x ≤ 9223372036854775807) : wrap64 x = x := by unfold wrap64; omega
theorem zao (l : List Int) (i : Nat) : rd l (i : Int) = l.getD i 0 := by simp [rd]
end Go.Proofs.Ytninoenmhcbonaa.Pure
namespace Go.Proofs.Ytninoenmhcbonaa.Pure
open Go.RowKit Go.Proofs.YtninoenmhcbonaaW.PrintWords Go.Proofs.YtninoenmhcbonaaW.PrintLast Go.Proofs.YtninoenmhcbonaaW.PrintMore Go.Proofs.Ytninoenmhcbonaa.X
set_option linter.unusedVariables false
instance : DecidableEq S73 := fun x y => decidable_of_iff (x.f0 = y.f0 ∧ x.f1 = y.f1 ∧ x.f2 = y.f2) (by cases x; cases y; simp)
theorem zbh (l : List S73) (i : Nat) : rd_T73 l (i : Int) = l.getD i z73 := by simp [rd_T73]
theorem zap (a b : List Int) {i : Nat} (h : i < a.length) (h' : i < b.length) : a.drop i = b.drop i ↔ rd a (i : Int) = rd b (i : Int) ∧ a.drop (i + 1) = b.drop (i + 1) := by
  rw [List.drop_eq_getElem_cons h, List.drop_eq_getElem_cons h', zao, zao, List.getD_eq_getElem?_getD, List.getD_eq_getElem?_getD, List.getElem?_eq_getElem h, List.getElem?_eq_getElem h', List.cons.injEq]
  rfl
theorem zal (a b : List S73) {i : Nat} (h : i < a.length) (h' : i < b.length) : a.drop i = b.drop i ↔ rd_T73 a (i : Int) = rd_T73 b (i : Int) ∧ a.drop (i + 1) = b.drop (i + 1) := by
  rw [List.drop_eq_getElem_cons h, List.drop_eq_getElem_cons h', zbh, zbh, List.getD_eq_getElem?_getD, List.getD_eq_getElem?_getD, List.getElem?_eq_getElem h, List.getElem?_eq_getElem h', List.cons.injEq]
  rfl
theorem ne_S (x y : S73) : ((!(x.f0 == y.f0)) || (!(x.f1 == y.f1) || !(x.f2 == y.f2))) = true ↔ ¬ x = y := by
  obtain ⟨a, b, c⟩ := x
  obtain ⟨d, e, f⟩ := y
  by_cases h0 : a = d <;> by_cases h1 : b = e <;> by_cases h2 : c = f <;> simp [h0, h1, h2]
theorem zdl (a b : List Int) (ha : a.length ≤ 9000000000000000000) : Ev (fun k => slices_Equal_int_int.f k a b) (decide (a = b)) := by
  refine Ev.congr (fun k => by rw [slices_Equal_int_int.f]) (Ev.ite (fun h => ?_) (fun h => Ev.fin ?_))
  · have hl : a.length = b.length := by omega
    have key : ∀ (m i : Nat), i + m = a.length → Ev (fun k => slices_Equal_int_int.l0 k a b (a.length : Int) (i : Int)) (decide (a.drop i = b.drop i)) := by
      intro m
      induction m with
      | zero =>
        intro i hi
        refine Ev.step (fun k => by rw [slices_Equal_int_int.l0]) (Ev.ncond (by omega) (Ev.fin ?_))
        rw [List.drop_eq_nil_of_le (by omega), List.drop_eq_nil_of_le (by omega)]; exact (decide_eq_true rfl).symm
      | succ m ih =>
        intro i hi
        refine Ev.step (fun k => by rw [slices_Equal_int_int.l0]) (Ev.cond (by omega) (Ev.cond (by omega) (Ev.cond (by omega) (Ev.cond (by omega) ?_))))
        refine Ev.ite (fun c => ?_) (fun c => Ev.fin ?_)
        · rw [w64 (by omega) (by omega)]
          have := ih (i + 1) (by omega)
          rwa [decide_eq_decide.2 ((zap a b (by omega) (by omega)).trans (and_iff_right (id c)))]
        · exact (decide_eq_false (fun e => (id c) ((zap a b (by omega) (by omega)).1 e).1)).symm
    exact key a.length 0 (by omega)
  · exact (decide_eq_false (fun e_ => h (by rw [e_]))).symm
theorem eq_S {x y : S73} (h : ¬ ((!(x.f0 == y.f0)) || (!(x.f1 == y.f1) || !(x.f2 == y.f2))) = true) : x = y := Classical.byContradiction fun d => h ((ne_S _ _).2 d)
theorem zbu (a b : List S73) (ha : a.length ≤ 9000000000000000000) : Ev (fun k => api_Cube.f k a b) (decide (a = b)) := by
  refine Ev.congr (fun k => by rw [api_Cube.f]) (Ev.ite (fun h => ?_) (fun h => Ev.fin ?_))
  · have hl : a.length = b.length := by omega
    have key : ∀ (m i : Nat), i + m = a.length → Ev (fun k => api_Cube.l0 k a b (a.length : Int) (i : Int)) (decide (a.drop i = b.drop i)) := by
      intro m
      induction m with
      | zero =>
        intro i hi
        refine Ev.step (fun k => by rw [api_Cube.l0]) (Ev.ncond (by omega) (Ev.fin ?_))
        rw [List.drop_eq_nil_of_le (by omega), List.drop_eq_nil_of_le (by omega)]; exact (decide_eq_true rfl).symm
      | succ m ih =>
        intro i hi
        refine Ev.step (fun k => by rw [api_Cube.l0]) (Ev.cond (by omega) (Ev.cond (by omega) (Ev.cond (by omega) (Ev.cond (by omega) ?_))))
        refine Ev.ite (fun c => Ev.fin ?_) (fun c => ?_)
        · exact (decide_eq_false (fun e => ((ne_S _ _).1 c) ((zal a b (by omega) (by omega)).1 e).1)).symm
        · rw [w64 (by omega) (by omega)]
          have := ih (i + 1) (by omega)
          rwa [decide_eq_decide.2 ((zal a b (by omega) (by omega)).trans (and_iff_right (eq_S c)))]
    exact key a.length 0 (by omega)
  · exact (decide_eq_false (fun e_ => h (by rw [e_]))).symm
theorem zdx (a b : List Int) (ha : a.length ≤ 9000000000000000000) (hl : a.length = b.length) : Ev (fun k => tabardref11_same.f k a b) (decide (a = b)) := by
  refine Ev.congr (fun k => by rw [tabardref11_same.f]) ?_
  have key : ∀ (m i : Nat), i + m = a.length → Ev (fun k => tabardref11_same.l0 k a b (i : Int)) (decide (a.drop i = b.drop i)) := by
    intro m
    induction m with
    | zero =>
      intro i hi
      refine Ev.step (fun k => by rw [tabardref11_same.l0]) (Ev.ncond (by omega) (Ev.fin ?_))
      rw [List.drop_eq_nil_of_le (by omega), List.drop_eq_nil_of_le (by omega)]; exact (decide_eq_true rfl).symm
    | succ m ih =>
      intro i hi
      refine Ev.step (fun k => by rw [tabardref11_same.l0]) (Ev.cond (by omega) (Ev.cond (by omega) (Ev.cond (by omega) (Ev.ite (fun c => ?_) (fun c => Ev.fin ?_)))))
      · rw [w64 (by omega) (by omega)]
        have := ih (i + 1) (by omega)
        rwa [decide_eq_decide.2 ((zap a b (by omega) (by omega)).trans (and_iff_right c))]
      · exact (decide_eq_false (fun e => c ((zap a b (by omega) (by omega)).1 e).1)).symm
  exact key a.length 0 (by omega)
theorem mn_le (s x y : Int) : s ≤ mn x y ↔ s ≤ x ∧ s ≤ y := by unfold mn; split <;> omega
theorem mx_lt (s x y : Int) : mx x y < s ↔ x < s ∧ y < s := by unfold mx; split <;> omega
theorem zaq (p : Int → Prop) (a : List Int) {i : Nat} (h : i < a.length) : (∀ x ∈ a.drop i, p x) ↔ p (rd a (i : Int)) ∧ ∀ x ∈ a.drop (i + 1), p x := by
  rw [List.drop_eq_getElem_cons h, zao, List.getD_eq_getElem?_getD, List.getElem?_eq_getElem h]
  exact List.forall_mem_cons
theorem min_ev (a : List Int) (h1 : 1 ≤ a.length) (ha : a.length ≤ 9000000000000000000) : ∃ r, Ev (fun k => slices_Min_int_int.f k a) r ∧ ∀ s, s ≤ r ↔ ∀ x ∈ a, s ≤ x := by
  have key : ∀ (m i : Nat) (c : Int), i + m = a.length → ∃ r, Ev (fun k => slices_Min_int_int.l0 k a c (i : Int)) r ∧ ∀ s, s ≤ r ↔ s ≤ c ∧ ∀ x ∈ a.drop i, s ≤ x := by
    intro m
    induction m with
    | zero =>
      intro i c hi
      refine ⟨c, Ev.step (fun k => by rw [slices_Min_int_int.l0]) (Ev.ncond (by omega) (Ev.fin rfl)), fun s => ?_⟩
      rw [List.drop_eq_nil_of_le (by omega)]; simp
    | succ m ih =>
      intro i c hi
      obtain ⟨r, hr, hs⟩ := ih (i + 1) (mn c (rd a (i : Int))) (by omega)
      refine ⟨r, Ev.step (fun k => by rw [slices_Min_int_int.l0]) (Ev.cond (by omega) (Ev.cond (by omega) ?_)), fun s => ?_⟩
      · rw [w64 (by omega) (by omega)]; exact hr
      · rw [hs, mn_le, zaq (fun x => s ≤ x) a (i := i) (by omega), and_assoc]
  obtain ⟨r, hr, hs⟩ := key (a.length - 1) 1 (rd a 0) (by omega)
  have hr' : Ev (fun k => slices_Min_int_int.l0 k a (rd a 0) 1) r := hr
  refine ⟨r, Ev.congr (fun k => by rw [slices_Min_int_int.f]) (Ev.ncond (by omega) (Ev.cond (by omega) hr')), fun s => ?_⟩
  rw [hs, show (∀ x ∈ a, s ≤ x) ↔ (∀ x ∈ a.drop 0, s ≤ x) by rw [List.drop_zero], zaq (fun x => s ≤ x) a (i := 0) (by omega)]
  exact Iff.rfl
theorem max_ev (a : List Int) (h1 : 1 ≤ a.length) (ha : a.length ≤ 9000000000000000000) : ∃ r, Ev (fun k => slices_Max_int_int.f k a) r ∧ ∀ s, r < s ↔ ∀ x ∈ a, x < s := by
  have key : ∀ (m i : Nat) (c : Int), i + m = a.length → ∃ r, Ev (fun k => slices_Max_int_int.l0 k a c (i : Int)) r ∧ ∀ s, r < s ↔ c < s ∧ ∀ x ∈ a.drop i, x < s := by
    intro m
    induction m with
    | zero =>
      intro i c hi
      refine ⟨c, Ev.step (fun k => by rw [slices_Max_int_int.l0]) (Ev.ncond (by omega) (Ev.fin rfl)), fun s => ?_⟩
      rw [List.drop_eq_nil_of_le (by omega)]; simp
    | succ m ih =>
      intro i c hi
      obtain ⟨r, hr, hs⟩ := ih (i + 1) (mx c (rd a (i : Int))) (by omega)
      refine ⟨r, Ev.step (fun k => by rw [slices_Max_int_int.l0]) (Ev.cond (by omega) (Ev.cond (by omega) ?_)), fun s => ?_⟩
      · rw [w64 (by omega) (by omega)]; exact hr
      · rw [hs, mx_lt, zaq (fun x => x < s) a (i := i) (by omega), and_assoc]
  obtain ⟨r, hr, hs⟩ := key (a.length - 1) 1 (rd a 0) (by omega)
  have hr' : Ev (fun k => slices_Max_int_int.l0 k a (rd a 0) 1) r := hr
  refine ⟨r, Ev.congr (fun k => by rw [slices_Max_int_int.f]) (Ev.ncond (by omega) (Ev.cond (by omega) hr')), fun s => ?_⟩
  rw [hs, show (∀ x ∈ a, x < s) ↔ (∀ x ∈ a.drop 0, x < s) by rw [List.drop_zero], zaq (fun x => x < s) a (i := 0) (by omega)]
  exact Iff.rfl
def zau (l : List Int) : Prop := (∃ j, j ≤ 6 ∧ l.length = 2 ^ j) ∧ ∀ x ∈ l, 0 ≤ x
theorem zdu : ∀ n : Fin 65, 1 ≤ n.1 → (Go.bits .and .i64 (n.1 : Int) ((n.1 : Int) - 1) = 0 ↔ ∃ j : Fin 7, n.1 = 2 ^ j.1) := by decide +kernel
theorem pow6 {n : Nat} (h : n ≤ 6) : 2 ^ n ≤ 64 := by
  have := Nat.pow_le_pow_right (show 0 < 2 by omega) h
  omega
theorem zau.len {l : List Int} (h : zau l) : 1 ≤ l.length ∧ l.length ≤ 64 := by
  obtain ⟨⟨j, hj, e⟩, _⟩ := h
  have := pow6 hj
  have := Nat.two_pow_pos j
  omega
noncomputable instance decRow (l : List Int) : Decidable (zau l) := Classical.propDecidable _
theorem zbs (l : List Int) (hl : l.length ≤ 9000000000000000000) : Ev (fun k => row_right.f k l) (decide (zau l)) := by
  refine Ev.congr (fun k => by rw [row_right.f]) ?_
  by_cases c : 1 ≤ l.length ∧ l.length ≤ 64
  · refine Ev.cond (by omega) (Ev.cond (by omega) ?_)
    have q := zdu ⟨l.length, by omega⟩ c.1
    rw [w64 (by omega) (by omega)]
    refine Ev.ite (fun h => ?_) (fun h => Ev.fin ?_)
    · obtain ⟨j, hj⟩ := q.1 h
      obtain ⟨r, hr, hs⟩ := min_ev l c.1 hl
      refine Ev.bind hr (Ev.fin ?_)
      congr 1
      exact propext ⟨fun h0 => ⟨⟨j.1, by omega, hj⟩, (hs 0).1 h0⟩, fun h0 => (hs 0).2 h0.2⟩
    · exact (decide_eq_false (fun ⟨⟨j, hj, e⟩, _⟩ => h (q.2 ⟨⟨j, by omega⟩, e⟩))).symm
  · have no : ¬ zau l := fun h => c h.len
    rw [decide_eq_false no]
    refine Ev.ite (fun h => Ev.ncond (by omega) (Ev.fin rfl)) (fun _ => Ev.fin rfl)
theorem tr (k : Nat) (n x i x' i' : Int) (h : i ≤ 6) (hx : x ≠ n) (e1 : wrap64 (x * 2) = x') (e2 : wrap64 (i + 1) = i') : tabardref11_Tracks.l0 (k + 1) n x i = tabardref11_Tracks.l0 k n x' i' := by
  rw [tabardref11_Tracks.l0, if_pos h, if_neg hx, e1, e2]
theorem zch (l : List Int) (j : Nat) (hj : j < 6) (hl : l.length = 2 ^ (j + 1)) (d : Nat) (hd : d ≤ 1) :
    Ev (fun k => tabardref11_half.f k l (d : Int)) ((l.drop (d * 2 ^ j)).take (2 ^ j)) := by
  refine Ev.congr (fun k => by rw [tabardref11_half.f]) ?_
  have hp : 2 ^ (j + 1) = 2 ^ j + 2 ^ j := by rw [Nat.pow_succ]; omega
  have h6 := pow6 (show j ≤ 6 by omega)
  have hd2 : d * 2 ^ j + 2 ^ j ≤ l.length := by
    rcases Nat.le_one_iff_eq_zero_or_eq_one.1 hd with rfl | rfl <;> omega
  obtain ⟨n, hn⟩ : ∃ n, n = 2 ^ j := ⟨_, rfl⟩
  rw [show wrap64 ((l.length : Int) / 2) = (n : Int) by rw [w64 (by omega) (by omega)]; omega]
  rw [← hn] at hd2 hp h6 ⊢
  have hw : wrap64 ((d : Int) * (n : Int)) = ((d * n : Nat) : Int) := by
    rcases Nat.le_one_iff_eq_zero_or_eq_one.1 hd with rfl | rfl <;> rw [w64 (by omega) (by omega)] <;> simp
  have key : ∀ (m i : Nat) (acc : List Int), i + m = n → acc.length ≤ i → Ev (fun k => tabardref11_half.l0 k l (d : Int) acc (n : Int) (i : Int)) (acc ++ (l.drop (d * n + i)).take m) := by
    intro m
    induction m with
    | zero => intro i acc hi _; exact Ev.step (fun k => by rw [tabardref11_half.l0]) (Ev.ncond (by omega) (Ev.fin (by simp)))
    | succ m ih =>
      intro i acc hi ha
      refine Ev.step (fun k => by rw [tabardref11_half.l0]) (Ev.cond (by omega) ?_)
      rw [hw, w64 (x := ((d * n : Nat) : Int) + (i : Int)) (by omega) (by omega), w64 (x := (i : Int) + 1) (by omega) (by omega), show ((d * n : Nat) : Int) + (i : Int) = ((d * n + i : Nat) : Int) by omega]
      refine Ev.cond (by omega) (Ev.cond (by omega) (Ev.cond (by omega) ?_))
      have q := ih (i + 1) (acc ++ [rd l ((d * n + i : Nat) : Int)]) (by omega) (by simp; omega)
      rw [List.drop_eq_getElem_cons (show d * n + i < l.length by omega), List.take_succ_cons]
      rw [zao, List.getD_eq_getElem?_getD, List.getElem?_eq_getElem (show d * n + i < l.length by omega), List.append_assoc] at q
      rw [zao, List.getD_eq_getElem?_getD, List.getElem?_eq_getElem (show d * n + i < l.length by omega)]
      exact q
  have := key n 0 [] (by omega) (by simp)
  simpa using this
end Go.Proofs.Ytninoenmhcbonaa.Pure
namespace Go.Proofs.Ytninoenmhcbonaa.Pure
open Go.RowKit Go.Proofs.YtninoenmhcbonaaW.PrintWords Go.Proofs.YtninoenmhcbonaaW.PrintLast Go.Proofs.YtninoenmhcbonaaW.PrintMore Go.Proofs.Ytninoenmhcbonaa.X
set_option linter.unusedVariables false
def tree : Nat → List Int → Int → Int → List S73
  | 0, l, m, b => [⟨m, b, l.getD 0 0⟩]
  | j + 1, l, m, b =>
    if l.take (2 ^ j) = l.drop (2 ^ j) then tree j (l.take (2 ^ j)) m b
    else tree j (l.take (2 ^ j)) (m + ((2 ^ j : Nat) : Int)) b ++ tree j (l.drop (2 ^ j)) (m + ((2 ^ j : Nat) : Int)) (b + ((2 ^ j : Nat) : Int))
def shift (m b : Int) (x : S73) : S73 := ⟨m + x.f0, b + x.f1, x.f2⟩
structure Good (j : Nat) (x : S73) : Prop where
  b0 : 0 ≤ x.f1
  bm : x.f1 ≤ x.f0
  m2 : x.f0 < ((2 ^ j : Nat) : Int)
  lies : Go.bits .andNot .i64 x.f1 x.f0 = 0
def hit (a : Int) (x : S73) : Bool := Go.bits .and .i64 a x.f0 == x.f1
theorem zcs : ∀ j : Fin 6, ∀ m : Fin 32, ∀ b : Fin 32, m.1 < 2 ^ j.1 → b.1 < 2 ^ j.1 → Go.bits .andNot .i64 (b.1 : Int) (m.1 : Int) = 0 →
    Go.bits .andNot .i64 (b.1 : Int) (((2 ^ j.1 : Nat) : Int) + (m.1 : Int)) = 0 ∧ Go.bits .andNot .i64 (((2 ^ j.1 : Nat) : Int) + (b.1 : Int)) (((2 ^ j.1 : Nat) : Int) + (m.1 : Int)) = 0 := by decide +kernel
theorem zdy : ∀ j : Fin 6, ∀ m : Fin 64, m.1 < 64 / 2 ^ (j.1 + 1) → Go.bits .or .i64 ((m.1 * 2 ^ (j.1 + 1) : Nat) : Int) ((2 ^ j.1 : Nat) : Int) = ((m.1 * 2 ^ (j.1 + 1) : Nat) : Int) + ((2 ^ j.1 : Nat) : Int) := by decide +kernel
theorem pow_le {j : Nat} (h : j < 6) : 2 ^ j ≤ 32 := by
  have : (2 : Nat) ^ j ≤ 2 ^ 5 := Nat.pow_le_pow_right (by decide) (by omega)
  exact this
theorem Good.nat {j : Nat} {x : S73} (g : Good j x) : ∃ m b : Nat, x.f0 = (m : Int) ∧ x.f1 = (b : Int) ∧ m < 2 ^ j ∧ b ≤ m := by
  obtain ⟨h0, h1, h2, _⟩ := g
  obtain ⟨m, hm⟩ := Int.eq_ofNat_of_zero_le (show 0 ≤ x.f0 by omega)
  obtain ⟨b, hb⟩ := Int.eq_ofNat_of_zero_le h0
  exact ⟨m, b, hm, hb, by omega, by omega⟩
theorem Good.up {j : Nat} {x : S73} (g : Good j x) : Good (j + 1) x := by
  obtain ⟨h0, h1, h2, h3⟩ := g
  exact ⟨h0, h1, by rw [Nat.pow_succ]; omega, h3⟩
theorem Good.low {j : Nat} {x : S73} (hj : j < 6) (g : Good j x) : Good (j + 1) (shift ((2 ^ j : Nat) : Int) 0 x) := by
  obtain ⟨m, b, e0, e1, hm, hb⟩ := g.nat
  have q := pow_le hj
  have := (zcs ⟨j, hj⟩ ⟨m, by omega⟩ ⟨b, by omega⟩ hm (by show b < 2 ^ j; omega) (by have := g.lies; rw [e0, e1] at this; exact this)).1
  refine ⟨?_, ?_, ?_, ?_⟩
  · show 0 ≤ 0 + x.f1; omega
  · show 0 + x.f1 ≤ _ + x.f0; omega
  · show _ + x.f0 < _; rw [Nat.pow_succ]; omega
  · show Go.bits .andNot .i64 (0 + x.f1) (_ + x.f0) = 0
    rw [Int.zero_add, e0, e1]; exact this
theorem za5 (j : Nat) : ∀ (l : List Int) (m b : Int), (tree j l m b).length ≤ 2 ^ j ∧ 1 ≤ (tree j l m b).length := by
  induction j with
  | zero => intro l m b; simp [tree]
  | succ j ih =>
    intro l m b
    simp only [tree]
    have h1 := ih (l.take (2 ^ j)) m b
    have h2 := ih (l.take (2 ^ j)) (m + ((2 ^ j : Nat) : Int)) b
    have h3 := ih (l.drop (2 ^ j)) (m + ((2 ^ j : Nat) : Int)) (b + ((2 ^ j : Nat) : Int))
    rw [Nat.pow_succ]
    split
    · omega
    · rw [List.length_append]; omega
theorem zc5 : ∀ j : Fin 6, 64 / 2 ^ j.1 = 2 * (64 / 2 ^ (j.1 + 1)) := by decide +kernel
theorem zc1 (j : Nat) : ∀ (l : List Int) (q p : Nat), j ≤ 6 → l.length = 2 ^ j → q < 64 / 2 ^ j → p < 64 / 2 ^ j →
    Ev (fun k => row_Pack.leaves k l ((q * 2 ^ j : Nat) : Int) ((p * 2 ^ j : Nat) : Int)) (tree j l ((q * 2 ^ j : Nat) : Int) ((p * 2 ^ j : Nat) : Int)) := by
  induction j with
  | zero =>
    intro l q p _ hl _ _
    have h1 : l.length = 1 := by simpa using hl
    refine Ev.step (fun k => by rw [row_Pack.leaves]) (Ev.cond (by omega) (Ev.cond (by omega) (Ev.fin ?_)))
    rw [tree]; congr 2
  | succ j ih =>
    intro l q p hj hl hq hp
    have hpw : 2 ^ (j + 1) = 2 ^ j + 2 ^ j := by rw [Nat.pow_succ]; omega
    have hpos := Nat.two_pow_pos j
    have hh : l.length / 2 = 2 ^ j := by omega
    have hT : (l.take (2 ^ j)).length = 2 ^ j := by rw [List.length_take]; omega
    have hD : (l.drop (2 ^ j)).length = 2 ^ j := by rw [List.length_drop]; omega
    have q2 := zc5 ⟨j, by omega⟩
    simp only [] at q2
    have e (x : Nat) : x * 2 ^ (j + 1) = (2 * x) * 2 ^ j := by rw [hpw, Nat.mul_add, ← Nat.add_mul, ← Nat.two_mul]
    have e1 (x : Nat) : ((x * 2 ^ (j + 1) : Nat) : Int) + ((2 ^ j : Nat) : Int) = (((2 * x + 1) * 2 ^ j : Nat) : Int) := by
      rw [e, Nat.add_mul, Nat.one_mul]; omega
    have o (x : Nat) (hx : x < 64 / 2 ^ (j + 1)) : Go.bits .or .i64 ((x * 2 ^ (j + 1) : Nat) : Int) ((2 ^ j : Nat) : Int) = ((x * 2 ^ (j + 1) : Nat) : Int) + ((2 ^ j : Nat) : Int) :=
      zdy ⟨j, by omega⟩ ⟨x, Nat.lt_of_lt_of_le hx (Nat.div_le_self _ _)⟩ hx
    refine Ev.step (fun k => by rw [row_Pack.leaves]) (Ev.ncond (by omega) ?_)
    rw [hh, o q hq, o p hp]
    refine Ev.bind (zdl _ _ (by rw [hT]; have := pow6 (show j ≤ 6 by omega); omega)) ?_
    rw [tree]
    by_cases c : l.take (2 ^ j) = l.drop (2 ^ j)
    · rw [decide_eq_true c, if_pos c]
      refine Ev.cond rfl ?_
      rw [e q, e p]
      exact ih _ (2 * q) (2 * p) (by omega) hT (by omega) (by omega)
    · rw [decide_eq_false c, if_neg c]
      refine Ev.ncond (by decide) ?_
      rw [e1 q, e1 p, e p]
      refine Ev.bind (ih _ (2 * q + 1) (2 * p) (by omega) hT (by omega) (by omega)) (Ev.bind (ih _ (2 * q + 1) (2 * p + 1) (by omega) hD (by omega) (by omega)) (Ev.fin rfl))
theorem zcm (j : Nat) : ∀ (l : List Int) (m b : Int), j ≤ 6 → l.length = 2 ^ j → 0 ≤ m → m + ((2 ^ j : Nat) : Int) ≤ 64 → 0 ≤ b → b + ((2 ^ j : Nat) : Int) ≤ 64 →
    Ev (fun k => tabardref11_Cubes.f k l m b) (tree j l m b) := by
  induction j with
  | zero =>
    intro l m b _ hl _ _ _ _
    have h1 : l.length = 1 := by simpa using hl
    refine Ev.step (fun k => by rw [tabardref11_Cubes.f]) (Ev.cond (by omega) (Ev.cond (by omega) (Ev.fin ?_)))
    rw [tree]; congr 2
  | succ j ih =>
    intro l m b hj hl hm hm2 hb hb2
    have hpw : 2 ^ (j + 1) = 2 ^ j + 2 ^ j := by rw [Nat.pow_succ]; omega
    have hpos := Nat.two_pow_pos j
    have hT : (l.take (2 ^ j)).length = 2 ^ j := by rw [List.length_take]; omega
    have hD : (l.drop (2 ^ j)).length = 2 ^ j := by rw [List.length_drop]; omega
    have hD2 : (l.drop (2 ^ j)).take (2 ^ j) = l.drop (2 ^ j) := List.take_of_length_le (by omega)
    have b0 := zch l j (by omega) hl 0 (by omega)
    have b1 := zch l j (by omega) hl 1 (by omega)
    rw [Nat.zero_mul, List.drop_zero] at b0
    rw [Nat.one_mul, hD2] at b1
    have a0 : Ev (fun k => tabardref11_half.f k l 0) (l.take (2 ^ j)) := b0
    have a1 : Ev (fun k => tabardref11_half.f k l 1) (l.drop (2 ^ j)) := b1
    have h64 := pow6 (show j ≤ 6 by omega)
    refine Ev.step (fun k => by rw [tabardref11_Cubes.f]) (Ev.ncond (by omega) (Ev.bind a0 (Ev.bind a1 (Ev.bind (zdx (l.take (2 ^ j)) (l.drop (2 ^ j)) (by omega) (by omega)) ?_))))
    rw [tree, hT]
    by_cases c : l.take (2 ^ j) = l.drop (2 ^ j)
    · rw [decide_eq_true c, if_pos c]
      exact Ev.cond rfl (Ev.bind (ih _ m b (by omega) hT hm (by omega) hb (by omega)) (Ev.fin rfl))
    · rw [decide_eq_false c, if_neg c]
      refine Ev.ncond (by decide) ?_
      rw [w64 (by omega) (by omega), w64 (by omega) (by omega)]
      have t1 := (za5 j (l.take (2 ^ j)) (m + ((2 ^ j : Nat) : Int)) b).1
      have t2 := (za5 j (l.drop (2 ^ j)) (m + ((2 ^ j : Nat) : Int)) (b + ((2 ^ j : Nat) : Int))).1
      refine Ev.bind (ih _ _ b (by omega) hT (by omega) (by omega) hb (by omega)) (Ev.bind (ih _ _ _ (by omega) hD (by omega) (by omega) (by omega) (by omega)) (Ev.cond (by omega) (Ev.fin rfl)))
theorem zeb {j : Nat} {l : List Int} (hj : j ≤ 6) (hl : l.length = 2 ^ j) : Ev (fun k => row_Pack.leaves k l 0 0) (tree j l 0 0) := by
  have := zc1 j l 0 0 hj hl (Nat.div_pos (pow6 hj) (Nat.two_pow_pos j)) (Nat.div_pos (pow6 hj) (Nat.two_pow_pos j))
  simpa using this
theorem zc7 {j : Nat} {l : List Int} (hj : j ≤ 6) (hl : l.length = 2 ^ j) : Ev (fun k => tabardref11_Cubes.f k l 0 0) (tree j l 0 0) :=
  zcm j l 0 0 hj hl (by omega) (by have := pow6 hj; omega) (by omega) (by have := pow6 hj; omega)
theorem zci {j : Nat} {l : List Int} (hj : j ≤ 6) (hl : l.length = 2 ^ j) (h : ∀ x ∈ l, 0 ≤ x) : Ev (fun k => row_Pack.f k l) (tree j l 0 0, 0) := by
  refine Ev.congr (fun k => by rw [row_Pack.f]) (Ev.bind (zbs l (by have := pow6 hj; omega)) ?_)
  rw [decide_eq_true (show zau l from ⟨⟨j, hj, hl⟩, h⟩)]
  exact Ev.cond rfl (Ev.bind (zeb hj hl) (Ev.fin rfl))
theorem zea {l : List Int} (hl : l.length ≤ 9000000000000000000) (h : ¬ zau l) : Ev (fun k => row_Pack.f k l) ([], 3) := by
  refine Ev.congr (fun k => by rw [row_Pack.f]) (Ev.bind (zbs l hl) ?_)
  rw [decide_eq_false h]
  exact Ev.ncond (by decide) (Ev.fin rfl)
end Go.Proofs.Ytninoenmhcbonaa.Pure
namespace Go.Proofs.Ytninoenmhcbonaa.Pure
open Go.RowKit Go.Proofs.YtninoenmhcbonaaW.PrintWords Go.Proofs.YtninoenmhcbonaaW.PrintLast Go.Proofs.YtninoenmhcbonaaW.PrintMore Go.Proofs.Ytninoenmhcbonaa.X
set_option linter.unusedVariables false
def atR : List S73 → Int → Int × Bool
  | [], _ => (0, false)
  | x :: l, a => if hit a x = true then (x.f2, true) else atR l a
theorem za2 (a : Int) (x : S73) : hit a x = true ↔ Go.bits .and .i64 a x.f0 = x.f1 := by simp [hit]
theorem zcg (l : List S73) {i : Nat} (h : i < l.length) : rd_T73 l (i : Int) = l[i] := by
  rw [zbh, List.getD_eq_getElem?_getD, List.getElem?_eq_getElem h]; rfl
theorem zcq (l : List S73) (a : Int) (hl : l.length ≤ 9000000000000000000) : Ev (fun k => row_At.f k l a) (atR l a) := by
  refine Ev.congr (fun k => by rw [row_At.f]) ?_
  have key : ∀ (m i : Nat), i + m = l.length → Ev (fun k => row_At.l0 k a l (l.length : Int) (i : Int)) (atR (l.drop i) a) := by
    intro m
    induction m with
    | zero =>
      intro i hi
      rw [List.drop_eq_nil_of_le (by omega)]
      refine Ev.step (fun k => by rw [row_At.l0]) (Ev.ncond (by omega) ?_)
      exact Ev.fin rfl
    | succ m ih =>
      intro i hi
      rw [List.drop_eq_getElem_cons (by omega), atR]
      refine Ev.step (fun k => by rw [row_At.l0]) (Ev.cond (by omega) (Ev.cond (by omega) (Ev.cond (by omega) ?_)))
      rw [zcg l (by omega), w64 (by omega) (by omega)]
      by_cases c : hit a l[i] = true
      · rw [if_pos c]; exact Ev.cond ((za2 _ _).1 c) (Ev.fin rfl)
      · rw [if_neg c]; exact Ev.ncond (fun e => c ((za2 _ _).2 e)) (ih (i + 1) (by omega))
  exact key l.length 0 (by omega)
theorem zbx (l : List S73) (a : Int) (hl : l.length ≤ 9000000000000000000) : Ev (fun k => tabardref11_At.f k l a) (atR l a) := by
  refine Ev.congr (fun k => by rw [tabardref11_At.f]) ?_
  have key : ∀ (m i : Nat), i + m = l.length → Ev (fun k => tabardref11_At.l0 k l a (i : Int)) (atR (l.drop i) a) := by
    intro m
    induction m with
    | zero =>
      intro i hi
      rw [List.drop_eq_nil_of_le (by omega)]
      refine Ev.step (fun k => by rw [tabardref11_At.l0]) (Ev.ncond (by omega) ?_)
      exact Ev.fin rfl
    | succ m ih =>
      intro i hi
      rw [List.drop_eq_getElem_cons (by omega), atR]
      refine Ev.step (fun k => by rw [tabardref11_At.l0]) (Ev.cond (by omega) (Ev.cond (by omega) ?_))
      rw [zcg l (by omega), w64 (by omega) (by omega)]
      by_cases c : hit a l[i] = true
      · rw [if_pos c]; exact Ev.cond ((za2 _ _).1 c) (Ev.fin rfl)
      · rw [if_neg c]; exact Ev.ncond (fun e => c ((za2 _ _).2 e)) (ih (i + 1) (by omega))
  exact key l.length 0 (by omega)
def zaa (l : List S73) (n : Nat) : List Int := (List.range n).map fun i => (atR l ((i : Nat) : Int)).1
theorem zab (l : List S73) (n : Nat) : (zaa l n).length = n := by simp [zaa]
theorem zcw (l : List S73) (n : Nat) {i : Nat} (h : i < n) : (zaa l n)[i]? = some (atR l (i : Int)).1 := by simp [zaa, h]
structure UnpOk (l : List S73) (j : Nat) : Prop where
  six : j ≤ 6
  len : l.length ≤ 2 ^ j
  all : ∀ i : Nat, i < 2 ^ j → (atR l (i : Int)).2 = true
  pos : ∀ i : Nat, i < 2 ^ j → 0 ≤ (atR l (i : Int)).1
  tree : tree j (zaa l (2 ^ j)) 0 0 = l
theorem UnpOk.mem {l : List S73} {j : Nat} (h : ∀ i : Nat, i < 2 ^ j → 0 ≤ (atR l (i : Int)).1) : ∀ x ∈ zaa l (2 ^ j), 0 ≤ x := by
  intro x hx
  obtain ⟨i, hi, rfl⟩ := List.mem_map.1 hx
  exact h i (List.mem_range.1 hi)
theorem zce {l : List S73} {n : Nat} (hn : n ≤ 64) (hl : l.length ≤ 64) (h : ∀ i : Nat, i < n → (atR l (i : Int)).2 = true) {r : List Int × Int}
    (fin : Ev (fun k => (row_Pack.f k (zaa l n)).bind fun bt => (if bt.2 = 0 then ((api_Cube.f k bt.1 l).bind fun t => (if t = true then (some (zaa l n, 0)) else (some (([] : List Int), 3)))) else (some (([] : List Int), 3)))) r) :
    ∀ (m i : Nat) (y : List Int), i + m = n → y.length = n → (∀ z, z < i → y[z]? = (zaa l n)[z]?) → Ev (fun k => row_Unpack.l0 k l y (n : Int) (i : Int)) r := by
  intro m
  induction m with
  | zero =>
    intro i y hi hy hz
    obtain rfl : y = zaa l n := by
      apply List.ext_getElem?
      intro z
      by_cases c : z < n
      · exact hz z (by omega)
      · rw [List.getElem?_eq_none (by omega), List.getElem?_eq_none (by rw [zab]; omega)]
    exact Ev.step (fun k => by rw [row_Unpack.l0]) (Ev.ncond (by omega) fin)
  | succ m ih =>
    intro i y hi hy hz
    refine Ev.step (fun k => by rw [row_Unpack.l0]) (Ev.cond (by omega) (Ev.bind (zcq l _ (by omega)) (Ev.cond (h i (by omega)) ?_)))
    refine Ev.cond (by omega) (Ev.cond (by omega) ?_)
    rw [w64 (by omega) (by omega), show ((i : Nat) : Int).toNat = i from rfl]
    refine ih (i + 1) _ (by omega) (by rw [List.length_set]; exact hy) (fun z hz2 => ?_)
    rw [List.getElem?_set]
    by_cases c : i = z
    · subst c
      rw [if_pos rfl, if_pos (by omega), zcw l n (by omega)]
    · rw [if_neg c]; exact hz z (by omega)
theorem zd0 {l : List S73} {n q : Nat} (hn : n ≤ 64) (hl : l.length ≤ 64) (hq : q < n) (h : (atR l (q : Int)).2 = false) :
    ∀ (m i : Nat) (y : List Int), i + m = q → y.length = n → Ev (fun k => row_Unpack.l0 k l y (n : Int) (i : Int)) ([], 3) := by
  intro m
  induction m with
  | zero =>
    intro i y hi hy
    obtain rfl : i = q := by omega
    refine Ev.step (fun k => by rw [row_Unpack.l0]) (Ev.cond (by omega) (Ev.bind (zcq l _ (by omega)) ?_))
    exact Ev.ncond (by rw [h]; decide) (Ev.fin rfl)
  | succ m ih =>
    intro i y hi hy
    refine Ev.step (fun k => by rw [row_Unpack.l0]) (Ev.cond (by omega) (Ev.bind (zcq l _ (by omega)) (Ev.ite (fun _ => ?_) (fun _ => Ev.fin rfl))))
    refine Ev.cond (by omega) (Ev.cond (by omega) ?_)
    rw [w64 (by omega) (by omega)]
    exact ih (i + 1) _ (by omega) (by rw [List.length_set]; exact hy)
theorem zcf : ∀ j : Fin 7, shl .i64 1 (j.1 : Int) = ((2 ^ j.1 : Nat) : Int) := by decide +kernel
theorem za3 {l : List S73} {j : Nat} {r : List Int × Int} (hj : j ≤ 6) (hl : l.length ≤ 2 ^ j) (h : ∀ y : List Int, y.length = 2 ^ j → Ev (fun k => row_Unpack.l0 k l y ((2 ^ j : Nat) : Int) 0) r) : Ev (fun k => row_Unpack.f k l (j : Int)) r := by
  have s := zcf ⟨j, by omega⟩
  have h6 := pow6 hj
  simp only [] at s
  refine Ev.congr (fun k => by rw [row_Unpack.f]) (Ev.ncond (by omega) ?_)
  rw [decide_eq_false (show ¬ ((j : Int) > 6) by omega)]
  refine Ev.step (fun k => by rw [row_Unpack.j0]) (Ev.ncond (by decide) (Ev.cond (by omega) ?_))
  rw [s]
  refine Ev.ncond (by omega) (Ev.cond (by omega) (Ev.cond (by rw [Int.toNat_natCast]; omega) ?_))
  refine Ev.ret rfl ?_
  have q := h (List.replicate ((2 ^ j : Nat) : Int).toNat 0) (by rw [List.length_replicate, Int.toNat_natCast])
  rw [List.length_replicate, Int.toNat_natCast]
  rw [Int.toNat_natCast] at q
  exact q
theorem zbj {l : List S73} {j : Nat} (h : UnpOk l j) : Ev (fun k => row_Unpack.f k l (j : Int)) (zaa l (2 ^ j), 0) := by
  have h6 := pow6 h.six
  have hl := h.len
  refine za3 h.six h.len (fun y hy => ?_)
  refine zce h6 (by omega) h.all ?_ (2 ^ j) 0 y (by omega) hy (fun z hz => absurd hz (by omega))
  refine Ev.bind (zci h.six (zab _ _) (UnpOk.mem h.pos)) (Ev.cond rfl ?_)
  rw [h.tree]
  refine Ev.bind (zbu l l (by omega)) ?_
  rw [decide_eq_true rfl]
  exact Ev.cond rfl (Ev.fin rfl)
theorem zcy {l : List S73} {j : Nat} (hj : j ≤ 6) (h : ¬ UnpOk l j) (hl9 : l.length ≤ 9000000000000000000) : Ev (fun k => row_Unpack.f k l (j : Int)) ([], 3) := by
  have h6 := pow6 hj
  by_cases hl : l.length ≤ 2 ^ j
  · by_cases ha : ∀ i : Nat, i < 2 ^ j → (atR l (i : Int)).2 = true
    · refine za3 hj hl (fun y hy => ?_)
      refine zce h6 (by omega) ha ?_ (2 ^ j) 0 y (by omega) hy (fun z hz => absurd hz (by omega))
      by_cases hp : ∀ i : Nat, i < 2 ^ j → 0 ≤ (atR l (i : Int)).1
      · refine Ev.bind (zci hj (zab _ _) (UnpOk.mem hp)) (Ev.cond rfl ?_)
        refine Ev.bind (zbu _ l (by show (tree j (zaa l (2 ^ j)) 0 0).length ≤ _; have := (za5 j (zaa l (2 ^ j)) 0 0).1; omega)) ?_
        rw [decide_eq_false (fun e => h ⟨hj, hl, ha, hp, e⟩)]
        exact Ev.ncond (by decide) (Ev.fin rfl)
      · have no : ¬ zau (zaa l (2 ^ j)) := fun hr => hp (fun i hi => hr.2 _ (List.mem_map.2 ⟨i, List.mem_range.2 hi, rfl⟩))
        exact Ev.bind (zea (by rw [zab]; omega) no) (Ev.ncond (by decide) (Ev.fin rfl))
    · obtain ⟨q, hq, hn⟩ : ∃ q, q < 2 ^ j ∧ (atR l ((q : Nat) : Int)).2 = false :=
        Classical.byContradiction fun c => ha fun i hi => Classical.byContradiction fun d => c ⟨i, hi, by simpa using d⟩
      exact za3 hj hl (fun y hy => zd0 h6 (by omega) hq hn q 0 y (by omega) hy)
  · have s := zcf ⟨j, by omega⟩
    simp only [] at s
    refine Ev.congr (fun k => by rw [row_Unpack.f]) (Ev.ncond (by omega) ?_)
    rw [decide_eq_false (show ¬ ((j : Int) > 6) by omega)]
    refine Ev.step (fun k => by rw [row_Unpack.j0]) (Ev.ncond (by decide) (Ev.cond (by omega) ?_))
    rw [s]
    exact Ev.cond (by omega) (Ev.fin rfl)
end Go.Proofs.Ytninoenmhcbonaa.Pure
namespace Go.Proofs.Ytninoenmhcbonaa.Pure
open Go.RowKit Go.Proofs.YtninoenmhcbonaaW.PrintWords Go.Proofs.YtninoenmhcbonaaW.PrintLast Go.Proofs.YtninoenmhcbonaaW.PrintMore Go.Proofs.Ytninoenmhcbonaa.X
set_option linter.unusedVariables false
theorem zcz {l c : List S73} {R : List Int} (hl : l.length ≤ 64) (hc : c.length = l.length) : ∀ (m i : Nat), i + m = l.length → Ev (fun k => tabardref11_Unpack.l2 k l R c (i : Int)) (if c.drop i = l.drop i then (R, 0) else ([], 3)) := by
  intro m
  induction m with
  | zero =>
    intro i hi
    rw [if_pos (by rw [List.drop_eq_nil_of_le (by omega), List.drop_eq_nil_of_le (by omega)])]
    exact Ev.step (fun k => by rw [tabardref11_Unpack.l2]) (Ev.ncond (by omega) (Ev.fin rfl))
  | succ m ih =>
    intro i hi
    refine Ev.step (fun k => by rw [tabardref11_Unpack.l2]) (Ev.cond (by omega) (Ev.cond (by omega) (Ev.cond (by omega) (Ev.ite (fun d => Ev.fin ?_) (fun d => ?_)))))
    · rw [if_neg (fun e => (ne_S _ _).1 d ((zal c l (by omega) (by omega)).1 e).1)]
    · rw [w64 (by omega) (by omega)]
      have q := ih (i + 1) (by omega)
      have e : c.drop i = l.drop i ↔ c.drop (i + 1) = l.drop (i + 1) := (zal c l (by omega) (by omega)).trans (and_iff_right (Classical.byContradiction fun z => d ((ne_S _ _).2 z)))
      by_cases g : c.drop (i + 1) = l.drop (i + 1)
      · rw [if_pos g] at q; rw [if_pos (e.2 g)]; exact q
      · rw [if_neg g] at q; rw [if_neg (fun z => g (e.1 z))]; exact q
theorem zcc {l : List S73} {n : Nat} (hn : n ≤ 64) (hl : l.length ≤ 64) (h : ∀ i : Nat, i < n → (atR l (i : Int)).2 = true) (hp : ∀ i : Nat, i < n → 0 ≤ (atR l (i : Int)).1) {r : List Int × Int}
    (fin : Ev (fun k => (tabardref11_Cubes.f k (zaa l n) 0 0).bind fun t => (if (t.length : Int) = (l.length : Int) then (tabardref11_Unpack.l2 k l (zaa l n) t 0) else (some (([] : List Int), 3)))) r) :
    ∀ (m i : Nat), i + m = n → Ev (fun k => tabardref11_Unpack.l1 k l (n : Int) (zaa l i) (i : Int)) r := by
  intro m
  induction m with
  | zero =>
    intro i hi
    obtain rfl : i = n := by omega
    exact Ev.step (fun k => by rw [tabardref11_Unpack.l1]) (Ev.ncond (by omega) fin)
  | succ m ih =>
    intro i hi
    refine Ev.step (fun k => by rw [tabardref11_Unpack.l1]) (Ev.cond (by omega) (Ev.bind (zbx l _ (by omega)) (Ev.cond (h i (by omega)) ?_)))
    refine Ev.ncond (by have := hp i (by omega); omega) (Ev.cond (by rw [zab]; omega) ?_)
    rw [w64 (by omega) (by omega)]
    have q := ih (i + 1) (by omega)
    rw [show zaa l (i + 1) = zaa l i ++ [(atR l (i : Int)).1] by simp [zaa, List.range_succ]] at q
    exact q
theorem zd9 {l : List S73} {n q : Nat} (hn : n ≤ 64) (hl : l.length ≤ 64) (hq : q < n) (h : (atR l (q : Int)).2 = false ∨ (atR l (q : Int)).1 < 0) :
    ∀ (m i : Nat), i + m = q → Ev (fun k => tabardref11_Unpack.l1 k l (n : Int) (zaa l i) (i : Int)) ([], 3) := by
  intro m
  induction m with
  | zero =>
    intro i hi
    obtain rfl : i = q := by omega
    refine Ev.step (fun k => by rw [tabardref11_Unpack.l1]) (Ev.cond (by omega) (Ev.bind (zbx l _ (by omega)) ?_))
    refine Ev.ite (fun a => ?_) (fun _ => Ev.fin rfl)
    refine Ev.cond ?_ (Ev.fin rfl)
    rcases h with h | h
    · rw [h] at a; cases a
    · exact h
  | succ m ih =>
    intro i hi
    refine Ev.step (fun k => by rw [tabardref11_Unpack.l1]) (Ev.cond (by omega) (Ev.bind (zbx l _ (by omega)) ?_))
    refine Ev.ite (fun a => ?_) (fun _ => Ev.fin rfl)
    refine Ev.ite (fun _ => Ev.fin rfl) (fun _ => Ev.cond (by rw [zab]; omega) ?_)
    rw [w64 (by omega) (by omega)]
    have q := ih (i + 1) (by omega)
    rw [show zaa l (i + 1) = zaa l i ++ [(atR l (i : Int)).1] by simp [zaa, List.range_succ]] at q
    exact q
theorem zbr {l : List S73} {j : Nat} {r : List Int × Int} (hj : j ≤ 6) (h : Ev (fun k => if (l.length : Int) > ((2 ^ j : Nat) : Int) then (some (([] : List Int), 3)) else (tabardref11_Unpack.l1 k l ((2 ^ j : Nat) : Int) ([] : List Int) 0)) r) : Ev (fun k => tabardref11_Unpack.f k l (j : Int)) r := by
  refine Ev.congr (fun k => by rw [tabardref11_Unpack.f]) (Ev.ncond (by omega) ?_)
  rw [decide_eq_false (show ¬ ((j : Int) > 6) by omega)]
  refine Ev.step (fun k => by rw [tabardref11_Unpack.j0]) (Ev.ncond (by decide) ?_)
  have key : ∀ (m i : Nat), i + m = j → Ev (fun k => tabardref11_Unpack.l0 k l (j : Int) ((2 ^ i : Nat) : Int) (i : Int)) r := by
    intro m
    induction m with
    | zero =>
      intro i hi
      obtain rfl : i = j := by omega
      exact Ev.step (fun k => by rw [tabardref11_Unpack.l0]) (Ev.ncond (by omega) h)
    | succ m ih =>
      intro i hi
      have := pow6 (show i ≤ 6 by omega)
      refine Ev.step (fun k => by rw [tabardref11_Unpack.l0]) (Ev.cond (by omega) ?_)
      have q := ih (i + 1) (by omega)
      rw [Nat.pow_succ] at q
      obtain ⟨p, hp⟩ : ∃ p, p = 2 ^ i := ⟨_, rfl⟩
      rw [← hp] at q this ⊢
      rw [w64 (x := (i : Int) + 1) (by omega) (by omega), w64 (x := (p : Int) * 2) (by omega) (by omega), show (p : Int) * 2 = ((p * 2 : Nat) : Int) by omega]
      exact q
  exact key j 0 (by omega)
theorem zbd {l : List S73} {j : Nat} (h : UnpOk l j) : Ev (fun k => tabardref11_Unpack.f k l (j : Int)) (zaa l (2 ^ j), 0) := by
  have h6 := pow6 h.six
  have hl := h.len
  refine zbr h.six (Ev.ncond (by omega) ?_)
  refine zcc h6 (by omega) h.all h.pos ?_ (2 ^ j) 0 (by omega)
  refine Ev.bind (zc7 h.six (zab _ _)) ?_
  rw [h.tree]
  refine Ev.cond rfl ?_
  have q := zcz (l := l) (c := l) (R := zaa l (2 ^ j)) (by omega) rfl l.length 0 (by omega)
  rw [if_pos rfl] at q
  exact q
theorem zcp {l : List S73} {j : Nat} (hj : j ≤ 6) (h : ¬ UnpOk l j) : Ev (fun k => tabardref11_Unpack.f k l (j : Int)) ([], 3) := by
  have h6 := pow6 hj
  refine zbr hj ?_
  by_cases hl : l.length ≤ 2 ^ j
  · refine Ev.ncond (by omega) ?_
    by_cases ha : ∀ i : Nat, i < 2 ^ j → (atR l (i : Int)).2 = true ∧ 0 ≤ (atR l (i : Int)).1
    · refine zcc h6 (by omega) (fun i hi => (ha i hi).1) (fun i hi => (ha i hi).2) ?_ (2 ^ j) 0 (by omega)
      refine Ev.bind (zc7 hj (zab _ _)) ?_
      refine Ev.ite (fun e => ?_) (fun _ => Ev.fin rfl)
      have q := zcz (l := l) (c := tree j (zaa l (2 ^ j)) 0 0) (R := zaa l (2 ^ j)) (by omega) (by omega) l.length 0 (by omega)
      rw [if_neg (fun e => h ⟨hj, hl, fun i hi => (ha i hi).1, fun i hi => (ha i hi).2, by simpa using e⟩)] at q
      exact q
    · obtain ⟨q, hq, hn⟩ : ∃ q : Nat, q < 2 ^ j ∧ ((atR l ((q : Nat) : Int)).2 = false ∨ (atR l ((q : Nat) : Int)).1 < 0) :=
        Classical.byContradiction fun c => ha fun i hi => Classical.byContradiction fun d => c ⟨i, hi, by
          by_cases e : (atR l (i : Int)).2 = true
          · exact Or.inr (by have : ¬ 0 ≤ (atR l (i : Int)).1 := fun z => d ⟨e, z⟩; omega)
          · exact Or.inl (by simpa using e)⟩
      exact zd9 h6 (by omega) hq hn q 0 (by omega)
  · exact Ev.cond (by omega) (Ev.fin rfl)
theorem zco {l : List S73} {t s : Int} {e : Int} (he : e ≠ 0) (h : Ev (fun k => tabardref11_Unpack.f k l t) ([], e)) : Ev (fun k => tabardref11_Right.f k l t s) false :=
  Ev.congr (fun k => by rw [tabardref11_Right.f]) (Ev.bind h (Ev.ncond he (Ev.fin rfl)))
theorem zcb {l : List S73} {t s : Int} {R : List Int} (h2 : R.length ≤ 64) (h : Ev (fun k => tabardref11_Unpack.f k l t) (R, 0)) : Ev (fun k => tabardref11_Right.f k l t s) (decide (∀ x ∈ R, x < s)) := by
  refine Ev.congr (fun k => by rw [tabardref11_Right.f]) (Ev.bind h (Ev.cond rfl ?_))
  have key : ∀ (m i : Nat), i + m = R.length → Ev (fun k => tabardref11_Right.l0 k s R (i : Int)) (decide (∀ x ∈ R.drop i, x < s)) := by
    intro m
    induction m with
    | zero =>
      intro i hi
      rw [decide_eq_true (show ∀ x ∈ R.drop i, x < s by rw [List.drop_eq_nil_of_le (by omega)]; simp)]
      exact Ev.step (fun k => by rw [tabardref11_Right.l0]) (Ev.ncond (by omega) (Ev.fin rfl))
    | succ m ih =>
      intro i hi
      have q := zaq (fun x => x < s) R (i := i) (by omega)
      refine Ev.step (fun k => by rw [tabardref11_Right.l0]) (Ev.cond (by omega) (Ev.cond (by omega) (Ev.ite (fun d => Ev.fin ?_) (fun d => ?_))))
      · exact (decide_eq_false (fun e => by have := (q.1 e).1; omega)).symm
      · rw [w64 (by omega) (by omega), decide_eq_decide.2 (q.trans (and_iff_right (by omega)))]
        exact ih (i + 1) (by omega)
  exact key R.length 0 (by omega)
end Go.Proofs.Ytninoenmhcbonaa.Pure
namespace Go.Proofs.Ytninoenmhcbonaa.Pure
open Go.RowKit Go.Proofs.YtninoenmhcbonaaW.PrintWords Go.Proofs.YtninoenmhcbonaaW.PrintLast Go.Proofs.YtninoenmhcbonaaW.PrintMore Go.Proofs.Ytninoenmhcbonaa.X
set_option linter.unusedVariables false
theorem zah {α : Type} (d : α) (l : List α) {i : Nat} (h : i < l.length) : rdOf d l (i : Int) = l[i] := by
  simp [rdOf, List.getD_eq_getElem?_getD, h]
theorem zbb (l : List Int) {i : Nat} (h : i < l.length) : rd l (i : Int) = l[i] := by
  rw [zao, List.getD_eq_getElem?_getD, List.getElem?_eq_getElem h]; rfl
theorem zd6 (l : List (List Int)) {i : Nat} (h : i < l.length) : rd_L4 l (i : Int) = l[i] := by
  simp [rd_L4, List.getD_eq_getElem?_getD, h]
theorem zbi {α : Type} (d : α) (a b : List α) {i : Nat} (h : i < a.length) (h' : i < b.length) : a.drop i = b.drop i ↔ rdOf d a (i : Int) = rdOf d b (i : Int) ∧ a.drop (i + 1) = b.drop (i + 1) := by
  rw [List.drop_eq_getElem_cons h, List.drop_eq_getElem_cons h', zah d a h, zah d b h', List.cons.injEq]
theorem zb6 (a b : List ByteArray) {i : Nat} (h : i < a.length) (h' : i < b.length) : a.drop i = b.drop i ↔ rdOf ByteArray.empty a (i : Int) = rdOf ByteArray.empty b (i : Int) ∧ a.drop (i + 1) = b.drop (i + 1) := zbi _ a b h h'
theorem zb4 (a b : List Bool) {i : Nat} (h : i < a.length) (h' : i < b.length) : a.drop i = b.drop i ↔ rdOf false a (i : Int) = rdOf false b (i : Int) ∧ a.drop (i + 1) = b.drop (i + 1) := zbi _ a b h h'
theorem eq_B {x y : ByteArray} (h : x.toList = y.toList) : x = y := by
  rw [ByteArray.toList_eq, ByteArray.toList_eq] at h
  exact Go.WideShapes.bytes_inj h
theorem ne_B {x y : ByteArray} (h : ¬ x.toList = y.toList) (e : x = y) : False := h (by rw [e])
theorem eq_F {x y : Bool} (h : ¬ (x != y) = true) : x = y := by simpa using h
theorem ne_F {x y : Bool} (h : (x != y) = true) (e : x = y) : False := by subst e; simp at h
theorem zdj (a b : List ByteArray) (ha : a.length ≤ 9000000000000000000) : Ev (fun k => tabardref12_texts.f k a b) (decide (a = b)) := by
  refine Ev.congr (fun k => by rw [tabardref12_texts.f]) (Ev.ite (fun h => ?_) (fun h => Ev.fin ?_))
  · have hl : a.length = b.length := by omega
    have key : ∀ (m i : Nat), i + m = a.length → Ev (fun k => tabardref12_texts.l0 k a b (i : Int)) (decide (a.drop i = b.drop i)) := by
      intro m
      induction m with
      | zero =>
        intro i hi
        refine Ev.step (fun k => by rw [tabardref12_texts.l0]) (Ev.ncond (by omega) (Ev.fin ?_))
        rw [List.drop_eq_nil_of_le (by omega), List.drop_eq_nil_of_le (by omega)]; exact (decide_eq_true rfl).symm
      | succ m ih =>
        intro i hi
        refine Ev.step (fun k => by rw [tabardref12_texts.l0]) (Ev.cond (by omega) (Ev.cond (by omega) (Ev.cond (by omega) ?_)))
        refine Ev.ite (fun c => ?_) (fun c => Ev.fin ?_)
        · rw [w64 (by omega) (by omega)]
          have := ih (i + 1) (by omega)
          rwa [decide_eq_decide.2 ((zb6 a b (by omega) (by omega)).trans (and_iff_right (eq_B c)))]
        · exact (decide_eq_false (fun e => (ne_B c) ((zb6 a b (by omega) (by omega)).1 e).1)).symm
    exact key a.length 0 (by omega)
  · exact (decide_eq_false (fun e_ => h (by rw [e_]))).symm
theorem zdr (a b : List Bool) (ha : a.length ≤ 9000000000000000000) : Ev (fun k => tabardref12_flags.f k a b) (decide (a = b)) := by
  refine Ev.congr (fun k => by rw [tabardref12_flags.f]) (Ev.ite (fun h => ?_) (fun h => Ev.fin ?_))
  · have hl : a.length = b.length := by omega
    have key : ∀ (m i : Nat), i + m = a.length → Ev (fun k => tabardref12_flags.l0 k a b (i : Int)) (decide (a.drop i = b.drop i)) := by
      intro m
      induction m with
      | zero =>
        intro i hi
        refine Ev.step (fun k => by rw [tabardref12_flags.l0]) (Ev.ncond (by omega) (Ev.fin ?_))
        rw [List.drop_eq_nil_of_le (by omega), List.drop_eq_nil_of_le (by omega)]; exact (decide_eq_true rfl).symm
      | succ m ih =>
        intro i hi
        refine Ev.step (fun k => by rw [tabardref12_flags.l0]) (Ev.cond (by omega) (Ev.cond (by omega) (Ev.cond (by omega) ?_)))
        refine Ev.ite (fun c => Ev.fin ?_) (fun c => ?_)
        · exact (decide_eq_false (fun e => (ne_F c) ((zb4 a b (by omega) (by omega)).1 e).1)).symm
        · rw [w64 (by omega) (by omega)]
          have := ih (i + 1) (by omega)
          rwa [decide_eq_decide.2 ((zb4 a b (by omega) (by omega)).trans (and_iff_right (eq_F c)))]
    exact key a.length 0 (by omega)
  · exact (decide_eq_false (fun e_ => h (by rw [e_]))).symm
theorem zdi (a b : List Int) (ha : a.length ≤ 9000000000000000000) : Ev (fun k => tabardref12_ints.f k a b) (decide (a = b)) := by
  refine Ev.congr (fun k => by rw [tabardref12_ints.f]) (Ev.ite (fun h => ?_) (fun h => Ev.fin ?_))
  · have hl : a.length = b.length := by omega
    have key : ∀ (m i : Nat), i + m = a.length → Ev (fun k => tabardref12_ints.l0 k a b (i : Int)) (decide (a.drop i = b.drop i)) := by
      intro m
      induction m with
      | zero =>
        intro i hi
        refine Ev.step (fun k => by rw [tabardref12_ints.l0]) (Ev.ncond (by omega) (Ev.fin ?_))
        rw [List.drop_eq_nil_of_le (by omega), List.drop_eq_nil_of_le (by omega)]; exact (decide_eq_true rfl).symm
      | succ m ih =>
        intro i hi
        refine Ev.step (fun k => by rw [tabardref12_ints.l0]) (Ev.cond (by omega) (Ev.cond (by omega) (Ev.cond (by omega) ?_)))
        refine Ev.ite (fun c => ?_) (fun c => Ev.fin ?_)
        · rw [w64 (by omega) (by omega)]
          have := ih (i + 1) (by omega)
          rwa [decide_eq_decide.2 ((zap a b (by omega) (by omega)).trans (and_iff_right (id c)))]
        · exact (decide_eq_false (fun e => (id c) ((zap a b (by omega) (by omega)).1 e).1)).symm
    exact key a.length 0 (by omega)
  · exact (decide_eq_false (fun e_ => h (by rw [e_]))).symm
end Go.Proofs.Ytninoenmhcbonaa.Pure
namespace Go.Proofs.Ytninoenmhcbonaa.Pure
open Go.RowKit Go.Proofs.YtninoenmhcbonaaW.PrintWords Go.Proofs.YtninoenmhcbonaaW.PrintLast Go.Proofs.YtninoenmhcbonaaW.PrintMore Go.Proofs.Ytninoenmhcbonaa.X
set_option linter.unusedVariables false
theorem and4 {a b c d : Prop} [Decidable a] [Decidable b] [Decidable c] [Decidable d] : decide (a ∧ b ∧ c ∧ d) = (decide a && (decide b && (decide c && decide d))) := by
  by_cases a <;> by_cases b <;> by_cases c <;> by_cases d <;> simp [*]
section
variable {t0 u0 : List ByteArray} {t1 u1 : List Bool} {t2 u2 : List Int} {t3 u3 : List S73}
theorem zcl {v0 w0 : List ByteArray} {v1 w1 : List Bool} {v2 w2 : List Int} (h3 : t3.length ≤ 9000000000000000000) (hl : t3.length = u3.length) : Ev (fun k => tabardref12_Same.l0 k 0 v0 v1 v2 t3 w0 w1 w2 u3) (decide (t3 = u3)) := by
  have key : ∀ (m i : Nat), i + m = t3.length → Ev (fun k => tabardref12_Same.l0 k (i : Int) v0 v1 v2 t3 w0 w1 w2 u3) (decide (t3.drop i = u3.drop i)) := by
    intro m
    induction m with
    | zero =>
      intro i hi
      refine Ev.step (fun k => by rw [tabardref12_Same.l0]) (Ev.ncond (by omega) (Ev.fin ?_))
      rw [List.drop_eq_nil_of_le (by omega), List.drop_eq_nil_of_le (by omega)]; exact (decide_eq_true rfl).symm
    | succ m ih =>
      intro i hi
      refine Ev.step (fun k => by rw [tabardref12_Same.l0]) (Ev.cond (by omega) (Ev.cond (by omega) (Ev.cond (by omega) ?_)))
      refine Ev.ite (fun c => Ev.fin ?_) (fun c => ?_)
      · exact (decide_eq_false (fun e => ((ne_S _ _).1 c) ((zal t3 u3 (by omega) (by omega)).1 e).1)).symm
      · rw [w64 (by omega) (by omega)]
        have := ih (i + 1) (by omega)
        rwa [decide_eq_decide.2 ((zal t3 u3 (by omega) (by omega)).trans (and_iff_right (eq_S c)))]
  exact key t3.length 0 (by omega)
theorem zc6 (h0 : t0.length ≤ 9000000000000000000) (h1 : t1.length ≤ 9000000000000000000) (h2 : t2.length ≤ 9000000000000000000) (h3 : t3.length ≤ 9000000000000000000) :
    Ev (fun k => tabardref12_Same.f k t0 t1 t2 t3 u0 u1 u2 u3) (decide (t0 = u0 ∧ t1 = u1 ∧ t2 = u2 ∧ t3 = u3)) := by
  rw [and4]
  have no : ∀ {x : Bool}, x = false → Ev (fun k => tabardref12_Same.j0 k true t0 t1 t2 t3 u0 u1 u2 u3) x := fun e => e ▸ Ev.step (fun k => by rw [tabardref12_Same.j0]) (Ev.cond rfl (Ev.fin rfl))
  refine Ev.congr (fun k => by rw [tabardref12_Same.f]) (Ev.bind (zdj t0 u0 h0) ?_)
  by_cases c0 : t0 = u0
  · rw [decide_eq_true c0]
    refine Ev.cond rfl (Ev.bind (zdr t1 u1 h1) ?_)
    by_cases c1 : t1 = u1
    · rw [decide_eq_true c1]
      refine Ev.cond rfl (Ev.bind (zdi t2 u2 h2) ?_)
      by_cases c2 : t2 = u2
      · rw [decide_eq_true c2]
        refine Ev.cond rfl ?_
        by_cases c3 : t3.length = u3.length
        · rw [show ((t3.length : Int) != (u3.length : Int)) = false by simp [c3]]
          exact Ev.step (fun k => by rw [tabardref12_Same.j0]) (Ev.ncond (by decide) (zcl h3 c3))
        · rw [show ((t3.length : Int) != (u3.length : Int)) = true from bne_iff_ne.2 (by omega), decide_eq_false (fun e => c3 (by rw [e]))]
          exact no rfl
      · rw [decide_eq_false c2]; exact Ev.ncond (by decide) (no rfl)
    · rw [decide_eq_false c1]; exact Ev.ncond (by decide) (no rfl)
  · rw [decide_eq_false c0]; exact Ev.ncond (by decide) (no rfl)
theorem zdg (h0 : t0.length * 16 ≤ 140737488351232) (h1 : t1.length * 1 ≤ 140737488351232) (h2 : t2.length * 8 ≤ 140737488351232) (h3 : t3.length * 24 ≤ 140737488351232) :
    tabardref12_Copy.f t0 t1 t2 t3 = some (t0, t1, t2, t3) := by
  unfold tabardref12_Copy.f
  simp only [Option.bind_some, List.nil_append, List.length_nil]
  rw [if_pos (by omega), if_pos (by omega), if_pos (by omega), if_pos (by omega)]
end
end Go.Proofs.Ytninoenmhcbonaa.Pure
namespace Go.Proofs.Ytninoenmhcbonaa.Pure
open Go.RowKit Go.Proofs.YtninoenmhcbonaaW.PrintWords Go.Proofs.YtninoenmhcbonaaW.PrintLast Go.Proofs.YtninoenmhcbonaaW.PrintMore Go.Proofs.Ytninoenmhcbonaa.X
set_option linter.unusedVariables false
def zae (r : Int) : Bool := decide ((65 ≤ r ∧ r ≤ 90) ∨ (97 ≤ r ∧ r ≤ 122) ∨ r = 95 ∨ (913 ≤ r ∧ r ≤ 929) ∨ (931 ≤ r ∧ r ≤ 937) ∨ (945 ≤ r ∧ r ≤ 969))
def zaw (r : Int) : Bool := zae r || decide ((48 ≤ r ∧ r ≤ 57) ∨ r = 8242 ∨ (8320 ≤ r ∧ r ≤ 8329))
theorem zb7 (r : Int) (b : Bool) : Ev (fun k => glyph_Start.j3 k r b) (b || decide (945 ≤ r ∧ r ≤ 969)) := by
  cases b
  · refine Ev.step (fun k => by rw [glyph_Start.j3]) (Ev.ncond (by decide) (Ev.ite (fun h => Ev.ite (fun g => Ev.fin ?_) (fun g => Ev.fin ?_)) (fun h => Ev.fin ?_))) <;> simp <;> omega
  · rw [Bool.true_or]; exact Ev.step (fun k => by rw [glyph_Start.j3]) (Ev.cond rfl (Ev.fin rfl))
theorem zbz (r : Int) (b : Bool) : Ev (fun k => glyph_Start.j2 k r b) (b || decide ((931 ≤ r ∧ r ≤ 937) ∨ (945 ≤ r ∧ r ≤ 969))) := by
  cases b
  · refine Ev.step (fun k => by rw [glyph_Start.j2]) (Ev.ncond (by decide) (Ev.ite (fun h => ?_) (fun h => ?_)))
    · have := zb7 r (decide (r ≤ 937))
      rwa [show (decide (r ≤ 937) || decide (945 ≤ r ∧ r ≤ 969)) = (false || decide ((931 ≤ r ∧ r ≤ 937) ∨ (945 ≤ r ∧ r ≤ 969))) by rw [Bool.eq_iff_iff]; simp; omega] at this
    · have := zb7 r false
      rwa [show (false || decide (945 ≤ r ∧ r ≤ 969)) = (false || decide ((931 ≤ r ∧ r ≤ 937) ∨ (945 ≤ r ∧ r ≤ 969))) by rw [Bool.eq_iff_iff]; simp; omega] at this
  · rw [Bool.true_or]; exact Ev.step (fun k => by rw [glyph_Start.j2]) (Ev.cond rfl (Ev.fin rfl))
theorem zaz (r : Int) (b : Bool) : Ev (fun k => glyph_Start.j1 k r b) (b || decide ((913 ≤ r ∧ r ≤ 929) ∨ (931 ≤ r ∧ r ≤ 937) ∨ (945 ≤ r ∧ r ≤ 969))) := by
  cases b
  · refine Ev.step (fun k => by rw [glyph_Start.j1]) (Ev.ncond (by decide) (Ev.ite (fun h => ?_) (fun h => ?_)))
    · have := zbz r (decide (r ≤ 929))
      rwa [show (decide (r ≤ 929) || decide ((931 ≤ r ∧ r ≤ 937) ∨ (945 ≤ r ∧ r ≤ 969))) = (false || decide ((913 ≤ r ∧ r ≤ 929) ∨ (931 ≤ r ∧ r ≤ 937) ∨ (945 ≤ r ∧ r ≤ 969))) by rw [Bool.eq_iff_iff]; simp; omega] at this
    · have := zbz r false
      rwa [show (false || decide ((931 ≤ r ∧ r ≤ 937) ∨ (945 ≤ r ∧ r ≤ 969))) = (false || decide ((913 ≤ r ∧ r ≤ 929) ∨ (931 ≤ r ∧ r ≤ 937) ∨ (945 ≤ r ∧ r ≤ 969))) by rw [Bool.eq_iff_iff]; simp; omega] at this
  · rw [Bool.true_or]; exact Ev.step (fun k => by rw [glyph_Start.j1]) (Ev.cond rfl (Ev.fin rfl))
theorem zb1 (r : Int) (b : Bool) : Ev (fun k => glyph_Start.j0 k r b) (b || decide ((97 ≤ r ∧ r ≤ 122) ∨ r = 95 ∨ (913 ≤ r ∧ r ≤ 929) ∨ (931 ≤ r ∧ r ≤ 937) ∨ (945 ≤ r ∧ r ≤ 969))) := by
  cases b
  · refine Ev.step (fun k => by rw [glyph_Start.j0]) (Ev.ncond (by decide) (Ev.ite (fun h => Ev.ite (fun g => ?_) (fun g => ?_)) (fun h => ?_)))
    · have := zaz r (decide (r ≤ 122))
      rwa [show (decide (r ≤ 122) || decide ((913 ≤ r ∧ r ≤ 929) ∨ (931 ≤ r ∧ r ≤ 937) ∨ (945 ≤ r ∧ r ≤ 969))) = (false || decide ((97 ≤ r ∧ r ≤ 122) ∨ r = 95 ∨ (913 ≤ r ∧ r ≤ 929) ∨ (931 ≤ r ∧ r ≤ 937) ∨ (945 ≤ r ∧ r ≤ 969))) by rw [Bool.eq_iff_iff]; simp; omega] at this
    · have := zaz r (r == 95)
      rwa [show ((r == 95) || decide ((913 ≤ r ∧ r ≤ 929) ∨ (931 ≤ r ∧ r ≤ 937) ∨ (945 ≤ r ∧ r ≤ 969))) = (false || decide ((97 ≤ r ∧ r ≤ 122) ∨ r = 95 ∨ (913 ≤ r ∧ r ≤ 929) ∨ (931 ≤ r ∧ r ≤ 937) ∨ (945 ≤ r ∧ r ≤ 969))) by rw [Bool.eq_iff_iff]; simp; omega] at this
    · have := zaz r (r == 95)
      rwa [show ((r == 95) || decide ((913 ≤ r ∧ r ≤ 929) ∨ (931 ≤ r ∧ r ≤ 937) ∨ (945 ≤ r ∧ r ≤ 969))) = (false || decide ((97 ≤ r ∧ r ≤ 122) ∨ r = 95 ∨ (913 ≤ r ∧ r ≤ 929) ∨ (931 ≤ r ∧ r ≤ 937) ∨ (945 ≤ r ∧ r ≤ 969))) by rw [Bool.eq_iff_iff]; simp; omega] at this
  · have := zaz r true
    exact Ev.step (fun k => by rw [glyph_Start.j0]) (Ev.cond rfl this)
theorem zbt (r : Int) : Ev (fun k => glyph_Start.f k r) (zae r) := by
  refine Ev.congr (fun k => by rw [glyph_Start.f]) (Ev.ite (fun h => ?_) (fun h => ?_))
  · have := zb1 r (decide (r ≤ 90))
    rwa [show (decide (r ≤ 90) || decide ((97 ≤ r ∧ r ≤ 122) ∨ r = 95 ∨ (913 ≤ r ∧ r ≤ 929) ∨ (931 ≤ r ∧ r ≤ 937) ∨ (945 ≤ r ∧ r ≤ 969))) = zae r by rw [zae, Bool.eq_iff_iff]; simp; omega] at this
  · have := zb1 r false
    rwa [show (false || decide ((97 ≤ r ∧ r ≤ 122) ∨ r = 95 ∨ (913 ≤ r ∧ r ≤ 929) ∨ (931 ≤ r ∧ r ≤ 937) ∨ (945 ≤ r ∧ r ≤ 969))) = zae r by rw [zae, Bool.eq_iff_iff]; simp; omega] at this
theorem zd4 (r : Int) : Ev (fun k => glyph_Rest.f k r) (zaw r) := by
  refine Ev.congr (fun k => by rw [glyph_Rest.f]) (Ev.bind (zbt r) ?_)
  rw [zaw]
  cases zae r
  · refine Ev.ncond (by decide) (Ev.ite (fun h => Ev.ite (fun g => Ev.fin ?_) (fun g => Ev.ite (fun z => Ev.fin ?_) (fun z => Ev.ite (fun y => Ev.fin ?_) (fun y => Ev.fin ?_)))) (fun h => Ev.ite (fun z => Ev.fin ?_) (fun z => Ev.ite (fun y => Ev.fin ?_) (fun y => Ev.fin ?_)))) <;> rw [Bool.false_or, Bool.eq_iff_iff] <;> simp <;> omega
  · exact Ev.cond rfl (Ev.fin rfl)
def resB (s : ByteArray) : Bool := decide (s.toList ∈ [[97, 110, 100], [111, 114], [110, 111, 116], [101, 120], [97, 108, 108], [109, 111, 100], [116, 114, 117, 101], [102, 97, 108, 115, 101]])
theorem res_eq (s : ByteArray) : glyph_Reserved.f s = some (resB s) := by
  unfold glyph_Reserved.f resB
  simp only [List.mem_cons, List.not_mem_nil, or_false]
  repeat' split
  all_goals simp_all
theorem zbm (s : ByteArray) (pos : Nat) (h : pos < s.size) : 1 ≤ (Utf8.decode s pos).2 := by
  by_cases ha : (s[pos]'h).toNat < 128
  · rw [decode_ascii s pos h ha]
    exact Nat.le_refl _
  · exact (decode_high s pos h (by omega)).2
def zas : Nat → ByteArray → Nat → Nat → Bool
  | 0, s, _, n => decide (1 ≤ n ∧ n ≤ 16) && !resB s
  | m + 1, s, p, n =>
    if p < s.size then (if (n = 0 → zae ((Utf8.decode s p).1 : Int) = true) ∧ zaw ((Utf8.decode s p).1 : Int) = true then zas m s (p + (Utf8.decode s p).2) (n + 1) else false)
    else decide (1 ≤ n ∧ n ≤ 16) && !resB s
def zcu (s : ByteArray) : Bool := zas s.size s 0 0
theorem zb2 (s : ByteArray) (n : Nat) : Ev (fun k => if (n : Int) > 0 then (if (n : Int) ≤ 16 then (glyph_Reserved.f s).bind fun t => some (!t) else some false) else some false) (decide (1 ≤ n ∧ n ≤ 16) && !resB s) := by
  by_cases h1 : 1 ≤ n
  · by_cases h2 : n ≤ 16
    · refine Ev.cond (by omega) (Ev.cond (by omega) ?_)
      rw [decide_eq_true ⟨h1, h2⟩, Bool.true_and]
      exact Ev.ret (res_eq s) (Ev.fin rfl)
    · rw [decide_eq_false (fun e => h2 e.2)]
      exact Ev.cond (by omega) (Ev.ncond (by omega) (Ev.fin rfl))
  · rw [decide_eq_false (fun e => h1 e.1)]
    exact Ev.ncond (by omega) (Ev.fin rfl)
theorem zee (s : ByteArray) (hs : s.size ≤ 9223372036854775807) : Ev (fun k => glyph_Name.f k s) (zcu s) := by
  have key : ∀ (m p n : Nat), s.size ≤ p + m → n ≤ p → (p = 0 ↔ n = 0) → Ev (fun k => glyph_Name.l0 k s p (n : Int)) (zas m s p n) := by
    intro m
    induction m with
    | zero =>
      intro p n hp hn _
      exact Ev.step (fun k => by rw [glyph_Name.l0]) (Ev.ncond (by omega) (zb2 s n))
    | succ m ih =>
      intro p n hp hn hz
      rw [zas]
      by_cases c : p < s.size
      · rw [if_pos c]
        have hw := zbm s p c
        refine Ev.step (fun k => by rw [glyph_Name.l0]) (Ev.cond c ?_)
        have st : Ev (fun k => if p = 0 then glyph_Start.f k ((Utf8.decode s p).1 : Int) else some true) (decide (n = 0 → zae ((Utf8.decode s p).1 : Int) = true)) := by
          refine Ev.ite (fun h => ?_) (fun h => Ev.fin ?_)
          · have n0 := hz.1 h
            rw [show decide (n = 0 → zae ((Utf8.decode s p).1 : Int) = true) = zae ((Utf8.decode s p).1 : Int) by rw [Bool.eq_iff_iff]; simp [n0]]
            exact zbt _
          · have n0 : ¬ n = 0 := fun e => h (hz.2 e)
            exact (decide_eq_true (fun e => absurd e n0)).symm
        refine Ev.bind st (Ev.ite (fun h => Ev.bind (zd4 _) (Ev.ite (fun g => ?_) (fun g => Ev.fin ?_))) (fun h => Ev.fin ?_))
        · rw [if_pos ⟨of_decide_eq_true h, g⟩, w64 (by omega) (by omega)]
          exact ih (p + (Utf8.decode s p).2) (n + 1) (by omega) (by omega) (by omega)
        · rw [if_neg (fun e => g e.2)]
        · rw [if_neg (fun e => h (decide_eq_true e.1))]
      · rw [if_neg c]
        exact Ev.step (fun k => by rw [glyph_Name.l0]) (Ev.ncond c (zb2 s n))
  exact key s.size 0 0 (by omega) (by omega) (by omega)
def zay (ns : List ByteArray) : Nat → Nat → Bool
  | 0, _ => true
  | m + 1, i => zcu (rdOf ByteArray.empty ns (i : Int)) && ((decide (i = 0) || Op.bytesLess (rdOf ByteArray.empty ns ((i - 1 : Nat) : Int)).toList (rdOf ByteArray.empty ns (i : Int)).toList) && zay ns m (i + 1))
def za9 (ns : List ByteArray) : Bool := zay ns ns.length 0
theorem zb8 (ns : List ByteArray) (hn : ns.length ≤ 9000000000000000000) (hs : ∀ x ∈ ns, x.size ≤ 9223372036854775807) : Ev (fun k => glyph_Rises.f k ns) (za9 ns) := by
  refine Ev.congr (fun k => by rw [glyph_Rises.f]) ?_
  have key : ∀ (m i : Nat), i + m = ns.length → Ev (fun k => glyph_Rises.l0 k ns ns (ns.length : Int) (i : Int)) (zay ns m i) := by
    intro m
    induction m with
    | zero =>
      intro i hi
      refine Ev.step (fun k => by rw [glyph_Rises.l0]) (Ev.ncond (by omega) ?_)
      exact Ev.fin rfl
    | succ m ih =>
      intro i hi
      rw [zay]
      have sz : (rdOf ByteArray.empty ns (i : Int)).size ≤ 9223372036854775807 := by rw [zah _ ns (show i < ns.length by omega)]; exact hs _ (List.getElem_mem _)
      refine Ev.step (fun k => by rw [glyph_Rises.l0]) (Ev.cond (by omega) (Ev.cond (by omega) (Ev.cond (by omega) (Ev.bind (zee _ sz) ?_))))
      refine Ev.ite (fun a => ?_) (fun a => Ev.fin ?_)
      · rw [a, Bool.true_and]
        have nx := ih (i + 1) (by omega)
        refine Ev.ite (fun b => ?_) (fun b => ?_)
        · rw [w64 (x := (i : Int) - 1) (by omega) (by omega), w64 (x := (i : Int) + 1) (by omega) (by omega), show (i : Int) - 1 = ((i - 1 : Nat) : Int) by omega, decide_eq_false (show ¬ i = 0 by omega), Bool.false_or]
          refine Ev.cond (by omega) (Ev.cond (by omega) (Ev.ite (fun c => ?_) (fun c => Ev.fin ?_)))
          · rw [c, Bool.true_and]; exact nx
          · rw [Bool.not_eq_true] at c; rw [c, Bool.false_and]
        · rw [decide_eq_true (show i = 0 by omega), Bool.true_or, Bool.true_and, w64 (by omega) (by omega)]
          exact nx
      · rw [Bool.not_eq_true] at a; rw [a, Bool.false_and]
  exact key ns.length 0 (by omega)
end Go.Proofs.Ytninoenmhcbonaa.Pure
namespace Go.Proofs.Ytninoenmhcbonaa.Pure
open Go.RowKit Go.Proofs.YtninoenmhcbonaaW.PrintWords Go.Proofs.YtninoenmhcbonaaW.PrintLast Go.Proofs.YtninoenmhcbonaaW.PrintMore Go.Proofs.Ytninoenmhcbonaa.X
set_option linter.unusedVariables false
section
variable {a : List Int} {j : Nat}
end
theorem zcr {l : List S73} {t s : Int} {e : Int} (he : e ≠ 0) (h : Ev (fun k => row_Unpack.f k l t) ([], e)) : Ev (fun k => row_Right.f k l t s) false :=
  Ev.congr (fun k => by rw [row_Right.f]) (Ev.bind h (Ev.ncond he (Ev.fin rfl)))
theorem zca {l : List S73} {t s : Int} {R : List Int} (h1 : 1 ≤ R.length) (h2 : R.length ≤ 64) (h : Ev (fun k => row_Unpack.f k l t) (R, 0)) : Ev (fun k => row_Right.f k l t s) (decide (∀ x ∈ R, x < s)) := by
  obtain ⟨r, hr, hs⟩ := max_ev R h1 (by omega)
  refine Ev.congr (fun k => by rw [row_Right.f]) (Ev.bind h ?_)
  refine Ev.cond rfl ?_
  refine Ev.bind hr (Ev.fin ?_)
  exact decide_eq_decide.2 (hs s)
def SZ (ns : List ByteArray) : Prop := ∀ x ∈ ns, x.size ≤ 9223372036854775807
structure Fr (ns : List ByteArray) (n : Nat) : Prop where
  tr : ns.length ≤ 6
  n1 : 1 ≤ n
  n2 : n ≤ 256
  ri : za9 ns = true
section
variable {ns : List ByteArray} {n : Nat}
theorem zbf (hs : SZ ns) (f : Fr ns n) : Ev (fun k => table_tracks.f k ns (n : Int)) true := by
  have := f.tr; have := f.n1; have := f.n2
  refine Ev.congr (fun k => by rw [table_tracks.f]) (Ev.cond (by omega) (Ev.cond (by omega) (Ev.cond (by omega) (Ev.bind (zb8 ns (by omega) hs) (Ev.fin f.ri)))))
theorem zcx (hs : SZ ns) (hn : ¬ Fr ns n) : Ev (fun k => table_tracks.f k ns (n : Int)) false := by
  refine Ev.congr (fun k => by rw [table_tracks.f]) (Ev.ite (fun a => Ev.ite (fun b => Ev.ite (fun c => Ev.bind (zb8 ns (by omega) hs) (Ev.fin ?_)) (fun _ => Ev.fin rfl)) (fun _ => Ev.fin rfl)) (fun _ => Ev.fin rfl))
  cases e : za9 ns
  · rfl
  · exact absurd ⟨by omega, by omega, by omega, e⟩ hn
variable {ac : List Bool} {nx : List (List Int)}
end
section
variable {ns : List ByteArray} {ac : List Bool} {nx : List (List Int)}
end
end Go.Proofs.Ytninoenmhcbonaa.Pure
namespace Go.Proofs.Ytninoenmhcbonaa.Pure
open Go.RowKit Go.Proofs.YtninoenmhcbonaaW.PrintWords Go.Proofs.YtninoenmhcbonaaW.PrintLast Go.Proofs.YtninoenmhcbonaaW.PrintMore Go.Proofs.Ytninoenmhcbonaa.X
set_option linter.unusedVariables false
def cb (st : List Int) (ar : List S73) (q : Nat) : List S73 := (ar.take (rd st ((q + 1 : Nat) : Int)).toNat).drop (rd st (q : Int)).toNat
structure Fm (n : Nat) (st : List Int) (ar : List S73) : Prop where
  sl : st.length = n + 1
  s0 : rd st 0 = 0
  se : rd st (n : Int) = (ar.length : Int)
  so : ∀ i : Nat, i < n → rd st (i : Int) ≤ rd st ((i + 1 : Nat) : Int)
theorem Fm.up {n : Nat} {st : List Int} {ar : List S73} (f : Fm n st ar) : ∀ (d i : Nat), i + d ≤ n → rd st (i : Int) ≤ rd st ((i + d : Nat) : Int) := by
  intro d
  induction d with
  | zero => intro i _; exact Int.le_refl _
  | succ d ih => intro i h; exact Int.le_trans (ih i (by omega)) (f.so (i + d) (by omega))
theorem Fm.bounds {n : Nat} {st : List Int} {ar : List S73} (f : Fm n st ar) {q : Nat} (hq : q ≤ n) : 0 ≤ rd st (q : Int) ∧ rd st (q : Int) ≤ (ar.length : Int) := by
  have a := f.up q 0 (by omega)
  have b := f.up (n - q) q (by omega)
  rw [Nat.zero_add] at a
  rw [show q + (n - q) = n by omega, f.se] at b
  have s0 := f.s0
  have e : rd st ((0 : Nat) : Int) = 0 := s0
  omega
theorem zbw {n : Nat} {ns : List ByteArray} {ac : List Bool} {st : List Int} {ar : List S73} (f : Fm n st ar) (hn : n ≤ 256) {q : Nat} (hq : q < n) : table_rowOf.f ns ac st ar (q : Int) = some (cb st ar q) := by
  have sl := f.sl
  have b0 := f.bounds (show q ≤ n by omega)
  have b1 := f.bounds (show q + 1 ≤ n by omega)
  have so := f.so q hq
  unfold table_rowOf.f
  rw [w64 (x := (q : Int) + 1) (by omega) (by omega), show (q : Int) + 1 = ((q + 1 : Nat) : Int) by omega]
  rw [if_pos (by omega), if_pos (by omega), if_pos (by omega), if_pos (by omega), if_pos b0.1, if_pos so, if_pos b1.2]
  rfl
theorem zbo {n : Nat} {st : List Int} (hl : st.length = n + 1) (hn : n ≤ 256) : Ev (fun k => slices_IsSorted_int_int.f k st) (decide (∀ i : Nat, i < n → rd st (i : Int) ≤ rd st ((i + 1 : Nat) : Int))) := by
  refine Ev.congr (fun k => by rw [slices_IsSorted_int_int.f]) ?_
  have key : ∀ (m : Nat), m ≤ n → Ev (fun k => slices_IsSorted_int_int.l0 k st (m : Int)) (decide (∀ i : Nat, i < m → rd st (i : Int) ≤ rd st ((i + 1 : Nat) : Int))) := by
    intro m
    induction m with
    | zero =>
      intro _
      rw [decide_eq_true (show ∀ i : Nat, i < 0 → rd st (i : Int) ≤ rd st ((i + 1 : Nat) : Int) from fun i hi => absurd hi (by omega))]
      exact Ev.step (fun k => by rw [slices_IsSorted_int_int.l0]) (Ev.ncond (by omega) (Ev.fin rfl))
    | succ m ih =>
      intro hm
      refine Ev.step (fun k => by rw [slices_IsSorted_int_int.l0]) (Ev.cond (by omega) (Ev.cond (by omega) (Ev.cond (by omega) ?_)))
      rw [w64 (by omega) (by omega), show ((m + 1 : Nat) : Int) - 1 = (m : Int) by omega]
      refine Ev.cond (by omega) (Ev.cond (by omega) ?_)
      refine Ev.ret (show cmp_Less_int.f (rd st ((m + 1 : Nat) : Int)) (rd st (m : Int)) = some (decide (rd st ((m + 1 : Nat) : Int) < rd st (m : Int))) by simp [cmp_Less_int.f, cmp_isNaN_int.f]) ?_
      refine Ev.ite (fun c => Ev.fin ?_) (fun c => ?_)
      · have c := of_decide_eq_true c
        exact (decide_eq_false (fun h => by have := h m (by omega); omega)).symm
      · have c : ¬ rd st ((m + 1 : Nat) : Int) < rd st (m : Int) := fun h => c (decide_eq_true h)
        rw [decide_eq_decide.2 (show (∀ i : Nat, i < m + 1 → rd st (i : Int) ≤ rd st ((i + 1 : Nat) : Int)) ↔ (∀ i : Nat, i < m → rd st (i : Int) ≤ rd st ((i + 1 : Nat) : Int)) from
          ⟨fun h i hi => h i (by omega), fun h i hi => by
            by_cases e : i = m
            · subst e; omega
            · exact h i (by omega)⟩)]
        exact ih (by omega)
  have := key n (Nat.le_refl n)
  rw [hl, w64 (by omega) (by omega), show ((n + 1 : Nat) : Int) - 1 = (n : Int) by omega]
  exact this
structure AOk (ns : List ByteArray) (ac : List Bool) (st : List Int) (ar : List S73) : Prop where
  fr : Fr ns ac.length
  fm : Fm ac.length st ar
  len : ∀ q, q < ac.length → (cb st ar q).length ≤ 32
  unp : ∀ q, q < ac.length → UnpOk (cb st ar q) ns.length
  low : ∀ q, q < ac.length → ∀ x ∈ zaa (cb st ar q) (2 ^ ns.length), x < (ac.length : Int)
section
variable {ns : List ByteArray} {ac : List Bool} {st : List Int} {ar : List S73}
theorem row_right {l : List S73} {j : Nat} (hj : j ≤ 6) {s : Int} {e : Int} {f : Nat → Option Int} (hl9 : l.length ≤ 9000000000000000000)
    (yes : (UnpOk l j ∧ ∀ x ∈ zaa l (2 ^ j), x < s) → Ev f e) (no : ¬ (UnpOk l j ∧ ∀ x ∈ zaa l (2 ^ j), x < s) → e = 3) :
    Ev (fun k => (row_Right.f k l (j : Int) s).bind fun t => if t = true then f k else some 3) e := by
  have h6 := pow6 hj
  have hp := Nat.two_pow_pos j
  by_cases u : UnpOk l j
  · refine Ev.bind (zca (by rw [zab]; omega) (by rw [zab]; omega) (zbj u)) (Ev.ite (fun t => yes ⟨u, of_decide_eq_true t⟩) (fun t => Ev.fin (no (fun z => t (decide_eq_true z.2))).symm))
  · refine Ev.bind (zcr (by decide) (zcy hj u hl9)) ?_
    exact Ev.ncond (by decide) (Ev.fin (no (fun z => u z.1)).symm)
theorem zbc (hs : SZ ns) (fr : Fr ns ac.length) (fm : Fm ac.length st ar) (ha : ar.length ≤ 9000000000000000000) {e : Int} :
    ∀ (m i : Nat), i + m = ac.length → (e = 3 ∨ e = 0) →
      (e = 0 → ∀ q, i ≤ q → q < ac.length → (cb st ar q).length ≤ 32 ∧ UnpOk (cb st ar q) ns.length ∧ ∀ x ∈ zaa (cb st ar q) (2 ^ ns.length), x < (ac.length : Int)) →
      (e = 3 → ∃ q, i ≤ q ∧ q < ac.length ∧ ¬ ((cb st ar q).length ≤ 32 ∧ UnpOk (cb st ar q) ns.length ∧ ∀ x ∈ zaa (cb st ar q) (2 ^ ns.length), x < (ac.length : Int))) →
      Ev (fun k => table_Check.l0 k (ac.length : Int) (ac.length : Int) (i : Int) ns ac st ar) e := by
  have n2 := fr.n2
  intro m
  induction m with
  | zero =>
    intro i hi h h0 h3
    refine Ev.step (fun k => by rw [table_Check.l0]) (Ev.ncond (by omega) (Ev.fin ?_))
    rcases h with h | h
    · obtain ⟨q, h1, h2, _⟩ := h3 h; omega
    · exact h.symm
  | succ m ih =>
    intro i hi h h0 h3
    have ii : i < ac.length := by omega
    refine Ev.step (fun k => by rw [table_Check.l0]) (Ev.cond (by omega) ?_)
    refine Ev.ret (zbw fm n2 ii) ?_
    have cl : (cb st ar i).length ≤ 9000000000000000000 := by rw [cb, List.length_drop, List.length_take]; omega
    by_cases big : (cb st ar i).length ≤ 32
    · refine Ev.ncond (by omega) ?_
      rw [w64 (by omega) (by omega)]
      refine row_right fr.tr cl (fun ok => ih (i + 1) (by omega) h (fun z q h1 h2 => h0 z q (by omega) h2) (fun z => ?_)) (fun no => ?_)
      · obtain ⟨q, h1, h2, h4⟩ := h3 z
        by_cases e1 : q = i
        · subst e1; exact absurd ⟨big, ok.1, ok.2⟩ h4
        · exact ⟨q, by omega, h2, h4⟩
      · rcases h with h | h
        · exact h
        · have := h0 h i (Nat.le_refl i) ii; exact absurd this.2 no
    · refine Ev.cond (by omega) (Ev.fin ?_)
      rcases h with h | h
      · exact h.symm
      · exact absurd (h0 h i (Nat.le_refl i) ii).1 big
theorem zdq (hs : SZ ns) (ha : ar.length ≤ 9000000000000000000) (a : AOk ns ac st ar) : Ev (fun k => table_Check.f k ns ac st ar) 0 := by
  have n2 := a.fr.n2
  have sl := a.fm.sl
  refine Ev.congr (fun k => by rw [table_Check.f]) (Ev.bind (zbf hs a.fr) (Ev.cond rfl ?_))
  rw [w64 (by omega) (by omega)]
  refine Ev.cond (by omega) (Ev.cond (by omega) (Ev.cond a.fm.s0 (Ev.cond (by omega) (Ev.cond (by omega) (Ev.cond a.fm.se (Ev.bind (zbo sl n2) ?_))))))
  rw [decide_eq_true a.fm.so]
  refine Ev.step (fun k => by rw [table_Check.j0]) (Ev.ncond (by decide) ?_)
  exact zbc hs a.fr a.fm ha ac.length 0 (by omega) (Or.inr rfl) (fun _ q _ hq => ⟨a.len q hq, a.unp q hq, a.low q hq⟩) (fun h => absurd h (by decide))
theorem zdm (hs : SZ ns) (ha : ar.length ≤ 9000000000000000000) (hc : ac.length ≤ 9000000000000000000) (hst : st.length ≤ 9000000000000000000) (a : ¬ AOk ns ac st ar) : Ev (fun k => table_Check.f k ns ac st ar) 3 := by
  have stop : ∀ {b}, b = true → Ev (fun k => table_Check.j0 k (ac.length : Int) b ns ac st ar) 3 := fun e => e ▸ Ev.step (fun k => by rw [table_Check.j0]) (Ev.cond rfl (Ev.fin rfl))
  by_cases fr : Fr ns ac.length
  · have n2 := fr.n2
    refine Ev.congr (fun k => by rw [table_Check.f]) (Ev.bind (zbf hs fr) (Ev.cond rfl ?_))
    rw [w64 (by omega) (by omega)]
    refine Ev.ite (fun h1 => Ev.cond (by omega) (Ev.ite (fun h2 => Ev.cond (by omega) (Ev.cond (by omega) (Ev.ite (fun h3 => ?_) (fun _ => stop rfl)))) (fun _ => stop rfl))) (fun _ => stop rfl)
    have sl : st.length = ac.length + 1 := by omega
    refine Ev.bind (zbo sl n2) ?_
    by_cases so : ∀ i : Nat, i < ac.length → rd st (i : Int) ≤ rd st ((i + 1 : Nat) : Int)
    · rw [decide_eq_true so]
      have fm : Fm ac.length st ar := ⟨sl, h2, h3, so⟩
      refine Ev.step (fun k => by rw [table_Check.j0]) (Ev.ncond (by decide) ?_)
      refine zbc hs fr fm ha ac.length 0 (by omega) (Or.inl rfl) (fun h => absurd h (by decide)) (fun _ => ?_)
      refine Classical.byContradiction fun c => a ⟨fr, fm, fun q hq => ?_, fun q hq => ?_, fun q hq => ?_⟩
      · exact Classical.byContradiction fun z => c ⟨q, by omega, hq, fun y => z y.1⟩
      · exact Classical.byContradiction fun z => c ⟨q, by omega, hq, fun y => z y.2.1⟩
      · exact Classical.byContradiction fun z => c ⟨q, by omega, hq, fun y => z y.2.2⟩
    · rw [decide_eq_false so]; exact stop rfl
  · refine Ev.congr (fun k => by rw [table_Check.f]) (Ev.bind (zcx hs fr) ?_)
    exact Ev.ncond (by decide) (stop rfl)
end
end Go.Proofs.Ytninoenmhcbonaa.Pure
namespace Go.Proofs.Ytninoenmhcbonaa.Pure
open Go.RowKit Go.Proofs.YtninoenmhcbonaaW.PrintWords Go.Proofs.YtninoenmhcbonaaW.PrintLast Go.Proofs.YtninoenmhcbonaaW.PrintMore Go.Proofs.Ytninoenmhcbonaa.X
set_option linter.unusedVariables false
def zax (r : Int) : List Int → Bool
  | a :: b :: t => decide (a ≤ r ∧ r ≤ b) || zax r t
  | _ => false
theorem zde (r : Int) (l : List Int) (hl : l.length ≤ 1000) : ∀ (m i : Nat), i + 2 * m = l.length → Ev (fun k => tabardref04_within.l0 k r l (i : Int)) (zax r (l.drop i)) := by
  intro m
  induction m with
  | zero =>
    intro i hi
    rw [List.drop_eq_nil_of_le (by omega)]
    refine Ev.step (fun k => by rw [tabardref04_within.l0]) (Ev.ncond (by rw [w64 (by omega) (by omega)]; omega) ?_)
    exact Ev.fin rfl
  | succ m ih =>
    intro i hi
    have h1 : i < l.length := by omega
    have h2 : i + 1 < l.length := by omega
    have q := ih (i + 2) (by omega)
    rw [List.drop_eq_getElem_cons h1, List.drop_eq_getElem_cons h2, zax]
    refine Ev.step (fun k => by rw [tabardref04_within.l0]) ?_
    rw [w64 (x := (i : Int) + 1) (by omega) (by omega), w64 (x := (i : Int) + 2) (by omega) (by omega), show (i : Int) + 1 = ((i + 1 : Nat) : Int) by omega, zbb l h1, zbb l h2]
    refine Ev.cond (by omega) (Ev.cond (by omega) (Ev.cond (by omega) (Ev.ite (fun a => Ev.cond (by omega) (Ev.ite (fun b => Ev.fin ?_) (fun b => ?_))) (fun a => ?_))))
    · rw [decide_eq_true (show l[i] ≤ r ∧ r ≤ l[i + 1] from ⟨a, b⟩), Bool.true_or]
    · rw [decide_eq_false (show ¬ (l[i] ≤ r ∧ r ≤ l[i + 1]) from fun z => b z.2), Bool.false_or]; exact q
    · rw [decide_eq_false (show ¬ (l[i] ≤ r ∧ r ≤ l[i + 1]) from fun z => a z.1), Bool.false_or]; exact q
theorem zb5 (r : Int) (l : List Int) (m : Nat) (hl : l.length ≤ 1000) (hm : 0 + 2 * m = l.length) : Ev (fun k => tabardref04_within.f k r l) (zax r l) := by
  have := zde r l hl m 0 hm
  rw [List.drop_zero] at this
  exact Ev.congr (fun k => by rw [tabardref04_within.f]; rfl) this
theorem zbn (r : Int) : Ev (fun k => tabardref04_Start.f k r) (zae r) := by
  refine Ev.congr (fun k => by rw [tabardref04_Start.f]) (Ev.bind (zb5 r [65, 90, 97, 122, 95, 95, 913, 929, 931, 937, 945, 969] 6 (by decide) (by decide)) (Ev.fin ?_))
  simp only [zax, zae]
  rw [Bool.eq_iff_iff]; simp; omega
theorem zds (r : Int) : Ev (fun k => tabardref04_Rest.f k r) (zaw r) := by
  refine Ev.congr (fun k => by rw [tabardref04_Rest.f]) (Ev.bind (zbn r) ?_)
  rw [zaw]
  cases zae r
  · refine Ev.ncond (by decide) (Ev.bind (zb5 r [48, 57, 8242, 8242, 8320, 8329] 3 (by decide) (by decide)) (Ev.fin ?_))
    simp only [zax]
    rw [Bool.eq_iff_iff]; simp; omega
  · exact Ev.cond rfl (Ev.fin rfl)
theorem zd7 (s : ByteArray) : Ev (fun k => tabardref04_Reserved.f k s) (resB s) := by
  refine Ev.congr (fun k => by rw [tabardref04_Reserved.f]) ?_
  have key : ∀ (L : List ByteArray) (hL : L.length ≤ 100) (m i : Nat), i + m = L.length → Ev (fun k => tabardref04_Reserved.l0 k s L (i : Int)) (decide (∃ x ∈ L.drop i, x.toList = s.toList)) := by
    intro L hL m
    induction m with
    | zero =>
      intro i hi
      rw [List.drop_eq_nil_of_le (by omega)]
      refine Ev.step (fun k => by rw [tabardref04_Reserved.l0]) (Ev.ncond (by omega) (Ev.fin ?_))
      simp
    | succ m ih =>
      intro i hi
      have h1 : i < L.length := by omega
      rw [List.drop_eq_getElem_cons h1]
      refine Ev.step (fun k => by rw [tabardref04_Reserved.l0]) (Ev.cond (by omega) (Ev.cond (by omega) ?_))
      rw [zah _ L h1, w64 (by omega) (by omega)]
      refine Ev.ite (fun c => Ev.fin ?_) (fun c => ?_)
      · exact (decide_eq_true ⟨_, List.mem_cons_self .., c⟩).symm
      · have q := ih (i + 1) (by omega)
        rw [decide_eq_decide.2 (show (∃ x ∈ L[i] :: L.drop (i + 1), x.toList = s.toList) ↔ (∃ x ∈ L.drop (i + 1), x.toList = s.toList) from ⟨fun ⟨x, hx, e⟩ => by
          rcases List.mem_cons.1 hx with rfl | h
          · exact absurd e c
          · exact ⟨x, h, e⟩, fun ⟨x, hx, e⟩ => ⟨x, List.mem_cons_of_mem _ hx, e⟩⟩)]
        exact q
  have := key ([(⟨#[97, 110, 100]⟩ : ByteArray), (⟨#[111, 114]⟩ : ByteArray), (⟨#[110, 111, 116]⟩ : ByteArray), (⟨#[101, 120]⟩ : ByteArray), (⟨#[97, 108, 108]⟩ : ByteArray), (⟨#[109, 111, 100]⟩ : ByteArray), (⟨#[116, 114, 117, 101]⟩ : ByteArray), (⟨#[102, 97, 108, 115, 101]⟩ : ByteArray)] : List ByteArray) (by simp) 8 0 (by simp)
  rw [show resB s = decide (∃ x ∈ List.drop 0 ([(⟨#[97, 110, 100]⟩ : ByteArray), (⟨#[111, 114]⟩ : ByteArray), (⟨#[110, 111, 116]⟩ : ByteArray), (⟨#[101, 120]⟩ : ByteArray), (⟨#[97, 108, 108]⟩ : ByteArray), (⟨#[109, 111, 100]⟩ : ByteArray), (⟨#[116, 114, 117, 101]⟩ : ByteArray), (⟨#[102, 97, 108, 115, 101]⟩ : ByteArray)] : List ByteArray), x.toList = s.toList) from by
    rw [resB]
    apply decide_eq_decide.2
    simp only [List.drop_zero, List.mem_cons, List.not_mem_nil, or_false, exists_eq_or_imp, exists_eq_left, ByteArray.toList_eq]
    simp only [eq_comm]]
  exact this
end Go.Proofs.Ytninoenmhcbonaa.Pure
namespace Go.Proofs.Ytninoenmhcbonaa.Pure
open Go.RowKit Go.Proofs.YtninoenmhcbonaaW.PrintWords Go.Proofs.YtninoenmhcbonaaW.PrintLast Go.Proofs.YtninoenmhcbonaaW.PrintMore Go.Proofs.Ytninoenmhcbonaa.X
set_option linter.unusedVariables false
theorem zdd (s : ByteArray) {q : Nat} (h : q < s.size) : bt s (q : Int) = ((s.get! q).toNat : Int) := by
  have e := bt_at s (q : Int) (by simpa using h)
  rw [← e]
  simp only [Int.toNat_natCast]
  rw [← get_at s q h]; rfl
theorem zag (s : ByteArray) (q : Nat) : (s.get! q).toNat < 256 := (s.get! q).toNat_lt
def Fits (d : Nat × Nat) (r : Int × Int × Bool) : Prop := (r.2.2 = true ∧ r.1 = (d.1 : Int) ∧ r.2.1 = (d.2 : Int)) ∨ (r.2.2 = false ∧ d = (65533, 1))
section
variable {s : ByteArray} {p : Nat}
theorem za6 {X w L : Int} {i : Int} (hi : ¬ i < w) : ∃ r, Ev (fun k => tabardref04_Read.l0 k s (p : Int) X w L i) r ∧ ((r = (X, w, true) ∧ L ≤ X ∧ X ≤ 1114111 ∧ ¬ (55296 ≤ X ∧ X ≤ 57343)) ∨ (r = (65533, 1, false) ∧ ¬ (L ≤ X ∧ X ≤ 1114111 ∧ ¬ (55296 ≤ X ∧ X ≤ 57343)))) := by
  by_cases h1 : X < L
  · exact ⟨_, Ev.step (fun k => by rw [tabardref04_Read.l0]) (Ev.ncond hi (Ev.cond h1 (Ev.fin rfl))), Or.inr ⟨rfl, by omega⟩⟩
  by_cases h2 : X > 1114111
  · exact ⟨_, Ev.step (fun k => by rw [tabardref04_Read.l0]) (Ev.ncond hi (Ev.ncond h1 (Ev.cond h2 (Ev.fin rfl)))), Or.inr ⟨rfl, by omega⟩⟩
  by_cases h3 : X ≥ 55296
  · by_cases h4 : X ≤ 57343
    · exact ⟨_, Ev.step (fun k => by rw [tabardref04_Read.l0]) (Ev.ncond hi (Ev.ncond h1 (Ev.ncond h2 (Ev.cond h3 (Ev.cond h4 (Ev.fin rfl)))))), Or.inr ⟨rfl, by omega⟩⟩
    · exact ⟨_, Ev.step (fun k => by rw [tabardref04_Read.l0]) (Ev.ncond hi (Ev.ncond h1 (Ev.ncond h2 (Ev.cond h3 (Ev.ncond h4 (Ev.fin rfl)))))), Or.inl ⟨rfl, by omega⟩⟩
  · exact ⟨_, Ev.step (fun k => by rw [tabardref04_Read.l0]) (Ev.ncond hi (Ev.ncond h1 (Ev.ncond h2 (Ev.ncond h3 (Ev.fin rfl))))), Or.inl ⟨rfl, by omega⟩⟩
theorem zaj (hs : s.size ≤ 9223372036854775807) {X w L : Int} {i : Nat} (hi : (i : Int) < w) (hX : 0 ≤ X) (hX2 : X ≤ 20000000) (h : p + i < s.size) :
    (¬ (128 ≤ (s.get! (p + i)).toNat ∧ (s.get! (p + i)).toNat ≤ 191) ∧ Ev (fun k => tabardref04_Read.l0 k s (p : Int) X w L (i : Int)) (65533, 1, false)) ∨
    ((128 ≤ (s.get! (p + i)).toNat ∧ (s.get! (p + i)).toNat ≤ 191) ∧ ∀ r, Ev (fun k => tabardref04_Read.l0 k s (p : Int) (X * 64 + ((s.get! (p + i)).toNat : Int) - 128) w L ((i + 1 : Nat) : Int)) r → Ev (fun k => tabardref04_Read.l0 k s (p : Int) X w L (i : Int)) r) := by
  have b := zag s (p + i)
  have e : wrap64 ((p : Int) + (i : Int)) = ((p + i : Nat) : Int) := by rw [w64 (by omega) (by omega)]; omega
  have e2 : wrap64 (bt s ((p + i : Nat) : Int)) = ((s.get! (p + i)).toNat : Int) := by rw [zdd s h, w64 (by omega) (by omega)]
  by_cases h1 : (s.get! (p + i)).toNat < 128
  · refine Or.inl ⟨by omega, Ev.step (fun k => by rw [tabardref04_Read.l0]) (Ev.cond hi ?_)⟩
    rw [e, e2]
    exact Ev.cond (by omega) (Ev.cond (by omega) (Ev.cond (by omega) (Ev.fin rfl)))
  by_cases h2 : (s.get! (p + i)).toNat > 191
  · refine Or.inl ⟨by omega, Ev.step (fun k => by rw [tabardref04_Read.l0]) (Ev.cond hi ?_)⟩
    rw [e, e2]
    exact Ev.cond (by omega) (Ev.cond (by omega) (Ev.ncond (by omega) (Ev.cond (by omega) (Ev.fin rfl))))
  · refine Or.inr ⟨by omega, fun r hr => Ev.step (fun k => by rw [tabardref04_Read.l0]) (Ev.cond hi ?_)⟩
    rw [e, e2, w64 (x := X * 64) (by omega) (by omega), w64 (x := X * 64 + ((s.get! (p + i)).toNat : Int)) (by omega) (by omega), w64 (x := X * 64 + ((s.get! (p + i)).toNat : Int) - 128) (by omega) (by omega), w64 (x := (i : Int) + 1) (by omega) (by omega)]
    exact Ev.cond (by omega) (Ev.cond (by omega) (Ev.ncond (by omega) (Ev.ncond (by omega) hr)))
theorem zdw (hs : s.size ≤ 9223372036854775807) (hp : p < s.size) (h0 : 194 ≤ (s.get! p).toNat ∧ (s.get! p).toNat < 224) :
    ∃ r, Ev (fun k => tabardref04_Read.j2 k s (p : Int) (((s.get! p).toNat : Int) - 192) 2 128) r ∧ Fits (Go.Lib.decodeN (s.size - p) (s.get! p).toNat (s.get! (p + 1)).toNat (s.get! (p + 2)).toNat (s.get! (p + 3)).toNat) r := by
  have g1 := zag s (p + 1); have g2 := zag s (p + 2); have g3 := zag s (p + 3)
  by_cases c : s.size - p < 2
  · refine ⟨_, Ev.step (fun k => by rw [tabardref04_Read.j2]) (Ev.cond (by rw [w64 (by omega) (by omega)]; omega) (Ev.fin rfl)), Or.inr ⟨rfl, ?_⟩⟩
    unfold Go.Lib.decodeN; repeat' split
    all_goals first | (exfalso; omega) | rfl
  · have go : ∀ r, Ev (fun k => tabardref04_Read.l0 k s (p : Int) (((s.get! p).toNat : Int) - 192) 2 128 1) r → Ev (fun k => tabardref04_Read.j2 k s (p : Int) (((s.get! p).toNat : Int) - 192) 2 128) r :=
      by
        intro r h
        refine Ev.step (fun k => by rw [tabardref04_Read.j2]) (Ev.ncond ?_ h)
        rw [w64 (by omega) (by omega)]; omega
    rcases zaj (X := ((s.get! p).toNat : Int) - 192) (w := 2) (L := 128) (i := 1) hs (by omega) (by omega) (by omega) (show p + 1 < s.size by omega) with ⟨bad, e⟩ | ⟨ok1, k1⟩
    · refine ⟨_, go _ e, Or.inr ⟨rfl, ?_⟩⟩
      unfold Go.Lib.decodeN; repeat' split
      all_goals first | (exfalso; omega) | rfl
    · obtain ⟨r, hr, hc⟩ := za6 (s := s) (p := p) (X := (((s.get! p).toNat : Int) - 192) * 64 + ((s.get! (p + 1)).toNat : Int) - 128) (w := 2) (L := 128) (i := ((1 + 1 : Nat) : Int)) (by omega)
      refine ⟨r, go _ (k1 r hr), ?_⟩
      rcases hc with ⟨rfl, hc⟩ | ⟨rfl, hc⟩
      · have d : Go.Lib.decodeN (s.size - p) (s.get! p).toNat (s.get! (p + 1)).toNat (s.get! (p + 2)).toNat (s.get! (p + 3)).toNat = ((s.get! p).toNat % 32 * 64 + (s.get! (p + 1)).toNat % 64, 2) := by
          unfold Go.Lib.decodeN; repeat' split
          all_goals first | (exfalso; omega) | rfl
        rw [d]; exact Or.inl ⟨rfl, by simp only []; omega, rfl⟩
      · refine Or.inr ⟨rfl, ?_⟩
        unfold Go.Lib.decodeN; repeat' split
        all_goals first | (exfalso; omega) | rfl
theorem zd2 (hs : s.size ≤ 9223372036854775807) (hp : p < s.size) (h0 : 224 ≤ (s.get! p).toNat ∧ (s.get! p).toNat < 240) :
    ∃ r, Ev (fun k => tabardref04_Read.j2 k s (p : Int) (((s.get! p).toNat : Int) - 224) 3 2048) r ∧ Fits (Go.Lib.decodeN (s.size - p) (s.get! p).toNat (s.get! (p + 1)).toNat (s.get! (p + 2)).toNat (s.get! (p + 3)).toNat) r := by
  have g1 := zag s (p + 1); have g2 := zag s (p + 2); have g3 := zag s (p + 3)
  by_cases c : s.size - p < 3
  · refine ⟨_, Ev.step (fun k => by rw [tabardref04_Read.j2]) (Ev.cond (by rw [w64 (by omega) (by omega)]; omega) (Ev.fin rfl)), Or.inr ⟨rfl, ?_⟩⟩
    unfold Go.Lib.decodeN; repeat' split
    all_goals first | (exfalso; omega) | rfl
  · have go : ∀ r, Ev (fun k => tabardref04_Read.l0 k s (p : Int) (((s.get! p).toNat : Int) - 224) 3 2048 1) r → Ev (fun k => tabardref04_Read.j2 k s (p : Int) (((s.get! p).toNat : Int) - 224) 3 2048) r :=
      by
        intro r h
        refine Ev.step (fun k => by rw [tabardref04_Read.j2]) (Ev.ncond ?_ h)
        rw [w64 (by omega) (by omega)]; omega
    rcases zaj (X := ((s.get! p).toNat : Int) - 224) (w := 3) (L := 2048) (i := 1) hs (by omega) (by omega) (by omega) (show p + 1 < s.size by omega) with ⟨bad, e⟩ | ⟨ok1, k1⟩
    · refine ⟨_, go _ e, Or.inr ⟨rfl, ?_⟩⟩
      unfold Go.Lib.decodeN; repeat' split
      all_goals first | (exfalso; omega) | rfl
    rcases zaj (X := (((s.get! p).toNat : Int) - 224) * 64 + ((s.get! (p + 1)).toNat : Int) - 128) (w := 3) (L := 2048) (i := 2) hs (by omega) (by omega) (by omega) (show p + 2 < s.size by omega) with ⟨bad, e⟩ | ⟨ok2, k2⟩
    · refine ⟨_, go _ (k1 _ e), Or.inr ⟨rfl, ?_⟩⟩
      unfold Go.Lib.decodeN; repeat' split
      all_goals first | (exfalso; omega) | rfl
    · obtain ⟨r, hr, hc⟩ := za6 (s := s) (p := p) (X := ((((s.get! p).toNat : Int) - 224) * 64 + ((s.get! (p + 1)).toNat : Int) - 128) * 64 + ((s.get! (p + 2)).toNat : Int) - 128) (w := 3) (L := 2048) (i := ((2 + 1 : Nat) : Int)) (by omega)
      refine ⟨r, go _ (k1 _ (k2 r hr)), ?_⟩
      rcases hc with ⟨rfl, hc⟩ | ⟨rfl, hc⟩
      · have d : Go.Lib.decodeN (s.size - p) (s.get! p).toNat (s.get! (p + 1)).toNat (s.get! (p + 2)).toNat (s.get! (p + 3)).toNat = ((s.get! p).toNat % 16 * 4096 + (s.get! (p + 1)).toNat % 64 * 64 + (s.get! (p + 2)).toNat % 64, 3) := by
          unfold Go.Lib.decodeN; repeat' split
          all_goals first | (exfalso; omega) | rfl
        rw [d]; exact Or.inl ⟨rfl, by simp only []; omega, rfl⟩
      · refine Or.inr ⟨rfl, ?_⟩
        unfold Go.Lib.decodeN; repeat' split
        all_goals first | (exfalso; omega) | rfl
theorem zd5 (hs : s.size ≤ 9223372036854775807) (hp : p < s.size) (h0 : 240 ≤ (s.get! p).toNat ∧ (s.get! p).toNat < 245) :
    ∃ r, Ev (fun k => tabardref04_Read.j2 k s (p : Int) (((s.get! p).toNat : Int) - 240) 4 65536) r ∧ Fits (Go.Lib.decodeN (s.size - p) (s.get! p).toNat (s.get! (p + 1)).toNat (s.get! (p + 2)).toNat (s.get! (p + 3)).toNat) r := by
  have g1 := zag s (p + 1); have g2 := zag s (p + 2); have g3 := zag s (p + 3)
  by_cases c : s.size - p < 4
  · refine ⟨_, Ev.step (fun k => by rw [tabardref04_Read.j2]) (Ev.cond (by rw [w64 (by omega) (by omega)]; omega) (Ev.fin rfl)), Or.inr ⟨rfl, ?_⟩⟩
    unfold Go.Lib.decodeN; repeat' split
    all_goals first | (exfalso; omega) | rfl
  · have go : ∀ r, Ev (fun k => tabardref04_Read.l0 k s (p : Int) (((s.get! p).toNat : Int) - 240) 4 65536 1) r → Ev (fun k => tabardref04_Read.j2 k s (p : Int) (((s.get! p).toNat : Int) - 240) 4 65536) r :=
      by
        intro r h
        refine Ev.step (fun k => by rw [tabardref04_Read.j2]) (Ev.ncond ?_ h)
        rw [w64 (by omega) (by omega)]; omega
    rcases zaj (X := ((s.get! p).toNat : Int) - 240) (w := 4) (L := 65536) (i := 1) hs (by omega) (by omega) (by omega) (show p + 1 < s.size by omega) with ⟨bad, e⟩ | ⟨ok1, k1⟩
    · refine ⟨_, go _ e, Or.inr ⟨rfl, ?_⟩⟩
      unfold Go.Lib.decodeN; repeat' split
      all_goals first | (exfalso; omega) | rfl
    rcases zaj (X := (((s.get! p).toNat : Int) - 240) * 64 + ((s.get! (p + 1)).toNat : Int) - 128) (w := 4) (L := 65536) (i := 2) hs (by omega) (by omega) (by omega) (show p + 2 < s.size by omega) with ⟨bad, e⟩ | ⟨ok2, k2⟩
    · refine ⟨_, go _ (k1 _ e), Or.inr ⟨rfl, ?_⟩⟩
      unfold Go.Lib.decodeN; repeat' split
      all_goals first | (exfalso; omega) | rfl
    rcases zaj (X := ((((s.get! p).toNat : Int) - 240) * 64 + ((s.get! (p + 1)).toNat : Int) - 128) * 64 + ((s.get! (p + 2)).toNat : Int) - 128) (w := 4) (L := 65536) (i := 3) hs (by omega) (by omega) (by omega) (show p + 3 < s.size by omega) with ⟨bad, e⟩ | ⟨ok3, k3⟩
    · refine ⟨_, go _ (k1 _ (k2 _ e)), Or.inr ⟨rfl, ?_⟩⟩
      unfold Go.Lib.decodeN; repeat' split
      all_goals first | (exfalso; omega) | rfl
    · obtain ⟨r, hr, hc⟩ := za6 (s := s) (p := p) (X := (((((s.get! p).toNat : Int) - 240) * 64 + ((s.get! (p + 1)).toNat : Int) - 128) * 64 + ((s.get! (p + 2)).toNat : Int) - 128) * 64 + ((s.get! (p + 3)).toNat : Int) - 128) (w := 4) (L := 65536) (i := ((3 + 1 : Nat) : Int)) (by omega)
      refine ⟨r, go _ (k1 _ (k2 _ (k3 r hr))), ?_⟩
      rcases hc with ⟨rfl, hc⟩ | ⟨rfl, hc⟩
      · have d : Go.Lib.decodeN (s.size - p) (s.get! p).toNat (s.get! (p + 1)).toNat (s.get! (p + 2)).toNat (s.get! (p + 3)).toNat = ((s.get! p).toNat % 8 * 262144 + (s.get! (p + 1)).toNat % 64 * 4096 + (s.get! (p + 2)).toNat % 64 * 64 + (s.get! (p + 3)).toNat % 64, 4) := by
          unfold Go.Lib.decodeN; repeat' split
          all_goals first | (exfalso; omega) | rfl
        rw [d]; exact Or.inl ⟨rfl, by simp only []; omega, rfl⟩
      · refine Or.inr ⟨rfl, ?_⟩
        unfold Go.Lib.decodeN; repeat' split
        all_goals first | (exfalso; omega) | rfl
theorem zdz (hs : s.size ≤ 9223372036854775807) (hp : p < s.size) : ∃ r, Ev (fun k => tabardref04_Read.f k s (p : Int)) r ∧ Fits (Utf8.decode s p) r := by
  rw [Go.Lib.decode_at]
  have b := zag s p
  have g1 := zag s (p + 1); have g2 := zag s (p + 2); have g3 := zag s (p + 3)
  have e0 : wrap64 (bt s (p : Int)) = ((s.get! p).toNat : Int) := by rw [zdd s hp, w64 (by omega) (by omega)]
  have enter : ∀ r, Ev (fun k => if ((s.get! p).toNat : Int) < 128 then (some (((s.get! p).toNat : Int), (1 : Int), true)) else (if ((s.get! p).toNat : Int) ≥ 194 then (tabardref04_Read.j0 k s (p : Int) ((s.get! p).toNat : Int) (decide (((s.get! p).toNat : Int) < 224))) else (tabardref04_Read.j0 k s (p : Int) ((s.get! p).toNat : Int) false))) r → Ev (fun k => tabardref04_Read.f k s (p : Int)) r := by
    intro r h
    refine Ev.congr (fun k => by rw [tabardref04_Read.f, e0]) (Ev.cond (by omega) (Ev.cond (by omega) h))
  by_cases c0 : (s.get! p).toNat < 128
  · refine ⟨_, enter _ (Ev.cond (by omega) (Ev.fin rfl)), Or.inl ⟨rfl, ?_, ?_⟩⟩ <;> unfold Go.Lib.decodeN <;> rw [if_pos c0]
    rfl
  have w1 : wrap64 (((s.get! p).toNat : Int) - 192) = ((s.get! p).toNat : Int) - 192 := w64 (by omega) (by omega)
  have w2 : wrap64 (((s.get! p).toNat : Int) - 224) = ((s.get! p).toNat : Int) - 224 := w64 (by omega) (by omega)
  have w3 : wrap64 (((s.get! p).toNat : Int) - 240) = ((s.get! p).toNat : Int) - 240 := w64 (by omega) (by omega)
  by_cases c1 : 194 ≤ (s.get! p).toNat ∧ (s.get! p).toNat < 224
  · obtain ⟨r, hr, hf⟩ := zdw hs hp c1
    refine ⟨r, enter _ (Ev.ncond (by omega) (Ev.cond (by omega) ?_)), hf⟩
    rw [decide_eq_true (show ((s.get! p).toNat : Int) < 224 by omega)]
    refine Ev.step (fun k => by rw [tabardref04_Read.j0, w1]) (Ev.cond rfl hr)
  have j1 : ∀ r, (¬ ((s.get! p).toNat : Int) < 224 ∨ ¬ ((s.get! p).toNat : Int) ≥ 194) → Ev (fun k => if ((s.get! p).toNat : Int) ≥ 224 then tabardref04_Read.j1 k s (p : Int) ((s.get! p).toNat : Int) (decide (((s.get! p).toNat : Int) < 240)) else tabardref04_Read.j1 k s (p : Int) ((s.get! p).toNat : Int) false) r → Ev (fun k => tabardref04_Read.f k s (p : Int)) r := by
    intro r hc h
    refine enter _ (Ev.ncond (by omega) (Ev.ite (fun g => ?_) (fun g => ?_)))
    · rw [decide_eq_false (show ¬ ((s.get! p).toNat : Int) < 224 by omega)]
      exact Ev.step (fun k => by rw [tabardref04_Read.j0]) (Ev.ncond (by decide) h)
    · exact Ev.step (fun k => by rw [tabardref04_Read.j0]) (Ev.ncond (by decide) h)
  by_cases c2 : 224 ≤ (s.get! p).toNat ∧ (s.get! p).toNat < 240
  · obtain ⟨r, hr, hf⟩ := zd2 hs hp c2
    refine ⟨r, j1 _ (by omega) (Ev.cond (by omega) ?_), hf⟩
    rw [decide_eq_true (show ((s.get! p).toNat : Int) < 240 by omega)]
    refine Ev.step (fun k => by rw [tabardref04_Read.j1, w2]) (Ev.cond rfl hr)
  by_cases c3 : 240 ≤ (s.get! p).toNat ∧ (s.get! p).toNat < 245
  · obtain ⟨r, hr, hf⟩ := zd5 hs hp c3
    refine ⟨r, j1 _ (by omega) (Ev.cond (by omega) ?_), hf⟩
    rw [decide_eq_false (show ¬ ((s.get! p).toNat : Int) < 240 by omega)]
    refine Ev.step (fun k => by rw [tabardref04_Read.j1, w3]) (Ev.ncond (by decide) (Ev.cond (by omega) (Ev.cond (by omega) hr)))
  · refine ⟨(65533, 1, false), j1 _ (by omega) (Ev.ite (fun g => ?_) (fun g => ?_)), Or.inr ⟨rfl, ?_⟩⟩
    · rw [decide_eq_false (show ¬ ((s.get! p).toNat : Int) < 240 by omega)]
      exact Ev.step (fun k => by rw [tabardref04_Read.j1]) (Ev.ncond (by decide) (Ev.cond (by omega) (Ev.ncond (by omega) (Ev.fin rfl))))
    · exact Ev.step (fun k => by rw [tabardref04_Read.j1]) (Ev.ncond (by decide) (Ev.ncond (by omega) (Ev.fin rfl)))
    · unfold Go.Lib.decodeN; repeat' split
      all_goals first | (exfalso; omega) | rfl
end
end Go.Proofs.Ytninoenmhcbonaa.Pure
namespace Go.Proofs.Ytninoenmhcbonaa.Pure
open Go.RowKit Go.Proofs.YtninoenmhcbonaaW.PrintWords Go.Proofs.YtninoenmhcbonaaW.PrintLast Go.Proofs.YtninoenmhcbonaaW.PrintMore Go.Proofs.Ytninoenmhcbonaa.X
set_option linter.unusedVariables false
theorem zbl (s : ByteArray) (n : Nat) : Ev (fun k => if (n : Int) ≥ 1 then (if (n : Int) ≤ 16 then ((tabardref04_Reserved.f k s).bind fun t => some (!t)) else some false) else some false) (decide (1 ≤ n ∧ n ≤ 16) && !resB s) := by
  by_cases h1 : 1 ≤ n
  · by_cases h2 : n ≤ 16
    · refine Ev.cond (by omega) (Ev.cond (by omega) ?_)
      rw [decide_eq_true ⟨h1, h2⟩, Bool.true_and]
      exact Ev.bind (zd7 s) (Ev.fin rfl)
    · rw [decide_eq_false (fun e => h2 e.2)]
      exact Ev.cond (by omega) (Ev.ncond (by omega) (Ev.fin rfl))
  · rw [decide_eq_false (fun e => h1 e.1)]
    exact Ev.ncond (by omega) (Ev.fin rfl)
theorem zed (n a b c d : Nat) (h : 1 ≤ n) : (Go.Lib.decodeN n a b c d).2 ≤ n := by
  unfold Go.Lib.decodeN; repeat' split
  all_goals (simp only []; omega)
theorem dec_in (s : ByteArray) (p : Nat) (h : p < s.size) : p + (Utf8.decode s p).2 ≤ s.size := by
  rw [Go.Lib.decode_at]
  have := zed (s.size - p) (s.get! p).toNat (s.get! (p + 1)).toNat (s.get! (p + 2)).toNat (s.get! (p + 3)).toNat (by omega)
  omega
theorem zdt : zaw ((65533 : Nat) : Int) = false := by decide +kernel
theorem zdn (s : ByteArray) (hs : s.size ≤ 9223372036854775807) : Ev (fun k => tabardref04_Name.f k s) (zcu s) := by
  have key : ∀ (m p n : Nat), s.size ≤ p + m → p ≤ s.size → n ≤ p → Ev (fun k => tabardref04_Name.l0 k s (n : Int) (p : Int)) (zas m s p n) := by
    intro m
    induction m with
    | zero =>
      intro p n hp _ hn
      exact Ev.step (fun k => by rw [tabardref04_Name.l0]) (Ev.ncond (by omega) (zbl s n))
    | succ m ih =>
      intro p n hp hp2 hn
      rw [zas]
      by_cases c : p < s.size
      · rw [if_pos c]
        have hw := zbm s p c
        obtain ⟨r, hr, hf⟩ := zdz hs c
        refine Ev.step (fun k => by rw [tabardref04_Name.l0]) (Ev.cond (by omega) (Ev.bind hr ?_))
        rcases hf with ⟨f1, f2, f3⟩ | ⟨f1, f2⟩
        · have hb : p + (Utf8.decode s p).2 ≤ s.size := dec_in s p c
          rw [f2, f3]
          refine Ev.cond f1 ?_
          have go : zaw ((Utf8.decode s p).1 : Int) = true → Ev (fun k => tabardref04_Name.l0 k s (wrap64 ((n : Int) + 1)) (wrap64 ((p : Int) + ((Utf8.decode s p).2 : Int)))) (zas m s (p + (Utf8.decode s p).2) (n + 1)) := by
            intro _
            rw [w64 (x := (n : Int) + 1) (by omega) (by omega), w64 (x := (p : Int) + ((Utf8.decode s p).2 : Int)) (by omega) (by omega)]
            have := ih (p + (Utf8.decode s p).2) (n + 1) (by omega) hb (by omega)
            rwa [Int.natCast_add, Int.natCast_add] at this
          have tail : (n = 0 → zae ((Utf8.decode s p).1 : Int) = true) → Ev (fun k => (tabardref04_Rest.f k ((Utf8.decode s p).1 : Int)).bind fun t => (if t = true then (tabardref04_Name.l0 k s (wrap64 ((n : Int) + 1)) (wrap64 ((p : Int) + ((Utf8.decode s p).2 : Int)))) else (some false))) (if (n = 0 → zae ((Utf8.decode s p).1 : Int) = true) ∧ zaw ((Utf8.decode s p).1 : Int) = true then zas m s (p + (Utf8.decode s p).2) (n + 1) else false) := by
            intro h
            refine Ev.bind (zds _) (Ev.ite (fun g => ?_) (fun g => Ev.fin ?_))
            · rw [if_pos ⟨h, g⟩]; exact go g
            · rw [if_neg (fun e => g e.2)]
          refine Ev.ite (fun z => Ev.bind (zbn _) (Ev.ite (fun h => tail (fun _ => h)) (fun h => Ev.fin ?_))) (fun z => tail (fun e => absurd (show (n : Int) = 0 by omega) z))
          rw [if_neg (fun e => h (e.1 (by omega)))]
        · rw [if_neg (fun e => by rw [f2] at e; exact absurd e.2 (by rw [zdt]; decide))]
          exact Ev.ncond (by rw [f1]; decide) (Ev.fin rfl)
      · rw [if_neg c]
        exact Ev.step (fun k => by rw [tabardref04_Name.l0]) (Ev.ncond (by omega) (zbl s n))
  exact Ev.congr (fun k => by rw [tabardref04_Name.f]; rfl) (key s.size 0 0 (by omega) (by omega) (by omega))
theorem zbk (ns : List ByteArray) (hn : ns.length ≤ 9000000000000000000) (hs : ∀ x ∈ ns, x.size ≤ 9223372036854775807) : Ev (fun k => tabardref04_Rises.f k ns) (za9 ns) := by
  have key : ∀ (m i : Nat), i + m = ns.length → Ev (fun k => tabardref04_Rises.l0 k ns (i : Int)) (zay ns m i) := by
    intro m
    induction m with
    | zero =>
      intro i hi
      refine Ev.step (fun k => by rw [tabardref04_Rises.l0]) (Ev.ncond (by omega) ?_)
      exact Ev.fin rfl
    | succ m ih =>
      intro i hi
      rw [zay]
      have sz : (rdOf ByteArray.empty ns (i : Int)).size ≤ 9223372036854775807 := by rw [zah _ ns (show i < ns.length by omega)]; exact hs _ (List.getElem_mem _)
      refine Ev.step (fun k => by rw [tabardref04_Rises.l0]) (Ev.cond (by omega) (Ev.cond (by omega) (Ev.bind (zdn _ sz) ?_)))
      refine Ev.ite (fun a => ?_) (fun a => Ev.fin ?_)
      · rw [a, Bool.true_and]
        have nx := ih (i + 1) (by omega)
        refine Ev.ite (fun b => ?_) (fun b => ?_)
        · rw [w64 (x := (i : Int) - 1) (by omega) (by omega), w64 (x := (i : Int) + 1) (by omega) (by omega), show (i : Int) - 1 = ((i - 1 : Nat) : Int) by omega, decide_eq_false (show ¬ i = 0 by omega), Bool.false_or]
          refine Ev.cond (by omega) (Ev.cond (by omega) (Ev.ite (fun c => ?_) (fun c => Ev.fin ?_)))
          · rw [c, Bool.true_and]; exact nx
          · rw [Bool.not_eq_true] at c; rw [c, Bool.false_and]
        · rw [decide_eq_true (show i = 0 by omega), Bool.true_or, Bool.true_and, w64 (by omega) (by omega)]
          exact nx
      · rw [Bool.not_eq_true] at a; rw [a, Bool.false_and]
  exact Ev.congr (fun k => by rw [tabardref04_Rises.f]; rfl) (key ns.length 0 (by omega))
section
variable {ns : List ByteArray} {n : Nat}
theorem zct (hs : SZ ns) (f : Fr ns n) : Ev (fun k => tabardref12_Frame.f k ns (n : Int)) true := by
  have := f.tr; have := f.n1; have := f.n2
  refine Ev.congr (fun k => by rw [tabardref12_Frame.f]) (Ev.cond (by omega) (Ev.bind (zbk ns (by omega) hs) (Ev.cond f.ri (Ev.cond (show (n : Int) ≥ 1 by omega) (Ev.fin ?_)))))
  exact decide_eq_true (show (n : Int) ≤ 256 by omega)
theorem zdf (hs : SZ ns) (hn : ¬ Fr ns n) : Ev (fun k => tabardref12_Frame.f k ns (n : Int)) false := by
  refine Ev.congr (fun k => by rw [tabardref12_Frame.f]) (Ev.ite (fun a => Ev.bind (zbk ns (by omega) hs) (Ev.ite (fun b => Ev.ite (fun c => Ev.fin ?_) (fun _ => Ev.fin rfl)) (fun _ => Ev.fin rfl))) (fun _ => Ev.fin rfl))
  exact decide_eq_false (fun e : (n : Int) ≤ 256 => hn ⟨by omega, by omega, by omega, b⟩)
variable {ac : List Bool} {nx : List (List Int)}
end
end Go.Proofs.Ytninoenmhcbonaa.Pure
namespace Go.Proofs.Ytninoenmhcbonaa.Pure
open Go.RowKit Go.Proofs.YtninoenmhcbonaaW.PrintWords Go.Proofs.YtninoenmhcbonaaW.PrintLast Go.Proofs.YtninoenmhcbonaaW.PrintMore Go.Proofs.Ytninoenmhcbonaa.X
set_option linter.unusedVariables false
section
variable {ns : List ByteArray} {ac : List Bool} {nx : List (List Int)}
end
end Go.Proofs.Ytninoenmhcbonaa.Pure
namespace Go.Proofs.Ytninoenmhcbonaa.Pure
open Go.RowKit Go.Proofs.YtninoenmhcbonaaW.PrintWords Go.Proofs.YtninoenmhcbonaaW.PrintLast Go.Proofs.YtninoenmhcbonaaW.PrintMore Go.Proofs.Ytninoenmhcbonaa.X
set_option linter.unusedVariables false
def rows (j : Nat) (st : List Int) (ar : List S73) (i : Nat) : List (List Int) := (List.range i).map fun q => zaa (cb st ar q) (2 ^ j)
theorem za4 (j : Nat) (st : List Int) (ar : List S73) (i : Nat) : (rows j st ar i).length = i := by simp [rows]
theorem zbp (j : Nat) (st : List Int) (ar : List S73) (i : Nat) : rows j st ar (i + 1) = rows j st ar i ++ [zaa (cb st ar i) (2 ^ j)] := by
  rw [rows, List.range_succ, List.map_append]; rfl
section
variable {ns : List ByteArray} {ac : List Bool} {st : List Int} {ar : List S73}
def Ok (ns : List ByteArray) (ac : List Bool) (st : List Int) (ar : List S73) (q : Nat) : Prop := (cb st ar q).length ≤ 32 ∧ UnpOk (cb st ar q) ns.length ∧ ∀ x ∈ zaa (cb st ar q) (2 ^ ns.length), x < (ac.length : Int)
theorem rt_l1 (fr : Fr ns ac.length) (fm : Fm ac.length st ar) {e : List ByteArray × List Bool × List (List Int) × Bool} (good : (∀ q, q < ac.length → Ok ns ac st ar q) → e = (ns, ac, rows ns.length st ar ac.length, true)) (bad : ¬ (∀ q, q < ac.length → Ok ns ac st ar q) → e = ([], [], [], false)) :
    ∀ (m i : Nat), i + m = ac.length → (∀ q, q < i → Ok ns ac st ar q) → Ev (fun k => tabardref12_Unpack.l1 k (ac.length : Int) (i : Int) ns ac st ar ns ac (rows ns.length st ar i)) e := by
  have n2 := fr.n2
  have sl := fm.sl
  have h6 := pow6 fr.tr
  intro m
  induction m with
  | zero =>
    intro i hi h
    obtain rfl : i = ac.length := by omega
    exact Ev.step (fun k => by rw [tabardref12_Unpack.l1]) (Ev.ncond (by omega) (Ev.fin (good h).symm))
  | succ m ih =>
    intro i hi h
    have ii : i < ac.length := by omega
    have b0 := fm.bounds (show i ≤ ac.length by omega)
    have b1 := fm.bounds (show i + 1 ≤ ac.length by omega)
    have so := fm.so i ii
    refine Ev.step (fun k => by rw [tabardref12_Unpack.l1]) ?_
    rw [w64 (x := (i : Int) + 1) (by omega) (by omega), show (i : Int) + 1 = ((i + 1 : Nat) : Int) by omega]
    refine Ev.cond (by omega) (Ev.cond (by omega) (Ev.cond (by omega) (Ev.cond (by omega) (Ev.cond (by omega) (Ev.cond b0.1 (Ev.cond so (Ev.cond b1.2 (Ev.ret rfl ?_))))))))
    show Ev (fun k => if ((cb st ar i).length : Int) > 32 then _ else _) e
    by_cases big : (cb st ar i).length ≤ 32
    · refine Ev.ncond (by omega) ?_
      by_cases u : UnpOk (cb st ar i) ns.length
      · refine Ev.bind (zcb (by rw [zab]; omega) (zbd u)) (Ev.ite (fun t => ?_) (fun t => Ev.fin (bad (fun z => t (decide_eq_true (z i ii).2.2))).symm))
        refine Ev.bind (zbd u) (Ev.cond (by rw [za4]; omega) ?_)
        have q := ih (i + 1) (by omega) (fun q hq => by
          by_cases c : q = i
          · subst c; exact ⟨big, u, of_decide_eq_true t⟩
          · exact h q (by omega))
        rw [zbp] at q
        exact q
      · refine Ev.bind (zco (by decide) (zcp fr.tr u)) ?_
        exact Ev.ncond (by decide) (Ev.fin (bad (fun z => u (z i ii).2.1)).symm)
    · exact Ev.cond (by omega) (Ev.fin (bad (fun z => big (z i ii).1)).symm)
theorem rt_l0 (fr : Fr ns ac.length) (sl : st.length = ac.length + 1) {e : List ByteArray × List Bool × List (List Int) × Bool} (hn : ns.length * 16 ≤ 140737488351232)
    (yes : (∀ i : Nat, i < ac.length → rd st (i : Int) ≤ rd st ((i + 1 : Nat) : Int)) → Ev (fun k => tabardref12_Unpack.l1 k (ac.length : Int) 0 ns ac st ar ns ac []) e) (no : ¬ (∀ i : Nat, i < ac.length → rd st (i : Int) ≤ rd st ((i + 1 : Nat) : Int)) → e = ([], [], [], false)) :
    ∀ (m i : Nat), i + m = ac.length → (∀ q : Nat, q < i → rd st (q : Int) ≤ rd st ((q + 1 : Nat) : Int)) → Ev (fun k => tabardref12_Unpack.l0 k (ac.length : Int) (i : Int) ns ac st ar) e := by
  have n2 := fr.n2
  intro m
  induction m with
  | zero =>
    intro i hi h
    obtain rfl : i = ac.length := by omega
    refine Ev.step (fun k => by rw [tabardref12_Unpack.l0]) ?_
    refine Ev.ncond (by omega) ?_
    refine Ev.ret rfl ?_
    refine Ev.cond (by simp; omega) ?_
    refine Ev.ret rfl ?_
    refine Ev.cond (by simp; omega) ?_
    exact yes h
  | succ m ih =>
    intro i hi h
    have ii : i < ac.length := by omega
    refine Ev.step (fun k => by rw [tabardref12_Unpack.l0]) ?_
    rw [w64 (x := (i : Int) + 1) (by omega) (by omega), show (i : Int) + 1 = ((i + 1 : Nat) : Int) by omega]
    refine Ev.cond (by omega) (Ev.cond (by omega) (Ev.cond (by omega) (Ev.cond (by omega) (Ev.cond (by omega) (Ev.ite (fun c => Ev.fin (no (fun z => by have := z i ii; omega)).symm) (fun c => ?_))))))
    refine ih (i + 1) (by omega) (fun q hq => ?_)
    by_cases d : q = i
    · subst d; omega
    · exact h q (by omega)
theorem zcj (hs : SZ ns) (hn : ns.length * 16 ≤ 140737488351232) (hc : ac.length ≤ 9000000000000000000) {e : List ByteArray × List Bool × List (List Int) × Bool} (good : AOk ns ac st ar → e = (ns, ac, rows ns.length st ar ac.length, true)) (bad : ¬ AOk ns ac st ar → e = ([], [], [], false)) :
    Ev (fun k => tabardref12_Unpack.f k ns ac st ar) e := by
  have stop : ∀ {b}, b = true → ¬ AOk ns ac st ar → Ev (fun k => tabardref12_Unpack.j0 k (ac.length : Int) b ns ac st ar) e := fun h z => h ▸ Ev.step (fun k => by rw [tabardref12_Unpack.j0]) (Ev.cond rfl (Ev.fin (bad z).symm))
  by_cases fr : Fr ns ac.length
  · have n2 := fr.n2
    refine Ev.congr (fun k => by rw [tabardref12_Unpack.f]) (Ev.bind (zct hs fr) (Ev.cond rfl ?_))
    rw [w64 (by omega) (by omega)]
    refine Ev.ite (fun h1 => Ev.cond (by omega) (Ev.ite (fun h2 => Ev.cond (by omega) (Ev.cond (by omega) ?_)) (fun h2 => stop rfl (fun a => h2 a.fm.s0)))) (fun h1 => stop rfl (fun a => h1 (by have := a.fm.sl; omega)))
    have sl : st.length = ac.length + 1 := by omega
    by_cases h3 : rd st (ac.length : Int) = (ar.length : Int)
    · rw [show (rd st (ac.length : Int) != (ar.length : Int)) = false by simp [h3]]
      refine Ev.step (fun k => by rw [tabardref12_Unpack.j0]) (Ev.ncond (by decide) ?_)
      refine rt_l0 fr sl hn (fun so => ?_) (fun so => bad (fun a => so a.fm.so)) ac.length 0 (by omega) (by omega)
      have fm : Fm ac.length st ar := ⟨sl, h2, h3, so⟩
      exact rt_l1 fr fm (fun z => good ⟨fr, fm, fun q hq => (z q hq).1, fun q hq => (z q hq).2.1, fun q hq => (z q hq).2.2⟩) (fun z => bad (fun a => z (fun q hq => ⟨a.len q hq, a.unp q hq, a.low q hq⟩))) ac.length 0 (by omega) (by omega)
    · exact stop (bne_iff_ne.2 h3) (fun a => h3 a.fm.se)
  · refine Ev.congr (fun k => by rw [tabardref12_Unpack.f]) (Ev.bind (zdf hs fr) ?_)
    exact Ev.ncond (by decide) (stop rfl (fun a => fr a.fr))
end
end Go.Proofs.Ytninoenmhcbonaa.Pure
namespace Go.Proofs.Ytninoenmhcbonaa.Pure
open Go.RowKit Go.Proofs.YtninoenmhcbonaaW.PrintWords Go.Proofs.YtninoenmhcbonaaW.PrintLast Go.Proofs.YtninoenmhcbonaaW.PrintMore Go.Proofs.Ytninoenmhcbonaa.X
set_option linter.unusedVariables false
section
variable {ns : List ByteArray} {ac : List Bool} {st : List Int} {ar : List S73}
theorem za8 (hs : SZ ns) (ha : ar.length ≤ 9000000000000000000) (hn : ns.length * 16 ≤ 140737488351232) (a : AOk ns ac st ar) : Ev (fun k => table_Unpack.f k ns ac st ar) (ns, ac, rows ns.length st ar ac.length, 0) := by
  have n2 := a.fr.n2
  refine Ev.congr (fun k => by rw [table_Unpack.f]) (Ev.bind (zdq hs ha a) (Ev.cond rfl ?_))
  refine Ev.ret (show slices_Clone_string_string.f ns = some ns by unfold slices_Clone_string_string.f; rw [if_pos (by omega)]) ?_
  refine Ev.ret (show slices_Clone_bool_bool.f ac = some ac by unfold slices_Clone_bool_bool.f; rw [if_pos (by omega)]) ?_
  have key : ∀ (m i : Nat), i + m = ac.length → Ev (fun k => table_Unpack.l0 k (ac.length : Int) (i : Int) ns ac st ar ns ac (rows ns.length st ar i)) (ns, ac, rows ns.length st ar ac.length, 0) := by
    intro m
    induction m with
    | zero =>
      intro i hi
      obtain rfl : i = ac.length := by omega
      exact Ev.step (fun k => by rw [table_Unpack.l0]) (Ev.ncond (by omega) (Ev.fin rfl))
    | succ m ih =>
      intro i hi
      have ii : i < ac.length := by omega
      refine Ev.step (fun k => by rw [table_Unpack.l0]) (Ev.cond (by omega) (Ev.ret (zbw a.fm n2 ii) (Ev.bind (zbj (a.unp i ii)) ?_)))
      refine Ev.cond rfl ?_
      refine Ev.cond (by rw [za4]; omega) ?_
      rw [w64 (by omega) (by omega)]
      have q := ih (i + 1) (by omega)
      rw [zbp] at q
      exact q
  exact key ac.length 0 (by omega)
theorem zba (hs : SZ ns) (ha : ar.length ≤ 9000000000000000000) (hc : ac.length ≤ 9000000000000000000) (hst : st.length ≤ 9000000000000000000) (a : ¬ AOk ns ac st ar) : Ev (fun k => table_Unpack.f k ns ac st ar) ([], [], [], 3) := by
  refine Ev.congr (fun k => by rw [table_Unpack.f]) (Ev.bind (zdm hs ha hc hst a) ?_)
  exact Ev.ncond (by decide) (Ev.fin rfl)
end
end Go.Proofs.Ytninoenmhcbonaa.Pure
namespace Go.Proofs.Ytninoenmhcbonaa.Pure
set_option linter.unusedVariables false
section
variable (L : Nat)
def rkF (r : Nat) (w : List Nat) : Nat := w.foldl (fun r a => r * L + a + 1) r
def Let (w : List Nat) : Prop := ∀ a ∈ w, a < L
end
section
variable {L : Nat}
theorem zam (r : Nat) (u : List Nat) (b : Nat) : rkF L r (u ++ [b]) = rkF L r u * L + b + 1 := by simp [rkF]
theorem zd8 (r : Nat) (u v : List Nat) : rkF L r (u ++ v) = rkF L (rkF L r u) v := by simp [rkF]
theorem zai (r a : Nat) (v : List Nat) : rkF L r (a :: v) = rkF L (r * L + a + 1) v := rfl
theorem zd3 {r r' a b : Nat} (h : r < r') (ha : a < L) : r * L + a + 1 < r' * L + b + 1 := by
  have : (r + 1) * L ≤ r' * L := Nat.mul_le_mul_right L h
  rw [Nat.add_mul] at this
  omega
theorem za7 : ∀ (x y : List Nat) (r r' : Nat), x.length = y.length → Let L x → r < r' → rkF L r x < rkF L r' y
  | [], [], _, _, _, _, h => h
  | [], _ :: _, _, _, h, _, _ => by simp at h
  | _ :: _, [], _, _, h, _, _ => by simp at h
  | a :: x, b :: y, r, r', hl, hx, h => by
    rw [zai, zai]
    exact za7 x y _ _ (by simpa using hl) (fun c hc => hx c (by simp [hc])) (zd3 h (hx a (by simp)))
theorem rk_ge : ∀ (x : List Nat) (r : Nat), 1 ≤ L → r + x.length ≤ rkF L r x
  | [], r, _ => Nat.le_refl _
  | a :: x, r, hL => by
    have := rk_ge x (r * L + a + 1) hL
    have h2 : r * 1 ≤ r * L := Nat.mul_le_mul_left r hL
    rw [zai, List.length_cons]; omega
theorem zby {x y : List Nat} (h : x.length < y.length) (hx : Let L x) (hy : Let L y) : rkF L 0 x < rkF L 0 y := by
  have hL : 1 ≤ L := by
    rcases y with _ | ⟨b, y⟩
    · simp at h
    · have := hy b (by simp); omega
  have e : y = y.take (y.length - x.length) ++ y.drop (y.length - x.length) := (List.take_append_drop _ _).symm
  rw [e, zd8]
  refine za7 x _ _ _ (by rw [List.length_drop]; omega) hx ?_
  have := rk_ge (y.take (y.length - x.length)) 0 hL
  rw [List.length_take] at this
  omega
theorem zcv {x y : List Nat} (hx : Let L x) (hy : Let L y) (h : rkF L 0 x ≤ rkF L 0 y) : x.length ≤ y.length := by
  refine Nat.le_of_not_lt (fun c => ?_)
  have := zby c hy hx
  omega
theorem zc9 : ∀ (x y : List Nat) (r : Nat), x.length = y.length → Let L x → Let L y → rkF L r x = rkF L r y → x = y
  | [], [], _, _, _, _, _ => rfl
  | [], _ :: _, _, h, _, _, _ => by simp at h
  | _ :: _, [], _, h, _, _, _ => by simp at h
  | a :: x, b :: y, r, hl, hx, hy, e => by
    rw [zai, zai] at e
    have hl' : x.length = y.length := by simpa using hl
    have hx' : Let L x := fun c hc => hx c (by simp [hc])
    have hy' : Let L y := fun c hc => hy c (by simp [hc])
    have hab : a = b := by
      rcases Nat.lt_trichotomy a b with c | c | c
      · have := za7 x y (r * L + a + 1) (r * L + b + 1) hl' hx' (by omega); omega
      · exact c
      · have := za7 y x (r * L + b + 1) (r * L + a + 1) hl'.symm hy' (by omega); omega
    subst hab
    rw [zc9 x y _ hl' hx' hy' e]
theorem rk_eq {x y : List Nat} (hx : Let L x) (hy : Let L y) (e : rkF L 0 x = rkF L 0 y) : x = y :=
  zc9 x y 0 (Nat.le_antisymm (zcv hx hy (by omega)) (zcv hy hx (by omega))) hx hy e
end
section
variable (acc : Nat → Bool) (δ : Nat → Nat → Nat) (L : Nat)
def runN (q : Nat) (w : List Nat) : Nat := w.foldl δ q
structure IsLeast (w : List Nat) : Prop where
  ne : w ≠ []
  lets : Let L w
  tk : acc (runN δ 0 w) = true
  least : ∀ v, v ≠ [] → Let L v → acc (runN δ 0 v) = true → rkF L 0 w ≤ rkF L 0 v
def zb0 : Prop := ∀ v, v ≠ [] → Let L v → acc (runN δ 0 v) = false
def accN : Nat → Nat → Bool
  | 0, q => acc q
  | n + 1, q => (List.range L).any fun a => accN n (δ q a)
end
section
variable {acc : Nat → Bool} {δ : Nat → Nat → Nat} {L : Nat}
theorem zav (q : Nat) (u : List Nat) (b : Nat) : runN δ q (u ++ [b]) = δ (runN δ q u) b := by simp [runN]
theorem IsLeast.unique {w w' : List Nat} (h : IsLeast acc δ L w) (h' : IsLeast acc δ L w') : w = w' :=
  rk_eq h.lets h'.lets (Nat.le_antisymm (h.least w' h'.ne h'.lets h'.tk) (h'.least w h.ne h.lets h.tk))
theorem IsLeast.not_none {w : List Nat} (h : IsLeast acc δ L w) (h' : zb0 acc δ L) : False := by
  have := h' w h.ne h.lets
  rw [h.tk] at this
  cases this
theorem zar : ∀ (n q : Nat), accN acc δ L n q = true ↔ ∃ w, w.length = n ∧ Let L w ∧ acc (runN δ q w) = true
  | 0, q => by
    constructor
    · intro h; exact ⟨[], rfl, by simp [Let], h⟩
    · rintro ⟨w, h0, _, h⟩
      rw [List.length_eq_zero_iff.1 h0] at h
      exact h
  | n + 1, q => by
    rw [accN, List.any_eq_true]
    constructor
    · rintro ⟨a, ha, h⟩
      obtain ⟨w, h1, h2, h3⟩ := (zar n (δ q a)).1 h
      exact ⟨a :: w, by simp [h1], by intro c hc; rcases List.mem_cons.1 hc with rfl | h; exact List.mem_range.1 ha; exact h2 c h, h3⟩
    · rintro ⟨w, h1, h2, h3⟩
      rcases w with _ | ⟨a, w⟩
      · simp at h1
      · exact ⟨a, List.mem_range.2 (h2 a (by simp)), (zar n (δ q a)).2 ⟨w, by simpa using h1, fun c hc => h2 c (by simp [hc]), h3⟩⟩
inductive Greedy (acc : Nat → Bool) (δ : Nat → Nat → Nat) (L : Nat) : Nat → Nat → List Nat → Prop
  | nil (q : Nat) (h : acc q = true) : Greedy acc δ L 0 q []
  | cons (n q a : Nat) (w : List Nat) (ha : a < L) (hl : ∀ b, b < a → accN acc δ L n (δ q b) = false) (h : Greedy acc δ L n (δ q a) w) : Greedy acc δ L (n + 1) q (a :: w)
theorem Greedy.len {n q : Nat} {w : List Nat} (h : Greedy acc δ L n q w) : w.length = n ∧ Let L w ∧ acc (runN δ q w) = true := by
  induction h with
  | nil q h => exact ⟨rfl, by simp [Let], h⟩
  | cons n q a w ha hl h ih => exact ⟨by simp [ih.1], by intro c hc; rcases List.mem_cons.1 hc with rfl | h; exact ha; exact ih.2.1 c h, ih.2.2⟩
theorem Greedy.least {n q : Nat} {w : List Nat} (h : Greedy acc δ L n q w) : ∀ (v : List Nat) (r : Nat), v.length = n → Let L v → acc (runN δ q v) = true → rkF L r w ≤ rkF L r v := by
  induction h with
  | nil q h => intro v r hv _ _; rw [List.length_eq_zero_iff.1 hv]; exact Nat.le_refl _
  | cons n q a w ha hl h ih =>
    intro v r hv hlv hacc
    rcases v with _ | ⟨c, v⟩
    · simp at hv
    have hv' : v.length = n := by simpa using hv
    have hlv' : Let L v := fun z hz => hlv z (by simp [hz])
    rw [zai, zai]
    rcases Nat.lt_trichotomy a c with d | d | d
    · exact Nat.le_of_lt (za7 w v _ _ (by rw [h.len.1, hv']) h.len.2.1 (by omega))
    · subst d; exact ih v _ hv' hlv' hacc
    · have := hl c d
      rw [(zar n (δ q c)).2 ⟨v, hv', hlv', hacc⟩] at this
      cases this
theorem Greedy.isLeast {n : Nat} {w : List Nat} (h : Greedy acc δ L (n + 1) 0 w) (hn : ∀ m, 1 ≤ m → m ≤ n → accN acc δ L m 0 = false) : IsLeast acc δ L w := by
  obtain ⟨h1, h2, h3⟩ := h.len
  refine ⟨by rintro rfl; simp at h1, h2, h3, fun v hv hlv hacc => ?_⟩
  rcases Nat.lt_trichotomy v.length (n + 1) with c | c | c
  · have := hn v.length (by rcases v with _ | ⟨a, v⟩; exact absurd rfl hv; simp) (by omega)
    rw [(zar v.length 0).2 ⟨v, rfl, hlv, hacc⟩] at this
    cases this
  · exact h.least v 0 c hlv hacc
  · exact Nat.le_of_lt (zby (by omega) h2 hlv)
structure Met (acc : Nat → Bool) (δ : Nat → Nat → Nat) (L n : Nat) (ls : List Nat) (ws : List (List Nat)) : Prop where
  len : ws.length = ls.length
  h0 : ls[0]? = some 0 ∧ ws[0]? = some []
  run : ∀ (k q : Nat) (w : List Nat), ls[k]? = some q → ws[k]? = some w → runN δ 0 w = q ∧ Let L w ∧ q < n ∧ w.length ≤ k
  up : ∀ (k k' : Nat) (w w' : List Nat), k < k' → ws[k]? = some w → ws[k']? = some w' → rkF L 0 w < rkF L 0 w'
  nodup : ls.Nodup
def Done (acc : Nat → Bool) (δ : Nat → Nat → Nat) (L : Nat) (ls : List Nat) (ws : List (List Nat)) (k b : Nat) : Prop :=
  ∀ (q : Nat) (w : List Nat), ls[k]? = some q → ws[k]? = some w → acc (δ q b) = false ∧ ∃ (k' : Nat) (w' : List Nat), ls[k']? = some (δ q b) ∧ ws[k']? = some w' ∧ rkF L 0 w' ≤ rkF L 0 w * L + b + 1
theorem Met.cover {n : Nat} {ls : List Nat} {ws : List (List Nat)} (M : Met acc δ L n ls ws) {i a : Nat} {wi : List Nat} (hi : ws[i]? = some wi) (ha : a ≤ L)
    (h1 : ∀ k b, k < i → b < L → Done acc δ L ls ws k b) (h2 : ∀ b, b < a → Done acc δ L ls ws i b) :
    ∀ (m : Nat) (v : List Nat), v.length = m → Let L v → rkF L 0 v ≤ rkF L 0 wi * L + a → (∃ (k : Nat) (w : List Nat), ls[k]? = some (runN δ 0 v) ∧ ws[k]? = some w ∧ rkF L 0 w ≤ rkF L 0 v) ∧ (v ≠ [] → acc (runN δ 0 v) = false) := by
  intro m
  induction m with
  | zero =>
    intro v hv _ _
    rw [List.length_eq_zero_iff.1 hv]
    exact ⟨⟨0, [], M.h0.1, M.h0.2, Nat.le_refl _⟩, fun h => absurd rfl h⟩
  | succ m ih =>
    intro v hv hl hr
    rcases List.eq_nil_or_concat v with rfl | ⟨u, b, rfl⟩
    · simp at hv
    rw [List.concat_eq_append] at *
    have hb : b < L := hl b (by simp)
    have hlu : Let L u := fun c hc => hl c (by simp [hc])
    rw [zam] at hr
    have hru : rkF L 0 u ≤ rkF L 0 wi := by
      refine Nat.le_of_not_lt (fun c => ?_)
      have : (rkF L 0 wi + 1) * L ≤ rkF L 0 u * L := Nat.mul_le_mul_right L c
      rw [Nat.add_mul] at this
      omega
    have h1u : rkF L 0 wi * 1 ≤ rkF L 0 wi * L := Nat.mul_le_mul_left _ (by omega)
    obtain ⟨⟨k, w, e1, e2, e3⟩, _⟩ := ih u (by simpa using hv) hlu (by omega)
    have hk : k ≤ i := by
      refine Nat.le_of_not_lt (fun c => ?_)
      have := M.up i k wi w c hi e2
      omega
    have dn : Done acc δ L ls ws k b := by
      rcases Nat.lt_or_eq_of_le hk with c | c
      · exact h1 k b c hb
      · subst c
        rw [hi] at e2
        obtain rfl := Option.some.inj e2
        have : rkF L 0 u = rkF L 0 wi := by omega
        rw [this] at hr
        exact h2 b (by omega)
    obtain ⟨d1, k', w', d2, d3, d4⟩ := dn _ _ e1 e2
    rw [zav, zam]
    refine ⟨⟨k', w', d2, d3, Nat.le_trans d4 ?_⟩, fun _ => d1⟩
    have : rkF L 0 w * L ≤ rkF L 0 u * L := Nat.mul_le_mul_right L e3
    omega
theorem Met.found {n : Nat} {ls : List Nat} {ws : List (List Nat)} (M : Met acc δ L n ls ws) {i a q : Nat} {wi : List Nat} (hq : ls[i]? = some q) (hi : ws[i]? = some wi) (ha : a < L)
    (h1 : ∀ k b, k < i → b < L → Done acc δ L ls ws k b) (h2 : ∀ b, b < a → Done acc δ L ls ws i b) (h : acc (δ q a) = true) : IsLeast acc δ L (wi ++ [a]) := by
  have r := M.run i q wi hq hi
  refine ⟨by simp, ?_, by rw [zav, r.1]; exact h, fun v hv hl hacc => ?_⟩
  · intro c hc
    rcases List.mem_append.1 hc with d | d
    · exact r.2.1 c d
    · rw [List.mem_singleton.1 d]; exact ha
  · refine Nat.le_of_not_lt (fun c => ?_)
    rw [zam] at c
    have := (M.cover hi (Nat.le_of_lt ha) h1 h2 v.length v rfl hl (by omega)).2 hv
    rw [hacc] at this
    cases this
theorem Met.none {n : Nat} {ls : List Nat} {ws : List (List Nat)} (M : Met acc δ L n ls ws) (h1 : ∀ k b, k < ls.length → b < L → Done acc δ L ls ws k b) : zb0 acc δ L := by
  have key : ∀ (m : Nat) (v : List Nat), v.length = m → Let L v → (∃ (k : Nat) (w : List Nat), ls[k]? = some (runN δ 0 v) ∧ ws[k]? = some w) ∧ (v ≠ [] → acc (runN δ 0 v) = false) := by
    intro m
    induction m with
    | zero =>
      intro v hv _
      rw [List.length_eq_zero_iff.1 hv]
      exact ⟨⟨0, [], M.h0.1, M.h0.2⟩, fun h => absurd rfl h⟩
    | succ m ih =>
      intro v hv hl
      rcases List.eq_nil_or_concat v with rfl | ⟨u, b, rfl⟩
      · simp at hv
      rw [List.concat_eq_append] at *
      obtain ⟨⟨k, w, e1, e2⟩, _⟩ := ih u (by simpa using hv) (fun c hc => hl c (by simp [hc]))
      obtain ⟨d1, k', w', d2, d3, _⟩ := h1 k b (by have := (List.getElem?_eq_some_iff.1 e1).1; exact this) (hl b (by simp)) _ _ e1 e2
      rw [zav]
      exact ⟨⟨k', w', d2, d3⟩, fun _ => d1⟩
  intro v hv hl
  exact (key v.length v rfl hl).2 hv
theorem zaf {α : Type} {l : List α} {t q : α} {k : Nat} (h : (l ++ [t])[k]? = some q) : l[k]? = some q ∨ (k = l.length ∧ q = t) := by
  rcases Nat.lt_trichotomy k l.length with c | c | c
  · rw [List.getElem?_append_left c] at h; exact Or.inl h
  · subst c; rw [List.getElem?_append_right (Nat.le_refl _)] at h; simp at h; exact Or.inr ⟨rfl, h.symm⟩
  · rw [List.getElem?_eq_none (by simp; omega)] at h; cases h
theorem zad {α : Type} {l : List α} {t q : α} {k : Nat} (h : l[k]? = some q) : (l ++ [t])[k]? = some q := by
  rw [List.getElem?_append_left (List.getElem?_eq_some_iff.1 h).1]; exact h
theorem Met.push {n : Nat} {ls : List Nat} {ws : List (List Nat)} (M : Met acc δ L n ls ws) {i a q : Nat} {wi : List Nat} (hq : ls[i]? = some q) (hi : ws[i]? = some wi) (ha : a < L) (hn : δ q a < n) (hnew : ¬ δ q a ∈ ls)
    (top : ∀ (k : Nat) (w : List Nat), ws[k]? = some w → rkF L 0 w ≤ rkF L 0 wi * L + a) : Met acc δ L n (ls ++ [δ q a]) (ws ++ [wi ++ [a]]) := by
  have r := M.run i q wi hq hi
  have il : i < ls.length := (List.getElem?_eq_some_iff.1 hq).1
  refine ⟨by simp [M.len], ⟨zad M.h0.1, zad M.h0.2⟩, ?_, ?_, ?_⟩
  · intro k p w h1 h2
    rcases zaf h1 with h1 | ⟨rfl, rfl⟩
    · rcases zaf h2 with h2 | ⟨rfl, rfl⟩
      · exact M.run k p w h1 h2
      · have := (List.getElem?_eq_some_iff.1 h1).1; rw [M.len] at this; omega
    · rcases zaf h2 with h2 | ⟨_, rfl⟩
      · have := (List.getElem?_eq_some_iff.1 h2).1; rw [M.len] at this; omega
      · refine ⟨by rw [zav, r.1], ?_, hn, by rw [List.length_append]; simp; omega⟩
        intro c hc
        rcases List.mem_append.1 hc with d | d
        · exact r.2.1 c d
        · rw [List.mem_singleton.1 d]; exact ha
  · intro k k' w w' hk h1 h2
    rcases zaf h1 with h1 | ⟨rfl, rfl⟩
    · rcases zaf h2 with h2 | ⟨rfl, rfl⟩
      · exact M.up k k' w w' hk h1 h2
      · rw [zam]; have := top k w h1; omega
    · have := (List.getElem?_eq_some_iff.1 h2).1; simp at this; omega
  · rw [List.nodup_append]
    exact ⟨M.nodup, by simp, fun x hx y hy e => hnew (by rw [List.mem_singleton.1 hy] at e; exact e ▸ hx)⟩
theorem Done.ext {ls : List Nat} {ws : List (List Nat)} {k b t : Nat} {w0 : List Nat} (h : Done acc δ L ls ws k b) (hl : ws.length = ls.length) (hk : k < ls.length) : Done acc δ L (ls ++ [t]) (ws ++ [w0]) k b := by
  intro q w h1 h2
  rcases zaf h1 with h1 | ⟨rfl, rfl⟩
  · rcases zaf h2 with h2 | ⟨rfl, rfl⟩
    · obtain ⟨d1, k', w', d2, d3, d4⟩ := h q w h1 h2
      exact ⟨d1, k', w', zad d2, zad d3, d4⟩
    · omega
  · omega
theorem Met.size {n : Nat} {ls : List Nat} {ws : List (List Nat)} (M : Met acc δ L n ls ws) : ls.length ≤ n := by
  have : ∀ x ∈ ls, x ∈ List.range n := by
    intro x hx
    obtain ⟨k, hk, rfl⟩ := List.getElem_of_mem hx
    obtain ⟨w, hw⟩ : ∃ w, ws[k]? = some w := ⟨_, List.getElem?_eq_getElem (by rw [M.len]; exact hk)⟩
    exact List.mem_range.2 (M.run k _ w (List.getElem?_eq_getElem hk) hw).2.2.1
  have key : ∀ (S : List Nat) (T : List Nat), S.Nodup → (∀ x ∈ S, x ∈ T) → S.length ≤ T.length := by
    intro S
    induction S with
    | nil => intro T _ _; simp
    | cons x S ih =>
      intro T hn hs
      have hx : x ∈ T := hs x (by simp)
      have hn2 := List.nodup_cons.1 hn
      have := ih (T.erase x) hn2.2 (fun z hz => (List.mem_erase_of_ne (show z ≠ x from fun e => hn2.1 (e ▸ hz))).2 (hs z (by simp [hz])))
      rw [List.length_erase_of_mem hx] at this
      have : 0 < T.length := List.length_pos_of_mem hx
      rw [List.length_cons]; omega
  have := key ls (List.range n) M.nodup this
  simpa using this
end
end Go.Proofs.Ytninoenmhcbonaa.Pure
namespace Go.Proofs.Ytninoenmhcbonaa.Pure
open Go.RowKit Go.Proofs.YtninoenmhcbonaaW.PrintWords Go.Proofs.YtninoenmhcbonaaW.PrintLast Go.Proofs.YtninoenmhcbonaaW.PrintMore Go.Proofs.Ytninoenmhcbonaa.X
set_option linter.unusedVariables false
def acF (ac : List Bool) (q : Nat) : Bool := ac.getD q false
def dlF (nx : List (List Int)) (q a : Nat) : Nat := ((nx.getD q []).getD a 0).toNat
structure Mk (ac : List Bool) (nx : List (List Int)) (L : Nat) : Prop where
  len : nx.length = ac.length
  n1 : 1 ≤ ac.length
  n2 : ac.length ≤ 256
  l1 : 1 ≤ L
  l2 : L ≤ 64
  rows : ∀ r ∈ nx, r.length = L ∧ ∀ x ∈ r, 0 ≤ x ∧ x < (ac.length : Int)
section
variable {ac : List Bool} {nx : List (List Int)} {L : Nat}
theorem Mk.row (h : Mk ac nx L) {q : Nat} (hq : q < ac.length) : (rd_L4 nx (q : Int)).length = L ∧ ∀ a : Nat, a < L → rd (rd_L4 nx (q : Int)) (a : Int) = ((dlF nx q a : Nat) : Int) ∧ dlF nx q a < ac.length := by
  have hq' : q < nx.length := by rw [h.len]; exact hq
  have r := h.rows _ (List.getElem_mem hq')
  rw [zd6 nx hq']
  refine ⟨r.1, fun a ha => ?_⟩
  have ha' : a < (nx[q]).length := by rw [r.1]; exact ha
  have x := r.2 _ (List.getElem_mem ha')
  have e : dlF nx q a = ((nx[q])[a]).toNat := by simp [dlF, List.getD_eq_getElem?_getD, List.getElem?_eq_getElem hq', List.getElem?_eq_getElem ha']
  rw [zbb _ ha', e]
  omega
theorem Mk.acc (h : Mk ac nx L) {q : Nat} (hq : q < ac.length) : rdOf false ac (q : Int) = acF ac q := by
  rw [zah false ac hq, acF, List.getD_eq_getElem?_getD, List.getElem?_eq_getElem hq]; rfl
end
theorem zdp : ∀ (m : Nat) (p l s : List Int), l.length = m → p.length = s.length → p.length + m + s.length ≤ 9000000000000000000 → Ev (fun k => slices_Reverse_int_int.l0 k (p ++ l ++ s) (p.length : Int) ((p.length : Int) + (m : Int) - 1)) (p ++ l.reverse ++ s) := by
  intro m
  induction m using Nat.strongRecOn with
  | ind m ih =>
    intro p l s hl hps hb
    rcases l with _ | ⟨a, l⟩
    · have : m = 0 := by simpa using hl.symm
      subst this
      exact Ev.step (fun k => by rw [slices_Reverse_int_int.l0]) (Ev.ncond (by omega) (Ev.fin (by simp)))
    rcases List.eq_nil_or_concat l with rfl | ⟨l, b, rfl⟩
    · have : m = 1 := by simpa using hl.symm
      subst this
      exact Ev.step (fun k => by rw [slices_Reverse_int_int.l0]) (Ev.ncond (by omega) (Ev.fin (by simp)))
    rw [List.concat_eq_append] at *
    have hm : m = l.length + 2 := by simp at hl; omega
    have e0 : p ++ (a :: (l ++ [b])) ++ s = p ++ [a] ++ l ++ [b] ++ s := by simp
    have r1 : rd (p ++ (a :: (l ++ [b])) ++ s) ((p.length : Int) + (m : Int) - 1) = b := by
      have e : (p.length : Int) + (m : Int) - 1 = ((p ++ [a] ++ l).length : Int) := by simp; omega
      rw [e0, e, zao]
      simp
    have r2 : rd (p ++ (a :: (l ++ [b])) ++ s) (p.length : Int) = a := by
      rw [zao]
      simp
    have st : ((p ++ (a :: (l ++ [b])) ++ s).set (p.length : Int).toNat b).set ((p.length : Int) + (m : Int) - 1).toNat a = (p ++ [b]) ++ l ++ ([a] ++ s) := by
      have e : ((p.length : Int) + (m : Int) - 1).toNat = (p ++ [b] ++ l).length := by simp; omega
      rw [e0, e, Int.toNat_natCast]
      have e1 : (p ++ [a] ++ l ++ [b] ++ s).set p.length b = p ++ [b] ++ l ++ [b] ++ s := by simp
      rw [e1]
      have e2 : (p ++ [b] ++ l ++ [b] ++ s) = (p ++ [b] ++ l) ++ (b :: s) := by simp
      rw [e2, List.set_append_right _ _ (Nat.le_refl _)]
      simp
    have q := ih l.length (by omega) (p ++ [b]) l ([a] ++ s) rfl (by simp; omega) (by simp; omega)
    refine Ev.step (fun k => by rw [slices_Reverse_int_int.l0]) ?_
    rw [r1, r2, st]
    have hlen : ((p ++ (a :: (l ++ [b])) ++ s).length : Int) = (p.length : Int) + (m : Int) + (s.length : Int) := by simp; omega
    rw [hlen, w64 (x := (p.length : Int) + 1) (by omega) (by omega), w64 (x := (p.length : Int) + (m : Int) - 1 - 1) (by omega) (by omega)]
    refine Ev.cond (by omega) (Ev.cond (by omega) (Ev.cond (by omega) (Ev.cond (by omega) (Ev.cond (by omega) ?_))))
    have e3 : ((p ++ [b]).length : Int) = (p.length : Int) + 1 := by simp
    have e4 : (p.length : Int) + 1 + (l.length : Int) - 1 = (p.length : Int) + (m : Int) - 1 - 1 := by omega
    rw [e3, e4] at q
    have e5 : p ++ [b] ++ l.reverse ++ ([a] ++ s) = p ++ (a :: (l ++ [b])).reverse ++ s := by simp
    rw [e5] at q
    exact q
theorem rev_ev (l : List Int) (h : l.length ≤ 9000000000000000000) : Ev (fun k => slices_Reverse_int_int.f k l) l.reverse := by
  refine Ev.congr (fun k => by rw [slices_Reverse_int_int.f]) ?_
  rw [w64 (by omega) (by omega)]
  have := zdp l.length [] l [] rfl rfl (by simp; omega)
  simpa using this
def toI (w : List Nat) : List Int := w.map Int.ofNat
structure Chain (ss : List S109) (ls : List Nat) (ws : List (List Nat)) : Prop where
  low : ∀ q ∈ ls, q < ss.length
  c0 : rd_T109 ss 0 = ⟨-1, -1⟩
  up : ∀ (k q : Nat) (w : List Nat), ls[k + 1]? = some q → ws[k + 1]? = some w → ∃ (k' p a : Nat) (u : List Nat), k' ≤ k ∧ ls[k']? = some p ∧ ws[k']? = some u ∧ w = u ++ [a] ∧ rd_T109 ss (q : Int) = ⟨(p : Int), (a : Int)⟩
theorem zdk {acc : Nat → Bool} {δ : Nat → Nat → Nat} {L n : Nat} {ss : List S109} {ls : List Nat} {ws : List (List Nat)} (M : Met acc δ L n ls ws) (C : Chain ss ls ws) :
    ∀ (k q : Nat) (w : List Nat) (x : List Int), ls[k]? = some q → ws[k]? = some w → x.length + k ≤ 1000000 → Ev (fun f => pick_way.l0 f ss x (q : Int)) (toI w ++ x.reverse) := by
  intro k
  induction k using Nat.strongRecOn with
  | ind k ih =>
    intro q w x h1 h2 hb
    have lo := C.low q (List.mem_of_getElem? h1)
    rcases k with _ | k
    · rw [M.h0.1] at h1
      rw [M.h0.2] at h2
      obtain rfl := Option.some.inj h1
      obtain rfl := Option.some.inj h2
      refine Ev.step (fun k => by rw [pick_way.l0]) (Ev.cond (by omega) (Ev.cond (by omega) (Ev.cond (by omega) ?_)))
      rw [show ((0 : Nat) : Int) = 0 from rfl, C.c0]
      exact Ev.ncond (by decide) (Ev.bind (rev_ev x (by omega)) (Ev.fin (by simp [toI])))
    · obtain ⟨k', p, a, u, hk, e1, e2, rfl, e3⟩ := C.up k q w h1 h2
      have q' := ih k' (by omega) p u (x ++ [(a : Int)]) e1 e2 (by simp; omega)
      refine Ev.step (fun k => by rw [pick_way.l0]) (Ev.cond (by omega) (Ev.cond (by omega) (Ev.cond (by omega) ?_)))
      rw [e3]
      refine Ev.cond (by show (a : Int) ≥ 0; omega) (Ev.cond (by omega) ?_)
      rw [show toI u ++ (x ++ [(a : Int)]).reverse = toI (u ++ [a]) ++ x.reverse by simp [toI]] at q'
      exact q'
theorem way_ev {acc : Nat → Bool} {δ : Nat → Nat → Nat} {L n : Nat} {ss : List S109} {ls : List Nat} {ws : List (List Nat)} (M : Met acc δ L n ls ws) (C : Chain ss ls ws) {k q a : Nat} {w : List Nat} (h1 : ls[k]? = some q) (h2 : ws[k]? = some w) (hk : k ≤ 1000) :
    Ev (fun f => pick_way.f f ss (q : Int) (a : Int)) (toI (w ++ [a])) := by
  refine Ev.congr (fun k => by rw [pick_way.f]) ?_
  have := zdk M C k q w [(a : Int)] h1 h2 (by simp; omega)
  rwa [show toI w ++ [(a : Int)].reverse = toI (w ++ [a]) by simp [toI]] at this
end Go.Proofs.Ytninoenmhcbonaa.Pure
namespace Go.Proofs.Ytninoenmhcbonaa.Pure
open Go.RowKit Go.Proofs.YtninoenmhcbonaaW.PrintWords Go.Proofs.YtninoenmhcbonaaW.PrintLast Go.Proofs.YtninoenmhcbonaaW.PrintMore Go.Proofs.Ytninoenmhcbonaa.X
set_option linter.unusedVariables false
structure Bf (ac : List Bool) (nx : List (List Int)) (L : Nat) (ls : List Nat) (ws : List (List Nat)) (ss : List S109) (mt : List Bool) (i a : Nat) : Prop where
  met : Met (acF ac) (dlF nx) L ac.length ls ws
  chain : Chain ss ls ws
  sl : ss.length = ac.length
  ml : mt.length = ac.length
  mark : ∀ q, q < ac.length → (rdOf false mt (q : Int) = true ↔ q ∈ ls)
  d1 : ∀ k b, k < i → b < L → Done (acF ac) (dlF nx) L ls ws k b
  d2 : ∀ b, b < a → Done (acF ac) (dlF nx) L ls ws i b
  top : ∀ (w : List Nat), ws[i]? = some w → ∀ (k : Nat) (u : List Nat), ws[k]? = some u → rkF L 0 u ≤ rkF L 0 w * L + a
def Ans (ac : List Bool) (nx : List (List Int)) (L : Nat) (r : List Int × Bool) : Prop :=
  (∃ w, IsLeast (acF ac) (dlF nx) L w ∧ w.length ≤ ac.length ∧ r = (toI w, true)) ∨ (zb0 (acF ac) (dlF nx) L ∧ r = ([], false))
section
variable {ns : List ByteArray} {ac : List Bool} {nx : List (List Int)} {L : Nat}
theorem zb3 {α : Type} (d : α) (l : List α) {p q : Nat} (v : α) (hp : p < l.length) : rdOf d (l.set p v) (q : Int) = if q = p then v else rdOf d l (q : Int) := by
  simp only [rdOf, Int.toNat_natCast, List.getD_eq_getElem?_getD]
  by_cases c : q = p
  · subst c; simp [hp]
  · rw [List.getElem?_set_ne (fun e => c e.symm), if_neg c]
theorem za1 (l : List S109) {p q : Nat} (v : S109) (hp : p < l.length) : rd_T109 (l.set p v) (q : Int) = if q = p then v else rd_T109 l (q : Int) := by
  simp only [rd_T109, Int.toNat_natCast, List.getD_eq_getElem?_getD]
  by_cases c : q = p
  · subst c; simp [hp]
  · rw [List.getElem?_set_ne (fun e => c e.symm), if_neg c]
theorem Bf.next (m : Mk ac nx L) {ls : List Nat} {ws : List (List Nat)} {ss : List S109} {mt : List Bool} {i : Nat} (B : Bf ac nx L ls ws ss mt i L) (hi : i + 1 ≤ ls.length) : Bf ac nx L ls ws ss mt (i + 1) 0 := by
  refine ⟨B.met, B.chain, B.sl, B.ml, B.mark, fun k b hk hb => ?_, fun b hb => absurd hb (Nat.not_lt_zero _), fun w hw k u hu => ?_⟩
  · rcases Nat.lt_or_eq_of_le (Nat.le_of_lt_succ hk) with c | c
    · exact B.d1 k b c hb
    · subst c; exact B.d2 b hb
  · obtain ⟨w0, h0⟩ : ∃ w0, ws[i]? = some w0 := ⟨_, List.getElem?_eq_getElem (by rw [B.met.len]; omega)⟩
    have h1 := B.top w0 h0 k u hu
    have h2 := B.met.up i (i + 1) w0 w (by omega) h0 hw
    have : (rkF L 0 w0 + 1) * L ≤ rkF L 0 w * L := Nat.mul_le_mul_right L h2
    rw [Nat.add_mul] at this
    omega
theorem Bf.old {ls : List Nat} {ws : List (List Nat)} {ss : List S109} {mt : List Bool} {i a q : Nat} (B : Bf ac nx L ls ws ss mt i a) (hq : ls[i]? = some q) (hacc : acF ac (dlF nx q a) = false) (hin : dlF nx q a ∈ ls) : Bf ac nx L ls ws ss mt i (a + 1) := by
  refine ⟨B.met, B.chain, B.sl, B.ml, B.mark, B.d1, fun b hb => ?_, fun w hw k u hu => by have := B.top w hw k u hu; omega⟩
  rcases Nat.lt_or_eq_of_le (Nat.le_of_lt_succ hb) with c | c
  · exact B.d2 b c
  · subst c
    intro q' w h1 h2
    rw [hq] at h1
    obtain rfl := Option.some.inj h1
    obtain ⟨k', hk', e⟩ := List.getElem_of_mem hin
    have hk2 : k' < ws.length := by rw [B.met.len]; exact hk'
    refine ⟨hacc, k', ws[k'], by rw [List.getElem?_eq_getElem hk', e], List.getElem?_eq_getElem hk2, ?_⟩
    have := B.top w h2 k' _ (List.getElem?_eq_getElem hk2)
    omega
theorem Bf.push (m : Mk ac nx L) {ls : List Nat} {ws : List (List Nat)} {ss : List S109} {mt : List Bool} {i a q : Nat} {wi : List Nat} (B : Bf ac nx L ls ws ss mt i a) (hq : ls[i]? = some q) (hw : ws[i]? = some wi) (ha : a < L) (hn : dlF nx q a < ac.length) (hacc : acF ac (dlF nx q a) = false) (hnew : ¬ dlF nx q a ∈ ls) :
    Bf ac nx L (ls ++ [dlF nx q a]) (ws ++ [wi ++ [a]]) (ss.set (dlF nx q a) ⟨(q : Int), (a : Int)⟩) (mt.set (dlF nx q a) true) i (a + 1) := by
  have il : i < ls.length := (List.getElem?_eq_some_iff.1 hq).1
  have M := B.met.push hq hw ha hn hnew (B.top wi hw)
  refine ⟨M, ⟨?_, ?_, ?_⟩, by rw [List.length_set]; exact B.sl, by rw [List.length_set]; exact B.ml, ?_, ?_, ?_, ?_⟩
  · intro z hz
    rw [List.length_set]
    rcases List.mem_append.1 hz with d | d
    · exact B.chain.low z d
    · rw [List.mem_singleton.1 d, B.sl]; exact hn
  · have := za1 ss (p := dlF nx q a) (q := 0) ⟨(q : Int), (a : Int)⟩ (by rw [B.sl]; exact hn)
    rw [show ((0 : Nat) : Int) = 0 from rfl] at this
    rw [this, if_neg, B.chain.c0]
    exact fun e => hnew (e ▸ List.mem_of_getElem? B.met.h0.1)
  · intro k p w h1 h2
    rcases zaf h1 with h1 | ⟨hk, rfl⟩
    · rcases zaf h2 with h2 | ⟨hk2, _⟩
      · obtain ⟨k', p', a', u, e1, e2, e3, e4, e5⟩ := B.chain.up k p w h1 h2
        refine ⟨k', p', a', u, e1, zad e2, zad e3, e4, ?_⟩
        rw [za1 ss _ (by rw [B.sl]; exact hn), if_neg, e5]
        exact fun e => hnew (e ▸ List.mem_of_getElem? h1)
      · have := (List.getElem?_eq_some_iff.1 h1).1; rw [hk2, B.met.len] at this; omega
    · rcases zaf h2 with h2 | ⟨_, rfl⟩
      · have := (List.getElem?_eq_some_iff.1 h2).1; rw [B.met.len] at this; omega
      · exact ⟨i, q, a, wi, by omega, zad hq, zad hw, rfl, by rw [za1 ss _ (by rw [B.sl]; exact hn), if_pos rfl]⟩
  · intro z hz
    rw [zb3 false mt true (by rw [B.ml]; exact hn), List.mem_append, List.mem_singleton]
    by_cases c : z = dlF nx q a
    · rw [if_pos c]; exact ⟨fun _ => Or.inr c, fun _ => rfl⟩
    · rw [if_neg c, B.mark z hz]; exact ⟨Or.inl, fun h => h.elim id (fun e => absurd e c)⟩
  · intro k b hk hb
    exact Done.ext (B.d1 k b hk hb) B.met.len (by omega)
  · intro b hb
    rcases Nat.lt_or_eq_of_le (Nat.le_of_lt_succ hb) with c | c
    · exact Done.ext (B.d2 b c) B.met.len il
    · subst c
      intro q' w h1 h2
      have h1' : q' = q := by
        have := zad (t := dlF nx q b) hq
        rw [this] at h1
        exact (Option.some.inj h1).symm
      have h2' : w = wi := by
        have := zad (t := wi ++ [b]) hw
        rw [this] at h2
        exact (Option.some.inj h2).symm
      subst h1' h2'
      exact ⟨hacc, ls.length, w ++ [b], by simp, by rw [← B.met.len]; simp, by rw [zam]; exact Nat.le_refl _⟩
  · intro w h2 k u hu
    have h2' : w = wi := by
      have := zad (t := wi ++ [a]) hw
      rw [this] at h2
      exact (Option.some.inj h2).symm
    subst h2'
    rcases zaf hu with hu | ⟨_, rfl⟩
    · have := B.top w hw k u hu; omega
    · rw [zam]; omega
theorem zbg (ls : List Nat) {i q : Nat} (h : ls[i]? = some q) : rd (toI ls) (i : Int) = (q : Int) := by
  obtain ⟨hi, e⟩ := List.getElem?_eq_some_iff.1 h
  rw [zbb (toI ls) (show i < (toI ls).length by simpa [toI] using hi)]
  simp [toI, e]
theorem zbq (m : Mk ac nx L) : ∀ (f i : Nat), i + f = ac.length → ∀ (g a : Nat), a + g = L → ∀ (ls : List Nat) (ws : List (List Nat)) (ss : List S109) (mt : List Bool) (q : Nat), Bf ac nx L ls ws ss mt i a → ls[i]? = some q →
    ∃ r, Ev (fun k => pick_shortest.l1 k ss mt (toI ls) (i : Int) (rd_L4 nx (q : Int)) ((rd_L4 nx (q : Int)).length : Int) (a : Int) ns ac nx) r ∧ Ans ac nx L r := by
  have n2 := m.n2
  have l2 := m.l2
  intro f
  induction f with
  | zero =>
    intro i hi g a _ ls ws ss mt q B hq
    have := B.met.size
    have := (List.getElem?_eq_some_iff.1 hq).1
    omega
  | succ f ihf =>
    intro i hi g
    induction g with
    | zero =>
      intro a hg ls ws ss mt q B hq
      have sz := B.met.size
      have il := (List.getElem?_eq_some_iff.1 hq).1
      obtain ⟨wi, hw⟩ : ∃ w, ws[i]? = some w := ⟨_, List.getElem?_eq_getElem (by rw [B.met.len]; exact il)⟩
      have qn := (B.met.run i q wi hq hw).2.2.1
      have row := (m.row qn).1
      obtain rfl : L = a := by omega
      have enter : ∀ r, Ev (fun k => pick_shortest.l0 k ss mt (toI ls) (((i + 1 : Nat)) : Int) ns ac nx) r → Ev (fun k => pick_shortest.l1 k ss mt (toI ls) (i : Int) (rd_L4 nx (q : Int)) ((rd_L4 nx (q : Int)).length : Int) (L : Int) ns ac nx) r := by
        intro r h
        refine Ev.step (fun k => by rw [pick_shortest.l1]) (Ev.ncond (by omega) ?_)
        rw [w64 (by omega) (by omega)]
        exact h
      by_cases c : i + 1 < ls.length
      · have B' := B.next m (by omega)
        obtain ⟨q2, hq2⟩ : ∃ q2, ls[i + 1]? = some q2 := ⟨_, List.getElem?_eq_getElem c⟩
        obtain ⟨r, hr, hA⟩ := ihf (i + 1) (by omega) L 0 (by omega) ls ws ss mt q2 B' hq2
        obtain ⟨w2, hw2⟩ : ∃ w, ws[i + 1]? = some w := ⟨_, List.getElem?_eq_getElem (by rw [B.met.len]; exact c)⟩
        have q2n := (B.met.run (i + 1) q2 w2 hq2 hw2).2.2.1
        refine ⟨r, enter r (Ev.step (fun k => by rw [pick_shortest.l0]) ?_), hA⟩
        rw [zbg ls hq2]
        have tl : ((toI ls).length : Int) = (ls.length : Int) := by simp [toI]
        have nl := m.len
        exact Ev.cond (by omega) (Ev.cond (by omega) (Ev.cond (by omega) (Ev.cond (by omega) hr)))
      · have tl : ((toI ls).length : Int) = (ls.length : Int) := by simp [toI]
        refine ⟨([], false), enter _ (Ev.step (fun k => by rw [pick_shortest.l0]) (Ev.ncond (by omega) (Ev.fin rfl))), Or.inr ⟨B.met.none (fun k b hk hb => ?_), rfl⟩⟩
        rcases Nat.lt_or_eq_of_le (show k ≤ i by omega) with d | d
        · exact B.d1 k b d hb
        · subst d; exact B.d2 b hb
    | succ g ihg =>
      intro a hg ls ws ss mt q B hq
      have sz := B.met.size
      have il := (List.getElem?_eq_some_iff.1 hq).1
      obtain ⟨wi, hw⟩ : ∃ w, ws[i]? = some w := ⟨_, List.getElem?_eq_getElem (by rw [B.met.len]; exact il)⟩
      have qr := B.met.run i q wi hq hw
      have row := m.row qr.2.2.1
      have ra := row.2 a (by omega)
      have tl : ((toI ls).length : Int) = (ls.length : Int) := by simp [toI]
      have sl := B.sl
      have ml := B.ml
      have aE : rdOf false ac ((dlF nx q a : Nat) : Int) = acF ac (dlF nx q a) := m.acc ra.2
      by_cases c1 : acF ac (dlF nx q a) = true
      · refine ⟨(toI (wi ++ [a]), true), ?_, Or.inl ⟨wi ++ [a], B.met.found hq hw (by omega) B.d1 B.d2 c1, by rw [List.length_append]; have := qr.2.2.2; simp; omega, rfl⟩⟩
        refine Ev.step (fun k => by rw [pick_shortest.l1]) (Ev.cond (by omega) (Ev.cond (by omega) (Ev.cond (by omega) ?_)))
        rw [ra.1, aE, zbg ls hq]
        exact Ev.cond (by omega) (Ev.cond (by omega) (Ev.cond c1 (Ev.cond (by omega) (Ev.cond (by omega) (Ev.bind (way_ev B.met B.chain hq hw (by omega)) (Ev.fin rfl))))))
      have c1' : acF ac (dlF nx q a) = false := by simpa using c1
      by_cases c2 : rdOf false mt ((dlF nx q a : Nat) : Int) = true
      · obtain ⟨r, hr, hA⟩ := ihg (a + 1) (by omega) ls ws ss mt q (B.old hq c1' ((B.mark _ ra.2).1 c2)) hq
        refine ⟨r, Ev.step (fun k => by rw [pick_shortest.l1]) (Ev.cond (by omega) (Ev.cond (by omega) (Ev.cond (by omega) ?_))), hA⟩
        rw [ra.1, aE, w64 (x := (a : Int) + 1) (by omega) (by omega)]
        exact Ev.cond (by omega) (Ev.cond (by omega) (Ev.ncond c1 (Ev.cond (by omega) (Ev.cond c2 hr))))
      · have B' := B.push m hq hw (by omega) ra.2 c1' (fun e => c2 ((B.mark _ ra.2).2 e))
        obtain ⟨r, hr, hA⟩ := ihg (a + 1) (by omega) _ _ _ _ q B' (zad hq)
        refine ⟨r, Ev.step (fun k => by rw [pick_shortest.l1]) (Ev.cond (by omega) (Ev.cond (by omega) (Ev.cond (by omega) ?_))), hA⟩
        have tp : toI ls ++ [((dlF nx q a : Nat) : Int)] = toI (ls ++ [dlF nx q a]) := by simp [toI]
        rw [ra.1, aE, zbg ls hq, w64 (x := (a : Int) + 1) (by omega) (by omega), tp, Int.toNat_natCast]
        exact Ev.cond (by omega) (Ev.cond (by omega) (Ev.ncond c1 (Ev.cond (by omega) (Ev.ncond c2 (Ev.cond (by omega) (Ev.cond (by omega) (Ev.cond (by omega) (Ev.cond (by omega) hr))))))))
theorem zb9 (m : Mk ac nx L) : ∃ r, Ev (fun k => pick_shortest.f k ns ac nx) r ∧ Ans ac nx L r := by
  have n1 := m.n1
  have n2 := m.n2
  have B : Bf ac nx L [0] [[]] ((List.replicate ac.length z109).set 0 ⟨-1, -1⟩) ((List.replicate ac.length false).set 0 true) 0 0 := by
    refine ⟨⟨rfl, ⟨rfl, rfl⟩, ?_, ?_, by simp⟩, ⟨?_, ?_, ?_⟩, by simp, by simp, ?_, fun k b hk => absurd hk (Nat.not_lt_zero _), fun b hb => absurd hb (Nat.not_lt_zero _), ?_⟩
    · intro k q w h1 h2
      rcases k with _ | k
      · simp at h1 h2; subst h1 h2; exact ⟨rfl, by simp [Let], by omega, Nat.le_refl _⟩
      · simp at h1
    · intro k k' w w' hk h1 h2
      rcases k' with _ | k'
      · omega
      · simp at h2
    · intro q hq; rw [List.mem_singleton.1 hq]; simp; omega
    · have := za1 (List.replicate ac.length z109) (p := 0) (q := 0) ⟨-1, -1⟩ (by simp; omega)
      exact this
    · intro k q w h1; simp at h1
    · intro q hq
      rw [zb3 false _ true (by simp; omega)]
      by_cases c : q = 0
      · rw [if_pos c]; simp [c]
      · rw [if_neg c]
        have : rdOf false (List.replicate ac.length false) (q : Int) = false := by rw [zah false _ (by simpa using hq)]; simp
        rw [this]; simp [c]
    · intro w hw k u hu
      rcases k with _ | k
      · simp at hw hu; subst hw hu; simp [rkF]
      · simp at hu
  obtain ⟨r, hr, hA⟩ := zbq (ns := ns) m ac.length 0 (by omega) L 0 (by omega) _ _ _ _ 0 B rfl
  refine ⟨r, Ev.congr (fun k => by rw [pick_shortest.f]) ?_, hA⟩
  refine Ev.cond (by omega) (Ev.cond (by omega) ?_)
  refine Ev.ret rfl ?_
  refine Ev.cond (by omega) ?_
  refine Ev.ret rfl ?_
  refine Ev.cond (by simp; omega) (Ev.cond (by simp; omega) (Ev.step (fun k => by rw [pick_shortest.l0]) ?_))
  have nl := m.len
  exact Ev.cond (by simp) (Ev.cond (by simp) (Ev.cond (by simp [rd]) (Ev.cond (by simp [rd]; omega) hr)))
end
end Go.Proofs.Ytninoenmhcbonaa.Pure
namespace Go.Proofs.Ytninoenmhcbonaa.Pure
open Go.RowKit Go.Proofs.YtninoenmhcbonaaW.PrintWords Go.Proofs.YtninoenmhcbonaaW.PrintLast Go.Proofs.YtninoenmhcbonaaW.PrintMore Go.Proofs.Ytninoenmhcbonaa.X
set_option linter.unusedVariables false
section
variable {ns : List ByteArray} {ac : List Bool} {nx : List (List Int)} {L : Nat}
def accL (ac : List Bool) (nx : List (List Int)) (L n : Nat) : List Bool := (List.range ac.length).map (accN (acF ac) (dlF nx) L n)
theorem zak (n : Nat) : (accL ac nx L n).length = ac.length := by simp [accL]
theorem za0 (n : Nat) {q : Nat} (hq : q < ac.length) : rdOf false (accL ac nx L n) (q : Int) = accN (acF ac) (dlF nx) L n q := by
  rw [zah false _ (show q < (accL ac nx L n).length by rw [zak]; exact hq)]; simp [accL]
theorem zdc : accL ac nx L 0 = ac := by
  refine List.ext_getElem (by rw [zak]) (fun q h1 h2 => ?_)
  simp [accL, accN, acF, List.getD_eq_getElem?_getD, List.getElem?_eq_getElem h2]
def beh (f : Nat → Bool) (n q : Nat) (b : Bool) : List Bool := (List.range n).map fun p => if p < q then f p else if p = q then b else false
theorem zcd (f : Nat → Bool) (n q : Nat) (b : Bool) : (beh f n q b).length = n := by simp [beh]
theorem zec (f : Nat → Bool) {n q : Nat} (b : Bool) (hq : q < n) : rdOf false (beh f n q b) (q : Int) = b := by
  rw [zah false _ (show q < (beh f n q b).length by rw [zcd]; exact hq)]; simp [beh]
theorem zck (f : Nat → Bool) {n q : Nat} (b c : Bool) (hq : q < n) : (beh f n q b).set q c = beh f n q c := by
  refine List.ext_getElem (by simp [beh]) (fun p h1 h2 => ?_)
  rw [List.getElem_set]
  by_cases d : q = p
  · subst d; simp [beh]
  · have d' : ¬ p = q := fun e => d e.symm
    rw [if_neg d]; simp [beh, d']
theorem zdv (f : Nat → Bool) {n q : Nat} : beh f n q (f q) = beh f n (q + 1) false := by
  refine List.ext_getElem (by simp [beh]) (fun p h1 h2 => ?_)
  simp only [beh, List.getElem_map, List.getElem_range]
  rcases Nat.lt_trichotomy p q with c | c | c
  · rw [if_pos c, if_pos (by omega)]
  · subst c; rw [if_neg (by omega), if_pos rfl, if_pos (by omega)]
  · rw [if_neg (by omega), if_neg (by omega), if_neg (by omega), ite_self]
theorem zd1 (f : Nat → Bool) (n : Nat) (b : Bool) : beh f n n b = (List.range n).map f := by
  refine List.ext_getElem (by simp [beh]) (fun p h1 h2 => ?_)
  have : p < n := by simpa [beh] using h1
  simp [beh, this]
theorem zdo (f : Nat → Bool) (n : Nat) : beh f n 0 false = List.replicate n false := by
  refine List.ext_getElem (by simp [beh]) (fun p h1 h2 => ?_)
  simp [beh]
theorem zdh (g : Nat → Bool) (a : Nat) : ((List.range (a + 1)).any g) = ((List.range a).any g || g a) := by
  rw [List.range_succ, List.any_append]; simp
theorem zda (m : Mk ac nx L) (n : Nat) : Ev (fun k => tabardref19_behind.f k ns ac nx (accL ac nx L n)) (accL ac nx L (n + 1)) := by
  have n2 := m.n2
  have l2 := m.l2
  have nl := m.len
  have al := zak (ac := ac) (nx := nx) (L := L) n
  let f := accN (acF ac) (dlF nx) L (n + 1)
  have fE : ∀ q, f q = (List.range L).any (fun a => accN (acF ac) (dlF nx) L n (dlF nx q a)) := fun q => rfl
  have outer : ∀ (u q : Nat), q + u = ac.length → Ev (fun k => tabardref19_behind.l0 k (accL ac nx L n) (beh f ac.length q false) (q : Int) ns ac nx) (accL ac nx L (n + 1)) := by
    intro u
    induction u with
    | zero =>
      intro q hq
      obtain rfl : q = ac.length := by omega
      exact Ev.step (fun k => by rw [tabardref19_behind.l0]) (Ev.ncond (by omega) (Ev.fin (zd1 f _ false)))
    | succ u ih =>
      intro q hq
      have qn : q < ac.length := by omega
      have row := m.row qn
      have inner : ∀ (g a : Nat), a + g = L → Ev (fun k => tabardref19_behind.l1 k (accL ac nx L n) (beh f ac.length q ((List.range a).any fun b => accN (acF ac) (dlF nx) L n (dlF nx q b))) (q : Int) (a : Int) ns ac nx) (accL ac nx L (n + 1)) := by
        intro g
        induction g with
        | zero =>
          intro a ha
          obtain rfl : L = a := by omega
          refine Ev.step (fun k => by rw [tabardref19_behind.l1]) (Ev.cond (by omega) (Ev.cond (by omega) (Ev.ncond (by omega) ?_)))
          rw [w64 (by omega) (by omega), ← fE, zdv]
          exact ih (q + 1) (by omega)
        | succ g ihg =>
          intro a ha
          have ra := row.2 a (by omega)
          have nx' := ihg (a + 1) (by omega)
          rw [zdh] at nx'
          refine Ev.step (fun k => by rw [tabardref19_behind.l1]) (Ev.cond (by omega) (Ev.cond (by omega) (Ev.cond (by omega) (Ev.cond (by rw [zcd]; omega) ?_))))
          rw [zec f _ qn, ra.1, za0 n ra.2, Int.toNat_natCast, zck f _ _ qn, zck f _ _ qn, w64 (x := (a : Int) + 1) (by omega) (by omega)]
          by_cases c : ((List.range a).any fun b => accN (acF ac) (dlF nx) L n (dlF nx q b)) = true
          · rw [c, Bool.true_or] at nx'
            exact Ev.cond c nx'
          · have c' : ((List.range a).any fun b => accN (acF ac) (dlF nx) L n (dlF nx q b)) = false := by simpa using c
            rw [c', Bool.false_or] at nx'
            exact Ev.ncond c (Ev.cond (by omega) (Ev.cond (by omega) (Ev.cond (by rw [al]; omega) nx')))
      refine Ev.step (fun k => by rw [tabardref19_behind.l0]) (Ev.cond (by omega) ?_)
      exact inner L 0 (by omega)
  refine Ev.congr (fun k => by rw [tabardref19_behind.f]) (Ev.cond (by omega) (Ev.cond (by omega) ?_))
  have := outer ac.length 0 (by omega)
  rw [zdo] at this
  rw [Int.toNat_natCast, al]
  exact this
def zac (ac : List Bool) (nx : List (List Int)) (L n : Nat) : List (List Bool) := (List.range (n + 1)).map (accL ac nx L)
theorem zan (n : Nat) : (zac ac nx L n).length = n + 1 := by simp [zac]
theorem zat {n j : Nat} (h : j ≤ n) : rd_L6 (zac ac nx L n) (j : Int) = accL ac nx L j := by
  have h' : j < (zac ac nx L n).length := by rw [zan]; omega
  simp only [rd_L6, Int.toNat_natCast, List.getD_eq_getElem?_getD, List.getElem?_eq_getElem h', Option.getD_some]
  simp [zac]
theorem zcn (n : Nat) : zac ac nx L (n + 1) = zac ac nx L n ++ [accL ac nx L (n + 1)] := by
  rw [zac, List.range_succ, List.map_append]; rfl
theorem pickL (m : Mk ac nx L) (N : Nat) (hN : N ≤ ac.length) : ∀ (j : Nat), j ≤ N → ∀ (q : Nat) (x : List Nat), q < ac.length → accN (acF ac) (dlF nx) L j q = true → x.length + j ≤ 100000 →
    ∃ w, Greedy (acF ac) (dlF nx) L j q w ∧ Ev (fun k => tabardref19_Shortest.l1 k (zac ac nx L N) (j : Int) (toI x) (q : Int) ns ac nx) (toI (x ++ w)) := by
  have n2 := m.n2
  have l2 := m.l2
  have nl := m.len
  intro j
  induction j with
  | zero =>
    intro _ q x _ h _
    exact ⟨[], .nil q h, Ev.step (fun k => by rw [tabardref19_Shortest.l1]) (Ev.ncond (by omega) (Ev.fin (by simp)))⟩
  | succ j ih =>
    intro hj q x hq h hx
    have row := m.row hq
    have key : ∀ (g a : Nat), a + g = L → (∀ b, b < a → accN (acF ac) (dlF nx) L j (dlF nx q b) = false) → ∃ w, Greedy (acF ac) (dlF nx) L (j + 1) q w ∧ Ev (fun k => tabardref19_Shortest.l2 k (zac ac nx L N) (j : Int) (toI x) (q : Int) (a : Int) ns ac nx) (toI (x ++ w)) := by
      intro g
      induction g with
      | zero =>
        intro a ha hb
        obtain rfl : L = a := by omega
        rw [accN, List.any_eq_true] at h
        obtain ⟨b, h1, h2⟩ := h
        rw [hb b (List.mem_range.1 h1)] at h2
        cases h2
      | succ g ihg =>
        intro a ha hb
        have ra := row.2 a (by omega)
        have ll := zan (ac := ac) (nx := nx) (L := L) N
        have al := zak (ac := ac) (nx := nx) (L := L) j
        have tx : (toI x).length = x.length := by simp [toI]
        have enter : ∀ {r : List Int} {f : Nat → Option (List Int)}, Ev f r → (∀ k, (if (accN (acF ac) (dlF nx) L j (dlF nx q a) = true) then (if (toI x).length < 17592186044416 then (tabardref19_Shortest.l1 k (zac ac nx L N) (j : Int) (toI (x ++ [a])) ((dlF nx q a : Nat) : Int) ns ac nx) else (none)) else (tabardref19_Shortest.l2 k (zac ac nx L N) (j : Int) (toI x) (q : Int) ((a + 1 : Nat) : Int) ns ac nx)) = f k) →
            Ev (fun k => tabardref19_Shortest.l2 k (zac ac nx L N) (j : Int) (toI x) (q : Int) (a : Int) ns ac nx) r := by
          intro r f hf he
          refine Ev.step (fun k => by rw [tabardref19_Shortest.l2]) (Ev.cond (by omega) (Ev.cond (by omega) (Ev.cond (by omega) (Ev.cond (by omega) (Ev.cond (by omega) (Ev.cond (by omega) ?_))))))
          rw [zat (show j ≤ N by omega), ra.1, za0 j ra.2, w64 (by omega) (by omega)]
          refine Ev.cond (by omega) (Ev.cond (by rw [al]; omega) ?_)
          have tp : toI x ++ [(a : Int)] = toI (x ++ [a]) := by simp [toI]
          rw [tp]
          exact Ev.congr he hf
        by_cases c : accN (acF ac) (dlF nx) L j (dlF nx q a) = true
        · obtain ⟨w, h1, h2⟩ := ih (by omega) (dlF nx q a) (x ++ [a]) ra.2 c (by simp; omega)
          refine ⟨a :: w, .cons j q a w (by omega) hb h1, ?_⟩
          rw [show x ++ a :: w = x ++ [a] ++ w by simp]
          exact enter h2 (fun k => by rw [if_pos c, if_pos (by omega)])
        · obtain ⟨w, h1, h2⟩ := ihg (a + 1) (by omega) (fun b hb' => by
            rcases Nat.lt_or_eq_of_le (Nat.le_of_lt_succ hb') with d | d
            · exact hb b d
            · subst d; simpa using c)
          exact ⟨w, h1, enter h2 (fun k => by rw [if_neg c])⟩
    obtain ⟨w, h1, h2⟩ := key L 0 (by omega) (fun b hb => absurd hb (Nat.not_lt_zero _))
    refine ⟨w, h1, Ev.step (fun k => by rw [tabardref19_Shortest.l1]) (Ev.cond (by omega) ?_)⟩
    rw [w64 (by omega) (by omega), show ((j + 1 : Nat) : Int) - 1 = (j : Int) by omega]
    exact h2
def RAns (ac : List Bool) (nx : List (List Int)) (L : Nat) (r : List Int) : Prop :=
  (∃ w, IsLeast (acF ac) (dlF nx) L w ∧ r = toI w) ∨ ((∀ n, 1 ≤ n → n ≤ ac.length → accN (acF ac) (dlF nx) L n 0 = false) ∧ r = [])
theorem zbv (m : Mk ac nx L) {N : Nat} (h1 : 1 ≤ N) (h2 : N ≤ ac.length) (hl : ∀ n, 1 ≤ n → n < N → accN (acF ac) (dlF nx) L n 0 = false) (ho : accN (acF ac) (dlF nx) L N 0 = true ∨ N = ac.length) :
    ∃ r, Ev (fun k => tabardref19_Shortest.j1 k (zac ac nx L N) ns ac nx) r ∧ RAns ac nx L r := by
  have n1 := m.n1
  have n2 := m.n2
  have nl := m.len
  have ll := zan (ac := ac) (nx := nx) (L := L) N
  have al := zak (ac := ac) (nx := nx) (L := L) N
  have enter : ∀ {r : List Int} {f : Nat → Option (List Int)}, Ev f r → (∀ k, (if (accN (acF ac) (dlF nx) L N 0 = true) then (tabardref19_Shortest.l1 k (zac ac nx L N) (N : Int) ([] : List Int) 0 ns ac nx) else (some ([] : List Int))) = f k) → Ev (fun k => tabardref19_Shortest.j1 k (zac ac nx L N) ns ac nx) r := by
    intro r f hf he
    refine Ev.step (fun k => by rw [tabardref19_Shortest.j1]) ?_
    rw [ll, w64 (by omega) (by omega), show ((N + 1 : Nat) : Int) - 1 = (N : Int) by omega, zat (Nat.le_refl N)]
    have a0 := za0 (ac := ac) (nx := nx) (L := L) N (q := 0) (by omega)
    rw [show ((0 : Nat) : Int) = 0 from rfl] at a0
    rw [a0]
    exact Ev.cond (by omega) (Ev.cond (by omega) (Ev.cond (by omega) (Ev.congr he hf)))
  by_cases c : accN (acF ac) (dlF nx) L N 0 = true
  · obtain ⟨w, g, hw⟩ := pickL (ns := ns) m N h2 N (Nat.le_refl N) 0 [] (by omega) c (by simp; omega)
    rw [List.nil_append] at hw
    obtain ⟨p, rfl⟩ : ∃ p, N = p + 1 := ⟨N - 1, by omega⟩
    exact ⟨toI w, enter hw (fun k => by rw [if_pos c]; rfl), Or.inl ⟨w, g.isLeast (fun n h3 h4 => hl n h3 (by omega)), rfl⟩⟩
  · refine ⟨[], enter (Ev.fin rfl) (fun k => by rw [if_neg c]), Or.inr ⟨fun n h3 h4 => ?_, rfl⟩⟩
    rcases ho with ho | ho
    · exact absurd ho c
    · rcases Nat.lt_or_eq_of_le h4 with d | d
      · exact hl n h3 (by omega)
      · subst d; rw [← ho]; simpa using c
theorem zc8 (m : Mk ac nx L) : ∃ r, Ev (fun k => tabardref19_Shortest.f k ns ac nx) r ∧ RAns ac nx L r := by
  have n1 := m.n1
  have n2 := m.n2
  have nl := m.len
  have key : ∀ (u n : Nat), n + u = ac.length → (∀ i, 1 ≤ i → i ≤ n → accN (acF ac) (dlF nx) L i 0 = false) → ∃ r, Ev (fun k => tabardref19_Shortest.l0 k (zac ac nx L n) ((n + 1 : Nat) : Int) ns ac nx) r ∧ RAns ac nx L r := by
    intro u
    induction u with
    | zero =>
      intro n hn hl
      obtain rfl : n = ac.length := by omega
      obtain ⟨r, hr, hA⟩ := zbv (ns := ns) m n1 (Nat.le_refl _) (fun i h1 h2 => hl i h1 (by omega)) (Or.inr rfl)
      exact ⟨r, Ev.step (fun k => by rw [tabardref19_Shortest.l0]) (Ev.ncond (by omega) hr), hA⟩
    | succ u ih =>
      intro n hn hl
      have ll := zan (ac := ac) (nx := nx) (L := L) n
      have ll' := zan (ac := ac) (nx := nx) (L := L) (n + 1)
      have al := zak (ac := ac) (nx := nx) (L := L) (n + 1)
      have enter : ∀ {r : List Int} {f : Nat → Option (List Int)}, Ev f r → (∀ k, (if accN (acF ac) (dlF nx) L (n + 1) 0 = true then (tabardref19_Shortest.j1 k (zac ac nx L (n + 1)) ns ac nx) else (tabardref19_Shortest.l0 k (zac ac nx L (n + 1)) ((n + 1 + 1 : Nat) : Int) ns ac nx)) = f k) → Ev (fun k => tabardref19_Shortest.l0 k (zac ac nx L n) ((n + 1 : Nat) : Int) ns ac nx) r := by
        intro r f hf he
        refine Ev.step (fun k => by rw [tabardref19_Shortest.l0]) ?_
        rw [w64 (x := ((n + 1 : Nat) : Int) - 1) (by omega) (by omega), show ((n + 1 : Nat) : Int) - 1 = (n : Int) by omega, zat (Nat.le_refl n), w64 (x := ((n + 1 : Nat) : Int) + 1) (by omega) (by omega), show ((n + 1 : Nat) : Int) + 1 = ((n + 1 + 1 : Nat) : Int) by omega]
        refine Ev.cond (by omega) (Ev.cond (by omega) (Ev.cond (by omega) (Ev.bind (zda m n) (Ev.cond (by omega) ?_))))
        refine Ev.ret rfl ?_
        rw [← zcn, zat (Nat.le_refl (n + 1))]
        have a0 := za0 (ac := ac) (nx := nx) (L := L) (n + 1) (q := 0) (by omega)
        rw [show ((0 : Nat) : Int) = 0 from rfl] at a0
        rw [a0]
        exact Ev.cond (by omega) (Ev.cond (by omega) (Ev.cond (by omega) (Ev.congr he hf)))
      by_cases c : accN (acF ac) (dlF nx) L (n + 1) 0 = true
      · obtain ⟨r, hr, hA⟩ := zbv (ns := ns) m (show 1 ≤ n + 1 by omega) (by omega) (fun i h1 h2 => hl i h1 (by omega)) (Or.inl c)
        exact ⟨r, enter hr (fun k => by rw [if_pos c]), hA⟩
      · obtain ⟨r, hr, hA⟩ := ih (n + 1) (by omega) (fun i h1 h2 => by
          rcases Nat.lt_or_eq_of_le h2 with d | d
          · exact hl i h1 (by omega)
          · subst d; simpa using c)
        exact ⟨r, enter hr (fun k => by rw [if_neg c]), hA⟩
  obtain ⟨r, hr, hA⟩ := key ac.length 0 (by omega) (fun i h1 h2 => by omega)
  refine ⟨r, Ev.congr (fun k => by rw [tabardref19_Shortest.f]) ?_, hA⟩
  have e : zac ac nx L 0 = [ac] := by simp [zac, zdc]
  rw [e] at hr
  exact hr
theorem both (m : Mk ac nx L) {r : List Int × Bool} {q : List Int} (h : Ans ac nx L r) (h' : RAns ac nx L q) : r.1 = q ∧ (r.2 = true ↔ q ≠ []) := by
  rcases h with ⟨w, hw, hl, rfl⟩ | ⟨hn, rfl⟩
  · have wn : toI w ≠ [] := by simp [toI, hw.ne]
    rcases h' with ⟨v, hv, rfl⟩ | ⟨h0, rfl⟩
    · rw [hw.unique hv]
      rw [hw.unique hv] at wn
      exact ⟨rfl, by simp [wn]⟩
    · have := h0 w.length (by rcases w with _ | ⟨a, w⟩; exact absurd rfl hw.ne; simp) hl
      rw [(zar w.length 0).2 ⟨w, rfl, hw.lets, hw.tk⟩] at this
      cases this
  · rcases h' with ⟨v, hv, rfl⟩ | ⟨_, rfl⟩
    · exact (hv.not_none hn).elim
    · exact ⟨rfl, by simp⟩
end
end Go.Proofs.Ytninoenmhcbonaa.Pure
namespace Go.Proofs.Ytninoenmhcbonaa.Pure
open Go.RowKit Go.Proofs.YtninoenmhcbonaaW.PrintWords Go.Proofs.YtninoenmhcbonaaW.PrintLast Go.Proofs.YtninoenmhcbonaaW.PrintMore Go.Proofs.Ytninoenmhcbonaa.X
set_option linter.unusedVariables false
section
variable {ns : List ByteArray} {ac : List Bool} {st : List Int} {ar : List S73}
theorem AOk.mach (a : AOk ns ac st ar) : Mk ac (rows ns.length st ar ac.length) (2 ^ ns.length) := by
  refine ⟨za4 .., a.fr.n1, a.fr.n2, Nat.two_pow_pos _, pow6 a.fr.tr, fun r hr => ?_⟩
  obtain ⟨q, hq, rfl⟩ := List.mem_map.1 hr
  have hq := List.mem_range.1 hq
  exact ⟨zab .., fun x hx => ⟨UnpOk.mem (a.unp q hq).pos x hx, a.low q hq x hx⟩⟩
theorem zc3 (hs : SZ ns) (ha : ar.length ≤ 9000000000000000000) (hn : ns.length * 16 ≤ 140737488351232) (a : AOk ns ac st ar) {r : List Int × Bool} (hr : Ev (fun k => pick_shortest.f k ns ac (rows ns.length st ar ac.length)) r) :
    Ev (fun k => pick_Shortest.f k ns ac st ar) (if r.2 = true then (r.1, 0) else ([], 190)) := by
  refine Ev.congr (fun k => by rw [pick_Shortest.f]) (Ev.bind (za8 hs ha hn a) (Ev.cond rfl (Ev.bind hr ?_)))
  by_cases c : r.2 = true
  · rw [show (if r.2 = true then (r.1, (0 : Int)) else ([], 190)) = (r.1, 0) from if_pos c]; exact Ev.cond c (Ev.fin rfl)
  · rw [show (if r.2 = true then (r.1, (0 : Int)) else ([], 190)) = ([], 190) from if_neg c]; exact Ev.ncond c (Ev.fin rfl)
theorem zc4 (hs : SZ ns) (ha : ar.length ≤ 9000000000000000000) (hn : ns.length * 16 ≤ 140737488351232) (a : AOk ns ac st ar) {r : List Int × Bool} (hr : Ev (fun k => pick_shortest.f k ns ac (rows ns.length st ar ac.length)) r) :
    Ev (fun k => pick_Empty.f k ns ac st ar) (!r.2, 0) := by
  refine Ev.congr (fun k => by rw [pick_Empty.f]) (Ev.bind (za8 hs ha hn a) ?_)
  refine Ev.cond rfl ?_
  exact Ev.bind hr (Ev.fin rfl)
theorem zc0 (hs : SZ ns) (ha : ar.length ≤ 9000000000000000000) (hc : ac.length ≤ 9000000000000000000) (hst : st.length ≤ 9000000000000000000) (a : ¬ AOk ns ac st ar) : Ev (fun k => pick_Shortest.f k ns ac st ar) ([], 3) := by
  refine Ev.congr (fun k => by rw [pick_Shortest.f]) (Ev.bind (zba hs ha hc hst a) ?_)
  exact Ev.ncond (by decide) (Ev.fin rfl)
theorem zdb (hs : SZ ns) (ha : ar.length ≤ 9000000000000000000) (hc : ac.length ≤ 9000000000000000000) (hst : st.length ≤ 9000000000000000000) (a : ¬ AOk ns ac st ar) : Ev (fun k => pick_Empty.f k ns ac st ar) (false, 3) := by
  refine Ev.congr (fun k => by rw [pick_Empty.f]) (Ev.bind (zba hs ha hc hst a) ?_)
  exact Ev.ncond (by decide) (Ev.fin rfl)
theorem zbe : Ev (fun k => tabardlaw19_fixed.f k) true := Ev.of tabardlaw19_fixed.mono (show tabardlaw19_fixed.f 100 = some true by decide +kernel)
theorem zc2 (l : List Int) (h : l.length ≤ 9000000000000000000) : Ev (fun k => tabardlaw19_ints.f k l l) true := by
  refine Ev.congr (fun k => by rw [tabardlaw19_ints.f]) (Ev.cond rfl ?_)
  have key : ∀ (m i : Nat), i + m = l.length → Ev (fun k => tabardlaw19_ints.l0 k l l (l.length : Int) (i : Int)) true := by
    intro m
    induction m with
    | zero => intro i hi; exact Ev.step (fun k => by rw [tabardlaw19_ints.l0]) (Ev.ncond (by omega) (Ev.fin rfl))
    | succ m ih =>
      intro i hi
      refine Ev.step (fun k => by rw [tabardlaw19_ints.l0]) (Ev.cond (by omega) (Ev.cond (by omega) (Ev.cond (by omega) (Ev.cond (by omega) (Ev.cond rfl ?_)))))
      rw [w64 (by omega) (by omega)]
      exact ih (i + 1) (by omega)
  exact key l.length 0 (by omega)
end
end Go.Proofs.Ytninoenmhcbonaa.Pure
namespace Go.Proofs.Ytninoenmhcbonaa.Pure
open Go.RowKit Go.Proofs.YtninoenmhcbonaaW.PrintWords Go.Proofs.YtninoenmhcbonaaW.PrintLast Go.Proofs.YtninoenmhcbonaaW.PrintMore Go.Proofs.Ytninoenmhcbonaa.X
set_option linter.unusedVariables false
theorem PickShortest (ns : List ByteArray) (h0 : ns.length * 16 ≤ 140737488351232) (q0 : ∀ x ∈ ns, x.size ≤ maxLen) (ac : List Bool) (h1 : ac.length * 1 ≤ 140737488351232) (q1 : ∀ x ∈ ac, True) (st : List Int) (h2 : st.length * 8 ≤ 140737488351232) (q2 : ∀ x ∈ st, (Lit.int .i64 x).wf = true) (ar : List S73) (h3 : ar.length * 24 ≤ 140737488351232) (q3 : ∀ x ∈ ar, True) :
    ∃ k, tabardlaw19_PickShortest.f k ns ac st ar = some true := by
  have hs : SZ ns := fun x hx => q0 x hx
  have ha : ar.length ≤ 9000000000000000000 := by omega
  have hc : ac.length ≤ 9000000000000000000 := by omega
  have ht : st.length ≤ 9000000000000000000 := by omega
  have s := zc6 (t0 := ns) (u0 := ns) (t1 := ac) (u1 := ac) (t2 := st) (u2 := st) (t3 := ar) (u3 := ar) (by omega) (by omega) (by omega) (by omega)
  rw [decide_eq_true ⟨rfl, rfl, rfl, rfl⟩] at s
  refine Ev.rounds (Ev.congr (fun k => by rw [tabardlaw19_PickShortest.f]) (Ev.ret (zdg h0 h1 h2 h3) ?_))
  by_cases a : AOk ns ac st ar
  · have m := a.mach
    have n2 := a.fr.n2
    obtain ⟨r, hr, hA⟩ := zb9 (ns := ns) m
    obtain ⟨q, hq, hB⟩ := zc8 (ns := ns) m
    obtain ⟨b1, b2⟩ := both m hA hB
    refine Ev.bind (zc3 hs ha h0 a hr) (Ev.bind (zc4 hs ha h0 a hr) (Ev.bind zbe (Ev.cond rfl (Ev.bind s ?_))))
    refine Ev.step (fun k => by rw [tabardlaw19_PickShortest.j0]) (Ev.ncond (by decide) (Ev.bind (zcj hs h0 (by omega) (fun _ => rfl) (fun z => absurd a z)) (Ev.cond rfl (Ev.bind hq ?_))))
    by_cases c : r.2 = true
    · have qn := b2.1 c
      have ql : ¬ (q.length : Int) = 0 := fun e => qn (List.eq_nil_of_length_eq_zero (by omega))
      rw [if_pos c, c, b1]
      refine Ev.ncond ql ?_
      refine Ev.bind (zc2 q ?_) ?_
      · rcases hB with ⟨w, hw, rfl⟩ | ⟨_, rfl⟩
        · rcases hA with ⟨v, hv, hl, _⟩ | ⟨hn, _⟩
          · rw [hv.unique hw] at hl
            simp [toI]; omega
          · exact (hw.not_none hn).elim
        · exact absurd rfl qn
      · refine Ev.cond rfl ?_
        refine Ev.ncond (by decide) ?_
        exact Ev.cond rfl (Ev.fin rfl)
    · have q0' : q = [] := Classical.byContradiction fun e => c (b2.2 e)
      subst q0'
      rw [if_neg c, show r.2 = false by simpa using c]
      refine Ev.cond rfl ?_
      refine Ev.cond rfl ?_
      refine Ev.cond rfl ?_
      refine Ev.ret rfl ?_
      exact Ev.cond rfl (Ev.fin rfl)
  · refine Ev.bind (zc0 hs ha hc ht a) (Ev.bind (zdb hs ha hc ht a) (Ev.bind zbe (Ev.cond rfl (Ev.bind s ?_))))
    refine Ev.step (fun k => by rw [tabardlaw19_PickShortest.j0]) (Ev.ncond (by decide) (Ev.bind (zcj hs h0 (by omega) (fun z => absurd z a) (fun _ => rfl)) ?_))
    refine Ev.ncond (by decide) ?_
    refine Ev.cond rfl ?_
    refine Ev.ncond (by decide) ?_
    refine Ev.ret rfl ?_
    refine Ev.cond rfl ?_
    exact Ev.ret rfl (Ev.fin rfl)
end Go.Proofs.Ytninoenmhcbonaa.Pure

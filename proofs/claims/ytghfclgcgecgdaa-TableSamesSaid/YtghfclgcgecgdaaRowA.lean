/- What layer 11's loops over lists come to: comparisons, the least and the greatest of a list, tracks, halves; no condition but lengths. -/
import Derived.Test.YtghfclgcgecgdaaEv
import Derived.Test.YtghfclgcgecgdaaX0
import Derived.Test.YtghfclgcgecgdaaX12
import Derived.Test.YtghfclgcgecgdaaX35
import Derived.Test.YtghfclgcgecgdaaX36
import Derived.Test.YtghfclgcgecgdaaX6
import Derived.Test.YtghfclgcgecgdaaX8
namespace Go.Proofs.Ytghfclgcgecgdaa.Pure
open Go.RowKit Go.Proofs.YtghfclgcgecgdaaW.PrintWords Go.Proofs.YtghfclgcgecgdaaW.PrintLast Go.Proofs.YtghfclgcgecgdaaW.PrintMore Go.Proofs.Ytghfclgcgecgdaa.X
set_option linter.unusedVariables false
instance : DecidableEq S58 := fun x y => decidable_of_iff (x.f0 = y.f0 ∧ x.f1 = y.f1 ∧ x.f2 = y.f2) (by cases x; cases y; simp)
theorem rdT_nat (l : List S58) (i : Nat) : rd_T58 l (i : Int) = l.getD i z58 := by simp [rd_T58]
theorem drop_rd (a b : List Int) {i : Nat} (h : i < a.length) (h' : i < b.length) : a.drop i = b.drop i ↔ rd a (i : Int) = rd b (i : Int) ∧ a.drop (i + 1) = b.drop (i + 1) := by
  rw [List.drop_eq_getElem_cons h, List.drop_eq_getElem_cons h', rd_nat, rd_nat, List.getD_eq_getElem?_getD, List.getD_eq_getElem?_getD, List.getElem?_eq_getElem h, List.getElem?_eq_getElem h', List.cons.injEq]
  rfl
theorem drop_rdT (a b : List S58) {i : Nat} (h : i < a.length) (h' : i < b.length) : a.drop i = b.drop i ↔ rd_T58 a (i : Int) = rd_T58 b (i : Int) ∧ a.drop (i + 1) = b.drop (i + 1) := by
  rw [List.drop_eq_getElem_cons h, List.drop_eq_getElem_cons h', rdT_nat, rdT_nat, List.getD_eq_getElem?_getD, List.getD_eq_getElem?_getD, List.getElem?_eq_getElem h, List.getElem?_eq_getElem h', List.cons.injEq]
  rfl
theorem ne_S (x y : S58) : ((!(x.f0 == y.f0)) || (!(x.f1 == y.f1) || !(x.f2 == y.f2))) = true ↔ ¬ x = y := by
  obtain ⟨a, b, c⟩ := x
  obtain ⟨d, e, f⟩ := y
  by_cases h0 : a = d <;> by_cases h1 : b = e <;> by_cases h2 : c = f <;> simp [h0, h1, h2]
theorem equal_ev (a b : List Int) (ha : a.length ≤ 9000000000000000000) : Ev (fun k => slices_Equal_int_int.f k a b) (decide (a = b)) := by
  refine Ev.congr (fun k => by rw [slices_Equal_int_int.f]) (Ev.ite (fun h => ?_) (fun h => Ev.fin ?_))
  · have hl : a.length = b.length := by omega
    have key : ∀ (m i : Nat), i + m = a.length → Ev (fun k => slices_Equal_int_int.l0 k a b (a.length : Int) (i : Int)) (decide (a.drop i = b.drop i)) := by
      intro m
      induction m with
      | zero =>
        intro i hi
        refine Ev.step (fun k => by rw [slices_Equal_int_int.l0]) (Ev.ncond (by omega) (Ev.fin ?_))
        rw [List.drop_eq_nil_of_le (by omega), List.drop_eq_nil_of_le (by omega)]; exact (decide_eq_true rfl).symm
      | succ m ih =>
        intro i hi
        refine Ev.step (fun k => by rw [slices_Equal_int_int.l0]) (Ev.cond (by omega) (Ev.cond (by omega) (Ev.cond (by omega) (Ev.cond (by omega) ?_))))
        refine Ev.ite (fun c => ?_) (fun c => Ev.fin ?_)
        · rw [w64 (by omega) (by omega)]
          have := ih (i + 1) (by omega)
          rwa [decide_eq_decide.2 ((drop_rd a b (by omega) (by omega)).trans (and_iff_right (id c)))]
        · exact (decide_eq_false (fun e => (id c) ((drop_rd a b (by omega) (by omega)).1 e).1)).symm
    exact key a.length 0 (by omega)
  · exact (decide_eq_false (fun e_ => h (by rw [e_]))).symm
theorem eq_S {x y : S58} (h : ¬ ((!(x.f0 == y.f0)) || (!(x.f1 == y.f1) || !(x.f2 == y.f2))) = true) : x = y := Classical.byContradiction fun d => h ((ne_S _ _).2 d)
theorem cubeq_ev (a b : List S58) (ha : a.length ≤ 9000000000000000000) : Ev (fun k => api_Cube.f k a b) (decide (a = b)) := by
  refine Ev.congr (fun k => by rw [api_Cube.f]) (Ev.ite (fun h => ?_) (fun h => Ev.fin ?_))
  · have hl : a.length = b.length := by omega
    have key : ∀ (m i : Nat), i + m = a.length → Ev (fun k => api_Cube.l0 k a b (a.length : Int) (i : Int)) (decide (a.drop i = b.drop i)) := by
      intro m
      induction m with
      | zero =>
        intro i hi
        refine Ev.step (fun k => by rw [api_Cube.l0]) (Ev.ncond (by omega) (Ev.fin ?_))
        rw [List.drop_eq_nil_of_le (by omega), List.drop_eq_nil_of_le (by omega)]; exact (decide_eq_true rfl).symm
      | succ m ih =>
        intro i hi
        refine Ev.step (fun k => by rw [api_Cube.l0]) (Ev.cond (by omega) (Ev.cond (by omega) (Ev.cond (by omega) (Ev.cond (by omega) ?_))))
        refine Ev.ite (fun c => Ev.fin ?_) (fun c => ?_)
        · exact (decide_eq_false (fun e => ((ne_S _ _).1 c) ((drop_rdT a b (by omega) (by omega)).1 e).1)).symm
        · rw [w64 (by omega) (by omega)]
          have := ih (i + 1) (by omega)
          rwa [decide_eq_decide.2 ((drop_rdT a b (by omega) (by omega)).trans (and_iff_right (eq_S c)))]
    exact key a.length 0 (by omega)
  · exact (decide_eq_false (fun e_ => h (by rw [e_]))).symm
theorem same_ev (a b : List Int) (ha : a.length ≤ 9000000000000000000) (hl : a.length = b.length) : Ev (fun k => tabardref11_same.f k a b) (decide (a = b)) := by
  refine Ev.congr (fun k => by rw [tabardref11_same.f]) ?_
  have key : ∀ (m i : Nat), i + m = a.length → Ev (fun k => tabardref11_same.l0 k a b (i : Int)) (decide (a.drop i = b.drop i)) := by
    intro m
    induction m with
    | zero =>
      intro i hi
      refine Ev.step (fun k => by rw [tabardref11_same.l0]) (Ev.ncond (by omega) (Ev.fin ?_))
      rw [List.drop_eq_nil_of_le (by omega), List.drop_eq_nil_of_le (by omega)]; exact (decide_eq_true rfl).symm
    | succ m ih =>
      intro i hi
      refine Ev.step (fun k => by rw [tabardref11_same.l0]) (Ev.cond (by omega) (Ev.cond (by omega) (Ev.cond (by omega) (Ev.ite (fun c => ?_) (fun c => Ev.fin ?_)))))
      · rw [w64 (by omega) (by omega)]
        have := ih (i + 1) (by omega)
        rwa [decide_eq_decide.2 ((drop_rd a b (by omega) (by omega)).trans (and_iff_right c))]
      · exact (decide_eq_false (fun e => c ((drop_rd a b (by omega) (by omega)).1 e).1)).symm
  exact key a.length 0 (by omega)
/-! ### The least and the greatest -/
theorem mn_le (s x y : Int) : s ≤ mn x y ↔ s ≤ x ∧ s ≤ y := by unfold mn; split <;> omega
theorem mx_lt (s x y : Int) : mx x y < s ↔ x < s ∧ y < s := by unfold mx; split <;> omega
theorem all_drop (p : Int → Prop) (a : List Int) {i : Nat} (h : i < a.length) : (∀ x ∈ a.drop i, p x) ↔ p (rd a (i : Int)) ∧ ∀ x ∈ a.drop (i + 1), p x := by
  rw [List.drop_eq_getElem_cons h, rd_nat, List.getD_eq_getElem?_getD, List.getElem?_eq_getElem h]
  exact List.forall_mem_cons
theorem min_ev (a : List Int) (h1 : 1 ≤ a.length) (ha : a.length ≤ 9000000000000000000) : ∃ r, Ev (fun k => slices_Min_int_int.f k a) r ∧ ∀ s, s ≤ r ↔ ∀ x ∈ a, s ≤ x := by
  have key : ∀ (m i : Nat) (c : Int), i + m = a.length → ∃ r, Ev (fun k => slices_Min_int_int.l0 k a c (i : Int)) r ∧ ∀ s, s ≤ r ↔ s ≤ c ∧ ∀ x ∈ a.drop i, s ≤ x := by
    intro m
    induction m with
    | zero =>
      intro i c hi
      refine ⟨c, Ev.step (fun k => by rw [slices_Min_int_int.l0]) (Ev.ncond (by omega) (Ev.fin rfl)), fun s => ?_⟩
      rw [List.drop_eq_nil_of_le (by omega)]; simp
    | succ m ih =>
      intro i c hi
      obtain ⟨r, hr, hs⟩ := ih (i + 1) (mn c (rd a (i : Int))) (by omega)
      refine ⟨r, Ev.step (fun k => by rw [slices_Min_int_int.l0]) (Ev.cond (by omega) (Ev.cond (by omega) ?_)), fun s => ?_⟩
      · rw [w64 (by omega) (by omega)]; exact hr
      · rw [hs, mn_le, all_drop (fun x => s ≤ x) a (i := i) (by omega), and_assoc]
  obtain ⟨r, hr, hs⟩ := key (a.length - 1) 1 (rd a 0) (by omega)
  have hr' : Ev (fun k => slices_Min_int_int.l0 k a (rd a 0) 1) r := hr
  refine ⟨r, Ev.congr (fun k => by rw [slices_Min_int_int.f]) (Ev.ncond (by omega) (Ev.cond (by omega) hr')), fun s => ?_⟩
  rw [hs, show (∀ x ∈ a, s ≤ x) ↔ (∀ x ∈ a.drop 0, s ≤ x) by rw [List.drop_zero], all_drop (fun x => s ≤ x) a (i := 0) (by omega)]
  exact Iff.rfl
theorem max_ev (a : List Int) (h1 : 1 ≤ a.length) (ha : a.length ≤ 9000000000000000000) : ∃ r, Ev (fun k => slices_Max_int_int.f k a) r ∧ ∀ s, r < s ↔ ∀ x ∈ a, x < s := by
  have key : ∀ (m i : Nat) (c : Int), i + m = a.length → ∃ r, Ev (fun k => slices_Max_int_int.l0 k a c (i : Int)) r ∧ ∀ s, r < s ↔ c < s ∧ ∀ x ∈ a.drop i, x < s := by
    intro m
    induction m with
    | zero =>
      intro i c hi
      refine ⟨c, Ev.step (fun k => by rw [slices_Max_int_int.l0]) (Ev.ncond (by omega) (Ev.fin rfl)), fun s => ?_⟩
      rw [List.drop_eq_nil_of_le (by omega)]; simp
    | succ m ih =>
      intro i c hi
      obtain ⟨r, hr, hs⟩ := ih (i + 1) (mx c (rd a (i : Int))) (by omega)
      refine ⟨r, Ev.step (fun k => by rw [slices_Max_int_int.l0]) (Ev.cond (by omega) (Ev.cond (by omega) ?_)), fun s => ?_⟩
      · rw [w64 (by omega) (by omega)]; exact hr
      · rw [hs, mx_lt, all_drop (fun x => x < s) a (i := i) (by omega), and_assoc]
  obtain ⟨r, hr, hs⟩ := key (a.length - 1) 1 (rd a 0) (by omega)
  have hr' : Ev (fun k => slices_Max_int_int.l0 k a (rd a 0) 1) r := hr
  refine ⟨r, Ev.congr (fun k => by rw [slices_Max_int_int.f]) (Ev.ncond (by omega) (Ev.cond (by omega) hr')), fun s => ?_⟩
  rw [hs, show (∀ x ∈ a, x < s) ↔ (∀ x ∈ a.drop 0, x < s) by rw [List.drop_zero], all_drop (fun x => x < s) a (i := 0) (by omega)]
  exact Iff.rfl
/-! ### Rows -/
/-- Is it a row over some tracks? -/
def IsRow (l : List Int) : Prop := (∃ j, j ≤ 6 ∧ l.length = 2 ^ j) ∧ ∀ x ∈ l, 0 ≤ x
theorem pow_bits : ∀ n : Fin 65, 1 ≤ n.1 → (Go.bits .and .i64 (n.1 : Int) ((n.1 : Int) - 1) = 0 ↔ ∃ j : Fin 7, n.1 = 2 ^ j.1) := by decide +kernel
theorem pow6 {n : Nat} (h : n ≤ 6) : 2 ^ n ≤ 64 := by
  have := Nat.pow_le_pow_right (show 0 < 2 by omega) h
  omega
theorem IsRow.len {l : List Int} (h : IsRow l) : 1 ≤ l.length ∧ l.length ≤ 64 := by
  obtain ⟨⟨j, hj, e⟩, _⟩ := h
  have := pow6 hj
  have := Nat.two_pow_pos j
  omega
noncomputable instance decRow (l : List Int) : Decidable (IsRow l) := Classical.propDecidable _
theorem right_ev (l : List Int) (hl : l.length ≤ 9000000000000000000) : Ev (fun k => row_right.f k l) (decide (IsRow l)) := by
  refine Ev.congr (fun k => by rw [row_right.f]) ?_
  by_cases c : 1 ≤ l.length ∧ l.length ≤ 64
  · refine Ev.cond (by omega) (Ev.cond (by omega) ?_)
    have q := pow_bits ⟨l.length, by omega⟩ c.1
    rw [w64 (by omega) (by omega)]
    refine Ev.ite (fun h => ?_) (fun h => Ev.fin ?_)
    · obtain ⟨j, hj⟩ := q.1 h
      obtain ⟨r, hr, hs⟩ := min_ev l c.1 hl
      refine Ev.bind hr (Ev.fin ?_)
      congr 1
      exact propext ⟨fun h0 => ⟨⟨j.1, by omega, hj⟩, (hs 0).1 h0⟩, fun h0 => (hs 0).2 h0.2⟩
    · exact (decide_eq_false (fun ⟨⟨j, hj, e⟩, _⟩ => h (q.2 ⟨⟨j, by omega⟩, e⟩))).symm
  · have no : ¬ IsRow l := fun h => c h.len
    rw [decide_eq_false no]
    refine Ev.ite (fun h => Ev.ncond (by omega) (Ev.fin rfl)) (fun _ => Ev.fin rfl)
theorem tr (k : Nat) (n x i x' i' : Int) (h : i ≤ 6) (hx : x ≠ n) (e1 : wrap64 (x * 2) = x') (e2 : wrap64 (i + 1) = i') : tabardref11_Tracks.l0 (k + 1) n x i = tabardref11_Tracks.l0 k n x' i' := by
  rw [tabardref11_Tracks.l0, if_pos h, if_neg hx, e1, e2]
theorem tracks_eq (n : Nat) : tabardref11_Tracks.f 9 (n : Int) = some (if n = 1 then 0 else if n = 2 then 1 else if n = 4 then 2 else if n = 8 then 3 else if n = 16 then 4 else if n = 32 then 5 else if n = 64 then 6 else -1) := by
  by_cases h0 : n = 1
  · subst h0; decide +kernel
  by_cases h1 : n = 2
  · subst h1; decide +kernel
  by_cases h2 : n = 4
  · subst h2; decide +kernel
  by_cases h3 : n = 8
  · subst h3; decide +kernel
  by_cases h4 : n = 16
  · subst h4; decide +kernel
  by_cases h5 : n = 32
  · subst h5; decide +kernel
  by_cases h6 : n = 64
  · subst h6; decide +kernel
  rw [if_neg h0, if_neg h1, if_neg h2, if_neg h3, if_neg h4, if_neg h5, if_neg h6, tabardref11_Tracks.f]
  rw [tr 8 (n : Int) 1 0 2 1 (by decide) (by omega) (by decide +kernel) (by decide +kernel), tr 7 (n : Int) 2 1 4 2 (by decide) (by omega) (by decide +kernel) (by decide +kernel), tr 6 (n : Int) 4 2 8 3 (by decide) (by omega) (by decide +kernel) (by decide +kernel), tr 5 (n : Int) 8 3 16 4 (by decide) (by omega) (by decide +kernel) (by decide +kernel), tr 4 (n : Int) 16 4 32 5 (by decide) (by omega) (by decide +kernel) (by decide +kernel), tr 3 (n : Int) 32 5 64 6 (by decide) (by omega) (by decide +kernel) (by decide +kernel), tr 2 (n : Int) 64 6 128 7 (by decide) (by omega) (by decide +kernel) (by decide +kernel), tabardref11_Tracks.l0, if_neg (by decide)]
theorem tracks_ev (n : Nat) : ∃ t, Ev (fun k => tabardref11_Tracks.f k (n : Int)) t ∧ (t < 0 ↔ ¬ ∃ j, j ≤ 6 ∧ n = 2 ^ j) := by
  refine ⟨_, Ev.of (tabardref11_Tracks.mono _) (tracks_eq n), ?_⟩
  constructor
  · rintro h ⟨j, hj, rfl⟩
    revert h
    match j, hj with
    | 0, _ => decide
    | 1, _ => decide
    | 2, _ => decide
    | 3, _ => decide
    | 4, _ => decide
    | 5, _ => decide
    | 6, _ => decide
    | n + 7, h => omega
  · intro h
    have g : ∀ j, j ≤ 6 → n ≠ 2 ^ j := fun j hj e => h ⟨j, hj, e⟩
    rw [if_neg (g 0 (by omega)), if_neg (g 1 (by omega)), if_neg (g 2 (by omega)), if_neg (g 3 (by omega)), if_neg (g 4 (by omega)), if_neg (g 5 (by omega)), if_neg (g 6 (by omega))]
    decide
theorem rrow_ev (l : List Int) (hl : l.length ≤ 9000000000000000000) : Ev (fun k => tabardref11_Row.f k l) (decide (IsRow l)) := by
  refine Ev.congr (fun k => by rw [tabardref11_Row.f]) ?_
  obtain ⟨t, ht, hj⟩ := tracks_ev l.length
  refine Ev.bind ht (Ev.ite (fun c => Ev.fin ?_) (fun c => ?_))
  · exact (decide_eq_false (fun h => hj.1 c h.1)).symm
  · have hx : ∃ j, j ≤ 6 ∧ l.length = 2 ^ j := Classical.byContradiction fun n => c (hj.2 n)
    have key : ∀ (m i : Nat), i + m = l.length → Ev (fun k => tabardref11_Row.l0 k l (i : Int)) (decide (∀ x ∈ l.drop i, 0 ≤ x)) := by
      intro m
      induction m with
      | zero =>
        intro i hi
        refine Ev.step (fun k => by rw [tabardref11_Row.l0]) (Ev.ncond (by omega) (Ev.fin ?_))
        rw [List.drop_eq_nil_of_le (by omega)]
        exact (decide_eq_true (by simp)).symm
      | succ m ih =>
        intro i hi
        have q := all_drop (fun x => 0 ≤ x) l (i := i) (by omega)
        refine Ev.step (fun k => by rw [tabardref11_Row.l0]) (Ev.cond (by omega) (Ev.cond (by omega) (Ev.ite (fun d => Ev.fin ?_) (fun d => ?_))))
        · exact (decide_eq_false (fun e => by have := (q.1 e).1; omega)).symm
        · rw [w64 (by omega) (by omega), decide_eq_decide.2 (q.trans (and_iff_right (by omega)))]
          exact ih (i + 1) (by omega)
    have := key l.length 0 (by omega)
    rw [decide_eq_decide.2 (show IsRow l ↔ (∀ x ∈ l.drop 0, 0 ≤ x) from ⟨fun h => h.2, fun h => ⟨hx, h⟩⟩)]
    exact this
theorem half_ev (l : List Int) (j : Nat) (hj : j < 6) (hl : l.length = 2 ^ (j + 1)) (d : Nat) (hd : d ≤ 1) :
    Ev (fun k => tabardref11_half.f k l (d : Int)) ((l.drop (d * 2 ^ j)).take (2 ^ j)) := by
  refine Ev.congr (fun k => by rw [tabardref11_half.f]) ?_
  have hp : 2 ^ (j + 1) = 2 ^ j + 2 ^ j := by rw [Nat.pow_succ]; omega
  have h6 := pow6 (show j ≤ 6 by omega)
  have hd2 : d * 2 ^ j + 2 ^ j ≤ l.length := by
    rcases Nat.le_one_iff_eq_zero_or_eq_one.1 hd with rfl | rfl <;> omega
  obtain ⟨n, hn⟩ : ∃ n, n = 2 ^ j := ⟨_, rfl⟩
  rw [show wrap64 ((l.length : Int) / 2) = (n : Int) by rw [w64 (by omega) (by omega)]; omega]
  rw [← hn] at hd2 hp h6 ⊢
  have hw : wrap64 ((d : Int) * (n : Int)) = ((d * n : Nat) : Int) := by
    rcases Nat.le_one_iff_eq_zero_or_eq_one.1 hd with rfl | rfl <;> rw [w64 (by omega) (by omega)] <;> simp
  have key : ∀ (m i : Nat) (acc : List Int), i + m = n → acc.length ≤ i → Ev (fun k => tabardref11_half.l0 k l (d : Int) acc (n : Int) (i : Int)) (acc ++ (l.drop (d * n + i)).take m) := by
    intro m
    induction m with
    | zero => intro i acc hi _; exact Ev.step (fun k => by rw [tabardref11_half.l0]) (Ev.ncond (by omega) (Ev.fin (by simp)))
    | succ m ih =>
      intro i acc hi ha
      refine Ev.step (fun k => by rw [tabardref11_half.l0]) (Ev.cond (by omega) ?_)
      rw [hw, w64 (x := ((d * n : Nat) : Int) + (i : Int)) (by omega) (by omega), w64 (x := (i : Int) + 1) (by omega) (by omega), show ((d * n : Nat) : Int) + (i : Int) = ((d * n + i : Nat) : Int) by omega]
      refine Ev.cond (by omega) (Ev.cond (by omega) (Ev.cond (by omega) ?_))
      have q := ih (i + 1) (acc ++ [rd l ((d * n + i : Nat) : Int)]) (by omega) (by simp; omega)
      rw [List.drop_eq_getElem_cons (show d * n + i < l.length by omega), List.take_succ_cons]
      rw [rd_nat, List.getD_eq_getElem?_getD, List.getElem?_eq_getElem (show d * n + i < l.length by omega), List.append_assoc] at q
      rw [rd_nat, List.getD_eq_getElem?_getD, List.getElem?_eq_getElem (show d * n + i < l.length by omega)]
      exact q
  have := key n 0 [] (by omega) (by simp)
  simpa using this
end Go.Proofs.Ytghfclgcgecgdaa.Pure

/- What the reference's Unpack and Right come to, and the program's Right; no condition but lengths. -/
import Derived.Test.YtiakfdoaopfihaaRowC
import Derived.Test.YtiakfdoaopfihaaX0
import Derived.Test.YtiakfdoaopfihaaX10
import Derived.Test.YtiakfdoaopfihaaX14
import Derived.Test.YtiakfdoaopfihaaX15
import Derived.Test.YtiakfdoaopfihaaX19
import Derived.Test.YtiakfdoaopfihaaX20
namespace Go.Proofs.Ytiakfdoaopfihaa.Pure
open Go.RowKit Go.Proofs.YtiakfdoaopfihaaW.PrintWords Go.Proofs.YtiakfdoaopfihaaW.PrintLast Go.Proofs.YtiakfdoaopfihaaW.PrintMore Go.Proofs.Ytiakfdoaopfihaa.X
set_option linter.unusedVariables false
theorem ru_cmp {l c : List S31} {R : List Int} (hl : l.length ≤ 64) (hc : c.length = l.length) : ∀ (m i : Nat), i + m = l.length → Ev (fun k => tabardref11_Unpack.l2 k l R c (i : Int)) (if c.drop i = l.drop i then (R, 0) else ([], 3)) := by
  intro m
  induction m with
  | zero =>
    intro i hi
    rw [if_pos (by rw [List.drop_eq_nil_of_le (by omega), List.drop_eq_nil_of_le (by omega)])]
    exact Ev.step (fun k => by rw [tabardref11_Unpack.l2]) (Ev.ncond (by omega) (Ev.fin rfl))
  | succ m ih =>
    intro i hi
    refine Ev.step (fun k => by rw [tabardref11_Unpack.l2]) (Ev.cond (by omega) (Ev.cond (by omega) (Ev.cond (by omega) (Ev.ite (fun d => Ev.fin ?_) (fun d => ?_)))))
    · rw [if_neg (fun e => (ne_S _ _).1 d ((drop_rdT c l (by omega) (by omega)).1 e).1)]
    · rw [w64 (by omega) (by omega)]
      have q := ih (i + 1) (by omega)
      have e : c.drop i = l.drop i ↔ c.drop (i + 1) = l.drop (i + 1) := (drop_rdT c l (by omega) (by omega)).trans (and_iff_right (Classical.byContradiction fun z => d ((ne_S _ _).2 z)))
      by_cases g : c.drop (i + 1) = l.drop (i + 1)
      · rw [if_pos g] at q; rw [if_pos (e.2 g)]; exact q
      · rw [if_neg g] at q; rw [if_neg (fun z => g (e.1 z))]; exact q
theorem ru_loop {l : List S31} {n : Nat} (hn : n ≤ 64) (hl : l.length ≤ 64) (h : ∀ i : Nat, i < n → (atR l (i : Int)).2 = true) (hp : ∀ i : Nat, i < n → 0 ≤ (atR l (i : Int)).1) {r : List Int × Int}
    (fin : Ev (fun k => (tabardref11_Cubes.f k (rowOf l n) 0 0).bind fun t => (if (t.length : Int) = (l.length : Int) then (tabardref11_Unpack.l2 k l (rowOf l n) t 0) else (some (([] : List Int), 3)))) r) :
    ∀ (m i : Nat), i + m = n → Ev (fun k => tabardref11_Unpack.l1 k l (n : Int) (rowOf l i) (i : Int)) r := by
  intro m
  induction m with
  | zero =>
    intro i hi
    obtain rfl : i = n := by omega
    exact Ev.step (fun k => by rw [tabardref11_Unpack.l1]) (Ev.ncond (by omega) fin)
  | succ m ih =>
    intro i hi
    refine Ev.step (fun k => by rw [tabardref11_Unpack.l1]) (Ev.cond (by omega) (Ev.bind (rat_ev l _ (by omega)) (Ev.cond (h i (by omega)) ?_)))
    refine Ev.ncond (by have := hp i (by omega); omega) (Ev.cond (by rw [rowOf_len]; omega) ?_)
    rw [w64 (by omega) (by omega)]
    have q := ih (i + 1) (by omega)
    rw [show rowOf l (i + 1) = rowOf l i ++ [(atR l (i : Int)).1] by simp [rowOf, List.range_succ]] at q
    exact q
theorem ru_stop {l : List S31} {n q : Nat} (hn : n ≤ 64) (hl : l.length ≤ 64) (hq : q < n) (h : (atR l (q : Int)).2 = false ∨ (atR l (q : Int)).1 < 0) :
    ∀ (m i : Nat), i + m = q → Ev (fun k => tabardref11_Unpack.l1 k l (n : Int) (rowOf l i) (i : Int)) ([], 3) := by
  intro m
  induction m with
  | zero =>
    intro i hi
    obtain rfl : i = q := by omega
    refine Ev.step (fun k => by rw [tabardref11_Unpack.l1]) (Ev.cond (by omega) (Ev.bind (rat_ev l _ (by omega)) ?_))
    refine Ev.ite (fun a => ?_) (fun _ => Ev.fin rfl)
    refine Ev.cond ?_ (Ev.fin rfl)
    rcases h with h | h
    · rw [h] at a; cases a
    · exact h
  | succ m ih =>
    intro i hi
    refine Ev.step (fun k => by rw [tabardref11_Unpack.l1]) (Ev.cond (by omega) (Ev.bind (rat_ev l _ (by omega)) ?_))
    refine Ev.ite (fun a => ?_) (fun _ => Ev.fin rfl)
    refine Ev.ite (fun _ => Ev.fin rfl) (fun _ => Ev.cond (by rw [rowOf_len]; omega) ?_)
    rw [w64 (by omega) (by omega)]
    have q := ih (i + 1) (by omega)
    rw [show rowOf l (i + 1) = rowOf l i ++ [(atR l (i : Int)).1] by simp [rowOf, List.range_succ]] at q
    exact q
theorem ru_enter {l : List S31} {j : Nat} {r : List Int × Int} (hj : j ≤ 6) (h : Ev (fun k => if (l.length : Int) > ((2 ^ j : Nat) : Int) then (some (([] : List Int), 3)) else (tabardref11_Unpack.l1 k l ((2 ^ j : Nat) : Int) ([] : List Int) 0)) r) : Ev (fun k => tabardref11_Unpack.f k l (j : Int)) r := by
  refine Ev.congr (fun k => by rw [tabardref11_Unpack.f]) (Ev.ncond (by omega) ?_)
  rw [decide_eq_false (show ¬ ((j : Int) > 6) by omega)]
  refine Ev.step (fun k => by rw [tabardref11_Unpack.j0]) (Ev.ncond (by decide) ?_)
  have key : ∀ (m i : Nat), i + m = j → Ev (fun k => tabardref11_Unpack.l0 k l (j : Int) ((2 ^ i : Nat) : Int) (i : Int)) r := by
    intro m
    induction m with
    | zero =>
      intro i hi
      obtain rfl : i = j := by omega
      exact Ev.step (fun k => by rw [tabardref11_Unpack.l0]) (Ev.ncond (by omega) h)
    | succ m ih =>
      intro i hi
      have := pow6 (show i ≤ 6 by omega)
      refine Ev.step (fun k => by rw [tabardref11_Unpack.l0]) (Ev.cond (by omega) ?_)
      have q := ih (i + 1) (by omega)
      rw [Nat.pow_succ] at q
      obtain ⟨p, hp⟩ : ∃ p, p = 2 ^ i := ⟨_, rfl⟩
      rw [← hp] at q this ⊢
      rw [w64 (x := (i : Int) + 1) (by omega) (by omega), w64 (x := (p : Int) * 2) (by omega) (by omega), show (p : Int) * 2 = ((p * 2 : Nat) : Int) by omega]
      exact q
  exact key j 0 (by omega)
theorem runpack_ok {l : List S31} {j : Nat} (h : UnpOk l j) : Ev (fun k => tabardref11_Unpack.f k l (j : Int)) (rowOf l (2 ^ j), 0) := by
  have h6 := pow6 h.six
  have hl := h.len
  refine ru_enter h.six (Ev.ncond (by omega) ?_)
  refine ru_loop h6 (by omega) h.all h.pos ?_ (2 ^ j) 0 (by omega)
  refine Ev.bind (cubes0 h.six (rowOf_len _ _)) ?_
  rw [h.tree]
  refine Ev.cond rfl ?_
  have q := ru_cmp (l := l) (c := l) (R := rowOf l (2 ^ j)) (by omega) rfl l.length 0 (by omega)
  rw [if_pos rfl] at q
  exact q
theorem runpack_no {l : List S31} {j : Nat} (hj : j ≤ 6) (h : ¬ UnpOk l j) : Ev (fun k => tabardref11_Unpack.f k l (j : Int)) ([], 3) := by
  have h6 := pow6 hj
  refine ru_enter hj ?_
  by_cases hl : l.length ≤ 2 ^ j
  · refine Ev.ncond (by omega) ?_
    by_cases ha : ∀ i : Nat, i < 2 ^ j → (atR l (i : Int)).2 = true ∧ 0 ≤ (atR l (i : Int)).1
    · refine ru_loop h6 (by omega) (fun i hi => (ha i hi).1) (fun i hi => (ha i hi).2) ?_ (2 ^ j) 0 (by omega)
      refine Ev.bind (cubes0 hj (rowOf_len _ _)) ?_
      refine Ev.ite (fun e => ?_) (fun _ => Ev.fin rfl)
      have q := ru_cmp (l := l) (c := tree j (rowOf l (2 ^ j)) 0 0) (R := rowOf l (2 ^ j)) (by omega) (by omega) l.length 0 (by omega)
      rw [if_neg (fun e => h ⟨hj, hl, fun i hi => (ha i hi).1, fun i hi => (ha i hi).2, by simpa using e⟩)] at q
      exact q
    · obtain ⟨q, hq, hn⟩ : ∃ q : Nat, q < 2 ^ j ∧ ((atR l ((q : Nat) : Int)).2 = false ∨ (atR l ((q : Nat) : Int)).1 < 0) :=
        Classical.byContradiction fun c => ha fun i hi => Classical.byContradiction fun d => c ⟨i, hi, by
          by_cases e : (atR l (i : Int)).2 = true
          · exact Or.inr (by have : ¬ 0 ≤ (atR l (i : Int)).1 := fun z => d ⟨e, z⟩; omega)
          · exact Or.inl (by simpa using e)⟩
      exact ru_stop h6 (by omega) hq hn q 0 (by omega)
  · exact Ev.cond (by omega) (Ev.fin rfl)
theorem runpack_far {l : List S31} {t : Int} (h : t < 0 ∨ t > 6) : Ev (fun k => tabardref11_Unpack.f k l t) ([], 150) := by
  refine Ev.congr (fun k => by rw [tabardref11_Unpack.f]) (Ev.ite (fun _ => ?_) (fun c => ?_))
  · exact Ev.step (fun k => by rw [tabardref11_Unpack.j0]) (Ev.cond rfl (Ev.fin rfl))
  · rw [decide_eq_true (show t > 6 by omega)]
    exact Ev.step (fun k => by rw [tabardref11_Unpack.j0]) (Ev.cond rfl (Ev.fin rfl))
/-! ### Right -/
theorem right_bad {l : List S31} {t s : Int} {e : Int} (he : e ≠ 0) (h : Ev (fun k => row_Unpack.f k l t) ([], e)) : Ev (fun k => row_Right.f k l t s) false :=
  Ev.congr (fun k => by rw [row_Right.f]) (Ev.bind h (Ev.ncond he (Ev.fin rfl)))
theorem rright_bad {l : List S31} {t s : Int} {e : Int} (he : e ≠ 0) (h : Ev (fun k => tabardref11_Unpack.f k l t) ([], e)) : Ev (fun k => tabardref11_Right.f k l t s) false :=
  Ev.congr (fun k => by rw [tabardref11_Right.f]) (Ev.bind h (Ev.ncond he (Ev.fin rfl)))
theorem right_good {l : List S31} {t s : Int} {R : List Int} (h1 : 1 ≤ R.length) (h2 : R.length ≤ 64) (h : Ev (fun k => row_Unpack.f k l t) (R, 0)) : Ev (fun k => row_Right.f k l t s) (decide (∀ x ∈ R, x < s)) := by
  obtain ⟨r, hr, hs⟩ := max_ev R h1 (by omega)
  refine Ev.congr (fun k => by rw [row_Right.f]) (Ev.bind h ?_)
  refine Ev.cond rfl ?_
  refine Ev.bind hr (Ev.fin ?_)
  exact decide_eq_decide.2 (hs s)
theorem rright_good {l : List S31} {t s : Int} {R : List Int} (h2 : R.length ≤ 64) (h : Ev (fun k => tabardref11_Unpack.f k l t) (R, 0)) : Ev (fun k => tabardref11_Right.f k l t s) (decide (∀ x ∈ R, x < s)) := by
  refine Ev.congr (fun k => by rw [tabardref11_Right.f]) (Ev.bind h (Ev.cond rfl ?_))
  have key : ∀ (m i : Nat), i + m = R.length → Ev (fun k => tabardref11_Right.l0 k s R (i : Int)) (decide (∀ x ∈ R.drop i, x < s)) := by
    intro m
    induction m with
    | zero =>
      intro i hi
      rw [decide_eq_true (show ∀ x ∈ R.drop i, x < s by rw [List.drop_eq_nil_of_le (by omega)]; simp)]
      exact Ev.step (fun k => by rw [tabardref11_Right.l0]) (Ev.ncond (by omega) (Ev.fin rfl))
    | succ m ih =>
      intro i hi
      have q := all_drop (fun x => x < s) R (i := i) (by omega)
      refine Ev.step (fun k => by rw [tabardref11_Right.l0]) (Ev.cond (by omega) (Ev.cond (by omega) (Ev.ite (fun d => Ev.fin ?_) (fun d => ?_))))
      · exact (decide_eq_false (fun e => by have := (q.1 e).1; omega)).symm
      · rw [w64 (by omega) (by omega), decide_eq_decide.2 (q.trans (and_iff_right (by omega)))]
        exact ih (i + 1) (by omega)
  exact key R.length 0 (by omega)
end Go.Proofs.Ytiakfdoaopfihaa.Pure

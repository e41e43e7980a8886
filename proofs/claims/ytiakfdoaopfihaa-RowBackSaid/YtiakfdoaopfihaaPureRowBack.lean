/- The law RowBack over lists alone: a row's cubes unpack to it, each letter is in just one of them, and they rise; no condition beyond the statement's own. -/
import Derived.Test.YtiakfdoaopfihaaRowD
import Derived.Test.YtiakfdoaopfihaaX0
import Derived.Test.YtiakfdoaopfihaaX16
import Derived.Test.YtiakfdoaopfihaaX4
namespace Go.Proofs.Ytiakfdoaopfihaa.Pure
open Go.RowKit Go.Proofs.YtiakfdoaopfihaaW.PrintWords Go.Proofs.YtiakfdoaopfihaaW.PrintLast Go.Proofs.YtiakfdoaopfihaaW.PrintMore Go.Proofs.Ytiakfdoaopfihaa.X
set_option linter.unusedVariables false
section
variable {a : List Int} {j : Nat}
theorem tree_at (hj : j ≤ 6) (ha : a.length = 2 ^ j) {i : Nat} (hi : i < 2 ^ j) : atR (tree j a 0 0) (i : Int) = (a.getD i 0, true) := at_one (tree_hit j a hj ha i hi)
theorem tree_row (hj : j ≤ 6) (ha : a.length = 2 ^ j) : rowOf (tree j a 0 0) (2 ^ j) = a := by
  apply List.ext_getElem?
  intro z
  by_cases c : z < 2 ^ j
  · rw [rowOf_get _ _ c, tree_at hj ha c, List.getD_eq_getElem?_getD, List.getElem?_eq_getElem (by omega)]; rfl
  · rw [List.getElem?_eq_none (by rw [rowOf_len]; omega), List.getElem?_eq_none (by omega)]
theorem tree_unp (hj : j ≤ 6) (ha : a.length = 2 ^ j) (pa : ∀ x ∈ a, 0 ≤ x) : UnpOk (tree j a 0 0) j := by
  refine ⟨hj, (tree_len j a 0 0).1, fun i hi => by rw [tree_at hj ha hi], fun i hi => ?_, by rw [tree_row hj ha]⟩
  rw [tree_at hj ha hi, List.getD_eq_getElem?_getD, List.getElem?_eq_getElem (by omega)]
  exact pa _ (List.getElem_mem _)
/-- Each letter is in just one cube. -/
theorem rb_l4 (hj : j ≤ 6) (ha : a.length = 2 ^ j) {i : Nat} (hi : i < 2 ^ j) (next : Ev (fun k => tabardlaw11_RowBack.l3 k (tree j a 0 0) a (a.length : Int) ((i + 1 : Nat) : Int)) true) :
    Ev (fun k => tabardlaw11_RowBack.l4 k (tree j a 0 0) (i : Int) (rd a (i : Int)) 0 a (a.length : Int) (i : Int) (tree j a 0 0) ((tree j a 0 0).length : Int) 0) true := by
  have h6 := pow6 hj
  have tl := (tree_len j a 0 0).1
  have at_ := tree_at hj ha hi
  have one : ((tree j a 0 0).filter (hit (i : Int))).length = 1 := by have := congrArg List.length (tree_hit j a hj ha i hi); simpa using this
  generalize tree j a 0 0 = c at *
  have key : ∀ (m z n : Nat), z + m = c.length → n + ((c.drop z).filter (hit (i : Int))).length = 1 → Ev (fun k => tabardlaw11_RowBack.l4 k c (i : Int) (rd a (i : Int)) (n : Int) a (a.length : Int) (i : Int) c (c.length : Int) (z : Int)) true := by
    intro m
    induction m with
    | zero =>
      intro z n hz hn
      rw [List.drop_eq_nil_of_le (by omega)] at hn
      have n1 : n = 1 := by simpa using hn
      subst n1
      refine Ev.step (fun k => by rw [tabardlaw11_RowBack.l4]) (Ev.ncond (by omega) ?_)
      refine Ev.bind (at_ev c (i : Int) (by omega)) ?_
      rw [at_]
      refine Ev.cond rfl (Ev.cond rfl (Ev.cond (by rw [rd_nat]) ?_))
      rw [w64 (by omega) (by omega)]
      exact next
    | succ m ih =>
      intro z n hz hn
      refine Ev.step (fun k => by rw [tabardlaw11_RowBack.l4]) (Ev.cond (by omega) (Ev.cond (by omega) (Ev.cond (by omega) ?_)))
      rw [rdT_get c (show z < c.length by omega), w64 (x := (z : Int) + 1) (by omega) (by omega)]
      rw [List.drop_eq_getElem_cons (by omega), List.filter_cons] at hn
      refine Ev.ite (fun d => ?_) (fun d => ?_)
      · rw [if_pos ((hit_iff _ _).2 d), List.length_cons] at hn
        rw [w64 (by omega) (by omega)]
        exact ih (z + 1) (n + 1) (by omega) (by omega)
      · rw [if_neg (fun e => d ((hit_iff _ _).1 e))] at hn
        exact ih (z + 1) n (by omega) hn
  exact key c.length 0 0 (by omega) (by rw [List.drop_zero, one])
theorem rb_l3 (hj : j ≤ 6) (ha : a.length = 2 ^ j) : ∀ (m i : Nat), i + m = a.length → Ev (fun k => tabardlaw11_RowBack.l3 k (tree j a 0 0) a (a.length : Int) (i : Int)) true := by
  intro m
  induction m with
  | zero => intro i hi; exact Ev.step (fun k => by rw [tabardlaw11_RowBack.l3]) (Ev.ncond (by omega) (Ev.fin rfl))
  | succ m ih =>
    intro i hi
    exact Ev.step (fun k => by rw [tabardlaw11_RowBack.l3]) (Ev.cond (by omega) (Ev.cond (by omega) (Ev.cond (by omega) (rb_l4 hj ha (by omega) (ih (i + 1) (by omega))))))
theorem rb_l2 (hj : j ≤ 6) (ha : a.length = 2 ^ j) : ∀ (m i : Nat), i + m = (tree j a 0 0).length → Ev (fun k => tabardlaw11_RowBack.l2 k a (tree j a 0 0) (tree j a 0 0) ((tree j a 0 0).length : Int) (i : Int)) true := by
  have h6 := pow6 hj
  have tl := (tree_len j a 0 0).1
  have g := tree_good j a hj
  have r := List.pairwise_iff_getElem.1 (tree_rises j a hj)
  have fin : Ev (fun k => tabardlaw11_RowBack.l3 k (tree j a 0 0) a (a.length : Int) 0) true := rb_l3 hj ha a.length 0 (by omega)
  generalize tree j a 0 0 = c at *
  intro m
  induction m with
  | zero => intro i hi; exact Ev.step (fun k => by rw [tabardlaw11_RowBack.l2]) (Ev.ncond (by omega) fin)
  | succ m ih =>
    intro i hi
    have hi2 : i < c.length := by omega
    have gi := g c[i] (List.getElem_mem hi2)
    refine Ev.step (fun k => by rw [tabardlaw11_RowBack.l2]) (Ev.cond (by omega) (Ev.cond (by omega) (Ev.cond (by omega) ?_)))
    rw [rdT_get c hi2, w64 (x := (i : Int) + 1) (by omega) (by omega)]
    refine Ev.cond gi.lies (Ev.ncond (by have := gi.b0; have := gi.bm; omega) (Ev.ncond (by have := gi.m2; omega) (Ev.ite (fun p => ?_) (fun _ => ih (i + 1) (by omega)))))
    rw [w64 (by omega) (by omega), show (i : Int) - 1 = ((i - 1 : Nat) : Int) by omega, rdT_get c (show i - 1 < c.length by omega)]
    refine Ev.cond (by omega) (Ev.cond (by omega) (Ev.ncond ?_ (ih (i + 1) (by omega))))
    have := r (i - 1) i (by omega) hi2 (by omega)
    omega
theorem rb_j3 (hj : j ≤ 6) (ha : a.length = 2 ^ j) : Ev (fun k => tabardlaw11_RowBack.j3 k a (tree j a 0 0) false) true := by
  refine Ev.step (fun k => by rw [tabardlaw11_RowBack.j3]) (Ev.ncond (by decide) ?_)
  exact rb_l2 hj ha _ 0 (Nat.zero_add _)
theorem rb_l1 (hj : j ≤ 6) (ha : a.length = 2 ^ j) (pa : ∀ x ∈ a, 0 ≤ x) : ∀ (m i : Nat) (M : Int), i + m = a.length → (∀ s, M < s ↔ 0 < s ∧ ∀ x ∈ a.take i, x < s) →
    Ev (fun k => tabardlaw11_RowBack.l1 k a (tree j a 0 0) (j : Int) M a (a.length : Int) (i : Int)) true := by
  have h6 := pow6 hj
  have tl := (tree_len j a 0 0).1
  intro m
  induction m with
  | zero =>
    intro i M hi hM
    rw [List.take_of_length_le (by omega)] at hM
    have U := unpack_ok (tree_unp hj ha pa)
    rw [tree_row hj ha] at U
    have big := right_good (s := M + 1) (show 1 ≤ a.length by have := Nat.two_pow_pos j; omega) (by omega) U
    have low := right_good (s := M) (show 1 ≤ a.length by have := Nat.two_pow_pos j; omega) (by omega) U
    rw [decide_eq_true ((hM (M + 1)).1 (by omega)).2] at big
    have M0 : 0 ≤ M := by
      by_cases c : 0 ≤ M
      · exact c
      · have := ((hM 0).1 (by omega)).1; omega
    have no : ¬ ∀ x ∈ a, x < M := by
      intro h
      have h0 : (a[0]'(by have := Nat.two_pow_pos j; omega)) ∈ a := List.getElem_mem _
      have p0 := pa _ h0
      have q0 := h _ h0
      have := (hM M).2 ⟨by omega, h⟩
      omega
    rw [decide_eq_false no] at low
    refine Ev.step (fun k => by rw [tabardlaw11_RowBack.l1]) (Ev.ncond (by omega) ?_)
    refine Ev.ret rfl ?_
    refine Ev.cond (by simp; omega) ?_
    rw [List.nil_append]
    refine Ev.bind U (Ev.cond rfl (Ev.bind (ints_ev a a (by omega)) ?_))
    rw [decide_eq_true rfl]
    refine Ev.cond rfl (Ev.ncond (by omega) (Ev.ite (fun h62 => ?_) (fun _ => ?_)))
    · rw [w64 (by omega) (by omega)]
      exact Ev.bind big (Ev.cond rfl (Ev.bind low (rb_j3 hj ha)))
    · exact Ev.bind low (rb_j3 hj ha)
  | succ m ih =>
    intro i M hi hM
    refine Ev.step (fun k => by rw [tabardlaw11_RowBack.l1]) (Ev.cond (by omega) (Ev.cond (by omega) (Ev.cond (by omega) ?_)))
    rw [w64 (by omega) (by omega)]
    refine ih (i + 1) _ (by omega) (fun s => ?_)
    rw [mx_lt, hM, List.take_succ_eq_append_getElem (show i < a.length by omega), rd_nat, List.getD_eq_getElem?_getD, List.getElem?_eq_getElem (show i < a.length by omega), Option.getD_some]
    constructor
    · rintro ⟨⟨h0, h1⟩, h2⟩
      refine ⟨h0, fun x hx => ?_⟩
      rcases List.mem_append.1 hx with h | h
      · exact h1 x h
      · rw [List.mem_singleton.1 h]; exact h2
    · rintro ⟨h0, h1⟩
      exact ⟨⟨h0, fun x hx => h1 x (List.mem_append_left _ hx)⟩, h1 _ (List.mem_append_right _ (List.mem_singleton.2 rfl))⟩
theorem rb_l0 (hj : j ≤ 6) (ha : a.length = 2 ^ j) (pa : ∀ x ∈ a, 0 ≤ x) : ∀ (m i : Nat), i + m = j → Ev (fun k => tabardlaw11_RowBack.l0 k a (tree j a 0 0) (i : Int) 0) true := by
  intro m
  induction m with
  | zero =>
    intro i hi
    obtain rfl : i = j := by omega
    have s := shl_pow ⟨i, by omega⟩
    simp only [] at s
    refine Ev.step (fun k => by rw [tabardlaw11_RowBack.l0]) (Ev.cond (by omega) ?_)
    rw [s]
    refine Ev.ncond (by omega) ?_
    refine Ev.step (fun k => by rw [tabardlaw11_RowBack.j1]) ?_
    exact rb_l1 hj ha pa a.length 0 0 (by omega) (fun s => by simp)
  | succ m ih =>
    intro i hi
    have s := shl_pow ⟨i, by omega⟩
    simp only [] at s
    have lt : 2 ^ i < 2 ^ j := Nat.pow_lt_pow_right (by decide) (by omega)
    refine Ev.step (fun k => by rw [tabardlaw11_RowBack.l0]) (Ev.cond (by omega) ?_)
    rw [s]
    refine Ev.cond (by omega) (Ev.cond (by omega) ?_)
    rw [w64 (by omega) (by omega)]
    exact ih (i + 1) (by omega)
end
theorem rb_main {a : List Int} {c : List S31} {e : Int} (la : a.length < 17592186044416) (h1 : Ev (fun k => row_Pack.f k a) (c, e)) (h : e = 0 → Ev (fun k => tabardlaw11_RowBack.l0 k a c 0 0) true) (k : e ≠ 0 → e = 3 ∧ c = []) : Ev (fun k => tabardlaw11_RowBack.f k a) true := by
  refine Ev.congr (fun k => by rw [tabardlaw11_RowBack.f]) (Ev.bind fixed_ev (Ev.cond rfl ?_))
  refine Ev.ret rfl ?_
  refine Ev.cond (by simpa using la) ?_
  rw [List.nil_append]
  refine Ev.bind h1 (Ev.ite (fun e0 => h e0) (fun e0 => ?_))
  obtain ⟨rfl, rfl⟩ := k e0
  exact Ev.cond rfl (Ev.fin rfl)
theorem RowBack : tabardlaw11_RowBack.Pure := by
  intro a ma la _
  refine Ev.rounds ?_
  by_cases ra : IsRow a
  · obtain ⟨⟨j, hj, ea⟩, pa⟩ := ra
    exact rb_main (by omega) (pack_ok hj ea pa) (fun _ => rb_l0 hj ea pa j 0 (by omega)) (fun h => absurd rfl h)
  · exact rb_main (by omega) (pack_no (by omega) ra) (fun h => absurd h (by decide)) (fun _ => ⟨rfl, rfl⟩)
end Go.Proofs.Ytiakfdoaopfihaa.Pure

/- What At and Unpack come to, the program's and the reference's; no condition but lengths. -/
import Derived.Test.YtiakfdoaopfihaaRowB
import Derived.Test.YtiakfdoaopfihaaX0
import Derived.Test.YtiakfdoaopfihaaX13
import Derived.Test.YtiakfdoaopfihaaX14
import Derived.Test.YtiakfdoaopfihaaX18
import Derived.Test.YtiakfdoaopfihaaX4
namespace Go.Proofs.Ytiakfdoaopfihaa.Pure
open Go.RowKit Go.Proofs.YtiakfdoaopfihaaW.PrintWords Go.Proofs.YtiakfdoaopfihaaW.PrintLast Go.Proofs.YtiakfdoaopfihaaW.PrintMore Go.Proofs.Ytiakfdoaopfihaa.X
set_option linter.unusedVariables false
def atR : List S31 → Int → Int × Bool
  | [], _ => (0, false)
  | x :: l, a => if hit a x = true then (x.f2, true) else atR l a
theorem hit_iff (a : Int) (x : S31) : hit a x = true ↔ Go.bits .and .i64 a x.f0 = x.f1 := by simp [hit]
theorem rdT_get (l : List S31) {i : Nat} (h : i < l.length) : rd_T31 l (i : Int) = l[i] := by
  rw [rdT_nat, List.getD_eq_getElem?_getD, List.getElem?_eq_getElem h]; rfl
theorem at_ev (l : List S31) (a : Int) (hl : l.length ≤ 9000000000000000000) : Ev (fun k => row_At.f k l a) (atR l a) := by
  refine Ev.congr (fun k => by rw [row_At.f]) ?_
  have key : ∀ (m i : Nat), i + m = l.length → Ev (fun k => row_At.l0 k a l (l.length : Int) (i : Int)) (atR (l.drop i) a) := by
    intro m
    induction m with
    | zero =>
      intro i hi
      rw [List.drop_eq_nil_of_le (by omega)]
      refine Ev.step (fun k => by rw [row_At.l0]) (Ev.ncond (by omega) ?_)
      exact Ev.fin rfl
    | succ m ih =>
      intro i hi
      rw [List.drop_eq_getElem_cons (by omega), atR]
      refine Ev.step (fun k => by rw [row_At.l0]) (Ev.cond (by omega) (Ev.cond (by omega) (Ev.cond (by omega) ?_)))
      rw [rdT_get l (by omega), w64 (by omega) (by omega)]
      by_cases c : hit a l[i] = true
      · rw [if_pos c]; exact Ev.cond ((hit_iff _ _).1 c) (Ev.fin rfl)
      · rw [if_neg c]; exact Ev.ncond (fun e => c ((hit_iff _ _).2 e)) (ih (i + 1) (by omega))
  exact key l.length 0 (by omega)
theorem rat_ev (l : List S31) (a : Int) (hl : l.length ≤ 9000000000000000000) : Ev (fun k => tabardref11_At.f k l a) (atR l a) := by
  refine Ev.congr (fun k => by rw [tabardref11_At.f]) ?_
  have key : ∀ (m i : Nat), i + m = l.length → Ev (fun k => tabardref11_At.l0 k l a (i : Int)) (atR (l.drop i) a) := by
    intro m
    induction m with
    | zero =>
      intro i hi
      rw [List.drop_eq_nil_of_le (by omega)]
      refine Ev.step (fun k => by rw [tabardref11_At.l0]) (Ev.ncond (by omega) ?_)
      exact Ev.fin rfl
    | succ m ih =>
      intro i hi
      rw [List.drop_eq_getElem_cons (by omega), atR]
      refine Ev.step (fun k => by rw [tabardref11_At.l0]) (Ev.cond (by omega) (Ev.cond (by omega) ?_))
      rw [rdT_get l (by omega), w64 (by omega) (by omega)]
      by_cases c : hit a l[i] = true
      · rw [if_pos c]; exact Ev.cond ((hit_iff _ _).1 c) (Ev.fin rfl)
      · rw [if_neg c]; exact Ev.ncond (fun e => c ((hit_iff _ _).2 e)) (ih (i + 1) (by omega))
  exact key l.length 0 (by omega)
/-- Of a list where just one cube is hit. -/
theorem at_one {l : List S31} {a t : Int} (h : (l.filter (hit a)).map (·.f2) = [t]) : atR l a = (t, true) := by
  induction l with
  | nil => simp at h
  | cons x l ih =>
    rw [atR]
    by_cases c : hit a x = true
    · rw [if_pos c]
      simp only [List.filter_cons, c, if_true, List.map_cons] at h
      rw [(List.cons.inj h).1]
    · rw [if_neg c]
      simp only [List.filter_cons, c] at h
      exact ih (by simpa using h)
theorem at_none {l : List S31} {a : Int} (h : l.filter (hit a) = []) : atR l a = (0, false) := by
  induction l with
  | nil => rfl
  | cons x l ih =>
    rw [atR]
    by_cases c : hit a x = true
    · simp only [List.filter_cons, c, if_true] at h; cases h
    · rw [if_neg c]
      simp only [List.filter_cons, c] at h
      exact ih (by simpa using h)
/-- The row that a list of cubes tells. -/
def rowOf (l : List S31) (n : Nat) : List Int := (List.range n).map fun i => (atR l ((i : Nat) : Int)).1
theorem rowOf_len (l : List S31) (n : Nat) : (rowOf l n).length = n := by simp [rowOf]
theorem rowOf_get (l : List S31) (n : Nat) {i : Nat} (h : i < n) : (rowOf l n)[i]? = some (atR l (i : Int)).1 := by simp [rowOf, h]
structure UnpOk (l : List S31) (j : Nat) : Prop where
  six : j ≤ 6
  len : l.length ≤ 2 ^ j
  all : ∀ i : Nat, i < 2 ^ j → (atR l (i : Int)).2 = true
  pos : ∀ i : Nat, i < 2 ^ j → 0 ≤ (atR l (i : Int)).1
  tree : tree j (rowOf l (2 ^ j)) 0 0 = l
theorem UnpOk.mem {l : List S31} {j : Nat} (h : ∀ i : Nat, i < 2 ^ j → 0 ≤ (atR l (i : Int)).1) : ∀ x ∈ rowOf l (2 ^ j), 0 ≤ x := by
  intro x hx
  obtain ⟨i, hi, rfl⟩ := List.mem_map.1 hx
  exact h i (List.mem_range.1 hi)
theorem un_loop {l : List S31} {n : Nat} (hn : n ≤ 64) (hl : l.length ≤ 64) (h : ∀ i : Nat, i < n → (atR l (i : Int)).2 = true) {r : List Int × Int}
    (fin : Ev (fun k => (row_Pack.f k (rowOf l n)).bind fun bt => (if bt.2 = 0 then ((api_Cube.f k bt.1 l).bind fun t => (if t = true then (some (rowOf l n, 0)) else (some (([] : List Int), 3)))) else (some (([] : List Int), 3)))) r) :
    ∀ (m i : Nat) (y : List Int), i + m = n → y.length = n → (∀ z, z < i → y[z]? = (rowOf l n)[z]?) → Ev (fun k => row_Unpack.l0 k l y (n : Int) (i : Int)) r := by
  intro m
  induction m with
  | zero =>
    intro i y hi hy hz
    obtain rfl : y = rowOf l n := by
      apply List.ext_getElem?
      intro z
      by_cases c : z < n
      · exact hz z (by omega)
      · rw [List.getElem?_eq_none (by omega), List.getElem?_eq_none (by rw [rowOf_len]; omega)]
    exact Ev.step (fun k => by rw [row_Unpack.l0]) (Ev.ncond (by omega) fin)
  | succ m ih =>
    intro i y hi hy hz
    refine Ev.step (fun k => by rw [row_Unpack.l0]) (Ev.cond (by omega) (Ev.bind (at_ev l _ (by omega)) (Ev.cond (h i (by omega)) ?_)))
    refine Ev.cond (by omega) (Ev.cond (by omega) ?_)
    rw [w64 (by omega) (by omega), show ((i : Nat) : Int).toNat = i from rfl]
    refine ih (i + 1) _ (by omega) (by rw [List.length_set]; exact hy) (fun z hz2 => ?_)
    rw [List.getElem?_set]
    by_cases c : i = z
    · subst c
      rw [if_pos rfl, if_pos (by omega), rowOf_get l n (by omega)]
    · rw [if_neg c]; exact hz z (by omega)
theorem un_stop {l : List S31} {n q : Nat} (hn : n ≤ 64) (hl : l.length ≤ 64) (hq : q < n) (h : (atR l (q : Int)).2 = false) :
    ∀ (m i : Nat) (y : List Int), i + m = q → y.length = n → Ev (fun k => row_Unpack.l0 k l y (n : Int) (i : Int)) ([], 3) := by
  intro m
  induction m with
  | zero =>
    intro i y hi hy
    obtain rfl : i = q := by omega
    refine Ev.step (fun k => by rw [row_Unpack.l0]) (Ev.cond (by omega) (Ev.bind (at_ev l _ (by omega)) ?_))
    exact Ev.ncond (by rw [h]; decide) (Ev.fin rfl)
  | succ m ih =>
    intro i y hi hy
    refine Ev.step (fun k => by rw [row_Unpack.l0]) (Ev.cond (by omega) (Ev.bind (at_ev l _ (by omega)) (Ev.ite (fun _ => ?_) (fun _ => Ev.fin rfl))))
    refine Ev.cond (by omega) (Ev.cond (by omega) ?_)
    rw [w64 (by omega) (by omega)]
    exact ih (i + 1) _ (by omega) (by rw [List.length_set]; exact hy)
theorem shl_pow : ∀ j : Fin 7, shl .i64 1 (j.1 : Int) = ((2 ^ j.1 : Nat) : Int) := by decide +kernel
theorem un_enter {l : List S31} {j : Nat} {r : List Int × Int} (hj : j ≤ 6) (hl : l.length ≤ 2 ^ j) (h : ∀ y : List Int, y.length = 2 ^ j → Ev (fun k => row_Unpack.l0 k l y ((2 ^ j : Nat) : Int) 0) r) : Ev (fun k => row_Unpack.f k l (j : Int)) r := by
  have s := shl_pow ⟨j, by omega⟩
  have h6 := pow6 hj
  simp only [] at s
  refine Ev.congr (fun k => by rw [row_Unpack.f]) (Ev.ncond (by omega) ?_)
  rw [decide_eq_false (show ¬ ((j : Int) > 6) by omega)]
  refine Ev.step (fun k => by rw [row_Unpack.j0]) (Ev.ncond (by decide) (Ev.cond (by omega) ?_))
  rw [s]
  refine Ev.ncond (by omega) (Ev.cond (by omega) (Ev.cond (by rw [Int.toNat_natCast]; omega) ?_))
  refine Ev.ret rfl ?_
  have q := h (List.replicate ((2 ^ j : Nat) : Int).toNat 0) (by rw [List.length_replicate, Int.toNat_natCast])
  rw [List.length_replicate, Int.toNat_natCast]
  rw [Int.toNat_natCast] at q
  exact q
theorem unpack_ok {l : List S31} {j : Nat} (h : UnpOk l j) : Ev (fun k => row_Unpack.f k l (j : Int)) (rowOf l (2 ^ j), 0) := by
  have h6 := pow6 h.six
  have hl := h.len
  refine un_enter h.six h.len (fun y hy => ?_)
  refine un_loop h6 (by omega) h.all ?_ (2 ^ j) 0 y (by omega) hy (fun z hz => absurd hz (by omega))
  refine Ev.bind (pack_ok h.six (rowOf_len _ _) (UnpOk.mem h.pos)) (Ev.cond rfl ?_)
  rw [h.tree]
  refine Ev.bind (cubeq_ev l l (by omega)) ?_
  rw [decide_eq_true rfl]
  exact Ev.cond rfl (Ev.fin rfl)
theorem unpack_no {l : List S31} {j : Nat} (hj : j ≤ 6) (h : ¬ UnpOk l j) (hl9 : l.length ≤ 9000000000000000000) : Ev (fun k => row_Unpack.f k l (j : Int)) ([], 3) := by
  have h6 := pow6 hj
  by_cases hl : l.length ≤ 2 ^ j
  · by_cases ha : ∀ i : Nat, i < 2 ^ j → (atR l (i : Int)).2 = true
    · refine un_enter hj hl (fun y hy => ?_)
      refine un_loop h6 (by omega) ha ?_ (2 ^ j) 0 y (by omega) hy (fun z hz => absurd hz (by omega))
      by_cases hp : ∀ i : Nat, i < 2 ^ j → 0 ≤ (atR l (i : Int)).1
      · refine Ev.bind (pack_ok hj (rowOf_len _ _) (UnpOk.mem hp)) (Ev.cond rfl ?_)
        refine Ev.bind (cubeq_ev _ l (by show (tree j (rowOf l (2 ^ j)) 0 0).length ≤ _; have := (tree_len j (rowOf l (2 ^ j)) 0 0).1; omega)) ?_
        rw [decide_eq_false (fun e => h ⟨hj, hl, ha, hp, e⟩)]
        exact Ev.ncond (by decide) (Ev.fin rfl)
      · have no : ¬ IsRow (rowOf l (2 ^ j)) := fun hr => hp (fun i hi => hr.2 _ (List.mem_map.2 ⟨i, List.mem_range.2 hi, rfl⟩))
        exact Ev.bind (pack_no (by rw [rowOf_len]; omega) no) (Ev.ncond (by decide) (Ev.fin rfl))
    · obtain ⟨q, hq, hn⟩ : ∃ q, q < 2 ^ j ∧ (atR l ((q : Nat) : Int)).2 = false :=
        Classical.byContradiction fun c => ha fun i hi => Classical.byContradiction fun d => c ⟨i, hi, by simpa using d⟩
      exact un_enter hj hl (fun y hy => un_stop h6 (by omega) hq hn q 0 y (by omega) hy)
  · have s := shl_pow ⟨j, by omega⟩
    simp only [] at s
    refine Ev.congr (fun k => by rw [row_Unpack.f]) (Ev.ncond (by omega) ?_)
    rw [decide_eq_false (show ¬ ((j : Int) > 6) by omega)]
    refine Ev.step (fun k => by rw [row_Unpack.j0]) (Ev.ncond (by decide) (Ev.cond (by omega) ?_))
    rw [s]
    exact Ev.cond (by omega) (Ev.fin rfl)
theorem unpack_far {l : List S31} {t : Int} (h : t < 0 ∨ t > 6) : Ev (fun k => row_Unpack.f k l t) ([], 150) := by
  refine Ev.congr (fun k => by rw [row_Unpack.f]) (Ev.ite (fun _ => ?_) (fun c => ?_))
  · exact Ev.step (fun k => by rw [row_Unpack.j0]) (Ev.cond rfl (Ev.fin rfl))
  · rw [decide_eq_true (show t > 6 by omega)]
    exact Ev.step (fun k => by rw [row_Unpack.j0]) (Ev.cond rfl (Ev.fin rfl))
end Go.Proofs.Ytiakfdoaopfihaa.Pure

/- The tree of a row and its cubes: what row.leaves, row.Pack and the reference's Cubes come to, and what is known of the cubes; no condition but that the row is one over six tracks or fewer. -/
import Derived.Test.YtiakfdoaopfihaaRowA
import Derived.Test.YtiakfdoaopfihaaX0
import Derived.Test.YtiakfdoaopfihaaX10
import Derived.Test.YtiakfdoaopfihaaX11
import Derived.Test.YtiakfdoaopfihaaX4
import Derived.Test.YtiakfdoaopfihaaX5
import Derived.Test.YtiakfdoaopfihaaX8
import Derived.Test.YtiakfdoaopfihaaX9
namespace Go.Proofs.Ytiakfdoaopfihaa.Pure
open Go.RowKit Go.Proofs.YtiakfdoaopfihaaW.PrintWords Go.Proofs.YtiakfdoaopfihaaW.PrintLast Go.Proofs.YtiakfdoaopfihaaW.PrintMore Go.Proofs.Ytiakfdoaopfihaa.X
set_option linter.unusedVariables false
def tree : Nat → List Int → Int → Int → List S31
  | 0, l, m, b => [⟨m, b, l.getD 0 0⟩]
  | j + 1, l, m, b =>
    if l.take (2 ^ j) = l.drop (2 ^ j) then tree j (l.take (2 ^ j)) m b
    else tree j (l.take (2 ^ j)) (m + ((2 ^ j : Nat) : Int)) b ++ tree j (l.drop (2 ^ j)) (m + ((2 ^ j : Nat) : Int)) (b + ((2 ^ j : Nat) : Int))
def shift (m b : Int) (x : S31) : S31 := ⟨m + x.f0, b + x.f1, x.f2⟩
theorem tree_shift (j : Nat) : ∀ (l : List Int) (m b : Int), tree j l m b = (tree j l 0 0).map (shift m b) := by
  induction j with
  | zero => intro l m b; simp [tree, shift]
  | succ j ih =>
    intro l m b
    simp only [tree]
    split
    · exact ih _ _ _
    · rw [ih (l.take (2 ^ j)) (m + _), ih (l.drop (2 ^ j)) (m + _), ih (l.take (2 ^ j)) (0 + _), ih (l.drop (2 ^ j)) (0 + _)]
      simp only [List.map_append, List.map_map]
      congr 1
      · apply List.map_congr_left; intro x _; simp only [shift, Function.comp]; congr 1 <;> omega
      · apply List.map_congr_left; intro x _; simp only [shift, Function.comp]; congr 1 <;> omega
/-- What is known of each cube. -/
structure Good (j : Nat) (x : S31) : Prop where
  b0 : 0 ≤ x.f1
  bm : x.f1 ≤ x.f0
  m2 : x.f0 < ((2 ^ j : Nat) : Int)
  lies : Go.bits .andNot .i64 x.f1 x.f0 = 0
def hit (a : Int) (x : S31) : Bool := Go.bits .and .i64 a x.f0 == x.f1

theorem bits_step : ∀ j : Fin 6, ∀ m : Fin 32, ∀ a : Fin 64, m.1 < 2 ^ j.1 → a.1 < 2 ^ (j.1 + 1) →
    Go.bits .and .i64 (a.1 : Int) (((2 ^ j.1 : Nat) : Int) + (m.1 : Int)) = Go.bits .and .i64 ((a.1 % 2 ^ j.1 : Nat) : Int) (m.1 : Int) + (if a.1 < 2 ^ j.1 then 0 else ((2 ^ j.1 : Nat) : Int)) ∧
    Go.bits .and .i64 (a.1 : Int) (m.1 : Int) = Go.bits .and .i64 ((a.1 % 2 ^ j.1 : Nat) : Int) (m.1 : Int) ∧
    0 ≤ Go.bits .and .i64 ((a.1 % 2 ^ j.1 : Nat) : Int) (m.1 : Int) ∧ Go.bits .and .i64 ((a.1 % 2 ^ j.1 : Nat) : Int) (m.1 : Int) < ((2 ^ j.1 : Nat) : Int) := by decide +kernel
theorem clear_step : ∀ j : Fin 6, ∀ m : Fin 32, ∀ b : Fin 32, m.1 < 2 ^ j.1 → b.1 < 2 ^ j.1 → Go.bits .andNot .i64 (b.1 : Int) (m.1 : Int) = 0 →
    Go.bits .andNot .i64 (b.1 : Int) (((2 ^ j.1 : Nat) : Int) + (m.1 : Int)) = 0 ∧ Go.bits .andNot .i64 (((2 ^ j.1 : Nat) : Int) + (b.1 : Int)) (((2 ^ j.1 : Nat) : Int) + (m.1 : Int)) = 0 := by decide +kernel
theorem or_step : ∀ j : Fin 6, ∀ m : Fin 64, m.1 < 64 / 2 ^ (j.1 + 1) → Go.bits .or .i64 ((m.1 * 2 ^ (j.1 + 1) : Nat) : Int) ((2 ^ j.1 : Nat) : Int) = ((m.1 * 2 ^ (j.1 + 1) : Nat) : Int) + ((2 ^ j.1 : Nat) : Int) := by decide +kernel
theorem or_low : ∀ j : Fin 6, ∀ m : Fin 32, m.1 < 2 ^ j.1 → Go.bits .or .i64 (m.1 : Int) ((2 ^ j.1 : Nat) : Int) = ((2 ^ j.1 : Nat) : Int) + (m.1 : Int) := by decide +kernel
theorem pow_le {j : Nat} (h : j < 6) : 2 ^ j ≤ 32 := by
  have : (2 : Nat) ^ j ≤ 2 ^ 5 := Nat.pow_le_pow_right (by decide) (by omega)
  exact this
theorem Good.nat {j : Nat} {x : S31} (g : Good j x) : ∃ m b : Nat, x.f0 = (m : Int) ∧ x.f1 = (b : Int) ∧ m < 2 ^ j ∧ b ≤ m := by
  obtain ⟨h0, h1, h2, _⟩ := g
  obtain ⟨m, hm⟩ := Int.eq_ofNat_of_zero_le (show 0 ≤ x.f0 by omega)
  obtain ⟨b, hb⟩ := Int.eq_ofNat_of_zero_le h0
  exact ⟨m, b, hm, hb, by omega, by omega⟩
theorem Good.up {j : Nat} {x : S31} (g : Good j x) : Good (j + 1) x := by
  obtain ⟨h0, h1, h2, h3⟩ := g
  exact ⟨h0, h1, by rw [Nat.pow_succ]; omega, h3⟩
theorem Good.low {j : Nat} {x : S31} (hj : j < 6) (g : Good j x) : Good (j + 1) (shift ((2 ^ j : Nat) : Int) 0 x) := by
  obtain ⟨m, b, e0, e1, hm, hb⟩ := g.nat
  have q := pow_le hj
  have := (clear_step ⟨j, hj⟩ ⟨m, by omega⟩ ⟨b, by omega⟩ hm (by show b < 2 ^ j; omega) (by have := g.lies; rw [e0, e1] at this; exact this)).1
  refine ⟨?_, ?_, ?_, ?_⟩
  · show 0 ≤ 0 + x.f1; omega
  · show 0 + x.f1 ≤ _ + x.f0; omega
  · show _ + x.f0 < _; rw [Nat.pow_succ]; omega
  · show Go.bits .andNot .i64 (0 + x.f1) (_ + x.f0) = 0
    rw [Int.zero_add, e0, e1]; exact this
theorem Good.high {j : Nat} {x : S31} (hj : j < 6) (g : Good j x) : Good (j + 1) (shift ((2 ^ j : Nat) : Int) ((2 ^ j : Nat) : Int) x) := by
  obtain ⟨m, b, e0, e1, hm, hb⟩ := g.nat
  have q := pow_le hj
  have := (clear_step ⟨j, hj⟩ ⟨m, by omega⟩ ⟨b, by omega⟩ hm (by show b < 2 ^ j; omega) (by have := g.lies; rw [e0, e1] at this; exact this)).2
  refine ⟨?_, ?_, ?_, ?_⟩
  · show 0 ≤ _ + x.f1; omega
  · show _ + x.f1 ≤ _ + x.f0; omega
  · show _ + x.f0 < _; rw [Nat.pow_succ]; omega
  · show Go.bits .andNot .i64 (_ + x.f1) (_ + x.f0) = 0
    rw [e0, e1]; exact this
theorem hit_low {j : Nat} {x : S31} (hj : j < 6) (g : Good j x) {a : Nat} (ha : a < 2 ^ (j + 1)) :
    hit (a : Int) (shift ((2 ^ j : Nat) : Int) 0 x) = (decide (a < 2 ^ j) && hit ((a % 2 ^ j : Nat) : Int) x) := by
  obtain ⟨m, b, e0, e1, hm, hb⟩ := g.nat
  have q := pow_le hj
  have ha' : a < 64 := by rw [Nat.pow_succ] at ha; omega
  obtain ⟨h1, _, h3, h4⟩ := bits_step ⟨j, hj⟩ ⟨m, by omega⟩ ⟨a, ha'⟩ hm ha
  simp only [hit, shift, e0, e1]
  rw [h1]
  simp only [] at h3 h4 ⊢
  by_cases c : a < 2 ^ j
  · simp [c]
  · simp only [c, if_false, decide_false, Bool.false_and, beq_eq_false_iff_ne, ne_eq]; omega
theorem hit_high {j : Nat} {x : S31} (hj : j < 6) (g : Good j x) {a : Nat} (ha : a < 2 ^ (j + 1)) :
    hit (a : Int) (shift ((2 ^ j : Nat) : Int) ((2 ^ j : Nat) : Int) x) = (decide (¬ a < 2 ^ j) && hit ((a % 2 ^ j : Nat) : Int) x) := by
  obtain ⟨m, b, e0, e1, hm, hb⟩ := g.nat
  have q := pow_le hj
  have ha' : a < 64 := by rw [Nat.pow_succ] at ha; omega
  obtain ⟨h1, _, h3, h4⟩ := bits_step ⟨j, hj⟩ ⟨m, by omega⟩ ⟨a, ha'⟩ hm ha
  simp only [hit, shift, e0, e1]
  rw [h1]
  simp only [] at h3 h4 ⊢
  by_cases c : a < 2 ^ j
  · simp only [c, if_true, not_true, decide_false, Bool.false_and, beq_eq_false_iff_ne, ne_eq]; omega
  · simp only [c, if_false, not_false_eq_true, decide_true, Bool.true_and]
    generalize Go.bits .and .i64 ((a % 2 ^ j : Nat) : Int) (m : Int) = y at *
    rw [Bool.eq_iff_iff, beq_iff_eq, beq_iff_eq]; omega
theorem hit_same {j : Nat} {x : S31} (hj : j < 6) (g : Good j x) {a : Nat} (ha : a < 2 ^ (j + 1)) : hit (a : Int) x = hit ((a % 2 ^ j : Nat) : Int) x := by
  obtain ⟨m, b, e0, e1, hm, hb⟩ := g.nat
  have q := pow_le hj
  have ha' : a < 64 := by rw [Nat.pow_succ] at ha; omega
  have h := (bits_step ⟨j, hj⟩ ⟨m, by omega⟩ ⟨a, ha'⟩ hm ha).2.1
  simp only [] at h
  simp only [hit, e0, e1, h]
theorem tree_good (j : Nat) : ∀ (l : List Int), j ≤ 6 → ∀ x ∈ tree j l 0 0, Good j x := by
  induction j with
  | zero => intro l _ x hx; simp [tree] at hx; subst hx; exact ⟨Int.le_refl 0, Int.le_refl 0, (by show (0 : Int) < ((2 ^ 0 : Nat) : Int); decide), (by show Go.bits .andNot .i64 0 0 = 0; decide +kernel)⟩
  | succ j ih =>
    intro l hj x hx
    simp only [tree] at hx
    split at hx
    · exact (ih _ (by omega) x hx).up
    · rw [tree_shift, tree_shift j _ _ (0 + _), List.mem_append, List.mem_map, List.mem_map, Int.zero_add] at hx
      rcases hx with ⟨y, hy, rfl⟩ | ⟨y, hy, rfl⟩
      · exact (ih _ (by omega) y hy).low (by omega)
      · exact (ih _ (by omega) y hy).high (by omega)
theorem tree_len (j : Nat) : ∀ (l : List Int) (m b : Int), (tree j l m b).length ≤ 2 ^ j ∧ 1 ≤ (tree j l m b).length := by
  induction j with
  | zero => intro l m b; simp [tree]
  | succ j ih =>
    intro l m b
    simp only [tree]
    have h1 := ih (l.take (2 ^ j)) m b
    have h2 := ih (l.take (2 ^ j)) (m + ((2 ^ j : Nat) : Int)) b
    have h3 := ih (l.drop (2 ^ j)) (m + ((2 ^ j : Nat) : Int)) (b + ((2 ^ j : Nat) : Int))
    rw [Nat.pow_succ]
    split
    · omega
    · rw [List.length_append]; omega
theorem filter_no (l : List S31) : l.filter (fun _ => false) = [] := by induction l with | nil => rfl | cons a l ih => simp [List.filter]
/-- Each letter is in just one cube, and it leads to the row's entry. -/
theorem tree_hit (j : Nat) : ∀ (l : List Int), j ≤ 6 → l.length = 2 ^ j → ∀ a : Nat, a < 2 ^ j → ((tree j l 0 0).filter (hit (a : Int))).map (·.f2) = [l.getD a 0] := by
  induction j with
  | zero =>
    intro l _ _ a ha
    obtain rfl : a = 0 := by simp at ha; exact ha
    simp only [tree, List.filter]
    rw [show hit ((0 : Nat) : Int) ⟨0, 0, l.getD 0 0⟩ = true from by show (Go.bits .and .i64 0 0 == 0) = true; decide +kernel]
    rfl
  | succ j ih =>
    intro l hj hl a ha
    have hp : 2 ^ (j + 1) = 2 ^ j + 2 ^ j := by rw [Nat.pow_succ]; omega
    have hT : (l.take (2 ^ j)).length = 2 ^ j := by rw [List.length_take]; omega
    have hD : (l.drop (2 ^ j)).length = 2 ^ j := by rw [List.length_drop]; omega
    have hpos : 0 < 2 ^ j := Nat.two_pow_pos j
    have hm : a % 2 ^ j < 2 ^ j := Nat.mod_lt _ hpos
    have key : (if a < 2 ^ j then (l.take (2 ^ j)).getD (a % 2 ^ j) 0 else (l.drop (2 ^ j)).getD (a % 2 ^ j) 0) = l.getD a 0 := by
      split
      · next c => rw [Nat.mod_eq_of_lt c]; simp [List.getD_eq_getElem?_getD, c]
      · next c =>
        have : a % 2 ^ j = a - 2 ^ j := by rw [Nat.mod_eq_sub_mod (by omega), Nat.mod_eq_of_lt (by omega)]
        rw [this]; simp only [List.getD_eq_getElem?_getD, List.getElem?_drop]; congr 2; omega
    simp only [tree]
    split
    · next c =>
      rw [show (tree j (l.take (2 ^ j)) 0 0).filter (hit (a : Int)) = (tree j (l.take (2 ^ j)) 0 0).filter (hit ((a % 2 ^ j : Nat) : Int)) from
        List.filter_congr fun x hx => hit_same (by omega) (tree_good j _ (by omega) x hx) ha]
      rw [ih _ (by omega) hT _ hm, ← key, ← c]; simp
    · rw [tree_shift, tree_shift j _ _ (0 + _), Int.zero_add, List.filter_append, List.map_append, List.filter_map, List.filter_map]
      rw [show (tree j (l.take (2 ^ j)) 0 0).filter (hit (a : Int) ∘ shift ((2 ^ j : Nat) : Int) 0) = (tree j (l.take (2 ^ j)) 0 0).filter (fun x => decide (a < 2 ^ j) && hit ((a % 2 ^ j : Nat) : Int) x) from
        List.filter_congr fun x hx => hit_low (by omega) (tree_good j _ (by omega) x hx) ha]
      rw [show (tree j (l.drop (2 ^ j)) 0 0).filter (hit (a : Int) ∘ shift ((2 ^ j : Nat) : Int) ((2 ^ j : Nat) : Int)) = (tree j (l.drop (2 ^ j)) 0 0).filter (fun x => decide (¬ a < 2 ^ j) && hit ((a % 2 ^ j : Nat) : Int) x) from
        List.filter_congr fun x hx => hit_high (by omega) (tree_good j _ (by omega) x hx) ha]
      by_cases c : a < 2 ^ j
      · rw [if_pos c] at key
        simp only [c, decide_true, Bool.true_and, not_true, decide_false, Bool.false_and, filter_no, List.map_nil, List.append_nil, List.map_map]
        rw [← key, ← ih _ (by omega) hT _ hm]; rfl
      · rw [if_neg c] at key
        simp only [c, decide_true, Bool.true_and, not_false_eq_true, decide_false, Bool.false_and, filter_no, List.map_nil, List.nil_append, List.map_map]
        rw [← key, ← ih _ (by omega) hD _ hm]; rfl
theorem tree_rises (j : Nat) : ∀ (l : List Int), j ≤ 6 → (tree j l 0 0).Pairwise (fun x y => x.f1 < y.f1) := by
  induction j with
  | zero => intro l _; simp [tree]
  | succ j ih =>
    intro l hj
    simp only [tree]
    split
    · exact ih _ (by omega)
    · rw [tree_shift, tree_shift j _ _ (0 + _), Int.zero_add, List.pairwise_append]
      refine ⟨(ih _ (by omega)).map _ fun x y h => ?_, (ih _ (by omega)).map _ fun x y h => ?_, ?_⟩
      · show 0 + x.f1 < 0 + y.f1; omega
      · show _ + x.f1 < _ + y.f1; omega
      · intro x hx y hy
        obtain ⟨x', hx', rfl⟩ := List.mem_map.1 hx
        obtain ⟨y', hy', rfl⟩ := List.mem_map.1 hy
        have g := tree_good j _ (by omega) _ hx'
        have k := tree_good j _ (by omega) _ hy'
        show 0 + x'.f1 < _ + y'.f1
        have := g.bm; have := g.m2; have := k.b0
        omega
theorem tree_inj (j : Nat) {l l' : List Int} (hj : j ≤ 6) (h : l.length = 2 ^ j) (h' : l'.length = 2 ^ j) (e : tree j l 0 0 = tree j l' 0 0) : l = l' := by
  apply List.ext_getElem (by omega)
  intro i h1 h2
  have a := tree_hit j l hj h i (by rw [← h]; exact h1)
  have b := tree_hit j l' hj h' i (by rw [← h']; exact h2)
  rw [e] at a
  have := List.cons.inj (a.symm.trans b)
  simpa [List.getD_eq_getElem?_getD, h1, h2] using this.1

/-! ### The program's tree and the reference's -/
theorem quot_half : ∀ j : Fin 6, 64 / 2 ^ j.1 = 2 * (64 / 2 ^ (j.1 + 1)) := by decide +kernel
theorem leaves_ev (j : Nat) : ∀ (l : List Int) (q p : Nat), j ≤ 6 → l.length = 2 ^ j → q < 64 / 2 ^ j → p < 64 / 2 ^ j →
    Ev (fun k => row_Pack.leaves k l ((q * 2 ^ j : Nat) : Int) ((p * 2 ^ j : Nat) : Int)) (tree j l ((q * 2 ^ j : Nat) : Int) ((p * 2 ^ j : Nat) : Int)) := by
  induction j with
  | zero =>
    intro l q p _ hl _ _
    have h1 : l.length = 1 := by simpa using hl
    refine Ev.step (fun k => by rw [row_Pack.leaves]) (Ev.cond (by omega) (Ev.cond (by omega) (Ev.fin ?_)))
    rw [tree]; congr 2
  | succ j ih =>
    intro l q p hj hl hq hp
    have hpw : 2 ^ (j + 1) = 2 ^ j + 2 ^ j := by rw [Nat.pow_succ]; omega
    have hpos := Nat.two_pow_pos j
    have hh : l.length / 2 = 2 ^ j := by omega
    have hT : (l.take (2 ^ j)).length = 2 ^ j := by rw [List.length_take]; omega
    have hD : (l.drop (2 ^ j)).length = 2 ^ j := by rw [List.length_drop]; omega
    have q2 := quot_half ⟨j, by omega⟩
    simp only [] at q2
    have e (x : Nat) : x * 2 ^ (j + 1) = (2 * x) * 2 ^ j := by rw [hpw, Nat.mul_add, ← Nat.add_mul, ← Nat.two_mul]
    have e1 (x : Nat) : ((x * 2 ^ (j + 1) : Nat) : Int) + ((2 ^ j : Nat) : Int) = (((2 * x + 1) * 2 ^ j : Nat) : Int) := by
      rw [e, Nat.add_mul, Nat.one_mul]; omega
    have o (x : Nat) (hx : x < 64 / 2 ^ (j + 1)) : Go.bits .or .i64 ((x * 2 ^ (j + 1) : Nat) : Int) ((2 ^ j : Nat) : Int) = ((x * 2 ^ (j + 1) : Nat) : Int) + ((2 ^ j : Nat) : Int) :=
      or_step ⟨j, by omega⟩ ⟨x, Nat.lt_of_lt_of_le hx (Nat.div_le_self _ _)⟩ hx
    refine Ev.step (fun k => by rw [row_Pack.leaves]) (Ev.ncond (by omega) ?_)
    rw [hh, o q hq, o p hp]
    refine Ev.bind (equal_ev _ _ (by rw [hT]; have := pow6 (show j ≤ 6 by omega); omega)) ?_
    rw [tree]
    by_cases c : l.take (2 ^ j) = l.drop (2 ^ j)
    · rw [decide_eq_true c, if_pos c]
      refine Ev.cond rfl ?_
      rw [e q, e p]
      exact ih _ (2 * q) (2 * p) (by omega) hT (by omega) (by omega)
    · rw [decide_eq_false c, if_neg c]
      refine Ev.ncond (by decide) ?_
      rw [e1 q, e1 p, e p]
      refine Ev.bind (ih _ (2 * q + 1) (2 * p) (by omega) hT (by omega) (by omega)) (Ev.bind (ih _ (2 * q + 1) (2 * p + 1) (by omega) hD (by omega) (by omega)) (Ev.fin rfl))
theorem cubes_tree (j : Nat) : ∀ (l : List Int) (m b : Int), j ≤ 6 → l.length = 2 ^ j → 0 ≤ m → m + ((2 ^ j : Nat) : Int) ≤ 64 → 0 ≤ b → b + ((2 ^ j : Nat) : Int) ≤ 64 →
    Ev (fun k => tabardref11_Cubes.f k l m b) (tree j l m b) := by
  induction j with
  | zero =>
    intro l m b _ hl _ _ _ _
    have h1 : l.length = 1 := by simpa using hl
    refine Ev.step (fun k => by rw [tabardref11_Cubes.f]) (Ev.cond (by omega) (Ev.cond (by omega) (Ev.fin ?_)))
    rw [tree]; congr 2
  | succ j ih =>
    intro l m b hj hl hm hm2 hb hb2
    have hpw : 2 ^ (j + 1) = 2 ^ j + 2 ^ j := by rw [Nat.pow_succ]; omega
    have hpos := Nat.two_pow_pos j
    have hT : (l.take (2 ^ j)).length = 2 ^ j := by rw [List.length_take]; omega
    have hD : (l.drop (2 ^ j)).length = 2 ^ j := by rw [List.length_drop]; omega
    have hD2 : (l.drop (2 ^ j)).take (2 ^ j) = l.drop (2 ^ j) := List.take_of_length_le (by omega)
    have b0 := half_ev l j (by omega) hl 0 (by omega)
    have b1 := half_ev l j (by omega) hl 1 (by omega)
    rw [Nat.zero_mul, List.drop_zero] at b0
    rw [Nat.one_mul, hD2] at b1
    have a0 : Ev (fun k => tabardref11_half.f k l 0) (l.take (2 ^ j)) := b0
    have a1 : Ev (fun k => tabardref11_half.f k l 1) (l.drop (2 ^ j)) := b1
    have h64 := pow6 (show j ≤ 6 by omega)
    refine Ev.step (fun k => by rw [tabardref11_Cubes.f]) (Ev.ncond (by omega) (Ev.bind a0 (Ev.bind a1 (Ev.bind (same_ev (l.take (2 ^ j)) (l.drop (2 ^ j)) (by omega) (by omega)) ?_))))
    rw [tree, hT]
    by_cases c : l.take (2 ^ j) = l.drop (2 ^ j)
    · rw [decide_eq_true c, if_pos c]
      exact Ev.cond rfl (Ev.bind (ih _ m b (by omega) hT hm (by omega) hb (by omega)) (Ev.fin rfl))
    · rw [decide_eq_false c, if_neg c]
      refine Ev.ncond (by decide) ?_
      rw [w64 (by omega) (by omega), w64 (by omega) (by omega)]
      have t1 := (tree_len j (l.take (2 ^ j)) (m + ((2 ^ j : Nat) : Int)) b).1
      have t2 := (tree_len j (l.drop (2 ^ j)) (m + ((2 ^ j : Nat) : Int)) (b + ((2 ^ j : Nat) : Int))).1
      refine Ev.bind (ih _ _ b (by omega) hT (by omega) (by omega) hb (by omega)) (Ev.bind (ih _ _ _ (by omega) hD (by omega) (by omega) (by omega) (by omega)) (Ev.cond (by omega) (Ev.fin rfl)))
theorem leaves0 {j : Nat} {l : List Int} (hj : j ≤ 6) (hl : l.length = 2 ^ j) : Ev (fun k => row_Pack.leaves k l 0 0) (tree j l 0 0) := by
  have := leaves_ev j l 0 0 hj hl (Nat.div_pos (pow6 hj) (Nat.two_pow_pos j)) (Nat.div_pos (pow6 hj) (Nat.two_pow_pos j))
  simpa using this
theorem cubes0 {j : Nat} {l : List Int} (hj : j ≤ 6) (hl : l.length = 2 ^ j) : Ev (fun k => tabardref11_Cubes.f k l 0 0) (tree j l 0 0) :=
  cubes_tree j l 0 0 hj hl (by omega) (by have := pow6 hj; omega) (by omega) (by have := pow6 hj; omega)
theorem pack_ok {j : Nat} {l : List Int} (hj : j ≤ 6) (hl : l.length = 2 ^ j) (h : ∀ x ∈ l, 0 ≤ x) : Ev (fun k => row_Pack.f k l) (tree j l 0 0, 0) := by
  refine Ev.congr (fun k => by rw [row_Pack.f]) (Ev.bind (right_ev l (by have := pow6 hj; omega)) ?_)
  rw [decide_eq_true (show IsRow l from ⟨⟨j, hj, hl⟩, h⟩)]
  exact Ev.cond rfl (Ev.bind (leaves0 hj hl) (Ev.fin rfl))
theorem pack_no {l : List Int} (hl : l.length ≤ 9000000000000000000) (h : ¬ IsRow l) : Ev (fun k => row_Pack.f k l) ([], 3) := by
  refine Ev.congr (fun k => by rw [row_Pack.f]) (Ev.bind (right_ev l hl) ?_)
  rw [decide_eq_false h]
  exact Ev.ncond (by decide) (Ev.fin rfl)
theorem lv_ok {j : Nat} {l : List Int} (hj : j ≤ 6) (hl : l.length = 2 ^ j) (h : ∀ x ∈ l, 0 ≤ x) : Ev (fun k => row_Leaves.f k l) (((tree j l 0 0).length : Int), 0) := by
  refine Ev.congr (fun k => by rw [row_Leaves.f]) (Ev.bind (right_ev l (by have := pow6 hj; omega)) ?_)
  rw [decide_eq_true (show IsRow l from ⟨⟨j, hj, hl⟩, h⟩)]
  exact Ev.cond rfl (Ev.bind (leaves0 hj hl) (Ev.fin rfl))
theorem lv_no {l : List Int} (hl : l.length ≤ 9000000000000000000) (h : ¬ IsRow l) : Ev (fun k => row_Leaves.f k l) (0, 3) := by
  refine Ev.congr (fun k => by rw [row_Leaves.f]) (Ev.bind (right_ev l hl) ?_)
  rw [decide_eq_false h]
  exact Ev.ncond (by decide) (Ev.fin rfl)
theorem rpack_ok {j : Nat} {l : List Int} (hj : j ≤ 6) (hl : l.length = 2 ^ j) (h : ∀ x ∈ l, 0 ≤ x) : Ev (fun k => tabardref11_Pack.f k l) (tree j l 0 0, 0) := by
  refine Ev.congr (fun k => by rw [tabardref11_Pack.f]) (Ev.bind (rrow_ev l (by have := pow6 hj; omega)) ?_)
  rw [decide_eq_true (show IsRow l from ⟨⟨j, hj, hl⟩, h⟩)]
  exact Ev.cond rfl (Ev.bind (cubes0 hj hl) (Ev.fin rfl))
theorem rpack_no {l : List Int} (hl : l.length ≤ 9000000000000000000) (h : ¬ IsRow l) : Ev (fun k => tabardref11_Pack.f k l) ([], 3) := by
  refine Ev.congr (fun k => by rw [tabardref11_Pack.f]) (Ev.bind (rrow_ev l hl) ?_)
  rw [decide_eq_false h]
  exact Ev.ncond (by decide) (Ev.fin rfl)
theorem fixed_ev : Ev (fun k => tabardlaw11_fixed.f k) true := Ev.of tabardlaw11_fixed.mono (show tabardlaw11_fixed.f 12 = some true by decide +kernel)
end Go.Proofs.Ytiakfdoaopfihaa.Pure

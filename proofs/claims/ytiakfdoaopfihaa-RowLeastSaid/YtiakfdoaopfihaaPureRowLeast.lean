/- The law RowLeast over lists alone: what the cubes of two rows and of both together are; no condition beyond the statement's own. -/
import Derived.Test.YtiakfdoaopfihaaRowC
import Derived.Test.YtiakfdoaopfihaaX0
import Derived.Test.YtiakfdoaopfihaaX4
import Derived.Test.YtiakfdoaopfihaaX7
namespace Go.Proofs.Ytiakfdoaopfihaa.Pure
open Go.RowKit Go.Proofs.YtiakfdoaopfihaaW.PrintWords Go.Proofs.YtiakfdoaopfihaaW.PrintLast Go.Proofs.YtiakfdoaopfihaaW.PrintMore Go.Proofs.Ytiakfdoaopfihaa.X
set_option linter.unusedVariables false
theorem or_good {j : Nat} {x : S31} (hj : j < 6) (g : Good j x) : Go.bits .or .i64 x.f0 ((2 ^ j : Nat) : Int) = ((2 ^ j : Nat) : Int) + x.f0 ∧ Go.bits .or .i64 x.f1 ((2 ^ j : Nat) : Int) = ((2 ^ j : Nat) : Int) + x.f1 := by
  obtain ⟨m, b, e0, e1, hm, hb⟩ := g.nat
  have q := pow_le hj
  rw [e0, e1]
  exact ⟨or_low ⟨j, hj⟩ ⟨m, by omega⟩ hm, or_low ⟨j, hj⟩ ⟨b, by omega⟩ (by show b < 2 ^ j; omega)⟩
theorem rl_loop {a : List Int} {j : Nat} (hj : j < 6) (ha : a.length = 2 ^ j) {c d : List S31} (hc : ∀ x ∈ c, Good j x) (hd : ∀ x ∈ d, Good j x) (h64 : c.length ≤ 64) (h65 : d.length ≤ 64) :
    ∀ (m i : Nat), i + m = (c.map (shift ((2 ^ j : Nat) : Int) 0) ++ d.map (shift ((2 ^ j : Nat) : Int) ((2 ^ j : Nat) : Int))).length →
      Ev (fun k => tabardlaw11_RowLeast.l0 k a c d (c.map (shift ((2 ^ j : Nat) : Int) 0) ++ d.map (shift ((2 ^ j : Nat) : Int) ((2 ^ j : Nat) : Int))) ((c.map (shift ((2 ^ j : Nat) : Int) 0) ++ d.map (shift ((2 ^ j : Nat) : Int) ((2 ^ j : Nat) : Int))).length : Int) (i : Int)) true := by
  have hlen : (c.map (shift ((2 ^ j : Nat) : Int) 0) ++ d.map (shift ((2 ^ j : Nat) : Int) ((2 ^ j : Nat) : Int))).length = c.length + d.length := by simp
  have hlo : ∀ i (h : i < c.length), rd_T31 (c.map (shift ((2 ^ j : Nat) : Int) 0) ++ d.map (shift ((2 ^ j : Nat) : Int) ((2 ^ j : Nat) : Int))) (i : Int) = shift ((2 ^ j : Nat) : Int) 0 c[i] := by
    intro i h
    rw [rdT_nat, List.getD_eq_getElem?_getD, List.getElem?_append_left (by simpa using h)]
    simp [h]
  have hhi : ∀ i (h : i < d.length), rd_T31 (c.map (shift ((2 ^ j : Nat) : Int) 0) ++ d.map (shift ((2 ^ j : Nat) : Int) ((2 ^ j : Nat) : Int))) ((c.length + i : Nat) : Int) = shift ((2 ^ j : Nat) : Int) ((2 ^ j : Nat) : Int) d[i] := by
    intro i h
    rw [rdT_nat, List.getD_eq_getElem?_getD, List.getElem?_append_right (by simp)]
    simp [h]
  generalize c.map (shift ((2 ^ j : Nat) : Int) 0) ++ d.map (shift ((2 ^ j : Nat) : Int) ((2 ^ j : Nat) : Int)) = w at *
  intro m
  induction m with
  | zero => intro i hi; exact Ev.step (fun k => by rw [tabardlaw11_RowLeast.l0]) (Ev.ncond (by omega) (Ev.fin rfl))
  | succ m ih =>
    intro i hi
    refine Ev.step (fun k => by rw [tabardlaw11_RowLeast.l0]) (Ev.cond (by omega) (Ev.cond (by omega) (Ev.cond (by omega) ?_)))
    rw [w64 (x := (i : Int) + 1) (by omega) (by omega), ha]
    by_cases c1 : i < c.length
    · refine Ev.cond (by omega) (Ev.ncond ?_ (ih (i + 1) (by omega)))
      have g := or_good hj (hc c[i] (List.getElem_mem c1))
      rw [hlo i c1, rdT_nat c, List.getD_eq_getElem?_getD, List.getElem?_eq_getElem c1, Option.getD_some, g.1]
      simp [shift]
    · refine Ev.ncond (by omega) ?_
      rw [w64 (by omega) (by omega), show (i : Int) - (c.length : Int) = ((i - c.length : Nat) : Int) by omega]
      have c2 : i - c.length < d.length := by omega
      refine Ev.cond (by omega) (Ev.cond (by omega) (Ev.ncond ?_ (ih (i + 1) (by omega))))
      have g := or_good hj (hd d[i - c.length] (List.getElem_mem c2))
      have q := hhi (i - c.length) c2
      rw [show c.length + (i - c.length) = i by omega] at q
      rw [q, rdT_nat d, List.getD_eq_getElem?_getD, List.getElem?_eq_getElem c2, Option.getD_some, g.1, g.2]
      simp [shift]
theorem rl_j1 {a b : List Int} {j : Nat} (hj : j < 6) (ha : a.length = 2 ^ j) (hb : b.length = 2 ^ j) (pa : ∀ x ∈ a, 0 ≤ x) (pb : ∀ x ∈ b, 0 ≤ x) :
    Ev (fun k => tabardlaw11_RowLeast.j1 k a b (tree j a 0 0) (tree j b 0 0) false) true := by
  have h6 := pow6 (show j ≤ 6 by omega)
  have ta := (tree_len j a 0 0).1
  have tb := (tree_len j b 0 0).1
  refine Ev.step (fun k => by rw [tabardlaw11_RowLeast.j1]) (Ev.ncond (by decide) (Ev.bind (cubes_ev (tree j a 0 0) (tree j b 0 0) (by omega)) (Ev.bind (ints_ev a b (by omega)) ?_)))
  have same : decide (tree j a 0 0 = tree j b 0 0) = decide (a = b) := decide_eq_decide.2 ⟨tree_inj j (by omega) ha hb, fun e => by rw [e]⟩
  rw [same]
  refine Ev.ncond (by simp) ?_
  refine Ev.ret rfl ?_
  refine Ev.cond (by simp; omega) ?_
  refine Ev.ret rfl ?_
  rw [List.nil_append]
  refine Ev.cond (by omega) ?_
  have hp : 2 ^ (j + 1) = 2 ^ j + 2 ^ j := by rw [Nat.pow_succ]; omega
  have W := pack_ok (l := a ++ b) (j := j + 1) (by omega) (by rw [List.length_append]; omega) (fun x hx => by rcases List.mem_append.1 hx with h | h; exact pa x h; exact pb x h)
  have hT : (a ++ b).take (2 ^ j) = a := by rw [← ha]; simp
  have hD : (a ++ b).drop (2 ^ j) = b := by rw [← ha]; simp
  rw [tree, hT, hD] at W
  refine Ev.bind W (Ev.cond rfl ?_)
  refine Ev.bind (ints_ev a b (by omega)) ?_
  by_cases e : a = b
  · rw [decide_eq_true e, if_pos e]
    refine Ev.cond rfl (Ev.bind (cubes_ev (tree j a 0 0) (tree j a 0 0) (by omega)) (Ev.fin ?_))
    exact decide_eq_true rfl
  · rw [decide_eq_false e, if_neg e]
    refine Ev.ncond (by decide) ?_
    rw [tree_shift, tree_shift j b, Int.zero_add]
    refine Ev.cond (by rw [w64 (by omega) (by omega)]; simp) ?_
    exact rl_loop hj ha (tree_good j a (by omega)) (tree_good j b (by omega)) (by omega) (by omega) _ 0 (Nat.zero_add _)
theorem rl_j0 (a b : List Int) (c d : List S31) : Ev (fun k => tabardlaw11_RowLeast.j0 k a b c d true) true := Ev.step (fun k => by rw [tabardlaw11_RowLeast.j0]) (Ev.cond rfl (Ev.fin rfl))
theorem rl_j1t (a b : List Int) (c d : List S31) : Ev (fun k => tabardlaw11_RowLeast.j1 k a b c d true) true := Ev.step (fun k => by rw [tabardlaw11_RowLeast.j1]) (Ev.cond rfl (Ev.fin rfl))
theorem rl_main {a b : List Int} {c d : List S31} {e f : Int} (la : a.length < 17592186044416) (lb : b.length < 17592186044416) (h1 : Ev (fun k => row_Pack.f k a) (c, e)) (h2 : Ev (fun k => row_Pack.f k b) (d, f))
    (h : e = 0 → f = 0 → Ev (fun k => tabardlaw11_RowLeast.j0 k a b c d false) true) : Ev (fun k => tabardlaw11_RowLeast.f k a b) true := by
  refine Ev.congr (fun k => by rw [tabardlaw11_RowLeast.f]) (Ev.bind fixed_ev (Ev.cond rfl ?_))
  refine Ev.ret rfl ?_
  refine Ev.cond (by simpa using la) ?_
  rw [List.nil_append]
  refine Ev.bind h1 ?_
  refine Ev.ret rfl ?_
  refine Ev.cond (by simpa using lb) ?_
  rw [List.nil_append]
  refine Ev.bind h2 ?_
  refine Ev.ite (fun e0 => ?_) (fun _ => rl_j0 a b _ _)
  by_cases f0 : f = 0
  · subst f0; exact h e0 rfl
  · show Ev (fun k => tabardlaw11_RowLeast.j0 k a b c d (f != 0)) true
    rw [bne_iff_ne.2 f0]; exact rl_j0 a b _ _
theorem RowLeast : tabardlaw11_RowLeast.Pure := by
  intro a b ma la _ mb lb _
  refine Ev.rounds ?_
  by_cases ra : IsRow a
  · obtain ⟨⟨j, hj, ea⟩, pa⟩ := ra
    by_cases rb : IsRow b
    · obtain ⟨⟨i, hi, eb⟩, pb⟩ := rb
      refine rl_main (by omega) (by omega) (pack_ok hj ea pa) (pack_ok hi eb pb) (fun _ _ => ?_)
      refine Ev.step (fun k => by rw [tabardlaw11_RowLeast.j0]) (Ev.ncond (by decide) (Ev.ite (fun l => ?_) (fun _ => rl_j1t a b _ _)))
      by_cases big : (a.length : Int) > 32
      · rw [decide_eq_true big]; exact rl_j1t a b _ _
      · rw [decide_eq_false big]
        have j5 : j < 6 := by
          rcases Nat.lt_or_ge j 6 with h | h
          · exact h
          · obtain rfl : j = 6 := by omega
            rw [ea] at big; exact absurd (by decide) big
        have ij : i = j := by
          have e2 : 2 ^ i = 2 ^ j := by omega
          exact (Nat.pow_right_inj (by decide)).1 e2
        subst ij
        exact rl_j1 j5 ea eb pa pb
    · exact rl_main (by omega) (by omega) (pack_ok hj ea pa) (pack_no (by omega) rb) (fun _ h => absurd h (by decide))
  · by_cases rb : IsRow b
    · obtain ⟨⟨i, hi, eb⟩, pb⟩ := rb
      exact rl_main (by omega) (by omega) (pack_no (by omega) ra) (pack_ok hi eb pb) (fun h _ => absurd h (by decide))
    · exact rl_main (by omega) (by omega) (pack_no (by omega) ra) (pack_no (by omega) rb) (fun h _ => absurd h (by decide))
end Go.Proofs.Ytiakfdoaopfihaa.Pure

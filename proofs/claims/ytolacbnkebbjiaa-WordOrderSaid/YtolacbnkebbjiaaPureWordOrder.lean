/- The law WordOrder over lists alone: Compare orders words; no condition beyond the statement's own. -/
import Derived.Test.YtolacbnkebbjiaaWordE
import Derived.Test.YtolacbnkebbjiaaX24
import Derived.Test.YtolacbnkebbjiaaX25
namespace Go.Proofs.Ytolacbnkebbjiaa.Pure
open Go.RowKit Go.Proofs.YtolacbnkebbjiaaW.PrintWords Go.Proofs.YtolacbnkebbjiaaW.PrintLast Go.Proofs.YtolacbnkebbjiaaW.PrintMore Go.Proofs.Ytolacbnkebbjiaa.X
set_option linter.unusedVariables false
theorem lexI_zero {a b : List Int} (h : a.length = b.length) : lexI a b = 0 ↔ a = b := by
  induction a generalizing b with
  | nil => cases b with
    | nil => simp [lexI]
    | cons y ys => simp at h
  | cons x xs ih => cases b with
    | nil => simp at h
    | cons y ys =>
      have := ih (b := ys) (by simpa using h)
      rw [lexI, List.cons.injEq]
      by_cases h1 : x < y
      · rw [if_pos h1]; exact ⟨fun h => by omega, fun h => by omega⟩
      · rw [if_neg h1]
        by_cases h2 : x > y
        · rw [if_pos h2]; exact ⟨fun h => by omega, fun h => by omega⟩
        · rw [if_neg h2, this]; exact ⟨fun h => ⟨by omega, h⟩, fun h => h.2⟩
theorem lexI_trans {a b c : List Int} (h1 : a.length = b.length) (h2 : b.length = c.length) (p : lexI a b ≤ 0) (q : lexI b c ≤ 0) : lexI a c ≤ 0 := by
  induction a generalizing b c with
  | nil => cases b with
    | nil => exact q
    | cons y ys => simp at h1
  | cons x xs ih => cases b with
    | nil => simp at h1
    | cons y ys => cases c with
      | nil => simp at h2
      | cons z zs =>
        have := ih (b := ys) (c := zs) (by simpa using h1) (by simpa using h2)
        rw [lexI] at p q ⊢
        by_cases h : x < z
        · rw [if_pos h]; omega
        · rw [if_neg h]
          by_cases h' : x > z
          · exfalso
            by_cases e1 : x < y
            · rw [if_neg (by omega), if_pos (by omega)] at q; omega
            · rw [if_neg e1] at p
              by_cases e2 : x > y
              · rw [if_pos e2] at p; omega
              · rw [if_neg (by omega), if_pos (by omega)] at q; omega
          · rw [if_neg h']
            by_cases e1 : x < y
            · rw [if_neg (by omega), if_pos (by omega)] at q; omega
            · rw [if_neg e1] at p
              by_cases e2 : x > y
              · rw [if_pos e2] at p; omega
              · rw [if_neg e2] at p
                rw [if_neg (by omega), if_neg (by omega)] at q
                exact this p q
theorem cmpS_trans {a b c : List Int} (p : cmpS a b ≤ 0) (q : cmpS b c ≤ 0) : cmpS a c ≤ 0 := by
  unfold cmpS at p q ⊢
  by_cases h1 : a.length < c.length
  · rw [if_pos h1]; omega
  · rw [if_neg h1]
    by_cases h2 : a.length > c.length
    · exfalso
      by_cases e1 : a.length < b.length
      · rw [if_neg (by omega), if_pos (by omega)] at q; omega
      · rw [if_neg e1] at p
        by_cases e2 : a.length > b.length
        · rw [if_pos e2] at p; omega
        · rw [if_neg (by omega), if_pos (by omega)] at q; omega
    · rw [if_neg h2]
      by_cases e1 : a.length < b.length
      · rw [if_neg (by omega), if_pos (by omega)] at q; omega
      · rw [if_neg e1] at p
        by_cases e2 : a.length > b.length
        · rw [if_pos e2] at p; omega
        · rw [if_neg e2] at p
          rw [if_neg (by omega), if_neg (by omega)] at q
          exact lexI_trans (by omega) (by omega) p q
theorem cmpS_zero (a b : List Int) : cmpS a b = 0 ↔ a = b := by
  unfold cmpS
  by_cases h1 : a.length < b.length
  · rw [if_pos h1]; exact ⟨fun h => by omega, fun h => by rw [h] at h1; omega⟩
  · rw [if_neg h1]
    by_cases h2 : a.length > b.length
    · rw [if_pos h2]; exact ⟨fun h => by omega, fun h => by rw [h] at h2; omega⟩
    · rw [if_neg h2]; exact lexI_zero (by omega)
theorem order_tail {a : List Int} {x : Int} {c : Int} (hl : a.length ≤ 17592186044000) (h0 : c ≥ -1) (h1 : c ≤ 1) :
    Ev (fun k => ((some (([] : List Int) : List Int)).bind fun y499 => (if y499.length + a.length < 17592186044416 then ((some (y499 ++ a : List Int)).bind fun y502 => (if y502.length < 17592186044416 then ((word_Compare.f k a (y502 ++ [x])).bind fun t508 => (if t508 = (-1) then (if c ≥ (-1) then (some (decide (c ≤ 1))) else (some false)) else (some false))) else (none))) else (none)))) true := by
  refine Ev.ret rfl (Ev.cond (by simp; omega) (Ev.ret rfl (Ev.cond (by simp; omega) ?_)))
  rw [List.nil_append]
  refine Ev.bind (compare_ev (by omega)) (Ev.cond ?_ (Ev.cond h0 (Ev.fin (by simp [h1]))))
  unfold cmpS
  rw [if_pos (by simp)]
theorem WordOrder : tabardlaw03_WordOrder.Pure := by
  intro a b c x hm hs hw hm2 hs2 hw2 hm3 hs3 hw3 hx
  have hl : a.length ≤ 9000000000000000000 := by omega
  have hl2 : b.length ≤ 9000000000000000000 := by omega
  refine Ev.rounds (g := fun k => tabardlaw03_WordOrder.f k a b c x) ?_
  refine Ev.congr (fun k => by rw [tabardlaw03_WordOrder.f]) ?_
  refine Ev.bind fixed_ev (Ev.cond rfl (Ev.bind (compare_ev hl) (Ev.bind (compare_ev hl2) (Ev.bind (compare_ev hl) (Ev.bind (same_ev hl) ?_)))))
  have hr := cmpS_range a b
  have hz := cmpS_zero a b
  have t1 := cmpS_trans (a := a) (b := b) (c := c)
  have t2 := cmpS_trans (a := c) (b := b) (c := a)
  rw [cmpS_neg b c, cmpS_neg a b, cmpS_neg a c] at t2
  have tail := order_tail (a := a) (x := x) (c := cmpS a b) (by omega) (by omega) (by omega)
  refine Ev.ncond ?_ ?_
  · by_cases e : a = b
    · rw [decide_eq_true e, (hz.2 e)]; simp
    · have : ¬ cmpS a b = 0 := fun h => e (hz.1 h)
      rw [decide_eq_false e]; simp [this]
  · clear hz
    repeat' first
      | exact tail
      | refine Ev.ite (fun _ => ?_) (fun _ => ?_)
    all_goals exfalso; omega
end Go.Proofs.Ytolacbnkebbjiaa.Pure

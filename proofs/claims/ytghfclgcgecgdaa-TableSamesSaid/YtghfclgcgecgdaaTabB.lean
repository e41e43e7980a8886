/- Same and Copy of tables; no condition but lengths. -/
import Derived.Test.YtghfclgcgecgdaaTabA
import Derived.Test.YtghfclgcgecgdaaX0
import Derived.Test.YtghfclgcgecgdaaX20
import Derived.Test.YtghfclgcgecgdaaX22
import Derived.Test.YtghfclgcgecgdaaX23
namespace Go.Proofs.Ytghfclgcgecgdaa.Pure
open Go.RowKit Go.Proofs.YtghfclgcgecgdaaW.PrintWords Go.Proofs.YtghfclgcgecgdaaW.PrintLast Go.Proofs.YtghfclgcgecgdaaW.PrintMore Go.Proofs.Ytghfclgcgecgdaa.X
set_option linter.unusedVariables false
theorem and4 {a b c d : Prop} [Decidable a] [Decidable b] [Decidable c] [Decidable d] : decide (a ∧ b ∧ c ∧ d) = (decide a && (decide b && (decide c && decide d))) := by
  by_cases a <;> by_cases b <;> by_cases c <;> by_cases d <;> simp [*]
section
variable {t0 u0 : List ByteArray} {t1 u1 : List Bool} {t2 u2 : List Int} {t3 u3 : List S58}
theorem same_tab (h0 : t0.length ≤ 9000000000000000000) (h1 : t1.length ≤ 9000000000000000000) (h2 : t2.length ≤ 9000000000000000000) (h3 : t3.length ≤ 9000000000000000000) :
    Ev (fun k => table_Same.f k t0 t1 t2 t3 u0 u1 u2 u3) (decide (t0 = u0 ∧ t1 = u1 ∧ t2 = u2 ∧ t3 = u3)) := by
  rw [and4]
  refine Ev.congr (fun k => by rw [table_Same.f]) (Ev.bind (strs_ev t0 u0 h0) ?_)
  by_cases c0 : t0 = u0
  · rw [decide_eq_true c0]
    refine Ev.cond rfl (Ev.bind (bools_ev t1 u1 h1) ?_)
    by_cases c1 : t1 = u1
    · rw [decide_eq_true c1]
      refine Ev.cond rfl (Ev.bind (equal_ev t2 u2 h2) ?_)
      by_cases c2 : t2 = u2
      · rw [decide_eq_true c2]
        exact Ev.cond rfl (Ev.bind (cubeq_ev t3 u3 h3) (Ev.fin rfl))
      · rw [decide_eq_false c2]; exact Ev.ncond (by decide) (Ev.fin rfl)
    · rw [decide_eq_false c1]; exact Ev.ncond (by decide) (Ev.fin rfl)
  · rw [decide_eq_false c0]; exact Ev.ncond (by decide) (Ev.fin rfl)
theorem rsame_loop {v0 w0 : List ByteArray} {v1 w1 : List Bool} {v2 w2 : List Int} (h3 : t3.length ≤ 9000000000000000000) (hl : t3.length = u3.length) : Ev (fun k => tabardref12_Same.l0 k 0 v0 v1 v2 t3 w0 w1 w2 u3) (decide (t3 = u3)) := by
  have key : ∀ (m i : Nat), i + m = t3.length → Ev (fun k => tabardref12_Same.l0 k (i : Int) v0 v1 v2 t3 w0 w1 w2 u3) (decide (t3.drop i = u3.drop i)) := by
    intro m
    induction m with
    | zero =>
      intro i hi
      refine Ev.step (fun k => by rw [tabardref12_Same.l0]) (Ev.ncond (by omega) (Ev.fin ?_))
      rw [List.drop_eq_nil_of_le (by omega), List.drop_eq_nil_of_le (by omega)]; exact (decide_eq_true rfl).symm
    | succ m ih =>
      intro i hi
      refine Ev.step (fun k => by rw [tabardref12_Same.l0]) (Ev.cond (by omega) (Ev.cond (by omega) (Ev.cond (by omega) ?_)))
      refine Ev.ite (fun c => Ev.fin ?_) (fun c => ?_)
      · exact (decide_eq_false (fun e => ((ne_S _ _).1 c) ((drop_rdT t3 u3 (by omega) (by omega)).1 e).1)).symm
      · rw [w64 (by omega) (by omega)]
        have := ih (i + 1) (by omega)
        rwa [decide_eq_decide.2 ((drop_rdT t3 u3 (by omega) (by omega)).trans (and_iff_right (eq_S c)))]
  exact key t3.length 0 (by omega)
theorem rsame_tab (h0 : t0.length ≤ 9000000000000000000) (h1 : t1.length ≤ 9000000000000000000) (h2 : t2.length ≤ 9000000000000000000) (h3 : t3.length ≤ 9000000000000000000) :
    Ev (fun k => tabardref12_Same.f k t0 t1 t2 t3 u0 u1 u2 u3) (decide (t0 = u0 ∧ t1 = u1 ∧ t2 = u2 ∧ t3 = u3)) := by
  rw [and4]
  have no : ∀ {x : Bool}, x = false → Ev (fun k => tabardref12_Same.j0 k true t0 t1 t2 t3 u0 u1 u2 u3) x := fun e => e ▸ Ev.step (fun k => by rw [tabardref12_Same.j0]) (Ev.cond rfl (Ev.fin rfl))
  refine Ev.congr (fun k => by rw [tabardref12_Same.f]) (Ev.bind (texts_ev t0 u0 h0) ?_)
  by_cases c0 : t0 = u0
  · rw [decide_eq_true c0]
    refine Ev.cond rfl (Ev.bind (flags_ev t1 u1 h1) ?_)
    by_cases c1 : t1 = u1
    · rw [decide_eq_true c1]
      refine Ev.cond rfl (Ev.bind (rints_ev t2 u2 h2) ?_)
      by_cases c2 : t2 = u2
      · rw [decide_eq_true c2]
        refine Ev.cond rfl ?_
        by_cases c3 : t3.length = u3.length
        · rw [show ((t3.length : Int) != (u3.length : Int)) = false by simp [c3]]
          exact Ev.step (fun k => by rw [tabardref12_Same.j0]) (Ev.ncond (by decide) (rsame_loop h3 c3))
        · rw [show ((t3.length : Int) != (u3.length : Int)) = true from bne_iff_ne.2 (by omega), decide_eq_false (fun e => c3 (by rw [e]))]
          exact no rfl
      · rw [decide_eq_false c2]; exact Ev.ncond (by decide) (no rfl)
    · rw [decide_eq_false c1]; exact Ev.ncond (by decide) (no rfl)
  · rw [decide_eq_false c0]; exact Ev.ncond (by decide) (no rfl)
theorem copy_tab (h0 : t0.length * 16 ≤ 140737488351232) (h1 : t1.length * 1 ≤ 140737488351232) (h2 : t2.length * 8 ≤ 140737488351232) (h3 : t3.length * 24 ≤ 140737488351232) :
    tabardref12_Copy.f t0 t1 t2 t3 = some (t0, t1, t2, t3) := by
  unfold tabardref12_Copy.f
  simp only [Option.bind_some, List.nil_append, List.length_nil]
  rw [if_pos (by omega), if_pos (by omega), if_pos (by omega), if_pos (by omega)]
end
end Go.Proofs.Ytghfclgcgecgdaa.Pure

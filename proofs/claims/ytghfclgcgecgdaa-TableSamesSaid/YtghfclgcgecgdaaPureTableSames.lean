/- The law TableSames over lists alone: Same is what the reference's is, of a table and its copy, and of one and itself; no condition beyond the statement's own. -/
import Derived.Test.YtghfclgcgecgdaaTabB
import Derived.Test.YtghfclgcgecgdaaX0
import Derived.Test.YtghfclgcgecgdaaX24
namespace Go.Proofs.Ytghfclgcgecgdaa.Pure
open Go.RowKit Go.Proofs.YtghfclgcgecgdaaW.PrintWords Go.Proofs.YtghfclgcgecgdaaW.PrintLast Go.Proofs.YtghfclgcgecgdaaW.PrintMore Go.Proofs.Ytghfclgcgecgdaa.X
set_option linter.unusedVariables false
theorem TableSames (a0 : List ByteArray) (x0 : a0.length * 16 ≤ 140737488351232) (xq0 : ∀ x ∈ a0, x.size ≤ maxLen) (a1 : List Bool) (x1 : a1.length * 1 ≤ 140737488351232) (xq1 : ∀ x ∈ a1, True) (a2 : List Int) (x2 : a2.length * 8 ≤ 140737488351232) (xq2 : ∀ x ∈ a2, (Lit.int .i64 x).wf = true) (a3 : List S58) (x3 : a3.length * 24 ≤ 140737488351232) (xq3 : ∀ x ∈ a3, True)
    (b0 : List ByteArray) (y0 : b0.length * 16 ≤ 140737488351232) (yq0 : ∀ x ∈ b0, x.size ≤ maxLen) (b1 : List Bool) (y1 : b1.length * 1 ≤ 140737488351232) (yq1 : ∀ x ∈ b1, True) (b2 : List Int) (y2 : b2.length * 8 ≤ 140737488351232) (yq2 : ∀ x ∈ b2, (Lit.int .i64 x).wf = true) (b3 : List S58) (y3 : b3.length * 24 ≤ 140737488351232) (yq3 : ∀ x ∈ b3, True) :
    ∃ k, tabardlaw12_TableSames.f k a0 a1 a2 a3 b0 b1 b2 b3 = some true := by
  refine Ev.rounds (Ev.congr (fun k => by rw [tabardlaw12_TableSames.f]) (Ev.bind fixed_ev (Ev.cond rfl (Ev.bind (same_tab (t0 := a0) (t1 := a1) (t2 := a2) (t3 := a3) (by omega) (by omega) (by omega) (by omega)) (Ev.bind (rsame_tab (t0 := a0) (t1 := a1) (t2 := a2) (t3 := a3) (by omega) (by omega) (by omega) (by omega)) ?_)))))
  refine Ev.cond (by simp) ?_
  refine Ev.ret (copy_tab x0 x1 x2 x3) ?_
  refine Ev.bind (same_tab (t0 := a0) (t1 := a1) (t2 := a2) (t3 := a3) (by omega) (by omega) (by omega) (by omega)) ?_
  rw [decide_eq_true ⟨rfl, rfl, rfl, rfl⟩]
  refine Ev.cond rfl (Ev.bind (same_tab (t0 := b0) (t1 := b1) (t2 := b2) (t3 := b3) (by omega) (by omega) (by omega) (by omega)) (Ev.fin ?_))
  exact decide_eq_true ⟨rfl, rfl, rfl, rfl⟩
end Go.Proofs.Ytghfclgcgecgdaa.Pure

/- The law WordDecodes over numbers and lists alone: what the program's Decode answers is what the reference's does; no condition beyond the statement's own. -/
import Derived.Test.YtolacbnkebbjiaaWordB
import Derived.Test.YtolacbnkebbjiaaWordC
import Derived.Test.YtolacbnkebbjiaaWordD
import Derived.Test.YtolacbnkebbjiaaX30
namespace Go.Proofs.Ytolacbnkebbjiaa.Pure
open Go.RowKit Go.Proofs.YtolacbnkebbjiaaW.PrintWords Go.Proofs.YtolacbnkebbjiaaW.PrintLast Go.Proofs.YtolacbnkebbjiaaW.PrintMore Go.Proofs.Ytolacbnkebbjiaa.X
set_option linter.unusedVariables false
theorem decS_length (w : List Int) (k : Int) : (decS w k).1.length ≤ 6 := by
  unfold decS
  split
  · simp
  · split
    · simp
    · split
      · simp
      · split
        · rw [tup_length]; omega
        · simp
theorem WordDecodes : tabardlaw03_WordDecodes.Pure := by
  intro w n hm hs hw hn
  have hl : w.length ≤ 9000000000000000000 := by omega
  refine Ev.rounds (g := fun k => tabardlaw03_WordDecodes.f k w n) ?_
  refine Ev.congr (fun k => by rw [tabardlaw03_WordDecodes.f]) ?_
  refine Ev.ret rfl ?_
  refine Ev.cond (by simp; omega) ?_
  refine Ev.ret rfl ?_
  rw [List.nil_append]
  refine Ev.bind (decode_ev hl n) ?_
  refine Ev.bind (rdecode_ev hl n) ?_
  refine Ev.bind fixed_ev (Ev.cond rfl ?_)
  have ht := tuples_ev (a := (decS w n).1) (b := (decS w n).1) (by have := decS_length w n; omega)
  rw [decide_eq_true rfl] at ht
  refine Ev.bind ht (Ev.cond rfl (Ev.cond rfl ?_))
  have ht := same_ev (a := w) (b := w) hl
  rw [decide_eq_true rfl] at ht
  exact Ev.bind ht (Ev.fin rfl)
end Go.Proofs.Ytolacbnkebbjiaa.Pure

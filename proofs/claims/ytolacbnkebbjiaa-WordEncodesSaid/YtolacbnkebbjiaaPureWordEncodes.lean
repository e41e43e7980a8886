/- The law WordEncodes over numbers and lists alone: what the program's Encode, Longest and Shortest answer is what the reference's do; no condition beyond the statement's own. -/
import Derived.Test.YtolacbnkebbjiaaWordB
import Derived.Test.YtolacbnkebbjiaaX15
import Derived.Test.YtolacbnkebbjiaaX17
namespace Go.Proofs.Ytolacbnkebbjiaa.Pure
open Go.RowKit Go.Proofs.YtolacbnkebbjiaaW.PrintWords Go.Proofs.YtolacbnkebbjiaaW.PrintLast Go.Proofs.YtolacbnkebbjiaaW.PrintMore Go.Proofs.Ytolacbnkebbjiaa.X
set_option linter.unusedVariables false
theorem WordEncodes : tabardlaw03_WordEncodes.Pure := by
  intro l n hm hs hw hn
  have h := allI_of hw
  have hl : l.length ≤ 9000000000000000000 := by omega
  refine Ev.rounds (g := fun k => tabardlaw03_WordEncodes.f k l n) ?_
  refine Ev.congr (fun k => by rw [tabardlaw03_WordEncodes.f]) ?_
  refine Ev.ret rfl ?_
  refine Ev.cond (by simp; omega) ?_
  refine Ev.ret rfl ?_
  rw [List.nil_append]
  refine Ev.bind (encode_ev h hl n) ?_
  refine Ev.bind (rencode_ev h hl n) ?_
  refine Ev.bind (longest_ev h hl) ?_
  refine Ev.bind (shortest_ev h hl) ?_
  refine Ev.bind (rlongest_ev h hl) ?_
  refine Ev.bind (rencode_ev h hl _) ?_
  refine Ev.bind fixed_ev (Ev.cond rfl ?_)
  have same : ∀ z : Int, Ev (fun k => tabardlaw03_same.f k (encS l z).1 (encS l z).1) true := fun z => by
    have := same_ev (a := (encS l z).1) (b := (encS l z).1) (by have := encS_length l z; omega)
    rwa [decide_eq_true rfl] at this
  refine Ev.bind (same n) (Ev.cond rfl (Ev.cond rfl ?_))
  refine Ev.bind (rlongest_ev h hl) (Ev.cond rfl ?_)
  refine Ev.bind (same _) (Ev.cond rfl (Ev.cond rfl ?_))
  have ht := tuples_ev (a := l) (b := l) hl
  rw [decide_eq_true rfl] at ht
  exact Ev.bind ht (Ev.fin rfl)
end Go.Proofs.Ytolacbnkebbjiaa.Pure

/- The law WordDigits over numbers and lists alone: what the program's Length, Digits and Number answer is what the reference's do; no condition beyond the statement's own. -/
import Derived.Test.YtolacbnkebbjiaaWordB
import Derived.Test.YtolacbnkebbjiaaWordC
import Derived.Test.YtolacbnkebbjiaaX22
namespace Go.Proofs.Ytolacbnkebbjiaa.Pure
open Go.RowKit Go.Proofs.YtolacbnkebbjiaaW.PrintWords Go.Proofs.YtolacbnkebbjiaaW.PrintLast Go.Proofs.YtolacbnkebbjiaaW.PrintMore Go.Proofs.Ytolacbnkebbjiaa.X
set_option linter.unusedVariables false

theorem WordDigits : tabardlaw03_WordDigits.Pure := by
  intro v n l hv hn hm hs hw
  have h : I64 v := i64_of_wf hv
  have hl : l.length ≤ 9000000000000000000 := by omega
  refine Ev.rounds (g := fun k => tabardlaw03_WordDigits.f k v n l) ?_
  refine Ev.congr (fun k => by rw [tabardlaw03_WordDigits.f]) ?_
  refine Ev.ret rfl ?_
  refine Ev.cond (by simp; omega) ?_
  refine Ev.ret rfl ?_
  rw [List.nil_append]
  refine Ev.bind (digits_ev h n) ?_
  refine Ev.bind (number_ev hl) ?_
  refine Ev.bind (rnumber_ev hl) ?_
  refine Ev.bind (rlength_ev h) ?_
  refine Ev.bind fixed_ev (Ev.cond rfl ?_)
  refine Ev.ret (length_eq h) (Ev.cond rfl (Ev.cond rfl (Ev.cond rfl ?_)))
  have ht := same_ev (a := l) (b := l) hl
  rw [decide_eq_true rfl] at ht
  refine Ev.bind ht ?_
  refine Ev.step (fun k => by rw [tabardlaw03_WordDigits.j0]) (Ev.ncond (by simp) ?_)
  have bad : (n < (len2 v : Int) ∨ n > 64) → Ev (fun k => tabardlaw03_WordDigits.j1 k v n (digS v n).1 (digS v n).2 true) true := by
    intro hb
    unfold digS
    rw [if_pos hb]
    refine Ev.step (fun k => by rw [tabardlaw03_WordDigits.j1]) ?_
    refine Ev.cond rfl (Ev.cond rfl ?_)
    exact Ev.fin (by decide)
  refine Ev.ite (fun hc => bad (.inl hc)) (fun hc => ?_)
  by_cases h64 : n > 64
  · rw [decide_eq_true h64]; exact bad (.inr h64)
  rw [decide_eq_false h64]
  have hp := len2_pos v
  obtain ⟨m, rfl⟩ := Int.eq_ofNat_of_zero_le (show 0 ≤ n by omega)
  unfold digS
  rw [if_neg (by omega)]
  refine Ev.step (fun k => by rw [tabardlaw03_WordDigits.j1]) (Ev.ncond (by simp) (Ev.cond rfl ?_))
  refine Ev.bind (rdigits_ev h (by omega)) ?_
  have hd := same_ev (a := digs v m) (b := digs v m) (by rw [digs_length]; omega)
  rw [decide_eq_true rfl] at hd
  exact Ev.bind hd (Ev.fin rfl)
end Go.Proofs.Ytolacbnkebbjiaa.Pure

/- The law WordTrims over lists alone: Trim and Compare come to what the reference's do, and the copies stay; no condition beyond the statement's own. -/
import Derived.Test.YtolacbnkebbjiaaWordE
import Derived.Test.YtolacbnkebbjiaaX35
namespace Go.Proofs.Ytolacbnkebbjiaa.Pure
open Go.RowKit Go.Proofs.YtolacbnkebbjiaaW.PrintWords Go.Proofs.YtolacbnkebbjiaaW.PrintLast Go.Proofs.YtolacbnkebbjiaaW.PrintMore Go.Proofs.Ytolacbnkebbjiaa.X
set_option linter.unusedVariables false
theorem trims_loop {a b : List Int} {m : Nat} (hm : m ≤ 17592186044000) (ha : a.length ≤ 9000000000000000000) (hb : b.length ≤ 9000000000000000000) :
    ∀ (j i : Nat), i + j = m → ∀ t : List Int, t.length = m → Ev (fun k => tabardlaw03_WordTrims.l0 k a b a b t (m : Int) (m : Int) (i : Int)) true := by
  intro j
  induction j with
  | zero =>
    intro i hi t ht
    refine Ev.step (fun k => by rw [tabardlaw03_WordTrims.l0]) (Ev.ncond (by omega) ?_)
    refine Ev.ret rfl (Ev.cond (by simp; omega) (Ev.ret rfl ?_))
    have h1 := same_ev (a := a) (b := a) ha
    rw [decide_eq_true rfl] at h1
    have h2 := same_ev (a := b) (b := b) hb
    rw [decide_eq_true rfl] at h2
    refine Ev.bind h1 (Ev.cond rfl (Ev.bind h2 (Ev.cond rfl (Ev.cond (by omega) (Ev.cond (by simp; omega) (Ev.fin ?_))))))
    have : rd (t ++ [-6, -6]) (m : Int) = -6 := by
      rw [rd_nat, List.getD_eq_getElem?_getD, List.getElem?_append_right (by omega), ht, Nat.sub_self]; rfl
    rw [this]; rfl
  | succ j ih =>
    intro i hi t ht
    refine Ev.step (fun k => by rw [tabardlaw03_WordTrims.l0]) (Ev.cond (by omega) (Ev.cond (by omega) (Ev.cond (by omega) ?_)))
    rw [w64 (by omega) (by omega)]
    exact ih (i + 1) (by omega) _ (by rw [List.length_set]; exact ht)
theorem WordTrims : tabardlaw03_WordTrims.Pure := by
  intro a b hm hs hw hm2 hs2 hw2
  have hl : a.length ≤ 9000000000000000000 := by omega
  have hl2 : b.length ≤ 9000000000000000000 := by omega
  refine Ev.rounds (g := fun k => tabardlaw03_WordTrims.f k a b) ?_
  refine Ev.congr (fun k => by rw [tabardlaw03_WordTrims.f]) ?_
  refine Ev.ret rfl (Ev.cond (by simp; omega) (Ev.ret rfl (Ev.ret rfl (Ev.cond (by simp; omega) (Ev.ret rfl ?_)))))
  rw [List.nil_append, List.nil_append]
  refine Ev.bind (trim_ev hs) (Ev.bind fixed_ev (Ev.cond rfl (Ev.bind (rtrim_ev hs) ?_)))
  have ht : (trimS a).length ≤ a.length := by unfold trimS; rw [List.length_take]; omega
  have h1 := same_ev (a := trimS a) (b := trimS a) (by omega)
  rw [decide_eq_true rfl] at h1
  refine Ev.bind h1 (Ev.cond rfl ?_)
  refine Ev.bind (compare_ev hl) (Ev.bind (rcompare_ev hl) (Ev.cond rfl (Ev.bind (compare_ev hl2) (Ev.bind (compare_ev hl) ?_))))
  have hr := cmpS_range a b
  rw [cmpS_neg a b, w64 (by omega) (by omega), bne_self_eq_false]
  refine Ev.step (fun k => by rw [tabardlaw03_WordTrims.j0]) (Ev.ncond (by simp) ?_)
  exact trims_loop (by omega) hl hl2 (trimS a).length 0 (by omega) _ rfl
end Go.Proofs.Ytolacbnkebbjiaa.Pure

/- The law RowPacks over lists alone: Leaves and Pack come to what the reference's tree does, and what is written over the cubes changes nothing; no condition beyond the statement's own. -/
import Derived.Test.YtiakfdoaopfihaaRowB
import Derived.Test.YtiakfdoaopfihaaX0
import Derived.Test.YtiakfdoaopfihaaX11
import Derived.Test.YtiakfdoaopfihaaX12
import Derived.Test.YtiakfdoaopfihaaX4
import Derived.Test.YtiakfdoaopfihaaX8
namespace Go.Proofs.Ytiakfdoaopfihaa.Pure
open Go.RowKit Go.Proofs.YtiakfdoaopfihaaW.PrintWords Go.Proofs.YtiakfdoaopfihaaW.PrintLast Go.Proofs.YtiakfdoaopfihaaW.PrintMore Go.Proofs.Ytiakfdoaopfihaa.X
set_option linter.unusedVariables false
theorem rp_loop (c : List S31) (hc : c.length ≤ 64) : ∀ (m i : Nat) (y : List S31), i + m = c.length → y.length = c.length → Ev (fun k => tabardlaw11_RowPacks.l0 k y c c (c.length : Int) (i : Int)) true := by
  intro m
  induction m with
  | zero =>
    intro i y hi hy
    refine Ev.step (fun k => by rw [tabardlaw11_RowPacks.l0]) (Ev.ncond (by omega) (Ev.cond (by omega) ?_))
    refine Ev.ret rfl ?_
    refine Ev.bind (cubes_ev c c (by omega)) ?_
    rw [decide_eq_true rfl]
    refine Ev.cond rfl (Ev.cond (by omega) (Ev.cond (by simp; omega) (Ev.fin ?_)))
    rw [rdT_nat, List.getD_eq_getElem?_getD]; simp
  | succ m ih =>
    intro i y hi hy
    refine Ev.step (fun k => by rw [tabardlaw11_RowPacks.l0]) (Ev.cond (by omega) (Ev.cond (by omega) (Ev.cond (by omega) ?_)))
    rw [w64 (by omega) (by omega)]
    exact ih (i + 1) _ (by omega) (by simp; omega)
theorem rp_main (l : List Int) (c : List S31) (e : Int) (hl : l.length < 17592186044416) (hc : c.length ≤ 64) (h1 : Ev (fun k => row_Leaves.f k l) ((c.length : Int), e)) (h2 : Ev (fun k => row_Pack.f k l) (c, e)) (h3 : Ev (fun k => tabardref11_Pack.f k l) (c, e)) :
    Ev (fun k => tabardlaw11_RowPacks.f k l) true := by
  refine Ev.congr (fun k => by rw [tabardlaw11_RowPacks.f]) ?_
  refine Ev.ret rfl ?_
  refine Ev.cond (by simpa using hl) ?_
  refine Ev.ret rfl ?_
  rw [List.nil_append]
  refine Ev.bind h1 (Ev.bind h2 (Ev.bind h3 (Ev.bind fixed_ev (Ev.cond rfl (Ev.cond rfl (Ev.cond rfl (Ev.cond rfl (Ev.bind (cubes_ev c c (by omega)) ?_))))))))
  rw [decide_eq_true rfl]
  refine Ev.cond rfl (Ev.bind (ints_ev l l (by omega)) ?_)
  rw [decide_eq_true rfl]
  refine Ev.step (fun k => by rw [tabardlaw11_RowPacks.j0]) (Ev.ncond (by decide) (Ev.bind h2 (rp_loop c hc c.length 0 c (by omega) rfl)))
theorem RowPacks : tabardlaw11_RowPacks.Pure := by
  intro l hm hl hwf
  refine Ev.rounds ?_
  by_cases h : IsRow l
  · obtain ⟨⟨j, hj, e⟩, hx⟩ := h
    have h6 := pow6 hj
    have t := (tree_len j l 0 0).1
    exact rp_main l _ 0 (by omega) (by omega) (lv_ok hj e hx) (pack_ok hj e hx) (rpack_ok hj e hx)
  · exact rp_main l [] 3 (by omega) (by decide) (lv_no (by omega) h) (pack_no (by omega) h) (rpack_no (by omega) h)
end Go.Proofs.Ytiakfdoaopfihaa.Pure

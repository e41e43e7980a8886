/- The law RowUnpacks over lists alone: Unpack, Right and At come to what the reference's do; no condition beyond the statement's own. -/
import Derived.Test.YtiakfdoaopfihaaRowD
import Derived.Test.YtiakfdoaopfihaaX0
import Derived.Test.YtiakfdoaopfihaaX14
import Derived.Test.YtiakfdoaopfihaaX15
import Derived.Test.YtiakfdoaopfihaaX19
import Derived.Test.YtiakfdoaopfihaaX20
import Derived.Test.YtiakfdoaopfihaaX21
namespace Go.Proofs.Ytiakfdoaopfihaa.Pure
open Go.RowKit Go.Proofs.YtiakfdoaopfihaaW.PrintWords Go.Proofs.YtiakfdoaopfihaaW.PrintLast Go.Proofs.YtiakfdoaopfihaaW.PrintMore Go.Proofs.Ytiakfdoaopfihaa.X
set_option linter.unusedVariables false
theorem ru_main (l : List S31) (t n : Int) (R : List Int) (e : Int) (b : Bool) (hl : l.length < 5864062014805) (hR : R.length ≤ 64) (h1 : Ev (fun k => row_Unpack.f k l t) (R, e)) (h2 : Ev (fun k => tabardref11_Unpack.f k l t) (R, e)) (h3 : Ev (fun k => row_Right.f k l t n) b) (h4 : Ev (fun k => tabardref11_Right.f k l t n) b) :
    Ev (fun k => tabardlaw11_RowUnpacks.f k l t n) true := by
  refine Ev.congr (fun k => by rw [tabardlaw11_RowUnpacks.f]) ?_
  refine Ev.ret rfl ?_
  refine Ev.cond (by simpa using hl) ?_
  refine Ev.ret rfl ?_
  rw [List.nil_append]
  refine Ev.bind h1 (Ev.bind h2 (Ev.bind (at_ev l n (by omega)) (Ev.bind (rat_ev l n (by omega)) (Ev.bind fixed_ev (Ev.cond rfl (Ev.bind (ints_ev R R (by omega)) ?_))))))
  rw [decide_eq_true rfl]
  refine Ev.cond rfl (Ev.cond rfl (Ev.bind h3 (Ev.bind h4 (Ev.cond (by simp) (Ev.cond rfl (Ev.cond (by simp) (Ev.bind (cubes_ev l l (by omega)) (Ev.fin ?_))))))))
  exact decide_eq_true rfl
theorem RowUnpacks (l : List S31) (t : Int) (ht : (Lit.int .i64 t).wf = true) (n : Int) (hn : (Lit.int .i64 n).wf = true) (hl : l.length * 24 ≤ 140737488351232) : ∃ k, tabardlaw11_RowUnpacks.f k l t n = some true := by
  refine Ev.rounds ?_
  by_cases far : t < 0 ∨ t > 6
  · exact ru_main l t n [] 150 false (by omega) (by decide) (unpack_far far) (runpack_far far) (right_bad (by decide) (unpack_far far)) (rright_bad (by decide) (runpack_far far))
  · obtain ⟨j, rfl⟩ := Int.eq_ofNat_of_zero_le (show 0 ≤ t by omega)
    have hj : j ≤ 6 := by omega
    have h6 := pow6 hj
    have hpos := Nat.two_pow_pos j
    by_cases h : UnpOk l j
    · exact ru_main l _ n _ 0 _ (by omega) (by rw [rowOf_len]; omega) (unpack_ok h) (runpack_ok h) (right_good (by rw [rowOf_len]; omega) (by rw [rowOf_len]; omega) (unpack_ok h)) (rright_good (by rw [rowOf_len]; omega) (runpack_ok h))
    · exact ru_main l _ n [] 3 false (by omega) (by decide) (unpack_no hj h (by omega)) (runpack_no hj h) (right_bad (by decide) (unpack_no hj h (by omega))) (rright_bad (by decide) (runpack_no hj h))
end Go.Proofs.Ytiakfdoaopfihaa.Pure

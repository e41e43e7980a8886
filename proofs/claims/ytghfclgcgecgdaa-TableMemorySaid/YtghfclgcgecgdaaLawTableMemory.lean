/- The law TableMemory over every input: its row, out of the walk and the plain law; no condition. -/
import Derived.Test.YtghfclgcgecgdaaRows
import Derived.Test.YtghfclgcgecgdaaMemLaw
import Derived.Test.YtghfclgcgecgdaaPureTableMemory
import Derived.Test.YtghfclgcgecgdaaOpens
import Derived.WalkKit
import Derived.ProofKit
import Derived.OpenShut
import Derived.ShutString
import Derived.ChangeOld
import Derived.Below
import Derived.SizedLaws
import Derived.Lib.SmallJoins
namespace Go.Proofs.Ytghfclgcgecgdaa.tableMemory
open Go.ChangeShapes Go.WideShapes Go.ChangeAt Go.RowKit Go.Joins
set_option linter.unusedVariables false
theorem own : ownKnob Try.prog.godebug = none := by kernel_rfl
theorem laidOut : laidOutB Try.prog = true := by kernel_rfl
set_option maxRecDepth 100000 in
set_option maxHeartbeats 4000000 in
theorem lifted (os : Os) (started : os.Started) (H : Type) (enc : TypeId × Value → H) :
    ReturnsInHanded {} Try.checked os 7 .any (Rows.tableMemorySpec.pre6 enc Try.prog Try.f7 Rows.tableMemoryRow.domain false) (Rows.tableMemorySpec.post enc Try.prog Try.f7 false true false false) := by
  refine returnsInHanded_of_change_sized (C := Try.checked) own started (by kernel_rfl) Try.func7
    (ChangeSpec.witness6 (enc := enc) (C := Try.checked) false ⟨#[], #[.agg #[.slice none 0 0, .slice none 0 0, .slice none 0 0]], []⟩ 8 (by kernel_rfl) (by kernel_rfl) (by kernel_rfl) (by kernel_rfl)) ?_
  intro W base args ds gs before hval0 hW hcnd hsz0 _
  have hsz : (DataW.weightsEach Try.prog (Try.f7.params.toList ++ Rows.tableMemorySpec.plain.varTypes Try.prog) (ds ++ gs)).all (· ≤ reachBytes) = true := hsz0
  have hval : ∀ (j : Nat) t v, Try.f7.params[j]? = some t → args[j]? = some v → Value.okWide Try.prog W .any base t v := hval0
  have hW' := hW
  obtain ⟨p, q, hA0, hV, rfl, hfz, hnd⟩ := hW
  have hA : DataW.TrodAll enc Try.prog W 0 (fun _ => true) true Try.f7.params.toList args.toList ds p := hA0
  rw [Try.params7] at hA hval hsz
  obtain ⟨v0, vs0, d0, ds0, p0, q0, hargs, rfl, rfl, h0, r0⟩ := trodAll_cons hA
  obtain ⟨rfl, rfl, rfl⟩ := trodAll_nil r0
  obtain rfl : args = #[v0] := by cases args; simp_all
  obtain ⟨rfl, rfl⟩ := trodVars_none hV
  have k0 := h0
  have lt0 : ∀ x ∈ p0, x.block < W.heap.size := by obtain ⟨m, hm⟩ := k0; exact DataW.trod_lt m _ _ _ hm
  have fit0 : Opens.Fits Try.prog 26 d0 := Opens.fits_top hsz (j := 0) rfl rfl
  obtain ⟨b0_0, b0_1, b0_2, y0_0, y0_1, y0_2, n0, rfl, rfl, rfl, g0_0, g0_1, g0_2⟩ := open_agg3 Try.underlying26 (by kernel_rfl) (by kernel_rfl) (hval 0 26 v0 rfl rfl) h0
  obtain ⟨e0_0, e0_1, e0_2⟩ := Opens.Fits.agg3 Try.underlying26 fit0
  obtain ⟨A0_0, c0_0, l0_0, rfl, hr0_0, hc0_0, hy0_0, hq0_0⟩ := Opens.open_strs' Try.underlying22 Try.underlying9 (by kernel_rfl) g0_0 e0_0
  rw [show Try.prog.bytesOf 9 = 16 by kernel_rfl] at hy0_0
  obtain ⟨A0_1, c0_1, l0_1, rfl, hr0_1, hc0_1, hy0_1, hq0_1⟩ := Opens.open_bools' Try.underlying23 Try.underlying4 (by kernel_rfl) g0_1 e0_1
  rw [show Try.prog.bytesOf 4 = 1 by kernel_rfl] at hy0_1
  obtain ⟨A0_2, c0_2, l0_2, rfl, hr0_2, hc0_2, hy0_2, hq0_2⟩ := Opens.open_rows' Try.underlying24 Try.underlying29 Try.underlying3 (by kernel_rfl) (by kernel_rfl) 3 g0_2 e0_2
  rw [show Try.prog.bytesOf 29 = 24 by kernel_rfl] at hy0_2
  rw [show Try.prog.bytesOf 3 = 8 by kernel_rfl] at hq0_2
  clear hA0 hval0 hsz0 hsz
  obtain ⟨k, t1, t2, t3, t4, er, hF, hcd, hpk, hok⟩ := Pure.TableMemory l0_0 hy0_0 hq0_0 l0_1 hy0_1 hq0_1 l0_2 hy0_2 hq0_2
  refine (X.tabardlaw12_TableMemory.calls k A0_0 c0_0 l0_0 A0_1 c0_1 l0_1 A0_2 c0_2 l0_2 t1 t2 t3 t4 er W hr0_0 hc0_0 hr0_1 hc0_1 hr0_2 hc0_2 hF hcd hpk hok).mono fun e W' ⟨he, bel⟩ => ?_
  subst he
  exact ⟨_, rfl, _, _, _, [], _, [], hW', trodAll_mk1 (shut_bool Try.underlying4 _), (trodAll_cons_mk (Below.trod laidOut (by kernel_rfl) (of_decide_eq_true (by kernel_rfl)) k0 bel lt0) trodAll_mk0), rfl, bel.frame _, fun h => by cases h⟩
theorem over : Rows.tableMemoryRow.holds Try.pinned (OpenSpec.ofChange Rows.tableMemorySpec) :=
  OpenClaim.holds_of_wide 7 Try.f7 rfl rfl rfl rfl rfl rfl rfl ⟨rfl, rfl, rfl, rfl, rfl⟩ rfl rfl rfl rfl rfl (by kernel_rfl) Try.func7 (by kernel_rfl)
    (of_decide_eq_true (by kernel_rfl)) (by unfold Func.isWrapper; first | (rw [if_pos (by decide +kernel)]; kernel_rfl) | (rw [if_neg (by decide +kernel)]; exact ⟨rfl, rfl⟩))
    (fun os started H enc _ => lifted os started H enc)
theorem proved : Rows.TableMemorySaid := over
#print axioms proved
end Go.Proofs.Ytghfclgcgecgdaa.tableMemory
namespace Go.Proofs.Ytghfclgcgecgdaa
/-- The row, under a short name, for the claim. -/
theorem tableMemory_holds : Rows.TableMemorySaid := tableMemory.proved
end Go.Proofs.Ytghfclgcgecgdaa

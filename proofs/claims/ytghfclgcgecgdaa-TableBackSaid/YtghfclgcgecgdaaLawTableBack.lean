/- The law TableBack over every input: its row, out of the walk and the plain law; no condition. -/
import Derived.Test.YtghfclgcgecgdaaRows
import Derived.Test.YtghfclgcgecgdaaX29
import Derived.Test.YtghfclgcgecgdaaPureTableBack
import Derived.Test.YtghfclgcgecgdaaOpens
import Derived.WalkKit
import Derived.ProofKit
import Derived.OpenShut
import Derived.ShutString
import Derived.ChangeOld
import Derived.Below
import Derived.SizedLaws
import Derived.Lib.SmallJoins
namespace Go.Proofs.Ytghfclgcgecgdaa.tableBack
open Go.ChangeShapes Go.WideShapes Go.ChangeAt Go.RowKit Go.Joins
set_option linter.unusedVariables false
theorem own : ownKnob Try.prog.godebug = none := by kernel_rfl
theorem laidOut : laidOutB Try.prog = true := by kernel_rfl
set_option maxRecDepth 100000 in
set_option maxHeartbeats 4000000 in
theorem lifted (os : Os) (started : os.Started) (H : Type) (enc : TypeId × Value → H) :
    ReturnsInHanded {} Try.checked os 9 .any (Rows.tableBackSpec.pre6 enc Try.prog Try.f9 Rows.tableBackRow.domain false) (Rows.tableBackSpec.post enc Try.prog Try.f9 false true false false) := by
  refine returnsInHanded_of_change_sized (C := Try.checked) own started (by kernel_rfl) Try.func9
    (ChangeSpec.witness6 (enc := enc) (C := Try.checked) false ⟨#[], #[.agg #[.slice none 0 0, .slice none 0 0, .slice none 0 0], .agg #[.slice none 0 0, .slice none 0 0, .slice none 0 0, .slice none 0 0]], []⟩ 8 (by kernel_rfl) (by kernel_rfl) (by kernel_rfl) (by kernel_rfl)) ?_
  intro W base args ds gs before hval0 hW hcnd hsz0 _
  have hsz : (DataW.weightsEach Try.prog (Try.f9.params.toList ++ Rows.tableBackSpec.plain.varTypes Try.prog) (ds ++ gs)).all (· ≤ reachBytes) = true := hsz0
  have hval : ∀ (j : Nat) t v, Try.f9.params[j]? = some t → args[j]? = some v → Value.okWide Try.prog W .any base t v := hval0
  have hW' := hW
  obtain ⟨p, q, hA0, hV, rfl, hfz, hnd⟩ := hW
  have hA : DataW.TrodAll enc Try.prog W 0 (fun _ => true) true Try.f9.params.toList args.toList ds p := hA0
  rw [Try.params9] at hA hval hsz
  obtain ⟨v0, vs0, d0, ds0, p0, q0, hargs, rfl, rfl, h0, r0⟩ := trodAll_cons hA
  obtain ⟨v1, vs1, d1, ds1, p1, q1, rfl, rfl, rfl, h1, r1⟩ := trodAll_cons r0
  obtain ⟨rfl, rfl, rfl⟩ := trodAll_nil r1
  obtain rfl : args = #[v0, v1] := by cases args; simp_all
  obtain ⟨rfl, rfl⟩ := trodVars_none hV
  have k0 := h0
  have lt0 : ∀ x ∈ p0, x.block < W.heap.size := by obtain ⟨m, hm⟩ := k0; exact DataW.trod_lt m _ _ _ hm
  have k1 := h1
  have lt1 : ∀ x ∈ p1, x.block < W.heap.size := by obtain ⟨m, hm⟩ := k1; exact DataW.trod_lt m _ _ _ hm
  have fit0 : Opens.Fits Try.prog 26 d0 := Opens.fits_top hsz (j := 0) rfl rfl
  obtain ⟨b0_0, b0_1, b0_2, y0_0, y0_1, y0_2, n0, rfl, rfl, rfl, g0_0, g0_1, g0_2⟩ := open_agg3 Try.underlying26 (by kernel_rfl) (by kernel_rfl) (hval 0 26 v0 rfl rfl) h0
  obtain ⟨e0_0, e0_1, e0_2⟩ := Opens.Fits.agg3 Try.underlying26 fit0
  obtain ⟨A0_0, c0_0, l0_0, rfl, hr0_0, hc0_0, hy0_0, hq0_0⟩ := Opens.open_strs' Try.underlying22 Try.underlying9 (by kernel_rfl) g0_0 e0_0
  rw [show Try.prog.bytesOf 9 = 16 by kernel_rfl] at hy0_0
  obtain ⟨A0_1, c0_1, l0_1, rfl, hr0_1, hc0_1, hy0_1, hq0_1⟩ := Opens.open_bools' Try.underlying23 Try.underlying4 (by kernel_rfl) g0_1 e0_1
  rw [show Try.prog.bytesOf 4 = 1 by kernel_rfl] at hy0_1
  obtain ⟨A0_2, c0_2, l0_2, rfl, hr0_2, hc0_2, hy0_2, hq0_2⟩ := Opens.open_rows' Try.underlying24 Try.underlying29 Try.underlying3 (by kernel_rfl) (by kernel_rfl) 3 g0_2 e0_2
  rw [show Try.prog.bytesOf 29 = 24 by kernel_rfl] at hy0_2
  rw [show Try.prog.bytesOf 3 = 8 by kernel_rfl] at hq0_2
  have fit1 : Opens.Fits Try.prog 32 d1 := Opens.fits_top hsz (j := 1) rfl rfl
  obtain ⟨b1_0, b1_1, b1_2, b1_3, y1_0, y1_1, y1_2, y1_3, n1, rfl, rfl, rfl, g1_0, g1_1, g1_2, g1_3⟩ := open_agg4 Try.underlying32 (by kernel_rfl) (by kernel_rfl) (hval 1 32 v1 rfl rfl) h1
  obtain ⟨e1_0, e1_1, e1_2, e1_3⟩ := Opens.Fits.agg4 Try.underlying32 fit1
  obtain ⟨A1_0, c1_0, l1_0, rfl, hr1_0, hc1_0, hy1_0, hq1_0⟩ := Opens.open_strs' Try.underlying22 Try.underlying9 (by kernel_rfl) g1_0 e1_0
  rw [show Try.prog.bytesOf 9 = 16 by kernel_rfl] at hy1_0
  obtain ⟨A1_1, c1_1, l1_1, rfl, hr1_1, hc1_1, hy1_1, hq1_1⟩ := Opens.open_bools' Try.underlying23 Try.underlying4 (by kernel_rfl) g1_1 e1_1
  rw [show Try.prog.bytesOf 4 = 1 by kernel_rfl] at hy1_1
  obtain ⟨A1_2, c1_2, l1_2, rfl, hr1_2, hc1_2, hy1_2, hq1_2⟩ := Opens.open_ints' Try.underlying29 Try.underlying3 (by kernel_rfl) g1_2 e1_2
  rw [show Try.prog.bytesOf 3 = 8 by kernel_rfl] at hy1_2
  obtain ⟨A1_3, c1_3, l1_3, rfl, hr1_3, hc1_3, hy1_3, hq1_3⟩ := Opens.open_cubes' Try.underlying30 Try.underlying58 (by kernel_rfl) rfl rfl rfl (by kernel_rfl) (by kernel_rfl) (by kernel_rfl) Try.underlying3 Try.underlying3 Try.underlying3 g1_3 e1_3
  rw [show Try.prog.bytesOf 58 = 24 by kernel_rfl] at hy1_3
  clear hA0 hval0 hsz0 hsz
  obtain ⟨k, hk⟩ := Pure.TableBack l0_0 hy0_0 hq0_0 l0_1 hy0_1 hq0_1 l0_2 hy0_2 hq0_2 l1_0 hy1_0 hq1_0 l1_1 hy1_1 hq1_1 l1_2 hy1_2 hq1_2 l1_3 hy1_3 hq1_3
  refine (X.tabardlaw12_TableBack.calls k A0_0 c0_0 l0_0 A0_1 c0_1 l0_1 A0_2 c0_2 l0_2 A1_0 c1_0 l1_0 A1_1 c1_1 l1_1 A1_2 c1_2 l1_2 A1_3 c1_3 l1_3 true W hr0_0 hc0_0 hr0_1 hc0_1 hr0_2 hc0_2 hr1_0 hc1_0 hr1_1 hc1_1 hr1_2 hc1_2 hr1_3 hc1_3 hk).mono fun e W' ⟨he, bel⟩ => ?_
  subst he
  exact ⟨_, rfl, _, _, _, [], _, [], hW', trodAll_mk1 (shut_bool Try.underlying4 _), (trodAll_cons_mk (Below.trod laidOut (by kernel_rfl) (of_decide_eq_true (by kernel_rfl)) k0 bel lt0) (trodAll_cons_mk (Below.trod laidOut (by kernel_rfl) (of_decide_eq_true (by kernel_rfl)) k1 bel lt1) trodAll_mk0)), rfl, bel.frame _, fun h => by cases h⟩
theorem over : Rows.tableBackRow.holds Try.pinned (OpenSpec.ofChange Rows.tableBackSpec) :=
  OpenClaim.holds_of_wide 9 Try.f9 rfl rfl rfl rfl rfl rfl rfl ⟨rfl, rfl, rfl, rfl, rfl⟩ rfl rfl rfl rfl rfl (by kernel_rfl) Try.func9 (by kernel_rfl)
    (of_decide_eq_true (by kernel_rfl)) (by unfold Func.isWrapper; first | (rw [if_pos (by decide +kernel)]; kernel_rfl) | (rw [if_neg (by decide +kernel)]; exact ⟨rfl, rfl⟩))
    (fun os started H enc _ => lifted os started H enc)
theorem proved : Rows.TableBackSaid := over
#print axioms proved
end Go.Proofs.Ytghfclgcgecgdaa.tableBack
namespace Go.Proofs.Ytghfclgcgecgdaa
/-- The row, under a short name, for the claim. -/
theorem tableBack_holds : Rows.TableBackSaid := tableBack.proved
end Go.Proofs.Ytghfclgcgecgdaa

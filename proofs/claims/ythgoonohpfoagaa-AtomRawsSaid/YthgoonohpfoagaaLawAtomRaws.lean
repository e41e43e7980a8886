/- The law AtomRaws over every input: its row, out of the walk and the plain law; no condition. -/
import Derived.Test.YthgoonohpfoagaaRows
import Derived.Test.YthgoonohpfoagaaX104
import Derived.Test.YthgoonohpfoagaaPureAtomRaws
import Derived.Test.YthgoonohpfoagaaOpens
import Derived.WalkKit
import Derived.ProofKit
import Derived.OpenShut
import Derived.ShutString
import Derived.ChangeOld
import Derived.Below
import Derived.SizedLaws
import Derived.Lib.SmallJoins
namespace Go.Proofs.Ythgoonohpfoagaa.atomRaws
open Go.ChangeShapes Go.WideShapes Go.ChangeAt Go.RowKit Go.Joins
set_option linter.unusedVariables false
theorem own : ownKnob Try.prog.godebug = none := by kernel_rfl
theorem laidOut : laidOutB Try.prog = true := by kernel_rfl
set_option maxRecDepth 100000 in
set_option maxHeartbeats 4000000 in
theorem lifted (os : Os) (started : os.Started) (H : Type) (enc : TypeId × Value → H) :
    ReturnsInHanded {} Try.checked os 3 .any (Rows.atomRawsSpec.pre6 enc Try.prog Try.f3 Rows.atomRawsRow.domain false) (Rows.atomRawsSpec.post enc Try.prog Try.f3 false true false false) := by
  refine returnsInHanded_of_change_sized (C := Try.checked) own started (by kernel_rfl) Try.func3
    (ChangeSpec.witness6 (enc := enc) (C := Try.checked) false ⟨#[], #[.agg #[.int .i64 0, .slice none 0 0, .slice none 0 0, .int .i64 0, .int .i64 0]], []⟩ 8 (by kernel_rfl) (by kernel_rfl) (by kernel_rfl) (by kernel_rfl)) ?_
  intro W base args ds gs before hval0 hW hcnd hsz0 _
  have hsz : (DataW.weightsEach Try.prog (Try.f3.params.toList ++ Rows.atomRawsSpec.plain.varTypes Try.prog) (ds ++ gs)).all (· ≤ reachBytes) = true := hsz0
  have hval : ∀ (j : Nat) t v, Try.f3.params[j]? = some t → args[j]? = some v → Value.okWide Try.prog W .any base t v := hval0
  have hW' := hW
  obtain ⟨p, q, hA0, hV, rfl, hfz, hnd⟩ := hW
  have hA : DataW.TrodAll enc Try.prog W 0 (fun _ => true) true Try.f3.params.toList args.toList ds p := hA0
  rw [Try.params3] at hA hval hsz
  obtain ⟨v0, vs0, d0, ds0, p0, q0, hargs, rfl, rfl, h0, r0⟩ := trodAll_cons hA
  obtain ⟨rfl, rfl, rfl⟩ := trodAll_nil r0
  obtain rfl : args = #[v0] := by cases args; simp_all
  obtain ⟨rfl, rfl⟩ := trodVars_none hV
  have k0 := h0
  have lt0 : ∀ x ∈ p0, x.block < W.heap.size := by obtain ⟨m, hm⟩ := k0; exact DataW.trod_lt m _ _ _ hm
  have fit0 : Opens.Fits Try.prog 26 d0 := Opens.fits_top hsz (j := 0) rfl rfl
  obtain ⟨b0_0, b0_1, b0_2, b0_3, b0_4, y0_0, y0_1, y0_2, y0_3, y0_4, n0, rfl, rfl, rfl, g0_0, g0_1, g0_2, g0_3, g0_4⟩ := Opens.open_agg5 Try.underlying26 (by kernel_rfl) (by kernel_rfl) (hval 0 26 v0 rfl rfl) h0
  obtain ⟨e0_0, e0_1, e0_2, e0_3, e0_4⟩ := Opens.Fits.agg5 Try.underlying26 fit0
  obtain ⟨a0_0, ja0_0, _, wa0_0⟩ := DataW.trod_int Try.underlying22 g0_0
  obtain rfl : b0_0 = .int .i64 a0_0 := by simpa using ja0_0
  obtain ⟨A0_1, c0_1, l0_1, rfl, hr0_1, hc0_1, hy0_1, hq0_1⟩ := Opens.open_strs' Try.underlying23 Try.underlying9 (by kernel_rfl) g0_1 e0_1
  rw [show Try.prog.bytesOf 9 = 16 by kernel_rfl] at hy0_1
  obtain ⟨A0_2, c0_2, l0_2, rfl, hr0_2, hc0_2, hy0_2, hq0_2⟩ := Opens.open_ints' Try.underlying24 Try.underlying2 (by kernel_rfl) g0_2 e0_2
  rw [show Try.prog.bytesOf 2 = 8 by kernel_rfl] at hy0_2
  obtain ⟨a0_3, ja0_3, _, wa0_3⟩ := DataW.trod_int Try.underlying2 g0_3
  obtain rfl : b0_3 = .int .i64 a0_3 := by simpa using ja0_3
  obtain ⟨a0_4, ja0_4, _, wa0_4⟩ := DataW.trod_int Try.underlying2 g0_4
  obtain rfl : b0_4 = .int .i64 a0_4 := by simpa using ja0_4
  clear hA0 hval0 hsz0 hsz
  obtain ⟨k, hk⟩ := Pure.AtomRaws a0_0 wa0_0 l0_1 hy0_1 hq0_1 l0_2 hy0_2 hq0_2 a0_3 wa0_3 a0_4 wa0_4
  refine (X.Ff.calls k a0_0 A0_1 c0_1 l0_1 A0_2 c0_2 l0_2 a0_3 a0_4 true W hr0_1 hc0_1 hr0_2 hc0_2 hk).mono fun e W' ⟨he, bel⟩ => ?_
  subst he
  exact ⟨_, rfl, _, _, _, [], _, [], hW', trodAll_mk1 (shut_bool Try.underlying4 _), (trodAll_cons_mk (Below.trod laidOut (by kernel_rfl) (of_decide_eq_true (by kernel_rfl)) k0 bel lt0) trodAll_mk0), rfl, bel.frame _, fun h => by cases h⟩
theorem over : Rows.atomRawsRow.holds Try.pinned (OpenSpec.ofChange Rows.atomRawsSpec) :=
  OpenClaim.holds_of_wide 3 Try.f3 rfl rfl rfl rfl rfl rfl rfl ⟨rfl, rfl, rfl, rfl, rfl⟩ rfl rfl rfl rfl rfl (by kernel_rfl) Try.func3 (by kernel_rfl)
    (of_decide_eq_true (by kernel_rfl)) (by unfold Func.isWrapper; first | (rw [if_pos (by decide +kernel)]; kernel_rfl) | (rw [if_neg (by decide +kernel)]; exact ⟨rfl, rfl⟩))
    (fun os started H enc _ => lifted os started H enc)
theorem proved : Rows.AtomRawsSaid := over
#print axioms proved
end Go.Proofs.Ythgoonohpfoagaa.atomRaws
namespace Go.Proofs.Ythgoonohpfoagaa
/-- The row, under a short name, for the claim. -/
theorem atomRaws_holds : Rows.AtomRawsSaid := atomRaws.proved
end Go.Proofs.Ythgoonohpfoagaa

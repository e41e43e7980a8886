/- The law TableSteps over every input: its row, out of the walk and the plain law; no condition. -/
import Derived.Test.YtghfclgcgecgdaaRows
import Derived.Test.YtghfclgcgecgdaaX26
import Derived.Test.YtghfclgcgecgdaaPureTableSteps
import Derived.Test.YtghfclgcgecgdaaOpens
import Derived.WalkKit
import Derived.ProofKit
import Derived.OpenShut
import Derived.ShutString
import Derived.ChangeOld
import Derived.Below
import Derived.SizedLaws
import Derived.Lib.SmallJoins
import Derived.JoinedCond
import Derived.Deep.CondSized
namespace Go.Proofs.Ytghfclgcgecgdaa.tableSteps
open Go.ChangeShapes Go.WideShapes Go.ChangeAt Go.RowKit Go.Joins
set_option linter.unusedVariables false
theorem own : ownKnob Try.prog.godebug = none := by kernel_rfl
theorem laidOut : laidOutB Try.prog = true := by kernel_rfl
theorem one_le {H : Type} (d : DataW H) : 1 ≤ Rows.uptoBulk d := by
  cases d with
  | lit l => cases l <;> simp [Rows.uptoBulk]
  | nil => simp [Rows.uptoBulk]
  | ptr d => simp [Rows.uptoBulk]
  | slice es rs => simp [Rows.uptoBulk]
  | agg ps => simp [Rows.uptoBulk]
  | iface t d => simp [Rows.uptoBulk]
  | map es => simp [Rows.uptoBulk]
  | held h => simp [Rows.uptoBulk]
theorem len_le {H : Type} (l : List (DataW H)) : l.length ≤ Rows.uptoBulkAll l := by
  induction l with
  | nil => simp [Rows.uptoBulkAll]
  | cons x r ih => have := one_le x; simp only [Rows.uptoBulkAll, List.length_cons]; omega
theorem of_len {H : Type} {n : Nat} {d : DataW H} (h : n = 0 ∨ ∃ es rs, d = .slice es rs ∧ es.length = n) : n ≤ Rows.uptoBulk d := by
  rcases h with h | ⟨es, rs, rfl, h⟩
  · omega
  · have := len_le es; simp only [Rows.uptoBulk]; omega
set_option maxRecDepth 100000 in
set_option maxHeartbeats 4000000 in
theorem lifted (os : Os) (started : os.Started) (H : Type) (enc : TypeId × Value → H) (F : Stop.Interp) :
    ReturnsInHanded {} Try.checked os 5 .any ((Rows.OpenSpec.upto Rows.tableStepsSpec).pre6 enc Try.prog Try.f5 Rows.tableStepsUptoRow.domain false) (((Rows.OpenSpec.upto Rows.tableStepsSpec).at F).post enc Try.prog Try.f5 false true false false) := by
  refine returnsInHanded_of_cond_sized (C := Try.checked) (s := Rows.OpenSpec.upto Rows.tableStepsSpec) (k := Rows.uptoSmall) rfl own started (by kernel_rfl) Try.func5
    (OpenSpec.witness (enc := enc) (C := Try.checked) (s := Rows.OpenSpec.upto Rows.tableStepsSpec) (k := Rows.uptoSmall) rfl false ⟨#[], #[.agg #[.slice none 0 0, .slice none 0 0, .slice none 0 0], .slice none 0 0, .slice none 0 0], []⟩ 8 (by kernel_rfl) (by kernel_rfl) (by kernel_rfl)
      (x := ([.agg [.nil, .nil, .nil], .nil, .nil], [], [])) (by kernel_rfl) rfl (by kernel_rfl)) ?_
  intro W base args ds gs before hval0 hW hcnd hk0 hsz0 _
  have hsz : (DataW.weightsEach Try.prog (Try.f5.params.toList ++ Rows.tableStepsSpec.plain.varTypes Try.prog) (ds ++ gs)).all (· ≤ reachBytes) = true := hsz0
  have hval : ∀ (j : Nat) t v, Try.f5.params[j]? = some t → args[j]? = some v → Value.okWide Try.prog W .any base t v := hval0
  have hW' := hW
  obtain ⟨p, q, hA0, hV, rfl, hfz, hnd⟩ := hW
  have hA : DataW.TrodAll enc Try.prog W 0 (fun _ => true) true Try.f5.params.toList args.toList ds p := hA0
  rw [Try.params5] at hA hval hsz
  obtain ⟨v0, vs0, d0, ds0, p0, q0, hargs, rfl, rfl, h0, r0⟩ := trodAll_cons hA
  obtain ⟨v1, vs1, d1, ds1, p1, q1, rfl, rfl, rfl, h1, r1⟩ := trodAll_cons r0
  obtain ⟨v2, vs2, d2, ds2, p2, q2, rfl, rfl, rfl, h2, r2⟩ := trodAll_cons r1
  obtain ⟨rfl, rfl, rfl⟩ := trodAll_nil r2
  obtain rfl : args = #[v0, v1, v2] := by cases args; simp_all
  obtain ⟨rfl, rfl⟩ := trodVars_none hV
  have k0 := h0
  have lt0 : ∀ x ∈ p0, x.block < W.heap.size := by obtain ⟨m, hm⟩ := k0; exact DataW.trod_lt m _ _ _ hm
  have k1 := h1
  have lt1 : ∀ x ∈ p1, x.block < W.heap.size := by obtain ⟨m, hm⟩ := k1; exact DataW.trod_lt m _ _ _ hm
  have k2 := h2
  have lt2 : ∀ x ∈ p2, x.block < W.heap.size := by obtain ⟨m, hm⟩ := k2; exact DataW.trod_lt m _ _ _ hm
  have fit0 : Opens.Fits Try.prog 26 d0 := Opens.fits_top hsz (j := 0) rfl rfl
  obtain ⟨b0_0, b0_1, b0_2, y0_0, y0_1, y0_2, n0, rfl, rfl, rfl, g0_0, g0_1, g0_2⟩ := open_agg3 Try.underlying26 (by kernel_rfl) (by kernel_rfl) (hval 0 26 v0 rfl rfl) h0
  obtain ⟨e0_0, e0_1, e0_2⟩ := Opens.Fits.agg3 Try.underlying26 fit0
  obtain ⟨A0_0, c0_0, l0_0, rfl, hr0_0, hc0_0, hy0_0, hq0_0⟩ := Opens.open_strs' Try.underlying22 Try.underlying9 (by kernel_rfl) g0_0 e0_0
  rw [show Try.prog.bytesOf 9 = 16 by kernel_rfl] at hy0_0
  obtain ⟨A0_1, c0_1, l0_1, rfl, hr0_1, hc0_1, hy0_1, hq0_1⟩ := Opens.open_bools' Try.underlying23 Try.underlying4 (by kernel_rfl) g0_1 e0_1
  rw [show Try.prog.bytesOf 4 = 1 by kernel_rfl] at hy0_1
  obtain ⟨A0_2, c0_2, l0_2, rfl, hr0_2, hc0_2, hy0_2, hq0_2⟩ := Opens.open_rows' Try.underlying24 Try.underlying29 Try.underlying3 (by kernel_rfl) (by kernel_rfl) 3 g0_2 e0_2
  rw [show Try.prog.bytesOf 29 = 24 by kernel_rfl] at hy0_2
  rw [show Try.prog.bytesOf 3 = 8 by kernel_rfl] at hq0_2
  have fit1 : Opens.Fits Try.prog 29 d1 := Opens.fits_top hsz (j := 1) rfl rfl
  obtain ⟨b1_a, b1_n, b1_c, rfl⟩ := okWide_slice Try.underlying29 (hval 1 29 v1 rfl rfl)
  obtain ⟨n1, g1⟩ := h1
  have g1' : DataW.trod enc Try.prog W 0 (fun _ => true) true n1 29 [.slice b1_a b1_n b1_c] = some (d1, p1) := g1
  obtain ⟨A1, c1, l1, hv1, hr1, hc1, hy1, hq1⟩ := Opens.open_ints' Try.underlying29 Try.underlying3 (by kernel_rfl) g1' fit1
  injection hv1 with hv1a hv1b hv1c
  subst hv1a hv1b hv1c
  rw [show Try.prog.bytesOf 3 = 8 by kernel_rfl] at hy1
  have fit2 : Opens.Fits Try.prog 29 d2 := Opens.fits_top hsz (j := 2) rfl rfl
  obtain ⟨b2_a, b2_n, b2_c, rfl⟩ := okWide_slice Try.underlying29 (hval 2 29 v2 rfl rfl)
  obtain ⟨n2, g2⟩ := h2
  have g2' : DataW.trod enc Try.prog W 0 (fun _ => true) true n2 29 [.slice b2_a b2_n b2_c] = some (d2, p2) := g2
  obtain ⟨A2, c2, l2, hv2, hr2, hc2, hy2, hq2⟩ := Opens.open_ints' Try.underlying29 Try.underlying3 (by kernel_rfl) g2' fit2
  injection hv2 with hv2a hv2b hv2c
  subst hv2a hv2b hv2c
  rw [show Try.prog.bytesOf 3 = 8 by kernel_rfl] at hy2
  have bk : Rows.uptoBulkAll ([DataW.agg [y0_0.1, y0_1.1, y0_2.1], d1, d2] ++ ([] : List (DataW H))) ≤ 1048576 := of_decide_eq_true hk0
  have bl1 : l1.length ≤ Rows.uptoBulk d1 := of_len (Opens.len_of Try.underlying29 g1')
  have bl2 : l2.length ≤ Rows.uptoBulk d2 := of_len (Opens.len_of Try.underlying29 g2')
  have hlen : l1.length + l2.length < 17592186044416 := by simp only [List.cons_append, List.nil_append, Rows.uptoBulkAll] at bk; omega
  clear hA0 hval0 hsz0 hsz hk0
  obtain ⟨k, hk⟩ := Pure.TableSteps l0_0 hy0_0 hq0_0 l0_1 hy0_1 hq0_1 l0_2 hy0_2 hq0_2 l1 hy1 hq1 l2 hy2 hq2 hlen
  refine (X.tabardlaw12_TableSteps.calls k A0_0 c0_0 l0_0 A0_1 c0_1 l0_1 A0_2 c0_2 l0_2 b1_a b1_c l1 b2_a b2_c l2 true W hr0_0 hc0_0 hr0_1 hc0_1 hr0_2 hc0_2 hr1 hc1 hr2 hc2 hk).mono fun e W' ⟨he, bel⟩ => ?_
  subst he
  show ∃ v, Ending.returned (.bool true) = Ending.returned v ∧ Rows.tableStepsSpec.post enc Try.prog Try.f5 false true false false W _ v W'
  exact ⟨_, rfl, _, _, _, [], _, [], hW', trodAll_mk1 (shut_bool Try.underlying4 _), (trodAll_cons_mk (Below.trod laidOut (by kernel_rfl) (of_decide_eq_true (by kernel_rfl)) k0 bel lt0) (trodAll_cons_mk (Below.trod laidOut (by kernel_rfl) (of_decide_eq_true (by kernel_rfl)) k1 bel lt1) (trodAll_cons_mk (Below.trod laidOut (by kernel_rfl) (of_decide_eq_true (by kernel_rfl)) k2 bel lt2) trodAll_mk0))), rfl, bel.frame _, fun h => by cases h⟩
theorem over : Rows.tableStepsUptoRow.holds Try.pinned (Rows.OpenSpec.upto Rows.tableStepsSpec) :=
  OpenClaim.holds_of_cond 5 Try.f5 rfl rfl rfl rfl rfl rfl rfl ⟨rfl, rfl, rfl, rfl, rfl⟩ rfl rfl rfl rfl rfl (by kernel_rfl) Try.func5 (by kernel_rfl)
    (of_decide_eq_true (by kernel_rfl)) (by unfold Func.isWrapper; first | (rw [if_pos (by decide +kernel)]; kernel_rfl) | (rw [if_neg (by decide +kernel)]; exact ⟨rfl, rfl⟩))
    (fun os started H enc _ F => lifted os started H enc F)
theorem proved : Rows.TableStepsUptoSaid := over
#print axioms proved
end Go.Proofs.Ytghfclgcgecgdaa.tableSteps
namespace Go.Proofs.Ytghfclgcgecgdaa
/-- The row, under a short name, for the claim. -/
theorem tableSteps_holds : Rows.TableStepsUptoSaid := tableSteps.proved
end Go.Proofs.Ytghfclgcgecgdaa

/- What the functions of this seat compute, and that the program's calls come to just that: written by this session's own program out of the translation; no condition. -/
import Derived.Test.YtiakfdoaopfihaaX0
import Derived.Test.YtiakfdoaopfihaaX4
import Derived.Test.YtiakfdoaopfihaaX5
import Derived.Test.YtiakfdoaopfihaaX6
import Derived.Test.YtiakfdoaopfihaaX8
import Derived.Test.YtiakfdoaopfihaaX11
namespace Go.Proofs.Ytiakfdoaopfihaa.X
open Go.RowKit Go.Proofs.YtiakfdoaopfihaaW.PrintWords Go.Proofs.YtiakfdoaopfihaaW.PrintLast Go.Proofs.YtiakfdoaopfihaaW.PrintMore
attribute [local go_sem] max2_int min2_int max_two min_two max_three min_three max_four min_four   -- for this text's walks alone
set_option linter.unusedVariables false
set_option linter.unusedSimpArgs false

/-! ### tabardlaw11_RowPacks: function 4 -/
mutual
def tabardlaw11_RowPacks.j0 : Nat → List Int → List (S31) → List (S31) → Bool → Option (Bool)
 | 0, _, _, _, _ => none
 | k + 1, x3, x6, x8, x61 => if x61 = true then (some false) else ((row_Pack.f k x3).bind fun bt221 => (tabardlaw11_RowPacks.l0 k x6 x8 bt221.1 (x6.length : Int) 0))
def tabardlaw11_RowPacks.l0 : Nat → List (S31) → List (S31) → List (S31) → Int → Int → Option (Bool)
 | 0, _, _, _, _, _ => none
 | k + 1, x6, x8, x10, x68, x69 => if x69 < x68 then (if 0 ≤ x69 then (if x69 < (x6.length : Int) then (tabardlaw11_RowPacks.l0 k (x6.set (x69 : Int).toNat (⟨0, 0, (-1)⟩ : S31)) x8 x10 x68 (wrap64 (x69 + 1))) else (none)) else (none)) else (if x6.length < 5864062014805 then ((some (x6 ++ [(⟨0, 0, (-2)⟩ : S31)] : List (S31))).bind fun y226 => ((tabardlaw11_cubes.f k x10 x8).bind fun t229 => (if t229 = true then (if 0 ≤ (x6.length : Int) then (if (x6.length : Int) < (y226.length : Int) then (some (((rd_T31 y226 (x6.length : Int)).f2) == (-2))) else (none)) else (none)) else (some false)))) else (none))
end
def tabardlaw11_RowPacks.f (k : Nat) (l0 : List Int) : Option (Bool) := (some (([] : List Int) : List Int)).bind fun y202 => (if y202.length + l0.length < 17592186044416 then ((some (y202 ++ l0 : List Int)).bind fun y205 => ((row_Leaves.f k y205).bind fun bt208 => ((row_Pack.f k y205).bind fun bt210 => ((tabardref11_Pack.f k l0).bind fun bt214 => ((tabardlaw11_fixed.f k).bind fun t218 => (if t218 = true then (if bt208.2 = bt214.2 then (if bt210.2 = bt214.2 then (if bt208.1 = (bt214.1.length : Int) then ((tabardlaw11_cubes.f k bt210.1 bt214.1).bind fun t219 => (if t219 = true then ((tabardlaw11_ints.f k y205 l0).bind fun t220 => (tabardlaw11_RowPacks.j0 k y205 bt210.1 bt214.1 (!t220))) else (tabardlaw11_RowPacks.j0 k y205 bt210.1 bt214.1 true))) else (tabardlaw11_RowPacks.j0 k y205 bt210.1 bt214.1 true)) else (tabardlaw11_RowPacks.j0 k y205 bt210.1 bt214.1 true)) else (tabardlaw11_RowPacks.j0 k y205 bt210.1 bt214.1 true)) else (tabardlaw11_RowPacks.j0 k y205 bt210.1 bt214.1 true))))))) else (none))
theorem tabardlaw11_RowPacks.mono_l : ∀ k, (∀ y0 y1 y2 y3, LeO (tabardlaw11_RowPacks.j0 k y0 y1 y2 y3) (tabardlaw11_RowPacks.j0 (k + 1) y0 y1 y2 y3)) ∧ (∀ y0 y1 y2 y3 y4, LeO (tabardlaw11_RowPacks.l0 k y0 y1 y2 y3 y4) (tabardlaw11_RowPacks.l0 (k + 1) y0 y1 y2 y3 y4))
 | 0 => ⟨fun _ _ _ _ r h => by simp [tabardlaw11_RowPacks.j0] at h, fun _ _ _ _ _ r h => by simp [tabardlaw11_RowPacks.l0] at h⟩
 | k + 1 => by
  obtain ⟨ih0, ih1⟩ := tabardlaw11_RowPacks.mono_l k
  refine ⟨?_, ?_⟩
  ·intro y0 y1 y2 y3
   unfold tabardlaw11_RowPacks.j0
   repeat' first
   | (with_reducible exact ih0 _ _ _ _)
   | (with_reducible exact ih1 _ _ _ _ _)
   | (with_reducible exact row_Leaves.mono _ _)
   | (with_reducible exact row_Pack.mono _ _)
   | (with_reducible exact tabardlaw11_cubes.mono _ _ _)
   | (with_reducible exact tabardlaw11_fixed.mono _)
   | (with_reducible exact tabardlaw11_ints.mono _ _ _)
   | (with_reducible exact tabardref11_Pack.mono _ _)
   | (with_reducible exact LeO.refl _)
   | (with_reducible exact LeO.none _)
   | (with_reducible refine LeO.ite ?_ ?_)
   | (with_reducible refine LeO.bind ?_ (fun _ => ?_))
   | exact ih0 _ _ _ _
   | exact ih1 _ _ _ _ _
   | exact row_Leaves.mono _ _
   | exact row_Pack.mono _ _
   | exact tabardlaw11_cubes.mono _ _ _
   | exact tabardlaw11_fixed.mono _
   | exact tabardlaw11_ints.mono _ _ _
   | exact tabardref11_Pack.mono _ _
   | exact LeO.none _
   | refine LeO.ite ?_ ?_
   | refine LeO.bind ?_ (fun _ => ?_)
  ·intro y0 y1 y2 y3 y4
   unfold tabardlaw11_RowPacks.l0
   repeat' first
   | (with_reducible exact ih0 _ _ _ _)
   | (with_reducible exact ih1 _ _ _ _ _)
   | (with_reducible exact row_Leaves.mono _ _)
   | (with_reducible exact row_Pack.mono _ _)
   | (with_reducible exact tabardlaw11_cubes.mono _ _ _)
   | (with_reducible exact tabardlaw11_fixed.mono _)
   | (with_reducible exact tabardlaw11_ints.mono _ _ _)
   | (with_reducible exact tabardref11_Pack.mono _ _)
   | (with_reducible exact LeO.refl _)
   | (with_reducible exact LeO.none _)
   | (with_reducible refine LeO.ite ?_ ?_)
   | (with_reducible refine LeO.bind ?_ (fun _ => ?_))
   | exact ih0 _ _ _ _
   | exact ih1 _ _ _ _ _
   | exact row_Leaves.mono _ _
   | exact row_Pack.mono _ _
   | exact tabardlaw11_cubes.mono _ _ _
   | exact tabardlaw11_fixed.mono _
   | exact tabardlaw11_ints.mono _ _ _
   | exact tabardref11_Pack.mono _ _
   | exact LeO.none _
   | refine LeO.ite ?_ ?_
   | refine LeO.bind ?_ (fun _ => ?_)
theorem tabardlaw11_RowPacks.mono : ∀ a0 k, LeO (tabardlaw11_RowPacks.f k a0) (tabardlaw11_RowPacks.f (k + 1) a0) := by
 intro a0 k
 obtain ⟨ih0, ih1⟩ := tabardlaw11_RowPacks.mono_l k
 unfold tabardlaw11_RowPacks.f
 repeat' first
   | (with_reducible exact ih0 _ _ _ _)
   | (with_reducible exact ih1 _ _ _ _ _)
   | (with_reducible exact row_Leaves.mono _ _)
   | (with_reducible exact row_Pack.mono _ _)
   | (with_reducible exact tabardlaw11_cubes.mono _ _ _)
   | (with_reducible exact tabardlaw11_fixed.mono _)
   | (with_reducible exact tabardlaw11_ints.mono _ _ _)
   | (with_reducible exact tabardref11_Pack.mono _ _)
   | (with_reducible exact LeO.refl _)
   | (with_reducible exact LeO.none _)
   | (with_reducible refine LeO.ite ?_ ?_)
   | (with_reducible refine LeO.bind ?_ (fun _ => ?_))
   | exact ih0 _ _ _ _
   | exact ih1 _ _ _ _ _
   | exact row_Leaves.mono _ _
   | exact row_Pack.mono _ _
   | exact tabardlaw11_cubes.mono _ _ _
   | exact tabardlaw11_fixed.mono _
   | exact tabardlaw11_ints.mono _ _ _
   | exact tabardref11_Pack.mono _ _
   | exact LeO.none _
   | refine LeO.ite ?_ ?_
   | refine LeO.bind ?_ (fun _ => ?_)
set_option maxHeartbeats 8000000 in
set_option maxRecDepth 100000 in
theorem tabardlaw11_RowPacks.calls (k : Nat) (A0 : Option Addr) (c0 : Nat) (l0 : List Int) (r : Bool) (w : World) (hr0 : Kd.C (Kd.int .i64) w A0 l0.length l0) (hc0 : l0.length ≤ c0) (h : tabardlaw11_RowPacks.f k l0 = some r) :
  Calls Try.prog 4 #[.slice A0 l0.length c0] w fun e w' => e = .returned (.bool r) ∧ Below w.heap.size w w' := by
 have hu31 := Try.underlying31
 have HR0 := Aside0.mk hr0
 have HC0 := Aside0.mk hc0
 clear hr0 hc0
 have HB := Aside0.mk (Below.refl w.heap.size w)
 have H : ((some (([] : List Int) : List Int)).bind fun y202 => (if y202.length + l0.length < 17592186044416 then ((some (y202 ++ l0 : List Int)).bind fun y205 => ((row_Leaves.f k y205).bind fun bt208 => ((row_Pack.f k y205).bind fun bt210 => ((tabardref11_Pack.f k l0).bind fun bt214 => ((tabardlaw11_fixed.f k).bind fun t218 => (if t218 = true then (if bt208.2 = bt214.2 then (if bt210.2 = bt214.2 then (if bt208.1 = (bt214.1.length : Int) then ((tabardlaw11_cubes.f k bt210.1 bt214.1).bind fun t219 => (if t219 = true then ((tabardlaw11_ints.f k y205 l0).bind fun t220 => (tabardlaw11_RowPacks.j0 k y205 bt210.1 bt214.1 (!t220))) else (tabardlaw11_RowPacks.j0 k y205 bt210.1 bt214.1 true))) else (tabardlaw11_RowPacks.j0 k y205 bt210.1 bt214.1 true)) else (tabardlaw11_RowPacks.j0 k y205 bt210.1 bt214.1 true)) else (tabardlaw11_RowPacks.j0 k y205 bt210.1 bt214.1 true)) else (tabardlaw11_RowPacks.j0 k y205 bt210.1 bt214.1 true))))))) else (none))) = some r := h
 clear h
 obtain ⟨y202, hy202⟩ : ∃ y_ : List Int, y_ = (([] : List Int)) := ⟨_, rfl⟩
 replace H : (if y202.length + l0.length < 17592186044416 then ((some (y202 ++ l0 : List Int)).bind fun y205 => ((row_Leaves.f k y205).bind fun bt208 => ((row_Pack.f k y205).bind fun bt210 => ((tabardref11_Pack.f k l0).bind fun bt214 => ((tabardlaw11_fixed.f k).bind fun t218 => (if t218 = true then (if bt208.2 = bt214.2 then (if bt210.2 = bt214.2 then (if bt208.1 = (bt214.1.length : Int) then ((tabardlaw11_cubes.f k bt210.1 bt214.1).bind fun t219 => (if t219 = true then ((tabardlaw11_ints.f k y205 l0).bind fun t220 => (tabardlaw11_RowPacks.j0 k y205 bt210.1 bt214.1 (!t220))) else (tabardlaw11_RowPacks.j0 k y205 bt210.1 bt214.1 true))) else (tabardlaw11_RowPacks.j0 k y205 bt210.1 bt214.1 true)) else (tabardlaw11_RowPacks.j0 k y205 bt210.1 bt214.1 true)) else (tabardlaw11_RowPacks.j0 k y205 bt210.1 bt214.1 true)) else (tabardlaw11_RowPacks.j0 k y205 bt210.1 bt214.1 true))))))) else (none)) = some r := by first | (rw [hy202]; with_reducible exact H) | (have H2_ := (Option.bind_some _ _).symm.trans H; rw [hy202]; with_reducible exact H2_) | (have H2_ := (Option.bind_some _ _).symm.trans H; with_reducible exact H2_) | with_reducible exact H | (rw [hy202]; exact H) | exact H
 have Ny202 := Aside0.mk hy202
 clear hy202
 by_cases c2 : y202.length + l0.length < 17592186044416
 ·rw [if_pos c2] at H
  have LMc2 := Aside0.mk c2
  clear c2
  obtain ⟨y205, hy205⟩ : ∃ y_ : List Int, y_ = (y202 ++ l0) := ⟨_, rfl⟩
  replace H : ((row_Leaves.f k y205).bind fun bt208 => ((row_Pack.f k y205).bind fun bt210 => ((tabardref11_Pack.f k l0).bind fun bt214 => ((tabardlaw11_fixed.f k).bind fun t218 => (if t218 = true then (if bt208.2 = bt214.2 then (if bt210.2 = bt214.2 then (if bt208.1 = (bt214.1.length : Int) then ((tabardlaw11_cubes.f k bt210.1 bt214.1).bind fun t219 => (if t219 = true then ((tabardlaw11_ints.f k y205 l0).bind fun t220 => (tabardlaw11_RowPacks.j0 k y205 bt210.1 bt214.1 (!t220))) else (tabardlaw11_RowPacks.j0 k y205 bt210.1 bt214.1 true))) else (tabardlaw11_RowPacks.j0 k y205 bt210.1 bt214.1 true)) else (tabardlaw11_RowPacks.j0 k y205 bt210.1 bt214.1 true)) else (tabardlaw11_RowPacks.j0 k y205 bt210.1 bt214.1 true)) else (tabardlaw11_RowPacks.j0 k y205 bt210.1 bt214.1 true)))))) = some r := by first | (rw [hy205]; with_reducible exact H) | (have H2_ := (Option.bind_some _ _).symm.trans H; rw [hy205]; with_reducible exact H2_) | (have H2_ := (Option.bind_some _ _).symm.trans H; with_reducible exact H2_) | with_reducible exact H | (rw [hy205]; exact H) | exact H
  have Ny205 := Aside0.mk hy205
  clear hy205
  replace H := Option.bind_eq_some_iff.mp H
  obtain ⟨⟨t208, t209⟩, A30, H⟩ := H
  replace H : ((row_Pack.f k y205).bind fun bt210 => ((tabardref11_Pack.f k l0).bind fun bt214 => ((tabardlaw11_fixed.f k).bind fun t218 => (if t218 = true then (if t209 = bt214.2 then (if bt210.2 = bt214.2 then (if t208 = (bt214.1.length : Int) then ((tabardlaw11_cubes.f k bt210.1 bt214.1).bind fun t219 => (if t219 = true then ((tabardlaw11_ints.f k y205 l0).bind fun t220 => (tabardlaw11_RowPacks.j0 k y205 bt210.1 bt214.1 (!t220))) else (tabardlaw11_RowPacks.j0 k y205 bt210.1 bt214.1 true))) else (tabardlaw11_RowPacks.j0 k y205 bt210.1 bt214.1 true)) else (tabardlaw11_RowPacks.j0 k y205 bt210.1 bt214.1 true)) else (tabardlaw11_RowPacks.j0 k y205 bt210.1 bt214.1 true)) else (tabardlaw11_RowPacks.j0 k y205 bt210.1 bt214.1 true))))) = some r := H
  have A3 := Aside0.mk A30
  clear A30
  replace H := Option.bind_eq_some_iff.mp H
  obtain ⟨⟨t210, t211⟩, A40, H⟩ := H
  replace H : ((tabardref11_Pack.f k l0).bind fun bt214 => ((tabardlaw11_fixed.f k).bind fun t218 => (if t218 = true then (if t209 = bt214.2 then (if t211 = bt214.2 then (if t208 = (bt214.1.length : Int) then ((tabardlaw11_cubes.f k t210 bt214.1).bind fun t219 => (if t219 = true then ((tabardlaw11_ints.f k y205 l0).bind fun t220 => (tabardlaw11_RowPacks.j0 k y205 t210 bt214.1 (!t220))) else (tabardlaw11_RowPacks.j0 k y205 t210 bt214.1 true))) else (tabardlaw11_RowPacks.j0 k y205 t210 bt214.1 true)) else (tabardlaw11_RowPacks.j0 k y205 t210 bt214.1 true)) else (tabardlaw11_RowPacks.j0 k y205 t210 bt214.1 true)) else (tabardlaw11_RowPacks.j0 k y205 t210 bt214.1 true)))) = some r := H
  have A4 := Aside0.mk A40
  clear A40
  replace H := Option.bind_eq_some_iff.mp H
  obtain ⟨⟨t214, t215⟩, A50, H⟩ := H
  replace H : ((tabardlaw11_fixed.f k).bind fun t218 => (if t218 = true then (if t209 = t215 then (if t211 = t215 then (if t208 = (t214.length : Int) then ((tabardlaw11_cubes.f k t210 t214).bind fun t219 => (if t219 = true then ((tabardlaw11_ints.f k y205 l0).bind fun t220 => (tabardlaw11_RowPacks.j0 k y205 t210 t214 (!t220))) else (tabardlaw11_RowPacks.j0 k y205 t210 t214 true))) else (tabardlaw11_RowPacks.j0 k y205 t210 t214 true)) else (tabardlaw11_RowPacks.j0 k y205 t210 t214 true)) else (tabardlaw11_RowPacks.j0 k y205 t210 t214 true)) else (tabardlaw11_RowPacks.j0 k y205 t210 t214 true))) = some r := H
  have A5 := Aside0.mk A50
  clear A50
  have HC6 := Aside0.mk H
  clear H
  go_enter Try.func4, Try.ntmps4
  go_upto_region 5 with (first | ((with_reducible refine gate_dst (N := 14) rfl ?_); (try (refine gate_guard (by rfl) ?_; dsimp only)); refine Kd.R_lit (Kd.int .i64) _ 3 ?hg (N := 14) ?hd (xs := ([] : List Int)) (inner := []) (ok := fun _ => True) (okp := fun _ => True) ?hr ?hp (fun _ hk => hk) trivial (Below.refl _ _) (Nat.le_refl _) (by simp) ?_; (case hd => rfl); (case hg => rfl); (case hr => first | (go_simp; done) | (go_simp; rfl)); (case hp => exact (Reps.none _ _)); intro v203 w7 ho8 hb hg_ hnew_; clear hg_ hnew_; (first | rw [← Ny202.out] at ho8 | (simp only [Int.reduceToNat] at ho8; rw [← Ny202.out] at ho8)); have n0_ := Aside0.mk (Kd.R_lower ho8 (below_size (bO HB.out))); have n1_ := Aside0.mk (below_step (bO HB.out) hb); clear HB; have HO204 := n0_; have HB := n1_; clear n0_ n1_; clear hb ho8) | ((with_reducible refine gate_builtin (b := .append) (xs := #[.tmp 14, .tmp 15]) rfl ?_); (try (refine gate_guard (by rfl) ?_; dsimp only)); at_builtin; refine Kd.R_append_rows (Kd.int .i64) (w0 := w) w.heap.size rfl (.tmp 14) (.tmp 15) 22 3 (.int .i64 0) 8 rfl Try.underlying22 info3 rfl (by decide) (by omega) v203 y202 l0 _ _ _ (fun _ => True) (fun _ => False) rfl rfl ?aO ?aR (fun _ _ h => h) (fun _ h => h.elim) ?aF ?aB ?aS ?aL ?_; (case aR => exact cO (Kd.C_below HR0.out HB.out)); (case aB => exact (bO HB.out)); (case aF => exact (fun _ _ => trivial)); (case aO => exact (rO HO204.out)); (case aS => exact (below_size (bO HB.out))); (case aL => have := LMc2.out; omega); intro v206 w9 ho hb hg hat; rw [← Ny205.out] at ho; have n0_ := Aside0.mk (hb); have n1_ := Aside0.mk (ho); clear HB; clear HO204; have HB := n0_; have HO207 := n1_; clear n0_ n1_; clear ho hb hg hat; obtain ⟨Ao10, co10, eo10⟩ := Kd.R_slice HO207.out; subst eo10) | ((with_reducible refine gate_callee (f := 12) rfl ?_); refine goesL_ (some 19) rfl rfl Try.func12 (by kernel_rfl) rfl #[.slice Ao10 y205.length co10] rfl mO ?_; (with_reducible refine (row_Leaves.calls k _ _ y205 t208 t209 _ ?side1 ?side2 A3.out).mono ?_); (case side1 => exact cO (Kd.R_reads' HO207.out).2.2); (case side2 => exact (Kd.R_reads' HO207.out).2.1); rintro e w11 ⟨rfl, hb⟩; refine ⟨_, rfl, ?_⟩; have n0_ := Aside0.mk (Kd.R_below (rO HO207.out) hb); have n1_ := Aside0.mk (below_step (bO HB.out) hb); clear HO207; clear HB; have HO207 := n0_; have HB := n1_; clear n0_ n1_; (try clear hb); (try clear hb2); (try clear hk); (try clear hi)) | ((with_reducible refine gate_callee (f := 9) rfl ?_); refine goesL_ (some 24) rfl rfl Try.func9 (by kernel_rfl) rfl #[.slice Ao10 y205.length co10] rfl mO ?_; (with_reducible refine (row_Pack.calls k _ _ y205 t210 t211 _ ?side1 ?side2 A4.out).mono ?_); (case side1 => exact cO (Kd.R_reads' HO207.out).2.2); (case side2 => exact (Kd.R_reads' HO207.out).2.1); rintro e w12 ⟨v212, rfl, ho0, hb⟩; refine ⟨_, rfl, ?_⟩; have n0_ := Aside0.mk (Kd.R_below (rO HO207.out) hb); have n1_ := Aside0.mk (Kd.R_lower ho0 (below_size (bO HB.out))); have n2_ := Aside0.mk (below_step (bO HB.out) hb); clear HO207; clear HB; have HO207 := n0_; have HO213 := n1_; have HB := n2_; clear n0_ n1_ n2_; (try clear hb); (try clear hb2); (try clear hk); (try clear hi); (try clear ho0)) | ((with_reducible refine gate_callee (f := 13) rfl ?_); refine goesL_ (some 29) rfl rfl Try.func13 (by kernel_rfl) rfl #[.slice A0 l0.length c0] rfl mO ?_; (with_reducible refine (tabardref11_Pack.calls k _ _ l0 t214 t215 _ ?side1 ?side2 A5.out).mono ?_); (case side1 => exact cO (Kd.C_below HR0.out HB.out)); (case side2 => exact HC0.out); rintro e w13 ⟨v216, rfl, ho0, hb⟩; refine ⟨_, rfl, ?_⟩; have n0_ := Aside0.mk (Kd.R_below (rO HO207.out) hb); have n1_ := Aside0.mk (Kd.R_elder' (rO HO213.out) (Kd.R_base ho0) hb); have n2_ := Aside0.mk (Kd.R_lower (Kd.R_new' ho0 (Kd.R_lt (rO HO213.out))) (below_size (bO HB.out))); have n3_ := Aside0.mk (below_step (bO HB.out) hb); clear HO207; clear HO213; clear HB; have HO207 := n0_; have HO213 := n1_; have HO217 := n2_; have HB := n3_; clear n0_ n1_ n2_ n3_; (try clear hb); (try clear hb2); (try clear hk); (try clear hi); (try clear ho0)))
  (try simp only [Act.put, List.setIfInBounds_toArray, List.set_cons_zero, List.set_cons_succ])
  go_cut [61] (fun v61 wc => ∃ (kq : Nat) (x61_5 : Bool), v61 = .bool x61_5 ∧ Aside0 (tabardlaw11_RowPacks.j0 kq y205 t210 t214 x61_5 = some r) ∧ Aside0 (kq ≤ k) ∧ Aside0 (Kd.R (Kd.int .i64) 3 wc w.heap.size (fun _ => True) (.slice Ao10 y205.length co10) y205) ∧ Aside0 (Kd.R k31 31 wc w.heap.size (fun k_ => some k_ ≠ (v216 : Value).ownBlock) v212 t210) ∧ Aside0 (Kd.R k31 31 wc w.heap.size (fun k_ => some k_ ≠ (v212 : Value).ownBlock) v216 t214) ∧ Aside0 (Below w.heap.size w wc))
  case first =>
   have H := HC6.out
   clear HC6
   replace H := Option.bind_eq_some_iff.mp H
   obtain ⟨t218, A140, H⟩ := H
   replace H : (if t218 = true then (if t209 = t215 then (if t211 = t215 then (if t208 = (t214.length : Int) then ((tabardlaw11_cubes.f k t210 t214).bind fun t219 => (if t219 = true then ((tabardlaw11_ints.f k y205 l0).bind fun t220 => (tabardlaw11_RowPacks.j0 k y205 t210 t214 (!t220))) else (tabardlaw11_RowPacks.j0 k y205 t210 t214 true))) else (tabardlaw11_RowPacks.j0 k y205 t210 t214 true)) else (tabardlaw11_RowPacks.j0 k y205 t210 t214 true)) else (tabardlaw11_RowPacks.j0 k y205 t210 t214 true)) else (tabardlaw11_RowPacks.j0 k y205 t210 t214 true)) = some r := H
   have A14 := Aside0.mk A140
   clear A140
   by_cases c15 : t218 = true
   ·subst c15
    have H1 : (if t209 = t215 then (if t211 = t215 then (if t208 = (t214.length : Int) then ((tabardlaw11_cubes.f k t210 t214).bind fun t219 => (if t219 = true then ((tabardlaw11_ints.f k y205 l0).bind fun t220 => (tabardlaw11_RowPacks.j0 k y205 t210 t214 (!t220))) else (tabardlaw11_RowPacks.j0 k y205 t210 t214 true))) else (tabardlaw11_RowPacks.j0 k y205 t210 t214 true)) else (tabardlaw11_RowPacks.j0 k y205 t210 t214 true)) else (tabardlaw11_RowPacks.j0 k y205 t210 t214 true)) = some r := by rw [if_pos rfl] at H; exact H
    clear H
    have H := H1
    clear H1
    by_cases c16 : t209 = t215
    ·rw [if_pos c16] at H
     have c16b0 : (t209 == t215) = true := beq_iff_eq.mpr c16
     have c16b1 : (t209 != t215) = false := bne_eq_false_iff_eq.mpr c16
     clear c16
     (first | rw [c16b0] | (simp only [i64_w, i32_w]; rw [c16b0]) | skip)
     by_cases c17 : t211 = t215
     ·rw [if_pos c17] at H
      have c17b0 : (t211 == t215) = true := beq_iff_eq.mpr c17
      have c17b1 : (t211 != t215) = false := bne_eq_false_iff_eq.mpr c17
      clear c17
      by_cases c18 : t208 = (t214.length : Int)
      ·rw [if_pos c18] at H
       have c18b0 : (t208 == (t214.length : Int)) = true := beq_iff_eq.mpr c18
       have c18b1 : (t208 != (t214.length : Int)) = false := bne_eq_false_iff_eq.mpr c18
       clear c18
       replace H := Option.bind_eq_some_iff.mp H
       obtain ⟨t219, A190, H⟩ := H
       replace H : (if t219 = true then ((tabardlaw11_ints.f k y205 l0).bind fun t220 => (tabardlaw11_RowPacks.j0 k y205 t210 t214 (!t220))) else (tabardlaw11_RowPacks.j0 k y205 t210 t214 true)) = some r := H
       have A19 := Aside0.mk A190
       clear A190
       by_cases c20 : t219 = true
       ·subst c20
        have H1 : ((tabardlaw11_ints.f k y205 l0).bind fun t220 => (tabardlaw11_RowPacks.j0 k y205 t210 t214 (!t220))) = some r := by rw [if_pos rfl] at H; exact H
        clear H
        have H := H1
        clear H1
        replace H := Option.bind_eq_some_iff.mp H
        obtain ⟨t220, A210, H⟩ := H
        replace H : (tabardlaw11_RowPacks.j0 k y205 t210 t214 (!t220)) = some r := H
        have A21 := Aside0.mk A210
        clear A210
        have H' := Aside0.mk H
        clear H
        go_wp2_with (first | ((with_reducible refine gate_callee (f := 8) rfl ?_); refine goesL_ (some 32) rfl rfl Try.func8 (by kernel_rfl) rfl #[] rfl mO ?_; (with_reducible refine (tabardlaw11_fixed.calls k  true _ A14.out).mono ?_); rintro e w22 ⟨rfl, hb⟩; refine ⟨_, rfl, ?_⟩; have n0_ := Aside0.mk (Kd.R_below (rO HO207.out) hb); have n1_ := Aside0.mk (Kd.R_below (rO HO213.out) hb); have n2_ := Aside0.mk (Kd.R_below (rO HO217.out) hb); have n3_ := Aside0.mk (below_step (bO HB.out) hb); clear HO207; clear HO213; clear HO217; clear HB; have HO207 := n0_; have HO213 := n1_; have HO217 := n2_; have HB := n3_; clear n0_ n1_ n2_ n3_; (try clear hb); (try clear hb2); (try clear hk); (try clear hi); obtain ⟨Ao23, co23, eo23⟩ := Kd.R_slice HO217.out; subst eo23; obtain ⟨Ao24, co24, eo24⟩ := Kd.R_slice HO213.out; subst eo24) | (go_at_call 10; (with_reducible refine (tabardlaw11_cubes.calls k _ _ t210 _ _ t214 true _ ?side1 ?side2 ?side3 ?side4 A19.out).mono ?_); (case side1 => exact cO (Kd.R_reads' HO213.out).2.2); (case side2 => exact (Kd.R_reads' HO213.out).2.1); (case side3 => exact cO (Kd.R_reads' HO217.out).2.2); (case side4 => exact (Kd.R_reads' HO217.out).2.1); rintro e w' ⟨rfl, ⟨nd, rfl⟩⟩) | (go_at_call 11; (with_reducible refine (tabardlaw11_ints.calls k _ _ y205 _ _ l0 t220 _ ?side1 ?side2 ?side3 ?side4 A21.out).mono ?_); (case side1 => exact cO (Kd.R_reads' HO207.out).2.2); (case side2 => exact (Kd.R_reads' HO207.out).2.1); (case side3 => repeat (first | exact (Kd.C_below HR0.out (bO HB.out)) | (with_reducible refine Kd.C_alloc ?_ _) | (with_reducible refine Kd.C_drewN ?_ _) | (with_reducible refine Kd.C_drew ?_))); (case side4 => exact HC0.out); rintro e w' ⟨rfl, ⟨nd, rfl⟩⟩))
        go_meet
        case rel => exact ⟨_, (!t220), (by first | rfl | (simp; done) | (simp [*]; done)), H', ⟨by first | omega | exact Nat.le_refl _⟩, ⟨rO HO207.out⟩, ⟨by (with_reducible repeat (first | apply Kd.R_alloc | apply Kd.R_drewN | apply Kd.R_drew)); exact Kd.R_mono HO213.out (fun _ hk => hk.2)⟩, ⟨by (with_reducible repeat (first | apply Kd.R_alloc | apply Kd.R_drewN | apply Kd.R_drew)); exact Kd.R_mono HO217.out (fun _ hk => hk.2)⟩, ⟨bO HB.out⟩⟩
       ·replace c20 := Bool.eq_false_iff.mpr c20
        subst c20
        have H1 : (tabardlaw11_RowPacks.j0 k y205 t210 t214 true) = some r := by rw [if_neg (show ¬ (false = true) by decide)] at H; exact H
        clear H
        have H := H1
        clear H1
        have H' := Aside0.mk H
        clear H
        go_wp2_with (first | ((with_reducible refine gate_callee (f := 8) rfl ?_); refine goesL_ (some 32) rfl rfl Try.func8 (by kernel_rfl) rfl #[] rfl mO ?_; (with_reducible refine (tabardlaw11_fixed.calls k  true _ A14.out).mono ?_); rintro e w25 ⟨rfl, hb⟩; refine ⟨_, rfl, ?_⟩; have n0_ := Aside0.mk (Kd.R_below (rO HO207.out) hb); have n1_ := Aside0.mk (Kd.R_below (rO HO213.out) hb); have n2_ := Aside0.mk (Kd.R_below (rO HO217.out) hb); have n3_ := Aside0.mk (below_step (bO HB.out) hb); clear HO207; clear HO213; clear HO217; clear HB; have HO207 := n0_; have HO213 := n1_; have HO217 := n2_; have HB := n3_; clear n0_ n1_ n2_ n3_; (try clear hb); (try clear hb2); (try clear hk); (try clear hi); obtain ⟨Ao26, co26, eo26⟩ := Kd.R_slice HO217.out; subst eo26; obtain ⟨Ao27, co27, eo27⟩ := Kd.R_slice HO213.out; subst eo27) | (go_at_call 10; (with_reducible refine (tabardlaw11_cubes.calls k _ _ t210 _ _ t214 false _ ?side1 ?side2 ?side3 ?side4 A19.out).mono ?_); (case side1 => exact cO (Kd.R_reads' HO213.out).2.2); (case side2 => exact (Kd.R_reads' HO213.out).2.1); (case side3 => exact cO (Kd.R_reads' HO217.out).2.2); (case side4 => exact (Kd.R_reads' HO217.out).2.1); rintro e w' ⟨rfl, ⟨nd, rfl⟩⟩))
        go_meet
        case rel => exact ⟨_, (true), (by first | rfl | (simp; done) | (simp [*]; done)), H', ⟨by first | omega | exact Nat.le_refl _⟩, ⟨rO HO207.out⟩, ⟨by (with_reducible repeat (first | apply Kd.R_alloc | apply Kd.R_drewN | apply Kd.R_drew)); exact Kd.R_mono HO213.out (fun _ hk => hk.2)⟩, ⟨by (with_reducible repeat (first | apply Kd.R_alloc | apply Kd.R_drewN | apply Kd.R_drew)); exact Kd.R_mono HO217.out (fun _ hk => hk.2)⟩, ⟨bO HB.out⟩⟩
      ·rw [if_neg c18] at H
       have c18b0 : (t208 == (t214.length : Int)) = false := beq_eq_false_iff_ne.mpr c18
       have c18b1 : (t208 != (t214.length : Int)) = true := bne_iff_ne.mpr c18
       have H' := Aside0.mk H
       clear H
       go_wp2_with (first | ((with_reducible refine gate_callee (f := 8) rfl ?_); refine goesL_ (some 32) rfl rfl Try.func8 (by kernel_rfl) rfl #[] rfl mO ?_; (with_reducible refine (tabardlaw11_fixed.calls k  true _ A14.out).mono ?_); rintro e w28 ⟨rfl, hb⟩; refine ⟨_, rfl, ?_⟩; have n0_ := Aside0.mk (Kd.R_below (rO HO207.out) hb); have n1_ := Aside0.mk (Kd.R_below (rO HO213.out) hb); have n2_ := Aside0.mk (Kd.R_below (rO HO217.out) hb); have n3_ := Aside0.mk (below_step (bO HB.out) hb); clear HO207; clear HO213; clear HO217; clear HB; have HO207 := n0_; have HO213 := n1_; have HO217 := n2_; have HB := n3_; clear n0_ n1_ n2_ n3_; (try clear hb); (try clear hb2); (try clear hk); (try clear hi); obtain ⟨Ao29, co29, eo29⟩ := Kd.R_slice HO217.out; subst eo29))
       go_meet
       case rel => exact ⟨_, (true), (by first | rfl | (simp; done) | (simp [*]; done)), H', ⟨by first | omega | exact Nat.le_refl _⟩, ⟨rO HO207.out⟩, ⟨by (with_reducible repeat (first | apply Kd.R_alloc | apply Kd.R_drewN | apply Kd.R_drew)); exact Kd.R_mono HO213.out (fun _ hk => hk.2)⟩, ⟨by (with_reducible repeat (first | apply Kd.R_alloc | apply Kd.R_drewN | apply Kd.R_drew)); exact Kd.R_mono HO217.out (fun _ hk => hk.2)⟩, ⟨bO HB.out⟩⟩
     ·rw [if_neg c17] at H
      have c17b0 : (t211 == t215) = false := beq_eq_false_iff_ne.mpr c17
      have c17b1 : (t211 != t215) = true := bne_iff_ne.mpr c17
      have H' := Aside0.mk H
      clear H
      go_wp2_with (first | ((with_reducible refine gate_callee (f := 8) rfl ?_); refine goesL_ (some 32) rfl rfl Try.func8 (by kernel_rfl) rfl #[] rfl mO ?_; (with_reducible refine (tabardlaw11_fixed.calls k  true _ A14.out).mono ?_); rintro e w30 ⟨rfl, hb⟩; refine ⟨_, rfl, ?_⟩; have n0_ := Aside0.mk (Kd.R_below (rO HO207.out) hb); have n1_ := Aside0.mk (Kd.R_below (rO HO213.out) hb); have n2_ := Aside0.mk (Kd.R_below (rO HO217.out) hb); have n3_ := Aside0.mk (below_step (bO HB.out) hb); clear HO207; clear HO213; clear HO217; clear HB; have HO207 := n0_; have HO213 := n1_; have HO217 := n2_; have HB := n3_; clear n0_ n1_ n2_ n3_; (try clear hb); (try clear hb2); (try clear hk); (try clear hi)))
      go_meet
      case rel => exact ⟨_, (true), (by first | rfl | (simp; done) | (simp [*]; done)), H', ⟨by first | omega | exact Nat.le_refl _⟩, ⟨rO HO207.out⟩, ⟨by (with_reducible repeat (first | apply Kd.R_alloc | apply Kd.R_drewN | apply Kd.R_drew)); exact Kd.R_mono HO213.out (fun _ hk => hk.2)⟩, ⟨by (with_reducible repeat (first | apply Kd.R_alloc | apply Kd.R_drewN | apply Kd.R_drew)); exact Kd.R_mono HO217.out (fun _ hk => hk.2)⟩, ⟨bO HB.out⟩⟩
    ·rw [if_neg c16] at H
     have c16b0 : (t209 == t215) = false := beq_eq_false_iff_ne.mpr c16
     have c16b1 : (t209 != t215) = true := bne_iff_ne.mpr c16
     (first | rw [c16b0] | (simp only [i64_w, i32_w]; rw [c16b0]) | skip)
     have H' := Aside0.mk H
     clear H
     go_wp2_with (first | ((with_reducible refine gate_callee (f := 8) rfl ?_); refine goesL_ (some 32) rfl rfl Try.func8 (by kernel_rfl) rfl #[] rfl mO ?_; (with_reducible refine (tabardlaw11_fixed.calls k  true _ A14.out).mono ?_); rintro e w31 ⟨rfl, hb⟩; refine ⟨_, rfl, ?_⟩; have n0_ := Aside0.mk (Kd.R_below (rO HO207.out) hb); have n1_ := Aside0.mk (Kd.R_below (rO HO213.out) hb); have n2_ := Aside0.mk (Kd.R_below (rO HO217.out) hb); have n3_ := Aside0.mk (below_step (bO HB.out) hb); clear HO207; clear HO213; clear HO217; clear HB; have HO207 := n0_; have HO213 := n1_; have HO217 := n2_; have HB := n3_; clear n0_ n1_ n2_ n3_; (try clear hb); (try clear hb2); (try clear hk); (try clear hi)))
     go_meet
     case rel => exact ⟨_, (true), (by first | rfl | (simp; done) | (simp [*]; done)), H', ⟨by first | omega | exact Nat.le_refl _⟩, ⟨rO HO207.out⟩, ⟨by (with_reducible repeat (first | apply Kd.R_alloc | apply Kd.R_drewN | apply Kd.R_drew)); exact Kd.R_mono HO213.out (fun _ hk => hk.2)⟩, ⟨by (with_reducible repeat (first | apply Kd.R_alloc | apply Kd.R_drewN | apply Kd.R_drew)); exact Kd.R_mono HO217.out (fun _ hk => hk.2)⟩, ⟨bO HB.out⟩⟩
   ·replace c15 := Bool.eq_false_iff.mpr c15
    subst c15
    have H1 : (tabardlaw11_RowPacks.j0 k y205 t210 t214 true) = some r := by rw [if_neg (show ¬ (false = true) by decide)] at H; exact H
    clear H
    have H := H1
    clear H1
    have H' := Aside0.mk H
    clear H
    go_wp2_with (first | ((with_reducible refine gate_callee (f := 8) rfl ?_); refine goesL_ (some 32) rfl rfl Try.func8 (by kernel_rfl) rfl #[] rfl mO ?_; (with_reducible refine (tabardlaw11_fixed.calls k  false _ A14.out).mono ?_); rintro e w32 ⟨rfl, hb⟩; refine ⟨_, rfl, ?_⟩; have n0_ := Aside0.mk (Kd.R_below (rO HO207.out) hb); have n1_ := Aside0.mk (Kd.R_below (rO HO213.out) hb); have n2_ := Aside0.mk (Kd.R_below (rO HO217.out) hb); have n3_ := Aside0.mk (below_step (bO HB.out) hb); clear HO207; clear HO213; clear HO217; clear HB; have HO207 := n0_; have HO213 := n1_; have HO217 := n2_; have HB := n3_; clear n0_ n1_ n2_ n3_; (try clear hb); (try clear hb2); (try clear hk); (try clear hi)))
    go_meet
    case rel => exact ⟨_, (true), (by first | rfl | (simp; done) | (simp [*]; done)), H', ⟨by first | omega | exact Nat.le_refl _⟩, ⟨rO HO207.out⟩, ⟨by (with_reducible repeat (first | apply Kd.R_alloc | apply Kd.R_drewN | apply Kd.R_drew)); exact Kd.R_mono HO213.out (fun _ hk => hk.2)⟩, ⟨by (with_reducible repeat (first | apply Kd.R_alloc | apply Kd.R_drewN | apply Kd.R_drew)); exact Kd.R_mono HO217.out (fun _ hk => hk.2)⟩, ⟨bO HB.out⟩⟩
  case rest =>
   clear HC6
   try clear c1
   try clear c2
   try clear p2
   try clear c4
   try clear c8
   try clear c9
   try clear c12
   try clear c13
   try clear c15
   try clear c16
   try clear c16b0
   try clear c16b1
   try clear c17
   try clear c17b0
   try clear c17b1
   try clear c18
   try clear c18b0
   try clear c18b1
   try clear c20
   obtain ⟨kq, x61_5, rfl, HA, HJ5, HO_3, HO_6, HO_8, HB⟩ := hcut
   cases kq with
   | zero => exact absurd HA.out (by simp [tabardlaw11_RowPacks.j0])
   | succ kj5 =>
    have H := HA.out
    clear HA
    simp only [tabardlaw11_RowPacks.j0] at H
    by_cases c33 : x61_5 = true
    ·subst c33
     have H1 : (some false) = some r := by rw [if_pos rfl] at H; exact H
     clear H
     have H := H1
     clear H1
     obtain rfl := Option.some.inj H
     go_wp2
     go_ret
     exact ⟨by first | rfl | (simp [errW_none, errW_some] <;> rfl) | (simp [*, errW_none, errW_some] <;> rfl), bO HB.out⟩
    ·replace c33 := Bool.eq_false_iff.mpr c33
     subst c33
     have H1 : ((row_Pack.f kj5 y205).bind fun bt221 => (tabardlaw11_RowPacks.l0 kj5 t210 t214 bt221.1 (t210.length : Int) 0)) = some r := by rw [if_neg (show ¬ (false = true) by decide)] at H; exact H
     clear H
     have H := H1
     clear H1
     replace H := Option.bind_eq_some_iff.mp H
     obtain ⟨⟨t221, t222⟩, A340, H⟩ := H
     replace H : (tabardlaw11_RowPacks.l0 kj5 t210 t214 t221 (t210.length : Int) 0) = some r := H
     have A34 := Aside0.mk A340
     clear A340
     have H' := Aside0.mk H
     clear H
     go_wp2_with (first | ((with_reducible refine gate_callee (f := 9) rfl ?_); refine goesL_ (some 64) rfl rfl Try.func9 (by kernel_rfl) rfl #[.slice Ao10 y205.length co10] rfl mO ?_; (with_reducible refine (row_Pack.calls kj5 _ _ y205 t221 t222 _ ?side1 ?side2 A34.out).mono ?_); (case side1 => exact cO (Kd.R_reads' HO_3.out).2.2); (case side2 => exact (Kd.R_reads' HO_3.out).2.1); rintro e w35 ⟨v223, rfl, ho0, hb⟩; refine ⟨_, rfl, ?_⟩; have n0_ := Aside0.mk (Kd.R_below (rO HO_3.out) hb); have n1_ := Aside0.mk (Kd.R_elder' (rO HO_6.out) (Kd.R_base ho0) hb); have n2_ := Aside0.mk (Kd.R_elder' (rO HO_8.out) (Kd.R_base ho0) hb); have n3_ := Aside0.mk (Kd.R_lower (Kd.R_new' (Kd.R_new' ho0 (Kd.R_lt (rO HO_6.out))) (Kd.R_lt (rO HO_8.out))) (below_size (bO HB.out))); have n4_ := Aside0.mk (below_step (bO HB.out) hb); clear HO_3; clear HO_6; clear HO_8; clear HB; have HO_3 := n0_; have HO_6 := n1_; have HO_8 := n2_; have HO224 := n3_; have HB := n4_; clear n0_ n1_ n2_ n3_ n4_; (try clear hb); (try clear hb2); (try clear hk); (try clear hi); (try clear ho0); obtain ⟨Ao36, co36, eo36⟩ := Kd.R_slice HO_6.out; subst eo36))
     go_loopg [69] kj5 (fun kq v69 w' => ∃ (x6_2 : List (S31)) (x69_2 : Int), v69 = .int .i64 x69_2 ∧ Aside0 (tabardlaw11_RowPacks.l0 kq x6_2 t214 t221 (t210.length : Int) x69_2 = some r) ∧ Aside0 (kq ≤ kj5) ∧ Aside0 (Kd.R k31 31 w' w.heap.size (fun k_ => some k_ ≠ (v216 : Value).ownBlock ∧ some k_ ≠ (v223 : Value).ownBlock) (.slice Ao36 t210.length co36) x6_2) ∧ Aside0 (Kd.R k31 31 w' w.heap.size (fun k_ => some k_ ≠ ((.slice Ao36 t210.length co36) : Value).ownBlock ∧ some k_ ≠ (v223 : Value).ownBlock) v216 t214) ∧ Aside0 (Kd.R k31 31 w' w.heap.size (fun k_ => some k_ ≠ ((.slice Ao36 t210.length co36) : Value).ownBlock ∧ some k_ ≠ (v216 : Value).ownBlock) v223 t221) ∧ Aside0 (Below w.heap.size w w'))
     case atStart => exact ⟨(t210), (0), (by first | rfl | (simp; done) | (simp [*]; done)), H', ⟨Nat.le_refl _⟩, ⟨rO HO_6.out⟩, ⟨rO HO_8.out⟩, ⟨by (with_reducible repeat (first | apply Kd.R_alloc | apply Kd.R_drewN | apply Kd.R_drew)); exact Kd.R_mono HO224.out (fun _ hk => ⟨hk.1.2, hk.2⟩)⟩, ⟨bO HB.out⟩⟩
     case round =>
      clear H'
      try clear c1
      try clear c2
      try clear p2
      try clear c3
      try clear c4
      try clear c8
      try clear c9
      try clear c12
      try clear c13
      try clear c15
      try clear c16
      try clear c16b0
      try clear c16b1
      try clear c17
      try clear c17b0
      try clear c17b1
      try clear c18
      try clear c18b0
      try clear c18b1
      try clear c20
      try clear c33
      try clear p2
      obtain ⟨x6_2, x69_2, rfl, HA, HK2, HO_6, HO_8, HO_10, HB⟩ := hrel
      have hl6_2 := (Kd.R_reads' HO_6.out).1
      rw [hl6_2] at HO_6
      (try simp only [hl6_2])
      (try simp only [hl6_2] at HO_8)
      (try simp only [hl6_2] at HO_10)
      cases gk with
      | zero => exact absurd HA.out (by simp [tabardlaw11_RowPacks.l0])
      | succ k2 =>
       have H := HA.out
       clear HA
       simp only [tabardlaw11_RowPacks.l0] at H
       by_cases c37 : x69_2 < (t210.length : Int)
       ·rw [if_pos c37] at H
        have c37b0 : decide (x69_2 < (t210.length : Int)) = true := decide_eq_true c37
        (try (have c37b0hl6_2 := c37b0; rw [hl6_2] at c37b0hl6_2))
        clear c37
        by_cases c38 : 0 ≤ x69_2
        ·rw [if_pos c38] at H
         have c38b0 : decide (0 ≤ x69_2) = true := decide_eq_true c38
         clear c38
         by_cases c39 : x69_2 < (x6_2.length : Int)
         ·rw [if_pos c39] at H
          have c39b0 : decide (x69_2 < (x6_2.length : Int)) = true := decide_eq_true c39
          (try (have c39b0hl6_2 := c39b0; rw [hl6_2] at c39b0hl6_2))
          clear c39
          obtain ⟨y225, hy225⟩ : ∃ y_ : List (S31), y_ = (x6_2.set (x69_2 : Int).toNat (⟨0, 0, (-1)⟩ : S31)) := ⟨_, rfl⟩
          replace H : (tabardlaw11_RowPacks.l0 k2 y225 t214 t221 (t210.length : Int) (wrap64 (x69_2 + 1))) = some r := by first | (rw [hy225]; with_reducible exact H) | (have H2_ := (Option.bind_some _ _).symm.trans H; rw [hy225]; with_reducible exact H2_) | (have H2_ := (Option.bind_some _ _).symm.trans H; with_reducible exact H2_) | with_reducible exact H | (rw [hy225]; exact H) | exact H
          have Ny225 := Aside0.mk hy225
          clear hy225
          have H' := Aside0.mk H
          clear H
          have p40 : 0 ≤ (x69_2 : Int) := of_decide_eq_true aO
          have q40 : (x69_2 : Int) < ((x6_2.length : Int) : Int) := of_decide_eq_true aO
          obtain ⟨go40, co40, eo40, gb40, gl40, cl40, HG40⟩ := Kd.R_form HO_6.out (by omega)
          (first | cases eo40 | (injection eo40 with ea_ en_ ec_; (first | subst ea_ | (injection ea_ with ea_; subst ea_)); subst ec_; clear en_))
          have GB40 := Aside0.mk gb40
          have GG40 := Aside0.mk HG40
          clear gb40 gl40 HG40
          obtain ⟨ce40, hcl40, hM40, hcc40, hfr40⟩ := Kd.R_elem HO_6.out z31 (x69_2 : Int) p40 q40
          obtain rfl := k31_openM hM40
          have hx40_0 : wr.cell? ⟨go40, (x69_2 : Int).toNat * 3, none⟩ = some (.int .i64 ((rd_T31 x6_2 x69_2).f0)) := hcc40 0 _ rfl
          have hx40_1 : wr.cell? ⟨go40, (x69_2 : Int).toNat * 3 + 1, none⟩ = some (.int .i64 ((rd_T31 x6_2 x69_2).f1)) := hcc40 1 _ rfl
          have hx40_2 : wr.cell? ⟨go40, (x69_2 : Int).toNat * 3 + 2, none⟩ = some (.int .i64 ((rd_T31 x6_2 x69_2).f2)) := hcc40 2 _ rfl
          have hf40_0 : wr.frozen? ⟨go40, (x69_2 : Int).toNat * 3, none⟩ = false := hfr40 0
          have hf40_1 : wr.frozen? ⟨go40, (x69_2 : Int).toNat * 3 + 1, none⟩ = false := hfr40 1
          have hf40_2 : wr.frozen? ⟨go40, (x69_2 : Int).toNat * 3 + 2, none⟩ = false := hfr40 2
          clear hcl40 hcc40 hfr40 hM40
          replace p40 := eq_true p40
          replace q40 := eq_true q40
          have HX41 := Aside0.mk (show Kd.R k31 31 wr w.heap.size (fun k_ => some k_ ≠ (v216 : Value).ownBlock ∧ some k_ ≠ (v223 : Value).ownBlock) (.slice (some ⟨go40, 0, none⟩) x6_2.length co36) x6_2 from (rO HO_6.out))
          obtain ⟨ce41, hcl41, hM41, hcc41, hfr41⟩ := Kd.R_elem HX41.out z31 (x69_2 : Int) (of_decide_eq_true aO) (by have h_ : (x69_2 : Int) < ((x6_2.length : Int) : Int) := of_decide_eq_true aO; first | exact h_ | (have e_ := (Kd.R_reads' HO_6.out).1; omega) | simpa using h_)
          obtain rfl := k31_openM hM41
          have HP41 := Kd.R_seg HX41.out (x69_2 : Int) (of_decide_eq_true aO) (by have h_ : (x69_2 : Int) < ((x6_2.length : Int) : Int) := of_decide_eq_true aO; first | exact h_ | (have e_ := (Kd.R_reads' HO_6.out).1; omega) | simpa using h_) (seg := [.int .i64 0, .int .i64 0, .int .i64 (-1)]) (j := 0) hcl41 hcc41 (show 3 ≤ 3 from by decide) (x' := (⟨0, 0, (-1)⟩ : S31)) (k31_mkM _ _ _ (⟨0, 0, (-1)⟩ : S31) ) (fun _ hk => hk)
          have hx41_0 := hcc41 0 _ rfl
          (try simp only [show (k31).sz = 3 from rfl, Nat.mul_one, Nat.add_zero] at hx41_0)
          have hf41_0 := hfr41 0
          (try simp only [show (k31).sz = 3 from rfl, Nat.mul_one, Nat.add_zero] at hf41_0)
          have hx41_1 := hcc41 1 _ rfl
          (try simp only [show (k31).sz = 3 from rfl, Nat.mul_one, Nat.add_zero] at hx41_1)
          have hf41_1 := hfr41 1
          (try simp only [show (k31).sz = 3 from rfl, Nat.mul_one, Nat.add_zero] at hf41_1)
          have hx41_2 := hcc41 2 _ rfl
          (try simp only [show (k31).sz = 3 from rfl, Nat.mul_one, Nat.add_zero] at hx41_2)
          have hf41_2 := hfr41 2
          (try simp only [show (k31).sz = 3 from rfl, Nat.mul_one, Nat.add_zero] at hf41_2)
          clear hcl41 hcc41 hfr41 hM41
          go_wp2_with (first | ((with_reducible refine gate_store (t := 31) (p := 75) rfl ?_); refine store_event (t := 31) (p := 75) (v := ?vo_w42) (w1 := (((wr.setCell ⟨go40, (x69_2 : Int).toNat * 3, none⟩ (.int .i64 0)).setCell ⟨go40, (x69_2 : Int).toNat * 3 + 1, none⟩ (.int .i64 0)).setCell ⟨go40, (x69_2 : Int).toNat * 3 + 2, none⟩ (.int .i64 (-1)))) ?hg ?ho ?hn ?hr ?_; (case ho => rfl); (case hg => rfl); (case hn => rfl); (case hr => first | (go_simp; done) | (go_simp; rfl)); intro w42 hw; have hg : wr.grownBy w42 (some go40) := (by rw [hw]; exact HP41.2); have hp_ : Kd.R k31 31 w42 w.heap.size (fun k_ => some k_ ≠ (v216 : Value).ownBlock ∧ some k_ ≠ (v223 : Value).ownBlock) (.slice (some ⟨go40, 0, none⟩) x6_2.length co36) y225 := (by rw [hw, Ny225.out]; exact HP41.1); clear HP41; have n0_ := Aside0.mk (hp_); have n1_ := Aside0.mk (Kd.R_after (v := (.slice (some ⟨go40, 0, none⟩) x6_2.length co36)) (v1 := (.slice (some ⟨go40, 0, none⟩) x6_2.length co36)) (ok := (fun k_ => some k_ ≠ (v223 : Value).ownBlock)) (by (with_reducible repeat (first | apply Kd.R_alloc | apply Kd.R_drewN | apply Kd.R_drew)); exact Kd.R_mono HO_8.out (fun _ hk => ⟨hk.2, hk.1⟩)) hg (.inl rfl)); have n2_ := Aside0.mk (Kd.R_after (v := (.slice (some ⟨go40, 0, none⟩) x6_2.length co36)) (v1 := (.slice (some ⟨go40, 0, none⟩) x6_2.length co36)) (ok := (fun k_ => some k_ ≠ (v216 : Value).ownBlock)) (by (with_reducible repeat (first | apply Kd.R_alloc | apply Kd.R_drewN | apply Kd.R_drew)); exact Kd.R_mono HO_10.out (fun _ hk => ⟨hk.2, hk.1⟩)) hg (.inl rfl)); have n3_ := Aside0.mk ((by rw [hw]; exact below_set (below_set (below_set (HB.out) GB40.out) GB40.out) GB40.out : Below w.heap.size w w42)); clear HO_6; clear HO_8; clear HO_10; clear HB; have HO_6 := n0_; have HO_8 := n1_; have HO_10 := n2_; have HB := n3_; clear n0_ n1_ n2_ n3_; clear hg hw hp_))
          (try simp only [← hl6_2])
          go_roundg k2
          case measure => have := HJ5.out; have := HK2.out; omega
          case rel => exact ⟨(y225), (wrap64 (x69_2 + 1)), (by first | rfl | (simp; done) | (simp [*]; done)), H', ⟨by have := HJ5.out; have := HK2.out; omega⟩, ⟨by (try simp only [hl6_2]); (with_reducible repeat (first | apply Kd.R_alloc | apply Kd.R_drewN | apply Kd.R_drew)); exact HO_6.out⟩, ⟨by (try simp only [hl6_2]); (with_reducible repeat (first | apply Kd.R_alloc | apply Kd.R_drewN | apply Kd.R_drew)); exact Kd.R_mono HO_8.out (fun _ hk => ⟨hk.2, hk.1⟩)⟩, ⟨by (try simp only [hl6_2]); (with_reducible repeat (first | apply Kd.R_alloc | apply Kd.R_drewN | apply Kd.R_drew)); exact Kd.R_mono HO_10.out (fun _ hk => ⟨hk.2, hk.1⟩)⟩, ⟨bO HB.out⟩⟩
         ·rw [if_neg c39] at H
          exact absurd H (by simp)
        ·rw [if_neg c38] at H
         exact absurd H (by simp)
       ·rw [if_neg c37] at H
        have c37b0 : decide (x69_2 < (t210.length : Int)) = false := decide_eq_false c37
        (try (have c37b0hl6_2 := c37b0; rw [hl6_2] at c37b0hl6_2))
        clear c37
        by_cases c43 : x6_2.length < 5864062014805
        ·rw [if_pos c43] at H
         have LMc43 := Aside0.mk c43
         clear c43
         obtain ⟨y226, hy226⟩ : ∃ y_ : List (S31), y_ = (x6_2 ++ [(⟨0, 0, (-2)⟩ : S31)]) := ⟨_, rfl⟩
         replace H : ((tabardlaw11_cubes.f k2 t221 t214).bind fun t229 => (if t229 = true then (if 0 ≤ (x6_2.length : Int) then (if (x6_2.length : Int) < (y226.length : Int) then (some (((rd_T31 y226 (x6_2.length : Int)).f2) == (-2))) else (none)) else (none)) else (some false))) = some r := by first | (rw [hy226]; with_reducible exact H) | (have H2_ := (Option.bind_some _ _).symm.trans H; rw [hy226]; with_reducible exact H2_) | (have H2_ := (Option.bind_some _ _).symm.trans H; with_reducible exact H2_) | with_reducible exact H | (rw [hy226]; exact H) | exact H
         have Ny226 := Aside0.mk hy226
         clear hy226
         replace H := Option.bind_eq_some_iff.mp H
         obtain ⟨t229, A440, H⟩ := H
         replace H : (if t229 = true then (if 0 ≤ (x6_2.length : Int) then (if (x6_2.length : Int) < (y226.length : Int) then (some (((rd_T31 y226 (x6_2.length : Int)).f2) == (-2))) else (none)) else (none)) else (some false)) = some r := H
         have A44 := Aside0.mk A440
         clear A440
         by_cases c45 : t229 = true
         ·subst c45
          have H1 : (if 0 ≤ (x6_2.length : Int) then (if (x6_2.length : Int) < (y226.length : Int) then (some (((rd_T31 y226 (x6_2.length : Int)).f2) == (-2))) else (none)) else (none)) = some r := by rw [if_pos rfl] at H; exact H
          clear H
          have H := H1
          clear H1
          by_cases c46 : 0 ≤ (x6_2.length : Int)
          ·rw [if_pos c46] at H
           have c46b0 : decide (0 ≤ (x6_2.length : Int)) = true := decide_eq_true c46
           (try (have c46b0hl6_2 := c46b0; rw [hl6_2] at c46b0hl6_2))
           have c46b1 : decide (0 ≤ x6_2.length) = true := decide_eq_true (by omega)
           (try (have c46b1hl6_2 := c46b1; rw [hl6_2] at c46b1hl6_2))
           clear c46
           by_cases c47 : (x6_2.length : Int) < (y226.length : Int)
           ·rw [if_pos c47] at H
            have c47b0 : decide ((x6_2.length : Int) < (y226.length : Int)) = true := decide_eq_true c47
            (try (have c47b0hl6_2 := c47b0; rw [hl6_2] at c47b0hl6_2))
            have c47b1 : decide (x6_2.length < y226.length) = true := decide_eq_true (Int.ofNat_lt.mp c47)
            (try (have c47b1hl6_2 := c47b1; rw [hl6_2] at c47b1hl6_2))
            clear c47
            obtain rfl := Option.some.inj H
            go_wp2_with (first | ((with_reducible refine gate_builtin (b := .append) (xs := #[.tmp 77, .tmp 79]) rfl ?_); (try (refine gate_guard (by rfl) ?_; dsimp only)); at_builtin; refine Kd.R_append k31 (w0 := w) w.heap.size rfl (.tmp 77) (.tmp 79) 24 31 (.agg #[(.int .i64 0), (.int .i64 0), (.int .i64 0)]) 24 rfl Try.underlying24 info31 rfl (by decide) (by omega) (.slice Ao36 x6_2.length co36) x6_2 (⟨0, 0, (-2)⟩ : S31) [.int .i64 0, .int .i64 0, .int .i64 (-2)] (fun k_ => some k_ ≠ (v216 : Value).ownBlock ∧ some k_ ≠ (v223 : Value).ownBlock) (fun _ => False) rfl rfl ?aP (fun _ hk => hk.elim) ?aF ?aO ?aB ?aS ?aL ?_; (case aP => exact k31_mkM _ _ _ (⟨0, 0, (-2)⟩ : S31)); (case aB => exact (bO HB.out)); (case aF => exact (fun k_ hk => ⟨Kd.fresh' (Kd.R_lt (rO HO_8.out)) k_ hk, Kd.fresh' (Kd.R_lt (rO HO_10.out)) k_ hk⟩)); (case aO => exact (rO HO_6.out)); (case aS => exact (below_size (bO HB.out))); (case aL => have := LMc43.out; omega); intro v227 w48 ho hb hg hat; rw [← Ny226.out] at ho; have n0_ := Aside0.mk (Kd.R_after (ok := (fun k_ => some k_ ≠ (v223 : Value).ownBlock)) (by (with_reducible repeat (first | apply Kd.R_alloc | apply Kd.R_drewN | apply Kd.R_drew)); exact Kd.R_mono HO_8.out (fun _ hk => ⟨hk.2, hk.1⟩)) hg hat); have n1_ := Aside0.mk (Kd.R_after (ok := (fun k_ => some k_ ≠ (v216 : Value).ownBlock)) (by (with_reducible repeat (first | apply Kd.R_alloc | apply Kd.R_drewN | apply Kd.R_drew)); exact Kd.R_mono HO_10.out (fun _ hk => ⟨hk.2, hk.1⟩)) hg hat); have n2_ := Aside0.mk (hb); have n3_ := Aside0.mk (ho); clear HO_8; clear HO_10; clear HB; clear HO_6; have HO_8 := n0_; have HO_10 := n1_; have HB := n2_; have HO228 := n3_; clear n0_ n1_ n2_ n3_; clear ho hb hg hat; obtain ⟨Ao49, co49, eo49⟩ := Kd.R_slice HO_10.out; subst eo49; obtain ⟨Ao50, co50, eo50⟩ := Kd.R_slice HO_8.out; subst eo50) | ((with_reducible refine gate_callee (f := 10) rfl ?_); refine goesL_ (some 83) rfl rfl Try.func10 (by kernel_rfl) rfl #[.slice Ao49 t221.length co49, .slice Ao50 t214.length co50] rfl mO ?_; (with_reducible refine (tabardlaw11_cubes.calls k2 _ _ t221 _ _ t214 true _ ?side1 ?side2 ?side3 ?side4 A44.out).mono ?_); (case side1 => exact cO (Kd.R_reads' HO_10.out).2.2); (case side2 => exact (Kd.R_reads' HO_10.out).2.1); (case side3 => exact cO (Kd.R_reads' HO_8.out).2.2); (case side4 => exact (Kd.R_reads' HO_8.out).2.1); rintro e w' ⟨rfl, ⟨nd, rfl⟩⟩; refine ⟨_, rfl, ?_⟩; obtain ⟨Ao51, co51, eo51⟩ := Kd.R_slice HO228.out; subst eo51; have p230 : 0 ≤ ((x6_2.length : Int) : Int) := of_decide_eq_true aO; have q230 : (x6_2.length : Int) < (y226.length : Int) := of_decide_eq_true aO; obtain ⟨ad230, e230, hx230_0, hx230_1, hx230_2⟩ := at_T31 (Kd.R_reads' HO228.out).2.2 (x6_2.length : Int) p230 q230; cases e230; (try simp only [Go.IntWalk.toNatUp] at hx230_0); (try simp only [Go.IntWalk.toNatUp] at hx230_1); (try simp only [Go.IntWalk.toNatUp] at hx230_2); (try simp only [hl6_2] at p230); (try simp only [hl6_2] at q230); (try simp only [hl6_2] at hx230_0); (try simp only [hl6_2] at hx230_1); (try simp only [hl6_2] at hx230_2); replace p230 := eq_true p230; replace q230 := eq_true q230))
            go_ret
            exact ⟨by first | rfl | (simp [errW_none, errW_some] <;> rfl) | (simp [*, errW_none, errW_some] <;> rfl), bO HB.out⟩
           ·rw [if_neg c47] at H
            exact absurd H (by simp)
          ·rw [if_neg c46] at H
           exact absurd H (by simp)
         ·replace c45 := Bool.eq_false_iff.mpr c45
          subst c45
          have H1 : (some false) = some r := by rw [if_neg (show ¬ (false = true) by decide)] at H; exact H
          clear H
          have H := H1
          clear H1
          obtain rfl := Option.some.inj H
          go_wp2_with (first | ((with_reducible refine gate_builtin (b := .append) (xs := #[.tmp 77, .tmp 79]) rfl ?_); (try (refine gate_guard (by rfl) ?_; dsimp only)); at_builtin; refine Kd.R_append k31 (w0 := w) w.heap.size rfl (.tmp 77) (.tmp 79) 24 31 (.agg #[(.int .i64 0), (.int .i64 0), (.int .i64 0)]) 24 rfl Try.underlying24 info31 rfl (by decide) (by omega) (.slice Ao36 x6_2.length co36) x6_2 (⟨0, 0, (-2)⟩ : S31) [.int .i64 0, .int .i64 0, .int .i64 (-2)] (fun k_ => some k_ ≠ (v216 : Value).ownBlock ∧ some k_ ≠ (v223 : Value).ownBlock) (fun _ => False) rfl rfl ?aP (fun _ hk => hk.elim) ?aF ?aO ?aB ?aS ?aL ?_; (case aP => exact k31_mkM _ _ _ (⟨0, 0, (-2)⟩ : S31)); (case aB => exact (bO HB.out)); (case aF => exact (fun k_ hk => ⟨Kd.fresh' (Kd.R_lt (rO HO_8.out)) k_ hk, Kd.fresh' (Kd.R_lt (rO HO_10.out)) k_ hk⟩)); (case aO => exact (rO HO_6.out)); (case aS => exact (below_size (bO HB.out))); (case aL => have := LMc43.out; omega); intro v227 w52 ho hb hg hat; rw [← Ny226.out] at ho; have n0_ := Aside0.mk (Kd.R_after (ok := (fun k_ => some k_ ≠ (v223 : Value).ownBlock)) (by (with_reducible repeat (first | apply Kd.R_alloc | apply Kd.R_drewN | apply Kd.R_drew)); exact Kd.R_mono HO_8.out (fun _ hk => ⟨hk.2, hk.1⟩)) hg hat); have n1_ := Aside0.mk (Kd.R_after (ok := (fun k_ => some k_ ≠ (v216 : Value).ownBlock)) (by (with_reducible repeat (first | apply Kd.R_alloc | apply Kd.R_drewN | apply Kd.R_drew)); exact Kd.R_mono HO_10.out (fun _ hk => ⟨hk.2, hk.1⟩)) hg hat); have n2_ := Aside0.mk (hb); have n3_ := Aside0.mk (ho); clear HO_8; clear HO_10; clear HB; clear HO_6; have HO_8 := n0_; have HO_10 := n1_; have HB := n2_; have HO228 := n3_; clear n0_ n1_ n2_ n3_; clear ho hb hg hat; obtain ⟨Ao53, co53, eo53⟩ := Kd.R_slice HO_10.out; subst eo53; obtain ⟨Ao54, co54, eo54⟩ := Kd.R_slice HO_8.out; subst eo54) | ((with_reducible refine gate_callee (f := 10) rfl ?_); refine goesL_ (some 83) rfl rfl Try.func10 (by kernel_rfl) rfl #[.slice Ao53 t221.length co53, .slice Ao54 t214.length co54] rfl mO ?_; (with_reducible refine (tabardlaw11_cubes.calls k2 _ _ t221 _ _ t214 false _ ?side1 ?side2 ?side3 ?side4 A44.out).mono ?_); (case side1 => exact cO (Kd.R_reads' HO_10.out).2.2); (case side2 => exact (Kd.R_reads' HO_10.out).2.1); (case side3 => exact cO (Kd.R_reads' HO_8.out).2.2); (case side4 => exact (Kd.R_reads' HO_8.out).2.1); rintro e w' ⟨rfl, ⟨nd, rfl⟩⟩; refine ⟨_, rfl, ?_⟩))
          go_ret
          exact ⟨by first | rfl | (simp [errW_none, errW_some] <;> rfl) | (simp [*, errW_none, errW_some] <;> rfl), bO HB.out⟩
        ·rw [if_neg c43] at H
         exact absurd H (by simp)
 ·rw [if_neg c2] at H
  exact absurd H (by simp)

/-- THE ONE PURE STATEMENT of tabardlaw11_RowPacks: yours. -/
def tabardlaw11_RowPacks.Pure : Prop := ∀ (l0 : List Int), l0.length ≤ maxLen → l0.length * 8 ≤ 140737488351232 → (∀ x ∈ l0, (Lit.int .i64 x).wf = true) → ∃ k, tabardlaw11_RowPacks.f k l0 = some true
theorem tabardlaw11_RowPacks.walk (P : tabardlaw11_RowPacks.Pure) (a0 : Option Addr) (len0 cap0 : Nat) (z0 : List Int) (w : World) (w0 : (a0 = none ∧ len0 = 0 ∧ cap0 = 0 ∧ z0 = []) ∨ ∃ x, a0 = some x ∧ len0 ≤ cap0 ∧ cap0 ≤ maxLen ∧ z0.length = cap0 ∧ (∀ i, i < z0.length → w.cell? (x.add i) = some (.int .i64 (z0.getD i 0))) ∧ ∀ n ∈ z0, (Lit.int .i64 n).wf = true) (y0 : len0 * 8 ≤ 140737488351232) :
  Calls Try.prog 4 #[.slice a0 len0 cap0] w fun e w' => e = .returned (.bool true) ∧ Below w.heap.size w w' := by
 obtain ⟨l0, rfl, hr0, hm0, hw0, hc0⟩ := ReadsInt.ofRowC w0
 obtain ⟨k, h⟩ := P l0 hm0 y0 hw0
 refine (tabardlaw11_RowPacks.calls k _ _ l0 true w (Kd.C_of_reads (d := (0 : Int)) (h1 := fun _ => rfl) hr0) hc0 h).mono ?_
 rintro e w' ⟨rfl, hd⟩
 exact ⟨rfl, hd⟩

end Go.Proofs.Ytiakfdoaopfihaa.X

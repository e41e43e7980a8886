/- What the functions of this seat compute, and that the program's calls come to just that: written by this session's own program out of the translation; no condition. -/
import Derived.Test.YtiakfdoaopfihaaX0
import Derived.Test.YtiakfdoaopfihaaX1
import Derived.Test.YtiakfdoaopfihaaX4
import Derived.Test.YtiakfdoaopfihaaX5
import Derived.Test.YtiakfdoaopfihaaX6
namespace Go.Proofs.Ytiakfdoaopfihaa.X
open Go.RowKit Go.Proofs.YtiakfdoaopfihaaW.PrintWords Go.Proofs.YtiakfdoaopfihaaW.PrintLast Go.Proofs.YtiakfdoaopfihaaW.PrintMore
attribute [local go_sem] max2_int min2_int max_two min_two max_three min_three max_four min_four   -- for this text's walks alone
set_option linter.unusedVariables false
set_option linter.unusedSimpArgs false

attribute [local go_sem high] eqA31
/-! ### tabardlaw11_RowLeast: function 3 -/
mutual
def tabardlaw11_RowLeast.j0 : Nat → List Int → List Int → List (S31) → List (S31) → Bool → Option (Bool)
 | 0, _, _, _, _, _ => none
 | k + 1, x0, x1, x5, x7, x35 => if x35 = true then (some true) else (if (x0.length : Int) = (x1.length : Int) then (tabardlaw11_RowLeast.j1 k x0 x1 x5 x7 (decide ((x0.length : Int) > 32))) else (tabardlaw11_RowLeast.j1 k x0 x1 x5 x7 true))
def tabardlaw11_RowLeast.j1 : Nat → List Int → List Int → List (S31) → List (S31) → Bool → Option (Bool)
 | 0, _, _, _, _, _ => none
 | k + 1, x0, x1, x5, x7, x45 => if x45 = true then (some true) else ((tabardlaw11_cubes.f k x5 x7).bind fun t142 => ((tabardlaw11_ints.f k x0 x1).bind fun t143 => (if (t142 != t143) = true then (some false) else ((some (([] : List Int) : List Int)).bind fun y144 => (if y144.length + x0.length < 17592186044416 then ((some (y144 ++ x0 : List Int)).bind fun y147 => (if y147.length + x1.length < 17592186044416 then ((row_Pack.f k (y147 ++ x1)).bind fun bt153 => (if bt153.2 = 0 then ((tabardlaw11_ints.f k x0 x1).bind fun t143 => (if t143 = true then ((tabardlaw11_cubes.f k bt153.1 x5).bind fun t158 => (some t158)) else (if (bt153.1.length : Int) = (wrap64 ((x5.length : Int) + (x7.length : Int))) then (tabardlaw11_RowLeast.l0 k x0 x5 x7 bt153.1 (bt153.1.length : Int) 0) else (some false)))) else (some false))) else (none))) else (none))))))
def tabardlaw11_RowLeast.l0 : Nat → List Int → List (S31) → List (S31) → List (S31) → Int → Int → Option (Bool)
 | 0, _, _, _, _, _, _ => none
 | k + 1, x0, x5, x7, x78, x79, x80 => if x80 < x79 then (if 0 ≤ x80 then (if x80 < (x78.length : Int) then (if x80 < (x5.length : Int) then (if (!(((rd_T31 x78 x80).f0) == (Go.bits .or .i64 ((rd_T31 x5 x80).f0) (x0.length : Int))) || (!(((rd_T31 x78 x80).f1) == ((rd_T31 x5 x80).f1)) || (!(((rd_T31 x78 x80).f2) == ((rd_T31 x5 x80).f2))))) = true then (some false) else (tabardlaw11_RowLeast.l0 k x0 x5 x7 x78 x79 (wrap64 (x80 + 1)))) else (if 0 ≤ (wrap64 (x80 - (x5.length : Int))) then (if (wrap64 (x80 - (x5.length : Int))) < (x7.length : Int) then (if (!(((rd_T31 x78 x80).f0) == (Go.bits .or .i64 ((rd_T31 x7 (wrap64 (x80 - (x5.length : Int)))).f0) (x0.length : Int))) || (!(((rd_T31 x78 x80).f1) == (Go.bits .or .i64 ((rd_T31 x7 (wrap64 (x80 - (x5.length : Int)))).f1) (x0.length : Int))) || (!(((rd_T31 x78 x80).f2) == ((rd_T31 x7 (wrap64 (x80 - (x5.length : Int)))).f2))))) = true then (some false) else (tabardlaw11_RowLeast.l0 k x0 x5 x7 x78 x79 (wrap64 (x80 + 1)))) else (none)) else (none))) else (none)) else (none)) else (some true)
end
def tabardlaw11_RowLeast.f (k : Nat) (l0 : List Int) (l1 : List Int) : Option (Bool) := (tabardlaw11_fixed.f k).bind fun t121 => (if t121 = true then ((some (([] : List Int) : List Int)).bind fun y122 => (if y122.length + l0.length < 17592186044416 then ((row_Pack.f k (y122 ++ l0)).bind fun bt128 => ((some (([] : List Int) : List Int)).bind fun y132 => (if y132.length + l1.length < 17592186044416 then ((row_Pack.f k (y132 ++ l1)).bind fun bt138 => (if bt128.2 = 0 then (tabardlaw11_RowLeast.j0 k l0 l1 bt128.1 bt138.1 (bt138.2 != 0)) else (tabardlaw11_RowLeast.j0 k l0 l1 bt128.1 bt138.1 true))) else (none)))) else (none))) else (some false))
theorem tabardlaw11_RowLeast.mono_l : ∀ k, (∀ y0 y1 y2 y3 y4, LeO (tabardlaw11_RowLeast.j0 k y0 y1 y2 y3 y4) (tabardlaw11_RowLeast.j0 (k + 1) y0 y1 y2 y3 y4)) ∧ (∀ y0 y1 y2 y3 y4, LeO (tabardlaw11_RowLeast.j1 k y0 y1 y2 y3 y4) (tabardlaw11_RowLeast.j1 (k + 1) y0 y1 y2 y3 y4)) ∧ (∀ y0 y1 y2 y3 y4 y5, LeO (tabardlaw11_RowLeast.l0 k y0 y1 y2 y3 y4 y5) (tabardlaw11_RowLeast.l0 (k + 1) y0 y1 y2 y3 y4 y5))
 | 0 => ⟨fun _ _ _ _ _ r h => by simp [tabardlaw11_RowLeast.j0] at h, fun _ _ _ _ _ r h => by simp [tabardlaw11_RowLeast.j1] at h, fun _ _ _ _ _ _ r h => by simp [tabardlaw11_RowLeast.l0] at h⟩
 | k + 1 => by
  obtain ⟨ih0, ih1, ih2⟩ := tabardlaw11_RowLeast.mono_l k
  refine ⟨?_, ?_, ?_⟩
  ·intro y0 y1 y2 y3 y4
   unfold tabardlaw11_RowLeast.j0
   repeat' first
   | (with_reducible exact ih0 _ _ _ _ _)
   | (with_reducible exact ih1 _ _ _ _ _)
   | (with_reducible exact ih2 _ _ _ _ _ _)
   | (with_reducible exact row_Pack.mono _ _)
   | (with_reducible exact tabardlaw11_cubes.mono _ _ _)
   | (with_reducible exact tabardlaw11_fixed.mono _)
   | (with_reducible exact tabardlaw11_ints.mono _ _ _)
   | (with_reducible exact LeO.refl _)
   | (with_reducible exact LeO.none _)
   | (with_reducible refine LeO.ite ?_ ?_)
   | (with_reducible refine LeO.bind ?_ (fun _ => ?_))
   | exact ih0 _ _ _ _ _
   | exact ih1 _ _ _ _ _
   | exact ih2 _ _ _ _ _ _
   | exact row_Pack.mono _ _
   | exact tabardlaw11_cubes.mono _ _ _
   | exact tabardlaw11_fixed.mono _
   | exact tabardlaw11_ints.mono _ _ _
   | exact LeO.none _
   | refine LeO.ite ?_ ?_
   | refine LeO.bind ?_ (fun _ => ?_)
  ·intro y0 y1 y2 y3 y4
   unfold tabardlaw11_RowLeast.j1
   repeat' first
   | (with_reducible exact ih0 _ _ _ _ _)
   | (with_reducible exact ih1 _ _ _ _ _)
   | (with_reducible exact ih2 _ _ _ _ _ _)
   | (with_reducible exact row_Pack.mono _ _)
   | (with_reducible exact tabardlaw11_cubes.mono _ _ _)
   | (with_reducible exact tabardlaw11_fixed.mono _)
   | (with_reducible exact tabardlaw11_ints.mono _ _ _)
   | (with_reducible exact LeO.refl _)
   | (with_reducible exact LeO.none _)
   | (with_reducible refine LeO.ite ?_ ?_)
   | (with_reducible refine LeO.bind ?_ (fun _ => ?_))
   | exact ih0 _ _ _ _ _
   | exact ih1 _ _ _ _ _
   | exact ih2 _ _ _ _ _ _
   | exact row_Pack.mono _ _
   | exact tabardlaw11_cubes.mono _ _ _
   | exact tabardlaw11_fixed.mono _
   | exact tabardlaw11_ints.mono _ _ _
   | exact LeO.none _
   | refine LeO.ite ?_ ?_
   | refine LeO.bind ?_ (fun _ => ?_)
  ·intro y0 y1 y2 y3 y4 y5
   unfold tabardlaw11_RowLeast.l0
   repeat' first
   | (with_reducible exact ih0 _ _ _ _ _)
   | (with_reducible exact ih1 _ _ _ _ _)
   | (with_reducible exact ih2 _ _ _ _ _ _)
   | (with_reducible exact row_Pack.mono _ _)
   | (with_reducible exact tabardlaw11_cubes.mono _ _ _)
   | (with_reducible exact tabardlaw11_fixed.mono _)
   | (with_reducible exact tabardlaw11_ints.mono _ _ _)
   | (with_reducible exact LeO.refl _)
   | (with_reducible exact LeO.none _)
   | (with_reducible refine LeO.ite ?_ ?_)
   | (with_reducible refine LeO.bind ?_ (fun _ => ?_))
   | exact ih0 _ _ _ _ _
   | exact ih1 _ _ _ _ _
   | exact ih2 _ _ _ _ _ _
   | exact row_Pack.mono _ _
   | exact tabardlaw11_cubes.mono _ _ _
   | exact tabardlaw11_fixed.mono _
   | exact tabardlaw11_ints.mono _ _ _
   | exact LeO.none _
   | refine LeO.ite ?_ ?_
   | refine LeO.bind ?_ (fun _ => ?_)
theorem tabardlaw11_RowLeast.mono : ∀ a0 a1 k, LeO (tabardlaw11_RowLeast.f k a0 a1) (tabardlaw11_RowLeast.f (k + 1) a0 a1) := by
 intro a0 a1 k
 obtain ⟨ih0, ih1, ih2⟩ := tabardlaw11_RowLeast.mono_l k
 unfold tabardlaw11_RowLeast.f
 repeat' first
   | (with_reducible exact ih0 _ _ _ _ _)
   | (with_reducible exact ih1 _ _ _ _ _)
   | (with_reducible exact ih2 _ _ _ _ _ _)
   | (with_reducible exact row_Pack.mono _ _)
   | (with_reducible exact tabardlaw11_cubes.mono _ _ _)
   | (with_reducible exact tabardlaw11_fixed.mono _)
   | (with_reducible exact tabardlaw11_ints.mono _ _ _)
   | (with_reducible exact LeO.refl _)
   | (with_reducible exact LeO.none _)
   | (with_reducible refine LeO.ite ?_ ?_)
   | (with_reducible refine LeO.bind ?_ (fun _ => ?_))
   | exact ih0 _ _ _ _ _
   | exact ih1 _ _ _ _ _
   | exact ih2 _ _ _ _ _ _
   | exact row_Pack.mono _ _
   | exact tabardlaw11_cubes.mono _ _ _
   | exact tabardlaw11_fixed.mono _
   | exact tabardlaw11_ints.mono _ _ _
   | exact LeO.none _
   | refine LeO.ite ?_ ?_
   | refine LeO.bind ?_ (fun _ => ?_)
def tabardlaw11_RowLeast.T23 : Bool × List (List Nat × List Nat) := (true, [([], []), ([], []), ([0, 1], [0, 1]), ([2], [2]), ([3], [3]), ([], []), ([5], [5]), ([4, 6], [4, 6]), ([], []), ([], []), ([8, 9], [8, 9]), ([10], [10]), ([11], [11]), ([], []), ([], []), ([13, 14], [13, 14]), ([15], [15]), ([16], [16]), ([7, 12, 17], [7, 12, 17]), ([18, 0, 1, 2, 3, 4, 5, 6, 7, 8, 9, 10, 11, 12, 13, 14, 15, 16, 17, 18], [18])])
def tabardlaw11_RowLeast.B23 : List Nat := [0, 0, 3, 7, 15, 0, 32, 127, 0, 0, 768, 1792, 3840, 0, 0, 24576, 57344, 122880, 262143, 524287]
theorem tabardlaw11_RowLeast.tab23 : rtab .any (opsOf Try.f3 23) = tabardlaw11_RowLeast.T23 := by kernel_rfl
theorem tabardlaw11_RowLeast.bits23 : waitsOk tabardlaw11_RowLeast.T23.2 tabardlaw11_RowLeast.B23 = true := by kernel_rfl
set_option maxHeartbeats 8000000 in
set_option maxRecDepth 100000 in
theorem tabardlaw11_RowLeast.calls (k : Nat) (A0 : Option Addr) (c0 : Nat) (l0 : List Int) (A1 : Option Addr) (c1 : Nat) (l1 : List Int) (r : Bool) (w : World) (hr0 : Kd.C (Kd.int .i64) w A0 l0.length l0) (hc0 : l0.length ≤ c0) (hr1 : Kd.C (Kd.int .i64) w A1 l1.length l1) (hc1 : l1.length ≤ c1) (h : tabardlaw11_RowLeast.f k l0 l1 = some r) :
  Calls Try.prog 3 #[.slice A0 l0.length c0, .slice A1 l1.length c1] w fun e w' => e = .returned (.bool r) ∧ Below w.heap.size w w' := by
 have hu31 := Try.underlying31
 have HR0 := Aside0.mk hr0
 have HC0 := Aside0.mk hc0
 clear hr0 hc0
 have HR1 := Aside0.mk hr1
 have HC1 := Aside0.mk hc1
 clear hr1 hc1
 have HB := Aside0.mk (Below.refl w.heap.size w)
 have H : ((tabardlaw11_fixed.f k).bind fun t121 => (if t121 = true then ((some (([] : List Int) : List Int)).bind fun y122 => (if y122.length + l0.length < 17592186044416 then ((row_Pack.f k (y122 ++ l0)).bind fun bt128 => ((some (([] : List Int) : List Int)).bind fun y132 => (if y132.length + l1.length < 17592186044416 then ((row_Pack.f k (y132 ++ l1)).bind fun bt138 => (if bt128.2 = 0 then (tabardlaw11_RowLeast.j0 k l0 l1 bt128.1 bt138.1 (bt138.2 != 0)) else (tabardlaw11_RowLeast.j0 k l0 l1 bt128.1 bt138.1 true))) else (none)))) else (none))) else (some false))) = some r := h
 clear h
 replace H := Option.bind_eq_some_iff.mp H
 obtain ⟨t121, A30, H⟩ := H
 replace H : (if t121 = true then ((some (([] : List Int) : List Int)).bind fun y122 => (if y122.length + l0.length < 17592186044416 then ((row_Pack.f k (y122 ++ l0)).bind fun bt128 => ((some (([] : List Int) : List Int)).bind fun y132 => (if y132.length + l1.length < 17592186044416 then ((row_Pack.f k (y132 ++ l1)).bind fun bt138 => (if bt128.2 = 0 then (tabardlaw11_RowLeast.j0 k l0 l1 bt128.1 bt138.1 (bt138.2 != 0)) else (tabardlaw11_RowLeast.j0 k l0 l1 bt128.1 bt138.1 true))) else (none)))) else (none))) else (some false)) = some r := H
 have A3 := Aside0.mk A30
 clear A30
 by_cases c4 : t121 = true
 ·subst c4
  have H1 : ((some (([] : List Int) : List Int)).bind fun y122 => (if y122.length + l0.length < 17592186044416 then ((row_Pack.f k (y122 ++ l0)).bind fun bt128 => ((some (([] : List Int) : List Int)).bind fun y132 => (if y132.length + l1.length < 17592186044416 then ((row_Pack.f k (y132 ++ l1)).bind fun bt138 => (if bt128.2 = 0 then (tabardlaw11_RowLeast.j0 k l0 l1 bt128.1 bt138.1 (bt138.2 != 0)) else (tabardlaw11_RowLeast.j0 k l0 l1 bt128.1 bt138.1 true))) else (none)))) else (none))) = some r := by rw [if_pos rfl] at H; exact H
  clear H
  have H := H1
  clear H1
  obtain ⟨y122, hy122⟩ : ∃ y_ : List Int, y_ = (([] : List Int)) := ⟨_, rfl⟩
  replace H : (if y122.length + l0.length < 17592186044416 then ((row_Pack.f k (y122 ++ l0)).bind fun bt128 => ((some (([] : List Int) : List Int)).bind fun y132 => (if y132.length + l1.length < 17592186044416 then ((row_Pack.f k (y132 ++ l1)).bind fun bt138 => (if bt128.2 = 0 then (tabardlaw11_RowLeast.j0 k l0 l1 bt128.1 bt138.1 (bt138.2 != 0)) else (tabardlaw11_RowLeast.j0 k l0 l1 bt128.1 bt138.1 true))) else (none)))) else (none)) = some r := by first | (rw [hy122]; with_reducible exact H) | (have H2_ := (Option.bind_some _ _).symm.trans H; rw [hy122]; with_reducible exact H2_) | (have H2_ := (Option.bind_some _ _).symm.trans H; with_reducible exact H2_) | with_reducible exact H | (rw [hy122]; exact H) | exact H
  have Ny122 := Aside0.mk hy122
  clear hy122
  by_cases c5 : y122.length + l0.length < 17592186044416
  ·rw [if_pos c5] at H
   have LMc5 := Aside0.mk c5
   clear c5
   obtain ⟨y125, hy125⟩ : ∃ y_ : List Int, y_ = (y122 ++ l0) := ⟨_, rfl⟩
   replace H : ((row_Pack.f k y125).bind fun bt128 => ((some (([] : List Int) : List Int)).bind fun y132 => (if y132.length + l1.length < 17592186044416 then ((row_Pack.f k (y132 ++ l1)).bind fun bt138 => (if bt128.2 = 0 then (tabardlaw11_RowLeast.j0 k l0 l1 bt128.1 bt138.1 (bt138.2 != 0)) else (tabardlaw11_RowLeast.j0 k l0 l1 bt128.1 bt138.1 true))) else (none)))) = some r := by first | (rw [hy125]; with_reducible exact H) | (have H2_ := (Option.bind_some _ _).symm.trans H; rw [hy125]; with_reducible exact H2_) | (have H2_ := (Option.bind_some _ _).symm.trans H; with_reducible exact H2_) | with_reducible exact H | (rw [hy125]; exact H) | exact H
   have Ny125 := Aside0.mk hy125
   clear hy125
   replace H := Option.bind_eq_some_iff.mp H
   obtain ⟨⟨t128, t129⟩, A60, H⟩ := H
   replace H : ((some (([] : List Int) : List Int)).bind fun y132 => (if y132.length + l1.length < 17592186044416 then ((row_Pack.f k (y132 ++ l1)).bind fun bt138 => (if t129 = 0 then (tabardlaw11_RowLeast.j0 k l0 l1 t128 bt138.1 (bt138.2 != 0)) else (tabardlaw11_RowLeast.j0 k l0 l1 t128 bt138.1 true))) else (none))) = some r := H
   have A6 := Aside0.mk A60
   clear A60
   obtain ⟨y132, hy132⟩ : ∃ y_ : List Int, y_ = (([] : List Int)) := ⟨_, rfl⟩
   replace H : (if y132.length + l1.length < 17592186044416 then ((row_Pack.f k (y132 ++ l1)).bind fun bt138 => (if t129 = 0 then (tabardlaw11_RowLeast.j0 k l0 l1 t128 bt138.1 (bt138.2 != 0)) else (tabardlaw11_RowLeast.j0 k l0 l1 t128 bt138.1 true))) else (none)) = some r := by first | (rw [hy132]; with_reducible exact H) | (have H2_ := (Option.bind_some _ _).symm.trans H; rw [hy132]; with_reducible exact H2_) | (have H2_ := (Option.bind_some _ _).symm.trans H; with_reducible exact H2_) | with_reducible exact H | (rw [hy132]; exact H) | exact H
   have Ny132 := Aside0.mk hy132
   clear hy132
   by_cases c7 : y132.length + l1.length < 17592186044416
   ·rw [if_pos c7] at H
    have LMc7 := Aside0.mk c7
    clear c7
    obtain ⟨y135, hy135⟩ : ∃ y_ : List Int, y_ = (y132 ++ l1) := ⟨_, rfl⟩
    replace H : ((row_Pack.f k y135).bind fun bt138 => (if t129 = 0 then (tabardlaw11_RowLeast.j0 k l0 l1 t128 bt138.1 (bt138.2 != 0)) else (tabardlaw11_RowLeast.j0 k l0 l1 t128 bt138.1 true))) = some r := by first | (rw [hy135]; with_reducible exact H) | (have H2_ := (Option.bind_some _ _).symm.trans H; rw [hy135]; with_reducible exact H2_) | (have H2_ := (Option.bind_some _ _).symm.trans H; with_reducible exact H2_) | with_reducible exact H | (rw [hy135]; exact H) | exact H
    have Ny135 := Aside0.mk hy135
    clear hy135
    replace H := Option.bind_eq_some_iff.mp H
    obtain ⟨⟨t138, t139⟩, A80, H⟩ := H
    replace H : (if t129 = 0 then (tabardlaw11_RowLeast.j0 k l0 l1 t128 t138 (t139 != 0)) else (tabardlaw11_RowLeast.j0 k l0 l1 t128 t138 true)) = some r := H
    have A8 := Aside0.mk A80
    clear A80
    have HC9 := Aside0.mk H
    clear H
    go_enter Try.func3, Try.ntmps3
    go_upto_region 5 with (first | ((with_reducible refine gate_callee (f := 8) rfl ?_); refine goesL_ (some 14) rfl rfl Try.func8 (by kernel_rfl) rfl #[] rfl mO ?_; (with_reducible refine (tabardlaw11_fixed.calls k  true _ A3.out).mono ?_); rintro e w10 ⟨rfl, hb⟩; refine ⟨_, rfl, ?_⟩; have n0_ := Aside0.mk (below_step (bO HB.out) hb); clear HB; have HB := n0_; clear n0_; (try clear hb); (try clear hb2); (try clear hk); (try clear hi)) | ((with_reducible refine gate_dst (N := 17) rfl ?_); (try (refine gate_guard (by rfl) ?_; dsimp only)); refine Kd.R_lit (Kd.int .i64) _ 3 ?hg (N := 17) ?hd (xs := ([] : List Int)) (inner := []) (ok := fun _ => True) (okp := fun _ => True) ?hr ?hp (fun _ hk => hk) trivial (Below.refl _ _) (Nat.le_refl _) (by simp) ?_; (case hd => rfl); (case hg => rfl); (case hr => first | (go_simp; done) | (go_simp; rfl)); (case hp => exact (Reps.none _ _)); intro v123 w11 ho12 hb hg_ hnew_; clear hg_ hnew_; (first | rw [← Ny122.out] at ho12 | (simp only [Int.reduceToNat] at ho12; rw [← Ny122.out] at ho12)); have n0_ := Aside0.mk (Kd.R_lower ho12 (below_size (bO HB.out))); have n1_ := Aside0.mk (below_step (bO HB.out) hb); clear HB; have HO124 := n0_; have HB := n1_; clear n0_ n1_; clear hb ho12) | ((with_reducible refine gate_builtin (b := .append) (xs := #[.tmp 17, .tmp 18]) rfl ?_); (try (refine gate_guard (by rfl) ?_; dsimp only)); at_builtin; refine Kd.R_append_rows (Kd.int .i64) (w0 := w) w.heap.size rfl (.tmp 17) (.tmp 18) 22 3 (.int .i64 0) 8 rfl Try.underlying22 info3 rfl (by decide) (by omega) v123 y122 l0 _ _ _ (fun _ => True) (fun _ => False) rfl rfl ?aO ?aR (fun _ _ h => h) (fun _ h => h.elim) ?aF ?aB ?aS ?aL ?_; (case aR => exact cO (Kd.C_below HR0.out HB.out)); (case aB => exact (bO HB.out)); (case aF => exact (fun _ _ => trivial)); (case aO => exact (rO HO124.out)); (case aS => exact (below_size (bO HB.out))); (case aL => have := LMc5.out; omega); intro v126 w13 ho hb hg hat; rw [← Ny125.out] at ho; have n0_ := Aside0.mk (hb); have n1_ := Aside0.mk (ho); clear HB; clear HO124; have HB := n0_; have HO127 := n1_; clear n0_ n1_; clear ho hb hg hat; obtain ⟨Ao14, co14, eo14⟩ := Kd.R_slice HO127.out; subst eo14) | ((with_reducible refine gate_callee (f := 9) rfl ?_); refine goesL_ (some 20) rfl rfl Try.func9 (by kernel_rfl) rfl #[.slice Ao14 y125.length co14] rfl mO ?_; (with_reducible refine (row_Pack.calls k _ _ y125 t128 t129 _ ?side1 ?side2 A6.out).mono ?_); (case side1 => exact cO (Kd.R_reads' HO127.out).2.2); (case side2 => exact (Kd.R_reads' HO127.out).2.1); rintro e w15 ⟨v130, rfl, ho0, hb⟩; refine ⟨_, rfl, ?_⟩; have n0_ := Aside0.mk (Kd.R_below (rO HO127.out) hb); have n1_ := Aside0.mk (Kd.R_lower ho0 (below_size (bO HB.out))); have n2_ := Aside0.mk (below_step (bO HB.out) hb); clear HO127; clear HB; have HO127 := n0_; have HO131 := n1_; have HB := n2_; clear n0_ n1_ n2_; (try clear hb); (try clear hb2); (try clear hk); (try clear hi); (try clear ho0)) | ((with_reducible refine gate_dst (N := 24) rfl ?_); (try (refine gate_guard (by rfl) ?_; dsimp only)); refine Kd.R_lit (Kd.int .i64) _ 3 ?hg (N := 24) ?hd (xs := ([] : List Int)) (inner := []) (ok := fun _ => True) (okp := fun _ => True) ?hr ?hp (fun _ hk => hk) trivial (Below.refl _ _) (Nat.le_refl _) (by simp) ?_; (case hd => rfl); (case hg => rfl); (case hr => first | (go_simp; done) | (go_simp; rfl)); (case hp => exact (Reps.none _ _)); intro v133 w16 ho17 hb hg_ hnew_; clear hg_ hnew_; (first | rw [← Ny132.out] at ho17 | (simp only [Int.reduceToNat] at ho17; rw [← Ny132.out] at ho17)); have n0_ := Aside0.mk (Kd.R_elder' (rO HO127.out) (Kd.R_base ho17) hb); have n1_ := Aside0.mk (Kd.R_below (rO HO131.out) hb); have n2_ := Aside0.mk (Kd.R_lower (Kd.R_new' ho17 (Kd.R_lt (rO HO127.out))) (below_size (bO HB.out))); have n3_ := Aside0.mk (below_step (bO HB.out) hb); clear HO127; clear HO131; clear HB; have HO127 := n0_; have HO131 := n1_; have HO134 := n2_; have HB := n3_; clear n0_ n1_ n2_ n3_; clear hb ho17) | ((with_reducible refine gate_builtin (b := .append) (xs := #[.tmp 24, .tmp 25]) rfl ?_); (try (refine gate_guard (by rfl) ?_; dsimp only)); at_builtin; refine Kd.R_append_rows (Kd.int .i64) (w0 := w) w.heap.size rfl (.tmp 24) (.tmp 25) 22 3 (.int .i64 0) 8 rfl Try.underlying22 info3 rfl (by decide) (by omega) v133 y132 l1 _ _ _ (fun k_ => some k_ ≠ (.slice Ao14 y125.length co14 : Value).ownBlock) (fun _ => False) rfl rfl ?aO ?aR (fun _ _ h => h) (fun _ h => h.elim) ?aF ?aB ?aS ?aL ?_; (case aR => exact cO (Kd.C_below HR1.out HB.out)); (case aB => exact (bO HB.out)); (case aF => exact (fun k_ hk => Kd.fresh' (Kd.R_lt (rO HO127.out)) k_ hk)); (case aO => exact (by (with_reducible repeat (first | apply Kd.R_alloc | apply Kd.R_drewN | apply Kd.R_drew)); exact Kd.R_mono HO134.out (fun _ hk => hk.2))); (case aS => exact (below_size (bO HB.out))); (case aL => have := LMc7.out; omega); intro v136 w18 ho hb hg hat; rw [← Ny135.out] at ho; have n0_ := Aside0.mk (Kd.R_after (ok := (fun _ => True)) (rO HO127.out) hg hat); have n1_ := Aside0.mk (Kd.R_over' (rO HO131.out) (Kd.R_typed (rO HO134.out)) (by decide) hg); have n2_ := Aside0.mk (hb); have n3_ := Aside0.mk (ho); clear HO127; clear HO131; clear HB; clear HO134; have HO127 := n0_; have HO131 := n1_; have HB := n2_; have HO137 := n3_; clear n0_ n1_ n2_ n3_; clear ho hb hg hat; obtain ⟨Ao19, co19, eo19⟩ := Kd.R_slice HO137.out; subst eo19) | ((with_reducible refine gate_callee (f := 9) rfl ?_); refine goesL_ (some 27) rfl rfl Try.func9 (by kernel_rfl) rfl #[.slice Ao19 y135.length co19] rfl mO ?_; (with_reducible refine (row_Pack.calls k _ _ y135 t138 t139 _ ?side1 ?side2 A8.out).mono ?_); (case side1 => exact cO (Kd.R_reads' HO137.out).2.2); (case side2 => exact (Kd.R_reads' HO137.out).2.1); rintro e w20 ⟨v140, rfl, ho0, hb⟩; refine ⟨_, rfl, ?_⟩; have n0_ := Aside0.mk (Kd.R_below (rO HO127.out) hb); have n1_ := Aside0.mk (Kd.R_elder' (rO HO131.out) (Kd.R_base ho0) hb); have n2_ := Aside0.mk (Kd.R_below (rO HO137.out) hb); have n3_ := Aside0.mk (Kd.R_lower (Kd.R_new' ho0 (Kd.R_lt (rO HO131.out))) (below_size (bO HB.out))); have n4_ := Aside0.mk (below_step (bO HB.out) hb); clear HO127; clear HO131; clear HO137; clear HB; have HO127 := n0_; have HO131 := n1_; have HO137 := n2_; have HO141 := n3_; have HB := n4_; clear n0_ n1_ n2_ n3_ n4_; (try clear hb); (try clear hb2); (try clear hk); (try clear hi); (try clear ho0)))
    (try simp only [Act.put, List.setIfInBounds_toArray, List.set_cons_zero, List.set_cons_succ])
    go_cut [35] (fun v35 wc => ∃ (kq : Nat) (x35_8 : Bool), v35 = .bool x35_8 ∧ Aside0 (tabardlaw11_RowLeast.j0 kq l0 l1 t128 t138 x35_8 = some r) ∧ Aside0 (kq ≤ k) ∧ Aside0 (Kd.R k31 31 wc w.heap.size (fun k_ => some k_ ≠ (v140 : Value).ownBlock) v130 t128) ∧ Aside0 (Kd.R k31 31 wc w.heap.size (fun k_ => some k_ ≠ (v130 : Value).ownBlock) v140 t138) ∧ Aside0 (Below w.heap.size w wc))
    case first =>
     have H := HC9.out
     clear HC9
     by_cases c21 : t129 = 0
     ·rw [if_pos c21] at H
      have c21b0 : (t129 == 0) = true := beq_iff_eq.mpr c21
      have c21b1 : (t129 != 0) = false := bne_eq_false_iff_eq.mpr c21
      clear c21
      (first | rw [c21b0] | (simp only [i64_w, i32_w]; rw [c21b0]) | skip)
      have H' := Aside0.mk H
      clear H
      go_wp2
      go_meet
      case rel => exact ⟨_, ((t139 != 0)), (by first | rfl | (simp; done) | (simp [*]; done)), H', ⟨by first | omega | exact Nat.le_refl _⟩, ⟨by (with_reducible repeat (first | apply Kd.R_alloc | apply Kd.R_drewN | apply Kd.R_drew)); exact Kd.R_mono HO131.out (fun _ hk => hk.2)⟩, ⟨by (with_reducible repeat (first | apply Kd.R_alloc | apply Kd.R_drewN | apply Kd.R_drew)); exact Kd.R_mono HO141.out (fun _ hk => hk.2)⟩, ⟨bO HB.out⟩⟩
     ·rw [if_neg c21] at H
      have c21b0 : (t129 == 0) = false := beq_eq_false_iff_ne.mpr c21
      have c21b1 : (t129 != 0) = true := bne_iff_ne.mpr c21
      (first | rw [c21b0] | (simp only [i64_w, i32_w]; rw [c21b0]) | skip)
      have H' := Aside0.mk H
      clear H
      go_wp2
      go_meet
      case rel => exact ⟨_, (true), (by first | rfl | (simp; done) | (simp [*]; done)), H', ⟨by first | omega | exact Nat.le_refl _⟩, ⟨by (with_reducible repeat (first | apply Kd.R_alloc | apply Kd.R_drewN | apply Kd.R_drew)); exact Kd.R_mono HO131.out (fun _ hk => hk.2)⟩, ⟨by (with_reducible repeat (first | apply Kd.R_alloc | apply Kd.R_drewN | apply Kd.R_drew)); exact Kd.R_mono HO141.out (fun _ hk => hk.2)⟩, ⟨bO HB.out⟩⟩
    case rest =>
     clear HC9
     try clear c1
     try clear c2
     try clear p2
     try clear c3
     try clear c4
     try clear c5
     try clear c7
     try clear c8
     try clear c9
     try clear c21
     try clear c21b0
     try clear c21b1
     obtain ⟨kq, x35_8, rfl, HA, HJ8, HO_5, HO_7, HB⟩ := hcut
     cases kq with
     | zero => exact absurd HA.out (by simp [tabardlaw11_RowLeast.j0])
     | succ kj8 =>
      have H := HA.out
      clear HA
      simp only [tabardlaw11_RowLeast.j0] at H
      by_cases c22 : x35_8 = true
      ·subst c22
       have H1 : (some true) = some r := by rw [if_pos rfl] at H; exact H
       clear H
       have H := H1
       clear H1
       obtain rfl := Option.some.inj H
       go_wp2
       go_ret
       exact ⟨by first | rfl | (simp [errW_none, errW_some] <;> rfl) | (simp [*, errW_none, errW_some] <;> rfl), bO HB.out⟩
      ·replace c22 := Bool.eq_false_iff.mpr c22
       subst c22
       have H1 : (if (l0.length : Int) = (l1.length : Int) then (tabardlaw11_RowLeast.j1 kj8 l0 l1 t128 t138 (decide ((l0.length : Int) > 32))) else (tabardlaw11_RowLeast.j1 kj8 l0 l1 t128 t138 true)) = some r := by rw [if_neg (show ¬ (false = true) by decide)] at H; exact H
       clear H
       have H := H1
       clear H1
       have HC23 := Aside0.mk H
       clear H
       go_upto_region 7 with (fail)
       go_cut [45] (fun v45 wc => ∃ (kq : Nat) (x45_22 : Bool), v45 = .bool x45_22 ∧ Aside0 (tabardlaw11_RowLeast.j1 kq l0 l1 t128 t138 x45_22 = some r) ∧ Aside0 (kq ≤ kj8) ∧ Aside0 (Kd.R k31 31 wc w.heap.size (fun k_ => some k_ ≠ (v140 : Value).ownBlock) v130 t128) ∧ Aside0 (Kd.R k31 31 wc w.heap.size (fun k_ => some k_ ≠ (v130 : Value).ownBlock) v140 t138) ∧ Aside0 (Below w.heap.size w wc))
       case first =>
        have H := HC23.out
        clear HC23
        by_cases c24 : (l0.length : Int) = (l1.length : Int)
        ·rw [if_pos c24] at H
         have c24b0 : ((l0.length : Int) == (l1.length : Int)) = true := beq_iff_eq.mpr c24
         have c24b1 : ((l0.length : Int) != (l1.length : Int)) = false := bne_eq_false_iff_eq.mpr c24
         have c24b2 : (l0.length == l1.length) = true := by first | simpa using c24 | (simp at c24 ⊢; omega)
         clear c24
         (first | rw [c24b0] | (simp only [i64_w, i32_w]; rw [c24b0]) | skip)
         have H' := Aside0.mk H
         clear H
         go_wp2
         go_meet
         case rel => exact ⟨_, (decide ((l0.length : Int) > 32)), (by first | rfl | (simp; done) | (simp [*]; done)), H', ⟨by have := HJ8.out; first | omega | exact Nat.le_refl _⟩, ⟨rO HO_5.out⟩, ⟨rO HO_7.out⟩, ⟨bO HB.out⟩⟩
        ·rw [if_neg c24] at H
         have c24b0 : ((l0.length : Int) == (l1.length : Int)) = false := beq_eq_false_iff_ne.mpr c24
         have c24b1 : ((l0.length : Int) != (l1.length : Int)) = true := bne_iff_ne.mpr c24
         have c24b2 : (l0.length == l1.length) = false := by first | simpa using c24 | (simp at c24 ⊢; omega)
         (first | rw [c24b0] | (simp only [i64_w, i32_w]; rw [c24b0]) | skip)
         have H' := Aside0.mk H
         clear H
         go_wp2
         go_meet
         case rel => exact ⟨_, (true), (by first | rfl | (simp; done) | (simp [*]; done)), H', ⟨by have := HJ8.out; first | omega | exact Nat.le_refl _⟩, ⟨rO HO_5.out⟩, ⟨rO HO_7.out⟩, ⟨bO HB.out⟩⟩
       case rest =>
        clear HC23
        try clear c1
        try clear c2
        try clear p2
        try clear c3
        try clear c4
        try clear c5
        try clear c7
        try clear c8
        try clear c9
        try clear c21
        try clear c21b0
        try clear c21b1
        try clear c22
        try clear c24
        try clear c24b0
        try clear c24b1
        try clear c24b2
        try clear p2
        obtain ⟨kq, x45_22, rfl, HA, HJ22, HO_5, HO_7, HB⟩ := hcut
        cases kq with
        | zero => exact absurd HA.out (by simp [tabardlaw11_RowLeast.j1])
        | succ kj22 =>
         have H := HA.out
         clear HA
         simp only [tabardlaw11_RowLeast.j1] at H
         by_cases c25 : x45_22 = true
         ·subst c25
          have H1 : (some true) = some r := by rw [if_pos rfl] at H; exact H
          clear H
          have H := H1
          clear H1
          obtain rfl := Option.some.inj H
          go_wp2
          go_ret
          exact ⟨by first | rfl | (simp [errW_none, errW_some] <;> rfl) | (simp [*, errW_none, errW_some] <;> rfl), bO HB.out⟩
         ·replace c25 := Bool.eq_false_iff.mpr c25
          subst c25
          have H1 : ((tabardlaw11_cubes.f kj22 t128 t138).bind fun t142 => ((tabardlaw11_ints.f kj22 l0 l1).bind fun t143 => (if (t142 != t143) = true then (some false) else ((some (([] : List Int) : List Int)).bind fun y144 => (if y144.length + l0.length < 17592186044416 then ((some (y144 ++ l0 : List Int)).bind fun y147 => (if y147.length + l1.length < 17592186044416 then ((row_Pack.f kj22 (y147 ++ l1)).bind fun bt153 => (if bt153.2 = 0 then ((tabardlaw11_ints.f kj22 l0 l1).bind fun t143 => (if t143 = true then ((tabardlaw11_cubes.f kj22 bt153.1 t128).bind fun t158 => (some t158)) else (if (bt153.1.length : Int) = (wrap64 ((t128.length : Int) + (t138.length : Int))) then (tabardlaw11_RowLeast.l0 kj22 l0 t128 t138 bt153.1 (bt153.1.length : Int) 0) else (some false)))) else (some false))) else (none))) else (none)))))) = some r := by rw [if_neg (show ¬ (false = true) by decide)] at H; exact H
          clear H
          have H := H1
          clear H1
          replace H := Option.bind_eq_some_iff.mp H
          obtain ⟨t142, A260, H⟩ := H
          replace H : ((tabardlaw11_ints.f kj22 l0 l1).bind fun t143 => (if (t142 != t143) = true then (some false) else ((some (([] : List Int) : List Int)).bind fun y144 => (if y144.length + l0.length < 17592186044416 then ((some (y144 ++ l0 : List Int)).bind fun y147 => (if y147.length + l1.length < 17592186044416 then ((row_Pack.f kj22 (y147 ++ l1)).bind fun bt153 => (if bt153.2 = 0 then ((tabardlaw11_ints.f kj22 l0 l1).bind fun t143 => (if t143 = true then ((tabardlaw11_cubes.f kj22 bt153.1 t128).bind fun t158 => (some t158)) else (if (bt153.1.length : Int) = (wrap64 ((t128.length : Int) + (t138.length : Int))) then (tabardlaw11_RowLeast.l0 kj22 l0 t128 t138 bt153.1 (bt153.1.length : Int) 0) else (some false)))) else (some false))) else (none))) else (none))))) = some r := H
          have A26 := Aside0.mk A260
          clear A260
          replace H := Option.bind_eq_some_iff.mp H
          obtain ⟨t143, A270, H⟩ := H
          replace H : (if (t142 != t143) = true then (some false) else ((some (([] : List Int) : List Int)).bind fun y144 => (if y144.length + l0.length < 17592186044416 then ((some (y144 ++ l0 : List Int)).bind fun y147 => (if y147.length + l1.length < 17592186044416 then ((row_Pack.f kj22 (y147 ++ l1)).bind fun bt153 => (if bt153.2 = 0 then ((tabardlaw11_ints.f kj22 l0 l1).bind fun t143 => (if t143 = true then ((tabardlaw11_cubes.f kj22 bt153.1 t128).bind fun t158 => (some t158)) else (if (bt153.1.length : Int) = (wrap64 ((t128.length : Int) + (t138.length : Int))) then (tabardlaw11_RowLeast.l0 kj22 l0 t128 t138 bt153.1 (bt153.1.length : Int) 0) else (some false)))) else (some false))) else (none))) else (none)))) = some r := H
          have A27 := Aside0.mk A270
          clear A270
          by_cases c28 : (t142 != t143) = true
          ·rw [if_pos c28] at H
           have c28b0 : (t142 != t143) = true := c28
           (try (have c28b1 : decide (t142 = t143) = false := by simpa using c28))
           (try (have c28b2 : (t142 == t143) = false := by simpa using c28))
           (try (have c28b3 : ¬ (t142 = t143) := by simpa using c28))
           clear c28
           obtain rfl := Option.some.inj H
           obtain ⟨Ao29, co29, eo29⟩ := Kd.R_slice HO_5.out
           subst eo29
           obtain ⟨Ao30, co30, eo30⟩ := Kd.R_slice HO_7.out
           subst eo30
           go_wp2_with (first | ((with_reducible refine gate_callee (f := 10) rfl ?_); refine goesL_ (some 48) rfl rfl Try.func10 (by kernel_rfl) rfl #[.slice Ao29 t128.length co29, .slice Ao30 t138.length co30] rfl mO ?_; (with_reducible refine (tabardlaw11_cubes.calls kj22 _ _ t128 _ _ t138 t142 _ ?side1 ?side2 ?side3 ?side4 A26.out).mono ?_); (case side1 => exact cO (Kd.R_reads' HO_5.out).2.2); (case side2 => exact (Kd.R_reads' HO_5.out).2.1); (case side3 => exact cO (Kd.R_reads' HO_7.out).2.2); (case side4 => exact (Kd.R_reads' HO_7.out).2.1); rintro e w' ⟨rfl, ⟨nd, rfl⟩⟩; refine ⟨_, rfl, ?_⟩) | ((with_reducible refine gate_callee (f := 11) rfl ?_); refine goesL_ (some 51) rfl rfl Try.func11 (by kernel_rfl) rfl #[.slice A0 l0.length c0, .slice A1 l1.length c1] rfl mO ?_; (with_reducible refine (tabardlaw11_ints.calls kj22 _ _ l0 _ _ l1 t143 _ ?side1 ?side2 ?side3 ?side4 A27.out).mono ?_); (case side1 => repeat (first | exact (Kd.C_below HR0.out (bO HB.out)) | (with_reducible refine Kd.C_alloc ?_ _) | (with_reducible refine Kd.C_drewN ?_ _) | (with_reducible refine Kd.C_drew ?_))); (case side2 => exact HC0.out); (case side3 => repeat (first | exact (Kd.C_below HR1.out (bO HB.out)) | (with_reducible refine Kd.C_alloc ?_ _) | (with_reducible refine Kd.C_drewN ?_ _) | (with_reducible refine Kd.C_drew ?_))); (case side4 => exact HC1.out); rintro e w' ⟨rfl, ⟨nd, rfl⟩⟩; refine ⟨_, rfl, ?_⟩))
           go_ret
           exact ⟨by first | rfl | (simp [errW_none, errW_some] <;> rfl) | (simp [*, errW_none, errW_some] <;> rfl), bO HB.out⟩
          ·rw [if_neg c28] at H
           have c28b0 : (t142 != t143) = false := by simpa using c28
           (try (have c28b1 : decide (t142 = t143) = true := by simpa using c28))
           (try (have c28b2 : (t142 == t143) = true := by simpa using c28))
           clear c28
           obtain ⟨y144, hy144⟩ : ∃ y_ : List Int, y_ = (([] : List Int)) := ⟨_, rfl⟩
           replace H : (if y144.length + l0.length < 17592186044416 then ((some (y144 ++ l0 : List Int)).bind fun y147 => (if y147.length + l1.length < 17592186044416 then ((row_Pack.f kj22 (y147 ++ l1)).bind fun bt153 => (if bt153.2 = 0 then ((tabardlaw11_ints.f kj22 l0 l1).bind fun t143 => (if t143 = true then ((tabardlaw11_cubes.f kj22 bt153.1 t128).bind fun t158 => (some t158)) else (if (bt153.1.length : Int) = (wrap64 ((t128.length : Int) + (t138.length : Int))) then (tabardlaw11_RowLeast.l0 kj22 l0 t128 t138 bt153.1 (bt153.1.length : Int) 0) else (some false)))) else (some false))) else (none))) else (none)) = some r := by first | (rw [hy144]; with_reducible exact H) | (have H2_ := (Option.bind_some _ _).symm.trans H; rw [hy144]; with_reducible exact H2_) | (have H2_ := (Option.bind_some _ _).symm.trans H; with_reducible exact H2_) | with_reducible exact H | (rw [hy144]; exact H) | exact H
           have Ny144 := Aside0.mk hy144
           clear hy144
           by_cases c31 : y144.length + l0.length < 17592186044416
           ·rw [if_pos c31] at H
            have LMc31 := Aside0.mk c31
            clear c31
            obtain ⟨y147, hy147⟩ : ∃ y_ : List Int, y_ = (y144 ++ l0) := ⟨_, rfl⟩
            replace H : (if y147.length + l1.length < 17592186044416 then ((row_Pack.f kj22 (y147 ++ l1)).bind fun bt153 => (if bt153.2 = 0 then ((tabardlaw11_ints.f kj22 l0 l1).bind fun t143 => (if t143 = true then ((tabardlaw11_cubes.f kj22 bt153.1 t128).bind fun t158 => (some t158)) else (if (bt153.1.length : Int) = (wrap64 ((t128.length : Int) + (t138.length : Int))) then (tabardlaw11_RowLeast.l0 kj22 l0 t128 t138 bt153.1 (bt153.1.length : Int) 0) else (some false)))) else (some false))) else (none)) = some r := by first | (rw [hy147]; with_reducible exact H) | (have H2_ := (Option.bind_some _ _).symm.trans H; rw [hy147]; with_reducible exact H2_) | (have H2_ := (Option.bind_some _ _).symm.trans H; with_reducible exact H2_) | with_reducible exact H | (rw [hy147]; exact H) | exact H
            have Ny147 := Aside0.mk hy147
            clear hy147
            by_cases c32 : y147.length + l1.length < 17592186044416
            ·rw [if_pos c32] at H
             have LMc32 := Aside0.mk c32
             clear c32
             obtain ⟨y150, hy150⟩ : ∃ y_ : List Int, y_ = (y147 ++ l1) := ⟨_, rfl⟩
             replace H : ((row_Pack.f kj22 y150).bind fun bt153 => (if bt153.2 = 0 then ((tabardlaw11_ints.f kj22 l0 l1).bind fun t143 => (if t143 = true then ((tabardlaw11_cubes.f kj22 bt153.1 t128).bind fun t158 => (some t158)) else (if (bt153.1.length : Int) = (wrap64 ((t128.length : Int) + (t138.length : Int))) then (tabardlaw11_RowLeast.l0 kj22 l0 t128 t138 bt153.1 (bt153.1.length : Int) 0) else (some false)))) else (some false))) = some r := by first | (rw [hy150]; with_reducible exact H) | (have H2_ := (Option.bind_some _ _).symm.trans H; rw [hy150]; with_reducible exact H2_) | (have H2_ := (Option.bind_some _ _).symm.trans H; with_reducible exact H2_) | with_reducible exact H | (rw [hy150]; exact H) | exact H
             have Ny150 := Aside0.mk hy150
             clear hy150
             replace H := Option.bind_eq_some_iff.mp H
             obtain ⟨⟨t153, t154⟩, A330, H⟩ := H
             replace H : (if t154 = 0 then ((tabardlaw11_ints.f kj22 l0 l1).bind fun t143 => (if t143 = true then ((tabardlaw11_cubes.f kj22 t153 t128).bind fun t158 => (some t158)) else (if (t153.length : Int) = (wrap64 ((t128.length : Int) + (t138.length : Int))) then (tabardlaw11_RowLeast.l0 kj22 l0 t128 t138 t153 (t153.length : Int) 0) else (some false)))) else (some false)) = some r := H
             have A33 := Aside0.mk A330
             clear A330
             by_cases c34 : t154 = 0
             ·rw [if_pos c34] at H
              have c34b0 : (t154 == 0) = true := beq_iff_eq.mpr c34
              have c34b1 : (t154 != 0) = false := bne_eq_false_iff_eq.mpr c34
              clear c34
              replace H := Option.bind_eq_some_iff.mp H
              obtain ⟨t143z, A350, H⟩ := H
              have hEA35 := Option.some.inj (A27.out.symm.trans A350)
              subst hEA35
              replace H : (if t143 = true then ((tabardlaw11_cubes.f kj22 t153 t128).bind fun t158 => (some t158)) else (if (t153.length : Int) = (wrap64 ((t128.length : Int) + (t138.length : Int))) then (tabardlaw11_RowLeast.l0 kj22 l0 t128 t138 t153 (t153.length : Int) 0) else (some false))) = some r := H
              have A35 := Aside0.mk A350
              clear A350
              by_cases c36 : t143 = true
              ·subst c36
               have H1 : ((tabardlaw11_cubes.f kj22 t153 t128).bind fun t158 => (some t158)) = some r := by rw [if_pos rfl] at H; exact H
               clear H
               have H := H1
               clear H1
               replace H := Option.bind_eq_some_iff.mp H
               obtain ⟨t158, A370, H⟩ := H
               replace H : (some t158) = some r := H
               have A37 := Aside0.mk A370
               clear A370
               obtain rfl := Option.some.inj H
               obtain ⟨Ao38, co38, eo38⟩ := Kd.R_slice HO_5.out
               subst eo38
               obtain ⟨Ao39, co39, eo39⟩ := Kd.R_slice HO_7.out
               subst eo39
               go_wp2_with (first | ((with_reducible refine gate_callee (f := 10) rfl ?_); refine goesL_ (some 48) rfl rfl Try.func10 (by kernel_rfl) rfl #[.slice Ao38 t128.length co38, .slice Ao39 t138.length co39] rfl mO ?_; (with_reducible refine (tabardlaw11_cubes.calls kj22 _ _ t128 _ _ t138 t142 _ ?side1 ?side2 ?side3 ?side4 A26.out).mono ?_); (case side1 => exact cO (Kd.R_reads' HO_5.out).2.2); (case side2 => exact (Kd.R_reads' HO_5.out).2.1); (case side3 => exact cO (Kd.R_reads' HO_7.out).2.2); (case side4 => exact (Kd.R_reads' HO_7.out).2.1); rintro e w' ⟨rfl, ⟨nd, rfl⟩⟩; refine ⟨_, rfl, ?_⟩) | ((with_reducible refine gate_callee (f := 11) rfl ?_); refine goesL_ (some 51) rfl rfl Try.func11 (by kernel_rfl) rfl #[.slice A0 l0.length c0, .slice A1 l1.length c1] rfl mO ?_; (with_reducible refine (tabardlaw11_ints.calls kj22 _ _ l0 _ _ l1 true _ ?side1 ?side2 ?side3 ?side4 A27.out).mono ?_); (case side1 => repeat (first | exact (Kd.C_below HR0.out (bO HB.out)) | (with_reducible refine Kd.C_alloc ?_ _) | (with_reducible refine Kd.C_drewN ?_ _) | (with_reducible refine Kd.C_drew ?_))); (case side2 => exact HC0.out); (case side3 => repeat (first | exact (Kd.C_below HR1.out (bO HB.out)) | (with_reducible refine Kd.C_alloc ?_ _) | (with_reducible refine Kd.C_drewN ?_ _) | (with_reducible refine Kd.C_drew ?_))); (case side4 => exact HC1.out); rintro e w' ⟨rfl, ⟨nd, rfl⟩⟩; refine ⟨_, rfl, ?_⟩) | ((with_reducible refine gate_dst (N := 54) rfl ?_); (try (refine gate_guard (by rfl) ?_; dsimp only)); refine Kd.R_lit (Kd.int .i64) _ 3 ?hg (N := 54) ?hd (xs := ([] : List Int)) (inner := []) (ok := fun _ => True) (okp := fun _ => True) ?hr ?hp (fun _ hk => hk) trivial (Below.refl _ _) (Nat.le_refl _) (by simp) ?_; (case hd => rfl); (case hg => rfl); (case hr => first | (go_simp; done) | (go_simp; rfl)); (case hp => exact (Reps.none _ _)); intro v145 w40 ho41 hb hg_ hnew_; clear hg_ hnew_; (first | rw [← Ny144.out] at ho41 | (simp only [Int.reduceToNat] at ho41; rw [← Ny144.out] at ho41)); have n0_ := Aside0.mk (Kd.R_below (rO HO_5.out) hb); have n1_ := Aside0.mk (Kd.R_below (rO HO_7.out) hb); have n2_ := Aside0.mk (Kd.R_lower ho41 (below_size (bO HB.out))); have n3_ := Aside0.mk (below_step (bO HB.out) hb); clear HO_5; clear HO_7; clear HB; have HO_5 := n0_; have HO_7 := n1_; have HO146 := n2_; have HB := n3_; clear n0_ n1_ n2_ n3_; clear hb ho41) | ((with_reducible refine gate_builtin (b := .append) (xs := #[.tmp 54, .tmp 55]) rfl ?_); (try (refine gate_guard (by rfl) ?_; dsimp only)); at_builtin; refine Kd.R_append_rows (Kd.int .i64) (w0 := w) w.heap.size rfl (.tmp 54) (.tmp 55) 22 3 (.int .i64 0) 8 rfl Try.underlying22 info3 rfl (by decide) (by omega) v145 y144 l0 _ _ _ (fun _ => True) (fun _ => False) rfl rfl ?aO ?aR (fun _ _ h => h) (fun _ h => h.elim) ?aF ?aB ?aS ?aL ?_; (case aR => exact cO (Kd.C_below HR0.out HB.out)); (case aB => exact (bO HB.out)); (case aF => exact (fun _ _ => trivial)); (case aO => exact (rO HO146.out)); (case aS => exact (below_size (bO HB.out))); (case aL => have := LMc31.out; omega); intro v148 w42 ho hb hg hat; rw [← Ny147.out] at ho; have n0_ := Aside0.mk (Kd.R_over' (rO HO_5.out) (Kd.R_typed (rO HO146.out)) (by decide) hg); have n1_ := Aside0.mk (Kd.R_over' (rO HO_7.out) (Kd.R_typed (rO HO146.out)) (by decide) hg); have n2_ := Aside0.mk (hb); have n3_ := Aside0.mk (ho); clear HO_5; clear HO_7; clear HB; clear HO146; have HO_5 := n0_; have HO_7 := n1_; have HB := n2_; have HO149 := n3_; clear n0_ n1_ n2_ n3_; clear ho hb hg hat) | ((with_reducible refine gate_builtin (b := .append) (xs := #[.tmp 56, .tmp 57]) rfl ?_); (try (refine gate_guard (by rfl) ?_; dsimp only)); at_builtin; refine Kd.R_append_rows (Kd.int .i64) (w0 := w) w.heap.size rfl (.tmp 56) (.tmp 57) 22 3 (.int .i64 0) 8 rfl Try.underlying22 info3 rfl (by decide) (by omega) v148 y147 l1 _ _ _ (fun _ => True) (fun _ => False) rfl rfl ?aO ?aR (fun _ _ h => h) (fun _ h => h.elim) ?aF ?aB ?aS ?aL ?_; (case aR => exact cO (Kd.C_below HR1.out HB.out)); (case aB => exact (bO HB.out)); (case aF => exact (fun _ _ => trivial)); (case aO => exact (rO HO149.out)); (case aS => exact (below_size (bO HB.out))); (case aL => have := LMc32.out; omega); intro v151 w43 ho hb hg hat; rw [← Ny150.out] at ho; have n0_ := Aside0.mk (Kd.R_over' (rO HO_5.out) (Kd.R_typed (rO HO149.out)) (by decide) hg); have n1_ := Aside0.mk (Kd.R_over' (rO HO_7.out) (Kd.R_typed (rO HO149.out)) (by decide) hg); have n2_ := Aside0.mk (hb); have n3_ := Aside0.mk (ho); clear HO_5; clear HO_7; clear HB; clear HO149; have HO_5 := n0_; have HO_7 := n1_; have HB := n2_; have HO152 := n3_; clear n0_ n1_ n2_ n3_; clear ho hb hg hat; obtain ⟨Ao44, co44, eo44⟩ := Kd.R_slice HO152.out; subst eo44) | ((with_reducible refine gate_callee (f := 9) rfl ?_); refine goesL_ (some 59) rfl rfl Try.func9 (by kernel_rfl) rfl #[.slice Ao44 y150.length co44] rfl mO ?_; (with_reducible refine (row_Pack.calls kj22 _ _ y150 t153 t154 _ ?side1 ?side2 A33.out).mono ?_); (case side1 => exact cO (Kd.R_reads' HO152.out).2.2); (case side2 => exact (Kd.R_reads' HO152.out).2.1); rintro e w45 ⟨v155, rfl, ho0, hb⟩; refine ⟨_, rfl, ?_⟩; have n0_ := Aside0.mk (Kd.R_elder' (rO HO_5.out) (Kd.R_base ho0) hb); have n1_ := Aside0.mk (Kd.R_elder' (rO HO_7.out) (Kd.R_base ho0) hb); have n2_ := Aside0.mk (Kd.R_below (rO HO152.out) hb); have n3_ := Aside0.mk (Kd.R_lower (Kd.R_new' (Kd.R_new' ho0 (Kd.R_lt (rO HO_5.out))) (Kd.R_lt (rO HO_7.out))) (below_size (bO HB.out))); have n4_ := Aside0.mk (below_step (bO HB.out) hb); clear HO_5; clear HO_7; clear HO152; clear HB; have HO_5 := n0_; have HO_7 := n1_; have HO152 := n2_; have HO156 := n3_; have HB := n4_; clear n0_ n1_ n2_ n3_ n4_; (try clear hb); (try clear hb2); (try clear hk); (try clear hi); (try clear ho0)) | ((with_reducible refine gate_callee (f := 11) rfl ?_); refine goesL_ (some 66) rfl rfl Try.func11 (by kernel_rfl) rfl #[.slice A0 l0.length c0, .slice A1 l1.length c1] rfl mO ?_; (with_reducible refine (tabardlaw11_ints.calls kj22 _ _ l0 _ _ l1 true _ ?side1 ?side2 ?side3 ?side4 A35.out).mono ?_); (case side1 => exact cO (Kd.C_below HR0.out HB.out)); (case side2 => exact HC0.out); (case side3 => exact cO (Kd.C_below HR1.out HB.out)); (case side4 => exact HC1.out); rintro e w' ⟨rfl, ⟨nd, rfl⟩⟩; refine ⟨_, rfl, ?_⟩; obtain ⟨Ao46, co46, eo46⟩ := Kd.R_slice HO156.out; subst eo46) | ((with_reducible refine gate_callee (f := 10) rfl ?_); refine goesL_ (some 69) rfl rfl Try.func10 (by kernel_rfl) rfl #[.slice Ao46 t153.length co46, .slice Ao38 t128.length co38] rfl mO ?_; (with_reducible refine (tabardlaw11_cubes.calls kj22 _ _ t153 _ _ t128 t158 _ ?side1 ?side2 ?side3 ?side4 A37.out).mono ?_); (case side1 => exact cO (Kd.R_reads' HO156.out).2.2); (case side2 => exact (Kd.R_reads' HO156.out).2.1); (case side3 => exact cO (Kd.R_reads' HO_5.out).2.2); (case side4 => exact (Kd.R_reads' HO_5.out).2.1); rintro e w' ⟨rfl, ⟨nd, rfl⟩⟩; refine ⟨_, rfl, ?_⟩))
               go_ret
               exact ⟨by first | rfl | (simp [errW_none, errW_some] <;> rfl) | (simp [*, errW_none, errW_some] <;> rfl), bO HB.out⟩
              ·replace c36 := Bool.eq_false_iff.mpr c36
               subst c36
               have H1 : (if (t153.length : Int) = (wrap64 ((t128.length : Int) + (t138.length : Int))) then (tabardlaw11_RowLeast.l0 kj22 l0 t128 t138 t153 (t153.length : Int) 0) else (some false)) = some r := by rw [if_neg (show ¬ (false = true) by decide)] at H; exact H
               clear H
               have H := H1
               clear H1
               by_cases c47 : (t153.length : Int) = (wrap64 ((t128.length : Int) + (t138.length : Int)))
               ·rw [if_pos c47] at H
                have c47b0 : ((t153.length : Int) == (wrap64 ((t128.length : Int) + (t138.length : Int)))) = true := beq_iff_eq.mpr c47
                have c47b1 : ((t153.length : Int) != (wrap64 ((t128.length : Int) + (t138.length : Int)))) = false := bne_eq_false_iff_eq.mpr c47
                clear c47
                have H' := Aside0.mk H
                clear H
                obtain ⟨Ao48, co48, eo48⟩ := Kd.R_slice HO_5.out
                subst eo48
                obtain ⟨Ao49, co49, eo49⟩ := Kd.R_slice HO_7.out
                subst eo49
                go_wp2_with (first | ((with_reducible refine gate_callee (f := 10) rfl ?_); refine goesL_ (some 48) rfl rfl Try.func10 (by kernel_rfl) rfl #[.slice Ao48 t128.length co48, .slice Ao49 t138.length co49] rfl mO ?_; (with_reducible refine (tabardlaw11_cubes.calls kj22 _ _ t128 _ _ t138 t142 _ ?side1 ?side2 ?side3 ?side4 A26.out).mono ?_); (case side1 => exact cO (Kd.R_reads' HO_5.out).2.2); (case side2 => exact (Kd.R_reads' HO_5.out).2.1); (case side3 => exact cO (Kd.R_reads' HO_7.out).2.2); (case side4 => exact (Kd.R_reads' HO_7.out).2.1); rintro e w' ⟨rfl, ⟨nd, rfl⟩⟩; refine ⟨_, rfl, ?_⟩) | ((with_reducible refine gate_callee (f := 11) rfl ?_); refine goesL_ (some 51) rfl rfl Try.func11 (by kernel_rfl) rfl #[.slice A0 l0.length c0, .slice A1 l1.length c1] rfl mO ?_; (with_reducible refine (tabardlaw11_ints.calls kj22 _ _ l0 _ _ l1 false _ ?side1 ?side2 ?side3 ?side4 A27.out).mono ?_); (case side1 => repeat (first | exact (Kd.C_below HR0.out (bO HB.out)) | (with_reducible refine Kd.C_alloc ?_ _) | (with_reducible refine Kd.C_drewN ?_ _) | (with_reducible refine Kd.C_drew ?_))); (case side2 => exact HC0.out); (case side3 => repeat (first | exact (Kd.C_below HR1.out (bO HB.out)) | (with_reducible refine Kd.C_alloc ?_ _) | (with_reducible refine Kd.C_drewN ?_ _) | (with_reducible refine Kd.C_drew ?_))); (case side4 => exact HC1.out); rintro e w' ⟨rfl, ⟨nd, rfl⟩⟩; refine ⟨_, rfl, ?_⟩) | ((with_reducible refine gate_dst (N := 54) rfl ?_); (try (refine gate_guard (by rfl) ?_; dsimp only)); refine Kd.R_lit (Kd.int .i64) _ 3 ?hg (N := 54) ?hd (xs := ([] : List Int)) (inner := []) (ok := fun _ => True) (okp := fun _ => True) ?hr ?hp (fun _ hk => hk) trivial (Below.refl _ _) (Nat.le_refl _) (by simp) ?_; (case hd => rfl); (case hg => rfl); (case hr => first | (go_simp; done) | (go_simp; rfl)); (case hp => exact (Reps.none _ _)); intro v145 w50 ho51 hb hg_ hnew_; clear hg_ hnew_; (first | rw [← Ny144.out] at ho51 | (simp only [Int.reduceToNat] at ho51; rw [← Ny144.out] at ho51)); have n0_ := Aside0.mk (Kd.R_below (rO HO_5.out) hb); have n1_ := Aside0.mk (Kd.R_below (rO HO_7.out) hb); have n2_ := Aside0.mk (Kd.R_lower ho51 (below_size (bO HB.out))); have n3_ := Aside0.mk (below_step (bO HB.out) hb); clear HO_5; clear HO_7; clear HB; have HO_5 := n0_; have HO_7 := n1_; have HO146 := n2_; have HB := n3_; clear n0_ n1_ n2_ n3_; clear hb ho51) | ((with_reducible refine gate_builtin (b := .append) (xs := #[.tmp 54, .tmp 55]) rfl ?_); (try (refine gate_guard (by rfl) ?_; dsimp only)); at_builtin; refine Kd.R_append_rows (Kd.int .i64) (w0 := w) w.heap.size rfl (.tmp 54) (.tmp 55) 22 3 (.int .i64 0) 8 rfl Try.underlying22 info3 rfl (by decide) (by omega) v145 y144 l0 _ _ _ (fun _ => True) (fun _ => False) rfl rfl ?aO ?aR (fun _ _ h => h) (fun _ h => h.elim) ?aF ?aB ?aS ?aL ?_; (case aR => exact cO (Kd.C_below HR0.out HB.out)); (case aB => exact (bO HB.out)); (case aF => exact (fun _ _ => trivial)); (case aO => exact (rO HO146.out)); (case aS => exact (below_size (bO HB.out))); (case aL => have := LMc31.out; omega); intro v148 w52 ho hb hg hat; rw [← Ny147.out] at ho; have n0_ := Aside0.mk (Kd.R_over' (rO HO_5.out) (Kd.R_typed (rO HO146.out)) (by decide) hg); have n1_ := Aside0.mk (Kd.R_over' (rO HO_7.out) (Kd.R_typed (rO HO146.out)) (by decide) hg); have n2_ := Aside0.mk (hb); have n3_ := Aside0.mk (ho); clear HO_5; clear HO_7; clear HB; clear HO146; have HO_5 := n0_; have HO_7 := n1_; have HB := n2_; have HO149 := n3_; clear n0_ n1_ n2_ n3_; clear ho hb hg hat) | ((with_reducible refine gate_builtin (b := .append) (xs := #[.tmp 56, .tmp 57]) rfl ?_); (try (refine gate_guard (by rfl) ?_; dsimp only)); at_builtin; refine Kd.R_append_rows (Kd.int .i64) (w0 := w) w.heap.size rfl (.tmp 56) (.tmp 57) 22 3 (.int .i64 0) 8 rfl Try.underlying22 info3 rfl (by decide) (by omega) v148 y147 l1 _ _ _ (fun _ => True) (fun _ => False) rfl rfl ?aO ?aR (fun _ _ h => h) (fun _ h => h.elim) ?aF ?aB ?aS ?aL ?_; (case aR => exact cO (Kd.C_below HR1.out HB.out)); (case aB => exact (bO HB.out)); (case aF => exact (fun _ _ => trivial)); (case aO => exact (rO HO149.out)); (case aS => exact (below_size (bO HB.out))); (case aL => have := LMc32.out; omega); intro v151 w53 ho hb hg hat; rw [← Ny150.out] at ho; have n0_ := Aside0.mk (Kd.R_over' (rO HO_5.out) (Kd.R_typed (rO HO149.out)) (by decide) hg); have n1_ := Aside0.mk (Kd.R_over' (rO HO_7.out) (Kd.R_typed (rO HO149.out)) (by decide) hg); have n2_ := Aside0.mk (hb); have n3_ := Aside0.mk (ho); clear HO_5; clear HO_7; clear HB; clear HO149; have HO_5 := n0_; have HO_7 := n1_; have HB := n2_; have HO152 := n3_; clear n0_ n1_ n2_ n3_; clear ho hb hg hat; obtain ⟨Ao54, co54, eo54⟩ := Kd.R_slice HO152.out; subst eo54) | ((with_reducible refine gate_callee (f := 9) rfl ?_); refine goesL_ (some 59) rfl rfl Try.func9 (by kernel_rfl) rfl #[.slice Ao54 y150.length co54] rfl mO ?_; (with_reducible refine (row_Pack.calls kj22 _ _ y150 t153 t154 _ ?side1 ?side2 A33.out).mono ?_); (case side1 => exact cO (Kd.R_reads' HO152.out).2.2); (case side2 => exact (Kd.R_reads' HO152.out).2.1); rintro e w55 ⟨v155, rfl, ho0, hb⟩; refine ⟨_, rfl, ?_⟩; have n0_ := Aside0.mk (Kd.R_elder' (rO HO_5.out) (Kd.R_base ho0) hb); have n1_ := Aside0.mk (Kd.R_elder' (rO HO_7.out) (Kd.R_base ho0) hb); have n2_ := Aside0.mk (Kd.R_below (rO HO152.out) hb); have n3_ := Aside0.mk (Kd.R_lower (Kd.R_new' (Kd.R_new' ho0 (Kd.R_lt (rO HO_5.out))) (Kd.R_lt (rO HO_7.out))) (below_size (bO HB.out))); have n4_ := Aside0.mk (below_step (bO HB.out) hb); clear HO_5; clear HO_7; clear HO152; clear HB; have HO_5 := n0_; have HO_7 := n1_; have HO152 := n2_; have HO156 := n3_; have HB := n4_; clear n0_ n1_ n2_ n3_ n4_; (try clear hb); (try clear hb2); (try clear hk); (try clear hi); (try clear ho0)) | ((with_reducible refine gate_callee (f := 11) rfl ?_); refine goesL_ (some 66) rfl rfl Try.func11 (by kernel_rfl) rfl #[.slice A0 l0.length c0, .slice A1 l1.length c1] rfl mO ?_; (with_reducible refine (tabardlaw11_ints.calls kj22 _ _ l0 _ _ l1 false _ ?side1 ?side2 ?side3 ?side4 A35.out).mono ?_); (case side1 => exact cO (Kd.C_below HR0.out HB.out)); (case side2 => exact HC0.out); (case side3 => exact cO (Kd.C_below HR1.out HB.out)); (case side4 => exact HC1.out); rintro e w' ⟨rfl, ⟨nd, rfl⟩⟩; refine ⟨_, rfl, ?_⟩; obtain ⟨Ao56, co56, eo56⟩ := Kd.R_slice HO156.out; subst eo56))
                go_loopg [80] kj22 (fun kq v80 w' => ∃ (x80_3 : Int), v80 = .int .i64 x80_3 ∧ Aside0 (tabardlaw11_RowLeast.l0 kq l0 t128 t138 t153 (t153.length : Int) x80_3 = some r) ∧ Aside0 (kq ≤ kj22) ∧ Aside0 (Kd.R k31 31 w' w.heap.size (fun k_ => some k_ ≠ ((.slice Ao49 t138.length co49) : Value).ownBlock ∧ some k_ ≠ ((.slice Ao56 t153.length co56) : Value).ownBlock) (.slice Ao48 t128.length co48) t128) ∧ Aside0 (Kd.R k31 31 w' w.heap.size (fun k_ => some k_ ≠ ((.slice Ao48 t128.length co48) : Value).ownBlock ∧ some k_ ≠ ((.slice Ao56 t153.length co56) : Value).ownBlock) (.slice Ao49 t138.length co49) t138) ∧ Aside0 (Kd.R k31 31 w' w.heap.size (fun k_ => some k_ ≠ ((.slice Ao48 t128.length co48) : Value).ownBlock ∧ some k_ ≠ ((.slice Ao49 t138.length co49) : Value).ownBlock) (.slice Ao56 t153.length co56) t153) ∧ Aside0 (Below w.heap.size w w'))
                case atStart => exact ⟨(0), (by first | rfl | (simp; done) | (simp [*]; done)), H', ⟨Nat.le_refl _⟩, ⟨rO HO_5.out⟩, ⟨rO HO_7.out⟩, ⟨by (with_reducible repeat (first | apply Kd.R_alloc | apply Kd.R_drewN | apply Kd.R_drew)); exact Kd.R_mono HO156.out (fun _ hk => ⟨hk.1.2, hk.2⟩)⟩, ⟨bO HB.out⟩⟩
                case round =>
                 clear H'
                 try clear c1
                 try clear c2
                 try clear p2
                 try clear c3
                 try clear c4
                 try clear c5
                 try clear p6
                 try clear c7
                 try clear c8
                 try clear c9
                 try clear c10
                 try clear c11
                 try clear c21
                 try clear c21b0
                 try clear c21b1
                 try clear c22
                 try clear c24
                 try clear c24b0
                 try clear c24b1
                 try clear c24b2
                 try clear c25
                 try clear c28
                 try clear c28b0
                 try clear c28b1
                 try clear c28b2
                 try clear c31
                 try clear c32
                 try clear c34
                 try clear c34b0
                 try clear c34b1
                 try clear c36
                 try clear c47
                 try clear c47b0
                 try clear c47b1
                 try clear p2
                 obtain ⟨x80_3, rfl, HA, HK3, HO_5, HO_7, HO_78, HB⟩ := hrel
                 cases gk with
                 | zero => exact absurd HA.out (by simp [tabardlaw11_RowLeast.l0])
                 | succ k3 =>
                  have H := HA.out
                  clear HA
                  simp only [tabardlaw11_RowLeast.l0] at H
                  by_cases c57 : x80_3 < (t153.length : Int)
                  ·rw [if_pos c57] at H
                   have c57b0 : decide (x80_3 < (t153.length : Int)) = true := decide_eq_true c57
                   clear c57
                   by_cases c58 : 0 ≤ x80_3
                   ·rw [if_pos c58] at H
                    have c58b0 : decide (0 ≤ x80_3) = true := decide_eq_true c58
                    clear c58
                    by_cases c59 : x80_3 < (t153.length : Int)
                    ·rw [if_pos c59] at H
                     have c59b0 : decide (x80_3 < (t153.length : Int)) = true := decide_eq_true c59
                     clear c59
                     by_cases c60 : x80_3 < (t128.length : Int)
                     ·rw [if_pos c60] at H
                      have c60b0 : decide (x80_3 < (t128.length : Int)) = true := decide_eq_true c60
                      clear c60
                      by_cases c61 : (!(((rd_T31 t153 x80_3).f0) == (Go.bits .or .i64 ((rd_T31 t128 x80_3).f0) (l0.length : Int))) || (!(((rd_T31 t153 x80_3).f1) == ((rd_T31 t128 x80_3).f1)) || (!(((rd_T31 t153 x80_3).f2) == ((rd_T31 t128 x80_3).f2))))) = true
                      ·rw [if_pos c61] at H
                       have c61b0 : (!(((rd_T31 t153 x80_3).f0) == (Go.bits .or .i64 ((rd_T31 t128 x80_3).f0) (l0.length : Int))) || (!(((rd_T31 t153 x80_3).f1) == ((rd_T31 t128 x80_3).f1)) || (!(((rd_T31 t153 x80_3).f2) == ((rd_T31 t128 x80_3).f2))))) = true := c61
                       clear c61
                       obtain rfl := Option.some.inj H
                       have p159 : 0 ≤ (x80_3 : Int) := of_decide_eq_true aO
                       have q159 : x80_3 < (t153.length : Int) := of_decide_eq_true aO
                       obtain ⟨ad159, e159, hx159_0, hx159_1, hx159_2⟩ := at_T31 (Kd.R_reads' HO_78.out).2.2 x80_3 p159 q159
                       cases e159
                       replace p159 := eq_true p159
                       replace q159 := eq_true q159
                       try go_wp2_with (first | ((with_reducible refine gate_dst (N := 11) rfl ?_); (try (refine gate_guard (by rfl) ?_; dsimp only)); refine box_event ?hg (N := 11) ?hd (cs := #[.int .i64 0, .int .i64 0, .int .i64 0]) (t := 31) ?hr ?_; (case hd => rfl); (case hg => rfl); (case hr => first | (go_simp; done) | (go_simp; rfl)); intro gb160 hg w62 hbox hb; have n0_ := Aside0.mk (Kd.R_below (Kd.R_elderB (rO HO_5.out) gb160 (Nat.le_of_eq hg.symm)) hb); have n1_ := Aside0.mk (Kd.R_below (Kd.R_elderB (rO HO_7.out) gb160 (Nat.le_of_eq hg.symm)) hb); have n2_ := Aside0.mk (Kd.R_below (Kd.R_elderB (rO HO_78.out) gb160 (Nat.le_of_eq hg.symm)) hb); have n3_ := Aside0.mk (below_step (bO HB.out) hb); have n4_ := Aside0.mk (hbox); have n5_ := Aside0.mk ((by rw [hg]; exact (below_size (bO HB.out)) : w.heap.size ≤ gb160)); have n6_ := Aside0.mk ((by rw [hg]; exact (below_size (bO HB.out)) : w.heap.size ≤ gb160)); clear HO_5; clear HO_7; clear HO_78; clear HB; have HO_5 := n0_; have HO_7 := n1_; have HO_78 := n2_; have HB := n3_; have BK160 := n4_; have GW160 := n5_; have GE160 := n6_; clear n0_ n1_ n2_ n3_ n4_ n5_ n6_; (try have hxb159_0 := pw_cell_below hb hx159_0); (try have hxb159_1 := pw_cell_below hb hx159_1); (try have hxb159_2 := pw_cell_below hb hx159_2); clear hb hbox hg; have hcz63_0 : w62.cell? ⟨gb160, 0, none⟩ = some (.int .i64 0) := (blk_cell BK160.out 0).trans rfl; have hcz63_1 : w62.cell? ⟨gb160, 1, none⟩ = some (.int .i64 0) := (blk_cell BK160.out 1).trans rfl; have hcz63_2 : w62.cell? ⟨gb160, 2, none⟩ = some (.int .i64 0) := (blk_cell BK160.out 2).trans rfl; have hfz63_0 := blk_frozen BK160.out 0; have hfz63_1 := blk_frozen BK160.out 1; have hfz63_2 := blk_frozen BK160.out 2) | ((with_reducible refine gate_dst (N := 12) rfl ?_); (try (refine gate_guard (by rfl) ?_; dsimp only)); refine box_event ?hg (N := 12) ?hd (cs := #[.int .i64 0, .int .i64 0, .int .i64 0]) (t := 31) ?hr ?_; (case hd => rfl); (case hg => rfl); (case hr => first | (go_simp; done) | (go_simp; rfl)); intro gb161 hg w64 hbox hb; have n0_ := Aside0.mk (Kd.R_below (Kd.R_elderB (by (with_reducible repeat (first | apply Kd.R_alloc | apply Kd.R_drewN | apply Kd.R_drew)); exact (Kd.R_mono (Kd.R_far (p := ⟨gb160, 2, none⟩) (Kd.R_far (p := ⟨gb160, 1, none⟩) (Kd.R_far (p := ⟨gb160, 0, none⟩) (Kd.R_mono HO_5.out (fun k_ hk => (⟨hk, hk.2⟩ : _ ∧ k_ ≠ gb160))) (fun _ hk => hk.2) (.int .i64 ((rd_T31 t153 x80_3).f0))) (fun _ hk => hk.2) (.int .i64 ((rd_T31 t153 x80_3).f1))) (fun _ hk => hk.2) (.int .i64 ((rd_T31 t153 x80_3).f2))) (fun _ h_ => h_.1))) gb161 (Nat.le_of_eq hg.symm)) hb); have n1_ := Aside0.mk (Kd.R_below (Kd.R_elderB (by (with_reducible repeat (first | apply Kd.R_alloc | apply Kd.R_drewN | apply Kd.R_drew)); exact (Kd.R_mono (Kd.R_far (p := ⟨gb160, 2, none⟩) (Kd.R_far (p := ⟨gb160, 1, none⟩) (Kd.R_far (p := ⟨gb160, 0, none⟩) (Kd.R_mono HO_7.out (fun k_ hk => (⟨hk, hk.2⟩ : _ ∧ k_ ≠ gb160))) (fun _ hk => hk.2) (.int .i64 ((rd_T31 t153 x80_3).f0))) (fun _ hk => hk.2) (.int .i64 ((rd_T31 t153 x80_3).f1))) (fun _ hk => hk.2) (.int .i64 ((rd_T31 t153 x80_3).f2))) (fun _ h_ => h_.1))) gb161 (Nat.le_of_eq hg.symm)) hb); have n2_ := Aside0.mk (Kd.R_below (Kd.R_elderB (by (with_reducible repeat (first | apply Kd.R_alloc | apply Kd.R_drewN | apply Kd.R_drew)); exact (Kd.R_mono (Kd.R_far (p := ⟨gb160, 2, none⟩) (Kd.R_far (p := ⟨gb160, 1, none⟩) (Kd.R_far (p := ⟨gb160, 0, none⟩) (Kd.R_mono HO_78.out (fun k_ hk => (⟨hk, hk.2⟩ : _ ∧ k_ ≠ gb160))) (fun _ hk => hk.2) (.int .i64 ((rd_T31 t153 x80_3).f0))) (fun _ hk => hk.2) (.int .i64 ((rd_T31 t153 x80_3).f1))) (fun _ hk => hk.2) (.int .i64 ((rd_T31 t153 x80_3).f2))) (fun _ h_ => h_.1))) gb161 (Nat.le_of_eq hg.symm)) hb); have n3_ := Aside0.mk (blk_below (g := gb160) (o := .cells #[.int .i64 ((rd_T31 t153 x80_3).f0), .int .i64 ((rd_T31 t153 x80_3).f1), .int .i64 ((rd_T31 t153 x80_3).f2)] 31 (0, 0)) (by (with_reducible repeat (first | refine blk_drewN ?_ _ | refine blk_drew ?_ | refine blk_alloc ?_ _)); refine blk_put (cs := #[.int .i64 ((rd_T31 t153 x80_3).f0), .int .i64 ((rd_T31 t153 x80_3).f1), .int .i64 0]) ?_ 2 _ rfl; (with_reducible repeat (first | refine blk_drewN ?_ _ | refine blk_drew ?_ | refine blk_alloc ?_ _)); refine blk_put (cs := #[.int .i64 ((rd_T31 t153 x80_3).f0), .int .i64 0, .int .i64 0]) ?_ 1 _ rfl; (with_reducible repeat (first | refine blk_drewN ?_ _ | refine blk_drew ?_ | refine blk_alloc ?_ _)); refine blk_put (cs := #[.int .i64 0, .int .i64 0, .int .i64 0]) ?_ 0 _ rfl; (with_reducible repeat (first | refine blk_drewN ?_ _ | refine blk_drew ?_ | refine blk_alloc ?_ _)); exact BK160.out) hb); have n4_ := Aside0.mk (below_step (by repeat (first | (with_reducible first | exact HB.out | apply below_alloc | apply pw_below_drewN | apply below_drew1 | refine below_set ?_ GE160.out) | exact HB.out)) hb); have n5_ := Aside0.mk (hbox); have n6_ := Aside0.mk ((by rw [hg]; exact (below_size (by repeat (first | (with_reducible first | exact HB.out | apply below_alloc | apply pw_below_drewN | apply below_drew1 | refine below_set ?_ GE160.out) | exact HB.out))) : w.heap.size ≤ gb161)); have n7_ := Aside0.mk ((by rw [hg]; exact (below_size (by repeat (first | (with_reducible first | exact HB.out | apply below_alloc | apply pw_below_drewN | apply below_drew1 | refine below_set ?_ GE160.out) | exact HB.out))) : w.heap.size ≤ gb161)); have n8_ := Aside0.mk ((by rw [hg]; exact Nat.ne_of_lt (blk_lt (g := gb160) (o := .cells #[.int .i64 ((rd_T31 t153 x80_3).f0), .int .i64 ((rd_T31 t153 x80_3).f1), .int .i64 ((rd_T31 t153 x80_3).f2)] 31 (0, 0)) (by (with_reducible repeat (first | refine blk_drewN ?_ _ | refine blk_drew ?_ | refine blk_alloc ?_ _)); refine blk_put (cs := #[.int .i64 ((rd_T31 t153 x80_3).f0), .int .i64 ((rd_T31 t153 x80_3).f1), .int .i64 0]) ?_ 2 _ rfl; (with_reducible repeat (first | refine blk_drewN ?_ _ | refine blk_drew ?_ | refine blk_alloc ?_ _)); refine blk_put (cs := #[.int .i64 ((rd_T31 t153 x80_3).f0), .int .i64 0, .int .i64 0]) ?_ 1 _ rfl; (with_reducible repeat (first | refine blk_drewN ?_ _ | refine blk_drew ?_ | refine blk_alloc ?_ _)); refine blk_put (cs := #[.int .i64 0, .int .i64 0, .int .i64 0]) ?_ 0 _ rfl; (with_reducible repeat (first | refine blk_drewN ?_ _ | refine blk_drew ?_ | refine blk_alloc ?_ _)); exact BK160.out)) : gb160 ≠ gb161)); have n9_ := Aside0.mk ((by rw [hg]; exact Nat.ne_of_gt (blk_lt (g := gb160) (o := .cells #[.int .i64 ((rd_T31 t153 x80_3).f0), .int .i64 ((rd_T31 t153 x80_3).f1), .int .i64 ((rd_T31 t153 x80_3).f2)] 31 (0, 0)) (by (with_reducible repeat (first | refine blk_drewN ?_ _ | refine blk_drew ?_ | refine blk_alloc ?_ _)); refine blk_put (cs := #[.int .i64 ((rd_T31 t153 x80_3).f0), .int .i64 ((rd_T31 t153 x80_3).f1), .int .i64 0]) ?_ 2 _ rfl; (with_reducible repeat (first | refine blk_drewN ?_ _ | refine blk_drew ?_ | refine blk_alloc ?_ _)); refine blk_put (cs := #[.int .i64 ((rd_T31 t153 x80_3).f0), .int .i64 0, .int .i64 0]) ?_ 1 _ rfl; (with_reducible repeat (first | refine blk_drewN ?_ _ | refine blk_drew ?_ | refine blk_alloc ?_ _)); refine blk_put (cs := #[.int .i64 0, .int .i64 0, .int .i64 0]) ?_ 0 _ rfl; (with_reducible repeat (first | refine blk_drewN ?_ _ | refine blk_drew ?_ | refine blk_alloc ?_ _)); exact BK160.out)) : gb161 ≠ gb160)); clear HO_5; clear HO_7; clear HO_78; clear BK160; clear HB; have HO_5 := n0_; have HO_7 := n1_; have HO_78 := n2_; have BK160 := n3_; have HB := n4_; have BK161 := n5_; have GW161 := n6_; have GE161 := n7_; have NB160_161 := n8_; have NB161_160 := n9_; clear n0_ n1_ n2_ n3_ n4_ n5_ n6_ n7_ n8_ n9_; clear hb hbox hg; have hnb65 := NB161_160.out; have hnc65 := NB160_161.out; have hcz66_0 : w64.cell? ⟨gb161, 0, none⟩ = some (.int .i64 0) := (blk_cell BK161.out 0).trans rfl; have hcz66_1 : w64.cell? ⟨gb161, 1, none⟩ = some (.int .i64 0) := (blk_cell BK161.out 1).trans rfl; have hcz66_2 : w64.cell? ⟨gb161, 2, none⟩ = some (.int .i64 0) := (blk_cell BK161.out 2).trans rfl; have hfz66_0 := blk_frozen BK161.out 0; have hfz66_1 := blk_frozen BK161.out 1; have hfz66_2 := blk_frozen BK161.out 2))
                       have n0_ : Aside0 (Kd.R k31 31 (((w64.setCell ⟨gb161, 0, none⟩ (.int .i64 0)).setCell ⟨gb161, 1, none⟩ (.int .i64 0)).setCell ⟨gb161, 2, none⟩ (.int .i64 0)) w.heap.size (fun k_ => some k_ ≠ (.slice Ao49 t138.length co49 : Value).ownBlock ∧ some k_ ≠ (.slice (some ad159) t153.length co56 : Value).ownBlock ∧ k_ ≠ gb160 ∧ k_ ≠ gb161) (.slice Ao48 t128.length co48) t128) := ⟨by (with_reducible repeat (first | apply Kd.R_alloc | apply Kd.R_drewN | apply Kd.R_drew)); exact Kd.R_mono (Kd.R_far (p := ⟨gb161, 2, none⟩) (Kd.R_far (p := ⟨gb161, 1, none⟩) (Kd.R_far (p := ⟨gb161, 0, none⟩) (Kd.R_mono HO_5.out (fun k_ hk => (⟨hk, hk.2⟩ : _ ∧ k_ ≠ gb161))) (fun _ hk => hk.2) (.int .i64 0)) (fun _ hk => hk.2) (.int .i64 0)) (fun _ hk => hk.2) (.int .i64 0)) (fun _ hk => ⟨hk.1.1.1.1, ⟨hk.1.1.1.2, ⟨hk.1.1.2, hk.1.2⟩⟩⟩)⟩
                       have n1_ : Aside0 (Kd.R k31 31 (((w64.setCell ⟨gb161, 0, none⟩ (.int .i64 0)).setCell ⟨gb161, 1, none⟩ (.int .i64 0)).setCell ⟨gb161, 2, none⟩ (.int .i64 0)) w.heap.size (fun k_ => some k_ ≠ (.slice Ao48 t128.length co48 : Value).ownBlock ∧ some k_ ≠ (.slice (some ad159) t153.length co56 : Value).ownBlock ∧ k_ ≠ gb160 ∧ k_ ≠ gb161) (.slice Ao49 t138.length co49) t138) := ⟨by (with_reducible repeat (first | apply Kd.R_alloc | apply Kd.R_drewN | apply Kd.R_drew)); exact Kd.R_mono (Kd.R_far (p := ⟨gb161, 2, none⟩) (Kd.R_far (p := ⟨gb161, 1, none⟩) (Kd.R_far (p := ⟨gb161, 0, none⟩) (Kd.R_mono HO_7.out (fun k_ hk => (⟨hk, hk.2⟩ : _ ∧ k_ ≠ gb161))) (fun _ hk => hk.2) (.int .i64 0)) (fun _ hk => hk.2) (.int .i64 0)) (fun _ hk => hk.2) (.int .i64 0)) (fun _ hk => ⟨hk.1.1.1.1, ⟨hk.1.1.1.2, ⟨hk.1.1.2, hk.1.2⟩⟩⟩)⟩
                       have n2_ : Aside0 (Kd.R k31 31 (((w64.setCell ⟨gb161, 0, none⟩ (.int .i64 0)).setCell ⟨gb161, 1, none⟩ (.int .i64 0)).setCell ⟨gb161, 2, none⟩ (.int .i64 0)) w.heap.size (fun k_ => some k_ ≠ (.slice Ao48 t128.length co48 : Value).ownBlock ∧ some k_ ≠ (.slice Ao49 t138.length co49 : Value).ownBlock ∧ k_ ≠ gb160 ∧ k_ ≠ gb161) (.slice (some ad159) t153.length co56) t153) := ⟨by (with_reducible repeat (first | apply Kd.R_alloc | apply Kd.R_drewN | apply Kd.R_drew)); exact Kd.R_mono (Kd.R_far (p := ⟨gb161, 2, none⟩) (Kd.R_far (p := ⟨gb161, 1, none⟩) (Kd.R_far (p := ⟨gb161, 0, none⟩) (Kd.R_mono HO_78.out (fun k_ hk => (⟨hk, hk.2⟩ : _ ∧ k_ ≠ gb161))) (fun _ hk => hk.2) (.int .i64 0)) (fun _ hk => hk.2) (.int .i64 0)) (fun _ hk => hk.2) (.int .i64 0)) (fun _ hk => ⟨hk.1.1.1.1, ⟨hk.1.1.1.2, ⟨hk.1.1.2, hk.1.2⟩⟩⟩)⟩
                       have n3_ : Aside0 ((((w64.setCell ⟨gb161, 0, none⟩ (.int .i64 0)).setCell ⟨gb161, 1, none⟩ (.int .i64 0)).setCell ⟨gb161, 2, none⟩ (.int .i64 0)).heap[gb160]? = some (.cells #[.int .i64 ((rd_T31 t153 x80_3).f0), .int .i64 ((rd_T31 t153 x80_3).f1), .int .i64 ((rd_T31 t153 x80_3).f2)] 31 (0, 0))) := ⟨by (with_reducible repeat (first | refine blk_drewN ?_ _ | refine blk_drew ?_ | refine blk_alloc ?_ _)); refine blk_far ?_ NB160_161.out _; (with_reducible repeat (first | refine blk_drewN ?_ _ | refine blk_drew ?_ | refine blk_alloc ?_ _)); refine blk_far ?_ NB160_161.out _; (with_reducible repeat (first | refine blk_drewN ?_ _ | refine blk_drew ?_ | refine blk_alloc ?_ _)); refine blk_far ?_ NB160_161.out _; (with_reducible repeat (first | refine blk_drewN ?_ _ | refine blk_drew ?_ | refine blk_alloc ?_ _)); exact BK160.out⟩
                       have n4_ : Aside0 ((((w64.setCell ⟨gb161, 0, none⟩ (.int .i64 0)).setCell ⟨gb161, 1, none⟩ (.int .i64 0)).setCell ⟨gb161, 2, none⟩ (.int .i64 0)).heap[gb161]? = some (.cells #[.int .i64 0, .int .i64 0, .int .i64 0] 31 (0, 0))) := ⟨by (with_reducible repeat (first | refine blk_drewN ?_ _ | refine blk_drew ?_ | refine blk_alloc ?_ _)); refine blk_put (cs := #[.int .i64 0, .int .i64 0, .int .i64 0]) ?_ 2 _ rfl; (with_reducible repeat (first | refine blk_drewN ?_ _ | refine blk_drew ?_ | refine blk_alloc ?_ _)); refine blk_put (cs := #[.int .i64 0, .int .i64 0, .int .i64 0]) ?_ 1 _ rfl; (with_reducible repeat (first | refine blk_drewN ?_ _ | refine blk_drew ?_ | refine blk_alloc ?_ _)); refine blk_put (cs := #[.int .i64 0, .int .i64 0, .int .i64 0]) ?_ 0 _ rfl; (with_reducible repeat (first | refine blk_drewN ?_ _ | refine blk_drew ?_ | refine blk_alloc ?_ _)); exact BK161.out⟩
                       have n5_ : Aside0 (Below w.heap.size w (((w64.setCell ⟨gb161, 0, none⟩ (.int .i64 0)).setCell ⟨gb161, 1, none⟩ (.int .i64 0)).setCell ⟨gb161, 2, none⟩ (.int .i64 0))) := ⟨by repeat (first | (with_reducible first | exact HB.out | apply below_alloc | apply pw_below_drewN | apply below_drew1 | refine below_set ?_ GE160.out | refine below_set ?_ GE161.out) | exact HB.out)⟩
                       (try clear HO_5)
                       (try clear HO_7)
                       (try clear HO_78)
                       (try clear BK160)
                       (try clear BK161)
                       (try clear HB)
                       generalize (((w64.setCell ⟨gb161, 0, none⟩ (.int .i64 0)).setCell ⟨gb161, 1, none⟩ (.int .i64 0)).setCell ⟨gb161, 2, none⟩ (.int .i64 0)) = w67 at n0_ n1_ n2_ n3_ n4_ n5_ ⊢
                       have HO_5 := n0_
                       have HO_7 := n1_
                       have HO_78 := n2_
                       have BK160 := n3_
                       have BK161 := n4_
                       have HB := n5_
                       clear n0_ n1_ n2_ n3_ n4_ n5_
                       have n0_ := Aside0.mk (Kd.R_drew HO_5.out)
                       have n1_ := Aside0.mk (Kd.R_drew HO_7.out)
                       have n2_ := Aside0.mk (Kd.R_drew HO_78.out)
                       have n3_ := Aside0.mk (blk_drew BK160.out)
                       have n4_ := Aside0.mk (blk_drew BK161.out)
                       have n5_ := Aside0.mk (below_drew1 HB.out)
                       clear HO_5
                       clear HO_7
                       clear HO_78
                       clear BK160
                       clear BK161
                       clear HB
                       have HO_5 := n0_
                       have HO_7 := n1_
                       have HO_78 := n2_
                       have BK160 := n3_
                       have BK161 := n4_
                       have HB := n5_
                       clear n0_ n1_ n2_ n3_ n4_ n5_
                       have p162 : 0 ≤ (x80_3 : Int) := of_decide_eq_true aO
                       have q162 : x80_3 < (t128.length : Int) := of_decide_eq_true aO
                       obtain ⟨ad162, e162, hx162_0, hx162_1, hx162_2⟩ := at_T31 (Kd.R_reads' HO_5.out).2.2 x80_3 p162 q162
                       cases e162
                       replace p162 := eq_true p162
                       replace q162 := eq_true q162
                       have p163 : 0 ≤ (x80_3 : Int) := of_decide_eq_true aO
                       have q163 : x80_3 < (t128.length : Int) := of_decide_eq_true aO
                       obtain ⟨ad163, e163, hx163_0, hx163_1, hx163_2⟩ := at_T31 (Kd.R_reads' HO_5.out).2.2 x80_3 p163 q163
                       have he_ : ad162 = ad163 := (by injection e163); subst he_
                       replace p163 := eq_true p163
                       replace q163 := eq_true q163
                       have p164 : 0 ≤ (x80_3 : Int) := of_decide_eq_true aO
                       have q164 : x80_3 < (t128.length : Int) := of_decide_eq_true aO
                       obtain ⟨ad164, e164, hx164_0, hx164_1, hx164_2⟩ := at_T31 (Kd.R_reads' HO_5.out).2.2 x80_3 p164 q164
                       have he_ : ad162 = ad164 := (by injection e164); subst he_
                       replace p164 := eq_true p164
                       replace q164 := eq_true q164
                       refine start_ (n := 20) (S := fun w' => w'.cell? (ad162.add ((x80_3).toNat * 3)) = some (.int .i64 ((rd_T31 t128 x80_3).f0)) ∧ w'.cell? ⟨(ad162.add ((x80_3).toNat * 3)).block, (ad162.add ((x80_3).toNat * 3)).off + 1, none⟩ = some (.int .i64 ((rd_T31 t128 x80_3).f1)) ∧ w'.cell? ⟨(ad162.add ((x80_3).toNat * 3)).block, (ad162.add ((x80_3).toNat * 3)).off + 2, none⟩ = some (.int .i64 ((rd_T31 t128 x80_3).f2)) ∧ w'.cell? (ad162.add ((x80_3).toNat * 3)) = some (.int .i64 ((rd_T31 t128 x80_3).f0)) ∧ w'.cell? ⟨(ad162.add ((x80_3).toNat * 3)).block, (ad162.add ((x80_3).toNat * 3)).off + 1, none⟩ = some (.int .i64 ((rd_T31 t128 x80_3).f1)) ∧ w'.cell? ⟨(ad162.add ((x80_3).toNat * 3)).block, (ad162.add ((x80_3).toNat * 3)).off + 2, none⟩ = some (.int .i64 ((rd_T31 t128 x80_3).f2)) ∧ w'.cell? (ad162.add ((x80_3).toNat * 3)) = some (.int .i64 ((rd_T31 t128 x80_3).f0)) ∧ w'.cell? ⟨(ad162.add ((x80_3).toNat * 3)).block, (ad162.add ((x80_3).toNat * 3)).off + 1, none⟩ = some (.int .i64 ((rd_T31 t128 x80_3).f1)) ∧ w'.cell? ⟨(ad162.add ((x80_3).toNat * 3)).block, (ad162.add ((x80_3).toNat * 3)).off + 2, none⟩ = some (.int .i64 ((rd_T31 t128 x80_3).f2))) (ds := []) #[false, false, false, false, false, false, false, false, false, false, false, false, false, false, false, false, false, false, false, false] (by kernel_rfl) rfl rfl ⟨hx162_0, hx162_1, hx162_2, hx163_0, hx163_1, hx163_2, hx164_0, hx164_1, hx164_2⟩ (fun hHeld => ?_); refine with_tabW tabardlaw11_RowLeast.tab23 tabardlaw11_RowLeast.bits23 (fun HT_ HW_ => ?_)
                       generalize w67.drew = w68 at HO_5 HO_7 HO_78 BK160 BK161 HB hx162_0 hx162_1 hx162_2 hx163_0 hx163_1 hx163_2 hx164_0 hx164_1 hx164_2 hHeld ⊢
                       refine pure_ (i := 0) (N := some 90) (v := ?_) (a' := ?_) #[true, false, false, false, false, false, false, false, false, false, false, false, false, false, false, false, false, false, false, false] rfl rfl (any_of HT_.out (by kernel_rfl)) (fun _ _ _ h => h) (Or.inl ⟨by rfl, ?_⟩) ?_ ?_
                       rotate_left
                       ·intro w'
                        go_simp
                        with_reducible rfl
                       rotate_left
                       ·simp only [Act.put, List.setIfInBounds_toArray, List.set_cons_zero, List.set_cons_succ, i64_w, i32_w]
                        rfl
                       refine pure_ (i := 1) (N := some 91) (v := ?_) (a' := ?_) #[true, true, false, false, false, false, false, false, false, false, false, false, false, false, false, false, false, false, false, false] rfl rfl (any_of HT_.out (by kernel_rfl)) (fun _ _ _ h => h) (Or.inl ⟨by rfl, ?_⟩) ?_ ?_
                       rotate_left
                       ·intro w'
                        go_simp
                        with_reducible rfl
                       rotate_left
                       ·simp only [Act.put, List.setIfInBounds_toArray, List.set_cons_zero, List.set_cons_succ, i64_w, i32_w]
                        rfl
                       refine pure_ (i := 2) (N := some 92) (v := ?_) (a' := ?_) #[true, true, true, false, false, false, false, false, false, false, false, false, false, false, false, false, false, false, false, false] rfl rfl (any_of HT_.out (by kernel_rfl)) (fun _ _ _ h => h) (Or.inl ⟨by rfl, ?_⟩) ?_ ?_
                       rotate_left
                       ·intro w'
                        go_simp
                        with_reducible rfl
                       rotate_left
                       ·simp only [Act.put, List.setIfInBounds_toArray, List.set_cons_zero, List.set_cons_succ, i64_w, i32_w]
                        rfl
                       refine pure_ (i := 3) (N := some 93) (v := ?_) (a' := ?_) #[true, true, true, true, false, false, false, false, false, false, false, false, false, false, false, false, false, false, false, false] rfl rfl (any_of HT_.out (by kernel_rfl)) (fun _ _ _ h => h) (Or.inl ⟨by rfl, ?_⟩) ?_ ?_
                       rotate_left
                       ·intro w'
                        go_simp
                        with_reducible rfl
                       rotate_left
                       ·simp only [Act.put, List.setIfInBounds_toArray, List.set_cons_zero, List.set_cons_succ, i64_w, i32_w]
                        rfl
                       refine pure_ (i := 5) (N := some 95) (v := ?_) (a' := ?_) #[true, true, true, true, false, true, false, false, false, false, false, false, false, false, false, false, false, false, false, false] rfl rfl (any_of HT_.out (by kernel_rfl)) (fun _ _ _ h => h) (Or.inl ⟨by rfl, ?_⟩) ?_ ?_
                       rotate_left
                       ·intro w'
                        go_simp
                        with_reducible rfl
                       rotate_left
                       ·simp only [Act.put, List.setIfInBounds_toArray, List.set_cons_zero, List.set_cons_succ, i64_w, i32_w]
                        rfl
                       refine pure_ (i := 6) (N := some 96) (v := ?_) (a' := ?_) #[true, true, true, true, false, true, true, false, false, false, false, false, false, false, false, false, false, false, false, false] rfl rfl (any_of HT_.out (by kernel_rfl)) (fun _ _ _ h => h) (Or.inl ⟨by rfl, ?_⟩) ?_ ?_
                       rotate_left
                       ·intro w'
                        go_simp
                        with_reducible rfl
                       rotate_left
                       ·simp only [Act.put, List.setIfInBounds_toArray, List.set_cons_zero, List.set_cons_succ, i64_w, i32_w]
                        rfl
                       refine pure_ (i := 8) (N := some 98) (v := ?_) (a' := ?_) #[true, true, true, true, false, true, true, false, true, false, false, false, false, false, false, false, false, false, false, false] rfl rfl (any_of HT_.out (by kernel_rfl)) (fun _ _ _ h => h) (Or.inl ⟨by rfl, ?_⟩) ?_ ?_
                       rotate_left
                       ·intro w'
                        go_simp
                        with_reducible rfl
                       rotate_left
                       ·simp only [Act.put, List.setIfInBounds_toArray, List.set_cons_zero, List.set_cons_succ, i64_w, i32_w]
                        rfl
                       refine pure_ (i := 9) (N := some 99) (v := ?_) (a' := ?_) #[true, true, true, true, false, true, true, false, true, true, false, false, false, false, false, false, false, false, false, false] rfl rfl (any_of HT_.out (by kernel_rfl)) (fun _ _ _ h => h) (Or.inl ⟨by rfl, ?_⟩) ?_ ?_
                       rotate_left
                       ·intro w'
                        go_simp
                        with_reducible rfl
                       rotate_left
                       ·simp only [Act.put, List.setIfInBounds_toArray, List.set_cons_zero, List.set_cons_succ, i64_w, i32_w]
                        rfl
                       refine pure_ (i := 10) (N := some 100) (v := ?_) (a' := ?_) #[true, true, true, true, false, true, true, false, true, true, true, false, false, false, false, false, false, false, false, false] rfl rfl (any_of HT_.out (by kernel_rfl)) (fun _ _ _ h => h) (Or.inl ⟨by rfl, ?_⟩) ?_ ?_
                       rotate_left
                       ·intro w'
                        go_simp
                        with_reducible rfl
                       rotate_left
                       ·simp only [Act.put, List.setIfInBounds_toArray, List.set_cons_zero, List.set_cons_succ, i64_w, i32_w]
                        rfl
                       refine pure_ (i := 11) (N := some 101) (v := ?_) (a' := ?_) #[true, true, true, true, false, true, true, false, true, true, true, true, false, false, false, false, false, false, false, false] rfl rfl (any_of HT_.out (by kernel_rfl)) (fun _ _ _ h => h) (Or.inl ⟨by rfl, ?_⟩) ?_ ?_
                       rotate_left
                       ·intro w'
                        go_simp
                        with_reducible rfl
                       rotate_left
                       ·simp only [Act.put, List.setIfInBounds_toArray, List.set_cons_zero, List.set_cons_succ, i64_w, i32_w]
                        rfl
                       refine pure_ (i := 13) (N := some 103) (v := ?_) (a' := ?_) #[true, true, true, true, false, true, true, false, true, true, true, true, false, true, false, false, false, false, false, false] rfl rfl (any_of HT_.out (by kernel_rfl)) (fun _ _ _ h => h) (Or.inl ⟨by rfl, ?_⟩) ?_ ?_
                       rotate_left
                       ·intro w'
                        go_simp
                        with_reducible rfl
                       rotate_left
                       ·simp only [Act.put, List.setIfInBounds_toArray, List.set_cons_zero, List.set_cons_succ, i64_w, i32_w]
                        rfl
                       refine pure_ (i := 14) (N := some 104) (v := ?_) (a' := ?_) #[true, true, true, true, false, true, true, false, true, true, true, true, false, true, true, false, false, false, false, false] rfl rfl (any_of HT_.out (by kernel_rfl)) (fun _ _ _ h => h) (Or.inl ⟨by rfl, ?_⟩) ?_ ?_
                       rotate_left
                       ·intro w'
                        go_simp
                        with_reducible rfl
                       rotate_left
                       ·simp only [Act.put, List.setIfInBounds_toArray, List.set_cons_zero, List.set_cons_succ, i64_w, i32_w]
                        rfl
                       refine pure_ (i := 15) (N := some 105) (v := ?_) (a' := ?_) #[true, true, true, true, false, true, true, false, true, true, true, true, false, true, true, true, false, false, false, false] rfl rfl (any_of HT_.out (by kernel_rfl)) (fun _ _ _ h => h) (Or.inl ⟨by rfl, ?_⟩) ?_ ?_
                       rotate_left
                       ·intro w'
                        go_simp
                        with_reducible rfl
                       rotate_left
                       ·simp only [Act.put, List.setIfInBounds_toArray, List.set_cons_zero, List.set_cons_succ, i64_w, i32_w]
                        rfl
                       refine pure_ (i := 16) (N := some 106) (v := ?_) (a' := ?_) #[true, true, true, true, false, true, true, false, true, true, true, true, false, true, true, true, true, false, false, false] rfl rfl (any_of HT_.out (by kernel_rfl)) (fun _ _ _ h => h) (Or.inl ⟨by rfl, ?_⟩) ?_ ?_
                       rotate_left
                       ·intro w'
                        go_simp
                        with_reducible rfl
                       rotate_left
                       ·simp only [Act.put, List.setIfInBounds_toArray, List.set_cons_zero, List.set_cons_succ, i64_w, i32_w]
                        rfl
                       refine take_ (i := 4) (N := some 94) (v := ?_) (a' := ?_) #[true, true, true, true, true, true, true, false, true, true, true, true, false, true, true, true, true, false, false, false] rfl rfl (take_ofW HT_.out HW_.out (by kernel_rfl)) (fun _ _ _ h => h) (Or.inl ⟨by rfl, ?_⟩) hHeld ?_ ?_
                       rotate_left
                       ·rintro w' ⟨s0, s1, s2, s3, s4, s5, s6, s7, s8⟩
                        go_simp
                        with_reducible rfl
                       rotate_left
                       ·simp only [Act.put, List.setIfInBounds_toArray, List.set_cons_zero, List.set_cons_succ, i64_w, i32_w]
                        rfl
                       refine pure_ (i := 7) (N := some 97) (v := ?_) (a' := ?_) #[true, true, true, true, true, true, true, true, true, true, true, true, false, true, true, true, true, false, false, false] rfl rfl (any_of HT_.out (by kernel_rfl)) (fun _ _ _ h => h) (Or.inl ⟨by rfl, ?_⟩) ?_ ?_
                       rotate_left
                       ·intro w'
                        go_simp
                        with_reducible rfl
                       rotate_left
                       ·simp only [Act.put, List.setIfInBounds_toArray, List.set_cons_zero, List.set_cons_succ, i64_w, i32_w]
                        rfl
                       refine take_ (i := 12) (N := some 102) (v := ?_) (a' := ?_) #[true, true, true, true, true, true, true, true, true, true, true, true, true, true, true, true, true, false, false, false] rfl rfl (take_ofW HT_.out HW_.out (by kernel_rfl)) (fun _ _ _ h => h) (Or.inl ⟨by rfl, ?_⟩) hHeld ?_ ?_
                       rotate_left
                       ·rintro w' ⟨s0, s1, s2, s3, s4, s5, s6, s7, s8⟩
                        go_simp
                        with_reducible rfl
                       rotate_left
                       ·simp only [Act.put, List.setIfInBounds_toArray, List.set_cons_zero, List.set_cons_succ, i64_w, i32_w]
                        rfl
                       refine take_ (i := 17) (N := some 107) (v := ?_) (a' := ?_) #[true, true, true, true, true, true, true, true, true, true, true, true, true, true, true, true, true, true, false, false] rfl rfl (take_ofW HT_.out HW_.out (by kernel_rfl)) (fun _ _ _ h => h) (Or.inl ⟨by rfl, ?_⟩) hHeld ?_ ?_
                       rotate_left
                       ·rintro w' ⟨s0, s1, s2, s3, s4, s5, s6, s7, s8⟩
                        go_simp
                        with_reducible rfl
                       rotate_left
                       ·simp only [Act.put, List.setIfInBounds_toArray, List.set_cons_zero, List.set_cons_succ, i64_w, i32_w]
                        rfl
                       refine pure_ (i := 18) (N := some 108) (v := ?_) (a' := ?_) #[true, true, true, true, true, true, true, true, true, true, true, true, true, true, true, true, true, true, true, false] rfl rfl (any_of HT_.out (by kernel_rfl)) (fun _ _ _ h => h) (Or.inl ⟨by rfl, ?_⟩) ?_ ?_
                       rotate_left
                       ·intro w'
                        go_simp
                        with_reducible rfl
                       rotate_left
                       ·simp only [Act.put, List.setIfInBounds_toArray, List.set_cons_zero, List.set_cons_succ, i64_w, i32_w]
                        rfl
                       refine one_ (i := 19) (N := none) #[true, true, true, true, true, true, true, true, true, true, true, true, true, true, true, true, true, true, true, true] rfl rfl (one_of HT_.out (by kernel_rfl)) (by decide) (fun K hK => ?_)
                       have hs69 : w68.cell? ⟨gb161, 0, none⟩ = some (.int .i64 0) := (blk_cell BK161.out 0).trans rfl
                       have hfs69 := blk_frozen BK161.out 0
                       have hns69_0 := NB160_161.out
                       have hms69_0 := NB161_160.out
                       have hs70 : w68.cell? ⟨gb161, 1, none⟩ = some (.int .i64 0) := (blk_cell BK161.out 1).trans rfl
                       have hfs70 := blk_frozen BK161.out 1
                       have hns70_0 := NB160_161.out
                       have hms70_0 := NB161_160.out
                       have hs71 : w68.cell? ⟨gb161, 2, none⟩ = some (.int .i64 0) := (blk_cell BK161.out 2).trans rfl
                       have hfs71 := blk_frozen BK161.out 2
                       have hns71_0 := NB160_161.out
                       have hms71_0 := NB161_160.out
                       refine skip_ (w1 := ?_) (by rfl) rfl ?_ ?_
                       rotate_left
                       ·go_simp
                        rfl
                       refine hK.out _ _ ⟨((cell_far (p := ⟨gb161, _, none⟩) (by first | exact Kd.own_blk (Kd.R_away HO_5.out (fun _ hk => hk.2.2.2)) | (rw [add_block]; exact Kd.own_blk (Kd.R_away HO_5.out (fun _ hk => hk.2.2.2))) | (show (Addr.add _ _).block ≠ _; rw [add_block]; exact Kd.own_blk (Kd.R_away HO_5.out (fun _ hk => hk.2.2.2))) | (dsimp only; exact Kd.own_blk (Kd.R_away HO_5.out (fun _ hk => hk.2.2.2)))) _).trans (((cell_far (p := ⟨gb161, _, none⟩) (by first | exact Kd.own_blk (Kd.R_away HO_5.out (fun _ hk => hk.2.2.2)) | (rw [add_block]; exact Kd.own_blk (Kd.R_away HO_5.out (fun _ hk => hk.2.2.2))) | (show (Addr.add _ _).block ≠ _; rw [add_block]; exact Kd.own_blk (Kd.R_away HO_5.out (fun _ hk => hk.2.2.2))) | (dsimp only; exact Kd.own_blk (Kd.R_away HO_5.out (fun _ hk => hk.2.2.2)))) _).trans (((cell_far (p := ⟨gb161, _, none⟩) (by first | exact Kd.own_blk (Kd.R_away HO_5.out (fun _ hk => hk.2.2.2)) | (rw [add_block]; exact Kd.own_blk (Kd.R_away HO_5.out (fun _ hk => hk.2.2.2))) | (show (Addr.add _ _).block ≠ _; rw [add_block]; exact Kd.own_blk (Kd.R_away HO_5.out (fun _ hk => hk.2.2.2))) | (dsimp only; exact Kd.own_blk (Kd.R_away HO_5.out (fun _ hk => hk.2.2.2)))) _).trans (hHeld.1)))))), ((cell_far (p := ⟨gb161, _, none⟩) (by first | exact Kd.own_blk (Kd.R_away HO_5.out (fun _ hk => hk.2.2.2)) | (rw [add_block]; exact Kd.own_blk (Kd.R_away HO_5.out (fun _ hk => hk.2.2.2))) | (show (Addr.add _ _).block ≠ _; rw [add_block]; exact Kd.own_blk (Kd.R_away HO_5.out (fun _ hk => hk.2.2.2))) | (dsimp only; exact Kd.own_blk (Kd.R_away HO_5.out (fun _ hk => hk.2.2.2)))) _).trans (((cell_far (p := ⟨gb161, _, none⟩) (by first | exact Kd.own_blk (Kd.R_away HO_5.out (fun _ hk => hk.2.2.2)) | (rw [add_block]; exact Kd.own_blk (Kd.R_away HO_5.out (fun _ hk => hk.2.2.2))) | (show (Addr.add _ _).block ≠ _; rw [add_block]; exact Kd.own_blk (Kd.R_away HO_5.out (fun _ hk => hk.2.2.2))) | (dsimp only; exact Kd.own_blk (Kd.R_away HO_5.out (fun _ hk => hk.2.2.2)))) _).trans (((cell_far (p := ⟨gb161, _, none⟩) (by first | exact Kd.own_blk (Kd.R_away HO_5.out (fun _ hk => hk.2.2.2)) | (rw [add_block]; exact Kd.own_blk (Kd.R_away HO_5.out (fun _ hk => hk.2.2.2))) | (show (Addr.add _ _).block ≠ _; rw [add_block]; exact Kd.own_blk (Kd.R_away HO_5.out (fun _ hk => hk.2.2.2))) | (dsimp only; exact Kd.own_blk (Kd.R_away HO_5.out (fun _ hk => hk.2.2.2)))) _).trans (hHeld.2.1)))))), ((cell_far (p := ⟨gb161, _, none⟩) (by first | exact Kd.own_blk (Kd.R_away HO_5.out (fun _ hk => hk.2.2.2)) | (rw [add_block]; exact Kd.own_blk (Kd.R_away HO_5.out (fun _ hk => hk.2.2.2))) | (show (Addr.add _ _).block ≠ _; rw [add_block]; exact Kd.own_blk (Kd.R_away HO_5.out (fun _ hk => hk.2.2.2))) | (dsimp only; exact Kd.own_blk (Kd.R_away HO_5.out (fun _ hk => hk.2.2.2)))) _).trans (((cell_far (p := ⟨gb161, _, none⟩) (by first | exact Kd.own_blk (Kd.R_away HO_5.out (fun _ hk => hk.2.2.2)) | (rw [add_block]; exact Kd.own_blk (Kd.R_away HO_5.out (fun _ hk => hk.2.2.2))) | (show (Addr.add _ _).block ≠ _; rw [add_block]; exact Kd.own_blk (Kd.R_away HO_5.out (fun _ hk => hk.2.2.2))) | (dsimp only; exact Kd.own_blk (Kd.R_away HO_5.out (fun _ hk => hk.2.2.2)))) _).trans (((cell_far (p := ⟨gb161, _, none⟩) (by first | exact Kd.own_blk (Kd.R_away HO_5.out (fun _ hk => hk.2.2.2)) | (rw [add_block]; exact Kd.own_blk (Kd.R_away HO_5.out (fun _ hk => hk.2.2.2))) | (show (Addr.add _ _).block ≠ _; rw [add_block]; exact Kd.own_blk (Kd.R_away HO_5.out (fun _ hk => hk.2.2.2))) | (dsimp only; exact Kd.own_blk (Kd.R_away HO_5.out (fun _ hk => hk.2.2.2)))) _).trans (hHeld.2.2.1)))))), ((cell_far (p := ⟨gb161, _, none⟩) (by first | exact Kd.own_blk (Kd.R_away HO_5.out (fun _ hk => hk.2.2.2)) | (rw [add_block]; exact Kd.own_blk (Kd.R_away HO_5.out (fun _ hk => hk.2.2.2))) | (show (Addr.add _ _).block ≠ _; rw [add_block]; exact Kd.own_blk (Kd.R_away HO_5.out (fun _ hk => hk.2.2.2))) | (dsimp only; exact Kd.own_blk (Kd.R_away HO_5.out (fun _ hk => hk.2.2.2)))) _).trans (((cell_far (p := ⟨gb161, _, none⟩) (by first | exact Kd.own_blk (Kd.R_away HO_5.out (fun _ hk => hk.2.2.2)) | (rw [add_block]; exact Kd.own_blk (Kd.R_away HO_5.out (fun _ hk => hk.2.2.2))) | (show (Addr.add _ _).block ≠ _; rw [add_block]; exact Kd.own_blk (Kd.R_away HO_5.out (fun _ hk => hk.2.2.2))) | (dsimp only; exact Kd.own_blk (Kd.R_away HO_5.out (fun _ hk => hk.2.2.2)))) _).trans (((cell_far (p := ⟨gb161, _, none⟩) (by first | exact Kd.own_blk (Kd.R_away HO_5.out (fun _ hk => hk.2.2.2)) | (rw [add_block]; exact Kd.own_blk (Kd.R_away HO_5.out (fun _ hk => hk.2.2.2))) | (show (Addr.add _ _).block ≠ _; rw [add_block]; exact Kd.own_blk (Kd.R_away HO_5.out (fun _ hk => hk.2.2.2))) | (dsimp only; exact Kd.own_blk (Kd.R_away HO_5.out (fun _ hk => hk.2.2.2)))) _).trans (hHeld.2.2.2.1)))))), ((cell_far (p := ⟨gb161, _, none⟩) (by first | exact Kd.own_blk (Kd.R_away HO_5.out (fun _ hk => hk.2.2.2)) | (rw [add_block]; exact Kd.own_blk (Kd.R_away HO_5.out (fun _ hk => hk.2.2.2))) | (show (Addr.add _ _).block ≠ _; rw [add_block]; exact Kd.own_blk (Kd.R_away HO_5.out (fun _ hk => hk.2.2.2))) | (dsimp only; exact Kd.own_blk (Kd.R_away HO_5.out (fun _ hk => hk.2.2.2)))) _).trans (((cell_far (p := ⟨gb161, _, none⟩) (by first | exact Kd.own_blk (Kd.R_away HO_5.out (fun _ hk => hk.2.2.2)) | (rw [add_block]; exact Kd.own_blk (Kd.R_away HO_5.out (fun _ hk => hk.2.2.2))) | (show (Addr.add _ _).block ≠ _; rw [add_block]; exact Kd.own_blk (Kd.R_away HO_5.out (fun _ hk => hk.2.2.2))) | (dsimp only; exact Kd.own_blk (Kd.R_away HO_5.out (fun _ hk => hk.2.2.2)))) _).trans (((cell_far (p := ⟨gb161, _, none⟩) (by first | exact Kd.own_blk (Kd.R_away HO_5.out (fun _ hk => hk.2.2.2)) | (rw [add_block]; exact Kd.own_blk (Kd.R_away HO_5.out (fun _ hk => hk.2.2.2))) | (show (Addr.add _ _).block ≠ _; rw [add_block]; exact Kd.own_blk (Kd.R_away HO_5.out (fun _ hk => hk.2.2.2))) | (dsimp only; exact Kd.own_blk (Kd.R_away HO_5.out (fun _ hk => hk.2.2.2)))) _).trans (hHeld.2.2.2.2.1)))))), ((cell_far (p := ⟨gb161, _, none⟩) (by first | exact Kd.own_blk (Kd.R_away HO_5.out (fun _ hk => hk.2.2.2)) | (rw [add_block]; exact Kd.own_blk (Kd.R_away HO_5.out (fun _ hk => hk.2.2.2))) | (show (Addr.add _ _).block ≠ _; rw [add_block]; exact Kd.own_blk (Kd.R_away HO_5.out (fun _ hk => hk.2.2.2))) | (dsimp only; exact Kd.own_blk (Kd.R_away HO_5.out (fun _ hk => hk.2.2.2)))) _).trans (((cell_far (p := ⟨gb161, _, none⟩) (by first | exact Kd.own_blk (Kd.R_away HO_5.out (fun _ hk => hk.2.2.2)) | (rw [add_block]; exact Kd.own_blk (Kd.R_away HO_5.out (fun _ hk => hk.2.2.2))) | (show (Addr.add _ _).block ≠ _; rw [add_block]; exact Kd.own_blk (Kd.R_away HO_5.out (fun _ hk => hk.2.2.2))) | (dsimp only; exact Kd.own_blk (Kd.R_away HO_5.out (fun _ hk => hk.2.2.2)))) _).trans (((cell_far (p := ⟨gb161, _, none⟩) (by first | exact Kd.own_blk (Kd.R_away HO_5.out (fun _ hk => hk.2.2.2)) | (rw [add_block]; exact Kd.own_blk (Kd.R_away HO_5.out (fun _ hk => hk.2.2.2))) | (show (Addr.add _ _).block ≠ _; rw [add_block]; exact Kd.own_blk (Kd.R_away HO_5.out (fun _ hk => hk.2.2.2))) | (dsimp only; exact Kd.own_blk (Kd.R_away HO_5.out (fun _ hk => hk.2.2.2)))) _).trans (hHeld.2.2.2.2.2.1)))))), ((cell_far (p := ⟨gb161, _, none⟩) (by first | exact Kd.own_blk (Kd.R_away HO_5.out (fun _ hk => hk.2.2.2)) | (rw [add_block]; exact Kd.own_blk (Kd.R_away HO_5.out (fun _ hk => hk.2.2.2))) | (show (Addr.add _ _).block ≠ _; rw [add_block]; exact Kd.own_blk (Kd.R_away HO_5.out (fun _ hk => hk.2.2.2))) | (dsimp only; exact Kd.own_blk (Kd.R_away HO_5.out (fun _ hk => hk.2.2.2)))) _).trans (((cell_far (p := ⟨gb161, _, none⟩) (by first | exact Kd.own_blk (Kd.R_away HO_5.out (fun _ hk => hk.2.2.2)) | (rw [add_block]; exact Kd.own_blk (Kd.R_away HO_5.out (fun _ hk => hk.2.2.2))) | (show (Addr.add _ _).block ≠ _; rw [add_block]; exact Kd.own_blk (Kd.R_away HO_5.out (fun _ hk => hk.2.2.2))) | (dsimp only; exact Kd.own_blk (Kd.R_away HO_5.out (fun _ hk => hk.2.2.2)))) _).trans (((cell_far (p := ⟨gb161, _, none⟩) (by first | exact Kd.own_blk (Kd.R_away HO_5.out (fun _ hk => hk.2.2.2)) | (rw [add_block]; exact Kd.own_blk (Kd.R_away HO_5.out (fun _ hk => hk.2.2.2))) | (show (Addr.add _ _).block ≠ _; rw [add_block]; exact Kd.own_blk (Kd.R_away HO_5.out (fun _ hk => hk.2.2.2))) | (dsimp only; exact Kd.own_blk (Kd.R_away HO_5.out (fun _ hk => hk.2.2.2)))) _).trans (hHeld.2.2.2.2.2.2.1)))))), ((cell_far (p := ⟨gb161, _, none⟩) (by first | exact Kd.own_blk (Kd.R_away HO_5.out (fun _ hk => hk.2.2.2)) | (rw [add_block]; exact Kd.own_blk (Kd.R_away HO_5.out (fun _ hk => hk.2.2.2))) | (show (Addr.add _ _).block ≠ _; rw [add_block]; exact Kd.own_blk (Kd.R_away HO_5.out (fun _ hk => hk.2.2.2))) | (dsimp only; exact Kd.own_blk (Kd.R_away HO_5.out (fun _ hk => hk.2.2.2)))) _).trans (((cell_far (p := ⟨gb161, _, none⟩) (by first | exact Kd.own_blk (Kd.R_away HO_5.out (fun _ hk => hk.2.2.2)) | (rw [add_block]; exact Kd.own_blk (Kd.R_away HO_5.out (fun _ hk => hk.2.2.2))) | (show (Addr.add _ _).block ≠ _; rw [add_block]; exact Kd.own_blk (Kd.R_away HO_5.out (fun _ hk => hk.2.2.2))) | (dsimp only; exact Kd.own_blk (Kd.R_away HO_5.out (fun _ hk => hk.2.2.2)))) _).trans (((cell_far (p := ⟨gb161, _, none⟩) (by first | exact Kd.own_blk (Kd.R_away HO_5.out (fun _ hk => hk.2.2.2)) | (rw [add_block]; exact Kd.own_blk (Kd.R_away HO_5.out (fun _ hk => hk.2.2.2))) | (show (Addr.add _ _).block ≠ _; rw [add_block]; exact Kd.own_blk (Kd.R_away HO_5.out (fun _ hk => hk.2.2.2))) | (dsimp only; exact Kd.own_blk (Kd.R_away HO_5.out (fun _ hk => hk.2.2.2)))) _).trans (hHeld.2.2.2.2.2.2.2.1)))))), ((cell_far (p := ⟨gb161, _, none⟩) (by first | exact Kd.own_blk (Kd.R_away HO_5.out (fun _ hk => hk.2.2.2)) | (rw [add_block]; exact Kd.own_blk (Kd.R_away HO_5.out (fun _ hk => hk.2.2.2))) | (show (Addr.add _ _).block ≠ _; rw [add_block]; exact Kd.own_blk (Kd.R_away HO_5.out (fun _ hk => hk.2.2.2))) | (dsimp only; exact Kd.own_blk (Kd.R_away HO_5.out (fun _ hk => hk.2.2.2)))) _).trans (((cell_far (p := ⟨gb161, _, none⟩) (by first | exact Kd.own_blk (Kd.R_away HO_5.out (fun _ hk => hk.2.2.2)) | (rw [add_block]; exact Kd.own_blk (Kd.R_away HO_5.out (fun _ hk => hk.2.2.2))) | (show (Addr.add _ _).block ≠ _; rw [add_block]; exact Kd.own_blk (Kd.R_away HO_5.out (fun _ hk => hk.2.2.2))) | (dsimp only; exact Kd.own_blk (Kd.R_away HO_5.out (fun _ hk => hk.2.2.2)))) _).trans (((cell_far (p := ⟨gb161, _, none⟩) (by first | exact Kd.own_blk (Kd.R_away HO_5.out (fun _ hk => hk.2.2.2)) | (rw [add_block]; exact Kd.own_blk (Kd.R_away HO_5.out (fun _ hk => hk.2.2.2))) | (show (Addr.add _ _).block ≠ _; rw [add_block]; exact Kd.own_blk (Kd.R_away HO_5.out (fun _ hk => hk.2.2.2))) | (dsimp only; exact Kd.own_blk (Kd.R_away HO_5.out (fun _ hk => hk.2.2.2)))) _).trans (hHeld.2.2.2.2.2.2.2.2))))))⟩ (fun hHeld => ?_)
                       clear hK K
                       refine done_ (done_of HT_.out (by kernel_rfl)) ?_
                       have hcz72_0 : w68.cell? ⟨gb160, 0, none⟩ = some (.int .i64 ((rd_T31 t153 x80_3).f0)) := (blk_cell BK160.out 0).trans rfl
                       have hcz72_1 : w68.cell? ⟨gb160, 1, none⟩ = some (.int .i64 ((rd_T31 t153 x80_3).f1)) := (blk_cell BK160.out 1).trans rfl
                       have hcz72_2 : w68.cell? ⟨gb160, 2, none⟩ = some (.int .i64 ((rd_T31 t153 x80_3).f2)) := (blk_cell BK160.out 2).trans rfl
                       have hfz72_0 := blk_frozen BK160.out 0
                       have hfz72_1 := blk_frozen BK160.out 1
                       have hfz72_2 := blk_frozen BK160.out 2
                       have hcz73_0 : w68.cell? ⟨gb161, 0, none⟩ = some (.int .i64 0) := (blk_cell BK161.out 0).trans rfl
                       have hcz73_1 : w68.cell? ⟨gb161, 1, none⟩ = some (.int .i64 0) := (blk_cell BK161.out 1).trans rfl
                       have hcz73_2 : w68.cell? ⟨gb161, 2, none⟩ = some (.int .i64 0) := (blk_cell BK161.out 2).trans rfl
                       have hfz73_0 := blk_frozen BK161.out 0
                       have hfz73_1 := blk_frozen BK161.out 1
                       have hfz73_2 := blk_frozen BK161.out 2
                       try go_wp2
                       go_ret
                       exact ⟨by first | rfl | (simp [errW_none, errW_some] <;> rfl) | (simp [*, errW_none, errW_some] <;> rfl), by repeat (first | (with_reducible first | exact HB.out | apply below_alloc | apply pw_below_drewN | apply below_drew1 | refine below_set ?_ GE160.out | refine below_set ?_ GE161.out) | exact HB.out)⟩
                      ·rw [if_neg c61] at H
                       have c61b0 : (!(((rd_T31 t153 x80_3).f0) == (Go.bits .or .i64 ((rd_T31 t128 x80_3).f0) (l0.length : Int))) || (!(((rd_T31 t153 x80_3).f1) == ((rd_T31 t128 x80_3).f1)) || (!(((rd_T31 t153 x80_3).f2) == ((rd_T31 t128 x80_3).f2))))) = false := by simpa using c61
                       clear c61
                       have H' := Aside0.mk H
                       clear H
                       have p159 : 0 ≤ (x80_3 : Int) := of_decide_eq_true aO
                       have q159 : x80_3 < (t153.length : Int) := of_decide_eq_true aO
                       obtain ⟨ad159, e159, hx159_0, hx159_1, hx159_2⟩ := at_T31 (Kd.R_reads' HO_78.out).2.2 x80_3 p159 q159
                       cases e159
                       replace p159 := eq_true p159
                       replace q159 := eq_true q159
                       try go_wp2_with (first | ((with_reducible refine gate_dst (N := 11) rfl ?_); (try (refine gate_guard (by rfl) ?_; dsimp only)); refine box_event ?hg (N := 11) ?hd (cs := #[.int .i64 0, .int .i64 0, .int .i64 0]) (t := 31) ?hr ?_; (case hd => rfl); (case hg => rfl); (case hr => first | (go_simp; done) | (go_simp; rfl)); intro gb160 hg w74 hbox hb; have n0_ := Aside0.mk (Kd.R_below (Kd.R_elderB (rO HO_5.out) gb160 (Nat.le_of_eq hg.symm)) hb); have n1_ := Aside0.mk (Kd.R_below (Kd.R_elderB (rO HO_7.out) gb160 (Nat.le_of_eq hg.symm)) hb); have n2_ := Aside0.mk (Kd.R_below (Kd.R_elderB (rO HO_78.out) gb160 (Nat.le_of_eq hg.symm)) hb); have n3_ := Aside0.mk (below_step (bO HB.out) hb); have n4_ := Aside0.mk (hbox); have n5_ := Aside0.mk ((by rw [hg]; exact (below_size (bO HB.out)) : w.heap.size ≤ gb160)); have n6_ := Aside0.mk ((by rw [hg]; exact (below_size (bO HB.out)) : w.heap.size ≤ gb160)); clear HO_5; clear HO_7; clear HO_78; clear HB; have HO_5 := n0_; have HO_7 := n1_; have HO_78 := n2_; have HB := n3_; have BK160 := n4_; have GW160 := n5_; have GE160 := n6_; clear n0_ n1_ n2_ n3_ n4_ n5_ n6_; (try have hxb159_0 := pw_cell_below hb hx159_0); (try have hxb159_1 := pw_cell_below hb hx159_1); (try have hxb159_2 := pw_cell_below hb hx159_2); (try have hxb159_0 := pw_cell_below hb hx159_0); (try have hxb159_1 := pw_cell_below hb hx159_1); (try have hxb159_2 := pw_cell_below hb hx159_2); clear hb hbox hg; have hcz75_0 : w74.cell? ⟨gb160, 0, none⟩ = some (.int .i64 0) := (blk_cell BK160.out 0).trans rfl; have hcz75_1 : w74.cell? ⟨gb160, 1, none⟩ = some (.int .i64 0) := (blk_cell BK160.out 1).trans rfl; have hcz75_2 : w74.cell? ⟨gb160, 2, none⟩ = some (.int .i64 0) := (blk_cell BK160.out 2).trans rfl; have hfz75_0 := blk_frozen BK160.out 0; have hfz75_1 := blk_frozen BK160.out 1; have hfz75_2 := blk_frozen BK160.out 2) | ((with_reducible refine gate_dst (N := 12) rfl ?_); (try (refine gate_guard (by rfl) ?_; dsimp only)); refine box_event ?hg (N := 12) ?hd (cs := #[.int .i64 0, .int .i64 0, .int .i64 0]) (t := 31) ?hr ?_; (case hd => rfl); (case hg => rfl); (case hr => first | (go_simp; done) | (go_simp; rfl)); intro gb161 hg w76 hbox hb; have n0_ := Aside0.mk (Kd.R_below (Kd.R_elderB (by (with_reducible repeat (first | apply Kd.R_alloc | apply Kd.R_drewN | apply Kd.R_drew)); exact (Kd.R_mono (Kd.R_far (p := ⟨gb160, 2, none⟩) (Kd.R_far (p := ⟨gb160, 1, none⟩) (Kd.R_far (p := ⟨gb160, 0, none⟩) (Kd.R_mono HO_5.out (fun k_ hk => (⟨hk, hk.2⟩ : _ ∧ k_ ≠ gb160))) (fun _ hk => hk.2) (.int .i64 ((rd_T31 t153 x80_3).f0))) (fun _ hk => hk.2) (.int .i64 ((rd_T31 t153 x80_3).f1))) (fun _ hk => hk.2) (.int .i64 ((rd_T31 t153 x80_3).f2))) (fun _ h_ => h_.1))) gb161 (Nat.le_of_eq hg.symm)) hb); have n1_ := Aside0.mk (Kd.R_below (Kd.R_elderB (by (with_reducible repeat (first | apply Kd.R_alloc | apply Kd.R_drewN | apply Kd.R_drew)); exact (Kd.R_mono (Kd.R_far (p := ⟨gb160, 2, none⟩) (Kd.R_far (p := ⟨gb160, 1, none⟩) (Kd.R_far (p := ⟨gb160, 0, none⟩) (Kd.R_mono HO_7.out (fun k_ hk => (⟨hk, hk.2⟩ : _ ∧ k_ ≠ gb160))) (fun _ hk => hk.2) (.int .i64 ((rd_T31 t153 x80_3).f0))) (fun _ hk => hk.2) (.int .i64 ((rd_T31 t153 x80_3).f1))) (fun _ hk => hk.2) (.int .i64 ((rd_T31 t153 x80_3).f2))) (fun _ h_ => h_.1))) gb161 (Nat.le_of_eq hg.symm)) hb); have n2_ := Aside0.mk (Kd.R_below (Kd.R_elderB (by (with_reducible repeat (first | apply Kd.R_alloc | apply Kd.R_drewN | apply Kd.R_drew)); exact (Kd.R_mono (Kd.R_far (p := ⟨gb160, 2, none⟩) (Kd.R_far (p := ⟨gb160, 1, none⟩) (Kd.R_far (p := ⟨gb160, 0, none⟩) (Kd.R_mono HO_78.out (fun k_ hk => (⟨hk, hk.2⟩ : _ ∧ k_ ≠ gb160))) (fun _ hk => hk.2) (.int .i64 ((rd_T31 t153 x80_3).f0))) (fun _ hk => hk.2) (.int .i64 ((rd_T31 t153 x80_3).f1))) (fun _ hk => hk.2) (.int .i64 ((rd_T31 t153 x80_3).f2))) (fun _ h_ => h_.1))) gb161 (Nat.le_of_eq hg.symm)) hb); have n3_ := Aside0.mk (blk_below (g := gb160) (o := .cells #[.int .i64 ((rd_T31 t153 x80_3).f0), .int .i64 ((rd_T31 t153 x80_3).f1), .int .i64 ((rd_T31 t153 x80_3).f2)] 31 (0, 0)) (by (with_reducible repeat (first | refine blk_drewN ?_ _ | refine blk_drew ?_ | refine blk_alloc ?_ _)); refine blk_put (cs := #[.int .i64 ((rd_T31 t153 x80_3).f0), .int .i64 ((rd_T31 t153 x80_3).f1), .int .i64 0]) ?_ 2 _ rfl; (with_reducible repeat (first | refine blk_drewN ?_ _ | refine blk_drew ?_ | refine blk_alloc ?_ _)); refine blk_put (cs := #[.int .i64 ((rd_T31 t153 x80_3).f0), .int .i64 0, .int .i64 0]) ?_ 1 _ rfl; (with_reducible repeat (first | refine blk_drewN ?_ _ | refine blk_drew ?_ | refine blk_alloc ?_ _)); refine blk_put (cs := #[.int .i64 0, .int .i64 0, .int .i64 0]) ?_ 0 _ rfl; (with_reducible repeat (first | refine blk_drewN ?_ _ | refine blk_drew ?_ | refine blk_alloc ?_ _)); exact BK160.out) hb); have n4_ := Aside0.mk (below_step (by repeat (first | (with_reducible first | exact HB.out | apply below_alloc | apply pw_below_drewN | apply below_drew1 | refine below_set ?_ GE160.out) | exact HB.out)) hb); have n5_ := Aside0.mk (hbox); have n6_ := Aside0.mk ((by rw [hg]; exact (below_size (by repeat (first | (with_reducible first | exact HB.out | apply below_alloc | apply pw_below_drewN | apply below_drew1 | refine below_set ?_ GE160.out) | exact HB.out))) : w.heap.size ≤ gb161)); have n7_ := Aside0.mk ((by rw [hg]; exact (below_size (by repeat (first | (with_reducible first | exact HB.out | apply below_alloc | apply pw_below_drewN | apply below_drew1 | refine below_set ?_ GE160.out) | exact HB.out))) : w.heap.size ≤ gb161)); have n8_ := Aside0.mk ((by rw [hg]; exact Nat.ne_of_lt (blk_lt (g := gb160) (o := .cells #[.int .i64 ((rd_T31 t153 x80_3).f0), .int .i64 ((rd_T31 t153 x80_3).f1), .int .i64 ((rd_T31 t153 x80_3).f2)] 31 (0, 0)) (by (with_reducible repeat (first | refine blk_drewN ?_ _ | refine blk_drew ?_ | refine blk_alloc ?_ _)); refine blk_put (cs := #[.int .i64 ((rd_T31 t153 x80_3).f0), .int .i64 ((rd_T31 t153 x80_3).f1), .int .i64 0]) ?_ 2 _ rfl; (with_reducible repeat (first | refine blk_drewN ?_ _ | refine blk_drew ?_ | refine blk_alloc ?_ _)); refine blk_put (cs := #[.int .i64 ((rd_T31 t153 x80_3).f0), .int .i64 0, .int .i64 0]) ?_ 1 _ rfl; (with_reducible repeat (first | refine blk_drewN ?_ _ | refine blk_drew ?_ | refine blk_alloc ?_ _)); refine blk_put (cs := #[.int .i64 0, .int .i64 0, .int .i64 0]) ?_ 0 _ rfl; (with_reducible repeat (first | refine blk_drewN ?_ _ | refine blk_drew ?_ | refine blk_alloc ?_ _)); exact BK160.out)) : gb160 ≠ gb161)); have n9_ := Aside0.mk ((by rw [hg]; exact Nat.ne_of_gt (blk_lt (g := gb160) (o := .cells #[.int .i64 ((rd_T31 t153 x80_3).f0), .int .i64 ((rd_T31 t153 x80_3).f1), .int .i64 ((rd_T31 t153 x80_3).f2)] 31 (0, 0)) (by (with_reducible repeat (first | refine blk_drewN ?_ _ | refine blk_drew ?_ | refine blk_alloc ?_ _)); refine blk_put (cs := #[.int .i64 ((rd_T31 t153 x80_3).f0), .int .i64 ((rd_T31 t153 x80_3).f1), .int .i64 0]) ?_ 2 _ rfl; (with_reducible repeat (first | refine blk_drewN ?_ _ | refine blk_drew ?_ | refine blk_alloc ?_ _)); refine blk_put (cs := #[.int .i64 ((rd_T31 t153 x80_3).f0), .int .i64 0, .int .i64 0]) ?_ 1 _ rfl; (with_reducible repeat (first | refine blk_drewN ?_ _ | refine blk_drew ?_ | refine blk_alloc ?_ _)); refine blk_put (cs := #[.int .i64 0, .int .i64 0, .int .i64 0]) ?_ 0 _ rfl; (with_reducible repeat (first | refine blk_drewN ?_ _ | refine blk_drew ?_ | refine blk_alloc ?_ _)); exact BK160.out)) : gb161 ≠ gb160)); clear HO_5; clear HO_7; clear HO_78; clear BK160; clear HB; have HO_5 := n0_; have HO_7 := n1_; have HO_78 := n2_; have BK160 := n3_; have HB := n4_; have BK161 := n5_; have GW161 := n6_; have GE161 := n7_; have NB160_161 := n8_; have NB161_160 := n9_; clear n0_ n1_ n2_ n3_ n4_ n5_ n6_ n7_ n8_ n9_; clear hb hbox hg; have hnb77 := NB161_160.out; have hnc77 := NB160_161.out; have hcz78_0 : w76.cell? ⟨gb161, 0, none⟩ = some (.int .i64 0) := (blk_cell BK161.out 0).trans rfl; have hcz78_1 : w76.cell? ⟨gb161, 1, none⟩ = some (.int .i64 0) := (blk_cell BK161.out 1).trans rfl; have hcz78_2 : w76.cell? ⟨gb161, 2, none⟩ = some (.int .i64 0) := (blk_cell BK161.out 2).trans rfl; have hfz78_0 := blk_frozen BK161.out 0; have hfz78_1 := blk_frozen BK161.out 1; have hfz78_2 := blk_frozen BK161.out 2))
                       have n0_ : Aside0 (Kd.R k31 31 (((w76.setCell ⟨gb161, 0, none⟩ (.int .i64 0)).setCell ⟨gb161, 1, none⟩ (.int .i64 0)).setCell ⟨gb161, 2, none⟩ (.int .i64 0)) w.heap.size (fun k_ => some k_ ≠ (.slice Ao49 t138.length co49 : Value).ownBlock ∧ some k_ ≠ (.slice (some ad159) t153.length co56 : Value).ownBlock ∧ k_ ≠ gb160 ∧ k_ ≠ gb161) (.slice Ao48 t128.length co48) t128) := ⟨by (with_reducible repeat (first | apply Kd.R_alloc | apply Kd.R_drewN | apply Kd.R_drew)); exact Kd.R_mono (Kd.R_far (p := ⟨gb161, 2, none⟩) (Kd.R_far (p := ⟨gb161, 1, none⟩) (Kd.R_far (p := ⟨gb161, 0, none⟩) (Kd.R_mono HO_5.out (fun k_ hk => (⟨hk, hk.2⟩ : _ ∧ k_ ≠ gb161))) (fun _ hk => hk.2) (.int .i64 0)) (fun _ hk => hk.2) (.int .i64 0)) (fun _ hk => hk.2) (.int .i64 0)) (fun _ hk => ⟨hk.1.1.1.1, ⟨hk.1.1.1.2, ⟨hk.1.1.2, hk.1.2⟩⟩⟩)⟩
                       have n1_ : Aside0 (Kd.R k31 31 (((w76.setCell ⟨gb161, 0, none⟩ (.int .i64 0)).setCell ⟨gb161, 1, none⟩ (.int .i64 0)).setCell ⟨gb161, 2, none⟩ (.int .i64 0)) w.heap.size (fun k_ => some k_ ≠ (.slice Ao48 t128.length co48 : Value).ownBlock ∧ some k_ ≠ (.slice (some ad159) t153.length co56 : Value).ownBlock ∧ k_ ≠ gb160 ∧ k_ ≠ gb161) (.slice Ao49 t138.length co49) t138) := ⟨by (with_reducible repeat (first | apply Kd.R_alloc | apply Kd.R_drewN | apply Kd.R_drew)); exact Kd.R_mono (Kd.R_far (p := ⟨gb161, 2, none⟩) (Kd.R_far (p := ⟨gb161, 1, none⟩) (Kd.R_far (p := ⟨gb161, 0, none⟩) (Kd.R_mono HO_7.out (fun k_ hk => (⟨hk, hk.2⟩ : _ ∧ k_ ≠ gb161))) (fun _ hk => hk.2) (.int .i64 0)) (fun _ hk => hk.2) (.int .i64 0)) (fun _ hk => hk.2) (.int .i64 0)) (fun _ hk => ⟨hk.1.1.1.1, ⟨hk.1.1.1.2, ⟨hk.1.1.2, hk.1.2⟩⟩⟩)⟩
                       have n2_ : Aside0 (Kd.R k31 31 (((w76.setCell ⟨gb161, 0, none⟩ (.int .i64 0)).setCell ⟨gb161, 1, none⟩ (.int .i64 0)).setCell ⟨gb161, 2, none⟩ (.int .i64 0)) w.heap.size (fun k_ => some k_ ≠ (.slice Ao48 t128.length co48 : Value).ownBlock ∧ some k_ ≠ (.slice Ao49 t138.length co49 : Value).ownBlock ∧ k_ ≠ gb160 ∧ k_ ≠ gb161) (.slice (some ad159) t153.length co56) t153) := ⟨by (with_reducible repeat (first | apply Kd.R_alloc | apply Kd.R_drewN | apply Kd.R_drew)); exact Kd.R_mono (Kd.R_far (p := ⟨gb161, 2, none⟩) (Kd.R_far (p := ⟨gb161, 1, none⟩) (Kd.R_far (p := ⟨gb161, 0, none⟩) (Kd.R_mono HO_78.out (fun k_ hk => (⟨hk, hk.2⟩ : _ ∧ k_ ≠ gb161))) (fun _ hk => hk.2) (.int .i64 0)) (fun _ hk => hk.2) (.int .i64 0)) (fun _ hk => hk.2) (.int .i64 0)) (fun _ hk => ⟨hk.1.1.1.1, ⟨hk.1.1.1.2, ⟨hk.1.1.2, hk.1.2⟩⟩⟩)⟩
                       have n3_ : Aside0 ((((w76.setCell ⟨gb161, 0, none⟩ (.int .i64 0)).setCell ⟨gb161, 1, none⟩ (.int .i64 0)).setCell ⟨gb161, 2, none⟩ (.int .i64 0)).heap[gb160]? = some (.cells #[.int .i64 ((rd_T31 t153 x80_3).f0), .int .i64 ((rd_T31 t153 x80_3).f1), .int .i64 ((rd_T31 t153 x80_3).f2)] 31 (0, 0))) := ⟨by (with_reducible repeat (first | refine blk_drewN ?_ _ | refine blk_drew ?_ | refine blk_alloc ?_ _)); refine blk_far ?_ NB160_161.out _; (with_reducible repeat (first | refine blk_drewN ?_ _ | refine blk_drew ?_ | refine blk_alloc ?_ _)); refine blk_far ?_ NB160_161.out _; (with_reducible repeat (first | refine blk_drewN ?_ _ | refine blk_drew ?_ | refine blk_alloc ?_ _)); refine blk_far ?_ NB160_161.out _; (with_reducible repeat (first | refine blk_drewN ?_ _ | refine blk_drew ?_ | refine blk_alloc ?_ _)); exact BK160.out⟩
                       have n4_ : Aside0 ((((w76.setCell ⟨gb161, 0, none⟩ (.int .i64 0)).setCell ⟨gb161, 1, none⟩ (.int .i64 0)).setCell ⟨gb161, 2, none⟩ (.int .i64 0)).heap[gb161]? = some (.cells #[.int .i64 0, .int .i64 0, .int .i64 0] 31 (0, 0))) := ⟨by (with_reducible repeat (first | refine blk_drewN ?_ _ | refine blk_drew ?_ | refine blk_alloc ?_ _)); refine blk_put (cs := #[.int .i64 0, .int .i64 0, .int .i64 0]) ?_ 2 _ rfl; (with_reducible repeat (first | refine blk_drewN ?_ _ | refine blk_drew ?_ | refine blk_alloc ?_ _)); refine blk_put (cs := #[.int .i64 0, .int .i64 0, .int .i64 0]) ?_ 1 _ rfl; (with_reducible repeat (first | refine blk_drewN ?_ _ | refine blk_drew ?_ | refine blk_alloc ?_ _)); refine blk_put (cs := #[.int .i64 0, .int .i64 0, .int .i64 0]) ?_ 0 _ rfl; (with_reducible repeat (first | refine blk_drewN ?_ _ | refine blk_drew ?_ | refine blk_alloc ?_ _)); exact BK161.out⟩
                       have n5_ : Aside0 (Below w.heap.size w (((w76.setCell ⟨gb161, 0, none⟩ (.int .i64 0)).setCell ⟨gb161, 1, none⟩ (.int .i64 0)).setCell ⟨gb161, 2, none⟩ (.int .i64 0))) := ⟨by repeat (first | (with_reducible first | exact HB.out | apply below_alloc | apply pw_below_drewN | apply below_drew1 | refine below_set ?_ GE160.out | refine below_set ?_ GE161.out) | exact HB.out)⟩
                       (try clear HO_5)
                       (try clear HO_7)
                       (try clear HO_78)
                       (try clear BK160)
                       (try clear BK161)
                       (try clear HB)
                       generalize (((w76.setCell ⟨gb161, 0, none⟩ (.int .i64 0)).setCell ⟨gb161, 1, none⟩ (.int .i64 0)).setCell ⟨gb161, 2, none⟩ (.int .i64 0)) = w79 at n0_ n1_ n2_ n3_ n4_ n5_ ⊢
                       have HO_5 := n0_
                       have HO_7 := n1_
                       have HO_78 := n2_
                       have BK160 := n3_
                       have BK161 := n4_
                       have HB := n5_
                       clear n0_ n1_ n2_ n3_ n4_ n5_
                       have n0_ := Aside0.mk (Kd.R_drew HO_5.out)
                       have n1_ := Aside0.mk (Kd.R_drew HO_7.out)
                       have n2_ := Aside0.mk (Kd.R_drew HO_78.out)
                       have n3_ := Aside0.mk (blk_drew BK160.out)
                       have n4_ := Aside0.mk (blk_drew BK161.out)
                       have n5_ := Aside0.mk (below_drew1 HB.out)
                       clear HO_5
                       clear HO_7
                       clear HO_78
                       clear BK160
                       clear BK161
                       clear HB
                       have HO_5 := n0_
                       have HO_7 := n1_
                       have HO_78 := n2_
                       have BK160 := n3_
                       have BK161 := n4_
                       have HB := n5_
                       clear n0_ n1_ n2_ n3_ n4_ n5_
                       have p162 : 0 ≤ (x80_3 : Int) := of_decide_eq_true aO
                       have q162 : x80_3 < (t128.length : Int) := of_decide_eq_true aO
                       obtain ⟨ad162, e162, hx162_0, hx162_1, hx162_2⟩ := at_T31 (Kd.R_reads' HO_5.out).2.2 x80_3 p162 q162
                       cases e162
                       replace p162 := eq_true p162
                       replace q162 := eq_true q162
                       have p163 : 0 ≤ (x80_3 : Int) := of_decide_eq_true aO
                       have q163 : x80_3 < (t128.length : Int) := of_decide_eq_true aO
                       obtain ⟨ad163, e163, hx163_0, hx163_1, hx163_2⟩ := at_T31 (Kd.R_reads' HO_5.out).2.2 x80_3 p163 q163
                       have he_ : ad162 = ad163 := (by injection e163); subst he_
                       replace p163 := eq_true p163
                       replace q163 := eq_true q163
                       have p164 : 0 ≤ (x80_3 : Int) := of_decide_eq_true aO
                       have q164 : x80_3 < (t128.length : Int) := of_decide_eq_true aO
                       obtain ⟨ad164, e164, hx164_0, hx164_1, hx164_2⟩ := at_T31 (Kd.R_reads' HO_5.out).2.2 x80_3 p164 q164
                       have he_ : ad162 = ad164 := (by injection e164); subst he_
                       replace p164 := eq_true p164
                       replace q164 := eq_true q164
                       refine start_ (n := 20) (S := fun w' => w'.cell? (ad162.add ((x80_3).toNat * 3)) = some (.int .i64 ((rd_T31 t128 x80_3).f0)) ∧ w'.cell? ⟨(ad162.add ((x80_3).toNat * 3)).block, (ad162.add ((x80_3).toNat * 3)).off + 1, none⟩ = some (.int .i64 ((rd_T31 t128 x80_3).f1)) ∧ w'.cell? ⟨(ad162.add ((x80_3).toNat * 3)).block, (ad162.add ((x80_3).toNat * 3)).off + 2, none⟩ = some (.int .i64 ((rd_T31 t128 x80_3).f2)) ∧ w'.cell? (ad162.add ((x80_3).toNat * 3)) = some (.int .i64 ((rd_T31 t128 x80_3).f0)) ∧ w'.cell? ⟨(ad162.add ((x80_3).toNat * 3)).block, (ad162.add ((x80_3).toNat * 3)).off + 1, none⟩ = some (.int .i64 ((rd_T31 t128 x80_3).f1)) ∧ w'.cell? ⟨(ad162.add ((x80_3).toNat * 3)).block, (ad162.add ((x80_3).toNat * 3)).off + 2, none⟩ = some (.int .i64 ((rd_T31 t128 x80_3).f2)) ∧ w'.cell? (ad162.add ((x80_3).toNat * 3)) = some (.int .i64 ((rd_T31 t128 x80_3).f0)) ∧ w'.cell? ⟨(ad162.add ((x80_3).toNat * 3)).block, (ad162.add ((x80_3).toNat * 3)).off + 1, none⟩ = some (.int .i64 ((rd_T31 t128 x80_3).f1)) ∧ w'.cell? ⟨(ad162.add ((x80_3).toNat * 3)).block, (ad162.add ((x80_3).toNat * 3)).off + 2, none⟩ = some (.int .i64 ((rd_T31 t128 x80_3).f2))) (ds := []) #[false, false, false, false, false, false, false, false, false, false, false, false, false, false, false, false, false, false, false, false] (by kernel_rfl) rfl rfl ⟨hx162_0, hx162_1, hx162_2, hx163_0, hx163_1, hx163_2, hx164_0, hx164_1, hx164_2⟩ (fun hHeld => ?_); refine with_tabW tabardlaw11_RowLeast.tab23 tabardlaw11_RowLeast.bits23 (fun HT_ HW_ => ?_)
                       generalize w79.drew = w80 at HO_5 HO_7 HO_78 BK160 BK161 HB hx162_0 hx162_1 hx162_2 hx163_0 hx163_1 hx163_2 hx164_0 hx164_1 hx164_2 hHeld ⊢
                       refine pure_ (i := 0) (N := some 90) (v := ?_) (a' := ?_) #[true, false, false, false, false, false, false, false, false, false, false, false, false, false, false, false, false, false, false, false] rfl rfl (any_of HT_.out (by kernel_rfl)) (fun _ _ _ h => h) (Or.inl ⟨by rfl, ?_⟩) ?_ ?_
                       rotate_left
                       ·intro w'
                        go_simp
                        with_reducible rfl
                       rotate_left
                       ·simp only [Act.put, List.setIfInBounds_toArray, List.set_cons_zero, List.set_cons_succ, i64_w, i32_w]
                        rfl
                       refine pure_ (i := 1) (N := some 91) (v := ?_) (a' := ?_) #[true, true, false, false, false, false, false, false, false, false, false, false, false, false, false, false, false, false, false, false] rfl rfl (any_of HT_.out (by kernel_rfl)) (fun _ _ _ h => h) (Or.inl ⟨by rfl, ?_⟩) ?_ ?_
                       rotate_left
                       ·intro w'
                        go_simp
                        with_reducible rfl
                       rotate_left
                       ·simp only [Act.put, List.setIfInBounds_toArray, List.set_cons_zero, List.set_cons_succ, i64_w, i32_w]
                        rfl
                       refine pure_ (i := 2) (N := some 92) (v := ?_) (a' := ?_) #[true, true, true, false, false, false, false, false, false, false, false, false, false, false, false, false, false, false, false, false] rfl rfl (any_of HT_.out (by kernel_rfl)) (fun _ _ _ h => h) (Or.inl ⟨by rfl, ?_⟩) ?_ ?_
                       rotate_left
                       ·intro w'
                        go_simp
                        with_reducible rfl
                       rotate_left
                       ·simp only [Act.put, List.setIfInBounds_toArray, List.set_cons_zero, List.set_cons_succ, i64_w, i32_w]
                        rfl
                       refine pure_ (i := 3) (N := some 93) (v := ?_) (a' := ?_) #[true, true, true, true, false, false, false, false, false, false, false, false, false, false, false, false, false, false, false, false] rfl rfl (any_of HT_.out (by kernel_rfl)) (fun _ _ _ h => h) (Or.inl ⟨by rfl, ?_⟩) ?_ ?_
                       rotate_left
                       ·intro w'
                        go_simp
                        with_reducible rfl
                       rotate_left
                       ·simp only [Act.put, List.setIfInBounds_toArray, List.set_cons_zero, List.set_cons_succ, i64_w, i32_w]
                        rfl
                       refine pure_ (i := 5) (N := some 95) (v := ?_) (a' := ?_) #[true, true, true, true, false, true, false, false, false, false, false, false, false, false, false, false, false, false, false, false] rfl rfl (any_of HT_.out (by kernel_rfl)) (fun _ _ _ h => h) (Or.inl ⟨by rfl, ?_⟩) ?_ ?_
                       rotate_left
                       ·intro w'
                        go_simp
                        with_reducible rfl
                       rotate_left
                       ·simp only [Act.put, List.setIfInBounds_toArray, List.set_cons_zero, List.set_cons_succ, i64_w, i32_w]
                        rfl
                       refine pure_ (i := 6) (N := some 96) (v := ?_) (a' := ?_) #[true, true, true, true, false, true, true, false, false, false, false, false, false, false, false, false, false, false, false, false] rfl rfl (any_of HT_.out (by kernel_rfl)) (fun _ _ _ h => h) (Or.inl ⟨by rfl, ?_⟩) ?_ ?_
                       rotate_left
                       ·intro w'
                        go_simp
                        with_reducible rfl
                       rotate_left
                       ·simp only [Act.put, List.setIfInBounds_toArray, List.set_cons_zero, List.set_cons_succ, i64_w, i32_w]
                        rfl
                       refine pure_ (i := 8) (N := some 98) (v := ?_) (a' := ?_) #[true, true, true, true, false, true, true, false, true, false, false, false, false, false, false, false, false, false, false, false] rfl rfl (any_of HT_.out (by kernel_rfl)) (fun _ _ _ h => h) (Or.inl ⟨by rfl, ?_⟩) ?_ ?_
                       rotate_left
                       ·intro w'
                        go_simp
                        with_reducible rfl
                       rotate_left
                       ·simp only [Act.put, List.setIfInBounds_toArray, List.set_cons_zero, List.set_cons_succ, i64_w, i32_w]
                        rfl
                       refine pure_ (i := 9) (N := some 99) (v := ?_) (a' := ?_) #[true, true, true, true, false, true, true, false, true, true, false, false, false, false, false, false, false, false, false, false] rfl rfl (any_of HT_.out (by kernel_rfl)) (fun _ _ _ h => h) (Or.inl ⟨by rfl, ?_⟩) ?_ ?_
                       rotate_left
                       ·intro w'
                        go_simp
                        with_reducible rfl
                       rotate_left
                       ·simp only [Act.put, List.setIfInBounds_toArray, List.set_cons_zero, List.set_cons_succ, i64_w, i32_w]
                        rfl
                       refine pure_ (i := 10) (N := some 100) (v := ?_) (a' := ?_) #[true, true, true, true, false, true, true, false, true, true, true, false, false, false, false, false, false, false, false, false] rfl rfl (any_of HT_.out (by kernel_rfl)) (fun _ _ _ h => h) (Or.inl ⟨by rfl, ?_⟩) ?_ ?_
                       rotate_left
                       ·intro w'
                        go_simp
                        with_reducible rfl
                       rotate_left
                       ·simp only [Act.put, List.setIfInBounds_toArray, List.set_cons_zero, List.set_cons_succ, i64_w, i32_w]
                        rfl
                       refine pure_ (i := 11) (N := some 101) (v := ?_) (a' := ?_) #[true, true, true, true, false, true, true, false, true, true, true, true, false, false, false, false, false, false, false, false] rfl rfl (any_of HT_.out (by kernel_rfl)) (fun _ _ _ h => h) (Or.inl ⟨by rfl, ?_⟩) ?_ ?_
                       rotate_left
                       ·intro w'
                        go_simp
                        with_reducible rfl
                       rotate_left
                       ·simp only [Act.put, List.setIfInBounds_toArray, List.set_cons_zero, List.set_cons_succ, i64_w, i32_w]
                        rfl
                       refine pure_ (i := 13) (N := some 103) (v := ?_) (a' := ?_) #[true, true, true, true, false, true, true, false, true, true, true, true, false, true, false, false, false, false, false, false] rfl rfl (any_of HT_.out (by kernel_rfl)) (fun _ _ _ h => h) (Or.inl ⟨by rfl, ?_⟩) ?_ ?_
                       rotate_left
                       ·intro w'
                        go_simp
                        with_reducible rfl
                       rotate_left
                       ·simp only [Act.put, List.setIfInBounds_toArray, List.set_cons_zero, List.set_cons_succ, i64_w, i32_w]
                        rfl
                       refine pure_ (i := 14) (N := some 104) (v := ?_) (a' := ?_) #[true, true, true, true, false, true, true, false, true, true, true, true, false, true, true, false, false, false, false, false] rfl rfl (any_of HT_.out (by kernel_rfl)) (fun _ _ _ h => h) (Or.inl ⟨by rfl, ?_⟩) ?_ ?_
                       rotate_left
                       ·intro w'
                        go_simp
                        with_reducible rfl
                       rotate_left
                       ·simp only [Act.put, List.setIfInBounds_toArray, List.set_cons_zero, List.set_cons_succ, i64_w, i32_w]
                        rfl
                       refine pure_ (i := 15) (N := some 105) (v := ?_) (a' := ?_) #[true, true, true, true, false, true, true, false, true, true, true, true, false, true, true, true, false, false, false, false] rfl rfl (any_of HT_.out (by kernel_rfl)) (fun _ _ _ h => h) (Or.inl ⟨by rfl, ?_⟩) ?_ ?_
                       rotate_left
                       ·intro w'
                        go_simp
                        with_reducible rfl
                       rotate_left
                       ·simp only [Act.put, List.setIfInBounds_toArray, List.set_cons_zero, List.set_cons_succ, i64_w, i32_w]
                        rfl
                       refine pure_ (i := 16) (N := some 106) (v := ?_) (a' := ?_) #[true, true, true, true, false, true, true, false, true, true, true, true, false, true, true, true, true, false, false, false] rfl rfl (any_of HT_.out (by kernel_rfl)) (fun _ _ _ h => h) (Or.inl ⟨by rfl, ?_⟩) ?_ ?_
                       rotate_left
                       ·intro w'
                        go_simp
                        with_reducible rfl
                       rotate_left
                       ·simp only [Act.put, List.setIfInBounds_toArray, List.set_cons_zero, List.set_cons_succ, i64_w, i32_w]
                        rfl
                       refine take_ (i := 4) (N := some 94) (v := ?_) (a' := ?_) #[true, true, true, true, true, true, true, false, true, true, true, true, false, true, true, true, true, false, false, false] rfl rfl (take_ofW HT_.out HW_.out (by kernel_rfl)) (fun _ _ _ h => h) (Or.inl ⟨by rfl, ?_⟩) hHeld ?_ ?_
                       rotate_left
                       ·rintro w' ⟨s0, s1, s2, s3, s4, s5, s6, s7, s8⟩
                        go_simp
                        with_reducible rfl
                       rotate_left
                       ·simp only [Act.put, List.setIfInBounds_toArray, List.set_cons_zero, List.set_cons_succ, i64_w, i32_w]
                        rfl
                       refine pure_ (i := 7) (N := some 97) (v := ?_) (a' := ?_) #[true, true, true, true, true, true, true, true, true, true, true, true, false, true, true, true, true, false, false, false] rfl rfl (any_of HT_.out (by kernel_rfl)) (fun _ _ _ h => h) (Or.inl ⟨by rfl, ?_⟩) ?_ ?_
                       rotate_left
                       ·intro w'
                        go_simp
                        with_reducible rfl
                       rotate_left
                       ·simp only [Act.put, List.setIfInBounds_toArray, List.set_cons_zero, List.set_cons_succ, i64_w, i32_w]
                        rfl
                       refine take_ (i := 12) (N := some 102) (v := ?_) (a' := ?_) #[true, true, true, true, true, true, true, true, true, true, true, true, true, true, true, true, true, false, false, false] rfl rfl (take_ofW HT_.out HW_.out (by kernel_rfl)) (fun _ _ _ h => h) (Or.inl ⟨by rfl, ?_⟩) hHeld ?_ ?_
                       rotate_left
                       ·rintro w' ⟨s0, s1, s2, s3, s4, s5, s6, s7, s8⟩
                        go_simp
                        with_reducible rfl
                       rotate_left
                       ·simp only [Act.put, List.setIfInBounds_toArray, List.set_cons_zero, List.set_cons_succ, i64_w, i32_w]
                        rfl
                       refine take_ (i := 17) (N := some 107) (v := ?_) (a' := ?_) #[true, true, true, true, true, true, true, true, true, true, true, true, true, true, true, true, true, true, false, false] rfl rfl (take_ofW HT_.out HW_.out (by kernel_rfl)) (fun _ _ _ h => h) (Or.inl ⟨by rfl, ?_⟩) hHeld ?_ ?_
                       rotate_left
                       ·rintro w' ⟨s0, s1, s2, s3, s4, s5, s6, s7, s8⟩
                        go_simp
                        with_reducible rfl
                       rotate_left
                       ·simp only [Act.put, List.setIfInBounds_toArray, List.set_cons_zero, List.set_cons_succ, i64_w, i32_w]
                        rfl
                       refine pure_ (i := 18) (N := some 108) (v := ?_) (a' := ?_) #[true, true, true, true, true, true, true, true, true, true, true, true, true, true, true, true, true, true, true, false] rfl rfl (any_of HT_.out (by kernel_rfl)) (fun _ _ _ h => h) (Or.inl ⟨by rfl, ?_⟩) ?_ ?_
                       rotate_left
                       ·intro w'
                        go_simp
                        with_reducible rfl
                       rotate_left
                       ·simp only [Act.put, List.setIfInBounds_toArray, List.set_cons_zero, List.set_cons_succ, i64_w, i32_w]
                        rfl
                       refine one_ (i := 19) (N := none) #[true, true, true, true, true, true, true, true, true, true, true, true, true, true, true, true, true, true, true, true] rfl rfl (one_of HT_.out (by kernel_rfl)) (by decide) (fun K hK => ?_)
                       have hs81 : w80.cell? ⟨gb161, 0, none⟩ = some (.int .i64 0) := (blk_cell BK161.out 0).trans rfl
                       have hfs81 := blk_frozen BK161.out 0
                       have hns81_0 := NB160_161.out
                       have hms81_0 := NB161_160.out
                       have hs82 : w80.cell? ⟨gb161, 1, none⟩ = some (.int .i64 0) := (blk_cell BK161.out 1).trans rfl
                       have hfs82 := blk_frozen BK161.out 1
                       have hns82_0 := NB160_161.out
                       have hms82_0 := NB161_160.out
                       have hs83 : w80.cell? ⟨gb161, 2, none⟩ = some (.int .i64 0) := (blk_cell BK161.out 2).trans rfl
                       have hfs83 := blk_frozen BK161.out 2
                       have hns83_0 := NB160_161.out
                       have hms83_0 := NB161_160.out
                       refine skip_ (w1 := ?_) (by rfl) rfl ?_ ?_
                       rotate_left
                       ·go_simp
                        rfl
                       refine hK.out _ _ ⟨((cell_far (p := ⟨gb161, _, none⟩) (by first | exact Kd.own_blk (Kd.R_away HO_5.out (fun _ hk => hk.2.2.2)) | (rw [add_block]; exact Kd.own_blk (Kd.R_away HO_5.out (fun _ hk => hk.2.2.2))) | (show (Addr.add _ _).block ≠ _; rw [add_block]; exact Kd.own_blk (Kd.R_away HO_5.out (fun _ hk => hk.2.2.2))) | (dsimp only; exact Kd.own_blk (Kd.R_away HO_5.out (fun _ hk => hk.2.2.2)))) _).trans (((cell_far (p := ⟨gb161, _, none⟩) (by first | exact Kd.own_blk (Kd.R_away HO_5.out (fun _ hk => hk.2.2.2)) | (rw [add_block]; exact Kd.own_blk (Kd.R_away HO_5.out (fun _ hk => hk.2.2.2))) | (show (Addr.add _ _).block ≠ _; rw [add_block]; exact Kd.own_blk (Kd.R_away HO_5.out (fun _ hk => hk.2.2.2))) | (dsimp only; exact Kd.own_blk (Kd.R_away HO_5.out (fun _ hk => hk.2.2.2)))) _).trans (((cell_far (p := ⟨gb161, _, none⟩) (by first | exact Kd.own_blk (Kd.R_away HO_5.out (fun _ hk => hk.2.2.2)) | (rw [add_block]; exact Kd.own_blk (Kd.R_away HO_5.out (fun _ hk => hk.2.2.2))) | (show (Addr.add _ _).block ≠ _; rw [add_block]; exact Kd.own_blk (Kd.R_away HO_5.out (fun _ hk => hk.2.2.2))) | (dsimp only; exact Kd.own_blk (Kd.R_away HO_5.out (fun _ hk => hk.2.2.2)))) _).trans (hHeld.1)))))), ((cell_far (p := ⟨gb161, _, none⟩) (by first | exact Kd.own_blk (Kd.R_away HO_5.out (fun _ hk => hk.2.2.2)) | (rw [add_block]; exact Kd.own_blk (Kd.R_away HO_5.out (fun _ hk => hk.2.2.2))) | (show (Addr.add _ _).block ≠ _; rw [add_block]; exact Kd.own_blk (Kd.R_away HO_5.out (fun _ hk => hk.2.2.2))) | (dsimp only; exact Kd.own_blk (Kd.R_away HO_5.out (fun _ hk => hk.2.2.2)))) _).trans (((cell_far (p := ⟨gb161, _, none⟩) (by first | exact Kd.own_blk (Kd.R_away HO_5.out (fun _ hk => hk.2.2.2)) | (rw [add_block]; exact Kd.own_blk (Kd.R_away HO_5.out (fun _ hk => hk.2.2.2))) | (show (Addr.add _ _).block ≠ _; rw [add_block]; exact Kd.own_blk (Kd.R_away HO_5.out (fun _ hk => hk.2.2.2))) | (dsimp only; exact Kd.own_blk (Kd.R_away HO_5.out (fun _ hk => hk.2.2.2)))) _).trans (((cell_far (p := ⟨gb161, _, none⟩) (by first | exact Kd.own_blk (Kd.R_away HO_5.out (fun _ hk => hk.2.2.2)) | (rw [add_block]; exact Kd.own_blk (Kd.R_away HO_5.out (fun _ hk => hk.2.2.2))) | (show (Addr.add _ _).block ≠ _; rw [add_block]; exact Kd.own_blk (Kd.R_away HO_5.out (fun _ hk => hk.2.2.2))) | (dsimp only; exact Kd.own_blk (Kd.R_away HO_5.out (fun _ hk => hk.2.2.2)))) _).trans (hHeld.2.1)))))), ((cell_far (p := ⟨gb161, _, none⟩) (by first | exact Kd.own_blk (Kd.R_away HO_5.out (fun _ hk => hk.2.2.2)) | (rw [add_block]; exact Kd.own_blk (Kd.R_away HO_5.out (fun _ hk => hk.2.2.2))) | (show (Addr.add _ _).block ≠ _; rw [add_block]; exact Kd.own_blk (Kd.R_away HO_5.out (fun _ hk => hk.2.2.2))) | (dsimp only; exact Kd.own_blk (Kd.R_away HO_5.out (fun _ hk => hk.2.2.2)))) _).trans (((cell_far (p := ⟨gb161, _, none⟩) (by first | exact Kd.own_blk (Kd.R_away HO_5.out (fun _ hk => hk.2.2.2)) | (rw [add_block]; exact Kd.own_blk (Kd.R_away HO_5.out (fun _ hk => hk.2.2.2))) | (show (Addr.add _ _).block ≠ _; rw [add_block]; exact Kd.own_blk (Kd.R_away HO_5.out (fun _ hk => hk.2.2.2))) | (dsimp only; exact Kd.own_blk (Kd.R_away HO_5.out (fun _ hk => hk.2.2.2)))) _).trans (((cell_far (p := ⟨gb161, _, none⟩) (by first | exact Kd.own_blk (Kd.R_away HO_5.out (fun _ hk => hk.2.2.2)) | (rw [add_block]; exact Kd.own_blk (Kd.R_away HO_5.out (fun _ hk => hk.2.2.2))) | (show (Addr.add _ _).block ≠ _; rw [add_block]; exact Kd.own_blk (Kd.R_away HO_5.out (fun _ hk => hk.2.2.2))) | (dsimp only; exact Kd.own_blk (Kd.R_away HO_5.out (fun _ hk => hk.2.2.2)))) _).trans (hHeld.2.2.1)))))), ((cell_far (p := ⟨gb161, _, none⟩) (by first | exact Kd.own_blk (Kd.R_away HO_5.out (fun _ hk => hk.2.2.2)) | (rw [add_block]; exact Kd.own_blk (Kd.R_away HO_5.out (fun _ hk => hk.2.2.2))) | (show (Addr.add _ _).block ≠ _; rw [add_block]; exact Kd.own_blk (Kd.R_away HO_5.out (fun _ hk => hk.2.2.2))) | (dsimp only; exact Kd.own_blk (Kd.R_away HO_5.out (fun _ hk => hk.2.2.2)))) _).trans (((cell_far (p := ⟨gb161, _, none⟩) (by first | exact Kd.own_blk (Kd.R_away HO_5.out (fun _ hk => hk.2.2.2)) | (rw [add_block]; exact Kd.own_blk (Kd.R_away HO_5.out (fun _ hk => hk.2.2.2))) | (show (Addr.add _ _).block ≠ _; rw [add_block]; exact Kd.own_blk (Kd.R_away HO_5.out (fun _ hk => hk.2.2.2))) | (dsimp only; exact Kd.own_blk (Kd.R_away HO_5.out (fun _ hk => hk.2.2.2)))) _).trans (((cell_far (p := ⟨gb161, _, none⟩) (by first | exact Kd.own_blk (Kd.R_away HO_5.out (fun _ hk => hk.2.2.2)) | (rw [add_block]; exact Kd.own_blk (Kd.R_away HO_5.out (fun _ hk => hk.2.2.2))) | (show (Addr.add _ _).block ≠ _; rw [add_block]; exact Kd.own_blk (Kd.R_away HO_5.out (fun _ hk => hk.2.2.2))) | (dsimp only; exact Kd.own_blk (Kd.R_away HO_5.out (fun _ hk => hk.2.2.2)))) _).trans (hHeld.2.2.2.1)))))), ((cell_far (p := ⟨gb161, _, none⟩) (by first | exact Kd.own_blk (Kd.R_away HO_5.out (fun _ hk => hk.2.2.2)) | (rw [add_block]; exact Kd.own_blk (Kd.R_away HO_5.out (fun _ hk => hk.2.2.2))) | (show (Addr.add _ _).block ≠ _; rw [add_block]; exact Kd.own_blk (Kd.R_away HO_5.out (fun _ hk => hk.2.2.2))) | (dsimp only; exact Kd.own_blk (Kd.R_away HO_5.out (fun _ hk => hk.2.2.2)))) _).trans (((cell_far (p := ⟨gb161, _, none⟩) (by first | exact Kd.own_blk (Kd.R_away HO_5.out (fun _ hk => hk.2.2.2)) | (rw [add_block]; exact Kd.own_blk (Kd.R_away HO_5.out (fun _ hk => hk.2.2.2))) | (show (Addr.add _ _).block ≠ _; rw [add_block]; exact Kd.own_blk (Kd.R_away HO_5.out (fun _ hk => hk.2.2.2))) | (dsimp only; exact Kd.own_blk (Kd.R_away HO_5.out (fun _ hk => hk.2.2.2)))) _).trans (((cell_far (p := ⟨gb161, _, none⟩) (by first | exact Kd.own_blk (Kd.R_away HO_5.out (fun _ hk => hk.2.2.2)) | (rw [add_block]; exact Kd.own_blk (Kd.R_away HO_5.out (fun _ hk => hk.2.2.2))) | (show (Addr.add _ _).block ≠ _; rw [add_block]; exact Kd.own_blk (Kd.R_away HO_5.out (fun _ hk => hk.2.2.2))) | (dsimp only; exact Kd.own_blk (Kd.R_away HO_5.out (fun _ hk => hk.2.2.2)))) _).trans (hHeld.2.2.2.2.1)))))), ((cell_far (p := ⟨gb161, _, none⟩) (by first | exact Kd.own_blk (Kd.R_away HO_5.out (fun _ hk => hk.2.2.2)) | (rw [add_block]; exact Kd.own_blk (Kd.R_away HO_5.out (fun _ hk => hk.2.2.2))) | (show (Addr.add _ _).block ≠ _; rw [add_block]; exact Kd.own_blk (Kd.R_away HO_5.out (fun _ hk => hk.2.2.2))) | (dsimp only; exact Kd.own_blk (Kd.R_away HO_5.out (fun _ hk => hk.2.2.2)))) _).trans (((cell_far (p := ⟨gb161, _, none⟩) (by first | exact Kd.own_blk (Kd.R_away HO_5.out (fun _ hk => hk.2.2.2)) | (rw [add_block]; exact Kd.own_blk (Kd.R_away HO_5.out (fun _ hk => hk.2.2.2))) | (show (Addr.add _ _).block ≠ _; rw [add_block]; exact Kd.own_blk (Kd.R_away HO_5.out (fun _ hk => hk.2.2.2))) | (dsimp only; exact Kd.own_blk (Kd.R_away HO_5.out (fun _ hk => hk.2.2.2)))) _).trans (((cell_far (p := ⟨gb161, _, none⟩) (by first | exact Kd.own_blk (Kd.R_away HO_5.out (fun _ hk => hk.2.2.2)) | (rw [add_block]; exact Kd.own_blk (Kd.R_away HO_5.out (fun _ hk => hk.2.2.2))) | (show (Addr.add _ _).block ≠ _; rw [add_block]; exact Kd.own_blk (Kd.R_away HO_5.out (fun _ hk => hk.2.2.2))) | (dsimp only; exact Kd.own_blk (Kd.R_away HO_5.out (fun _ hk => hk.2.2.2)))) _).trans (hHeld.2.2.2.2.2.1)))))), ((cell_far (p := ⟨gb161, _, none⟩) (by first | exact Kd.own_blk (Kd.R_away HO_5.out (fun _ hk => hk.2.2.2)) | (rw [add_block]; exact Kd.own_blk (Kd.R_away HO_5.out (fun _ hk => hk.2.2.2))) | (show (Addr.add _ _).block ≠ _; rw [add_block]; exact Kd.own_blk (Kd.R_away HO_5.out (fun _ hk => hk.2.2.2))) | (dsimp only; exact Kd.own_blk (Kd.R_away HO_5.out (fun _ hk => hk.2.2.2)))) _).trans (((cell_far (p := ⟨gb161, _, none⟩) (by first | exact Kd.own_blk (Kd.R_away HO_5.out (fun _ hk => hk.2.2.2)) | (rw [add_block]; exact Kd.own_blk (Kd.R_away HO_5.out (fun _ hk => hk.2.2.2))) | (show (Addr.add _ _).block ≠ _; rw [add_block]; exact Kd.own_blk (Kd.R_away HO_5.out (fun _ hk => hk.2.2.2))) | (dsimp only; exact Kd.own_blk (Kd.R_away HO_5.out (fun _ hk => hk.2.2.2)))) _).trans (((cell_far (p := ⟨gb161, _, none⟩) (by first | exact Kd.own_blk (Kd.R_away HO_5.out (fun _ hk => hk.2.2.2)) | (rw [add_block]; exact Kd.own_blk (Kd.R_away HO_5.out (fun _ hk => hk.2.2.2))) | (show (Addr.add _ _).block ≠ _; rw [add_block]; exact Kd.own_blk (Kd.R_away HO_5.out (fun _ hk => hk.2.2.2))) | (dsimp only; exact Kd.own_blk (Kd.R_away HO_5.out (fun _ hk => hk.2.2.2)))) _).trans (hHeld.2.2.2.2.2.2.1)))))), ((cell_far (p := ⟨gb161, _, none⟩) (by first | exact Kd.own_blk (Kd.R_away HO_5.out (fun _ hk => hk.2.2.2)) | (rw [add_block]; exact Kd.own_blk (Kd.R_away HO_5.out (fun _ hk => hk.2.2.2))) | (show (Addr.add _ _).block ≠ _; rw [add_block]; exact Kd.own_blk (Kd.R_away HO_5.out (fun _ hk => hk.2.2.2))) | (dsimp only; exact Kd.own_blk (Kd.R_away HO_5.out (fun _ hk => hk.2.2.2)))) _).trans (((cell_far (p := ⟨gb161, _, none⟩) (by first | exact Kd.own_blk (Kd.R_away HO_5.out (fun _ hk => hk.2.2.2)) | (rw [add_block]; exact Kd.own_blk (Kd.R_away HO_5.out (fun _ hk => hk.2.2.2))) | (show (Addr.add _ _).block ≠ _; rw [add_block]; exact Kd.own_blk (Kd.R_away HO_5.out (fun _ hk => hk.2.2.2))) | (dsimp only; exact Kd.own_blk (Kd.R_away HO_5.out (fun _ hk => hk.2.2.2)))) _).trans (((cell_far (p := ⟨gb161, _, none⟩) (by first | exact Kd.own_blk (Kd.R_away HO_5.out (fun _ hk => hk.2.2.2)) | (rw [add_block]; exact Kd.own_blk (Kd.R_away HO_5.out (fun _ hk => hk.2.2.2))) | (show (Addr.add _ _).block ≠ _; rw [add_block]; exact Kd.own_blk (Kd.R_away HO_5.out (fun _ hk => hk.2.2.2))) | (dsimp only; exact Kd.own_blk (Kd.R_away HO_5.out (fun _ hk => hk.2.2.2)))) _).trans (hHeld.2.2.2.2.2.2.2.1)))))), ((cell_far (p := ⟨gb161, _, none⟩) (by first | exact Kd.own_blk (Kd.R_away HO_5.out (fun _ hk => hk.2.2.2)) | (rw [add_block]; exact Kd.own_blk (Kd.R_away HO_5.out (fun _ hk => hk.2.2.2))) | (show (Addr.add _ _).block ≠ _; rw [add_block]; exact Kd.own_blk (Kd.R_away HO_5.out (fun _ hk => hk.2.2.2))) | (dsimp only; exact Kd.own_blk (Kd.R_away HO_5.out (fun _ hk => hk.2.2.2)))) _).trans (((cell_far (p := ⟨gb161, _, none⟩) (by first | exact Kd.own_blk (Kd.R_away HO_5.out (fun _ hk => hk.2.2.2)) | (rw [add_block]; exact Kd.own_blk (Kd.R_away HO_5.out (fun _ hk => hk.2.2.2))) | (show (Addr.add _ _).block ≠ _; rw [add_block]; exact Kd.own_blk (Kd.R_away HO_5.out (fun _ hk => hk.2.2.2))) | (dsimp only; exact Kd.own_blk (Kd.R_away HO_5.out (fun _ hk => hk.2.2.2)))) _).trans (((cell_far (p := ⟨gb161, _, none⟩) (by first | exact Kd.own_blk (Kd.R_away HO_5.out (fun _ hk => hk.2.2.2)) | (rw [add_block]; exact Kd.own_blk (Kd.R_away HO_5.out (fun _ hk => hk.2.2.2))) | (show (Addr.add _ _).block ≠ _; rw [add_block]; exact Kd.own_blk (Kd.R_away HO_5.out (fun _ hk => hk.2.2.2))) | (dsimp only; exact Kd.own_blk (Kd.R_away HO_5.out (fun _ hk => hk.2.2.2)))) _).trans (hHeld.2.2.2.2.2.2.2.2))))))⟩ (fun hHeld => ?_)
                       clear hK K
                       refine done_ (done_of HT_.out (by kernel_rfl)) ?_
                       have hcz84_0 : w80.cell? ⟨gb160, 0, none⟩ = some (.int .i64 ((rd_T31 t153 x80_3).f0)) := (blk_cell BK160.out 0).trans rfl
                       have hcz84_1 : w80.cell? ⟨gb160, 1, none⟩ = some (.int .i64 ((rd_T31 t153 x80_3).f1)) := (blk_cell BK160.out 1).trans rfl
                       have hcz84_2 : w80.cell? ⟨gb160, 2, none⟩ = some (.int .i64 ((rd_T31 t153 x80_3).f2)) := (blk_cell BK160.out 2).trans rfl
                       have hfz84_0 := blk_frozen BK160.out 0
                       have hfz84_1 := blk_frozen BK160.out 1
                       have hfz84_2 := blk_frozen BK160.out 2
                       have hcz85_0 : w80.cell? ⟨gb161, 0, none⟩ = some (.int .i64 0) := (blk_cell BK161.out 0).trans rfl
                       have hcz85_1 : w80.cell? ⟨gb161, 1, none⟩ = some (.int .i64 0) := (blk_cell BK161.out 1).trans rfl
                       have hcz85_2 : w80.cell? ⟨gb161, 2, none⟩ = some (.int .i64 0) := (blk_cell BK161.out 2).trans rfl
                       have hfz85_0 := blk_frozen BK161.out 0
                       have hfz85_1 := blk_frozen BK161.out 1
                       have hfz85_2 := blk_frozen BK161.out 2
                       try go_wp2
                       go_roundg k3
                       case measure => have := HJ8.out; have := HJ22.out; have := HK3.out; omega
                       case rel => exact ⟨(wrap64 (x80_3 + 1)), (by first | rfl | (simp; done) | (simp [*]; done)), H', ⟨by have := HJ8.out; have := HJ22.out; have := HK3.out; omega⟩, ⟨by (with_reducible repeat (first | apply Kd.R_alloc | apply Kd.R_drewN | apply Kd.R_drew)); exact Kd.R_mono (Kd.R_far (p := ⟨gb161, 2, none⟩) (Kd.R_far (p := ⟨gb161, 1, none⟩) (Kd.R_far (p := ⟨gb161, 0, none⟩) (Kd.R_mono HO_5.out (fun k_ hk => (⟨hk, hk.2.2.2⟩ : _ ∧ k_ ≠ gb161))) (fun _ hk => hk.2) (.int .i64 (Go.bits .or .i64 ((rd_T31 t128 x80_3).f0) (l0.length : Int)))) (fun _ hk => hk.2) (.int .i64 ((rd_T31 t128 x80_3).f1))) (fun _ hk => hk.2) (.int .i64 ((rd_T31 t128 x80_3).f2))) (fun _ hk => ⟨hk.1.1, hk.1.2.1⟩)⟩, ⟨by (with_reducible repeat (first | apply Kd.R_alloc | apply Kd.R_drewN | apply Kd.R_drew)); exact Kd.R_mono (Kd.R_far (p := ⟨gb161, 2, none⟩) (Kd.R_far (p := ⟨gb161, 1, none⟩) (Kd.R_far (p := ⟨gb161, 0, none⟩) (Kd.R_mono HO_7.out (fun k_ hk => (⟨hk, hk.2.2.2⟩ : _ ∧ k_ ≠ gb161))) (fun _ hk => hk.2) (.int .i64 (Go.bits .or .i64 ((rd_T31 t128 x80_3).f0) (l0.length : Int)))) (fun _ hk => hk.2) (.int .i64 ((rd_T31 t128 x80_3).f1))) (fun _ hk => hk.2) (.int .i64 ((rd_T31 t128 x80_3).f2))) (fun _ hk => ⟨hk.1.1, hk.1.2.1⟩)⟩, ⟨by (with_reducible repeat (first | apply Kd.R_alloc | apply Kd.R_drewN | apply Kd.R_drew)); exact Kd.R_mono (Kd.R_far (p := ⟨gb161, 2, none⟩) (Kd.R_far (p := ⟨gb161, 1, none⟩) (Kd.R_far (p := ⟨gb161, 0, none⟩) (Kd.R_mono HO_78.out (fun k_ hk => (⟨hk, hk.2.2.2⟩ : _ ∧ k_ ≠ gb161))) (fun _ hk => hk.2) (.int .i64 (Go.bits .or .i64 ((rd_T31 t128 x80_3).f0) (l0.length : Int)))) (fun _ hk => hk.2) (.int .i64 ((rd_T31 t128 x80_3).f1))) (fun _ hk => hk.2) (.int .i64 ((rd_T31 t128 x80_3).f2))) (fun _ hk => ⟨hk.1.1, hk.1.2.1⟩)⟩, ⟨by repeat (first | (with_reducible first | exact HB.out | apply below_alloc | apply pw_below_drewN | apply below_drew1 | refine below_set ?_ GE160.out | refine below_set ?_ GE161.out) | exact HB.out)⟩⟩
                     ·rw [if_neg c60] at H
                      have c60b0 : decide (x80_3 < (t128.length : Int)) = false := decide_eq_false c60
                      clear c60
                      obtain ⟨ji86, hji86⟩ : ∃ j_ : Int, (wrap64 (x80_3 - (t128.length : Int))) = j_ := ⟨_, rfl⟩
                      replace H : (if 0 ≤ (ji86) then (if (ji86) < (t138.length : Int) then (if (!(((rd_T31 t153 x80_3).f0) == (Go.bits .or .i64 ((rd_T31 t138 (ji86)).f0) (l0.length : Int))) || (!(((rd_T31 t153 x80_3).f1) == (Go.bits .or .i64 ((rd_T31 t138 (ji86)).f1) (l0.length : Int))) || (!(((rd_T31 t153 x80_3).f2) == ((rd_T31 t138 (ji86)).f2))))) = true then (some false) else (tabardlaw11_RowLeast.l0 k3 l0 t128 t138 t153 (t153.length : Int) (wrap64 (x80_3 + 1)))) else (none)) else (none)) = some r := by first | (rw [hji86] at H; exact H) | (simp only [hji86] at H ⊢; exact H)
                      have hji86w : (IntKind.i64.wrap (x80_3 - (t128.length : Int))) = ji86 := (i64_w _).trans hji86
                      by_cases c87 : 0 ≤ (ji86)
                      ·rw [if_pos c87] at H
                       have c87b0 : decide (0 ≤ (ji86)) = true := decide_eq_true c87
                       clear c87
                       by_cases c88 : (ji86) < (t138.length : Int)
                       ·rw [if_pos c88] at H
                        have c88b0 : decide ((ji86) < (t138.length : Int)) = true := decide_eq_true c88
                        clear c88
                        by_cases c89 : (!(((rd_T31 t153 x80_3).f0) == (Go.bits .or .i64 ((rd_T31 t138 (ji86)).f0) (l0.length : Int))) || (!(((rd_T31 t153 x80_3).f1) == (Go.bits .or .i64 ((rd_T31 t138 (ji86)).f1) (l0.length : Int))) || (!(((rd_T31 t153 x80_3).f2) == ((rd_T31 t138 (ji86)).f2))))) = true
                        ·rw [if_pos c89] at H
                         have c89b0 : (!(((rd_T31 t153 x80_3).f0) == (Go.bits .or .i64 ((rd_T31 t138 (ji86)).f0) (l0.length : Int))) || (!(((rd_T31 t153 x80_3).f1) == (Go.bits .or .i64 ((rd_T31 t138 (ji86)).f1) (l0.length : Int))) || (!(((rd_T31 t153 x80_3).f2) == ((rd_T31 t138 (ji86)).f2))))) = true := c89
                         clear c89
                         obtain rfl := Option.some.inj H
                         have p159 : 0 ≤ (x80_3 : Int) := of_decide_eq_true aO
                         have q159 : x80_3 < (t153.length : Int) := of_decide_eq_true aO
                         obtain ⟨ad159, e159, hx159_0, hx159_1, hx159_2⟩ := at_T31 (Kd.R_reads' HO_78.out).2.2 x80_3 p159 q159
                         cases e159
                         replace p159 := eq_true p159
                         replace q159 := eq_true q159
                         go_wp2_with (first | ((with_reducible refine gate_dst (N := 11) rfl ?_); (try (refine gate_guard (by rfl) ?_; dsimp only)); refine box_event ?hg (N := 11) ?hd (cs := #[.int .i64 0, .int .i64 0, .int .i64 0]) (t := 31) ?hr ?_; (case hd => rfl); (case hg => rfl); (case hr => first | (go_simp; done) | (go_simp; rfl)); intro gb160 hg w90 hbox hb; have n0_ := Aside0.mk (Kd.R_below (Kd.R_elderB (rO HO_5.out) gb160 (Nat.le_of_eq hg.symm)) hb); have n1_ := Aside0.mk (Kd.R_below (Kd.R_elderB (rO HO_7.out) gb160 (Nat.le_of_eq hg.symm)) hb); have n2_ := Aside0.mk (Kd.R_below (Kd.R_elderB (rO HO_78.out) gb160 (Nat.le_of_eq hg.symm)) hb); have n3_ := Aside0.mk (below_step (bO HB.out) hb); have n4_ := Aside0.mk (hbox); have n5_ := Aside0.mk ((by rw [hg]; exact (below_size (bO HB.out)) : w.heap.size ≤ gb160)); have n6_ := Aside0.mk ((by rw [hg]; exact (below_size (bO HB.out)) : w.heap.size ≤ gb160)); clear HO_5; clear HO_7; clear HO_78; clear HB; have HO_5 := n0_; have HO_7 := n1_; have HO_78 := n2_; have HB := n3_; have BK160 := n4_; have GW160 := n5_; have GE160 := n6_; clear n0_ n1_ n2_ n3_ n4_ n5_ n6_; (try have hxb159_0 := pw_cell_below hb hx159_0); (try have hxb159_1 := pw_cell_below hb hx159_1); (try have hxb159_2 := pw_cell_below hb hx159_2); (try have hxb159_0 := pw_cell_below hb hx159_0); (try have hxb159_1 := pw_cell_below hb hx159_1); (try have hxb159_2 := pw_cell_below hb hx159_2); (try have hxb159_0 := pw_cell_below hb hx159_0); (try have hxb159_1 := pw_cell_below hb hx159_1); (try have hxb159_2 := pw_cell_below hb hx159_2); clear hb hbox hg; have hcz91_0 : w90.cell? ⟨gb160, 0, none⟩ = some (.int .i64 0) := (blk_cell BK160.out 0).trans rfl; have hcz91_1 : w90.cell? ⟨gb160, 1, none⟩ = some (.int .i64 0) := (blk_cell BK160.out 1).trans rfl; have hcz91_2 : w90.cell? ⟨gb160, 2, none⟩ = some (.int .i64 0) := (blk_cell BK160.out 2).trans rfl; have hfz91_0 := blk_frozen BK160.out 0; have hfz91_1 := blk_frozen BK160.out 1; have hfz91_2 := blk_frozen BK160.out 2) | ((with_reducible refine gate_dst (N := 12) rfl ?_); (try (refine gate_guard (by rfl) ?_; dsimp only)); refine box_event ?hg (N := 12) ?hd (cs := #[.int .i64 0, .int .i64 0, .int .i64 0]) (t := 31) ?hr ?_; (case hd => rfl); (case hg => rfl); (case hr => first | (go_simp; done) | (go_simp; rfl)); intro gb161 hg w92 hbox hb; have n0_ := Aside0.mk (Kd.R_below (Kd.R_elderB (by (with_reducible repeat (first | apply Kd.R_alloc | apply Kd.R_drewN | apply Kd.R_drew)); exact (Kd.R_mono (Kd.R_far (p := ⟨gb160, 2, none⟩) (Kd.R_far (p := ⟨gb160, 1, none⟩) (Kd.R_far (p := ⟨gb160, 0, none⟩) (Kd.R_mono HO_5.out (fun k_ hk => (⟨hk, hk.2⟩ : _ ∧ k_ ≠ gb160))) (fun _ hk => hk.2) (.int .i64 ((rd_T31 t153 x80_3).f0))) (fun _ hk => hk.2) (.int .i64 ((rd_T31 t153 x80_3).f1))) (fun _ hk => hk.2) (.int .i64 ((rd_T31 t153 x80_3).f2))) (fun _ h_ => h_.1))) gb161 (Nat.le_of_eq hg.symm)) hb); have n1_ := Aside0.mk (Kd.R_below (Kd.R_elderB (by (with_reducible repeat (first | apply Kd.R_alloc | apply Kd.R_drewN | apply Kd.R_drew)); exact (Kd.R_mono (Kd.R_far (p := ⟨gb160, 2, none⟩) (Kd.R_far (p := ⟨gb160, 1, none⟩) (Kd.R_far (p := ⟨gb160, 0, none⟩) (Kd.R_mono HO_7.out (fun k_ hk => (⟨hk, hk.2⟩ : _ ∧ k_ ≠ gb160))) (fun _ hk => hk.2) (.int .i64 ((rd_T31 t153 x80_3).f0))) (fun _ hk => hk.2) (.int .i64 ((rd_T31 t153 x80_3).f1))) (fun _ hk => hk.2) (.int .i64 ((rd_T31 t153 x80_3).f2))) (fun _ h_ => h_.1))) gb161 (Nat.le_of_eq hg.symm)) hb); have n2_ := Aside0.mk (Kd.R_below (Kd.R_elderB (by (with_reducible repeat (first | apply Kd.R_alloc | apply Kd.R_drewN | apply Kd.R_drew)); exact (Kd.R_mono (Kd.R_far (p := ⟨gb160, 2, none⟩) (Kd.R_far (p := ⟨gb160, 1, none⟩) (Kd.R_far (p := ⟨gb160, 0, none⟩) (Kd.R_mono HO_78.out (fun k_ hk => (⟨hk, hk.2⟩ : _ ∧ k_ ≠ gb160))) (fun _ hk => hk.2) (.int .i64 ((rd_T31 t153 x80_3).f0))) (fun _ hk => hk.2) (.int .i64 ((rd_T31 t153 x80_3).f1))) (fun _ hk => hk.2) (.int .i64 ((rd_T31 t153 x80_3).f2))) (fun _ h_ => h_.1))) gb161 (Nat.le_of_eq hg.symm)) hb); have n3_ := Aside0.mk (blk_below (g := gb160) (o := .cells #[.int .i64 ((rd_T31 t153 x80_3).f0), .int .i64 ((rd_T31 t153 x80_3).f1), .int .i64 ((rd_T31 t153 x80_3).f2)] 31 (0, 0)) (by (with_reducible repeat (first | refine blk_drewN ?_ _ | refine blk_drew ?_ | refine blk_alloc ?_ _)); refine blk_put (cs := #[.int .i64 ((rd_T31 t153 x80_3).f0), .int .i64 ((rd_T31 t153 x80_3).f1), .int .i64 0]) ?_ 2 _ rfl; (with_reducible repeat (first | refine blk_drewN ?_ _ | refine blk_drew ?_ | refine blk_alloc ?_ _)); refine blk_put (cs := #[.int .i64 ((rd_T31 t153 x80_3).f0), .int .i64 0, .int .i64 0]) ?_ 1 _ rfl; (with_reducible repeat (first | refine blk_drewN ?_ _ | refine blk_drew ?_ | refine blk_alloc ?_ _)); refine blk_put (cs := #[.int .i64 0, .int .i64 0, .int .i64 0]) ?_ 0 _ rfl; (with_reducible repeat (first | refine blk_drewN ?_ _ | refine blk_drew ?_ | refine blk_alloc ?_ _)); exact BK160.out) hb); have n4_ := Aside0.mk (below_step (by repeat (first | (with_reducible first | exact HB.out | apply below_alloc | apply pw_below_drewN | apply below_drew1 | refine below_set ?_ GE160.out) | exact HB.out)) hb); have n5_ := Aside0.mk (hbox); have n6_ := Aside0.mk ((by rw [hg]; exact (below_size (by repeat (first | (with_reducible first | exact HB.out | apply below_alloc | apply pw_below_drewN | apply below_drew1 | refine below_set ?_ GE160.out) | exact HB.out))) : w.heap.size ≤ gb161)); have n7_ := Aside0.mk ((by rw [hg]; exact (below_size (by repeat (first | (with_reducible first | exact HB.out | apply below_alloc | apply pw_below_drewN | apply below_drew1 | refine below_set ?_ GE160.out) | exact HB.out))) : w.heap.size ≤ gb161)); have n8_ := Aside0.mk ((by rw [hg]; exact Nat.ne_of_lt (blk_lt (g := gb160) (o := .cells #[.int .i64 ((rd_T31 t153 x80_3).f0), .int .i64 ((rd_T31 t153 x80_3).f1), .int .i64 ((rd_T31 t153 x80_3).f2)] 31 (0, 0)) (by (with_reducible repeat (first | refine blk_drewN ?_ _ | refine blk_drew ?_ | refine blk_alloc ?_ _)); refine blk_put (cs := #[.int .i64 ((rd_T31 t153 x80_3).f0), .int .i64 ((rd_T31 t153 x80_3).f1), .int .i64 0]) ?_ 2 _ rfl; (with_reducible repeat (first | refine blk_drewN ?_ _ | refine blk_drew ?_ | refine blk_alloc ?_ _)); refine blk_put (cs := #[.int .i64 ((rd_T31 t153 x80_3).f0), .int .i64 0, .int .i64 0]) ?_ 1 _ rfl; (with_reducible repeat (first | refine blk_drewN ?_ _ | refine blk_drew ?_ | refine blk_alloc ?_ _)); refine blk_put (cs := #[.int .i64 0, .int .i64 0, .int .i64 0]) ?_ 0 _ rfl; (with_reducible repeat (first | refine blk_drewN ?_ _ | refine blk_drew ?_ | refine blk_alloc ?_ _)); exact BK160.out)) : gb160 ≠ gb161)); have n9_ := Aside0.mk ((by rw [hg]; exact Nat.ne_of_gt (blk_lt (g := gb160) (o := .cells #[.int .i64 ((rd_T31 t153 x80_3).f0), .int .i64 ((rd_T31 t153 x80_3).f1), .int .i64 ((rd_T31 t153 x80_3).f2)] 31 (0, 0)) (by (with_reducible repeat (first | refine blk_drewN ?_ _ | refine blk_drew ?_ | refine blk_alloc ?_ _)); refine blk_put (cs := #[.int .i64 ((rd_T31 t153 x80_3).f0), .int .i64 ((rd_T31 t153 x80_3).f1), .int .i64 0]) ?_ 2 _ rfl; (with_reducible repeat (first | refine blk_drewN ?_ _ | refine blk_drew ?_ | refine blk_alloc ?_ _)); refine blk_put (cs := #[.int .i64 ((rd_T31 t153 x80_3).f0), .int .i64 0, .int .i64 0]) ?_ 1 _ rfl; (with_reducible repeat (first | refine blk_drewN ?_ _ | refine blk_drew ?_ | refine blk_alloc ?_ _)); refine blk_put (cs := #[.int .i64 0, .int .i64 0, .int .i64 0]) ?_ 0 _ rfl; (with_reducible repeat (first | refine blk_drewN ?_ _ | refine blk_drew ?_ | refine blk_alloc ?_ _)); exact BK160.out)) : gb161 ≠ gb160)); clear HO_5; clear HO_7; clear HO_78; clear BK160; clear HB; have HO_5 := n0_; have HO_7 := n1_; have HO_78 := n2_; have BK160 := n3_; have HB := n4_; have BK161 := n5_; have GW161 := n6_; have GE161 := n7_; have NB160_161 := n8_; have NB161_160 := n9_; clear n0_ n1_ n2_ n3_ n4_ n5_ n6_ n7_ n8_ n9_; clear hb hbox hg; have hnb93 := NB161_160.out; have hnc93 := NB160_161.out; have hcz94_0 : w92.cell? ⟨gb161, 0, none⟩ = some (.int .i64 0) := (blk_cell BK161.out 0).trans rfl; have hcz94_1 : w92.cell? ⟨gb161, 1, none⟩ = some (.int .i64 0) := (blk_cell BK161.out 1).trans rfl; have hcz94_2 : w92.cell? ⟨gb161, 2, none⟩ = some (.int .i64 0) := (blk_cell BK161.out 2).trans rfl; have hfz94_0 := blk_frozen BK161.out 0; have hfz94_1 := blk_frozen BK161.out 1; have hfz94_2 := blk_frozen BK161.out 2; have p165 : 0 ≤ ((ji86) : Int) := of_decide_eq_true aO; have q165 : (ji86) < (t138.length : Int) := of_decide_eq_true aO; obtain ⟨ad165, e165, hx165_0, hx165_1, hx165_2⟩ := at_T31 (Kd.R_reads' HO_7.out).2.2 (ji86) p165 q165; cases e165; have hn165_0 : ad165.block ≠ gb161 := Kd.own_blk (Kd.R_away HO_7.out (fun _ hk => hk.2)); have hn165_1 : ad165.block ≠ gb161 := Kd.own_blk (Kd.R_away HO_7.out (fun _ hk => hk.2)); have hn165_2 : ad165.block ≠ gb161 := Kd.own_blk (Kd.R_away HO_7.out (fun _ hk => hk.2)); replace hx165_0 := (cell_far (p := ⟨gb161, 0, none⟩) (by first | (rw [add_block]; exact hn165_0) | (show (Addr.add _ _).block ≠ _; rw [add_block]; exact hn165_0) | exact hn165_0) (.int .i64 0)).trans hx165_0; replace hx165_1 := (cell_far (p := ⟨gb161, 0, none⟩) (by first | (rw [add_block]; exact hn165_0) | (show (Addr.add _ _).block ≠ _; rw [add_block]; exact hn165_0) | exact hn165_0) (.int .i64 0)).trans hx165_1; replace hx165_2 := (cell_far (p := ⟨gb161, 0, none⟩) (by first | (rw [add_block]; exact hn165_0) | (show (Addr.add _ _).block ≠ _; rw [add_block]; exact hn165_0) | exact hn165_0) (.int .i64 0)).trans hx165_2; replace hx165_0 := (cell_far (p := ⟨gb161, 1, none⟩) (by first | (rw [add_block]; exact hn165_1) | (show (Addr.add _ _).block ≠ _; rw [add_block]; exact hn165_1) | exact hn165_1) (.int .i64 0)).trans hx165_0; replace hx165_1 := (cell_far (p := ⟨gb161, 1, none⟩) (by first | (rw [add_block]; exact hn165_1) | (show (Addr.add _ _).block ≠ _; rw [add_block]; exact hn165_1) | exact hn165_1) (.int .i64 0)).trans hx165_1; replace hx165_2 := (cell_far (p := ⟨gb161, 1, none⟩) (by first | (rw [add_block]; exact hn165_1) | (show (Addr.add _ _).block ≠ _; rw [add_block]; exact hn165_1) | exact hn165_1) (.int .i64 0)).trans hx165_2; replace hx165_0 := (cell_far (p := ⟨gb161, 2, none⟩) (by first | (rw [add_block]; exact hn165_2) | (show (Addr.add _ _).block ≠ _; rw [add_block]; exact hn165_2) | exact hn165_2) (.int .i64 0)).trans hx165_0; replace hx165_1 := (cell_far (p := ⟨gb161, 2, none⟩) (by first | (rw [add_block]; exact hn165_2) | (show (Addr.add _ _).block ≠ _; rw [add_block]; exact hn165_2) | exact hn165_2) (.int .i64 0)).trans hx165_1; replace hx165_2 := (cell_far (p := ⟨gb161, 2, none⟩) (by first | (rw [add_block]; exact hn165_2) | (show (Addr.add _ _).block ≠ _; rw [add_block]; exact hn165_2) | exact hn165_2) (.int .i64 0)).trans hx165_2; clear hn165_0; clear hn165_1; clear hn165_2; replace p165 := eq_true p165; replace q165 := eq_true q165) | ((with_reducible refine gate_dst (N := 13) rfl ?_); (try (refine gate_guard (by rfl) ?_; dsimp only)); refine box_event ?hg (N := 13) ?hd (cs := #[.int .i64 0, .int .i64 0, .int .i64 0]) (t := 31) ?hr ?_; (case hd => rfl); (case hg => rfl); (case hr => first | (go_simp; done) | (go_simp; rfl)); intro gb166 hg w95 hbox hb; have n0_ := Aside0.mk (Kd.R_below (Kd.R_elderB (by (with_reducible repeat (first | apply Kd.R_alloc | apply Kd.R_drewN | apply Kd.R_drew)); exact (Kd.R_mono (Kd.R_far (p := ⟨gb161, 2, none⟩) (Kd.R_far (p := ⟨gb161, 1, none⟩) (Kd.R_far (p := ⟨gb161, 0, none⟩) (Kd.R_mono HO_5.out (fun k_ hk => (⟨hk, hk.2⟩ : _ ∧ k_ ≠ gb161))) (fun _ hk => hk.2) (.int .i64 0)) (fun _ hk => hk.2) (.int .i64 0)) (fun _ hk => hk.2) (.int .i64 0)) (fun _ h_ => h_.1))) gb166 (Nat.le_of_eq hg.symm)) hb); have n1_ := Aside0.mk (Kd.R_below (Kd.R_elderB (by (with_reducible repeat (first | apply Kd.R_alloc | apply Kd.R_drewN | apply Kd.R_drew)); exact (Kd.R_mono (Kd.R_far (p := ⟨gb161, 2, none⟩) (Kd.R_far (p := ⟨gb161, 1, none⟩) (Kd.R_far (p := ⟨gb161, 0, none⟩) (Kd.R_mono HO_7.out (fun k_ hk => (⟨hk, hk.2⟩ : _ ∧ k_ ≠ gb161))) (fun _ hk => hk.2) (.int .i64 0)) (fun _ hk => hk.2) (.int .i64 0)) (fun _ hk => hk.2) (.int .i64 0)) (fun _ h_ => h_.1))) gb166 (Nat.le_of_eq hg.symm)) hb); have n2_ := Aside0.mk (Kd.R_below (Kd.R_elderB (by (with_reducible repeat (first | apply Kd.R_alloc | apply Kd.R_drewN | apply Kd.R_drew)); exact (Kd.R_mono (Kd.R_far (p := ⟨gb161, 2, none⟩) (Kd.R_far (p := ⟨gb161, 1, none⟩) (Kd.R_far (p := ⟨gb161, 0, none⟩) (Kd.R_mono HO_78.out (fun k_ hk => (⟨hk, hk.2⟩ : _ ∧ k_ ≠ gb161))) (fun _ hk => hk.2) (.int .i64 0)) (fun _ hk => hk.2) (.int .i64 0)) (fun _ hk => hk.2) (.int .i64 0)) (fun _ h_ => h_.1))) gb166 (Nat.le_of_eq hg.symm)) hb); have n3_ := Aside0.mk (blk_below (g := gb160) (o := .cells #[.int .i64 ((rd_T31 t153 x80_3).f0), .int .i64 ((rd_T31 t153 x80_3).f1), .int .i64 ((rd_T31 t153 x80_3).f2)] 31 (0, 0)) (by (with_reducible repeat (first | refine blk_drewN ?_ _ | refine blk_drew ?_ | refine blk_alloc ?_ _)); refine blk_far ?_ NB160_161.out _; (with_reducible repeat (first | refine blk_drewN ?_ _ | refine blk_drew ?_ | refine blk_alloc ?_ _)); refine blk_far ?_ NB160_161.out _; (with_reducible repeat (first | refine blk_drewN ?_ _ | refine blk_drew ?_ | refine blk_alloc ?_ _)); refine blk_far ?_ NB160_161.out _; (with_reducible repeat (first | refine blk_drewN ?_ _ | refine blk_drew ?_ | refine blk_alloc ?_ _)); exact BK160.out) hb); have n4_ := Aside0.mk (blk_below (g := gb161) (o := .cells #[.int .i64 0, .int .i64 0, .int .i64 0] 31 (0, 0)) (by (with_reducible repeat (first | refine blk_drewN ?_ _ | refine blk_drew ?_ | refine blk_alloc ?_ _)); refine blk_put (cs := #[.int .i64 0, .int .i64 0, .int .i64 0]) ?_ 2 _ rfl; (with_reducible repeat (first | refine blk_drewN ?_ _ | refine blk_drew ?_ | refine blk_alloc ?_ _)); refine blk_put (cs := #[.int .i64 0, .int .i64 0, .int .i64 0]) ?_ 1 _ rfl; (with_reducible repeat (first | refine blk_drewN ?_ _ | refine blk_drew ?_ | refine blk_alloc ?_ _)); refine blk_put (cs := #[.int .i64 0, .int .i64 0, .int .i64 0]) ?_ 0 _ rfl; (with_reducible repeat (first | refine blk_drewN ?_ _ | refine blk_drew ?_ | refine blk_alloc ?_ _)); exact BK161.out) hb); have n5_ := Aside0.mk (below_step (by repeat (first | (with_reducible first | exact HB.out | apply below_alloc | apply pw_below_drewN | apply below_drew1 | refine below_set ?_ GE160.out | refine below_set ?_ GE161.out) | exact HB.out)) hb); have n6_ := Aside0.mk (hbox); have n7_ := Aside0.mk ((by rw [hg]; exact (below_size (by repeat (first | (with_reducible first | exact HB.out | apply below_alloc | apply pw_below_drewN | apply below_drew1 | refine below_set ?_ GE160.out | refine below_set ?_ GE161.out) | exact HB.out))) : w.heap.size ≤ gb166)); have n8_ := Aside0.mk ((by rw [hg]; exact (below_size (by repeat (first | (with_reducible first | exact HB.out | apply below_alloc | apply pw_below_drewN | apply below_drew1 | refine below_set ?_ GE160.out | refine below_set ?_ GE161.out) | exact HB.out))) : w.heap.size ≤ gb166)); have n9_ := Aside0.mk ((by rw [hg]; exact Nat.ne_of_lt (blk_lt (g := gb160) (o := .cells #[.int .i64 ((rd_T31 t153 x80_3).f0), .int .i64 ((rd_T31 t153 x80_3).f1), .int .i64 ((rd_T31 t153 x80_3).f2)] 31 (0, 0)) (by (with_reducible repeat (first | refine blk_drewN ?_ _ | refine blk_drew ?_ | refine blk_alloc ?_ _)); refine blk_far ?_ NB160_161.out _; (with_reducible repeat (first | refine blk_drewN ?_ _ | refine blk_drew ?_ | refine blk_alloc ?_ _)); refine blk_far ?_ NB160_161.out _; (with_reducible repeat (first | refine blk_drewN ?_ _ | refine blk_drew ?_ | refine blk_alloc ?_ _)); refine blk_far ?_ NB160_161.out _; (with_reducible repeat (first | refine blk_drewN ?_ _ | refine blk_drew ?_ | refine blk_alloc ?_ _)); exact BK160.out)) : gb160 ≠ gb166)); have n10_ := Aside0.mk ((by rw [hg]; exact Nat.ne_of_gt (blk_lt (g := gb160) (o := .cells #[.int .i64 ((rd_T31 t153 x80_3).f0), .int .i64 ((rd_T31 t153 x80_3).f1), .int .i64 ((rd_T31 t153 x80_3).f2)] 31 (0, 0)) (by (with_reducible repeat (first | refine blk_drewN ?_ _ | refine blk_drew ?_ | refine blk_alloc ?_ _)); refine blk_far ?_ NB160_161.out _; (with_reducible repeat (first | refine blk_drewN ?_ _ | refine blk_drew ?_ | refine blk_alloc ?_ _)); refine blk_far ?_ NB160_161.out _; (with_reducible repeat (first | refine blk_drewN ?_ _ | refine blk_drew ?_ | refine blk_alloc ?_ _)); refine blk_far ?_ NB160_161.out _; (with_reducible repeat (first | refine blk_drewN ?_ _ | refine blk_drew ?_ | refine blk_alloc ?_ _)); exact BK160.out)) : gb166 ≠ gb160)); have n11_ := Aside0.mk ((by rw [hg]; exact Nat.ne_of_lt (blk_lt (g := gb161) (o := .cells #[.int .i64 0, .int .i64 0, .int .i64 0] 31 (0, 0)) (by (with_reducible repeat (first | refine blk_drewN ?_ _ | refine blk_drew ?_ | refine blk_alloc ?_ _)); refine blk_put (cs := #[.int .i64 0, .int .i64 0, .int .i64 0]) ?_ 2 _ rfl; (with_reducible repeat (first | refine blk_drewN ?_ _ | refine blk_drew ?_ | refine blk_alloc ?_ _)); refine blk_put (cs := #[.int .i64 0, .int .i64 0, .int .i64 0]) ?_ 1 _ rfl; (with_reducible repeat (first | refine blk_drewN ?_ _ | refine blk_drew ?_ | refine blk_alloc ?_ _)); refine blk_put (cs := #[.int .i64 0, .int .i64 0, .int .i64 0]) ?_ 0 _ rfl; (with_reducible repeat (first | refine blk_drewN ?_ _ | refine blk_drew ?_ | refine blk_alloc ?_ _)); exact BK161.out)) : gb161 ≠ gb166)); have n12_ := Aside0.mk ((by rw [hg]; exact Nat.ne_of_gt (blk_lt (g := gb161) (o := .cells #[.int .i64 0, .int .i64 0, .int .i64 0] 31 (0, 0)) (by (with_reducible repeat (first | refine blk_drewN ?_ _ | refine blk_drew ?_ | refine blk_alloc ?_ _)); refine blk_put (cs := #[.int .i64 0, .int .i64 0, .int .i64 0]) ?_ 2 _ rfl; (with_reducible repeat (first | refine blk_drewN ?_ _ | refine blk_drew ?_ | refine blk_alloc ?_ _)); refine blk_put (cs := #[.int .i64 0, .int .i64 0, .int .i64 0]) ?_ 1 _ rfl; (with_reducible repeat (first | refine blk_drewN ?_ _ | refine blk_drew ?_ | refine blk_alloc ?_ _)); refine blk_put (cs := #[.int .i64 0, .int .i64 0, .int .i64 0]) ?_ 0 _ rfl; (with_reducible repeat (first | refine blk_drewN ?_ _ | refine blk_drew ?_ | refine blk_alloc ?_ _)); exact BK161.out)) : gb166 ≠ gb161)); clear HO_5; clear HO_7; clear HO_78; clear BK160; clear BK161; clear HB; have HO_5 := n0_; have HO_7 := n1_; have HO_78 := n2_; have BK160 := n3_; have BK161 := n4_; have HB := n5_; have BK166 := n6_; have GW166 := n7_; have GE166 := n8_; have NB160_166 := n9_; have NB166_160 := n10_; have NB161_166 := n11_; have NB166_161 := n12_; clear n0_ n1_ n2_ n3_ n4_ n5_ n6_ n7_ n8_ n9_ n10_ n11_ n12_; (try have hxb165_0 := pw_cell_below hb hx165_0); (try have hxb165_1 := pw_cell_below hb hx165_1); (try have hxb165_2 := pw_cell_below hb hx165_2); clear hb hbox hg; have hnb96 := NB166_160.out; have hnc96 := NB160_166.out; have hnb97 := NB166_161.out; have hnc97 := NB161_166.out; have hcz98_0 : w95.cell? ⟨gb166, 0, none⟩ = some (.int .i64 0) := (blk_cell BK166.out 0).trans rfl; have hcz98_1 : w95.cell? ⟨gb166, 1, none⟩ = some (.int .i64 0) := (blk_cell BK166.out 1).trans rfl; have hcz98_2 : w95.cell? ⟨gb166, 2, none⟩ = some (.int .i64 0) := (blk_cell BK166.out 2).trans rfl; have hfz98_0 := blk_frozen BK166.out 0; have hfz98_1 := blk_frozen BK166.out 1; have hfz98_2 := blk_frozen BK166.out 2; have hcz99_0 : w95.cell? ⟨gb161, 0, none⟩ = some (.int .i64 0) := (blk_cell BK161.out 0).trans rfl; have hcz99_1 : w95.cell? ⟨gb161, 1, none⟩ = some (.int .i64 0) := (blk_cell BK161.out 1).trans rfl; have hcz99_2 : w95.cell? ⟨gb161, 2, none⟩ = some (.int .i64 0) := (blk_cell BK161.out 2).trans rfl; have hfz99_0 := blk_frozen BK161.out 0; have hfz99_1 := blk_frozen BK161.out 1; have hfz99_2 := blk_frozen BK161.out 2; have hcz100_0 : w95.cell? ⟨gb160, 0, none⟩ = some (.int .i64 ((rd_T31 t153 x80_3).f0)) := (blk_cell BK160.out 0).trans rfl; have hcz100_1 : w95.cell? ⟨gb160, 1, none⟩ = some (.int .i64 ((rd_T31 t153 x80_3).f1)) := (blk_cell BK160.out 1).trans rfl; have hcz100_2 : w95.cell? ⟨gb160, 2, none⟩ = some (.int .i64 ((rd_T31 t153 x80_3).f2)) := (blk_cell BK160.out 2).trans rfl; have hfz100_0 := blk_frozen BK160.out 0; have hfz100_1 := blk_frozen BK160.out 1; have hfz100_2 := blk_frozen BK160.out 2))
                         go_ret
                         exact ⟨by first | rfl | (simp [errW_none, errW_some] <;> rfl) | (simp only [← hji86]; first | rfl | (simp [errW_none, errW_some] <;> rfl)) | (simp [*, errW_none, errW_some] <;> rfl), by repeat (first | (with_reducible first | exact HB.out | apply below_alloc | apply pw_below_drewN | apply below_drew1 | refine below_set ?_ GE160.out | refine below_set ?_ GE161.out | refine below_set ?_ GE166.out) | exact HB.out)⟩
                        ·rw [if_neg c89] at H
                         have c89b0 : (!(((rd_T31 t153 x80_3).f0) == (Go.bits .or .i64 ((rd_T31 t138 (ji86)).f0) (l0.length : Int))) || (!(((rd_T31 t153 x80_3).f1) == (Go.bits .or .i64 ((rd_T31 t138 (ji86)).f1) (l0.length : Int))) || (!(((rd_T31 t153 x80_3).f2) == ((rd_T31 t138 (ji86)).f2))))) = false := by simpa using c89
                         clear c89
                         have H' := Aside0.mk H
                         clear H
                         have p159 : 0 ≤ (x80_3 : Int) := of_decide_eq_true aO
                         have q159 : x80_3 < (t153.length : Int) := of_decide_eq_true aO
                         obtain ⟨ad159, e159, hx159_0, hx159_1, hx159_2⟩ := at_T31 (Kd.R_reads' HO_78.out).2.2 x80_3 p159 q159
                         cases e159
                         replace p159 := eq_true p159
                         replace q159 := eq_true q159
                         go_wp2_with (first | ((with_reducible refine gate_dst (N := 11) rfl ?_); (try (refine gate_guard (by rfl) ?_; dsimp only)); refine box_event ?hg (N := 11) ?hd (cs := #[.int .i64 0, .int .i64 0, .int .i64 0]) (t := 31) ?hr ?_; (case hd => rfl); (case hg => rfl); (case hr => first | (go_simp; done) | (go_simp; rfl)); intro gb160 hg w101 hbox hb; have n0_ := Aside0.mk (Kd.R_below (Kd.R_elderB (rO HO_5.out) gb160 (Nat.le_of_eq hg.symm)) hb); have n1_ := Aside0.mk (Kd.R_below (Kd.R_elderB (rO HO_7.out) gb160 (Nat.le_of_eq hg.symm)) hb); have n2_ := Aside0.mk (Kd.R_below (Kd.R_elderB (rO HO_78.out) gb160 (Nat.le_of_eq hg.symm)) hb); have n3_ := Aside0.mk (below_step (bO HB.out) hb); have n4_ := Aside0.mk (hbox); have n5_ := Aside0.mk ((by rw [hg]; exact (below_size (bO HB.out)) : w.heap.size ≤ gb160)); have n6_ := Aside0.mk ((by rw [hg]; exact (below_size (bO HB.out)) : w.heap.size ≤ gb160)); clear HO_5; clear HO_7; clear HO_78; clear HB; have HO_5 := n0_; have HO_7 := n1_; have HO_78 := n2_; have HB := n3_; have BK160 := n4_; have GW160 := n5_; have GE160 := n6_; clear n0_ n1_ n2_ n3_ n4_ n5_ n6_; (try have hxb159_0 := pw_cell_below hb hx159_0); (try have hxb159_1 := pw_cell_below hb hx159_1); (try have hxb159_2 := pw_cell_below hb hx159_2); (try have hxb159_0 := pw_cell_below hb hx159_0); (try have hxb159_1 := pw_cell_below hb hx159_1); (try have hxb159_2 := pw_cell_below hb hx159_2); (try have hxb159_0 := pw_cell_below hb hx159_0); (try have hxb159_1 := pw_cell_below hb hx159_1); (try have hxb159_2 := pw_cell_below hb hx159_2); (try have hxb159_0 := pw_cell_below hb hx159_0); (try have hxb159_1 := pw_cell_below hb hx159_1); (try have hxb159_2 := pw_cell_below hb hx159_2); clear hb hbox hg; have hcz102_0 : w101.cell? ⟨gb160, 0, none⟩ = some (.int .i64 0) := (blk_cell BK160.out 0).trans rfl; have hcz102_1 : w101.cell? ⟨gb160, 1, none⟩ = some (.int .i64 0) := (blk_cell BK160.out 1).trans rfl; have hcz102_2 : w101.cell? ⟨gb160, 2, none⟩ = some (.int .i64 0) := (blk_cell BK160.out 2).trans rfl; have hfz102_0 := blk_frozen BK160.out 0; have hfz102_1 := blk_frozen BK160.out 1; have hfz102_2 := blk_frozen BK160.out 2) | ((with_reducible refine gate_dst (N := 12) rfl ?_); (try (refine gate_guard (by rfl) ?_; dsimp only)); refine box_event ?hg (N := 12) ?hd (cs := #[.int .i64 0, .int .i64 0, .int .i64 0]) (t := 31) ?hr ?_; (case hd => rfl); (case hg => rfl); (case hr => first | (go_simp; done) | (go_simp; rfl)); intro gb161 hg w103 hbox hb; have n0_ := Aside0.mk (Kd.R_below (Kd.R_elderB (by (with_reducible repeat (first | apply Kd.R_alloc | apply Kd.R_drewN | apply Kd.R_drew)); exact (Kd.R_mono (Kd.R_far (p := ⟨gb160, 2, none⟩) (Kd.R_far (p := ⟨gb160, 1, none⟩) (Kd.R_far (p := ⟨gb160, 0, none⟩) (Kd.R_mono HO_5.out (fun k_ hk => (⟨hk, hk.2⟩ : _ ∧ k_ ≠ gb160))) (fun _ hk => hk.2) (.int .i64 ((rd_T31 t153 x80_3).f0))) (fun _ hk => hk.2) (.int .i64 ((rd_T31 t153 x80_3).f1))) (fun _ hk => hk.2) (.int .i64 ((rd_T31 t153 x80_3).f2))) (fun _ h_ => h_.1))) gb161 (Nat.le_of_eq hg.symm)) hb); have n1_ := Aside0.mk (Kd.R_below (Kd.R_elderB (by (with_reducible repeat (first | apply Kd.R_alloc | apply Kd.R_drewN | apply Kd.R_drew)); exact (Kd.R_mono (Kd.R_far (p := ⟨gb160, 2, none⟩) (Kd.R_far (p := ⟨gb160, 1, none⟩) (Kd.R_far (p := ⟨gb160, 0, none⟩) (Kd.R_mono HO_7.out (fun k_ hk => (⟨hk, hk.2⟩ : _ ∧ k_ ≠ gb160))) (fun _ hk => hk.2) (.int .i64 ((rd_T31 t153 x80_3).f0))) (fun _ hk => hk.2) (.int .i64 ((rd_T31 t153 x80_3).f1))) (fun _ hk => hk.2) (.int .i64 ((rd_T31 t153 x80_3).f2))) (fun _ h_ => h_.1))) gb161 (Nat.le_of_eq hg.symm)) hb); have n2_ := Aside0.mk (Kd.R_below (Kd.R_elderB (by (with_reducible repeat (first | apply Kd.R_alloc | apply Kd.R_drewN | apply Kd.R_drew)); exact (Kd.R_mono (Kd.R_far (p := ⟨gb160, 2, none⟩) (Kd.R_far (p := ⟨gb160, 1, none⟩) (Kd.R_far (p := ⟨gb160, 0, none⟩) (Kd.R_mono HO_78.out (fun k_ hk => (⟨hk, hk.2⟩ : _ ∧ k_ ≠ gb160))) (fun _ hk => hk.2) (.int .i64 ((rd_T31 t153 x80_3).f0))) (fun _ hk => hk.2) (.int .i64 ((rd_T31 t153 x80_3).f1))) (fun _ hk => hk.2) (.int .i64 ((rd_T31 t153 x80_3).f2))) (fun _ h_ => h_.1))) gb161 (Nat.le_of_eq hg.symm)) hb); have n3_ := Aside0.mk (blk_below (g := gb160) (o := .cells #[.int .i64 ((rd_T31 t153 x80_3).f0), .int .i64 ((rd_T31 t153 x80_3).f1), .int .i64 ((rd_T31 t153 x80_3).f2)] 31 (0, 0)) (by (with_reducible repeat (first | refine blk_drewN ?_ _ | refine blk_drew ?_ | refine blk_alloc ?_ _)); refine blk_put (cs := #[.int .i64 ((rd_T31 t153 x80_3).f0), .int .i64 ((rd_T31 t153 x80_3).f1), .int .i64 0]) ?_ 2 _ rfl; (with_reducible repeat (first | refine blk_drewN ?_ _ | refine blk_drew ?_ | refine blk_alloc ?_ _)); refine blk_put (cs := #[.int .i64 ((rd_T31 t153 x80_3).f0), .int .i64 0, .int .i64 0]) ?_ 1 _ rfl; (with_reducible repeat (first | refine blk_drewN ?_ _ | refine blk_drew ?_ | refine blk_alloc ?_ _)); refine blk_put (cs := #[.int .i64 0, .int .i64 0, .int .i64 0]) ?_ 0 _ rfl; (with_reducible repeat (first | refine blk_drewN ?_ _ | refine blk_drew ?_ | refine blk_alloc ?_ _)); exact BK160.out) hb); have n4_ := Aside0.mk (below_step (by repeat (first | (with_reducible first | exact HB.out | apply below_alloc | apply pw_below_drewN | apply below_drew1 | refine below_set ?_ GE160.out) | exact HB.out)) hb); have n5_ := Aside0.mk (hbox); have n6_ := Aside0.mk ((by rw [hg]; exact (below_size (by repeat (first | (with_reducible first | exact HB.out | apply below_alloc | apply pw_below_drewN | apply below_drew1 | refine below_set ?_ GE160.out) | exact HB.out))) : w.heap.size ≤ gb161)); have n7_ := Aside0.mk ((by rw [hg]; exact (below_size (by repeat (first | (with_reducible first | exact HB.out | apply below_alloc | apply pw_below_drewN | apply below_drew1 | refine below_set ?_ GE160.out) | exact HB.out))) : w.heap.size ≤ gb161)); have n8_ := Aside0.mk ((by rw [hg]; exact Nat.ne_of_lt (blk_lt (g := gb160) (o := .cells #[.int .i64 ((rd_T31 t153 x80_3).f0), .int .i64 ((rd_T31 t153 x80_3).f1), .int .i64 ((rd_T31 t153 x80_3).f2)] 31 (0, 0)) (by (with_reducible repeat (first | refine blk_drewN ?_ _ | refine blk_drew ?_ | refine blk_alloc ?_ _)); refine blk_put (cs := #[.int .i64 ((rd_T31 t153 x80_3).f0), .int .i64 ((rd_T31 t153 x80_3).f1), .int .i64 0]) ?_ 2 _ rfl; (with_reducible repeat (first | refine blk_drewN ?_ _ | refine blk_drew ?_ | refine blk_alloc ?_ _)); refine blk_put (cs := #[.int .i64 ((rd_T31 t153 x80_3).f0), .int .i64 0, .int .i64 0]) ?_ 1 _ rfl; (with_reducible repeat (first | refine blk_drewN ?_ _ | refine blk_drew ?_ | refine blk_alloc ?_ _)); refine blk_put (cs := #[.int .i64 0, .int .i64 0, .int .i64 0]) ?_ 0 _ rfl; (with_reducible repeat (first | refine blk_drewN ?_ _ | refine blk_drew ?_ | refine blk_alloc ?_ _)); exact BK160.out)) : gb160 ≠ gb161)); have n9_ := Aside0.mk ((by rw [hg]; exact Nat.ne_of_gt (blk_lt (g := gb160) (o := .cells #[.int .i64 ((rd_T31 t153 x80_3).f0), .int .i64 ((rd_T31 t153 x80_3).f1), .int .i64 ((rd_T31 t153 x80_3).f2)] 31 (0, 0)) (by (with_reducible repeat (first | refine blk_drewN ?_ _ | refine blk_drew ?_ | refine blk_alloc ?_ _)); refine blk_put (cs := #[.int .i64 ((rd_T31 t153 x80_3).f0), .int .i64 ((rd_T31 t153 x80_3).f1), .int .i64 0]) ?_ 2 _ rfl; (with_reducible repeat (first | refine blk_drewN ?_ _ | refine blk_drew ?_ | refine blk_alloc ?_ _)); refine blk_put (cs := #[.int .i64 ((rd_T31 t153 x80_3).f0), .int .i64 0, .int .i64 0]) ?_ 1 _ rfl; (with_reducible repeat (first | refine blk_drewN ?_ _ | refine blk_drew ?_ | refine blk_alloc ?_ _)); refine blk_put (cs := #[.int .i64 0, .int .i64 0, .int .i64 0]) ?_ 0 _ rfl; (with_reducible repeat (first | refine blk_drewN ?_ _ | refine blk_drew ?_ | refine blk_alloc ?_ _)); exact BK160.out)) : gb161 ≠ gb160)); clear HO_5; clear HO_7; clear HO_78; clear BK160; clear HB; have HO_5 := n0_; have HO_7 := n1_; have HO_78 := n2_; have BK160 := n3_; have HB := n4_; have BK161 := n5_; have GW161 := n6_; have GE161 := n7_; have NB160_161 := n8_; have NB161_160 := n9_; clear n0_ n1_ n2_ n3_ n4_ n5_ n6_ n7_ n8_ n9_; clear hb hbox hg; have hnb104 := NB161_160.out; have hnc104 := NB160_161.out; have hcz105_0 : w103.cell? ⟨gb161, 0, none⟩ = some (.int .i64 0) := (blk_cell BK161.out 0).trans rfl; have hcz105_1 : w103.cell? ⟨gb161, 1, none⟩ = some (.int .i64 0) := (blk_cell BK161.out 1).trans rfl; have hcz105_2 : w103.cell? ⟨gb161, 2, none⟩ = some (.int .i64 0) := (blk_cell BK161.out 2).trans rfl; have hfz105_0 := blk_frozen BK161.out 0; have hfz105_1 := blk_frozen BK161.out 1; have hfz105_2 := blk_frozen BK161.out 2; have p165 : 0 ≤ ((ji86) : Int) := of_decide_eq_true aO; have q165 : (ji86) < (t138.length : Int) := of_decide_eq_true aO; obtain ⟨ad165, e165, hx165_0, hx165_1, hx165_2⟩ := at_T31 (Kd.R_reads' HO_7.out).2.2 (ji86) p165 q165; cases e165; have hn165_0 : ad165.block ≠ gb161 := Kd.own_blk (Kd.R_away HO_7.out (fun _ hk => hk.2)); have hn165_1 : ad165.block ≠ gb161 := Kd.own_blk (Kd.R_away HO_7.out (fun _ hk => hk.2)); have hn165_2 : ad165.block ≠ gb161 := Kd.own_blk (Kd.R_away HO_7.out (fun _ hk => hk.2)); replace hx165_0 := (cell_far (p := ⟨gb161, 0, none⟩) (by first | (rw [add_block]; exact hn165_0) | (show (Addr.add _ _).block ≠ _; rw [add_block]; exact hn165_0) | exact hn165_0) (.int .i64 0)).trans hx165_0; replace hx165_1 := (cell_far (p := ⟨gb161, 0, none⟩) (by first | (rw [add_block]; exact hn165_0) | (show (Addr.add _ _).block ≠ _; rw [add_block]; exact hn165_0) | exact hn165_0) (.int .i64 0)).trans hx165_1; replace hx165_2 := (cell_far (p := ⟨gb161, 0, none⟩) (by first | (rw [add_block]; exact hn165_0) | (show (Addr.add _ _).block ≠ _; rw [add_block]; exact hn165_0) | exact hn165_0) (.int .i64 0)).trans hx165_2; replace hx165_0 := (cell_far (p := ⟨gb161, 1, none⟩) (by first | (rw [add_block]; exact hn165_1) | (show (Addr.add _ _).block ≠ _; rw [add_block]; exact hn165_1) | exact hn165_1) (.int .i64 0)).trans hx165_0; replace hx165_1 := (cell_far (p := ⟨gb161, 1, none⟩) (by first | (rw [add_block]; exact hn165_1) | (show (Addr.add _ _).block ≠ _; rw [add_block]; exact hn165_1) | exact hn165_1) (.int .i64 0)).trans hx165_1; replace hx165_2 := (cell_far (p := ⟨gb161, 1, none⟩) (by first | (rw [add_block]; exact hn165_1) | (show (Addr.add _ _).block ≠ _; rw [add_block]; exact hn165_1) | exact hn165_1) (.int .i64 0)).trans hx165_2; replace hx165_0 := (cell_far (p := ⟨gb161, 2, none⟩) (by first | (rw [add_block]; exact hn165_2) | (show (Addr.add _ _).block ≠ _; rw [add_block]; exact hn165_2) | exact hn165_2) (.int .i64 0)).trans hx165_0; replace hx165_1 := (cell_far (p := ⟨gb161, 2, none⟩) (by first | (rw [add_block]; exact hn165_2) | (show (Addr.add _ _).block ≠ _; rw [add_block]; exact hn165_2) | exact hn165_2) (.int .i64 0)).trans hx165_1; replace hx165_2 := (cell_far (p := ⟨gb161, 2, none⟩) (by first | (rw [add_block]; exact hn165_2) | (show (Addr.add _ _).block ≠ _; rw [add_block]; exact hn165_2) | exact hn165_2) (.int .i64 0)).trans hx165_2; clear hn165_0; clear hn165_1; clear hn165_2; replace p165 := eq_true p165; replace q165 := eq_true q165) | ((with_reducible refine gate_dst (N := 13) rfl ?_); (try (refine gate_guard (by rfl) ?_; dsimp only)); refine box_event ?hg (N := 13) ?hd (cs := #[.int .i64 0, .int .i64 0, .int .i64 0]) (t := 31) ?hr ?_; (case hd => rfl); (case hg => rfl); (case hr => first | (go_simp; done) | (go_simp; rfl)); intro gb166 hg w106 hbox hb; have n0_ := Aside0.mk (Kd.R_below (Kd.R_elderB (by (with_reducible repeat (first | apply Kd.R_alloc | apply Kd.R_drewN | apply Kd.R_drew)); exact (Kd.R_mono (Kd.R_far (p := ⟨gb161, 2, none⟩) (Kd.R_far (p := ⟨gb161, 1, none⟩) (Kd.R_far (p := ⟨gb161, 0, none⟩) (Kd.R_mono HO_5.out (fun k_ hk => (⟨hk, hk.2⟩ : _ ∧ k_ ≠ gb161))) (fun _ hk => hk.2) (.int .i64 0)) (fun _ hk => hk.2) (.int .i64 0)) (fun _ hk => hk.2) (.int .i64 0)) (fun _ h_ => h_.1))) gb166 (Nat.le_of_eq hg.symm)) hb); have n1_ := Aside0.mk (Kd.R_below (Kd.R_elderB (by (with_reducible repeat (first | apply Kd.R_alloc | apply Kd.R_drewN | apply Kd.R_drew)); exact (Kd.R_mono (Kd.R_far (p := ⟨gb161, 2, none⟩) (Kd.R_far (p := ⟨gb161, 1, none⟩) (Kd.R_far (p := ⟨gb161, 0, none⟩) (Kd.R_mono HO_7.out (fun k_ hk => (⟨hk, hk.2⟩ : _ ∧ k_ ≠ gb161))) (fun _ hk => hk.2) (.int .i64 0)) (fun _ hk => hk.2) (.int .i64 0)) (fun _ hk => hk.2) (.int .i64 0)) (fun _ h_ => h_.1))) gb166 (Nat.le_of_eq hg.symm)) hb); have n2_ := Aside0.mk (Kd.R_below (Kd.R_elderB (by (with_reducible repeat (first | apply Kd.R_alloc | apply Kd.R_drewN | apply Kd.R_drew)); exact (Kd.R_mono (Kd.R_far (p := ⟨gb161, 2, none⟩) (Kd.R_far (p := ⟨gb161, 1, none⟩) (Kd.R_far (p := ⟨gb161, 0, none⟩) (Kd.R_mono HO_78.out (fun k_ hk => (⟨hk, hk.2⟩ : _ ∧ k_ ≠ gb161))) (fun _ hk => hk.2) (.int .i64 0)) (fun _ hk => hk.2) (.int .i64 0)) (fun _ hk => hk.2) (.int .i64 0)) (fun _ h_ => h_.1))) gb166 (Nat.le_of_eq hg.symm)) hb); have n3_ := Aside0.mk (blk_below (g := gb160) (o := .cells #[.int .i64 ((rd_T31 t153 x80_3).f0), .int .i64 ((rd_T31 t153 x80_3).f1), .int .i64 ((rd_T31 t153 x80_3).f2)] 31 (0, 0)) (by (with_reducible repeat (first | refine blk_drewN ?_ _ | refine blk_drew ?_ | refine blk_alloc ?_ _)); refine blk_far ?_ NB160_161.out _; (with_reducible repeat (first | refine blk_drewN ?_ _ | refine blk_drew ?_ | refine blk_alloc ?_ _)); refine blk_far ?_ NB160_161.out _; (with_reducible repeat (first | refine blk_drewN ?_ _ | refine blk_drew ?_ | refine blk_alloc ?_ _)); refine blk_far ?_ NB160_161.out _; (with_reducible repeat (first | refine blk_drewN ?_ _ | refine blk_drew ?_ | refine blk_alloc ?_ _)); exact BK160.out) hb); have n4_ := Aside0.mk (blk_below (g := gb161) (o := .cells #[.int .i64 0, .int .i64 0, .int .i64 0] 31 (0, 0)) (by (with_reducible repeat (first | refine blk_drewN ?_ _ | refine blk_drew ?_ | refine blk_alloc ?_ _)); refine blk_put (cs := #[.int .i64 0, .int .i64 0, .int .i64 0]) ?_ 2 _ rfl; (with_reducible repeat (first | refine blk_drewN ?_ _ | refine blk_drew ?_ | refine blk_alloc ?_ _)); refine blk_put (cs := #[.int .i64 0, .int .i64 0, .int .i64 0]) ?_ 1 _ rfl; (with_reducible repeat (first | refine blk_drewN ?_ _ | refine blk_drew ?_ | refine blk_alloc ?_ _)); refine blk_put (cs := #[.int .i64 0, .int .i64 0, .int .i64 0]) ?_ 0 _ rfl; (with_reducible repeat (first | refine blk_drewN ?_ _ | refine blk_drew ?_ | refine blk_alloc ?_ _)); exact BK161.out) hb); have n5_ := Aside0.mk (below_step (by repeat (first | (with_reducible first | exact HB.out | apply below_alloc | apply pw_below_drewN | apply below_drew1 | refine below_set ?_ GE160.out | refine below_set ?_ GE161.out) | exact HB.out)) hb); have n6_ := Aside0.mk (hbox); have n7_ := Aside0.mk ((by rw [hg]; exact (below_size (by repeat (first | (with_reducible first | exact HB.out | apply below_alloc | apply pw_below_drewN | apply below_drew1 | refine below_set ?_ GE160.out | refine below_set ?_ GE161.out) | exact HB.out))) : w.heap.size ≤ gb166)); have n8_ := Aside0.mk ((by rw [hg]; exact (below_size (by repeat (first | (with_reducible first | exact HB.out | apply below_alloc | apply pw_below_drewN | apply below_drew1 | refine below_set ?_ GE160.out | refine below_set ?_ GE161.out) | exact HB.out))) : w.heap.size ≤ gb166)); have n9_ := Aside0.mk ((by rw [hg]; exact Nat.ne_of_lt (blk_lt (g := gb160) (o := .cells #[.int .i64 ((rd_T31 t153 x80_3).f0), .int .i64 ((rd_T31 t153 x80_3).f1), .int .i64 ((rd_T31 t153 x80_3).f2)] 31 (0, 0)) (by (with_reducible repeat (first | refine blk_drewN ?_ _ | refine blk_drew ?_ | refine blk_alloc ?_ _)); refine blk_far ?_ NB160_161.out _; (with_reducible repeat (first | refine blk_drewN ?_ _ | refine blk_drew ?_ | refine blk_alloc ?_ _)); refine blk_far ?_ NB160_161.out _; (with_reducible repeat (first | refine blk_drewN ?_ _ | refine blk_drew ?_ | refine blk_alloc ?_ _)); refine blk_far ?_ NB160_161.out _; (with_reducible repeat (first | refine blk_drewN ?_ _ | refine blk_drew ?_ | refine blk_alloc ?_ _)); exact BK160.out)) : gb160 ≠ gb166)); have n10_ := Aside0.mk ((by rw [hg]; exact Nat.ne_of_gt (blk_lt (g := gb160) (o := .cells #[.int .i64 ((rd_T31 t153 x80_3).f0), .int .i64 ((rd_T31 t153 x80_3).f1), .int .i64 ((rd_T31 t153 x80_3).f2)] 31 (0, 0)) (by (with_reducible repeat (first | refine blk_drewN ?_ _ | refine blk_drew ?_ | refine blk_alloc ?_ _)); refine blk_far ?_ NB160_161.out _; (with_reducible repeat (first | refine blk_drewN ?_ _ | refine blk_drew ?_ | refine blk_alloc ?_ _)); refine blk_far ?_ NB160_161.out _; (with_reducible repeat (first | refine blk_drewN ?_ _ | refine blk_drew ?_ | refine blk_alloc ?_ _)); refine blk_far ?_ NB160_161.out _; (with_reducible repeat (first | refine blk_drewN ?_ _ | refine blk_drew ?_ | refine blk_alloc ?_ _)); exact BK160.out)) : gb166 ≠ gb160)); have n11_ := Aside0.mk ((by rw [hg]; exact Nat.ne_of_lt (blk_lt (g := gb161) (o := .cells #[.int .i64 0, .int .i64 0, .int .i64 0] 31 (0, 0)) (by (with_reducible repeat (first | refine blk_drewN ?_ _ | refine blk_drew ?_ | refine blk_alloc ?_ _)); refine blk_put (cs := #[.int .i64 0, .int .i64 0, .int .i64 0]) ?_ 2 _ rfl; (with_reducible repeat (first | refine blk_drewN ?_ _ | refine blk_drew ?_ | refine blk_alloc ?_ _)); refine blk_put (cs := #[.int .i64 0, .int .i64 0, .int .i64 0]) ?_ 1 _ rfl; (with_reducible repeat (first | refine blk_drewN ?_ _ | refine blk_drew ?_ | refine blk_alloc ?_ _)); refine blk_put (cs := #[.int .i64 0, .int .i64 0, .int .i64 0]) ?_ 0 _ rfl; (with_reducible repeat (first | refine blk_drewN ?_ _ | refine blk_drew ?_ | refine blk_alloc ?_ _)); exact BK161.out)) : gb161 ≠ gb166)); have n12_ := Aside0.mk ((by rw [hg]; exact Nat.ne_of_gt (blk_lt (g := gb161) (o := .cells #[.int .i64 0, .int .i64 0, .int .i64 0] 31 (0, 0)) (by (with_reducible repeat (first | refine blk_drewN ?_ _ | refine blk_drew ?_ | refine blk_alloc ?_ _)); refine blk_put (cs := #[.int .i64 0, .int .i64 0, .int .i64 0]) ?_ 2 _ rfl; (with_reducible repeat (first | refine blk_drewN ?_ _ | refine blk_drew ?_ | refine blk_alloc ?_ _)); refine blk_put (cs := #[.int .i64 0, .int .i64 0, .int .i64 0]) ?_ 1 _ rfl; (with_reducible repeat (first | refine blk_drewN ?_ _ | refine blk_drew ?_ | refine blk_alloc ?_ _)); refine blk_put (cs := #[.int .i64 0, .int .i64 0, .int .i64 0]) ?_ 0 _ rfl; (with_reducible repeat (first | refine blk_drewN ?_ _ | refine blk_drew ?_ | refine blk_alloc ?_ _)); exact BK161.out)) : gb166 ≠ gb161)); clear HO_5; clear HO_7; clear HO_78; clear BK160; clear BK161; clear HB; have HO_5 := n0_; have HO_7 := n1_; have HO_78 := n2_; have BK160 := n3_; have BK161 := n4_; have HB := n5_; have BK166 := n6_; have GW166 := n7_; have GE166 := n8_; have NB160_166 := n9_; have NB166_160 := n10_; have NB161_166 := n11_; have NB166_161 := n12_; clear n0_ n1_ n2_ n3_ n4_ n5_ n6_ n7_ n8_ n9_ n10_ n11_ n12_; (try have hxb165_0 := pw_cell_below hb hx165_0); (try have hxb165_1 := pw_cell_below hb hx165_1); (try have hxb165_2 := pw_cell_below hb hx165_2); clear hb hbox hg; have hnb107 := NB166_160.out; have hnc107 := NB160_166.out; have hnb108 := NB166_161.out; have hnc108 := NB161_166.out; have hcz109_0 : w106.cell? ⟨gb166, 0, none⟩ = some (.int .i64 0) := (blk_cell BK166.out 0).trans rfl; have hcz109_1 : w106.cell? ⟨gb166, 1, none⟩ = some (.int .i64 0) := (blk_cell BK166.out 1).trans rfl; have hcz109_2 : w106.cell? ⟨gb166, 2, none⟩ = some (.int .i64 0) := (blk_cell BK166.out 2).trans rfl; have hfz109_0 := blk_frozen BK166.out 0; have hfz109_1 := blk_frozen BK166.out 1; have hfz109_2 := blk_frozen BK166.out 2; have hcz110_0 : w106.cell? ⟨gb161, 0, none⟩ = some (.int .i64 0) := (blk_cell BK161.out 0).trans rfl; have hcz110_1 : w106.cell? ⟨gb161, 1, none⟩ = some (.int .i64 0) := (blk_cell BK161.out 1).trans rfl; have hcz110_2 : w106.cell? ⟨gb161, 2, none⟩ = some (.int .i64 0) := (blk_cell BK161.out 2).trans rfl; have hfz110_0 := blk_frozen BK161.out 0; have hfz110_1 := blk_frozen BK161.out 1; have hfz110_2 := blk_frozen BK161.out 2; have hcz111_0 : w106.cell? ⟨gb160, 0, none⟩ = some (.int .i64 ((rd_T31 t153 x80_3).f0)) := (blk_cell BK160.out 0).trans rfl; have hcz111_1 : w106.cell? ⟨gb160, 1, none⟩ = some (.int .i64 ((rd_T31 t153 x80_3).f1)) := (blk_cell BK160.out 1).trans rfl; have hcz111_2 : w106.cell? ⟨gb160, 2, none⟩ = some (.int .i64 ((rd_T31 t153 x80_3).f2)) := (blk_cell BK160.out 2).trans rfl; have hfz111_0 := blk_frozen BK160.out 0; have hfz111_1 := blk_frozen BK160.out 1; have hfz111_2 := blk_frozen BK160.out 2))
                         go_roundg k3
                         case measure => have := HJ8.out; have := HJ22.out; have := HK3.out; omega
                         case rel => exact ⟨(wrap64 (x80_3 + 1)), (by first | rfl | (simp; done) | (simp [*]; done)), H', ⟨by have := HJ8.out; have := HJ22.out; have := HK3.out; omega⟩, ⟨by (with_reducible repeat (first | apply Kd.R_alloc | apply Kd.R_drewN | apply Kd.R_drew)); exact Kd.R_mono (Kd.R_far (p := ⟨gb161, 2, none⟩) (Kd.R_far (p := ⟨gb161, 1, none⟩) (Kd.R_far (p := ⟨gb161, 0, none⟩) (Kd.R_far (p := ⟨gb166, 2, none⟩) (Kd.R_far (p := ⟨gb166, 1, none⟩) (Kd.R_far (p := ⟨gb166, 0, none⟩) (Kd.R_mono (Kd.R_mono HO_5.out (fun k_ hk => (⟨hk, hk.2⟩ : _ ∧ k_ ≠ gb166))) (fun k_ hk => (⟨hk, hk.1.1.2⟩ : _ ∧ k_ ≠ gb161))) (fun _ hk => hk.1.2) (.int .i64 ((rd_T31 t138 (ji86)).f0))) (fun _ hk => hk.1.2) (.int .i64 ((rd_T31 t138 (ji86)).f1))) (fun _ hk => hk.1.2) (.int .i64 ((rd_T31 t138 (ji86)).f2))) (fun _ hk => hk.2) (.int .i64 (Go.bits .or .i64 ((rd_T31 t138 (ji86)).f0) (l0.length : Int)))) (fun _ hk => hk.2) (.int .i64 (Go.bits .or .i64 ((rd_T31 t138 (ji86)).f1) (l0.length : Int)))) (fun _ hk => hk.2) (.int .i64 ((rd_T31 t138 (ji86)).f2))) (fun _ hk => ⟨hk.1.1.1.1.1.1, hk.1.1.1.1.1.2⟩)⟩, ⟨by (with_reducible repeat (first | apply Kd.R_alloc | apply Kd.R_drewN | apply Kd.R_drew)); exact Kd.R_mono (Kd.R_far (p := ⟨gb161, 2, none⟩) (Kd.R_far (p := ⟨gb161, 1, none⟩) (Kd.R_far (p := ⟨gb161, 0, none⟩) (Kd.R_far (p := ⟨gb166, 2, none⟩) (Kd.R_far (p := ⟨gb166, 1, none⟩) (Kd.R_far (p := ⟨gb166, 0, none⟩) (Kd.R_mono (Kd.R_mono HO_7.out (fun k_ hk => (⟨hk, hk.2⟩ : _ ∧ k_ ≠ gb166))) (fun k_ hk => (⟨hk, hk.1.1.2⟩ : _ ∧ k_ ≠ gb161))) (fun _ hk => hk.1.2) (.int .i64 ((rd_T31 t138 (ji86)).f0))) (fun _ hk => hk.1.2) (.int .i64 ((rd_T31 t138 (ji86)).f1))) (fun _ hk => hk.1.2) (.int .i64 ((rd_T31 t138 (ji86)).f2))) (fun _ hk => hk.2) (.int .i64 (Go.bits .or .i64 ((rd_T31 t138 (ji86)).f0) (l0.length : Int)))) (fun _ hk => hk.2) (.int .i64 (Go.bits .or .i64 ((rd_T31 t138 (ji86)).f1) (l0.length : Int)))) (fun _ hk => hk.2) (.int .i64 ((rd_T31 t138 (ji86)).f2))) (fun _ hk => ⟨hk.1.1.1.1.1.1, hk.1.1.1.1.1.2⟩)⟩, ⟨by (with_reducible repeat (first | apply Kd.R_alloc | apply Kd.R_drewN | apply Kd.R_drew)); exact Kd.R_mono (Kd.R_far (p := ⟨gb161, 2, none⟩) (Kd.R_far (p := ⟨gb161, 1, none⟩) (Kd.R_far (p := ⟨gb161, 0, none⟩) (Kd.R_far (p := ⟨gb166, 2, none⟩) (Kd.R_far (p := ⟨gb166, 1, none⟩) (Kd.R_far (p := ⟨gb166, 0, none⟩) (Kd.R_mono (Kd.R_mono HO_78.out (fun k_ hk => (⟨hk, hk.2⟩ : _ ∧ k_ ≠ gb166))) (fun k_ hk => (⟨hk, hk.1.1.2⟩ : _ ∧ k_ ≠ gb161))) (fun _ hk => hk.1.2) (.int .i64 ((rd_T31 t138 (ji86)).f0))) (fun _ hk => hk.1.2) (.int .i64 ((rd_T31 t138 (ji86)).f1))) (fun _ hk => hk.1.2) (.int .i64 ((rd_T31 t138 (ji86)).f2))) (fun _ hk => hk.2) (.int .i64 (Go.bits .or .i64 ((rd_T31 t138 (ji86)).f0) (l0.length : Int)))) (fun _ hk => hk.2) (.int .i64 (Go.bits .or .i64 ((rd_T31 t138 (ji86)).f1) (l0.length : Int)))) (fun _ hk => hk.2) (.int .i64 ((rd_T31 t138 (ji86)).f2))) (fun _ hk => ⟨hk.1.1.1.1.1.1, hk.1.1.1.1.1.2⟩)⟩, ⟨by repeat (first | (with_reducible first | exact HB.out | apply below_alloc | apply pw_below_drewN | apply below_drew1 | refine below_set ?_ GE160.out | refine below_set ?_ GE161.out | refine below_set ?_ GE166.out) | exact HB.out)⟩⟩
                       ·rw [if_neg c88] at H
                        exact absurd H (by simp)
                      ·rw [if_neg c87] at H
                       exact absurd H (by simp)
                    ·rw [if_neg c59] at H
                     exact absurd H (by simp)
                   ·rw [if_neg c58] at H
                    exact absurd H (by simp)
                  ·rw [if_neg c57] at H
                   have c57b0 : decide (x80_3 < (t153.length : Int)) = false := decide_eq_false c57
                   clear c57
                   obtain rfl := Option.some.inj H
                   go_wp2
                   go_ret
                   exact ⟨by first | rfl | (simp [errW_none, errW_some] <;> rfl) | (simp [*, errW_none, errW_some] <;> rfl), bO HB.out⟩
               ·rw [if_neg c47] at H
                have c47b0 : ((t153.length : Int) == (wrap64 ((t128.length : Int) + (t138.length : Int)))) = false := beq_eq_false_iff_ne.mpr c47
                have c47b1 : ((t153.length : Int) != (wrap64 ((t128.length : Int) + (t138.length : Int)))) = true := bne_iff_ne.mpr c47
                obtain rfl := Option.some.inj H
                obtain ⟨Ao112, co112, eo112⟩ := Kd.R_slice HO_5.out
                subst eo112
                obtain ⟨Ao113, co113, eo113⟩ := Kd.R_slice HO_7.out
                subst eo113
                go_wp2_with (first | ((with_reducible refine gate_callee (f := 10) rfl ?_); refine goesL_ (some 48) rfl rfl Try.func10 (by kernel_rfl) rfl #[.slice Ao112 t128.length co112, .slice Ao113 t138.length co113] rfl mO ?_; (with_reducible refine (tabardlaw11_cubes.calls kj22 _ _ t128 _ _ t138 t142 _ ?side1 ?side2 ?side3 ?side4 A26.out).mono ?_); (case side1 => exact cO (Kd.R_reads' HO_5.out).2.2); (case side2 => exact (Kd.R_reads' HO_5.out).2.1); (case side3 => exact cO (Kd.R_reads' HO_7.out).2.2); (case side4 => exact (Kd.R_reads' HO_7.out).2.1); rintro e w' ⟨rfl, ⟨nd, rfl⟩⟩; refine ⟨_, rfl, ?_⟩) | ((with_reducible refine gate_callee (f := 11) rfl ?_); refine goesL_ (some 51) rfl rfl Try.func11 (by kernel_rfl) rfl #[.slice A0 l0.length c0, .slice A1 l1.length c1] rfl mO ?_; (with_reducible refine (tabardlaw11_ints.calls kj22 _ _ l0 _ _ l1 false _ ?side1 ?side2 ?side3 ?side4 A27.out).mono ?_); (case side1 => repeat (first | exact (Kd.C_below HR0.out (bO HB.out)) | (with_reducible refine Kd.C_alloc ?_ _) | (with_reducible refine Kd.C_drewN ?_ _) | (with_reducible refine Kd.C_drew ?_))); (case side2 => exact HC0.out); (case side3 => repeat (first | exact (Kd.C_below HR1.out (bO HB.out)) | (with_reducible refine Kd.C_alloc ?_ _) | (with_reducible refine Kd.C_drewN ?_ _) | (with_reducible refine Kd.C_drew ?_))); (case side4 => exact HC1.out); rintro e w' ⟨rfl, ⟨nd, rfl⟩⟩; refine ⟨_, rfl, ?_⟩) | ((with_reducible refine gate_dst (N := 54) rfl ?_); (try (refine gate_guard (by rfl) ?_; dsimp only)); refine Kd.R_lit (Kd.int .i64) _ 3 ?hg (N := 54) ?hd (xs := ([] : List Int)) (inner := []) (ok := fun _ => True) (okp := fun _ => True) ?hr ?hp (fun _ hk => hk) trivial (Below.refl _ _) (Nat.le_refl _) (by simp) ?_; (case hd => rfl); (case hg => rfl); (case hr => first | (go_simp; done) | (go_simp; rfl)); (case hp => exact (Reps.none _ _)); intro v145 w114 ho115 hb hg_ hnew_; clear hg_ hnew_; (first | rw [← Ny144.out] at ho115 | (simp only [Int.reduceToNat] at ho115; rw [← Ny144.out] at ho115)); have n0_ := Aside0.mk (Kd.R_below (rO HO_5.out) hb); have n1_ := Aside0.mk (Kd.R_below (rO HO_7.out) hb); have n2_ := Aside0.mk (Kd.R_lower ho115 (below_size (bO HB.out))); have n3_ := Aside0.mk (below_step (bO HB.out) hb); clear HO_5; clear HO_7; clear HB; have HO_5 := n0_; have HO_7 := n1_; have HO146 := n2_; have HB := n3_; clear n0_ n1_ n2_ n3_; clear hb ho115) | ((with_reducible refine gate_builtin (b := .append) (xs := #[.tmp 54, .tmp 55]) rfl ?_); (try (refine gate_guard (by rfl) ?_; dsimp only)); at_builtin; refine Kd.R_append_rows (Kd.int .i64) (w0 := w) w.heap.size rfl (.tmp 54) (.tmp 55) 22 3 (.int .i64 0) 8 rfl Try.underlying22 info3 rfl (by decide) (by omega) v145 y144 l0 _ _ _ (fun _ => True) (fun _ => False) rfl rfl ?aO ?aR (fun _ _ h => h) (fun _ h => h.elim) ?aF ?aB ?aS ?aL ?_; (case aR => exact cO (Kd.C_below HR0.out HB.out)); (case aB => exact (bO HB.out)); (case aF => exact (fun _ _ => trivial)); (case aO => exact (rO HO146.out)); (case aS => exact (below_size (bO HB.out))); (case aL => have := LMc31.out; omega); intro v148 w116 ho hb hg hat; rw [← Ny147.out] at ho; have n0_ := Aside0.mk (Kd.R_over' (rO HO_5.out) (Kd.R_typed (rO HO146.out)) (by decide) hg); have n1_ := Aside0.mk (Kd.R_over' (rO HO_7.out) (Kd.R_typed (rO HO146.out)) (by decide) hg); have n2_ := Aside0.mk (hb); have n3_ := Aside0.mk (ho); clear HO_5; clear HO_7; clear HB; clear HO146; have HO_5 := n0_; have HO_7 := n1_; have HB := n2_; have HO149 := n3_; clear n0_ n1_ n2_ n3_; clear ho hb hg hat) | ((with_reducible refine gate_builtin (b := .append) (xs := #[.tmp 56, .tmp 57]) rfl ?_); (try (refine gate_guard (by rfl) ?_; dsimp only)); at_builtin; refine Kd.R_append_rows (Kd.int .i64) (w0 := w) w.heap.size rfl (.tmp 56) (.tmp 57) 22 3 (.int .i64 0) 8 rfl Try.underlying22 info3 rfl (by decide) (by omega) v148 y147 l1 _ _ _ (fun _ => True) (fun _ => False) rfl rfl ?aO ?aR (fun _ _ h => h) (fun _ h => h.elim) ?aF ?aB ?aS ?aL ?_; (case aR => exact cO (Kd.C_below HR1.out HB.out)); (case aB => exact (bO HB.out)); (case aF => exact (fun _ _ => trivial)); (case aO => exact (rO HO149.out)); (case aS => exact (below_size (bO HB.out))); (case aL => have := LMc32.out; omega); intro v151 w117 ho hb hg hat; rw [← Ny150.out] at ho; have n0_ := Aside0.mk (Kd.R_over' (rO HO_5.out) (Kd.R_typed (rO HO149.out)) (by decide) hg); have n1_ := Aside0.mk (Kd.R_over' (rO HO_7.out) (Kd.R_typed (rO HO149.out)) (by decide) hg); have n2_ := Aside0.mk (hb); have n3_ := Aside0.mk (ho); clear HO_5; clear HO_7; clear HB; clear HO149; have HO_5 := n0_; have HO_7 := n1_; have HB := n2_; have HO152 := n3_; clear n0_ n1_ n2_ n3_; clear ho hb hg hat; obtain ⟨Ao118, co118, eo118⟩ := Kd.R_slice HO152.out; subst eo118) | ((with_reducible refine gate_callee (f := 9) rfl ?_); refine goesL_ (some 59) rfl rfl Try.func9 (by kernel_rfl) rfl #[.slice Ao118 y150.length co118] rfl mO ?_; (with_reducible refine (row_Pack.calls kj22 _ _ y150 t153 t154 _ ?side1 ?side2 A33.out).mono ?_); (case side1 => exact cO (Kd.R_reads' HO152.out).2.2); (case side2 => exact (Kd.R_reads' HO152.out).2.1); rintro e w119 ⟨v155, rfl, ho0, hb⟩; refine ⟨_, rfl, ?_⟩; have n0_ := Aside0.mk (Kd.R_elder' (rO HO_5.out) (Kd.R_base ho0) hb); have n1_ := Aside0.mk (Kd.R_elder' (rO HO_7.out) (Kd.R_base ho0) hb); have n2_ := Aside0.mk (Kd.R_below (rO HO152.out) hb); have n3_ := Aside0.mk (Kd.R_lower (Kd.R_new' (Kd.R_new' ho0 (Kd.R_lt (rO HO_5.out))) (Kd.R_lt (rO HO_7.out))) (below_size (bO HB.out))); have n4_ := Aside0.mk (below_step (bO HB.out) hb); clear HO_5; clear HO_7; clear HO152; clear HB; have HO_5 := n0_; have HO_7 := n1_; have HO152 := n2_; have HO156 := n3_; have HB := n4_; clear n0_ n1_ n2_ n3_ n4_; (try clear hb); (try clear hb2); (try clear hk); (try clear hi); (try clear ho0)) | ((with_reducible refine gate_callee (f := 11) rfl ?_); refine goesL_ (some 66) rfl rfl Try.func11 (by kernel_rfl) rfl #[.slice A0 l0.length c0, .slice A1 l1.length c1] rfl mO ?_; (with_reducible refine (tabardlaw11_ints.calls kj22 _ _ l0 _ _ l1 false _ ?side1 ?side2 ?side3 ?side4 A35.out).mono ?_); (case side1 => exact cO (Kd.C_below HR0.out HB.out)); (case side2 => exact HC0.out); (case side3 => exact cO (Kd.C_below HR1.out HB.out)); (case side4 => exact HC1.out); rintro e w' ⟨rfl, ⟨nd, rfl⟩⟩; refine ⟨_, rfl, ?_⟩; obtain ⟨Ao120, co120, eo120⟩ := Kd.R_slice HO156.out; subst eo120))
                go_ret
                exact ⟨by first | rfl | (simp [errW_none, errW_some] <;> rfl) | (simp [*, errW_none, errW_some] <;> rfl), bO HB.out⟩
             ·rw [if_neg c34] at H
              have c34b0 : (t154 == 0) = false := beq_eq_false_iff_ne.mpr c34
              have c34b1 : (t154 != 0) = true := bne_iff_ne.mpr c34
              obtain rfl := Option.some.inj H
              obtain ⟨Ao121, co121, eo121⟩ := Kd.R_slice HO_5.out
              subst eo121
              obtain ⟨Ao122, co122, eo122⟩ := Kd.R_slice HO_7.out
              subst eo122
              go_wp2_with (first | ((with_reducible refine gate_callee (f := 10) rfl ?_); refine goesL_ (some 48) rfl rfl Try.func10 (by kernel_rfl) rfl #[.slice Ao121 t128.length co121, .slice Ao122 t138.length co122] rfl mO ?_; (with_reducible refine (tabardlaw11_cubes.calls kj22 _ _ t128 _ _ t138 t142 _ ?side1 ?side2 ?side3 ?side4 A26.out).mono ?_); (case side1 => exact cO (Kd.R_reads' HO_5.out).2.2); (case side2 => exact (Kd.R_reads' HO_5.out).2.1); (case side3 => exact cO (Kd.R_reads' HO_7.out).2.2); (case side4 => exact (Kd.R_reads' HO_7.out).2.1); rintro e w' ⟨rfl, ⟨nd, rfl⟩⟩; refine ⟨_, rfl, ?_⟩) | ((with_reducible refine gate_callee (f := 11) rfl ?_); refine goesL_ (some 51) rfl rfl Try.func11 (by kernel_rfl) rfl #[.slice A0 l0.length c0, .slice A1 l1.length c1] rfl mO ?_; (with_reducible refine (tabardlaw11_ints.calls kj22 _ _ l0 _ _ l1 t143 _ ?side1 ?side2 ?side3 ?side4 A27.out).mono ?_); (case side1 => repeat (first | exact (Kd.C_below HR0.out (bO HB.out)) | (with_reducible refine Kd.C_alloc ?_ _) | (with_reducible refine Kd.C_drewN ?_ _) | (with_reducible refine Kd.C_drew ?_))); (case side2 => exact HC0.out); (case side3 => repeat (first | exact (Kd.C_below HR1.out (bO HB.out)) | (with_reducible refine Kd.C_alloc ?_ _) | (with_reducible refine Kd.C_drewN ?_ _) | (with_reducible refine Kd.C_drew ?_))); (case side4 => exact HC1.out); rintro e w' ⟨rfl, ⟨nd, rfl⟩⟩; refine ⟨_, rfl, ?_⟩) | ((with_reducible refine gate_dst (N := 54) rfl ?_); (try (refine gate_guard (by rfl) ?_; dsimp only)); refine Kd.R_lit (Kd.int .i64) _ 3 ?hg (N := 54) ?hd (xs := ([] : List Int)) (inner := []) (ok := fun _ => True) (okp := fun _ => True) ?hr ?hp (fun _ hk => hk) trivial (Below.refl _ _) (Nat.le_refl _) (by simp) ?_; (case hd => rfl); (case hg => rfl); (case hr => first | (go_simp; done) | (go_simp; rfl)); (case hp => exact (Reps.none _ _)); intro v145 w123 ho124 hb hg_ hnew_; clear hg_ hnew_; (first | rw [← Ny144.out] at ho124 | (simp only [Int.reduceToNat] at ho124; rw [← Ny144.out] at ho124)); have n0_ := Aside0.mk (Kd.R_below (rO HO_5.out) hb); have n1_ := Aside0.mk (Kd.R_below (rO HO_7.out) hb); have n2_ := Aside0.mk (Kd.R_lower ho124 (below_size (bO HB.out))); have n3_ := Aside0.mk (below_step (bO HB.out) hb); clear HO_5; clear HO_7; clear HB; have HO_5 := n0_; have HO_7 := n1_; have HO146 := n2_; have HB := n3_; clear n0_ n1_ n2_ n3_; clear hb ho124) | ((with_reducible refine gate_builtin (b := .append) (xs := #[.tmp 54, .tmp 55]) rfl ?_); (try (refine gate_guard (by rfl) ?_; dsimp only)); at_builtin; refine Kd.R_append_rows (Kd.int .i64) (w0 := w) w.heap.size rfl (.tmp 54) (.tmp 55) 22 3 (.int .i64 0) 8 rfl Try.underlying22 info3 rfl (by decide) (by omega) v145 y144 l0 _ _ _ (fun _ => True) (fun _ => False) rfl rfl ?aO ?aR (fun _ _ h => h) (fun _ h => h.elim) ?aF ?aB ?aS ?aL ?_; (case aR => exact cO (Kd.C_below HR0.out HB.out)); (case aB => exact (bO HB.out)); (case aF => exact (fun _ _ => trivial)); (case aO => exact (rO HO146.out)); (case aS => exact (below_size (bO HB.out))); (case aL => have := LMc31.out; omega); intro v148 w125 ho hb hg hat; rw [← Ny147.out] at ho; have n0_ := Aside0.mk (Kd.R_over' (rO HO_5.out) (Kd.R_typed (rO HO146.out)) (by decide) hg); have n1_ := Aside0.mk (Kd.R_over' (rO HO_7.out) (Kd.R_typed (rO HO146.out)) (by decide) hg); have n2_ := Aside0.mk (hb); have n3_ := Aside0.mk (ho); clear HO_5; clear HO_7; clear HB; clear HO146; have HO_5 := n0_; have HO_7 := n1_; have HB := n2_; have HO149 := n3_; clear n0_ n1_ n2_ n3_; clear ho hb hg hat) | ((with_reducible refine gate_builtin (b := .append) (xs := #[.tmp 56, .tmp 57]) rfl ?_); (try (refine gate_guard (by rfl) ?_; dsimp only)); at_builtin; refine Kd.R_append_rows (Kd.int .i64) (w0 := w) w.heap.size rfl (.tmp 56) (.tmp 57) 22 3 (.int .i64 0) 8 rfl Try.underlying22 info3 rfl (by decide) (by omega) v148 y147 l1 _ _ _ (fun _ => True) (fun _ => False) rfl rfl ?aO ?aR (fun _ _ h => h) (fun _ h => h.elim) ?aF ?aB ?aS ?aL ?_; (case aR => exact cO (Kd.C_below HR1.out HB.out)); (case aB => exact (bO HB.out)); (case aF => exact (fun _ _ => trivial)); (case aO => exact (rO HO149.out)); (case aS => exact (below_size (bO HB.out))); (case aL => have := LMc32.out; omega); intro v151 w126 ho hb hg hat; rw [← Ny150.out] at ho; have n0_ := Aside0.mk (Kd.R_over' (rO HO_5.out) (Kd.R_typed (rO HO149.out)) (by decide) hg); have n1_ := Aside0.mk (Kd.R_over' (rO HO_7.out) (Kd.R_typed (rO HO149.out)) (by decide) hg); have n2_ := Aside0.mk (hb); have n3_ := Aside0.mk (ho); clear HO_5; clear HO_7; clear HB; clear HO149; have HO_5 := n0_; have HO_7 := n1_; have HB := n2_; have HO152 := n3_; clear n0_ n1_ n2_ n3_; clear ho hb hg hat; obtain ⟨Ao127, co127, eo127⟩ := Kd.R_slice HO152.out; subst eo127) | ((with_reducible refine gate_callee (f := 9) rfl ?_); refine goesL_ (some 59) rfl rfl Try.func9 (by kernel_rfl) rfl #[.slice Ao127 y150.length co127] rfl mO ?_; (with_reducible refine (row_Pack.calls kj22 _ _ y150 t153 t154 _ ?side1 ?side2 A33.out).mono ?_); (case side1 => exact cO (Kd.R_reads' HO152.out).2.2); (case side2 => exact (Kd.R_reads' HO152.out).2.1); rintro e w128 ⟨v155, rfl, ho0, hb⟩; refine ⟨_, rfl, ?_⟩; have n0_ := Aside0.mk (Kd.R_elder' (rO HO_5.out) (Kd.R_base ho0) hb); have n1_ := Aside0.mk (Kd.R_elder' (rO HO_7.out) (Kd.R_base ho0) hb); have n2_ := Aside0.mk (Kd.R_below (rO HO152.out) hb); have n3_ := Aside0.mk (Kd.R_lower (Kd.R_new' (Kd.R_new' ho0 (Kd.R_lt (rO HO_5.out))) (Kd.R_lt (rO HO_7.out))) (below_size (bO HB.out))); have n4_ := Aside0.mk (below_step (bO HB.out) hb); clear HO_5; clear HO_7; clear HO152; clear HB; have HO_5 := n0_; have HO_7 := n1_; have HO152 := n2_; have HO156 := n3_; have HB := n4_; clear n0_ n1_ n2_ n3_ n4_; (try clear hb); (try clear hb2); (try clear hk); (try clear hi); (try clear ho0)))
              go_ret
              exact ⟨by first | rfl | (simp [errW_none, errW_some] <;> rfl) | (simp [*, errW_none, errW_some] <;> rfl), bO HB.out⟩
            ·rw [if_neg c32] at H
             exact absurd H (by simp)
           ·rw [if_neg c31] at H
            exact absurd H (by simp)
   ·rw [if_neg c7] at H
    exact absurd H (by simp)
  ·rw [if_neg c5] at H
   exact absurd H (by simp)
 ·replace c4 := Bool.eq_false_iff.mpr c4
  subst c4
  have H1 : (some false) = some r := by rw [if_neg (show ¬ (false = true) by decide)] at H; exact H
  clear H
  have H := H1
  clear H1
  obtain rfl := Option.some.inj H
  go_enter Try.func3, Try.ntmps3
  go_wp2_with (first | ((with_reducible refine gate_callee (f := 8) rfl ?_); refine goesL_ (some 14) rfl rfl Try.func8 (by kernel_rfl) rfl #[] rfl mO ?_; (with_reducible refine (tabardlaw11_fixed.calls k  false _ A3.out).mono ?_); rintro e w129 ⟨rfl, hb⟩; refine ⟨_, rfl, ?_⟩; have n0_ := Aside0.mk (below_step (bO HB.out) hb); clear HB; have HB := n0_; clear n0_; (try clear hb); (try clear hb2); (try clear hk); (try clear hi)))
  go_ret
  exact ⟨by first | rfl | (simp [errW_none, errW_some] <;> rfl) | (simp [*, errW_none, errW_some] <;> rfl), bO HB.out⟩

/-- THE ONE PURE STATEMENT of tabardlaw11_RowLeast: yours. -/
def tabardlaw11_RowLeast.Pure : Prop := ∀ (l0 : List Int) (l1 : List Int), l0.length ≤ maxLen → l0.length * 8 ≤ 140737488351232 → (∀ x ∈ l0, (Lit.int .i64 x).wf = true) → l1.length ≤ maxLen → l1.length * 8 ≤ 140737488351232 → (∀ x ∈ l1, (Lit.int .i64 x).wf = true) → ∃ k, tabardlaw11_RowLeast.f k l0 l1 = some true
theorem tabardlaw11_RowLeast.walk (P : tabardlaw11_RowLeast.Pure) (a0 : Option Addr) (len0 cap0 : Nat) (z0 : List Int) (a1 : Option Addr) (len1 cap1 : Nat) (z1 : List Int) (w : World) (w0 : (a0 = none ∧ len0 = 0 ∧ cap0 = 0 ∧ z0 = []) ∨ ∃ x, a0 = some x ∧ len0 ≤ cap0 ∧ cap0 ≤ maxLen ∧ z0.length = cap0 ∧ (∀ i, i < z0.length → w.cell? (x.add i) = some (.int .i64 (z0.getD i 0))) ∧ ∀ n ∈ z0, (Lit.int .i64 n).wf = true) (y0 : len0 * 8 ≤ 140737488351232) (w1 : (a1 = none ∧ len1 = 0 ∧ cap1 = 0 ∧ z1 = []) ∨ ∃ x, a1 = some x ∧ len1 ≤ cap1 ∧ cap1 ≤ maxLen ∧ z1.length = cap1 ∧ (∀ i, i < z1.length → w.cell? (x.add i) = some (.int .i64 (z1.getD i 0))) ∧ ∀ n ∈ z1, (Lit.int .i64 n).wf = true) (y1 : len1 * 8 ≤ 140737488351232) :
  Calls Try.prog 3 #[.slice a0 len0 cap0, .slice a1 len1 cap1] w fun e w' => e = .returned (.bool true) ∧ Below w.heap.size w w' := by
 obtain ⟨l0, rfl, hr0, hm0, hw0, hc0⟩ := ReadsInt.ofRowC w0
 obtain ⟨l1, rfl, hr1, hm1, hw1, hc1⟩ := ReadsInt.ofRowC w1
 obtain ⟨k, h⟩ := P l0 l1 hm0 y0 hw0 hm1 y1 hw1
 refine (tabardlaw11_RowLeast.calls k _ _ l0 _ _ l1 true w (Kd.C_of_reads (d := (0 : Int)) (h1 := fun _ => rfl) hr0) hc0 (Kd.C_of_reads (d := (0 : Int)) (h1 := fun _ => rfl) hr1) hc1 h).mono ?_
 rintro e w' ⟨rfl, hd⟩
 exact ⟨rfl, hd⟩

end Go.Proofs.Ytiakfdoaopfihaa.X

/- What the functions of this seat compute, and that the program's calls come to just that: written by this session's own program out of the translation; no condition. -/
import Derived.Test.YtiakfdoaopfihaaX0
import Derived.Test.YtiakfdoaopfihaaX4
import Derived.Test.YtiakfdoaopfihaaX5
import Derived.Test.YtiakfdoaopfihaaX14
namespace Go.Proofs.Ytiakfdoaopfihaa.X
open Go.RowKit Go.Proofs.YtiakfdoaopfihaaW.PrintWords Go.Proofs.YtiakfdoaopfihaaW.PrintLast Go.Proofs.YtiakfdoaopfihaaW.PrintMore
attribute [local go_sem] max2_int min2_int max_two min_two max_three min_three max_four min_four   -- for this text's walks alone
set_option linter.unusedVariables false
set_option linter.unusedSimpArgs false
theorem tabardlaw11_RowOnly.store_facts {W : World} {p0 p1 p2 : Addr} {v0 v1 v2 : Value} (h0 : W.cell? p0 = some v0) (h1 : W.cell? p1 = some v1) (h2 : W.cell? p2 = some v2) (f0 : W.frozen? p0 = false) (f1 : W.frozen? p1 = false) (f2 : W.frozen? p2 = false) : ∃ W' : World, W = W' ∧ W'.cell? p0 = some v0 ∧ W'.cell? p1 = some v1 ∧ W'.cell? p2 = some v2 ∧ W'.frozen? p0 = false ∧ W'.frozen? p1 = false ∧ W'.frozen? p2 = false := ⟨W, rfl, h0, h1, h2, f0, f1, f2⟩


/-! ### tabardlaw11_RowOnly: function 5 -/
def tabardlaw11_RowOnly.j0 : Nat → List (S31) → Int → Int → Bool → Option (Bool)
 | 0, _, _, _, _ => none
 | k + 1, x0, x1, x2, x55 => if x55 = true then (some false) else (if (IntKind.u64.wrap ((x0.length : Int))) = 0 then (none) else ((some (([] : List (S31)) : List (S31))).bind fun y309 => (if 0 ≤ (wrap64 (Int.tmod (IntKind.u64.wrap (x2)) (IntKind.u64.wrap ((x0.length : Int))))) then (if (wrap64 (Int.tmod (IntKind.u64.wrap (x2)) (IntKind.u64.wrap ((x0.length : Int))))) ≤ (x0.length : Int) then ((some (x0.take ((wrap64 (Int.tmod (IntKind.u64.wrap (x2)) (IntKind.u64.wrap ((x0.length : Int))))) : Int).toNat : List (S31))).bind fun y312 => (if y309.length + y312.length < 5864062014805 then ((some (y309 ++ y312 : List (S31))).bind fun y316 => (if 0 ≤ (wrap64 ((wrap64 (Int.tmod (IntKind.u64.wrap (x2)) (IntKind.u64.wrap ((x0.length : Int))))) + 1)) then (if (wrap64 ((wrap64 (Int.tmod (IntKind.u64.wrap (x2)) (IntKind.u64.wrap ((x0.length : Int))))) + 1)) ≤ (x0.length : Int) then ((some (x0.drop ((wrap64 ((wrap64 (Int.tmod (IntKind.u64.wrap (x2)) (IntKind.u64.wrap ((x0.length : Int))))) + 1)) : Int).toNat : List (S31))).bind fun y319 => (if y316.length + y319.length < 5864062014805 then ((row_Unpack.f k (y316 ++ y319) x1).bind fun bt326 => (if bt326.2 = 3 then ((some (([] : List (S31)) : List (S31))).bind fun y330 => (if y330.length + x0.length < 5864062014805 then ((some (y330 ++ x0 : List (S31))).bind fun y333 => (if 0 < (y333.length : Int) then (if (wrap64 (Int.tmod (IntKind.u64.wrap (x2)) (IntKind.u64.wrap ((x0.length : Int))))) < (y333.length : Int) then ((row_Unpack.f k ((y333.set ((wrap64 (Int.tmod (IntKind.u64.wrap (x2)) (IntKind.u64.wrap ((x0.length : Int))))) : Int).toNat (⟨(rd_T31 y333 0).f0, (rd_T31 y333 0).f1, (rd_T31 y333 0).f2⟩ : S31)).set (0 : Int).toNat (⟨(rd_T31 y333 (wrap64 (Int.tmod (IntKind.u64.wrap (x2)) (IntKind.u64.wrap ((x0.length : Int)))))).f0, (rd_T31 y333 (wrap64 (Int.tmod (IntKind.u64.wrap (x2)) (IntKind.u64.wrap ((x0.length : Int)))))).f1, (rd_T31 y333 (wrap64 (Int.tmod (IntKind.u64.wrap (x2)) (IntKind.u64.wrap ((x0.length : Int)))))).f2⟩ : S31)) x1).bind fun bt340 => (if (wrap64 (Int.tmod (IntKind.u64.wrap (x2)) (IntKind.u64.wrap ((x0.length : Int))))) = 0 then (some true) else (some (bt340.2 == 3)))) else (none)) else (none))) else (none))) else (some false))) else (none))) else (none)) else (none))) else (none))) else (none)) else (none))))
def tabardlaw11_RowOnly.f (k : Nat) (l0 : List (S31)) (a1 : Int) (a2 : Int) : Option (Bool) := (tabardlaw11_fixed.f k).bind fun t287 => (if t287 = true then ((some (([] : List (S31)) : List (S31))).bind fun y288 => (if y288.length + l0.length < 5864062014805 then ((row_Unpack.f k (y288 ++ l0) a1).bind fun bt294 => (if bt294.2 = 0 then ((some (([] : List Int) : List Int)).bind fun y298 => (if y298.length + bt294.1.length < 17592186044416 then ((row_Pack.f k (y298 ++ bt294.1)).bind fun bt304 => (if bt304.2 = 0 then ((tabardlaw11_cubes.f k bt304.1 l0).bind fun t308 => (if t308 = true then (tabardlaw11_RowOnly.j0 k l0 a1 a2 ((l0.length : Int) == 0)) else (tabardlaw11_RowOnly.j0 k l0 a1 a2 true))) else (tabardlaw11_RowOnly.j0 k l0 a1 a2 true))) else (none))) else (if (bt294.1.length : Int) = 0 then (if bt294.2 = 150 then (some true) else (some (bt294.2 == 3))) else (some false)))) else (none))) else (some false))
theorem tabardlaw11_RowOnly.mono_l : ∀ k, (∀ y0 y1 y2 y3, LeO (tabardlaw11_RowOnly.j0 k y0 y1 y2 y3) (tabardlaw11_RowOnly.j0 (k + 1) y0 y1 y2 y3))
 | 0 => fun _ _ _ _ r h => by simp [tabardlaw11_RowOnly.j0] at h
 | k + 1 => by
  have ih0 := tabardlaw11_RowOnly.mono_l k
  ·intro y0 y1 y2 y3
   unfold tabardlaw11_RowOnly.j0
   repeat' first
   | (with_reducible exact ih0 _ _ _ _)
   | (with_reducible exact row_Pack.mono _ _)
   | (with_reducible exact row_Unpack.mono _ _ _)
   | (with_reducible exact tabardlaw11_cubes.mono _ _ _)
   | (with_reducible exact tabardlaw11_fixed.mono _)
   | (with_reducible exact LeO.refl _)
   | (with_reducible exact LeO.none _)
   | (with_reducible refine LeO.ite ?_ ?_)
   | (with_reducible refine LeO.bind ?_ (fun _ => ?_))
   | exact ih0 _ _ _ _
   | exact row_Pack.mono _ _
   | exact row_Unpack.mono _ _ _
   | exact tabardlaw11_cubes.mono _ _ _
   | exact tabardlaw11_fixed.mono _
   | exact LeO.none _
   | refine LeO.ite ?_ ?_
   | refine LeO.bind ?_ (fun _ => ?_)
theorem tabardlaw11_RowOnly.mono : ∀ a0 a1 a2 k, LeO (tabardlaw11_RowOnly.f k a0 a1 a2) (tabardlaw11_RowOnly.f (k + 1) a0 a1 a2) := by
 intro a0 a1 a2 k
 have ih0 := tabardlaw11_RowOnly.mono_l k
 unfold tabardlaw11_RowOnly.f
 repeat' first
   | (with_reducible exact ih0 _ _ _ _)
   | (with_reducible exact row_Pack.mono _ _)
   | (with_reducible exact row_Unpack.mono _ _ _)
   | (with_reducible exact tabardlaw11_cubes.mono _ _ _)
   | (with_reducible exact tabardlaw11_fixed.mono _)
   | (with_reducible exact LeO.refl _)
   | (with_reducible exact LeO.none _)
   | (with_reducible refine LeO.ite ?_ ?_)
   | (with_reducible refine LeO.bind ?_ (fun _ => ?_))
   | exact ih0 _ _ _ _
   | exact row_Pack.mono _ _
   | exact row_Unpack.mono _ _ _
   | exact tabardlaw11_cubes.mono _ _ _
   | exact tabardlaw11_fixed.mono _
   | exact LeO.none _
   | refine LeO.ite ?_ ?_
   | refine LeO.bind ?_ (fun _ => ?_)
def tabardlaw11_RowOnly.T10 : Bool × List (List Nat × List Nat) := (true, [([], []), ([], []), ([], []), ([1, 2], [1, 2]), ([0, 3], [0, 3]), ([], []), ([], []), ([6], [6]), ([5, 7], [5, 7]), ([4, 8, 4], [4, 8]), ([9, 9, 0, 1, 2, 3, 4, 5, 6, 7, 8, 9], [9])])
def tabardlaw11_RowOnly.B10 : List Nat := [0, 0, 0, 6, 15, 0, 0, 64, 224, 511, 1023]
theorem tabardlaw11_RowOnly.tab10 : rtab .any (opsOf Try.f5 10) = tabardlaw11_RowOnly.T10 := by kernel_rfl
theorem tabardlaw11_RowOnly.bits10 : waitsOk tabardlaw11_RowOnly.T10.2 tabardlaw11_RowOnly.B10 = true := by kernel_rfl
def tabardlaw11_RowOnly.T15 : Bool × List (List Nat × List Nat) := (true, [([], []), ([], []), ([], []), ([], []), ([3], [3]), ([4], [4]), ([], []), ([], []), ([6, 7], [6, 7]), ([8], [8]), ([0, 1, 0, 1, 3, 4, 5, 9], [0, 1]), ([10, 5, 0, 1, 3, 4, 5, 9], [5, 10]), ([2, 0, 1, 2, 3, 4, 5, 6, 7, 8, 9, 10, 11], [2]), ([12, 9, 11, 0, 1, 2, 3, 4, 5, 6, 7, 8, 9, 10, 11], [9, 12])])
def tabardlaw11_RowOnly.B15 : List Nat := [0, 0, 0, 0, 8, 24, 0, 0, 192, 448, 1019, 2043, 4095, 8191]
theorem tabardlaw11_RowOnly.tab15 : rtab .any (opsOf Try.f5 15) = tabardlaw11_RowOnly.T15 := by kernel_rfl
theorem tabardlaw11_RowOnly.bits15 : waitsOk tabardlaw11_RowOnly.T15.2 tabardlaw11_RowOnly.B15 = true := by kernel_rfl
set_option maxHeartbeats 8000000 in
set_option maxRecDepth 100000 in
theorem tabardlaw11_RowOnly.calls (k : Nat) (A0 : Option Addr) (c0 : Nat) (l0 : List (S31)) (a1 : Int) (a2 : Int) (r : Bool) (w : World) (hr0 : Kd.C k31 w A0 l0.length l0) (hc0 : l0.length ≤ c0) (h : tabardlaw11_RowOnly.f k l0 a1 a2 = some r) :
  Calls Try.prog 5 #[.slice A0 l0.length c0, .int .i64 a1, .int .i64 a2] w fun e w' => e = .returned (.bool r) ∧ Below w.heap.size w w' := by
 have hu31 := Try.underlying31
 have HR0 := Aside0.mk hr0
 have HC0 := Aside0.mk hc0
 clear hr0 hc0
 have HB := Aside0.mk (Below.refl w.heap.size w)
 have H : ((tabardlaw11_fixed.f k).bind fun t287 => (if t287 = true then ((some (([] : List (S31)) : List (S31))).bind fun y288 => (if y288.length + l0.length < 5864062014805 then ((row_Unpack.f k (y288 ++ l0) a1).bind fun bt294 => (if bt294.2 = 0 then ((some (([] : List Int) : List Int)).bind fun y298 => (if y298.length + bt294.1.length < 17592186044416 then ((row_Pack.f k (y298 ++ bt294.1)).bind fun bt304 => (if bt304.2 = 0 then ((tabardlaw11_cubes.f k bt304.1 l0).bind fun t308 => (if t308 = true then (tabardlaw11_RowOnly.j0 k l0 a1 a2 ((l0.length : Int) == 0)) else (tabardlaw11_RowOnly.j0 k l0 a1 a2 true))) else (tabardlaw11_RowOnly.j0 k l0 a1 a2 true))) else (none))) else (if (bt294.1.length : Int) = 0 then (if bt294.2 = 150 then (some true) else (some (bt294.2 == 3))) else (some false)))) else (none))) else (some false))) = some r := h
 clear h
 replace H := Option.bind_eq_some_iff.mp H
 obtain ⟨t287, A40, H⟩ := H
 replace H : (if t287 = true then ((some (([] : List (S31)) : List (S31))).bind fun y288 => (if y288.length + l0.length < 5864062014805 then ((row_Unpack.f k (y288 ++ l0) a1).bind fun bt294 => (if bt294.2 = 0 then ((some (([] : List Int) : List Int)).bind fun y298 => (if y298.length + bt294.1.length < 17592186044416 then ((row_Pack.f k (y298 ++ bt294.1)).bind fun bt304 => (if bt304.2 = 0 then ((tabardlaw11_cubes.f k bt304.1 l0).bind fun t308 => (if t308 = true then (tabardlaw11_RowOnly.j0 k l0 a1 a2 ((l0.length : Int) == 0)) else (tabardlaw11_RowOnly.j0 k l0 a1 a2 true))) else (tabardlaw11_RowOnly.j0 k l0 a1 a2 true))) else (none))) else (if (bt294.1.length : Int) = 0 then (if bt294.2 = 150 then (some true) else (some (bt294.2 == 3))) else (some false)))) else (none))) else (some false)) = some r := H
 have A4 := Aside0.mk A40
 clear A40
 by_cases c5 : t287 = true
 ·subst c5
  have H1 : ((some (([] : List (S31)) : List (S31))).bind fun y288 => (if y288.length + l0.length < 5864062014805 then ((row_Unpack.f k (y288 ++ l0) a1).bind fun bt294 => (if bt294.2 = 0 then ((some (([] : List Int) : List Int)).bind fun y298 => (if y298.length + bt294.1.length < 17592186044416 then ((row_Pack.f k (y298 ++ bt294.1)).bind fun bt304 => (if bt304.2 = 0 then ((tabardlaw11_cubes.f k bt304.1 l0).bind fun t308 => (if t308 = true then (tabardlaw11_RowOnly.j0 k l0 a1 a2 ((l0.length : Int) == 0)) else (tabardlaw11_RowOnly.j0 k l0 a1 a2 true))) else (tabardlaw11_RowOnly.j0 k l0 a1 a2 true))) else (none))) else (if (bt294.1.length : Int) = 0 then (if bt294.2 = 150 then (some true) else (some (bt294.2 == 3))) else (some false)))) else (none))) = some r := by rw [if_pos rfl] at H; exact H
  clear H
  have H := H1
  clear H1
  obtain ⟨y288, hy288⟩ : ∃ y_ : List (S31), y_ = (([] : List (S31))) := ⟨_, rfl⟩
  replace H : (if y288.length + l0.length < 5864062014805 then ((row_Unpack.f k (y288 ++ l0) a1).bind fun bt294 => (if bt294.2 = 0 then ((some (([] : List Int) : List Int)).bind fun y298 => (if y298.length + bt294.1.length < 17592186044416 then ((row_Pack.f k (y298 ++ bt294.1)).bind fun bt304 => (if bt304.2 = 0 then ((tabardlaw11_cubes.f k bt304.1 l0).bind fun t308 => (if t308 = true then (tabardlaw11_RowOnly.j0 k l0 a1 a2 ((l0.length : Int) == 0)) else (tabardlaw11_RowOnly.j0 k l0 a1 a2 true))) else (tabardlaw11_RowOnly.j0 k l0 a1 a2 true))) else (none))) else (if (bt294.1.length : Int) = 0 then (if bt294.2 = 150 then (some true) else (some (bt294.2 == 3))) else (some false)))) else (none)) = some r := by first | (rw [hy288]; with_reducible exact H) | (have H2_ := (Option.bind_some _ _).symm.trans H; rw [hy288]; with_reducible exact H2_) | (have H2_ := (Option.bind_some _ _).symm.trans H; with_reducible exact H2_) | with_reducible exact H | (rw [hy288]; exact H) | exact H
  have Ny288 := Aside0.mk hy288
  clear hy288
  by_cases c6 : y288.length + l0.length < 5864062014805
  ·rw [if_pos c6] at H
   have LMc6 := Aside0.mk c6
   clear c6
   obtain ⟨y291, hy291⟩ : ∃ y_ : List (S31), y_ = (y288 ++ l0) := ⟨_, rfl⟩
   replace H : ((row_Unpack.f k y291 a1).bind fun bt294 => (if bt294.2 = 0 then ((some (([] : List Int) : List Int)).bind fun y298 => (if y298.length + bt294.1.length < 17592186044416 then ((row_Pack.f k (y298 ++ bt294.1)).bind fun bt304 => (if bt304.2 = 0 then ((tabardlaw11_cubes.f k bt304.1 l0).bind fun t308 => (if t308 = true then (tabardlaw11_RowOnly.j0 k l0 a1 a2 ((l0.length : Int) == 0)) else (tabardlaw11_RowOnly.j0 k l0 a1 a2 true))) else (tabardlaw11_RowOnly.j0 k l0 a1 a2 true))) else (none))) else (if (bt294.1.length : Int) = 0 then (if bt294.2 = 150 then (some true) else (some (bt294.2 == 3))) else (some false)))) = some r := by first | (rw [hy291]; with_reducible exact H) | (have H2_ := (Option.bind_some _ _).symm.trans H; rw [hy291]; with_reducible exact H2_) | (have H2_ := (Option.bind_some _ _).symm.trans H; with_reducible exact H2_) | with_reducible exact H | (rw [hy291]; exact H) | exact H
   have Ny291 := Aside0.mk hy291
   clear hy291
   replace H := Option.bind_eq_some_iff.mp H
   obtain ⟨⟨t294, t295⟩, A70, H⟩ := H
   replace H : (if t295 = 0 then ((some (([] : List Int) : List Int)).bind fun y298 => (if y298.length + t294.length < 17592186044416 then ((row_Pack.f k (y298 ++ t294)).bind fun bt304 => (if bt304.2 = 0 then ((tabardlaw11_cubes.f k bt304.1 l0).bind fun t308 => (if t308 = true then (tabardlaw11_RowOnly.j0 k l0 a1 a2 ((l0.length : Int) == 0)) else (tabardlaw11_RowOnly.j0 k l0 a1 a2 true))) else (tabardlaw11_RowOnly.j0 k l0 a1 a2 true))) else (none))) else (if (t294.length : Int) = 0 then (if t295 = 150 then (some true) else (some (t295 == 3))) else (some false))) = some r := H
   have A7 := Aside0.mk A70
   clear A70
   by_cases c8 : t295 = 0
   ·rw [if_pos c8] at H
    have c8b0 : (t295 == 0) = true := beq_iff_eq.mpr c8
    have c8b1 : (t295 != 0) = false := bne_eq_false_iff_eq.mpr c8
    clear c8
    obtain ⟨y298, hy298⟩ : ∃ y_ : List Int, y_ = (([] : List Int)) := ⟨_, rfl⟩
    replace H : (if y298.length + t294.length < 17592186044416 then ((row_Pack.f k (y298 ++ t294)).bind fun bt304 => (if bt304.2 = 0 then ((tabardlaw11_cubes.f k bt304.1 l0).bind fun t308 => (if t308 = true then (tabardlaw11_RowOnly.j0 k l0 a1 a2 ((l0.length : Int) == 0)) else (tabardlaw11_RowOnly.j0 k l0 a1 a2 true))) else (tabardlaw11_RowOnly.j0 k l0 a1 a2 true))) else (none)) = some r := by first | (rw [hy298]; with_reducible exact H) | (have H2_ := (Option.bind_some _ _).symm.trans H; rw [hy298]; with_reducible exact H2_) | (have H2_ := (Option.bind_some _ _).symm.trans H; with_reducible exact H2_) | with_reducible exact H | (rw [hy298]; exact H) | exact H
    have Ny298 := Aside0.mk hy298
    clear hy298
    by_cases c9 : y298.length + t294.length < 17592186044416
    ·rw [if_pos c9] at H
     have LMc9 := Aside0.mk c9
     clear c9
     obtain ⟨y301, hy301⟩ : ∃ y_ : List Int, y_ = (y298 ++ t294) := ⟨_, rfl⟩
     replace H : ((row_Pack.f k y301).bind fun bt304 => (if bt304.2 = 0 then ((tabardlaw11_cubes.f k bt304.1 l0).bind fun t308 => (if t308 = true then (tabardlaw11_RowOnly.j0 k l0 a1 a2 ((l0.length : Int) == 0)) else (tabardlaw11_RowOnly.j0 k l0 a1 a2 true))) else (tabardlaw11_RowOnly.j0 k l0 a1 a2 true))) = some r := by first | (rw [hy301]; with_reducible exact H) | (have H2_ := (Option.bind_some _ _).symm.trans H; rw [hy301]; with_reducible exact H2_) | (have H2_ := (Option.bind_some _ _).symm.trans H; with_reducible exact H2_) | with_reducible exact H | (rw [hy301]; exact H) | exact H
     have Ny301 := Aside0.mk hy301
     clear hy301
     replace H := Option.bind_eq_some_iff.mp H
     obtain ⟨⟨t304, t305⟩, A100, H⟩ := H
     replace H : (if t305 = 0 then ((tabardlaw11_cubes.f k t304 l0).bind fun t308 => (if t308 = true then (tabardlaw11_RowOnly.j0 k l0 a1 a2 ((l0.length : Int) == 0)) else (tabardlaw11_RowOnly.j0 k l0 a1 a2 true))) else (tabardlaw11_RowOnly.j0 k l0 a1 a2 true)) = some r := H
     have A10 := Aside0.mk A100
     clear A100
     have HC11 := Aside0.mk H
     clear H
     go_enter Try.func5, Try.ntmps5
     go_upto_region 7 with (first | ((with_reducible refine gate_callee (f := 8) rfl ?_); refine goesL_ (some 13) rfl rfl Try.func8 (by kernel_rfl) rfl #[] rfl mO ?_; (with_reducible refine (tabardlaw11_fixed.calls k  true _ A4.out).mono ?_); rintro e w12 ⟨rfl, hb⟩; refine ⟨_, rfl, ?_⟩; have n0_ := Aside0.mk (below_step (bO HB.out) hb); clear HB; have HB := n0_; clear n0_; (try clear hb); (try clear hb2); (try clear hk); (try clear hi)) | ((with_reducible refine gate_dst (N := 16) rfl ?_); (try (refine gate_guard (by rfl) ?_; dsimp only)); refine Kd.R_lit k31 _ 31 ?hg (N := 16) ?hd (xs := ([] : List (S31))) (inner := []) (ok := fun _ => True) (okp := fun _ => True) ?hr ?hp (fun _ hk => hk) trivial (Below.refl _ _) (Nat.le_refl _) (by simp) ?_; (case hd => rfl); (case hg => rfl); (case hr => first | (go_simp; done) | (go_simp; rfl)); (case hp => exact (Reps.none _ _)); intro v289 w13 ho14 hb hg_ hnew_; clear hg_ hnew_; (first | rw [← Ny288.out] at ho14 | (simp only [Int.reduceToNat] at ho14; rw [← Ny288.out] at ho14)); have n0_ := Aside0.mk (Kd.R_lower ho14 (below_size (bO HB.out))); have n1_ := Aside0.mk (below_step (bO HB.out) hb); clear HB; have HO290 := n0_; have HB := n1_; clear n0_ n1_; clear hb ho14) | ((with_reducible refine gate_builtin (b := .append) (xs := #[.tmp 16, .tmp 17]) rfl ?_); (try (refine gate_guard (by rfl) ?_; dsimp only)); at_builtin; refine Kd.R_append_rows k31 (w0 := w) w.heap.size rfl (.tmp 16) (.tmp 17) 24 31 (.agg #[(.int .i64 0), (.int .i64 0), (.int .i64 0)]) 24 rfl Try.underlying24 info31 rfl (by decide) (by omega) v289 y288 l0 _ _ _ (fun _ => True) (fun _ => False) rfl rfl ?aO ?aR (fun _ _ h => h) (fun _ h => h.elim) ?aF ?aB ?aS ?aL ?_; (case aR => exact cO (Kd.C_below HR0.out HB.out)); (case aB => exact (bO HB.out)); (case aF => exact (fun _ _ => trivial)); (case aO => exact (rO HO290.out)); (case aS => exact (below_size (bO HB.out))); (case aL => have := LMc6.out; omega); intro v292 w15 ho hb hg hat; rw [← Ny291.out] at ho; have n0_ := Aside0.mk (hb); have n1_ := Aside0.mk (ho); clear HB; clear HO290; have HB := n0_; have HO293 := n1_; clear n0_ n1_; clear ho hb hg hat; obtain ⟨Ao16, co16, eo16⟩ := Kd.R_slice HO293.out; subst eo16) | ((with_reducible refine gate_callee (f := 14) rfl ?_); refine goesL_ (some 20) rfl rfl Try.func14 (by kernel_rfl) rfl #[.slice Ao16 y291.length co16, .int .i64 a1] rfl mO ?_; (with_reducible refine (row_Unpack.calls k _ _ y291 a1 t294 t295 _ ?side1 ?side2 A7.out).mono ?_); (case side1 => exact cO (Kd.R_reads' HO293.out).2.2); (case side2 => exact (Kd.R_reads' HO293.out).2.1); rintro e w17 ⟨v296, rfl, ho0, hb⟩; refine ⟨_, rfl, ?_⟩; have n0_ := Aside0.mk (Kd.R_below (rO HO293.out) hb); have n1_ := Aside0.mk (Kd.R_lower ho0 (below_size (bO HB.out))); have n2_ := Aside0.mk (below_step (bO HB.out) hb); clear HO293; clear HB; have HO293 := n0_; have HO297 := n1_; have HB := n2_; clear n0_ n1_ n2_; (try clear hb); (try clear hb2); (try clear hk); (try clear hi); (try clear ho0)) | ((with_reducible refine gate_dst (N := 37) rfl ?_); (try (refine gate_guard (by rfl) ?_; dsimp only)); refine Kd.R_lit (Kd.int .i64) _ 3 ?hg (N := 37) ?hd (xs := ([] : List Int)) (inner := []) (ok := fun _ => True) (okp := fun _ => True) ?hr ?hp (fun _ hk => hk) trivial (Below.refl _ _) (Nat.le_refl _) (by simp) ?_; (case hd => rfl); (case hg => rfl); (case hr => first | (go_simp; done) | (go_simp; rfl)); (case hp => exact (Reps.none _ _)); intro v299 w18 ho19 hb hg_ hnew_; clear hg_ hnew_; (first | rw [← Ny298.out] at ho19 | (simp only [Int.reduceToNat] at ho19; rw [← Ny298.out] at ho19)); have n0_ := Aside0.mk (Kd.R_below (rO HO293.out) hb); have n1_ := Aside0.mk (Kd.R_elder' (rO HO297.out) (Kd.R_base ho19) hb); have n2_ := Aside0.mk (Kd.R_lower (Kd.R_new' ho19 (Kd.R_lt (rO HO297.out))) (below_size (bO HB.out))); have n3_ := Aside0.mk (below_step (bO HB.out) hb); clear HO293; clear HO297; clear HB; have HO293 := n0_; have HO297 := n1_; have HO300 := n2_; have HB := n3_; clear n0_ n1_ n2_ n3_; clear hb ho19; obtain ⟨Ao21, co21, eo21⟩ := Kd.R_slice HO297.out; subst eo21) | ((with_reducible refine gate_builtin (b := .append) (xs := #[.tmp 37, .tmp 38]) rfl ?_); (try (refine gate_guard (by rfl) ?_; dsimp only)); at_builtin; refine Kd.R_append_rows (Kd.int .i64) (w0 := w) w.heap.size rfl (.tmp 37) (.tmp 38) 22 3 (.int .i64 0) 8 rfl Try.underlying22 info3 rfl (by decide) (by omega) v299 y298 t294 _ _ _ (fun k_ => some k_ ≠ (.slice Ao21 t294.length co21 : Value).ownBlock) (fun _ => False) rfl rfl ?aO ?aR (fun _ _ h => h) (fun _ h => h.elim) ?aF ?aB ?aS ?aL ?_; (case aR => exact cO (Kd.R_reads' HO297.out).2.2); (case aB => exact (bO HB.out)); (case aF => exact (fun k_ hk => Kd.fresh' (Kd.R_lt (rO HO297.out)) k_ hk)); (case aO => exact (by (with_reducible repeat (first | apply Kd.R_alloc | apply Kd.R_drewN | apply Kd.R_drew)); exact Kd.R_mono HO300.out (fun _ hk => hk.2))); (case aS => exact (below_size (bO HB.out))); (case aL => have := LMc9.out; omega); intro v302 w20 ho hb hg hat; rw [← Ny301.out] at ho; have n0_ := Aside0.mk (Kd.R_over' (rO HO293.out) (Kd.R_typed (rO HO300.out)) (by decide) hg); have n1_ := Aside0.mk (Kd.R_after (ok := (fun _ => True)) (rO HO297.out) hg hat); have n2_ := Aside0.mk (hb); have n3_ := Aside0.mk (ho); clear HO293; clear HO297; clear HB; clear HO300; have HO293 := n0_; have HO297 := n1_; have HB := n2_; have HO303 := n3_; clear n0_ n1_ n2_ n3_; clear ho hb hg hat; obtain ⟨Ao22, co22, eo22⟩ := Kd.R_slice HO303.out; subst eo22) | ((with_reducible refine gate_callee (f := 9) rfl ?_); refine goesL_ (some 40) rfl rfl Try.func9 (by kernel_rfl) rfl #[.slice Ao22 y301.length co22] rfl mO ?_; (with_reducible refine (row_Pack.calls k _ _ y301 t304 t305 _ ?side1 ?side2 A10.out).mono ?_); (case side1 => exact cO (Kd.R_reads' HO303.out).2.2); (case side2 => exact (Kd.R_reads' HO303.out).2.1); rintro e w23 ⟨v306, rfl, ho0, hb⟩; refine ⟨_, rfl, ?_⟩; have n0_ := Aside0.mk (Kd.R_elder' (rO HO293.out) (Kd.R_base ho0) hb); have n1_ := Aside0.mk (Kd.R_below (rO HO297.out) hb); have n2_ := Aside0.mk (Kd.R_below (rO HO303.out) hb); have n3_ := Aside0.mk (Kd.R_lower (Kd.R_new' ho0 (Kd.R_lt (rO HO293.out))) (below_size (bO HB.out))); have n4_ := Aside0.mk (below_step (bO HB.out) hb); clear HO293; clear HO297; clear HO303; clear HB; have HO293 := n0_; have HO297 := n1_; have HO303 := n2_; have HO307 := n3_; have HB := n4_; clear n0_ n1_ n2_ n3_ n4_; (try clear hb); (try clear hb2); (try clear hk); (try clear hi); (try clear ho0)))
     (try simp only [Act.put, List.setIfInBounds_toArray, List.set_cons_zero, List.set_cons_succ])
     go_cut [55] (fun v55 wc => ∃ (kq : Nat) (x55_10 : Bool), v55 = .bool x55_10 ∧ Aside0 (tabardlaw11_RowOnly.j0 kq l0 a1 a2 x55_10 = some r) ∧ Aside0 (kq ≤ k) ∧ Aside0 (Below w.heap.size w wc))
     case first =>
      have H := HC11.out
      clear HC11
      by_cases c24 : t305 = 0
      ·rw [if_pos c24] at H
       have c24b0 : (t305 == 0) = true := beq_iff_eq.mpr c24
       have c24b1 : (t305 != 0) = false := bne_eq_false_iff_eq.mpr c24
       clear c24
       (first | rw [c24b0] | (simp only [i64_w, i32_w]; rw [c24b0]) | skip)
       replace H := Option.bind_eq_some_iff.mp H
       obtain ⟨t308, A250, H⟩ := H
       replace H : (if t308 = true then (tabardlaw11_RowOnly.j0 k l0 a1 a2 ((l0.length : Int) == 0)) else (tabardlaw11_RowOnly.j0 k l0 a1 a2 true)) = some r := H
       have A25 := Aside0.mk A250
       clear A250
       by_cases c26 : t308 = true
       ·subst c26
        have H1 : (tabardlaw11_RowOnly.j0 k l0 a1 a2 ((l0.length : Int) == 0)) = some r := by rw [if_pos rfl] at H; exact H
        clear H
        have H := H1
        clear H1
        have H' := Aside0.mk H
        clear H
        obtain ⟨Ao27, co27, eo27⟩ := Kd.R_slice HO307.out
        subst eo27
        go_wp2_with (first | (go_at_call 10; (with_reducible refine (tabardlaw11_cubes.calls k _ _ t304 _ _ l0 true _ ?side1 ?side2 ?side3 ?side4 A25.out).mono ?_); (case side1 => exact cO (Kd.R_reads' HO307.out).2.2); (case side2 => exact (Kd.R_reads' HO307.out).2.1); (case side3 => exact cO (Kd.C_below HR0.out HB.out)); (case side4 => exact HC0.out); rintro e w' ⟨rfl, ⟨nd, rfl⟩⟩))
        go_meet
        case rel => exact ⟨_, (((l0.length : Int) == 0)), (by first | rfl | (simp; done) | (simp [*]; done)), H', ⟨by first | omega | exact Nat.le_refl _⟩, ⟨bO HB.out⟩⟩
       ·replace c26 := Bool.eq_false_iff.mpr c26
        subst c26
        have H1 : (tabardlaw11_RowOnly.j0 k l0 a1 a2 true) = some r := by rw [if_neg (show ¬ (false = true) by decide)] at H; exact H
        clear H
        have H := H1
        clear H1
        have H' := Aside0.mk H
        clear H
        obtain ⟨Ao28, co28, eo28⟩ := Kd.R_slice HO307.out
        subst eo28
        go_wp2_with (first | (go_at_call 10; (with_reducible refine (tabardlaw11_cubes.calls k _ _ t304 _ _ l0 false _ ?side1 ?side2 ?side3 ?side4 A25.out).mono ?_); (case side1 => exact cO (Kd.R_reads' HO307.out).2.2); (case side2 => exact (Kd.R_reads' HO307.out).2.1); (case side3 => exact cO (Kd.C_below HR0.out HB.out)); (case side4 => exact HC0.out); rintro e w' ⟨rfl, ⟨nd, rfl⟩⟩))
        go_meet
        case rel => exact ⟨_, (true), (by first | rfl | (simp; done) | (simp [*]; done)), H', ⟨by first | omega | exact Nat.le_refl _⟩, ⟨bO HB.out⟩⟩
      ·rw [if_neg c24] at H
       have c24b0 : (t305 == 0) = false := beq_eq_false_iff_ne.mpr c24
       have c24b1 : (t305 != 0) = true := bne_iff_ne.mpr c24
       (first | rw [c24b0] | (simp only [i64_w, i32_w]; rw [c24b0]) | skip)
       have H' := Aside0.mk H
       clear H
       go_wp2
       go_meet
       case rel => exact ⟨_, (true), (by first | rfl | (simp; done) | (simp [*]; done)), H', ⟨by first | omega | exact Nat.le_refl _⟩, ⟨bO HB.out⟩⟩
     case rest =>
      clear HC11
      try clear c1
      try clear c2
      try clear p2
      try clear c5
      try clear c6
      try clear c8
      try clear c8b0
      try clear c8b1
      try clear c9
      try clear c14
      try clear c24
      try clear c24b0
      try clear c24b1
      try clear c26
      obtain ⟨kq, x55_10, rfl, HA, HJ10, HB⟩ := hcut
      cases kq with
      | zero => exact absurd HA.out (by simp [tabardlaw11_RowOnly.j0])
      | succ kj10 =>
       have H := HA.out
       clear HA
       simp only [tabardlaw11_RowOnly.j0] at H
       by_cases c29 : x55_10 = true
       ·subst c29
        have H1 : (some false) = some r := by rw [if_pos rfl] at H; exact H
        clear H
        have H := H1
        clear H1
        obtain rfl := Option.some.inj H
        go_wp2
        go_ret
        exact ⟨by first | rfl | (simp [errW_none, errW_some] <;> rfl) | (simp [*, errW_none, errW_some] <;> rfl), bO HB.out⟩
       ·replace c29 := Bool.eq_false_iff.mpr c29
        subst c29
        have H1 : (if (IntKind.u64.wrap ((l0.length : Int))) = 0 then (none) else ((some (([] : List (S31)) : List (S31))).bind fun y309 => (if 0 ≤ (wrap64 (Int.tmod (IntKind.u64.wrap (a2)) (IntKind.u64.wrap ((l0.length : Int))))) then (if (wrap64 (Int.tmod (IntKind.u64.wrap (a2)) (IntKind.u64.wrap ((l0.length : Int))))) ≤ (l0.length : Int) then ((some (l0.take ((wrap64 (Int.tmod (IntKind.u64.wrap (a2)) (IntKind.u64.wrap ((l0.length : Int))))) : Int).toNat : List (S31))).bind fun y312 => (if y309.length + y312.length < 5864062014805 then ((some (y309 ++ y312 : List (S31))).bind fun y316 => (if 0 ≤ (wrap64 ((wrap64 (Int.tmod (IntKind.u64.wrap (a2)) (IntKind.u64.wrap ((l0.length : Int))))) + 1)) then (if (wrap64 ((wrap64 (Int.tmod (IntKind.u64.wrap (a2)) (IntKind.u64.wrap ((l0.length : Int))))) + 1)) ≤ (l0.length : Int) then ((some (l0.drop ((wrap64 ((wrap64 (Int.tmod (IntKind.u64.wrap (a2)) (IntKind.u64.wrap ((l0.length : Int))))) + 1)) : Int).toNat : List (S31))).bind fun y319 => (if y316.length + y319.length < 5864062014805 then ((row_Unpack.f kj10 (y316 ++ y319) a1).bind fun bt326 => (if bt326.2 = 3 then ((some (([] : List (S31)) : List (S31))).bind fun y330 => (if y330.length + l0.length < 5864062014805 then ((some (y330 ++ l0 : List (S31))).bind fun y333 => (if 0 < (y333.length : Int) then (if (wrap64 (Int.tmod (IntKind.u64.wrap (a2)) (IntKind.u64.wrap ((l0.length : Int))))) < (y333.length : Int) then ((row_Unpack.f kj10 ((y333.set ((wrap64 (Int.tmod (IntKind.u64.wrap (a2)) (IntKind.u64.wrap ((l0.length : Int))))) : Int).toNat (⟨(rd_T31 y333 0).f0, (rd_T31 y333 0).f1, (rd_T31 y333 0).f2⟩ : S31)).set (0 : Int).toNat (⟨(rd_T31 y333 (wrap64 (Int.tmod (IntKind.u64.wrap (a2)) (IntKind.u64.wrap ((l0.length : Int)))))).f0, (rd_T31 y333 (wrap64 (Int.tmod (IntKind.u64.wrap (a2)) (IntKind.u64.wrap ((l0.length : Int)))))).f1, (rd_T31 y333 (wrap64 (Int.tmod (IntKind.u64.wrap (a2)) (IntKind.u64.wrap ((l0.length : Int)))))).f2⟩ : S31)) a1).bind fun bt340 => (if (wrap64 (Int.tmod (IntKind.u64.wrap (a2)) (IntKind.u64.wrap ((l0.length : Int))))) = 0 then (some true) else (some (bt340.2 == 3)))) else (none)) else (none))) else (none))) else (some false))) else (none))) else (none)) else (none))) else (none))) else (none)) else (none)))) = some r := by rw [if_neg (show ¬ (false = true) by decide)] at H; exact H
        clear H
        have H := H1
        clear H1
        by_cases c30 : (IntKind.u64.wrap ((l0.length : Int))) = 0
        ·rw [if_pos c30] at H
         exact absurd H (by simp)
        ·rw [if_neg c30] at H
         have c30b0 : ((IntKind.u64.wrap ((l0.length : Int))) == 0) = false := beq_eq_false_iff_ne.mpr c30
         have c30b1 : ((IntKind.u64.wrap ((l0.length : Int))) != 0) = true := bne_iff_ne.mpr c30
         obtain ⟨y309, hy309⟩ : ∃ y_ : List (S31), y_ = (([] : List (S31))) := ⟨_, rfl⟩
         replace H : (if 0 ≤ (wrap64 (Int.tmod (IntKind.u64.wrap (a2)) (IntKind.u64.wrap ((l0.length : Int))))) then (if (wrap64 (Int.tmod (IntKind.u64.wrap (a2)) (IntKind.u64.wrap ((l0.length : Int))))) ≤ (l0.length : Int) then ((some (l0.take ((wrap64 (Int.tmod (IntKind.u64.wrap (a2)) (IntKind.u64.wrap ((l0.length : Int))))) : Int).toNat : List (S31))).bind fun y312 => (if y309.length + y312.length < 5864062014805 then ((some (y309 ++ y312 : List (S31))).bind fun y316 => (if 0 ≤ (wrap64 ((wrap64 (Int.tmod (IntKind.u64.wrap (a2)) (IntKind.u64.wrap ((l0.length : Int))))) + 1)) then (if (wrap64 ((wrap64 (Int.tmod (IntKind.u64.wrap (a2)) (IntKind.u64.wrap ((l0.length : Int))))) + 1)) ≤ (l0.length : Int) then ((some (l0.drop ((wrap64 ((wrap64 (Int.tmod (IntKind.u64.wrap (a2)) (IntKind.u64.wrap ((l0.length : Int))))) + 1)) : Int).toNat : List (S31))).bind fun y319 => (if y316.length + y319.length < 5864062014805 then ((row_Unpack.f kj10 (y316 ++ y319) a1).bind fun bt326 => (if bt326.2 = 3 then ((some (([] : List (S31)) : List (S31))).bind fun y330 => (if y330.length + l0.length < 5864062014805 then ((some (y330 ++ l0 : List (S31))).bind fun y333 => (if 0 < (y333.length : Int) then (if (wrap64 (Int.tmod (IntKind.u64.wrap (a2)) (IntKind.u64.wrap ((l0.length : Int))))) < (y333.length : Int) then ((row_Unpack.f kj10 ((y333.set ((wrap64 (Int.tmod (IntKind.u64.wrap (a2)) (IntKind.u64.wrap ((l0.length : Int))))) : Int).toNat (⟨(rd_T31 y333 0).f0, (rd_T31 y333 0).f1, (rd_T31 y333 0).f2⟩ : S31)).set (0 : Int).toNat (⟨(rd_T31 y333 (wrap64 (Int.tmod (IntKind.u64.wrap (a2)) (IntKind.u64.wrap ((l0.length : Int)))))).f0, (rd_T31 y333 (wrap64 (Int.tmod (IntKind.u64.wrap (a2)) (IntKind.u64.wrap ((l0.length : Int)))))).f1, (rd_T31 y333 (wrap64 (Int.tmod (IntKind.u64.wrap (a2)) (IntKind.u64.wrap ((l0.length : Int)))))).f2⟩ : S31)) a1).bind fun bt340 => (if (wrap64 (Int.tmod (IntKind.u64.wrap (a2)) (IntKind.u64.wrap ((l0.length : Int))))) = 0 then (some true) else (some (bt340.2 == 3)))) else (none)) else (none))) else (none))) else (some false))) else (none))) else (none)) else (none))) else (none))) else (none)) else (none)) = some r := by first | (rw [hy309]; with_reducible exact H) | (have H2_ := (Option.bind_some _ _).symm.trans H; rw [hy309]; with_reducible exact H2_) | (have H2_ := (Option.bind_some _ _).symm.trans H; with_reducible exact H2_) | with_reducible exact H | (rw [hy309]; exact H) | exact H
         have Ny309 := Aside0.mk hy309
         clear hy309
         obtain ⟨ji31, hji31⟩ : ∃ j_ : Int, (wrap64 (Int.tmod (IntKind.u64.wrap (a2)) (IntKind.u64.wrap ((l0.length : Int))))) = j_ := ⟨_, rfl⟩
         replace H : (if 0 ≤ (ji31) then (if (ji31) ≤ (l0.length : Int) then ((some (l0.take ((ji31) : Int).toNat : List (S31))).bind fun y312 => (if y309.length + y312.length < 5864062014805 then ((some (y309 ++ y312 : List (S31))).bind fun y316 => (if 0 ≤ (wrap64 ((ji31) + 1)) then (if (wrap64 ((ji31) + 1)) ≤ (l0.length : Int) then ((some (l0.drop ((wrap64 ((ji31) + 1)) : Int).toNat : List (S31))).bind fun y319 => (if y316.length + y319.length < 5864062014805 then ((row_Unpack.f kj10 (y316 ++ y319) a1).bind fun bt326 => (if bt326.2 = 3 then ((some (([] : List (S31)) : List (S31))).bind fun y330 => (if y330.length + l0.length < 5864062014805 then ((some (y330 ++ l0 : List (S31))).bind fun y333 => (if 0 < (y333.length : Int) then (if (ji31) < (y333.length : Int) then ((row_Unpack.f kj10 ((y333.set ((ji31) : Int).toNat (⟨(rd_T31 y333 0).f0, (rd_T31 y333 0).f1, (rd_T31 y333 0).f2⟩ : S31)).set (0 : Int).toNat (⟨(rd_T31 y333 (ji31)).f0, (rd_T31 y333 (ji31)).f1, (rd_T31 y333 (ji31)).f2⟩ : S31)) a1).bind fun bt340 => (if (ji31) = 0 then (some true) else (some (bt340.2 == 3)))) else (none)) else (none))) else (none))) else (some false))) else (none))) else (none)) else (none))) else (none))) else (none)) else (none)) = some r := by first | (rw [hji31] at H; exact H) | (simp only [hji31] at H ⊢; exact H)
         have hji31w : (IntKind.i64.wrap (Int.tmod (IntKind.u64.wrap (a2)) (IntKind.u64.wrap ((l0.length : Int))))) = ji31 := (i64_w _).trans hji31
         by_cases c32 : 0 ≤ (ji31)
         ·rw [if_pos c32] at H
          have c32b0 := eq_true c32
          have c32b1 : decide (0 ≤ (ji31)) = true := decide_eq_true c32
          clear c32
          by_cases c33 : (ji31) ≤ (l0.length : Int)
          ·rw [if_pos c33] at H
           have c33b0 := eq_true c33
           have c33b1 : decide ((ji31) ≤ (l0.length : Int)) = true := decide_eq_true c33
           clear c33
           obtain ⟨y312, hy312⟩ : ∃ y_ : List (S31), y_ = (l0.take ((ji31) : Int).toNat) := ⟨_, rfl⟩
           replace H : (if y309.length + y312.length < 5864062014805 then ((some (y309 ++ y312 : List (S31))).bind fun y316 => (if 0 ≤ (wrap64 ((ji31) + 1)) then (if (wrap64 ((ji31) + 1)) ≤ (l0.length : Int) then ((some (l0.drop ((wrap64 ((ji31) + 1)) : Int).toNat : List (S31))).bind fun y319 => (if y316.length + y319.length < 5864062014805 then ((row_Unpack.f kj10 (y316 ++ y319) a1).bind fun bt326 => (if bt326.2 = 3 then ((some (([] : List (S31)) : List (S31))).bind fun y330 => (if y330.length + l0.length < 5864062014805 then ((some (y330 ++ l0 : List (S31))).bind fun y333 => (if 0 < (y333.length : Int) then (if (ji31) < (y333.length : Int) then ((row_Unpack.f kj10 ((y333.set ((ji31) : Int).toNat (⟨(rd_T31 y333 0).f0, (rd_T31 y333 0).f1, (rd_T31 y333 0).f2⟩ : S31)).set (0 : Int).toNat (⟨(rd_T31 y333 (ji31)).f0, (rd_T31 y333 (ji31)).f1, (rd_T31 y333 (ji31)).f2⟩ : S31)) a1).bind fun bt340 => (if (ji31) = 0 then (some true) else (some (bt340.2 == 3)))) else (none)) else (none))) else (none))) else (some false))) else (none))) else (none)) else (none))) else (none)) = some r := by first | (rw [hy312]; with_reducible exact H) | (have H2_ := (Option.bind_some _ _).symm.trans H; rw [hy312]; with_reducible exact H2_) | (have H2_ := (Option.bind_some _ _).symm.trans H; with_reducible exact H2_) | with_reducible exact H | (rw [hy312]; exact H) | exact H
           have Ny312 := Aside0.mk hy312
           clear hy312
           by_cases c34 : y309.length + y312.length < 5864062014805
           ·rw [if_pos c34] at H
            have LMc34 := Aside0.mk c34
            clear c34
            obtain ⟨y316, hy316⟩ : ∃ y_ : List (S31), y_ = (y309 ++ y312) := ⟨_, rfl⟩
            replace H : (if 0 ≤ (wrap64 ((ji31) + 1)) then (if (wrap64 ((ji31) + 1)) ≤ (l0.length : Int) then ((some (l0.drop ((wrap64 ((ji31) + 1)) : Int).toNat : List (S31))).bind fun y319 => (if y316.length + y319.length < 5864062014805 then ((row_Unpack.f kj10 (y316 ++ y319) a1).bind fun bt326 => (if bt326.2 = 3 then ((some (([] : List (S31)) : List (S31))).bind fun y330 => (if y330.length + l0.length < 5864062014805 then ((some (y330 ++ l0 : List (S31))).bind fun y333 => (if 0 < (y333.length : Int) then (if (ji31) < (y333.length : Int) then ((row_Unpack.f kj10 ((y333.set ((ji31) : Int).toNat (⟨(rd_T31 y333 0).f0, (rd_T31 y333 0).f1, (rd_T31 y333 0).f2⟩ : S31)).set (0 : Int).toNat (⟨(rd_T31 y333 (ji31)).f0, (rd_T31 y333 (ji31)).f1, (rd_T31 y333 (ji31)).f2⟩ : S31)) a1).bind fun bt340 => (if (ji31) = 0 then (some true) else (some (bt340.2 == 3)))) else (none)) else (none))) else (none))) else (some false))) else (none))) else (none)) else (none)) = some r := by first | (rw [hy316]; with_reducible exact H) | (have H2_ := (Option.bind_some _ _).symm.trans H; rw [hy316]; with_reducible exact H2_) | (have H2_ := (Option.bind_some _ _).symm.trans H; with_reducible exact H2_) | with_reducible exact H | (rw [hy316]; exact H) | exact H
            have Ny316 := Aside0.mk hy316
            clear hy316
            obtain ⟨ji35, hji35⟩ : ∃ j_ : Int, (wrap64 ((ji31) + 1)) = j_ := ⟨_, rfl⟩
            replace H : (if 0 ≤ (ji35) then (if (ji35) ≤ (l0.length : Int) then ((some (l0.drop ((ji35) : Int).toNat : List (S31))).bind fun y319 => (if y316.length + y319.length < 5864062014805 then ((row_Unpack.f kj10 (y316 ++ y319) a1).bind fun bt326 => (if bt326.2 = 3 then ((some (([] : List (S31)) : List (S31))).bind fun y330 => (if y330.length + l0.length < 5864062014805 then ((some (y330 ++ l0 : List (S31))).bind fun y333 => (if 0 < (y333.length : Int) then (if (ji31) < (y333.length : Int) then ((row_Unpack.f kj10 ((y333.set ((ji31) : Int).toNat (⟨(rd_T31 y333 0).f0, (rd_T31 y333 0).f1, (rd_T31 y333 0).f2⟩ : S31)).set (0 : Int).toNat (⟨(rd_T31 y333 (ji31)).f0, (rd_T31 y333 (ji31)).f1, (rd_T31 y333 (ji31)).f2⟩ : S31)) a1).bind fun bt340 => (if (ji31) = 0 then (some true) else (some (bt340.2 == 3)))) else (none)) else (none))) else (none))) else (some false))) else (none))) else (none)) else (none)) = some r := by first | (rw [hji35] at H; exact H) | (simp only [hji35] at H ⊢; exact H)
            have hji35w : (IntKind.i64.wrap ((ji31) + 1)) = ji35 := (i64_w _).trans hji35
            by_cases c36 : 0 ≤ (ji35)
            ·rw [if_pos c36] at H
             have c36b0 := eq_true c36
             have c36b1 : decide (0 ≤ (ji35)) = true := decide_eq_true c36
             clear c36
             by_cases c37 : (ji35) ≤ (l0.length : Int)
             ·rw [if_pos c37] at H
              have c37b0 := eq_true c37
              have c37b1 : decide ((ji35) ≤ (l0.length : Int)) = true := decide_eq_true c37
              clear c37
              obtain ⟨y319, hy319⟩ : ∃ y_ : List (S31), y_ = (l0.drop ((ji35) : Int).toNat) := ⟨_, rfl⟩
              replace H : (if y316.length + y319.length < 5864062014805 then ((row_Unpack.f kj10 (y316 ++ y319) a1).bind fun bt326 => (if bt326.2 = 3 then ((some (([] : List (S31)) : List (S31))).bind fun y330 => (if y330.length + l0.length < 5864062014805 then ((some (y330 ++ l0 : List (S31))).bind fun y333 => (if 0 < (y333.length : Int) then (if (ji31) < (y333.length : Int) then ((row_Unpack.f kj10 ((y333.set ((ji31) : Int).toNat (⟨(rd_T31 y333 0).f0, (rd_T31 y333 0).f1, (rd_T31 y333 0).f2⟩ : S31)).set (0 : Int).toNat (⟨(rd_T31 y333 (ji31)).f0, (rd_T31 y333 (ji31)).f1, (rd_T31 y333 (ji31)).f2⟩ : S31)) a1).bind fun bt340 => (if (ji31) = 0 then (some true) else (some (bt340.2 == 3)))) else (none)) else (none))) else (none))) else (some false))) else (none)) = some r := by first | (rw [hy319]; with_reducible exact H) | (have H2_ := (Option.bind_some _ _).symm.trans H; rw [hy319]; with_reducible exact H2_) | (have H2_ := (Option.bind_some _ _).symm.trans H; with_reducible exact H2_) | with_reducible exact H | (rw [hy319]; exact H) | exact H
              have Ny319 := Aside0.mk hy319
              clear hy319
              by_cases c38 : y316.length + y319.length < 5864062014805
              ·rw [if_pos c38] at H
               have LMc38 := Aside0.mk c38
               clear c38
               obtain ⟨y323, hy323⟩ : ∃ y_ : List (S31), y_ = (y316 ++ y319) := ⟨_, rfl⟩
               replace H : ((row_Unpack.f kj10 y323 a1).bind fun bt326 => (if bt326.2 = 3 then ((some (([] : List (S31)) : List (S31))).bind fun y330 => (if y330.length + l0.length < 5864062014805 then ((some (y330 ++ l0 : List (S31))).bind fun y333 => (if 0 < (y333.length : Int) then (if (ji31) < (y333.length : Int) then ((row_Unpack.f kj10 ((y333.set ((ji31) : Int).toNat (⟨(rd_T31 y333 0).f0, (rd_T31 y333 0).f1, (rd_T31 y333 0).f2⟩ : S31)).set (0 : Int).toNat (⟨(rd_T31 y333 (ji31)).f0, (rd_T31 y333 (ji31)).f1, (rd_T31 y333 (ji31)).f2⟩ : S31)) a1).bind fun bt340 => (if (ji31) = 0 then (some true) else (some (bt340.2 == 3)))) else (none)) else (none))) else (none))) else (some false))) = some r := by first | (rw [hy323]; with_reducible exact H) | (have H2_ := (Option.bind_some _ _).symm.trans H; rw [hy323]; with_reducible exact H2_) | (have H2_ := (Option.bind_some _ _).symm.trans H; with_reducible exact H2_) | with_reducible exact H | (rw [hy323]; exact H) | exact H
               have Ny323 := Aside0.mk hy323
               clear hy323
               replace H := Option.bind_eq_some_iff.mp H
               obtain ⟨⟨t326, t327⟩, A390, H⟩ := H
               replace H : (if t327 = 3 then ((some (([] : List (S31)) : List (S31))).bind fun y330 => (if y330.length + l0.length < 5864062014805 then ((some (y330 ++ l0 : List (S31))).bind fun y333 => (if 0 < (y333.length : Int) then (if (ji31) < (y333.length : Int) then ((row_Unpack.f kj10 ((y333.set ((ji31) : Int).toNat (⟨(rd_T31 y333 0).f0, (rd_T31 y333 0).f1, (rd_T31 y333 0).f2⟩ : S31)).set (0 : Int).toNat (⟨(rd_T31 y333 (ji31)).f0, (rd_T31 y333 (ji31)).f1, (rd_T31 y333 (ji31)).f2⟩ : S31)) a1).bind fun bt340 => (if (ji31) = 0 then (some true) else (some (bt340.2 == 3)))) else (none)) else (none))) else (none))) else (some false)) = some r := H
               have A39 := Aside0.mk A390
               clear A390
               by_cases c40 : t327 = 3
               ·rw [if_pos c40] at H
                have c40b0 : (t327 == 3) = true := beq_iff_eq.mpr c40
                have c40b1 : (t327 != 3) = false := bne_eq_false_iff_eq.mpr c40
                clear c40
                obtain ⟨y330, hy330⟩ : ∃ y_ : List (S31), y_ = (([] : List (S31))) := ⟨_, rfl⟩
                replace H : (if y330.length + l0.length < 5864062014805 then ((some (y330 ++ l0 : List (S31))).bind fun y333 => (if 0 < (y333.length : Int) then (if (ji31) < (y333.length : Int) then ((row_Unpack.f kj10 ((y333.set ((ji31) : Int).toNat (⟨(rd_T31 y333 0).f0, (rd_T31 y333 0).f1, (rd_T31 y333 0).f2⟩ : S31)).set (0 : Int).toNat (⟨(rd_T31 y333 (ji31)).f0, (rd_T31 y333 (ji31)).f1, (rd_T31 y333 (ji31)).f2⟩ : S31)) a1).bind fun bt340 => (if (ji31) = 0 then (some true) else (some (bt340.2 == 3)))) else (none)) else (none))) else (none)) = some r := by first | (rw [hy330]; with_reducible exact H) | (have H2_ := (Option.bind_some _ _).symm.trans H; rw [hy330]; with_reducible exact H2_) | (have H2_ := (Option.bind_some _ _).symm.trans H; with_reducible exact H2_) | with_reducible exact H | (rw [hy330]; exact H) | exact H
                have Ny330 := Aside0.mk hy330
                clear hy330
                by_cases c41 : y330.length + l0.length < 5864062014805
                ·rw [if_pos c41] at H
                 have LMc41 := Aside0.mk c41
                 clear c41
                 obtain ⟨y333, hy333⟩ : ∃ y_ : List (S31), y_ = (y330 ++ l0) := ⟨_, rfl⟩
                 replace H : (if 0 < (y333.length : Int) then (if (ji31) < (y333.length : Int) then ((row_Unpack.f kj10 ((y333.set ((ji31) : Int).toNat (⟨(rd_T31 y333 0).f0, (rd_T31 y333 0).f1, (rd_T31 y333 0).f2⟩ : S31)).set (0 : Int).toNat (⟨(rd_T31 y333 (ji31)).f0, (rd_T31 y333 (ji31)).f1, (rd_T31 y333 (ji31)).f2⟩ : S31)) a1).bind fun bt340 => (if (ji31) = 0 then (some true) else (some (bt340.2 == 3)))) else (none)) else (none)) = some r := by first | (rw [hy333]; with_reducible exact H) | (have H2_ := (Option.bind_some _ _).symm.trans H; rw [hy333]; with_reducible exact H2_) | (have H2_ := (Option.bind_some _ _).symm.trans H; with_reducible exact H2_) | with_reducible exact H | (rw [hy333]; exact H) | exact H
                 have Ny333 := Aside0.mk hy333
                 clear hy333
                 by_cases c42 : 0 < (y333.length : Int)
                 ·rw [if_pos c42] at H
                  have c42b0 : decide (0 < (y333.length : Int)) = true := decide_eq_true c42
                  have c42b1 : decide (0 < y333.length) = true := decide_eq_true (by omega)
                  clear c42
                  by_cases c43 : (ji31) < (y333.length : Int)
                  ·rw [if_pos c43] at H
                   have c43b0 : decide ((ji31) < (y333.length : Int)) = true := decide_eq_true c43
                   clear c43
                   obtain ⟨y338, hy338⟩ : ∃ y_ : List (S31), y_ = (y333.set ((ji31) : Int).toNat (⟨(rd_T31 y333 0).f0, (rd_T31 y333 0).f1, (rd_T31 y333 0).f2⟩ : S31)) := ⟨_, rfl⟩
                   replace H : ((row_Unpack.f kj10 (y338.set (0 : Int).toNat (⟨(rd_T31 y333 (ji31)).f0, (rd_T31 y333 (ji31)).f1, (rd_T31 y333 (ji31)).f2⟩ : S31)) a1).bind fun bt340 => (if (ji31) = 0 then (some true) else (some (bt340.2 == 3)))) = some r := by first | (rw [hy338]; with_reducible exact H) | (have H2_ := (Option.bind_some _ _).symm.trans H; rw [hy338]; with_reducible exact H2_) | (have H2_ := (Option.bind_some _ _).symm.trans H; with_reducible exact H2_) | with_reducible exact H | (rw [hy338]; exact H) | exact H
                   have Ny338 := Aside0.mk hy338
                   clear hy338
                   obtain ⟨y339, hy339⟩ : ∃ y_ : List (S31), y_ = (y338.set (0 : Int).toNat (⟨(rd_T31 y333 (ji31)).f0, (rd_T31 y333 (ji31)).f1, (rd_T31 y333 (ji31)).f2⟩ : S31)) := ⟨_, rfl⟩
                   replace H : ((row_Unpack.f kj10 y339 a1).bind fun bt340 => (if (ji31) = 0 then (some true) else (some (bt340.2 == 3)))) = some r := by first | (rw [hy339]; with_reducible exact H) | (have H2_ := (Option.bind_some _ _).symm.trans H; rw [hy339]; with_reducible exact H2_) | (have H2_ := (Option.bind_some _ _).symm.trans H; with_reducible exact H2_) | with_reducible exact H | (rw [hy339]; exact H) | exact H
                   have Ny339 := Aside0.mk hy339
                   clear hy339
                   replace H := Option.bind_eq_some_iff.mp H
                   obtain ⟨⟨t340, t341⟩, A460, H⟩ := H
                   replace H : (if (ji31) = 0 then (some true) else (some (t341 == 3))) = some r := H
                   have A46 := Aside0.mk A460
                   clear A460
                   by_cases c47 : (ji31) = 0
                   ·rw [if_pos c47] at H
                    have c47b0 : ((ji31) == 0) = true := beq_iff_eq.mpr c47
                    have c47b1 : ((ji31) != 0) = false := bne_eq_false_iff_eq.mpr c47
                    clear c47
                    obtain rfl := Option.some.inj H
                    try go_wp2
                    have n0_ := Aside0.mk (below_drew1 HB.out)
                    clear HB
                    have HB := n0_
                    clear n0_
                    have q49 : ((ji31) : Int) ≤ ((l0.length : Int) : Int) := of_decide_eq_true aO
                    obtain ⟨i049, hi049, _, hsz49, _⟩ := info_parts info31
                    have hroom49 : l0.length ≤ c0 := HC0.out
                    have hC49 : Kd.C k31 _ A0 l0.length l0 := HR0.out
                    have hcut49 := cut_to (P := Try.prog) 24 31 .i64 Try.underlying24 hi049 A0 l0.length c0 (ji31) (of_decide_eq_true aO) q49 hroom49
                    have hr49 := Kd.C_take (m := ((ji31) : Int).toNat) hC49 (by omega)
                    have hy49 : y312.length = ((ji31) : Int).toNat := (by rw [Ny312.out, List.length_take]; omega)
                    rw [← Ny312.out] at hr49
                    rw [← hy49] at hcut49
                    have HR315 := Aside0.mk hr49
                    have HC315 := Aside0.mk (show y312.length ≤ c0 from by omega)
                    clear hr49 hC49 hroom49 hi049 hsz49
                    have KY49 := Aside0.mk hy49
                    clear hy49
                    replace q49 := eq_true q49
                    have q50 : ((ji35) : Int) ≤ ((l0.length : Int) : Int) := of_decide_eq_true aO
                    obtain ⟨i050, hi050, _, hsz50, _⟩ := info_parts info31
                    have hroom50 : l0.length ≤ c0 := HC0.out
                    have hC50 : Kd.C k31 _ A0 l0.length l0 := HR0.out
                    have q050 : (0 : Int) ≤ ((ji35) : Int) := of_decide_eq_true aO
                    have hcut50 := cut_from (P := Try.prog) 24 31 .i64 Try.underlying24 hi050 3 hsz50 A0 l0.length c0 (ji35) q050 q50
                    have hr50 := Kd.C_drop (m := ((ji35) : Int).toNat) (c := c0) hC50 (by omega) hroom50
                    obtain ⟨A50, hA50⟩ : ∃ A1, A1 = (if c0 = ((ji35) : Int).toNat then A0 else (A0 : Option Addr).map (·.add (((ji35) : Int).toNat * 3))) := ⟨_, rfl⟩
                    obtain ⟨c50, hc50⟩ : ∃ c1, c1 = c0 - ((ji35) : Int).toNat := ⟨_, rfl⟩
                    have hy50 : y319.length = l0.length - ((ji35) : Int).toNat := (by rw [Ny319.out, List.length_drop] <;> omega)
                    rw [show (l0).drop ((ji35) : Int).toNat = y319 from Ny319.out.symm] at hr50
                    replace hr50 : Kd.C k31 _ A50 y319.length y319 := (by rw [hA50]; exact hr50)
                    rw [← hy50, ← hA50, ← hc50] at hcut50
                    have HR322 := Aside0.mk hr50
                    have HC322 := Aside0.mk (show y319.length ≤ c50 from by rw [hy50, hc50]; exact Nat.sub_le_sub_right hroom50 _)
                    clear hr50 hC50 hroom50 hi050 hsz50 hc50
                    have KY50 := Aside0.mk hy50
                    have KA50 := Aside0.mk hA50
                    clear hy50 hA50
                    replace q50 := eq_true q50
                    refine start_ (n := 11) (S := fun w' => True) (ds := []) #[false, false, false, false, false, false, false, false, false, false, false] (by kernel_rfl) rfl rfl trivial (fun hHeld => ?_); refine with_tabW tabardlaw11_RowOnly.tab10 tabardlaw11_RowOnly.bits10 (fun HT_ HW_ => ?_)
                    generalize wc.drew = w48 at HB HR315 HR322 hHeld ⊢
                    refine pure_ (i := 1) (N := some 64) (v := ?_) (a' := ?_) #[false, true, false, false, false, false, false, false, false, false, false] rfl rfl (any_of HT_.out (by kernel_rfl)) (fun _ _ _ h => h) (Or.inl ⟨by rfl, ?_⟩) ?_ ?_
                    rotate_left
                    ·intro w'
                     go_simp
                     with_reducible rfl
                    rotate_left
                    ·simp only [Act.put, List.setIfInBounds_toArray, List.set_cons_zero, List.set_cons_succ, i64_w, i32_w]
                     rfl
                    refine pure_ (i := 2) (N := some 65) (v := ?_) (a' := ?_) #[false, true, true, false, false, false, false, false, false, false, false] rfl rfl (any_of HT_.out (by kernel_rfl)) (fun _ _ _ h => h) (Or.inl ⟨by rfl, ?_⟩) ?_ ?_
                    rotate_left
                    ·intro w'
                     go_simp
                     with_reducible rfl
                    rotate_left
                    ·simp only [Act.put, List.setIfInBounds_toArray, List.set_cons_zero, List.set_cons_succ, i64_w, i32_w]
                     rfl
                    refine pure_ (i := 3) (N := some 66) (v := ?_) (a' := ?_) #[false, true, true, true, false, false, false, false, false, false, false] rfl rfl (any_of HT_.out (by kernel_rfl)) (fun _ _ _ h => h) (Or.inl ⟨by rfl, ?_⟩) ?_ ?_
                    rotate_left
                    ·intro w'
                     go_simp
                     with_reducible rfl
                    rotate_left
                    ·simp only [Act.put, List.setIfInBounds_toArray, List.set_cons_zero, List.set_cons_succ, i64_w, i32_w]
                     rfl
                    refine pure_ (i := 5) (N := some 68) (v := ?_) (a' := ?_) #[false, true, true, true, false, true, false, false, false, false, false] rfl rfl (any_of HT_.out (by kernel_rfl)) (fun _ _ _ h => h) (Or.inl ⟨by rfl, ?_⟩) ?_ ?_
                    rotate_left
                    ·intro w'
                     go_simp
                     with_reducible rfl
                    rotate_left
                    ·simp only [Act.put, List.setIfInBounds_toArray, List.set_cons_zero, List.set_cons_succ, i64_w, i32_w]
                     rfl
                    refine pure_ (i := 6) (N := some 69) (v := ?_) (a' := ?_) #[false, true, true, true, false, true, true, false, false, false, false] rfl rfl (any_of HT_.out (by kernel_rfl)) (fun _ _ _ h => h) (Or.inl ⟨by rfl, ?_⟩) ?_ ?_
                    rotate_left
                    ·intro w'
                     go_simp
                     with_reducible rfl
                    rotate_left
                    ·simp only [Act.put, List.setIfInBounds_toArray, List.set_cons_zero, List.set_cons_succ, i64_w, i32_w]
                     rfl
                    refine pure_ (i := 7) (N := some 70) (v := ?_) (a' := ?_) #[false, true, true, true, false, true, true, true, false, false, false] rfl rfl (any_of HT_.out (by kernel_rfl)) (fun _ _ _ h => h) (Or.inl ⟨by rfl, ?_⟩) ?_ ?_
                    rotate_left
                    ·intro w'
                     go_simp
                     with_reducible rfl
                    rotate_left
                    ·simp only [Act.put, List.setIfInBounds_toArray, List.set_cons_zero, List.set_cons_succ, i64_w, i32_w]
                     rfl
                    refine pure_ (i := 8) (N := some 71) (v := ?_) (a' := ?_) #[false, true, true, true, false, true, true, true, true, false, false] rfl rfl (any_of HT_.out (by kernel_rfl)) (fun _ _ _ h => h) (Or.inl ⟨by rfl, ?_⟩) ?_ ?_
                    rotate_left
                    ·intro w'
                     go_simp
                     with_reducible rfl
                    rotate_left
                    ·simp only [Act.put, List.setIfInBounds_toArray, List.set_cons_zero, List.set_cons_succ, i64_w, i32_w]
                     rfl
                    refine one_ (i := 0) (N := some 63) #[true, true, true, true, false, true, true, true, true, false, false] rfl rfl (one_of HT_.out (by kernel_rfl)) (by decide) (fun K hK => ?_)
                    refine Kd.R_lit_step k31 _ 31 ?hg (N := 63) ?hd (xs := ([] : List (S31))) (inner := []) (ok := fun _ => True) (okp := fun _ => True) ?hr ?hp (fun _ hk => hk) trivial (Below.refl _ _) (Nat.le_refl _) (by simp) ?_; (case hd => rfl); (case hg => rfl); (case hr => first | (go_simp; done) | (go_simp; rfl)); (case hp => exact (Reps.none _ _))
                    intro v310 w51 ho52 hb hg_ hnew_
                    clear hg_ hnew_
                    (first | rw [← Ny309.out] at ho52 | (simp only [Int.reduceToNat] at ho52; rw [← Ny309.out] at ho52))
                    have n0_ := Aside0.mk (Kd.R_lower ho52 (below_size (bO HB.out)))
                    have n1_ := Aside0.mk (below_step (bO HB.out) hb)
                    clear HB
                    have HO311 := n0_
                    have HB := n1_
                    clear n0_ n1_
                    clear hb ho52
                    refine hK.out _ _ trivial (fun hHeld => ?_)
                    clear hK K
                    refine norm_ (a' := ?_) ?_ ?_
                    rotate_left
                    ·show Act.put _ (some 63) _ = _
                     simp only [Act.put, List.setIfInBounds_toArray, List.set_cons_zero, List.set_cons_succ, i64_w, i32_w]
                     rfl
                    refine one_ (i := 4) (N := some 67) #[true, true, true, true, true, true, true, true, true, false, false] rfl rfl (one_of HT_.out (by kernel_rfl)) (by decide) (fun K hK => ?_)
                    refine Kd.R_append_rows_step k31 (w0 := w) w.heap.size (by rfl) (.tmp 63) (.tmp 66) 24 31 (.agg #[(.int .i64 0), (.int .i64 0), (.int .i64 0)]) 24 rfl Try.underlying24 info31 rfl (by decide) (by omega) v310 y309 y312 _ _ _ (fun _ => True) (fun _ => False) rfl rfl ?aO ?aR (fun _ _ h => h) (fun _ h => h.elim) ?aF ?aB ?aS ?aL ?_
                    (case aR => exact cO (Kd.C_below HR315.out HB.out))
                    (case aB => exact (bO HB.out))
                    (case aF => exact (fun _ _ => trivial))
                    (case aO => exact (rO HO311.out))
                    (case aS => exact (below_size (bO HB.out)))
                    (case aL => have := LMc34.out; omega)
                    intro v317 w53 ho hb hg hat
                    rw [← Ny316.out] at ho
                    have n0_ := Aside0.mk (hb)
                    have n1_ := Aside0.mk (ho)
                    clear HB
                    clear HO311
                    have HB := n0_
                    have HO318 := n1_
                    clear n0_ n1_
                    clear ho hb hg hat
                    refine hK.out _ _ trivial (fun hHeld => ?_)
                    clear hK K
                    refine norm_ (a' := ?_) ?_ ?_
                    rotate_left
                    ·show Act.put _ (some 67) _ = _
                     simp only [Act.put, List.setIfInBounds_toArray, List.set_cons_zero, List.set_cons_succ, i64_w, i32_w]
                     rfl
                    refine one_ (i := 9) (N := some 72) #[true, true, true, true, true, true, true, true, true, true, false] rfl rfl (one_of HT_.out (by kernel_rfl)) (by decide) (fun K hK => ?_)
                    refine Kd.R_append_rows_step k31 (w0 := w) w.heap.size (by rfl) (.tmp 67) (.tmp 71) 24 31 (.agg #[(.int .i64 0), (.int .i64 0), (.int .i64 0)]) 24 rfl Try.underlying24 info31 rfl (by decide) (by omega) v317 y316 y319 _ _ _ (fun _ => True) (fun _ => False) rfl rfl ?aO ?aR (fun _ _ h => h) (fun _ h => h.elim) ?aF ?aB ?aS ?aL ?_
                    (case aR => exact cO (Kd.C_below HR322.out HB.out))
                    (case aB => exact (bO HB.out))
                    (case aF => exact (fun _ _ => trivial))
                    (case aO => exact (rO HO318.out))
                    (case aS => exact (below_size (bO HB.out)))
                    (case aL => have := LMc38.out; omega)
                    intro v324 w54 ho hb hg hat
                    rw [← Ny323.out] at ho
                    have n0_ := Aside0.mk (hb)
                    have n1_ := Aside0.mk (ho)
                    clear HB
                    clear HO318
                    have HB := n0_
                    have HO325 := n1_
                    clear n0_ n1_
                    clear ho hb hg hat
                    refine hK.out _ _ trivial (fun hHeld => ?_)
                    clear hK K
                    refine norm_ (a' := ?_) ?_ ?_
                    rotate_left
                    ·show Act.put _ (some 72) _ = _
                     simp only [Act.put, List.setIfInBounds_toArray, List.set_cons_zero, List.set_cons_succ, i64_w, i32_w]
                     rfl
                    refine pure_ (i := 10) (N := some 11) (v := ?_) (a' := ?_) #[true, true, true, true, true, true, true, true, true, true, true] rfl rfl (any_of HT_.out (by kernel_rfl)) (fun _ _ _ h => h) (Or.inl ⟨by rfl, ?_⟩) ?_ ?_
                    rotate_left
                    ·intro w'
                     go_simp
                     with_reducible rfl
                    rotate_left
                    ·simp only [Act.put, List.setIfInBounds_toArray, List.set_cons_zero, List.set_cons_succ, i64_w, i32_w]
                     rfl
                    refine done_ (done_of HT_.out (by kernel_rfl)) ?_
                    obtain ⟨Ao55, co55, eo55⟩ := Kd.R_slice HO325.out
                    subst eo55
                    try go_wp2_with (first | ((with_reducible refine gate_callee (f := 14) rfl ?_); refine goesL_ (some 76) rfl rfl Try.func14 (by kernel_rfl) rfl #[.slice Ao55 y323.length co55, .int .i64 a1] rfl mO ?_; (with_reducible refine (row_Unpack.calls kj10 _ _ y323 a1 t326 t327 _ ?side1 ?side2 A39.out).mono ?_); (case side1 => exact cO (Kd.R_reads' HO325.out).2.2); (case side2 => exact (Kd.R_reads' HO325.out).2.1); rintro e w56 ⟨v328, rfl, ho0, hb⟩; refine ⟨_, rfl, ?_⟩; have n0_ := Aside0.mk (Kd.R_below (rO HO325.out) hb); have n1_ := Aside0.mk (Kd.R_lower ho0 (below_size (bO HB.out))); have n2_ := Aside0.mk (below_step (bO HB.out) hb); clear HO325; clear HB; have HO325 := n0_; have HO329 := n1_; have HB := n2_; clear n0_ n1_ n2_; (try clear hb); (try clear hb2); (try clear hk); (try clear hi); (try clear ho0)) | ((with_reducible refine gate_dst (N := 81) rfl ?_); (try (refine gate_guard (by rfl) ?_; dsimp only)); refine Kd.R_lit k31 _ 31 ?hg (N := 81) ?hd (xs := ([] : List (S31))) (inner := []) (ok := fun _ => True) (okp := fun _ => True) ?hr ?hp (fun _ hk => hk) trivial (Below.refl _ _) (Nat.le_refl _) (by simp) ?_; (case hd => rfl); (case hg => rfl); (case hr => first | (go_simp; done) | (go_simp; rfl)); (case hp => exact (Reps.none _ _)); intro v331 w57 ho58 hb hg_ hnew_; clear hg_ hnew_; (first | rw [← Ny330.out] at ho58 | (simp only [Int.reduceToNat] at ho58; rw [← Ny330.out] at ho58)); have n0_ := Aside0.mk (Kd.R_elder' (rO HO325.out) (Kd.R_base ho58) hb); have n1_ := Aside0.mk (Kd.R_below (rO HO329.out) hb); have n2_ := Aside0.mk (Kd.R_lower (Kd.R_new' ho58 (Kd.R_lt (rO HO325.out))) (below_size (bO HB.out))); have n3_ := Aside0.mk (below_step (bO HB.out) hb); clear HO325; clear HO329; clear HB; have HO325 := n0_; have HO329 := n1_; have HO332 := n2_; have HB := n3_; clear n0_ n1_ n2_ n3_; clear hb ho58) | ((with_reducible refine gate_builtin (b := .append) (xs := #[.tmp 81, .tmp 82]) rfl ?_); (try (refine gate_guard (by rfl) ?_; dsimp only)); at_builtin; refine Kd.R_append_rows k31 (w0 := w) w.heap.size rfl (.tmp 81) (.tmp 82) 24 31 (.agg #[(.int .i64 0), (.int .i64 0), (.int .i64 0)]) 24 rfl Try.underlying24 info31 rfl (by decide) (by omega) v331 y330 l0 _ _ _ (fun k_ => some k_ ≠ (.slice Ao55 y323.length co55 : Value).ownBlock) (fun _ => False) rfl rfl ?aO ?aR (fun _ _ h => h) (fun _ h => h.elim) ?aF ?aB ?aS ?aL ?_; (case aR => exact cO (Kd.C_below HR0.out HB.out)); (case aB => exact (bO HB.out)); (case aF => exact (fun k_ hk => Kd.fresh' (Kd.R_lt (rO HO325.out)) k_ hk)); (case aO => exact (by (with_reducible repeat (first | apply Kd.R_alloc | apply Kd.R_drewN | apply Kd.R_drew)); exact Kd.R_mono HO332.out (fun _ hk => hk.2))); (case aS => exact (below_size (bO HB.out))); (case aL => have := LMc41.out; omega); intro v334 w59 ho hb hg hat; rw [← Ny333.out] at ho; have n0_ := Aside0.mk (Kd.R_after (ok := (fun _ => True)) (rO HO325.out) hg hat); have n1_ := Aside0.mk (Kd.R_over' (rO HO329.out) (Kd.R_typed (rO HO332.out)) (by decide) hg); have n2_ := Aside0.mk (hb); have n3_ := Aside0.mk (ho); clear HO325; clear HO329; clear HB; clear HO332; have HO325 := n0_; have HO329 := n1_; have HB := n2_; have HO335 := n3_; clear n0_ n1_ n2_ n3_; clear ho hb hg hat))
                    have n0_ := Aside0.mk (Kd.R_drew HO325.out)
                    have n1_ := Aside0.mk (Kd.R_drew HO329.out)
                    have n2_ := Aside0.mk (Kd.R_drew HO335.out)
                    have n3_ := Aside0.mk (below_drew1 HB.out)
                    clear HO325
                    clear HO329
                    clear HO335
                    clear HB
                    have HO325 := n0_
                    have HO329 := n1_
                    have HO335 := n2_
                    have HB := n3_
                    clear n0_ n1_ n2_ n3_
                    obtain ⟨Ao61, co61, eo61⟩ := Kd.R_slice HO335.out
                    (first | subst eo61 | (injection eo61 with f1_ f2_ f3_; have f4_ := f1_.symm; have f5_ := f3_.symm; clear f1_ f2_ f3_; subst f4_; subst f5_))
                    have p336 : 0 ≤ (0 : Int) := (by omega)
                    have q336 : 0 < (y333.length : Int) := of_decide_eq_true aO
                    obtain ⟨ad336, e336, hx336_0, hx336_1, hx336_2⟩ := at_T31 (Kd.R_reads' HO335.out).2.2 0 p336 q336
                    cases e336
                    have qi336 : (0 < y333.length) = True := eq_true (by omega)
                    (try rw [show ((0 : Int)).toNat = 0 from rfl] at hx336_0)
                    (try rw [show 0 * 3 = 0 from rfl] at hx336_0)
                    (try rw [Addr.add_zero'] at hx336_0)
                    (try rw [show ((0 : Int)).toNat = 0 from rfl] at hx336_1)
                    (try rw [show 0 * 3 = 0 from rfl] at hx336_1)
                    (try rw [Addr.add_zero'] at hx336_1)
                    (try rw [show ((0 : Int)).toNat = 0 from rfl] at hx336_2)
                    (try rw [show 0 * 3 = 0 from rfl] at hx336_2)
                    (try rw [Addr.add_zero'] at hx336_2)
                    replace p336 := eq_true p336
                    replace q336 := eq_true q336
                    have p337 : 0 ≤ ((ji31) : Int) := of_decide_eq_true aO
                    have q337 : (ji31) < (y333.length : Int) := of_decide_eq_true aO
                    obtain ⟨ad337, e337, hx337_0, hx337_1, hx337_2⟩ := at_T31 (Kd.R_reads' HO335.out).2.2 (ji31) p337 q337
                    have he_ : ad336 = ad337 := (by injection e337); subst he_
                    replace p337 := eq_true p337
                    replace q337 := eq_true q337
                    have p44 : 0 ≤ ((ji31) : Int) := of_decide_eq_true aO
                    have q44 : ((ji31) : Int) < ((y333.length : Int) : Int) := of_decide_eq_true aO
                    obtain ⟨go44, co44, eo44, gb44, gl44, cl44, HG44⟩ := Kd.R_form HO335.out (by omega)
                    (first | cases eo44 | (injection eo44 with ea_ en_ ec_; (first | subst ea_ | (injection ea_ with ea_; subst ea_)); subst ec_; clear en_))
                    have GB44 := Aside0.mk gb44
                    have GG44 := Aside0.mk HG44
                    clear gb44 gl44 HG44
                    (first | simp only [add_plain] at hx336_0 | skip)
                    (first | simp only [add_plain] at hx336_1 | skip)
                    (first | simp only [add_plain] at hx336_2 | skip)
                    (first | simp only [add_plain] at hx337_0 | skip)
                    (first | simp only [add_plain] at hx337_1 | skip)
                    (first | simp only [add_plain] at hx337_2 | skip)
                    obtain ⟨ce44, hcl44, hM44, hcc44, hfr44⟩ := Kd.R_elem HO335.out z31 ((ji31) : Int) p44 q44
                    obtain rfl := k31_openM hM44
                    have hx44_0 : World.cell? _ ⟨go44, ((ji31) : Int).toNat * 3, none⟩ = some (.int .i64 ((rd_T31 y333 (ji31)).f0)) := hcc44 0 _ rfl
                    have hx44_1 : World.cell? _ ⟨go44, ((ji31) : Int).toNat * 3 + 1, none⟩ = some (.int .i64 ((rd_T31 y333 (ji31)).f1)) := hcc44 1 _ rfl
                    have hx44_2 : World.cell? _ ⟨go44, ((ji31) : Int).toNat * 3 + 2, none⟩ = some (.int .i64 ((rd_T31 y333 (ji31)).f2)) := hcc44 2 _ rfl
                    have hf44_0 : World.frozen? _ ⟨go44, ((ji31) : Int).toNat * 3, none⟩ = false := hfr44 0
                    have hf44_1 : World.frozen? _ ⟨go44, ((ji31) : Int).toNat * 3 + 1, none⟩ = false := hfr44 1
                    have hf44_2 : World.frozen? _ ⟨go44, ((ji31) : Int).toNat * 3 + 2, none⟩ = false := hfr44 2
                    clear hcl44 hcc44 hfr44 hM44
                    replace p44 := eq_true p44
                    replace q44 := eq_true q44
                    obtain ⟨ce62, hcl62, hM62, hcc62, hfr62⟩ := Kd.R_elem HO335.out z31 ((ji31) : Int) (of_decide_eq_true aO) (by have h_ : ((ji31) : Int) < ((y333.length : Int) : Int) := of_decide_eq_true aO; first | exact h_ | (have e_ := (Kd.R_reads' HO335.out).1; omega) | simpa using h_)
                    obtain rfl := k31_openM hM62
                    have HP62 := (Kd.R_seg HO335.out ((ji31) : Int) (of_decide_eq_true aO) (by have h_ : ((ji31) : Int) < ((y333.length : Int) : Int) := of_decide_eq_true aO; first | exact h_ | (have e_ := (Kd.R_reads' HO335.out).1; omega) | simpa using h_) (seg := [.int .i64 ((rd_T31 y333 0).f0), .int .i64 ((rd_T31 y333 0).f1), .int .i64 ((rd_T31 y333 0).f2)]) (j := 0) hcl62 hcc62 (show 3 ≤ 3 from by decide) (x' := (⟨(rd_T31 y333 0).f0, (rd_T31 y333 0).f1, (rd_T31 y333 0).f2⟩ : S31)) (k31_mkM _ _ _ (⟨(rd_T31 y333 0).f0, (rd_T31 y333 0).f1, (rd_T31 y333 0).f2⟩ : S31) ) (fun _ hk => hk)).1
                    rw [← Ny338.out] at HP62
                    have HQ62 := Aside0.mk HP62
                    clear hcl62 hcc62 hfr62 hM62 HP62
                    have p45 : 0 ≤ (0 : Int) := (by omega)
                    have q45 : (0 : Int) < ((y333.length : Int) : Int) := of_decide_eq_true aO
                    have qi45 : (0 < y333.length) = True := eq_true (by omega)
                    obtain ⟨ce45, hcl45, hM45, hcc45, hfr45⟩ := Kd.R_elem HQ62.out z31 (0 : Int) p45 q45
                    obtain rfl := k31_openM hM45
                    have hx45_0 : World.cell? _ ⟨go44, (0 : Int).toNat * 3, none⟩ = some (.int .i64 ((rd_T31 y338 0).f0)) := hcc45 0 _ rfl
                    have hx45_1 : World.cell? _ ⟨go44, (0 : Int).toNat * 3 + 1, none⟩ = some (.int .i64 ((rd_T31 y338 0).f1)) := hcc45 1 _ rfl
                    have hx45_2 : World.cell? _ ⟨go44, (0 : Int).toNat * 3 + 2, none⟩ = some (.int .i64 ((rd_T31 y338 0).f2)) := hcc45 2 _ rfl
                    have hf45_0 : World.frozen? _ ⟨go44, (0 : Int).toNat * 3, none⟩ = false := hfr45 0
                    have hf45_1 : World.frozen? _ ⟨go44, (0 : Int).toNat * 3 + 1, none⟩ = false := hfr45 1
                    have hf45_2 : World.frozen? _ ⟨go44, (0 : Int).toNat * 3 + 2, none⟩ = false := hfr45 2
                    clear hcl45 hcc45 hfr45 hM45
                    (try rw [show ((0 : Int)).toNat = 0 from rfl] at hx45_0)
                    (try simp only [Nat.reduceMul, Nat.zero_mul, Nat.zero_add, Nat.reduceAdd] at hx45_0)
                    (try rw [show ((0 : Int)).toNat = 0 from rfl] at hf45_0)
                    (try simp only [Nat.reduceMul, Nat.zero_mul, Nat.zero_add, Nat.reduceAdd] at hf45_0)
                    (try rw [show ((0 : Int)).toNat = 0 from rfl] at hx45_1)
                    (try simp only [Nat.reduceMul, Nat.zero_mul, Nat.zero_add, Nat.reduceAdd] at hx45_1)
                    (try rw [show ((0 : Int)).toNat = 0 from rfl] at hf45_1)
                    (try simp only [Nat.reduceMul, Nat.zero_mul, Nat.zero_add, Nat.reduceAdd] at hf45_1)
                    (try rw [show ((0 : Int)).toNat = 0 from rfl] at hx45_2)
                    (try simp only [Nat.reduceMul, Nat.zero_mul, Nat.zero_add, Nat.reduceAdd] at hx45_2)
                    (try rw [show ((0 : Int)).toNat = 0 from rfl] at hf45_2)
                    (try simp only [Nat.reduceMul, Nat.zero_mul, Nat.zero_add, Nat.reduceAdd] at hf45_2)
                    replace p45 := eq_true p45
                    replace q45 := eq_true q45
                    obtain ⟨ce63, hcl63, hM63, hcc63, hfr63⟩ := Kd.R_elem HQ62.out z31 (0 : Int) (by omega) (by have h_ : (0 : Int) < ((y333.length : Int) : Int) := of_decide_eq_true aO; first | exact h_ | (have e_ := (Kd.R_reads' HO335.out).1; omega) | simpa using h_)
                    obtain rfl := k31_openM hM63
                    have HP63 := (Kd.R_seg HQ62.out (0 : Int) (by omega) (by have h_ : (0 : Int) < ((y333.length : Int) : Int) := of_decide_eq_true aO; first | exact h_ | (have e_ := (Kd.R_reads' HO335.out).1; omega) | simpa using h_) (seg := [.int .i64 ((rd_T31 y333 (ji31)).f0), .int .i64 ((rd_T31 y333 (ji31)).f1), .int .i64 ((rd_T31 y333 (ji31)).f2)]) (j := 0) hcl63 hcc63 (show 3 ≤ 3 from by decide) (x' := (⟨(rd_T31 y333 (ji31)).f0, (rd_T31 y333 (ji31)).f1, (rd_T31 y333 (ji31)).f2⟩ : S31)) (k31_mkM _ _ _ (⟨(rd_T31 y333 (ji31)).f0, (rd_T31 y333 (ji31)).f1, (rd_T31 y333 (ji31)).f2⟩ : S31) ) (fun _ hk => hk)).1
                    rw [← Ny339.out] at HP63
                    have HQ63 := Aside0.mk HP63
                    clear hcl63 hcc63 hfr63 hM63 HP63
                    refine start_ (n := 14) (S := fun w' => w'.cell? ⟨go44, 0, none⟩ = some (.int .i64 ((rd_T31 y333 0).f0)) ∧ w'.cell? ⟨go44, 1, none⟩ = some (.int .i64 ((rd_T31 y333 0).f1)) ∧ w'.cell? ⟨go44, 2, none⟩ = some (.int .i64 ((rd_T31 y333 0).f2)) ∧ w'.cell? ⟨go44, (((ji31)).toNat * 3), none⟩ = some (.int .i64 ((rd_T31 y333 (ji31)).f0)) ∧ w'.cell? ⟨go44, (((ji31)).toNat * 3) + 1, none⟩ = some (.int .i64 ((rd_T31 y333 (ji31)).f1)) ∧ w'.cell? ⟨go44, (((ji31)).toNat * 3) + 2, none⟩ = some (.int .i64 ((rd_T31 y333 (ji31)).f2))) (ds := [11, 13]) #[false, false, false, false, false, false, false, false, false, false, false, false, false, false] (by kernel_rfl) rfl rfl ⟨hx336_0, hx336_1, hx336_2, hx337_0, hx337_1, hx337_2⟩ (fun hHeld => ?_); refine with_tabW tabardlaw11_RowOnly.tab15 tabardlaw11_RowOnly.bits15 (fun HT_ HW_ => ?_)
                    generalize w59.drew = w60 at HO325 HO329 HO335 HB GG44 HQ62 HQ63 hf44_0 hf44_1 hf44_2 hf45_0 hf45_1 hf45_2 hx336_0 hx336_1 hx336_2 hx337_0 hx337_1 hx337_2 hx44_0 hx44_1 hx44_2 hx45_0 hx45_1 hx45_2 hHeld ⊢
                    refine pure_ (i := 0) (N := some 84) (v := ?_) (a' := ?_) #[true, false, false, false, false, false, false, false, false, false, false, false, false, false] rfl rfl (any_of HT_.out (by kernel_rfl)) (fun _ _ _ h => h) (Or.inl ⟨by rfl, ?_⟩) ?_ ?_
                    rotate_left
                    ·intro w'
                     go_simp
                     with_reducible rfl
                    rotate_left
                    ·simp only [Act.put, List.setIfInBounds_toArray, List.set_cons_zero, List.set_cons_succ, i64_w, i32_w]
                     rfl
                    refine pure_ (i := 1) (N := some 85) (v := ?_) (a' := ?_) #[true, true, false, false, false, false, false, false, false, false, false, false, false, false] rfl rfl (any_of HT_.out (by kernel_rfl)) (fun _ _ _ h => h) (Or.inl ⟨by rfl, ?_⟩) ?_ ?_
                    rotate_left
                    ·intro w'
                     go_simp
                     with_reducible rfl
                    rotate_left
                    ·simp only [Act.put, List.setIfInBounds_toArray, List.set_cons_zero, List.set_cons_succ, i64_w, i32_w]
                     rfl
                    refine pure_ (i := 2) (N := some 86) (v := ?_) (a' := ?_) #[true, true, true, false, false, false, false, false, false, false, false, false, false, false] rfl rfl (any_of HT_.out (by kernel_rfl)) (fun _ _ _ h => h) (Or.inl ⟨by rfl, ?_⟩) ?_ ?_
                    rotate_left
                    ·intro w'
                     go_simp
                     with_reducible rfl
                    rotate_left
                    ·simp only [Act.put, List.setIfInBounds_toArray, List.set_cons_zero, List.set_cons_succ, i64_w, i32_w]
                     rfl
                    refine pure_ (i := 3) (N := some 87) (v := ?_) (a' := ?_) #[true, true, true, true, false, false, false, false, false, false, false, false, false, false] rfl rfl (any_of HT_.out (by kernel_rfl)) (fun _ _ _ h => h) (Or.inl ⟨by rfl, ?_⟩) ?_ ?_
                    rotate_left
                    ·intro w'
                     go_simp
                     with_reducible rfl
                    rotate_left
                    ·simp only [Act.put, List.setIfInBounds_toArray, List.set_cons_zero, List.set_cons_succ, i64_w, i32_w]
                     rfl
                    refine pure_ (i := 4) (N := some 88) (v := ?_) (a' := ?_) #[true, true, true, true, true, false, false, false, false, false, false, false, false, false] rfl rfl (any_of HT_.out (by kernel_rfl)) (fun _ _ _ h => h) (Or.inl ⟨by rfl, ?_⟩) ?_ ?_
                    rotate_left
                    ·intro w'
                     go_simp
                     with_reducible rfl
                    rotate_left
                    ·simp only [Act.put, List.setIfInBounds_toArray, List.set_cons_zero, List.set_cons_succ, i64_w, i32_w]
                     rfl
                    refine pure_ (i := 6) (N := some 90) (v := ?_) (a' := ?_) #[true, true, true, true, true, false, true, false, false, false, false, false, false, false] rfl rfl (any_of HT_.out (by kernel_rfl)) (fun _ _ _ h => h) (Or.inl ⟨by rfl, ?_⟩) ?_ ?_
                    rotate_left
                    ·intro w'
                     go_simp
                     with_reducible rfl
                    rotate_left
                    ·simp only [Act.put, List.setIfInBounds_toArray, List.set_cons_zero, List.set_cons_succ, i64_w, i32_w]
                     rfl
                    refine pure_ (i := 7) (N := some 91) (v := ?_) (a' := ?_) #[true, true, true, true, true, false, true, true, false, false, false, false, false, false] rfl rfl (any_of HT_.out (by kernel_rfl)) (fun _ _ _ h => h) (Or.inl ⟨by rfl, ?_⟩) ?_ ?_
                    rotate_left
                    ·intro w'
                     go_simp
                     with_reducible rfl
                    rotate_left
                    ·simp only [Act.put, List.setIfInBounds_toArray, List.set_cons_zero, List.set_cons_succ, i64_w, i32_w]
                     rfl
                    refine pure_ (i := 8) (N := some 92) (v := ?_) (a' := ?_) #[true, true, true, true, true, false, true, true, true, false, false, false, false, false] rfl rfl (any_of HT_.out (by kernel_rfl)) (fun _ _ _ h => h) (Or.inl ⟨by rfl, ?_⟩) ?_ ?_
                    rotate_left
                    ·intro w'
                     go_simp
                     with_reducible rfl
                    rotate_left
                    ·simp only [Act.put, List.setIfInBounds_toArray, List.set_cons_zero, List.set_cons_succ, i64_w, i32_w]
                     rfl
                    refine take_ (i := 5) (N := some 89) (v := ?_) (a' := ?_) #[true, true, true, true, true, true, true, true, true, false, false, false, false, false] rfl rfl (take_ofW HT_.out HW_.out (by kernel_rfl)) (fun _ _ _ h => h) (Or.inl ⟨by rfl, ?_⟩) hHeld ?_ ?_
                    rotate_left
                    ·rintro w' ⟨s0, s1, s2, s3, s4, s5⟩
                     go_simp
                     with_reducible rfl
                    rotate_left
                    ·simp only [Act.put, List.setIfInBounds_toArray, List.set_cons_zero, List.set_cons_succ, i64_w, i32_w]
                     rfl
                    refine take_ (i := 9) (N := some 93) (v := ?_) (a' := ?_) #[true, true, true, true, true, true, true, true, true, true, false, false, false, false] rfl rfl (take_ofW HT_.out HW_.out (by kernel_rfl)) (fun _ _ _ h => h) (Or.inl ⟨by rfl, ?_⟩) hHeld ?_ ?_
                    rotate_left
                    ·rintro w' ⟨s0, s1, s2, s3, s4, s5⟩
                     go_simp
                     with_reducible rfl
                    rotate_left
                    ·simp only [Act.put, List.setIfInBounds_toArray, List.set_cons_zero, List.set_cons_succ, i64_w, i32_w]
                     rfl
                    refine pure_ (i := 10) (N := some 94) (v := ?_) (a' := ?_) #[true, true, true, true, true, true, true, true, true, true, true, false, false, false] rfl rfl (any_of HT_.out (by kernel_rfl)) (fun _ _ _ h => h) (Or.inl ⟨by rfl, ?_⟩) ?_ ?_
                    rotate_left
                    ·intro w'
                     go_simp
                     with_reducible rfl
                    rotate_left
                    ·simp only [Act.put, List.setIfInBounds_toArray, List.set_cons_zero, List.set_cons_succ, i64_w, i32_w]
                     rfl
                    refine last_ (i := 11) (N := none) #[true, true, true, true, true, true, true, true, true, true, true, true, false, false] rfl rfl (one_of HT_.out (by kernel_rfl)) (by decide) (fun K hK => ?_)
                    refine skip_ (w1 := ?_) (by rfl) rfl ?_ ?_
                    rotate_left
                    ·go_simp
                     rfl
                    refine hK.out _ _ ?_
                    clear hK K
                    refine pure_ (i := 12) (N := some 95) (v := ?_) (a' := ?_) #[true, true, true, true, true, true, true, true, true, true, true, true, true, false] rfl rfl (any_of HT_.out (by kernel_rfl)) (fun _ _ _ h => h) (Or.inl ⟨by rfl, ?_⟩) ?_ ?_
                    rotate_left
                    ·intro w'
                     go_simp
                     with_reducible rfl
                    rotate_left
                    ·simp only [Act.put, List.setIfInBounds_toArray, List.set_cons_zero, List.set_cons_succ, i64_w, i32_w]
                     rfl
                    refine last_ (i := 13) (N := none) #[true, true, true, true, true, true, true, true, true, true, true, true, true, true] rfl rfl (one_of HT_.out (by kernel_rfl)) (by decide) (fun K hK => ?_)
                    refine skip_ (w1 := ?_) (by rfl) rfl ?_ ?_
                    rotate_left
                    ·obtain ⟨W_, hE_, k0_, k1_, k2_, f0_, f1_, f2_⟩ := tabardlaw11_RowOnly.store_facts hx45_0 hx45_1 hx45_2 hf45_0 hf45_1 hf45_2
                     generalize hN_ : World.setCell (World.setCell (World.setCell _ _ _) _ _) _ _ = N_
                     obtain rfl : N_ = W_ := hN_.symm.trans hE_
                     go_simp
                     subst hN_
                     rfl
                    refine hK.out _ _ ?_
                    clear hK K
                    refine done_ (done_of HT_.out (by kernel_rfl)) ?_
                    try go_wp2_with (first | ((with_reducible refine gate_callee (f := 14) rfl ?_); refine goesL_ (some 99) rfl rfl Try.func14 (by kernel_rfl) rfl #[.slice (some ⟨go44, 0, none⟩) y339.length co61, .int .i64 a1] rfl (by (try simp only [List.map_toArray, List.map_cons, List.map_nil]); first | done | (rw [show y339.length = y333.length from (Kd.R_reads' HQ63.out).1.symm] <;> rfl) | rfl | (simp only [List.length_drop, List.length_take]; rfl)) ?_; (with_reducible refine (row_Unpack.calls kj10 _ _ y339 a1 t340 t341 _ ?side1 ?side2 A46.out).mono ?_); (case side1 => refine (Kd.R_reads' (e := 31) (base := w.heap.size) (ok := fun k_ => some k_ ≠ (.slice Ao55 y323.length co55 : Value).ownBlock) (n := y333.length) (c := co61) ?_).2.2; exact (by (with_reducible repeat (first | apply Kd.R_alloc | apply Kd.R_drewN | apply Kd.R_drew)); exact HQ63.out)); (case side2 => rw [show y339.length = y333.length from (Kd.R_reads' HQ63.out).1.symm]; exact (Kd.R_reads' HO335.out).2.1); rintro e w64 ⟨v342, rfl, ho0, hb⟩; refine ⟨_, rfl, ?_⟩; have n0_ := Aside0.mk (Kd.R_below (by (with_reducible repeat (first | apply Kd.R_alloc | apply Kd.R_drewN | apply Kd.R_drew)); exact (Kd.R_mono (Kd.R_far (p := ⟨go44, 2, none⟩) (Kd.R_far (p := ⟨go44, 1, none⟩) (Kd.R_far (p := ⟨go44, 0, none⟩) (Kd.R_far (p := ⟨go44, ((ji31) : Int).toNat * 3 + 2, none⟩) (Kd.R_far (p := ⟨go44, ((ji31) : Int).toNat * 3 + 1, none⟩) (Kd.R_far (p := ⟨go44, ((ji31) : Int).toNat * 3, none⟩) (Kd.R_mono HO325.out (fun k_ hk => (⟨hk, fun e_ => hk.2 (by rw [e_]; rfl)⟩ : _ ∧ k_ ≠ go44))) (fun _ hk => hk.2) (.int .i64 ((rd_T31 y333 0).f0))) (fun _ hk => hk.2) (.int .i64 ((rd_T31 y333 0).f1))) (fun _ hk => hk.2) (.int .i64 ((rd_T31 y333 0).f2))) (fun _ hk => hk.2) (.int .i64 ((rd_T31 y333 (ji31)).f0))) (fun _ hk => hk.2) (.int .i64 ((rd_T31 y333 (ji31)).f1))) (fun _ hk => hk.2) (.int .i64 ((rd_T31 y333 (ji31)).f2))) (fun _ h_ => h_.1))) hb); have n1_ := Aside0.mk (Kd.R_elder' (by (with_reducible repeat (first | apply Kd.R_alloc | apply Kd.R_drewN | apply Kd.R_drew)); exact (Kd.R_mono (Kd.R_far (p := ⟨go44, 2, none⟩) (Kd.R_far (p := ⟨go44, 1, none⟩) (Kd.R_far (p := ⟨go44, 0, none⟩) (Kd.R_far (p := ⟨go44, ((ji31) : Int).toNat * 3 + 2, none⟩) (Kd.R_far (p := ⟨go44, ((ji31) : Int).toNat * 3 + 1, none⟩) (Kd.R_far (p := ⟨go44, ((ji31) : Int).toNat * 3, none⟩) (Kd.R_types HO329.out GG44.out (by decide)) (fun _ hk => hk.2) (.int .i64 ((rd_T31 y333 0).f0))) (fun _ hk => hk.2) (.int .i64 ((rd_T31 y333 0).f1))) (fun _ hk => hk.2) (.int .i64 ((rd_T31 y333 0).f2))) (fun _ hk => hk.2) (.int .i64 ((rd_T31 y333 (ji31)).f0))) (fun _ hk => hk.2) (.int .i64 ((rd_T31 y333 (ji31)).f1))) (fun _ hk => hk.2) (.int .i64 ((rd_T31 y333 (ji31)).f2))) (fun _ h_ => h_.1))) (Kd.R_base ho0) hb); have n2_ := Aside0.mk (Kd.R_below (by (with_reducible repeat (first | apply Kd.R_alloc | apply Kd.R_drewN | apply Kd.R_drew)); exact HQ63.out) hb); have n3_ := Aside0.mk (Kd.R_lower (Kd.R_new' ho0 (Kd.R_lt (by (with_reducible repeat (first | apply Kd.R_alloc | apply Kd.R_drewN | apply Kd.R_drew)); exact (Kd.R_mono (Kd.R_far (p := ⟨go44, 2, none⟩) (Kd.R_far (p := ⟨go44, 1, none⟩) (Kd.R_far (p := ⟨go44, 0, none⟩) (Kd.R_far (p := ⟨go44, ((ji31) : Int).toNat * 3 + 2, none⟩) (Kd.R_far (p := ⟨go44, ((ji31) : Int).toNat * 3 + 1, none⟩) (Kd.R_far (p := ⟨go44, ((ji31) : Int).toNat * 3, none⟩) (Kd.R_types HO329.out GG44.out (by decide)) (fun _ hk => hk.2) (.int .i64 ((rd_T31 y333 0).f0))) (fun _ hk => hk.2) (.int .i64 ((rd_T31 y333 0).f1))) (fun _ hk => hk.2) (.int .i64 ((rd_T31 y333 0).f2))) (fun _ hk => hk.2) (.int .i64 ((rd_T31 y333 (ji31)).f0))) (fun _ hk => hk.2) (.int .i64 ((rd_T31 y333 (ji31)).f1))) (fun _ hk => hk.2) (.int .i64 ((rd_T31 y333 (ji31)).f2))) (fun _ h_ => h_.1))))) (below_size (by repeat (first | (with_reducible first | exact HB.out | apply below_alloc | apply pw_below_drewN | apply below_drew1 | refine below_set ?_ GB44.out | refine below_set ?_ GB44.out | refine below_set ?_ GB44.out | refine below_set ?_ GB44.out | refine below_set ?_ GB44.out | refine below_set ?_ GB44.out) | exact HB.out)))); have n4_ := Aside0.mk (below_step (by repeat (first | (with_reducible first | exact HB.out | apply below_alloc | apply pw_below_drewN | apply below_drew1 | refine below_set ?_ GB44.out | refine below_set ?_ GB44.out | refine below_set ?_ GB44.out | refine below_set ?_ GB44.out | refine below_set ?_ GB44.out | refine below_set ?_ GB44.out) | exact HB.out)) hb); clear HO325; clear HO329; clear HO335; clear HB; have HO325 := n0_; have HO329 := n1_; have HO335 := n2_; have HO343 := n3_; have HB := n4_; clear n0_ n1_ n2_ n3_ n4_; (try clear hb); (try clear hb2); (try clear hk); (try clear hi); (try clear ho0)))
                    go_ret
                    exact ⟨by first | rfl | (simp [errW_none, errW_some] <;> rfl) | (simp only [← hji31, ← hji35]; first | rfl | (simp [errW_none, errW_some] <;> rfl)) | (simp [*, errW_none, errW_some] <;> rfl), bO HB.out⟩
                   ·rw [if_neg c47] at H
                    have c47b0 : ((ji31) == 0) = false := beq_eq_false_iff_ne.mpr c47
                    have c47b1 : ((ji31) != 0) = true := bne_iff_ne.mpr c47
                    obtain rfl := Option.some.inj H
                    try go_wp2
                    have n0_ := Aside0.mk (below_drew1 HB.out)
                    clear HB
                    have HB := n0_
                    clear n0_
                    have q66 : ((ji31) : Int) ≤ ((l0.length : Int) : Int) := of_decide_eq_true aO
                    obtain ⟨i066, hi066, _, hsz66, _⟩ := info_parts info31
                    have hroom66 : l0.length ≤ c0 := HC0.out
                    have hC66 : Kd.C k31 _ A0 l0.length l0 := HR0.out
                    have hcut66 := cut_to (P := Try.prog) 24 31 .i64 Try.underlying24 hi066 A0 l0.length c0 (ji31) (of_decide_eq_true aO) q66 hroom66
                    have hr66 := Kd.C_take (m := ((ji31) : Int).toNat) hC66 (by omega)
                    have hy66 : y312.length = ((ji31) : Int).toNat := (by rw [Ny312.out, List.length_take]; omega)
                    rw [← Ny312.out] at hr66
                    rw [← hy66] at hcut66
                    have HR315 := Aside0.mk hr66
                    have HC315 := Aside0.mk (show y312.length ≤ c0 from by omega)
                    clear hr66 hC66 hroom66 hi066 hsz66
                    have KY66 := Aside0.mk hy66
                    clear hy66
                    replace q66 := eq_true q66
                    have q67 : ((ji35) : Int) ≤ ((l0.length : Int) : Int) := of_decide_eq_true aO
                    obtain ⟨i067, hi067, _, hsz67, _⟩ := info_parts info31
                    have hroom67 : l0.length ≤ c0 := HC0.out
                    have hC67 : Kd.C k31 _ A0 l0.length l0 := HR0.out
                    have q067 : (0 : Int) ≤ ((ji35) : Int) := of_decide_eq_true aO
                    have hcut67 := cut_from (P := Try.prog) 24 31 .i64 Try.underlying24 hi067 3 hsz67 A0 l0.length c0 (ji35) q067 q67
                    have hr67 := Kd.C_drop (m := ((ji35) : Int).toNat) (c := c0) hC67 (by omega) hroom67
                    obtain ⟨A67, hA67⟩ : ∃ A1, A1 = (if c0 = ((ji35) : Int).toNat then A0 else (A0 : Option Addr).map (·.add (((ji35) : Int).toNat * 3))) := ⟨_, rfl⟩
                    obtain ⟨c67, hc67⟩ : ∃ c1, c1 = c0 - ((ji35) : Int).toNat := ⟨_, rfl⟩
                    have hy67 : y319.length = l0.length - ((ji35) : Int).toNat := (by rw [Ny319.out, List.length_drop] <;> omega)
                    rw [show (l0).drop ((ji35) : Int).toNat = y319 from Ny319.out.symm] at hr67
                    replace hr67 : Kd.C k31 _ A67 y319.length y319 := (by rw [hA67]; exact hr67)
                    rw [← hy67, ← hA67, ← hc67] at hcut67
                    have HR322 := Aside0.mk hr67
                    have HC322 := Aside0.mk (show y319.length ≤ c67 from by rw [hy67, hc67]; exact Nat.sub_le_sub_right hroom67 _)
                    clear hr67 hC67 hroom67 hi067 hsz67 hc67
                    have KY67 := Aside0.mk hy67
                    have KA67 := Aside0.mk hA67
                    clear hy67 hA67
                    replace q67 := eq_true q67
                    refine start_ (n := 11) (S := fun w' => True) (ds := []) #[false, false, false, false, false, false, false, false, false, false, false] (by kernel_rfl) rfl rfl trivial (fun hHeld => ?_); refine with_tabW tabardlaw11_RowOnly.tab10 tabardlaw11_RowOnly.bits10 (fun HT_ HW_ => ?_)
                    generalize wc.drew = w65 at HB HR315 HR322 hHeld ⊢
                    refine pure_ (i := 1) (N := some 64) (v := ?_) (a' := ?_) #[false, true, false, false, false, false, false, false, false, false, false] rfl rfl (any_of HT_.out (by kernel_rfl)) (fun _ _ _ h => h) (Or.inl ⟨by rfl, ?_⟩) ?_ ?_
                    rotate_left
                    ·intro w'
                     go_simp
                     with_reducible rfl
                    rotate_left
                    ·simp only [Act.put, List.setIfInBounds_toArray, List.set_cons_zero, List.set_cons_succ, i64_w, i32_w]
                     rfl
                    refine pure_ (i := 2) (N := some 65) (v := ?_) (a' := ?_) #[false, true, true, false, false, false, false, false, false, false, false] rfl rfl (any_of HT_.out (by kernel_rfl)) (fun _ _ _ h => h) (Or.inl ⟨by rfl, ?_⟩) ?_ ?_
                    rotate_left
                    ·intro w'
                     go_simp
                     with_reducible rfl
                    rotate_left
                    ·simp only [Act.put, List.setIfInBounds_toArray, List.set_cons_zero, List.set_cons_succ, i64_w, i32_w]
                     rfl
                    refine pure_ (i := 3) (N := some 66) (v := ?_) (a' := ?_) #[false, true, true, true, false, false, false, false, false, false, false] rfl rfl (any_of HT_.out (by kernel_rfl)) (fun _ _ _ h => h) (Or.inl ⟨by rfl, ?_⟩) ?_ ?_
                    rotate_left
                    ·intro w'
                     go_simp
                     with_reducible rfl
                    rotate_left
                    ·simp only [Act.put, List.setIfInBounds_toArray, List.set_cons_zero, List.set_cons_succ, i64_w, i32_w]
                     rfl
                    refine pure_ (i := 5) (N := some 68) (v := ?_) (a' := ?_) #[false, true, true, true, false, true, false, false, false, false, false] rfl rfl (any_of HT_.out (by kernel_rfl)) (fun _ _ _ h => h) (Or.inl ⟨by rfl, ?_⟩) ?_ ?_
                    rotate_left
                    ·intro w'
                     go_simp
                     with_reducible rfl
                    rotate_left
                    ·simp only [Act.put, List.setIfInBounds_toArray, List.set_cons_zero, List.set_cons_succ, i64_w, i32_w]
                     rfl
                    refine pure_ (i := 6) (N := some 69) (v := ?_) (a' := ?_) #[false, true, true, true, false, true, true, false, false, false, false] rfl rfl (any_of HT_.out (by kernel_rfl)) (fun _ _ _ h => h) (Or.inl ⟨by rfl, ?_⟩) ?_ ?_
                    rotate_left
                    ·intro w'
                     go_simp
                     with_reducible rfl
                    rotate_left
                    ·simp only [Act.put, List.setIfInBounds_toArray, List.set_cons_zero, List.set_cons_succ, i64_w, i32_w]
                     rfl
                    refine pure_ (i := 7) (N := some 70) (v := ?_) (a' := ?_) #[false, true, true, true, false, true, true, true, false, false, false] rfl rfl (any_of HT_.out (by kernel_rfl)) (fun _ _ _ h => h) (Or.inl ⟨by rfl, ?_⟩) ?_ ?_
                    rotate_left
                    ·intro w'
                     go_simp
                     with_reducible rfl
                    rotate_left
                    ·simp only [Act.put, List.setIfInBounds_toArray, List.set_cons_zero, List.set_cons_succ, i64_w, i32_w]
                     rfl
                    refine pure_ (i := 8) (N := some 71) (v := ?_) (a' := ?_) #[false, true, true, true, false, true, true, true, true, false, false] rfl rfl (any_of HT_.out (by kernel_rfl)) (fun _ _ _ h => h) (Or.inl ⟨by rfl, ?_⟩) ?_ ?_
                    rotate_left
                    ·intro w'
                     go_simp
                     with_reducible rfl
                    rotate_left
                    ·simp only [Act.put, List.setIfInBounds_toArray, List.set_cons_zero, List.set_cons_succ, i64_w, i32_w]
                     rfl
                    refine one_ (i := 0) (N := some 63) #[true, true, true, true, false, true, true, true, true, false, false] rfl rfl (one_of HT_.out (by kernel_rfl)) (by decide) (fun K hK => ?_)
                    refine Kd.R_lit_step k31 _ 31 ?hg (N := 63) ?hd (xs := ([] : List (S31))) (inner := []) (ok := fun _ => True) (okp := fun _ => True) ?hr ?hp (fun _ hk => hk) trivial (Below.refl _ _) (Nat.le_refl _) (by simp) ?_; (case hd => rfl); (case hg => rfl); (case hr => first | (go_simp; done) | (go_simp; rfl)); (case hp => exact (Reps.none _ _))
                    intro v310 w68 ho69 hb hg_ hnew_
                    clear hg_ hnew_
                    (first | rw [← Ny309.out] at ho69 | (simp only [Int.reduceToNat] at ho69; rw [← Ny309.out] at ho69))
                    have n0_ := Aside0.mk (Kd.R_lower ho69 (below_size (bO HB.out)))
                    have n1_ := Aside0.mk (below_step (bO HB.out) hb)
                    clear HB
                    have HO311 := n0_
                    have HB := n1_
                    clear n0_ n1_
                    clear hb ho69
                    refine hK.out _ _ trivial (fun hHeld => ?_)
                    clear hK K
                    refine norm_ (a' := ?_) ?_ ?_
                    rotate_left
                    ·show Act.put _ (some 63) _ = _
                     simp only [Act.put, List.setIfInBounds_toArray, List.set_cons_zero, List.set_cons_succ, i64_w, i32_w]
                     rfl
                    refine one_ (i := 4) (N := some 67) #[true, true, true, true, true, true, true, true, true, false, false] rfl rfl (one_of HT_.out (by kernel_rfl)) (by decide) (fun K hK => ?_)
                    refine Kd.R_append_rows_step k31 (w0 := w) w.heap.size (by rfl) (.tmp 63) (.tmp 66) 24 31 (.agg #[(.int .i64 0), (.int .i64 0), (.int .i64 0)]) 24 rfl Try.underlying24 info31 rfl (by decide) (by omega) v310 y309 y312 _ _ _ (fun _ => True) (fun _ => False) rfl rfl ?aO ?aR (fun _ _ h => h) (fun _ h => h.elim) ?aF ?aB ?aS ?aL ?_
                    (case aR => exact cO (Kd.C_below HR315.out HB.out))
                    (case aB => exact (bO HB.out))
                    (case aF => exact (fun _ _ => trivial))
                    (case aO => exact (rO HO311.out))
                    (case aS => exact (below_size (bO HB.out)))
                    (case aL => have := LMc34.out; omega)
                    intro v317 w70 ho hb hg hat
                    rw [← Ny316.out] at ho
                    have n0_ := Aside0.mk (hb)
                    have n1_ := Aside0.mk (ho)
                    clear HB
                    clear HO311
                    have HB := n0_
                    have HO318 := n1_
                    clear n0_ n1_
                    clear ho hb hg hat
                    refine hK.out _ _ trivial (fun hHeld => ?_)
                    clear hK K
                    refine norm_ (a' := ?_) ?_ ?_
                    rotate_left
                    ·show Act.put _ (some 67) _ = _
                     simp only [Act.put, List.setIfInBounds_toArray, List.set_cons_zero, List.set_cons_succ, i64_w, i32_w]
                     rfl
                    refine one_ (i := 9) (N := some 72) #[true, true, true, true, true, true, true, true, true, true, false] rfl rfl (one_of HT_.out (by kernel_rfl)) (by decide) (fun K hK => ?_)
                    refine Kd.R_append_rows_step k31 (w0 := w) w.heap.size (by rfl) (.tmp 67) (.tmp 71) 24 31 (.agg #[(.int .i64 0), (.int .i64 0), (.int .i64 0)]) 24 rfl Try.underlying24 info31 rfl (by decide) (by omega) v317 y316 y319 _ _ _ (fun _ => True) (fun _ => False) rfl rfl ?aO ?aR (fun _ _ h => h) (fun _ h => h.elim) ?aF ?aB ?aS ?aL ?_
                    (case aR => exact cO (Kd.C_below HR322.out HB.out))
                    (case aB => exact (bO HB.out))
                    (case aF => exact (fun _ _ => trivial))
                    (case aO => exact (rO HO318.out))
                    (case aS => exact (below_size (bO HB.out)))
                    (case aL => have := LMc38.out; omega)
                    intro v324 w71 ho hb hg hat
                    rw [← Ny323.out] at ho
                    have n0_ := Aside0.mk (hb)
                    have n1_ := Aside0.mk (ho)
                    clear HB
                    clear HO318
                    have HB := n0_
                    have HO325 := n1_
                    clear n0_ n1_
                    clear ho hb hg hat
                    refine hK.out _ _ trivial (fun hHeld => ?_)
                    clear hK K
                    refine norm_ (a' := ?_) ?_ ?_
                    rotate_left
                    ·show Act.put _ (some 72) _ = _
                     simp only [Act.put, List.setIfInBounds_toArray, List.set_cons_zero, List.set_cons_succ, i64_w, i32_w]
                     rfl
                    refine pure_ (i := 10) (N := some 11) (v := ?_) (a' := ?_) #[true, true, true, true, true, true, true, true, true, true, true] rfl rfl (any_of HT_.out (by kernel_rfl)) (fun _ _ _ h => h) (Or.inl ⟨by rfl, ?_⟩) ?_ ?_
                    rotate_left
                    ·intro w'
                     go_simp
                     with_reducible rfl
                    rotate_left
                    ·simp only [Act.put, List.setIfInBounds_toArray, List.set_cons_zero, List.set_cons_succ, i64_w, i32_w]
                     rfl
                    refine done_ (done_of HT_.out (by kernel_rfl)) ?_
                    obtain ⟨Ao72, co72, eo72⟩ := Kd.R_slice HO325.out
                    subst eo72
                    try go_wp2_with (first | ((with_reducible refine gate_callee (f := 14) rfl ?_); refine goesL_ (some 76) rfl rfl Try.func14 (by kernel_rfl) rfl #[.slice Ao72 y323.length co72, .int .i64 a1] rfl mO ?_; (with_reducible refine (row_Unpack.calls kj10 _ _ y323 a1 t326 t327 _ ?side1 ?side2 A39.out).mono ?_); (case side1 => exact cO (Kd.R_reads' HO325.out).2.2); (case side2 => exact (Kd.R_reads' HO325.out).2.1); rintro e w73 ⟨v328, rfl, ho0, hb⟩; refine ⟨_, rfl, ?_⟩; have n0_ := Aside0.mk (Kd.R_below (rO HO325.out) hb); have n1_ := Aside0.mk (Kd.R_lower ho0 (below_size (bO HB.out))); have n2_ := Aside0.mk (below_step (bO HB.out) hb); clear HO325; clear HB; have HO325 := n0_; have HO329 := n1_; have HB := n2_; clear n0_ n1_ n2_; (try clear hb); (try clear hb2); (try clear hk); (try clear hi); (try clear ho0)) | ((with_reducible refine gate_dst (N := 81) rfl ?_); (try (refine gate_guard (by rfl) ?_; dsimp only)); refine Kd.R_lit k31 _ 31 ?hg (N := 81) ?hd (xs := ([] : List (S31))) (inner := []) (ok := fun _ => True) (okp := fun _ => True) ?hr ?hp (fun _ hk => hk) trivial (Below.refl _ _) (Nat.le_refl _) (by simp) ?_; (case hd => rfl); (case hg => rfl); (case hr => first | (go_simp; done) | (go_simp; rfl)); (case hp => exact (Reps.none _ _)); intro v331 w74 ho75 hb hg_ hnew_; clear hg_ hnew_; (first | rw [← Ny330.out] at ho75 | (simp only [Int.reduceToNat] at ho75; rw [← Ny330.out] at ho75)); have n0_ := Aside0.mk (Kd.R_elder' (rO HO325.out) (Kd.R_base ho75) hb); have n1_ := Aside0.mk (Kd.R_below (rO HO329.out) hb); have n2_ := Aside0.mk (Kd.R_lower (Kd.R_new' ho75 (Kd.R_lt (rO HO325.out))) (below_size (bO HB.out))); have n3_ := Aside0.mk (below_step (bO HB.out) hb); clear HO325; clear HO329; clear HB; have HO325 := n0_; have HO329 := n1_; have HO332 := n2_; have HB := n3_; clear n0_ n1_ n2_ n3_; clear hb ho75) | ((with_reducible refine gate_builtin (b := .append) (xs := #[.tmp 81, .tmp 82]) rfl ?_); (try (refine gate_guard (by rfl) ?_; dsimp only)); at_builtin; refine Kd.R_append_rows k31 (w0 := w) w.heap.size rfl (.tmp 81) (.tmp 82) 24 31 (.agg #[(.int .i64 0), (.int .i64 0), (.int .i64 0)]) 24 rfl Try.underlying24 info31 rfl (by decide) (by omega) v331 y330 l0 _ _ _ (fun k_ => some k_ ≠ (.slice Ao72 y323.length co72 : Value).ownBlock) (fun _ => False) rfl rfl ?aO ?aR (fun _ _ h => h) (fun _ h => h.elim) ?aF ?aB ?aS ?aL ?_; (case aR => exact cO (Kd.C_below HR0.out HB.out)); (case aB => exact (bO HB.out)); (case aF => exact (fun k_ hk => Kd.fresh' (Kd.R_lt (rO HO325.out)) k_ hk)); (case aO => exact (by (with_reducible repeat (first | apply Kd.R_alloc | apply Kd.R_drewN | apply Kd.R_drew)); exact Kd.R_mono HO332.out (fun _ hk => hk.2))); (case aS => exact (below_size (bO HB.out))); (case aL => have := LMc41.out; omega); intro v334 w76 ho hb hg hat; rw [← Ny333.out] at ho; have n0_ := Aside0.mk (Kd.R_after (ok := (fun _ => True)) (rO HO325.out) hg hat); have n1_ := Aside0.mk (Kd.R_over' (rO HO329.out) (Kd.R_typed (rO HO332.out)) (by decide) hg); have n2_ := Aside0.mk (hb); have n3_ := Aside0.mk (ho); clear HO325; clear HO329; clear HB; clear HO332; have HO325 := n0_; have HO329 := n1_; have HB := n2_; have HO335 := n3_; clear n0_ n1_ n2_ n3_; clear ho hb hg hat))
                    have n0_ := Aside0.mk (Kd.R_drew HO325.out)
                    have n1_ := Aside0.mk (Kd.R_drew HO329.out)
                    have n2_ := Aside0.mk (Kd.R_drew HO335.out)
                    have n3_ := Aside0.mk (below_drew1 HB.out)
                    clear HO325
                    clear HO329
                    clear HO335
                    clear HB
                    have HO325 := n0_
                    have HO329 := n1_
                    have HO335 := n2_
                    have HB := n3_
                    clear n0_ n1_ n2_ n3_
                    obtain ⟨Ao78, co78, eo78⟩ := Kd.R_slice HO335.out
                    (first | subst eo78 | (injection eo78 with f1_ f2_ f3_; have f4_ := f1_.symm; have f5_ := f3_.symm; clear f1_ f2_ f3_; subst f4_; subst f5_))
                    have p336 : 0 ≤ (0 : Int) := (by omega)
                    have q336 : 0 < (y333.length : Int) := of_decide_eq_true aO
                    obtain ⟨ad336, e336, hx336_0, hx336_1, hx336_2⟩ := at_T31 (Kd.R_reads' HO335.out).2.2 0 p336 q336
                    cases e336
                    have qi336 : (0 < y333.length) = True := eq_true (by omega)
                    (try rw [show ((0 : Int)).toNat = 0 from rfl] at hx336_0)
                    (try rw [show 0 * 3 = 0 from rfl] at hx336_0)
                    (try rw [Addr.add_zero'] at hx336_0)
                    (try rw [show ((0 : Int)).toNat = 0 from rfl] at hx336_1)
                    (try rw [show 0 * 3 = 0 from rfl] at hx336_1)
                    (try rw [Addr.add_zero'] at hx336_1)
                    (try rw [show ((0 : Int)).toNat = 0 from rfl] at hx336_2)
                    (try rw [show 0 * 3 = 0 from rfl] at hx336_2)
                    (try rw [Addr.add_zero'] at hx336_2)
                    replace p336 := eq_true p336
                    replace q336 := eq_true q336
                    have p337 : 0 ≤ ((ji31) : Int) := of_decide_eq_true aO
                    have q337 : (ji31) < (y333.length : Int) := of_decide_eq_true aO
                    obtain ⟨ad337, e337, hx337_0, hx337_1, hx337_2⟩ := at_T31 (Kd.R_reads' HO335.out).2.2 (ji31) p337 q337
                    have he_ : ad336 = ad337 := (by injection e337); subst he_
                    replace p337 := eq_true p337
                    replace q337 := eq_true q337
                    have p44 : 0 ≤ ((ji31) : Int) := of_decide_eq_true aO
                    have q44 : ((ji31) : Int) < ((y333.length : Int) : Int) := of_decide_eq_true aO
                    obtain ⟨go44, co44, eo44, gb44, gl44, cl44, HG44⟩ := Kd.R_form HO335.out (by omega)
                    (first | cases eo44 | (injection eo44 with ea_ en_ ec_; (first | subst ea_ | (injection ea_ with ea_; subst ea_)); subst ec_; clear en_))
                    have GB44 := Aside0.mk gb44
                    have GG44 := Aside0.mk HG44
                    clear gb44 gl44 HG44
                    (first | simp only [add_plain] at hx336_0 | skip)
                    (first | simp only [add_plain] at hx336_1 | skip)
                    (first | simp only [add_plain] at hx336_2 | skip)
                    (first | simp only [add_plain] at hx337_0 | skip)
                    (first | simp only [add_plain] at hx337_1 | skip)
                    (first | simp only [add_plain] at hx337_2 | skip)
                    obtain ⟨ce44, hcl44, hM44, hcc44, hfr44⟩ := Kd.R_elem HO335.out z31 ((ji31) : Int) p44 q44
                    obtain rfl := k31_openM hM44
                    have hx44_0 : World.cell? _ ⟨go44, ((ji31) : Int).toNat * 3, none⟩ = some (.int .i64 ((rd_T31 y333 (ji31)).f0)) := hcc44 0 _ rfl
                    have hx44_1 : World.cell? _ ⟨go44, ((ji31) : Int).toNat * 3 + 1, none⟩ = some (.int .i64 ((rd_T31 y333 (ji31)).f1)) := hcc44 1 _ rfl
                    have hx44_2 : World.cell? _ ⟨go44, ((ji31) : Int).toNat * 3 + 2, none⟩ = some (.int .i64 ((rd_T31 y333 (ji31)).f2)) := hcc44 2 _ rfl
                    have hf44_0 : World.frozen? _ ⟨go44, ((ji31) : Int).toNat * 3, none⟩ = false := hfr44 0
                    have hf44_1 : World.frozen? _ ⟨go44, ((ji31) : Int).toNat * 3 + 1, none⟩ = false := hfr44 1
                    have hf44_2 : World.frozen? _ ⟨go44, ((ji31) : Int).toNat * 3 + 2, none⟩ = false := hfr44 2
                    clear hcl44 hcc44 hfr44 hM44
                    replace p44 := eq_true p44
                    replace q44 := eq_true q44
                    obtain ⟨ce79, hcl79, hM79, hcc79, hfr79⟩ := Kd.R_elem HO335.out z31 ((ji31) : Int) (of_decide_eq_true aO) (by have h_ : ((ji31) : Int) < ((y333.length : Int) : Int) := of_decide_eq_true aO; first | exact h_ | (have e_ := (Kd.R_reads' HO335.out).1; omega) | simpa using h_)
                    obtain rfl := k31_openM hM79
                    have HP79 := (Kd.R_seg HO335.out ((ji31) : Int) (of_decide_eq_true aO) (by have h_ : ((ji31) : Int) < ((y333.length : Int) : Int) := of_decide_eq_true aO; first | exact h_ | (have e_ := (Kd.R_reads' HO335.out).1; omega) | simpa using h_) (seg := [.int .i64 ((rd_T31 y333 0).f0), .int .i64 ((rd_T31 y333 0).f1), .int .i64 ((rd_T31 y333 0).f2)]) (j := 0) hcl79 hcc79 (show 3 ≤ 3 from by decide) (x' := (⟨(rd_T31 y333 0).f0, (rd_T31 y333 0).f1, (rd_T31 y333 0).f2⟩ : S31)) (k31_mkM _ _ _ (⟨(rd_T31 y333 0).f0, (rd_T31 y333 0).f1, (rd_T31 y333 0).f2⟩ : S31) ) (fun _ hk => hk)).1
                    rw [← Ny338.out] at HP79
                    have HQ79 := Aside0.mk HP79
                    clear hcl79 hcc79 hfr79 hM79 HP79
                    have p45 : 0 ≤ (0 : Int) := (by omega)
                    have q45 : (0 : Int) < ((y333.length : Int) : Int) := of_decide_eq_true aO
                    have qi45 : (0 < y333.length) = True := eq_true (by omega)
                    obtain ⟨ce45, hcl45, hM45, hcc45, hfr45⟩ := Kd.R_elem HQ79.out z31 (0 : Int) p45 q45
                    obtain rfl := k31_openM hM45
                    have hx45_0 : World.cell? _ ⟨go44, (0 : Int).toNat * 3, none⟩ = some (.int .i64 ((rd_T31 y338 0).f0)) := hcc45 0 _ rfl
                    have hx45_1 : World.cell? _ ⟨go44, (0 : Int).toNat * 3 + 1, none⟩ = some (.int .i64 ((rd_T31 y338 0).f1)) := hcc45 1 _ rfl
                    have hx45_2 : World.cell? _ ⟨go44, (0 : Int).toNat * 3 + 2, none⟩ = some (.int .i64 ((rd_T31 y338 0).f2)) := hcc45 2 _ rfl
                    have hf45_0 : World.frozen? _ ⟨go44, (0 : Int).toNat * 3, none⟩ = false := hfr45 0
                    have hf45_1 : World.frozen? _ ⟨go44, (0 : Int).toNat * 3 + 1, none⟩ = false := hfr45 1
                    have hf45_2 : World.frozen? _ ⟨go44, (0 : Int).toNat * 3 + 2, none⟩ = false := hfr45 2
                    clear hcl45 hcc45 hfr45 hM45
                    (try rw [show ((0 : Int)).toNat = 0 from rfl] at hx45_0)
                    (try simp only [Nat.reduceMul, Nat.zero_mul, Nat.zero_add, Nat.reduceAdd] at hx45_0)
                    (try rw [show ((0 : Int)).toNat = 0 from rfl] at hf45_0)
                    (try simp only [Nat.reduceMul, Nat.zero_mul, Nat.zero_add, Nat.reduceAdd] at hf45_0)
                    (try rw [show ((0 : Int)).toNat = 0 from rfl] at hx45_1)
                    (try simp only [Nat.reduceMul, Nat.zero_mul, Nat.zero_add, Nat.reduceAdd] at hx45_1)
                    (try rw [show ((0 : Int)).toNat = 0 from rfl] at hf45_1)
                    (try simp only [Nat.reduceMul, Nat.zero_mul, Nat.zero_add, Nat.reduceAdd] at hf45_1)
                    (try rw [show ((0 : Int)).toNat = 0 from rfl] at hx45_2)
                    (try simp only [Nat.reduceMul, Nat.zero_mul, Nat.zero_add, Nat.reduceAdd] at hx45_2)
                    (try rw [show ((0 : Int)).toNat = 0 from rfl] at hf45_2)
                    (try simp only [Nat.reduceMul, Nat.zero_mul, Nat.zero_add, Nat.reduceAdd] at hf45_2)
                    replace p45 := eq_true p45
                    replace q45 := eq_true q45
                    obtain ⟨ce80, hcl80, hM80, hcc80, hfr80⟩ := Kd.R_elem HQ79.out z31 (0 : Int) (by omega) (by have h_ : (0 : Int) < ((y333.length : Int) : Int) := of_decide_eq_true aO; first | exact h_ | (have e_ := (Kd.R_reads' HO335.out).1; omega) | simpa using h_)
                    obtain rfl := k31_openM hM80
                    have HP80 := (Kd.R_seg HQ79.out (0 : Int) (by omega) (by have h_ : (0 : Int) < ((y333.length : Int) : Int) := of_decide_eq_true aO; first | exact h_ | (have e_ := (Kd.R_reads' HO335.out).1; omega) | simpa using h_) (seg := [.int .i64 ((rd_T31 y333 (ji31)).f0), .int .i64 ((rd_T31 y333 (ji31)).f1), .int .i64 ((rd_T31 y333 (ji31)).f2)]) (j := 0) hcl80 hcc80 (show 3 ≤ 3 from by decide) (x' := (⟨(rd_T31 y333 (ji31)).f0, (rd_T31 y333 (ji31)).f1, (rd_T31 y333 (ji31)).f2⟩ : S31)) (k31_mkM _ _ _ (⟨(rd_T31 y333 (ji31)).f0, (rd_T31 y333 (ji31)).f1, (rd_T31 y333 (ji31)).f2⟩ : S31) ) (fun _ hk => hk)).1
                    rw [← Ny339.out] at HP80
                    have HQ80 := Aside0.mk HP80
                    clear hcl80 hcc80 hfr80 hM80 HP80
                    refine start_ (n := 14) (S := fun w' => w'.cell? ⟨go44, 0, none⟩ = some (.int .i64 ((rd_T31 y333 0).f0)) ∧ w'.cell? ⟨go44, 1, none⟩ = some (.int .i64 ((rd_T31 y333 0).f1)) ∧ w'.cell? ⟨go44, 2, none⟩ = some (.int .i64 ((rd_T31 y333 0).f2)) ∧ w'.cell? ⟨go44, (((ji31)).toNat * 3), none⟩ = some (.int .i64 ((rd_T31 y333 (ji31)).f0)) ∧ w'.cell? ⟨go44, (((ji31)).toNat * 3) + 1, none⟩ = some (.int .i64 ((rd_T31 y333 (ji31)).f1)) ∧ w'.cell? ⟨go44, (((ji31)).toNat * 3) + 2, none⟩ = some (.int .i64 ((rd_T31 y333 (ji31)).f2))) (ds := [11, 13]) #[false, false, false, false, false, false, false, false, false, false, false, false, false, false] (by kernel_rfl) rfl rfl ⟨hx336_0, hx336_1, hx336_2, hx337_0, hx337_1, hx337_2⟩ (fun hHeld => ?_); refine with_tabW tabardlaw11_RowOnly.tab15 tabardlaw11_RowOnly.bits15 (fun HT_ HW_ => ?_)
                    generalize w76.drew = w77 at HO325 HO329 HO335 HB GG44 HQ79 HQ80 hf44_0 hf44_1 hf44_2 hf45_0 hf45_1 hf45_2 hx336_0 hx336_1 hx336_2 hx337_0 hx337_1 hx337_2 hx44_0 hx44_1 hx44_2 hx45_0 hx45_1 hx45_2 hHeld ⊢
                    refine pure_ (i := 0) (N := some 84) (v := ?_) (a' := ?_) #[true, false, false, false, false, false, false, false, false, false, false, false, false, false] rfl rfl (any_of HT_.out (by kernel_rfl)) (fun _ _ _ h => h) (Or.inl ⟨by rfl, ?_⟩) ?_ ?_
                    rotate_left
                    ·intro w'
                     go_simp
                     with_reducible rfl
                    rotate_left
                    ·simp only [Act.put, List.setIfInBounds_toArray, List.set_cons_zero, List.set_cons_succ, i64_w, i32_w]
                     rfl
                    refine pure_ (i := 1) (N := some 85) (v := ?_) (a' := ?_) #[true, true, false, false, false, false, false, false, false, false, false, false, false, false] rfl rfl (any_of HT_.out (by kernel_rfl)) (fun _ _ _ h => h) (Or.inl ⟨by rfl, ?_⟩) ?_ ?_
                    rotate_left
                    ·intro w'
                     go_simp
                     with_reducible rfl
                    rotate_left
                    ·simp only [Act.put, List.setIfInBounds_toArray, List.set_cons_zero, List.set_cons_succ, i64_w, i32_w]
                     rfl
                    refine pure_ (i := 2) (N := some 86) (v := ?_) (a' := ?_) #[true, true, true, false, false, false, false, false, false, false, false, false, false, false] rfl rfl (any_of HT_.out (by kernel_rfl)) (fun _ _ _ h => h) (Or.inl ⟨by rfl, ?_⟩) ?_ ?_
                    rotate_left
                    ·intro w'
                     go_simp
                     with_reducible rfl
                    rotate_left
                    ·simp only [Act.put, List.setIfInBounds_toArray, List.set_cons_zero, List.set_cons_succ, i64_w, i32_w]
                     rfl
                    refine pure_ (i := 3) (N := some 87) (v := ?_) (a' := ?_) #[true, true, true, true, false, false, false, false, false, false, false, false, false, false] rfl rfl (any_of HT_.out (by kernel_rfl)) (fun _ _ _ h => h) (Or.inl ⟨by rfl, ?_⟩) ?_ ?_
                    rotate_left
                    ·intro w'
                     go_simp
                     with_reducible rfl
                    rotate_left
                    ·simp only [Act.put, List.setIfInBounds_toArray, List.set_cons_zero, List.set_cons_succ, i64_w, i32_w]
                     rfl
                    refine pure_ (i := 4) (N := some 88) (v := ?_) (a' := ?_) #[true, true, true, true, true, false, false, false, false, false, false, false, false, false] rfl rfl (any_of HT_.out (by kernel_rfl)) (fun _ _ _ h => h) (Or.inl ⟨by rfl, ?_⟩) ?_ ?_
                    rotate_left
                    ·intro w'
                     go_simp
                     with_reducible rfl
                    rotate_left
                    ·simp only [Act.put, List.setIfInBounds_toArray, List.set_cons_zero, List.set_cons_succ, i64_w, i32_w]
                     rfl
                    refine pure_ (i := 6) (N := some 90) (v := ?_) (a' := ?_) #[true, true, true, true, true, false, true, false, false, false, false, false, false, false] rfl rfl (any_of HT_.out (by kernel_rfl)) (fun _ _ _ h => h) (Or.inl ⟨by rfl, ?_⟩) ?_ ?_
                    rotate_left
                    ·intro w'
                     go_simp
                     with_reducible rfl
                    rotate_left
                    ·simp only [Act.put, List.setIfInBounds_toArray, List.set_cons_zero, List.set_cons_succ, i64_w, i32_w]
                     rfl
                    refine pure_ (i := 7) (N := some 91) (v := ?_) (a' := ?_) #[true, true, true, true, true, false, true, true, false, false, false, false, false, false] rfl rfl (any_of HT_.out (by kernel_rfl)) (fun _ _ _ h => h) (Or.inl ⟨by rfl, ?_⟩) ?_ ?_
                    rotate_left
                    ·intro w'
                     go_simp
                     with_reducible rfl
                    rotate_left
                    ·simp only [Act.put, List.setIfInBounds_toArray, List.set_cons_zero, List.set_cons_succ, i64_w, i32_w]
                     rfl
                    refine pure_ (i := 8) (N := some 92) (v := ?_) (a' := ?_) #[true, true, true, true, true, false, true, true, true, false, false, false, false, false] rfl rfl (any_of HT_.out (by kernel_rfl)) (fun _ _ _ h => h) (Or.inl ⟨by rfl, ?_⟩) ?_ ?_
                    rotate_left
                    ·intro w'
                     go_simp
                     with_reducible rfl
                    rotate_left
                    ·simp only [Act.put, List.setIfInBounds_toArray, List.set_cons_zero, List.set_cons_succ, i64_w, i32_w]
                     rfl
                    refine take_ (i := 5) (N := some 89) (v := ?_) (a' := ?_) #[true, true, true, true, true, true, true, true, true, false, false, false, false, false] rfl rfl (take_ofW HT_.out HW_.out (by kernel_rfl)) (fun _ _ _ h => h) (Or.inl ⟨by rfl, ?_⟩) hHeld ?_ ?_
                    rotate_left
                    ·rintro w' ⟨s0, s1, s2, s3, s4, s5⟩
                     go_simp
                     with_reducible rfl
                    rotate_left
                    ·simp only [Act.put, List.setIfInBounds_toArray, List.set_cons_zero, List.set_cons_succ, i64_w, i32_w]
                     rfl
                    refine take_ (i := 9) (N := some 93) (v := ?_) (a' := ?_) #[true, true, true, true, true, true, true, true, true, true, false, false, false, false] rfl rfl (take_ofW HT_.out HW_.out (by kernel_rfl)) (fun _ _ _ h => h) (Or.inl ⟨by rfl, ?_⟩) hHeld ?_ ?_
                    rotate_left
                    ·rintro w' ⟨s0, s1, s2, s3, s4, s5⟩
                     go_simp
                     with_reducible rfl
                    rotate_left
                    ·simp only [Act.put, List.setIfInBounds_toArray, List.set_cons_zero, List.set_cons_succ, i64_w, i32_w]
                     rfl
                    refine pure_ (i := 10) (N := some 94) (v := ?_) (a' := ?_) #[true, true, true, true, true, true, true, true, true, true, true, false, false, false] rfl rfl (any_of HT_.out (by kernel_rfl)) (fun _ _ _ h => h) (Or.inl ⟨by rfl, ?_⟩) ?_ ?_
                    rotate_left
                    ·intro w'
                     go_simp
                     with_reducible rfl
                    rotate_left
                    ·simp only [Act.put, List.setIfInBounds_toArray, List.set_cons_zero, List.set_cons_succ, i64_w, i32_w]
                     rfl
                    refine last_ (i := 11) (N := none) #[true, true, true, true, true, true, true, true, true, true, true, true, false, false] rfl rfl (one_of HT_.out (by kernel_rfl)) (by decide) (fun K hK => ?_)
                    refine skip_ (w1 := ?_) (by rfl) rfl ?_ ?_
                    rotate_left
                    ·go_simp
                     rfl
                    refine hK.out _ _ ?_
                    clear hK K
                    refine pure_ (i := 12) (N := some 95) (v := ?_) (a' := ?_) #[true, true, true, true, true, true, true, true, true, true, true, true, true, false] rfl rfl (any_of HT_.out (by kernel_rfl)) (fun _ _ _ h => h) (Or.inl ⟨by rfl, ?_⟩) ?_ ?_
                    rotate_left
                    ·intro w'
                     go_simp
                     with_reducible rfl
                    rotate_left
                    ·simp only [Act.put, List.setIfInBounds_toArray, List.set_cons_zero, List.set_cons_succ, i64_w, i32_w]
                     rfl
                    refine last_ (i := 13) (N := none) #[true, true, true, true, true, true, true, true, true, true, true, true, true, true] rfl rfl (one_of HT_.out (by kernel_rfl)) (by decide) (fun K hK => ?_)
                    refine skip_ (w1 := ?_) (by rfl) rfl ?_ ?_
                    rotate_left
                    ·obtain ⟨W_, hE_, k0_, k1_, k2_, f0_, f1_, f2_⟩ := tabardlaw11_RowOnly.store_facts hx45_0 hx45_1 hx45_2 hf45_0 hf45_1 hf45_2
                     generalize hN_ : World.setCell (World.setCell (World.setCell _ _ _) _ _) _ _ = N_
                     obtain rfl : N_ = W_ := hN_.symm.trans hE_
                     go_simp
                     subst hN_
                     rfl
                    refine hK.out _ _ ?_
                    clear hK K
                    refine done_ (done_of HT_.out (by kernel_rfl)) ?_
                    try go_wp2_with (first | ((with_reducible refine gate_callee (f := 14) rfl ?_); refine goesL_ (some 99) rfl rfl Try.func14 (by kernel_rfl) rfl #[.slice (some ⟨go44, 0, none⟩) y339.length co78, .int .i64 a1] rfl (by (try simp only [List.map_toArray, List.map_cons, List.map_nil]); first | done | (rw [show y339.length = y333.length from (Kd.R_reads' HQ80.out).1.symm] <;> rfl) | rfl | (simp only [List.length_drop, List.length_take]; rfl)) ?_; (with_reducible refine (row_Unpack.calls kj10 _ _ y339 a1 t340 t341 _ ?side1 ?side2 A46.out).mono ?_); (case side1 => refine (Kd.R_reads' (e := 31) (base := w.heap.size) (ok := fun k_ => some k_ ≠ (.slice Ao72 y323.length co72 : Value).ownBlock) (n := y333.length) (c := co78) ?_).2.2; exact (by (with_reducible repeat (first | apply Kd.R_alloc | apply Kd.R_drewN | apply Kd.R_drew)); exact HQ80.out)); (case side2 => rw [show y339.length = y333.length from (Kd.R_reads' HQ80.out).1.symm]; exact (Kd.R_reads' HO335.out).2.1); rintro e w81 ⟨v342, rfl, ho0, hb⟩; refine ⟨_, rfl, ?_⟩; have n0_ := Aside0.mk (Kd.R_below (by (with_reducible repeat (first | apply Kd.R_alloc | apply Kd.R_drewN | apply Kd.R_drew)); exact (Kd.R_mono (Kd.R_far (p := ⟨go44, 2, none⟩) (Kd.R_far (p := ⟨go44, 1, none⟩) (Kd.R_far (p := ⟨go44, 0, none⟩) (Kd.R_far (p := ⟨go44, ((ji31) : Int).toNat * 3 + 2, none⟩) (Kd.R_far (p := ⟨go44, ((ji31) : Int).toNat * 3 + 1, none⟩) (Kd.R_far (p := ⟨go44, ((ji31) : Int).toNat * 3, none⟩) (Kd.R_mono HO325.out (fun k_ hk => (⟨hk, fun e_ => hk.2 (by rw [e_]; rfl)⟩ : _ ∧ k_ ≠ go44))) (fun _ hk => hk.2) (.int .i64 ((rd_T31 y333 0).f0))) (fun _ hk => hk.2) (.int .i64 ((rd_T31 y333 0).f1))) (fun _ hk => hk.2) (.int .i64 ((rd_T31 y333 0).f2))) (fun _ hk => hk.2) (.int .i64 ((rd_T31 y333 (ji31)).f0))) (fun _ hk => hk.2) (.int .i64 ((rd_T31 y333 (ji31)).f1))) (fun _ hk => hk.2) (.int .i64 ((rd_T31 y333 (ji31)).f2))) (fun _ h_ => h_.1))) hb); have n1_ := Aside0.mk (Kd.R_elder' (by (with_reducible repeat (first | apply Kd.R_alloc | apply Kd.R_drewN | apply Kd.R_drew)); exact (Kd.R_mono (Kd.R_far (p := ⟨go44, 2, none⟩) (Kd.R_far (p := ⟨go44, 1, none⟩) (Kd.R_far (p := ⟨go44, 0, none⟩) (Kd.R_far (p := ⟨go44, ((ji31) : Int).toNat * 3 + 2, none⟩) (Kd.R_far (p := ⟨go44, ((ji31) : Int).toNat * 3 + 1, none⟩) (Kd.R_far (p := ⟨go44, ((ji31) : Int).toNat * 3, none⟩) (Kd.R_types HO329.out GG44.out (by decide)) (fun _ hk => hk.2) (.int .i64 ((rd_T31 y333 0).f0))) (fun _ hk => hk.2) (.int .i64 ((rd_T31 y333 0).f1))) (fun _ hk => hk.2) (.int .i64 ((rd_T31 y333 0).f2))) (fun _ hk => hk.2) (.int .i64 ((rd_T31 y333 (ji31)).f0))) (fun _ hk => hk.2) (.int .i64 ((rd_T31 y333 (ji31)).f1))) (fun _ hk => hk.2) (.int .i64 ((rd_T31 y333 (ji31)).f2))) (fun _ h_ => h_.1))) (Kd.R_base ho0) hb); have n2_ := Aside0.mk (Kd.R_below (by (with_reducible repeat (first | apply Kd.R_alloc | apply Kd.R_drewN | apply Kd.R_drew)); exact HQ80.out) hb); have n3_ := Aside0.mk (Kd.R_lower (Kd.R_new' ho0 (Kd.R_lt (by (with_reducible repeat (first | apply Kd.R_alloc | apply Kd.R_drewN | apply Kd.R_drew)); exact (Kd.R_mono (Kd.R_far (p := ⟨go44, 2, none⟩) (Kd.R_far (p := ⟨go44, 1, none⟩) (Kd.R_far (p := ⟨go44, 0, none⟩) (Kd.R_far (p := ⟨go44, ((ji31) : Int).toNat * 3 + 2, none⟩) (Kd.R_far (p := ⟨go44, ((ji31) : Int).toNat * 3 + 1, none⟩) (Kd.R_far (p := ⟨go44, ((ji31) : Int).toNat * 3, none⟩) (Kd.R_types HO329.out GG44.out (by decide)) (fun _ hk => hk.2) (.int .i64 ((rd_T31 y333 0).f0))) (fun _ hk => hk.2) (.int .i64 ((rd_T31 y333 0).f1))) (fun _ hk => hk.2) (.int .i64 ((rd_T31 y333 0).f2))) (fun _ hk => hk.2) (.int .i64 ((rd_T31 y333 (ji31)).f0))) (fun _ hk => hk.2) (.int .i64 ((rd_T31 y333 (ji31)).f1))) (fun _ hk => hk.2) (.int .i64 ((rd_T31 y333 (ji31)).f2))) (fun _ h_ => h_.1))))) (below_size (by repeat (first | (with_reducible first | exact HB.out | apply below_alloc | apply pw_below_drewN | apply below_drew1 | refine below_set ?_ GB44.out | refine below_set ?_ GB44.out | refine below_set ?_ GB44.out | refine below_set ?_ GB44.out | refine below_set ?_ GB44.out | refine below_set ?_ GB44.out) | exact HB.out)))); have n4_ := Aside0.mk (below_step (by repeat (first | (with_reducible first | exact HB.out | apply below_alloc | apply pw_below_drewN | apply below_drew1 | refine below_set ?_ GB44.out | refine below_set ?_ GB44.out | refine below_set ?_ GB44.out | refine below_set ?_ GB44.out | refine below_set ?_ GB44.out | refine below_set ?_ GB44.out) | exact HB.out)) hb); clear HO325; clear HO329; clear HO335; clear HB; have HO325 := n0_; have HO329 := n1_; have HO335 := n2_; have HO343 := n3_; have HB := n4_; clear n0_ n1_ n2_ n3_ n4_; (try clear hb); (try clear hb2); (try clear hk); (try clear hi); (try clear ho0)))
                    go_ret
                    exact ⟨by first | rfl | (simp [errW_none, errW_some] <;> rfl) | (simp only [← hji31, ← hji35]; first | rfl | (simp [errW_none, errW_some] <;> rfl)) | (simp [*, errW_none, errW_some] <;> rfl), bO HB.out⟩
                  ·rw [if_neg c43] at H
                   exact absurd H (by simp)
                 ·rw [if_neg c42] at H
                  exact absurd H (by simp)
                ·rw [if_neg c41] at H
                 exact absurd H (by simp)
               ·rw [if_neg c40] at H
                have c40b0 : (t327 == 3) = false := beq_eq_false_iff_ne.mpr c40
                have c40b1 : (t327 != 3) = true := bne_iff_ne.mpr c40
                obtain rfl := Option.some.inj H
                try go_wp2
                have n0_ := Aside0.mk (below_drew1 HB.out)
                clear HB
                have HB := n0_
                clear n0_
                have q83 : ((ji31) : Int) ≤ ((l0.length : Int) : Int) := of_decide_eq_true aO
                obtain ⟨i083, hi083, _, hsz83, _⟩ := info_parts info31
                have hroom83 : l0.length ≤ c0 := HC0.out
                have hC83 : Kd.C k31 _ A0 l0.length l0 := HR0.out
                have hcut83 := cut_to (P := Try.prog) 24 31 .i64 Try.underlying24 hi083 A0 l0.length c0 (ji31) (of_decide_eq_true aO) q83 hroom83
                have hr83 := Kd.C_take (m := ((ji31) : Int).toNat) hC83 (by omega)
                have hy83 : y312.length = ((ji31) : Int).toNat := (by rw [Ny312.out, List.length_take]; omega)
                rw [← Ny312.out] at hr83
                rw [← hy83] at hcut83
                have HR315 := Aside0.mk hr83
                have HC315 := Aside0.mk (show y312.length ≤ c0 from by omega)
                clear hr83 hC83 hroom83 hi083 hsz83
                have KY83 := Aside0.mk hy83
                clear hy83
                replace q83 := eq_true q83
                have q84 : ((ji35) : Int) ≤ ((l0.length : Int) : Int) := of_decide_eq_true aO
                obtain ⟨i084, hi084, _, hsz84, _⟩ := info_parts info31
                have hroom84 : l0.length ≤ c0 := HC0.out
                have hC84 : Kd.C k31 _ A0 l0.length l0 := HR0.out
                have q084 : (0 : Int) ≤ ((ji35) : Int) := of_decide_eq_true aO
                have hcut84 := cut_from (P := Try.prog) 24 31 .i64 Try.underlying24 hi084 3 hsz84 A0 l0.length c0 (ji35) q084 q84
                have hr84 := Kd.C_drop (m := ((ji35) : Int).toNat) (c := c0) hC84 (by omega) hroom84
                obtain ⟨A84, hA84⟩ : ∃ A1, A1 = (if c0 = ((ji35) : Int).toNat then A0 else (A0 : Option Addr).map (·.add (((ji35) : Int).toNat * 3))) := ⟨_, rfl⟩
                obtain ⟨c84, hc84⟩ : ∃ c1, c1 = c0 - ((ji35) : Int).toNat := ⟨_, rfl⟩
                have hy84 : y319.length = l0.length - ((ji35) : Int).toNat := (by rw [Ny319.out, List.length_drop] <;> omega)
                rw [show (l0).drop ((ji35) : Int).toNat = y319 from Ny319.out.symm] at hr84
                replace hr84 : Kd.C k31 _ A84 y319.length y319 := (by rw [hA84]; exact hr84)
                rw [← hy84, ← hA84, ← hc84] at hcut84
                have HR322 := Aside0.mk hr84
                have HC322 := Aside0.mk (show y319.length ≤ c84 from by rw [hy84, hc84]; exact Nat.sub_le_sub_right hroom84 _)
                clear hr84 hC84 hroom84 hi084 hsz84 hc84
                have KY84 := Aside0.mk hy84
                have KA84 := Aside0.mk hA84
                clear hy84 hA84
                replace q84 := eq_true q84
                refine start_ (n := 11) (S := fun w' => True) (ds := []) #[false, false, false, false, false, false, false, false, false, false, false] (by kernel_rfl) rfl rfl trivial (fun hHeld => ?_); refine with_tabW tabardlaw11_RowOnly.tab10 tabardlaw11_RowOnly.bits10 (fun HT_ HW_ => ?_)
                generalize wc.drew = w82 at HB HR315 HR322 hHeld ⊢
                refine pure_ (i := 1) (N := some 64) (v := ?_) (a' := ?_) #[false, true, false, false, false, false, false, false, false, false, false] rfl rfl (any_of HT_.out (by kernel_rfl)) (fun _ _ _ h => h) (Or.inl ⟨by rfl, ?_⟩) ?_ ?_
                rotate_left
                ·intro w'
                 go_simp
                 with_reducible rfl
                rotate_left
                ·simp only [Act.put, List.setIfInBounds_toArray, List.set_cons_zero, List.set_cons_succ, i64_w, i32_w]
                 rfl
                refine pure_ (i := 2) (N := some 65) (v := ?_) (a' := ?_) #[false, true, true, false, false, false, false, false, false, false, false] rfl rfl (any_of HT_.out (by kernel_rfl)) (fun _ _ _ h => h) (Or.inl ⟨by rfl, ?_⟩) ?_ ?_
                rotate_left
                ·intro w'
                 go_simp
                 with_reducible rfl
                rotate_left
                ·simp only [Act.put, List.setIfInBounds_toArray, List.set_cons_zero, List.set_cons_succ, i64_w, i32_w]
                 rfl
                refine pure_ (i := 3) (N := some 66) (v := ?_) (a' := ?_) #[false, true, true, true, false, false, false, false, false, false, false] rfl rfl (any_of HT_.out (by kernel_rfl)) (fun _ _ _ h => h) (Or.inl ⟨by rfl, ?_⟩) ?_ ?_
                rotate_left
                ·intro w'
                 go_simp
                 with_reducible rfl
                rotate_left
                ·simp only [Act.put, List.setIfInBounds_toArray, List.set_cons_zero, List.set_cons_succ, i64_w, i32_w]
                 rfl
                refine pure_ (i := 5) (N := some 68) (v := ?_) (a' := ?_) #[false, true, true, true, false, true, false, false, false, false, false] rfl rfl (any_of HT_.out (by kernel_rfl)) (fun _ _ _ h => h) (Or.inl ⟨by rfl, ?_⟩) ?_ ?_
                rotate_left
                ·intro w'
                 go_simp
                 with_reducible rfl
                rotate_left
                ·simp only [Act.put, List.setIfInBounds_toArray, List.set_cons_zero, List.set_cons_succ, i64_w, i32_w]
                 rfl
                refine pure_ (i := 6) (N := some 69) (v := ?_) (a' := ?_) #[false, true, true, true, false, true, true, false, false, false, false] rfl rfl (any_of HT_.out (by kernel_rfl)) (fun _ _ _ h => h) (Or.inl ⟨by rfl, ?_⟩) ?_ ?_
                rotate_left
                ·intro w'
                 go_simp
                 with_reducible rfl
                rotate_left
                ·simp only [Act.put, List.setIfInBounds_toArray, List.set_cons_zero, List.set_cons_succ, i64_w, i32_w]
                 rfl
                refine pure_ (i := 7) (N := some 70) (v := ?_) (a' := ?_) #[false, true, true, true, false, true, true, true, false, false, false] rfl rfl (any_of HT_.out (by kernel_rfl)) (fun _ _ _ h => h) (Or.inl ⟨by rfl, ?_⟩) ?_ ?_
                rotate_left
                ·intro w'
                 go_simp
                 with_reducible rfl
                rotate_left
                ·simp only [Act.put, List.setIfInBounds_toArray, List.set_cons_zero, List.set_cons_succ, i64_w, i32_w]
                 rfl
                refine pure_ (i := 8) (N := some 71) (v := ?_) (a' := ?_) #[false, true, true, true, false, true, true, true, true, false, false] rfl rfl (any_of HT_.out (by kernel_rfl)) (fun _ _ _ h => h) (Or.inl ⟨by rfl, ?_⟩) ?_ ?_
                rotate_left
                ·intro w'
                 go_simp
                 with_reducible rfl
                rotate_left
                ·simp only [Act.put, List.setIfInBounds_toArray, List.set_cons_zero, List.set_cons_succ, i64_w, i32_w]
                 rfl
                refine one_ (i := 0) (N := some 63) #[true, true, true, true, false, true, true, true, true, false, false] rfl rfl (one_of HT_.out (by kernel_rfl)) (by decide) (fun K hK => ?_)
                refine Kd.R_lit_step k31 _ 31 ?hg (N := 63) ?hd (xs := ([] : List (S31))) (inner := []) (ok := fun _ => True) (okp := fun _ => True) ?hr ?hp (fun _ hk => hk) trivial (Below.refl _ _) (Nat.le_refl _) (by simp) ?_; (case hd => rfl); (case hg => rfl); (case hr => first | (go_simp; done) | (go_simp; rfl)); (case hp => exact (Reps.none _ _))
                intro v310 w85 ho86 hb hg_ hnew_
                clear hg_ hnew_
                (first | rw [← Ny309.out] at ho86 | (simp only [Int.reduceToNat] at ho86; rw [← Ny309.out] at ho86))
                have n0_ := Aside0.mk (Kd.R_lower ho86 (below_size (bO HB.out)))
                have n1_ := Aside0.mk (below_step (bO HB.out) hb)
                clear HB
                have HO311 := n0_
                have HB := n1_
                clear n0_ n1_
                clear hb ho86
                refine hK.out _ _ trivial (fun hHeld => ?_)
                clear hK K
                refine norm_ (a' := ?_) ?_ ?_
                rotate_left
                ·show Act.put _ (some 63) _ = _
                 simp only [Act.put, List.setIfInBounds_toArray, List.set_cons_zero, List.set_cons_succ, i64_w, i32_w]
                 rfl
                refine one_ (i := 4) (N := some 67) #[true, true, true, true, true, true, true, true, true, false, false] rfl rfl (one_of HT_.out (by kernel_rfl)) (by decide) (fun K hK => ?_)
                refine Kd.R_append_rows_step k31 (w0 := w) w.heap.size (by rfl) (.tmp 63) (.tmp 66) 24 31 (.agg #[(.int .i64 0), (.int .i64 0), (.int .i64 0)]) 24 rfl Try.underlying24 info31 rfl (by decide) (by omega) v310 y309 y312 _ _ _ (fun _ => True) (fun _ => False) rfl rfl ?aO ?aR (fun _ _ h => h) (fun _ h => h.elim) ?aF ?aB ?aS ?aL ?_
                (case aR => exact cO (Kd.C_below HR315.out HB.out))
                (case aB => exact (bO HB.out))
                (case aF => exact (fun _ _ => trivial))
                (case aO => exact (rO HO311.out))
                (case aS => exact (below_size (bO HB.out)))
                (case aL => have := LMc34.out; omega)
                intro v317 w87 ho hb hg hat
                rw [← Ny316.out] at ho
                have n0_ := Aside0.mk (hb)
                have n1_ := Aside0.mk (ho)
                clear HB
                clear HO311
                have HB := n0_
                have HO318 := n1_
                clear n0_ n1_
                clear ho hb hg hat
                refine hK.out _ _ trivial (fun hHeld => ?_)
                clear hK K
                refine norm_ (a' := ?_) ?_ ?_
                rotate_left
                ·show Act.put _ (some 67) _ = _
                 simp only [Act.put, List.setIfInBounds_toArray, List.set_cons_zero, List.set_cons_succ, i64_w, i32_w]
                 rfl
                refine one_ (i := 9) (N := some 72) #[true, true, true, true, true, true, true, true, true, true, false] rfl rfl (one_of HT_.out (by kernel_rfl)) (by decide) (fun K hK => ?_)
                refine Kd.R_append_rows_step k31 (w0 := w) w.heap.size (by rfl) (.tmp 67) (.tmp 71) 24 31 (.agg #[(.int .i64 0), (.int .i64 0), (.int .i64 0)]) 24 rfl Try.underlying24 info31 rfl (by decide) (by omega) v317 y316 y319 _ _ _ (fun _ => True) (fun _ => False) rfl rfl ?aO ?aR (fun _ _ h => h) (fun _ h => h.elim) ?aF ?aB ?aS ?aL ?_
                (case aR => exact cO (Kd.C_below HR322.out HB.out))
                (case aB => exact (bO HB.out))
                (case aF => exact (fun _ _ => trivial))
                (case aO => exact (rO HO318.out))
                (case aS => exact (below_size (bO HB.out)))
                (case aL => have := LMc38.out; omega)
                intro v324 w88 ho hb hg hat
                rw [← Ny323.out] at ho
                have n0_ := Aside0.mk (hb)
                have n1_ := Aside0.mk (ho)
                clear HB
                clear HO318
                have HB := n0_
                have HO325 := n1_
                clear n0_ n1_
                clear ho hb hg hat
                refine hK.out _ _ trivial (fun hHeld => ?_)
                clear hK K
                refine norm_ (a' := ?_) ?_ ?_
                rotate_left
                ·show Act.put _ (some 72) _ = _
                 simp only [Act.put, List.setIfInBounds_toArray, List.set_cons_zero, List.set_cons_succ, i64_w, i32_w]
                 rfl
                refine pure_ (i := 10) (N := some 11) (v := ?_) (a' := ?_) #[true, true, true, true, true, true, true, true, true, true, true] rfl rfl (any_of HT_.out (by kernel_rfl)) (fun _ _ _ h => h) (Or.inl ⟨by rfl, ?_⟩) ?_ ?_
                rotate_left
                ·intro w'
                 go_simp
                 with_reducible rfl
                rotate_left
                ·simp only [Act.put, List.setIfInBounds_toArray, List.set_cons_zero, List.set_cons_succ, i64_w, i32_w]
                 rfl
                refine done_ (done_of HT_.out (by kernel_rfl)) ?_
                obtain ⟨Ao89, co89, eo89⟩ := Kd.R_slice HO325.out
                subst eo89
                try go_wp2_with (first | ((with_reducible refine gate_callee (f := 14) rfl ?_); refine goesL_ (some 76) rfl rfl Try.func14 (by kernel_rfl) rfl #[.slice Ao89 y323.length co89, .int .i64 a1] rfl mO ?_; (with_reducible refine (row_Unpack.calls kj10 _ _ y323 a1 t326 t327 _ ?side1 ?side2 A39.out).mono ?_); (case side1 => exact cO (Kd.R_reads' HO325.out).2.2); (case side2 => exact (Kd.R_reads' HO325.out).2.1); rintro e w90 ⟨v328, rfl, ho0, hb⟩; refine ⟨_, rfl, ?_⟩; have n0_ := Aside0.mk (Kd.R_below (rO HO325.out) hb); have n1_ := Aside0.mk (Kd.R_lower ho0 (below_size (bO HB.out))); have n2_ := Aside0.mk (below_step (bO HB.out) hb); clear HO325; clear HB; have HO325 := n0_; have HO329 := n1_; have HB := n2_; clear n0_ n1_ n2_; (try clear hb); (try clear hb2); (try clear hk); (try clear hi); (try clear ho0)))
                go_ret
                exact ⟨by first | rfl | (simp [errW_none, errW_some] <;> rfl) | (simp only [← hji31, ← hji35]; first | rfl | (simp [errW_none, errW_some] <;> rfl)) | (simp [*, errW_none, errW_some] <;> rfl), bO HB.out⟩
              ·rw [if_neg c38] at H
               exact absurd H (by simp)
             ·rw [if_neg c37] at H
              exact absurd H (by simp)
            ·rw [if_neg c36] at H
             exact absurd H (by simp)
           ·rw [if_neg c34] at H
            exact absurd H (by simp)
          ·rw [if_neg c33] at H
           exact absurd H (by simp)
         ·rw [if_neg c32] at H
          exact absurd H (by simp)
    ·rw [if_neg c9] at H
     exact absurd H (by simp)
   ·rw [if_neg c8] at H
    have c8b0 : (t295 == 0) = false := beq_eq_false_iff_ne.mpr c8
    have c8b1 : (t295 != 0) = true := bne_iff_ne.mpr c8
    by_cases c91 : (t294.length : Int) = 0
    ·rw [if_pos c91] at H
     have c91b0 : ((t294.length : Int) == 0) = true := beq_iff_eq.mpr c91
     have c91b1 : ((t294.length : Int) != 0) = false := bne_eq_false_iff_eq.mpr c91
     clear c91
     by_cases c92 : t295 = 150
     ·rw [if_pos c92] at H
      have c92b0 : (t295 == 150) = true := beq_iff_eq.mpr c92
      have c92b1 : (t295 != 150) = false := bne_eq_false_iff_eq.mpr c92
      clear c92
      obtain rfl := Option.some.inj H
      go_enter Try.func5, Try.ntmps5
      go_wp2_with (first | ((with_reducible refine gate_callee (f := 8) rfl ?_); refine goesL_ (some 13) rfl rfl Try.func8 (by kernel_rfl) rfl #[] rfl mO ?_; (with_reducible refine (tabardlaw11_fixed.calls k  true _ A4.out).mono ?_); rintro e w93 ⟨rfl, hb⟩; refine ⟨_, rfl, ?_⟩; have n0_ := Aside0.mk (below_step (bO HB.out) hb); clear HB; have HB := n0_; clear n0_; (try clear hb); (try clear hb2); (try clear hk); (try clear hi)) | ((with_reducible refine gate_dst (N := 16) rfl ?_); (try (refine gate_guard (by rfl) ?_; dsimp only)); refine Kd.R_lit k31 _ 31 ?hg (N := 16) ?hd (xs := ([] : List (S31))) (inner := []) (ok := fun _ => True) (okp := fun _ => True) ?hr ?hp (fun _ hk => hk) trivial (Below.refl _ _) (Nat.le_refl _) (by simp) ?_; (case hd => rfl); (case hg => rfl); (case hr => first | (go_simp; done) | (go_simp; rfl)); (case hp => exact (Reps.none _ _)); intro v289 w94 ho95 hb hg_ hnew_; clear hg_ hnew_; (first | rw [← Ny288.out] at ho95 | (simp only [Int.reduceToNat] at ho95; rw [← Ny288.out] at ho95)); have n0_ := Aside0.mk (Kd.R_lower ho95 (below_size (bO HB.out))); have n1_ := Aside0.mk (below_step (bO HB.out) hb); clear HB; have HO290 := n0_; have HB := n1_; clear n0_ n1_; clear hb ho95) | ((with_reducible refine gate_builtin (b := .append) (xs := #[.tmp 16, .tmp 17]) rfl ?_); (try (refine gate_guard (by rfl) ?_; dsimp only)); at_builtin; refine Kd.R_append_rows k31 (w0 := w) w.heap.size rfl (.tmp 16) (.tmp 17) 24 31 (.agg #[(.int .i64 0), (.int .i64 0), (.int .i64 0)]) 24 rfl Try.underlying24 info31 rfl (by decide) (by omega) v289 y288 l0 _ _ _ (fun _ => True) (fun _ => False) rfl rfl ?aO ?aR (fun _ _ h => h) (fun _ h => h.elim) ?aF ?aB ?aS ?aL ?_; (case aR => exact cO (Kd.C_below HR0.out HB.out)); (case aB => exact (bO HB.out)); (case aF => exact (fun _ _ => trivial)); (case aO => exact (rO HO290.out)); (case aS => exact (below_size (bO HB.out))); (case aL => have := LMc6.out; omega); intro v292 w96 ho hb hg hat; rw [← Ny291.out] at ho; have n0_ := Aside0.mk (hb); have n1_ := Aside0.mk (ho); clear HB; clear HO290; have HB := n0_; have HO293 := n1_; clear n0_ n1_; clear ho hb hg hat; obtain ⟨Ao97, co97, eo97⟩ := Kd.R_slice HO293.out; subst eo97) | ((with_reducible refine gate_callee (f := 14) rfl ?_); refine goesL_ (some 20) rfl rfl Try.func14 (by kernel_rfl) rfl #[.slice Ao97 y291.length co97, .int .i64 a1] rfl mO ?_; (with_reducible refine (row_Unpack.calls k _ _ y291 a1 t294 t295 _ ?side1 ?side2 A7.out).mono ?_); (case side1 => exact cO (Kd.R_reads' HO293.out).2.2); (case side2 => exact (Kd.R_reads' HO293.out).2.1); rintro e w98 ⟨v296, rfl, ho0, hb⟩; refine ⟨_, rfl, ?_⟩; have n0_ := Aside0.mk (Kd.R_below (rO HO293.out) hb); have n1_ := Aside0.mk (Kd.R_lower ho0 (below_size (bO HB.out))); have n2_ := Aside0.mk (below_step (bO HB.out) hb); clear HO293; clear HB; have HO293 := n0_; have HO297 := n1_; have HB := n2_; clear n0_ n1_ n2_; (try clear hb); (try clear hb2); (try clear hk); (try clear hi); (try clear ho0); obtain ⟨Ao99, co99, eo99⟩ := Kd.R_slice HO297.out; subst eo99))
      go_ret
      exact ⟨by first | rfl | (simp [errW_none, errW_some] <;> rfl) | (simp [*, errW_none, errW_some] <;> rfl), bO HB.out⟩
     ·rw [if_neg c92] at H
      have c92b0 : (t295 == 150) = false := beq_eq_false_iff_ne.mpr c92
      have c92b1 : (t295 != 150) = true := bne_iff_ne.mpr c92
      obtain rfl := Option.some.inj H
      go_enter Try.func5, Try.ntmps5
      go_wp2_with (first | ((with_reducible refine gate_callee (f := 8) rfl ?_); refine goesL_ (some 13) rfl rfl Try.func8 (by kernel_rfl) rfl #[] rfl mO ?_; (with_reducible refine (tabardlaw11_fixed.calls k  true _ A4.out).mono ?_); rintro e w100 ⟨rfl, hb⟩; refine ⟨_, rfl, ?_⟩; have n0_ := Aside0.mk (below_step (bO HB.out) hb); clear HB; have HB := n0_; clear n0_; (try clear hb); (try clear hb2); (try clear hk); (try clear hi)) | ((with_reducible refine gate_dst (N := 16) rfl ?_); (try (refine gate_guard (by rfl) ?_; dsimp only)); refine Kd.R_lit k31 _ 31 ?hg (N := 16) ?hd (xs := ([] : List (S31))) (inner := []) (ok := fun _ => True) (okp := fun _ => True) ?hr ?hp (fun _ hk => hk) trivial (Below.refl _ _) (Nat.le_refl _) (by simp) ?_; (case hd => rfl); (case hg => rfl); (case hr => first | (go_simp; done) | (go_simp; rfl)); (case hp => exact (Reps.none _ _)); intro v289 w101 ho102 hb hg_ hnew_; clear hg_ hnew_; (first | rw [← Ny288.out] at ho102 | (simp only [Int.reduceToNat] at ho102; rw [← Ny288.out] at ho102)); have n0_ := Aside0.mk (Kd.R_lower ho102 (below_size (bO HB.out))); have n1_ := Aside0.mk (below_step (bO HB.out) hb); clear HB; have HO290 := n0_; have HB := n1_; clear n0_ n1_; clear hb ho102) | ((with_reducible refine gate_builtin (b := .append) (xs := #[.tmp 16, .tmp 17]) rfl ?_); (try (refine gate_guard (by rfl) ?_; dsimp only)); at_builtin; refine Kd.R_append_rows k31 (w0 := w) w.heap.size rfl (.tmp 16) (.tmp 17) 24 31 (.agg #[(.int .i64 0), (.int .i64 0), (.int .i64 0)]) 24 rfl Try.underlying24 info31 rfl (by decide) (by omega) v289 y288 l0 _ _ _ (fun _ => True) (fun _ => False) rfl rfl ?aO ?aR (fun _ _ h => h) (fun _ h => h.elim) ?aF ?aB ?aS ?aL ?_; (case aR => exact cO (Kd.C_below HR0.out HB.out)); (case aB => exact (bO HB.out)); (case aF => exact (fun _ _ => trivial)); (case aO => exact (rO HO290.out)); (case aS => exact (below_size (bO HB.out))); (case aL => have := LMc6.out; omega); intro v292 w103 ho hb hg hat; rw [← Ny291.out] at ho; have n0_ := Aside0.mk (hb); have n1_ := Aside0.mk (ho); clear HB; clear HO290; have HB := n0_; have HO293 := n1_; clear n0_ n1_; clear ho hb hg hat; obtain ⟨Ao104, co104, eo104⟩ := Kd.R_slice HO293.out; subst eo104) | ((with_reducible refine gate_callee (f := 14) rfl ?_); refine goesL_ (some 20) rfl rfl Try.func14 (by kernel_rfl) rfl #[.slice Ao104 y291.length co104, .int .i64 a1] rfl mO ?_; (with_reducible refine (row_Unpack.calls k _ _ y291 a1 t294 t295 _ ?side1 ?side2 A7.out).mono ?_); (case side1 => exact cO (Kd.R_reads' HO293.out).2.2); (case side2 => exact (Kd.R_reads' HO293.out).2.1); rintro e w105 ⟨v296, rfl, ho0, hb⟩; refine ⟨_, rfl, ?_⟩; have n0_ := Aside0.mk (Kd.R_below (rO HO293.out) hb); have n1_ := Aside0.mk (Kd.R_lower ho0 (below_size (bO HB.out))); have n2_ := Aside0.mk (below_step (bO HB.out) hb); clear HO293; clear HB; have HO293 := n0_; have HO297 := n1_; have HB := n2_; clear n0_ n1_ n2_; (try clear hb); (try clear hb2); (try clear hk); (try clear hi); (try clear ho0); obtain ⟨Ao106, co106, eo106⟩ := Kd.R_slice HO297.out; subst eo106))
      go_ret
      exact ⟨by first | rfl | (simp [errW_none, errW_some] <;> rfl) | (simp [*, errW_none, errW_some] <;> rfl), bO HB.out⟩
    ·rw [if_neg c91] at H
     have c91b0 : ((t294.length : Int) == 0) = false := beq_eq_false_iff_ne.mpr c91
     have c91b1 : ((t294.length : Int) != 0) = true := bne_iff_ne.mpr c91
     have c91b2 : ¬ (t294 = []) := fun h_ => c91 (by rw [h_]; rfl)
     obtain rfl := Option.some.inj H
     go_enter Try.func5, Try.ntmps5
     go_wp2_with (first | ((with_reducible refine gate_callee (f := 8) rfl ?_); refine goesL_ (some 13) rfl rfl Try.func8 (by kernel_rfl) rfl #[] rfl mO ?_; (with_reducible refine (tabardlaw11_fixed.calls k  true _ A4.out).mono ?_); rintro e w107 ⟨rfl, hb⟩; refine ⟨_, rfl, ?_⟩; have n0_ := Aside0.mk (below_step (bO HB.out) hb); clear HB; have HB := n0_; clear n0_; (try clear hb); (try clear hb2); (try clear hk); (try clear hi)) | ((with_reducible refine gate_dst (N := 16) rfl ?_); (try (refine gate_guard (by rfl) ?_; dsimp only)); refine Kd.R_lit k31 _ 31 ?hg (N := 16) ?hd (xs := ([] : List (S31))) (inner := []) (ok := fun _ => True) (okp := fun _ => True) ?hr ?hp (fun _ hk => hk) trivial (Below.refl _ _) (Nat.le_refl _) (by simp) ?_; (case hd => rfl); (case hg => rfl); (case hr => first | (go_simp; done) | (go_simp; rfl)); (case hp => exact (Reps.none _ _)); intro v289 w108 ho109 hb hg_ hnew_; clear hg_ hnew_; (first | rw [← Ny288.out] at ho109 | (simp only [Int.reduceToNat] at ho109; rw [← Ny288.out] at ho109)); have n0_ := Aside0.mk (Kd.R_lower ho109 (below_size (bO HB.out))); have n1_ := Aside0.mk (below_step (bO HB.out) hb); clear HB; have HO290 := n0_; have HB := n1_; clear n0_ n1_; clear hb ho109) | ((with_reducible refine gate_builtin (b := .append) (xs := #[.tmp 16, .tmp 17]) rfl ?_); (try (refine gate_guard (by rfl) ?_; dsimp only)); at_builtin; refine Kd.R_append_rows k31 (w0 := w) w.heap.size rfl (.tmp 16) (.tmp 17) 24 31 (.agg #[(.int .i64 0), (.int .i64 0), (.int .i64 0)]) 24 rfl Try.underlying24 info31 rfl (by decide) (by omega) v289 y288 l0 _ _ _ (fun _ => True) (fun _ => False) rfl rfl ?aO ?aR (fun _ _ h => h) (fun _ h => h.elim) ?aF ?aB ?aS ?aL ?_; (case aR => exact cO (Kd.C_below HR0.out HB.out)); (case aB => exact (bO HB.out)); (case aF => exact (fun _ _ => trivial)); (case aO => exact (rO HO290.out)); (case aS => exact (below_size (bO HB.out))); (case aL => have := LMc6.out; omega); intro v292 w110 ho hb hg hat; rw [← Ny291.out] at ho; have n0_ := Aside0.mk (hb); have n1_ := Aside0.mk (ho); clear HB; clear HO290; have HB := n0_; have HO293 := n1_; clear n0_ n1_; clear ho hb hg hat; obtain ⟨Ao111, co111, eo111⟩ := Kd.R_slice HO293.out; subst eo111) | ((with_reducible refine gate_callee (f := 14) rfl ?_); refine goesL_ (some 20) rfl rfl Try.func14 (by kernel_rfl) rfl #[.slice Ao111 y291.length co111, .int .i64 a1] rfl mO ?_; (with_reducible refine (row_Unpack.calls k _ _ y291 a1 t294 t295 _ ?side1 ?side2 A7.out).mono ?_); (case side1 => exact cO (Kd.R_reads' HO293.out).2.2); (case side2 => exact (Kd.R_reads' HO293.out).2.1); rintro e w112 ⟨v296, rfl, ho0, hb⟩; refine ⟨_, rfl, ?_⟩; have n0_ := Aside0.mk (Kd.R_below (rO HO293.out) hb); have n1_ := Aside0.mk (Kd.R_lower ho0 (below_size (bO HB.out))); have n2_ := Aside0.mk (below_step (bO HB.out) hb); clear HO293; clear HB; have HO293 := n0_; have HO297 := n1_; have HB := n2_; clear n0_ n1_ n2_; (try clear hb); (try clear hb2); (try clear hk); (try clear hi); (try clear ho0); obtain ⟨Ao113, co113, eo113⟩ := Kd.R_slice HO297.out; subst eo113))
     go_ret
     exact ⟨by first | rfl | (simp [errW_none, errW_some] <;> rfl) | (simp [*, errW_none, errW_some] <;> rfl), bO HB.out⟩
  ·rw [if_neg c6] at H
   exact absurd H (by simp)
 ·replace c5 := Bool.eq_false_iff.mpr c5
  subst c5
  have H1 : (some false) = some r := by rw [if_neg (show ¬ (false = true) by decide)] at H; exact H
  clear H
  have H := H1
  clear H1
  obtain rfl := Option.some.inj H
  go_enter Try.func5, Try.ntmps5
  go_wp2_with (first | ((with_reducible refine gate_callee (f := 8) rfl ?_); refine goesL_ (some 13) rfl rfl Try.func8 (by kernel_rfl) rfl #[] rfl mO ?_; (with_reducible refine (tabardlaw11_fixed.calls k  false _ A4.out).mono ?_); rintro e w114 ⟨rfl, hb⟩; refine ⟨_, rfl, ?_⟩; have n0_ := Aside0.mk (below_step (bO HB.out) hb); clear HB; have HB := n0_; clear n0_; (try clear hb); (try clear hb2); (try clear hk); (try clear hi)))
  go_ret
  exact ⟨by first | rfl | (simp [errW_none, errW_some] <;> rfl) | (simp [*, errW_none, errW_some] <;> rfl), bO HB.out⟩

end Go.Proofs.Ytiakfdoaopfihaa.X

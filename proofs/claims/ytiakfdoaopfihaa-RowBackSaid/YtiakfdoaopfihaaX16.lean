/- What the functions of this seat compute, and that the program's calls come to just that: written by this session's own program out of the translation; no condition. -/
import Derived.Test.YtiakfdoaopfihaaX0
import Derived.Test.YtiakfdoaopfihaaX4
import Derived.Test.YtiakfdoaopfihaaX5
import Derived.Test.YtiakfdoaopfihaaX6
import Derived.Test.YtiakfdoaopfihaaX13
import Derived.Test.YtiakfdoaopfihaaX14
import Derived.Test.YtiakfdoaopfihaaX15
namespace Go.Proofs.Ytiakfdoaopfihaa.X
open Go.RowKit Go.Proofs.YtiakfdoaopfihaaW.PrintWords Go.Proofs.YtiakfdoaopfihaaW.PrintLast Go.Proofs.YtiakfdoaopfihaaW.PrintMore
attribute [local go_sem] max2_int min2_int max_two min_two max_three min_three max_four min_four   -- for this text's walks alone
set_option linter.unusedVariables false
set_option linter.unusedSimpArgs false

/-! ### tabardlaw11_RowBack: function 7 -/
mutual
def tabardlaw11_RowBack.j1 : Nat → List Int → List (S31) → Int → Int → Option (Bool)
 | 0, _, _, _, _ => none
 | k + 1, x0, x3, x5, x6 => tabardlaw11_RowBack.l1 k x0 x3 x5 x6 x0 (x0.length : Int) 0
def tabardlaw11_RowBack.l1 : Nat → List Int → List (S31) → Int → Int → List Int → Int → Int → Option (Bool)
 | 0, _, _, _, _, _, _, _ => none
 | k + 1, x0, x3, x5, x6, x48, x49, x50 => if x50 < x49 then (if 0 ≤ x50 then (if x50 < (x48.length : Int) then (tabardlaw11_RowBack.l1 k x0 x3 x5 (mx x6 (rd x48 x50)) x48 x49 (wrap64 (x50 + 1))) else (none)) else (none)) else ((some (([] : List (S31)) : List (S31))).bind fun y265 => (if y265.length + x3.length < 5864062014805 then ((row_Unpack.f k (y265 ++ x3) x5).bind fun bt271 => (if bt271.2 = 0 then ((tabardlaw11_ints.f k bt271.1 x0).bind fun t275 => (if t275 = true then (if (x3.length : Int) > (x0.length : Int) then (tabardlaw11_RowBack.j3 k x0 x3 true) else (if x6 < 4611686018427387904 then ((row_Right.f k x3 x5 (wrap64 (x6 + 1))).bind fun t276 => (if t276 = true then ((row_Right.f k x3 x5 x6).bind fun t277 => (tabardlaw11_RowBack.j3 k x0 x3 t277)) else (tabardlaw11_RowBack.j3 k x0 x3 true))) else ((row_Right.f k x3 x5 x6).bind fun t278 => (tabardlaw11_RowBack.j3 k x0 x3 t278)))) else (tabardlaw11_RowBack.j3 k x0 x3 true))) else (tabardlaw11_RowBack.j3 k x0 x3 true))) else (none)))
def tabardlaw11_RowBack.j3 : Nat → List Int → List (S31) → Bool → Option (Bool)
 | 0, _, _, _ => none
 | k + 1, x0, x3, x98 => if x98 = true then (some false) else (tabardlaw11_RowBack.l2 k x0 x3 x3 (x3.length : Int) 0)
def tabardlaw11_RowBack.l2 : Nat → List Int → List (S31) → List (S31) → Int → Int → Option (Bool)
 | 0, _, _, _, _, _ => none
 | k + 1, x0, x3, x99, x100, x101 => if x101 < x100 then (if 0 ≤ x101 then (if x101 < (x99.length : Int) then (if (Go.bits .andNot .i64 ((rd_T31 x99 x101).f1) ((rd_T31 x99 x101).f0)) = 0 then (if ((rd_T31 x99 x101).f0) < 0 then (some false) else (if ((rd_T31 x99 x101).f0) ≥ (x0.length : Int) then (some false) else (if x101 > 0 then (if 0 ≤ (wrap64 (x101 - 1)) then (if (wrap64 (x101 - 1)) < (x3.length : Int) then (if ((rd_T31 x3 (wrap64 (x101 - 1))).f1) ≥ ((rd_T31 x99 x101).f1) then (some false) else (tabardlaw11_RowBack.l2 k x0 x3 x99 x100 (wrap64 (x101 + 1)))) else (none)) else (none)) else (tabardlaw11_RowBack.l2 k x0 x3 x99 x100 (wrap64 (x101 + 1)))))) else (some false)) else (none)) else (none)) else (tabardlaw11_RowBack.l3 k x3 x0 (x0.length : Int) 0)
def tabardlaw11_RowBack.l3 : Nat → List (S31) → List Int → Int → Int → Option (Bool)
 | 0, _, _, _, _ => none
 | k + 1, x3, x140, x141, x142 => if x142 < x141 then (if 0 ≤ x142 then (if x142 < (x140.length : Int) then (tabardlaw11_RowBack.l4 k x3 x142 (rd x140 x142) 0 x140 x141 x142 x3 (x3.length : Int) 0) else (none)) else (none)) else (some true)
def tabardlaw11_RowBack.l4 : Nat → List (S31) → Int → Int → Int → List Int → Int → Int → List (S31) → Int → Int → Option (Bool)
 | 0, _, _, _, _, _, _, _, _, _, _ => none
 | k + 1, x3, x12, x13, x14, x140, x141, x142, x147, x148, x149 => if x149 < x148 then (if 0 ≤ x149 then (if x149 < (x147.length : Int) then (if (Go.bits .and .i64 x12 ((rd_T31 x147 x149).f0)) = ((rd_T31 x147 x149).f1) then (tabardlaw11_RowBack.l4 k x3 x12 x13 (wrap64 (x14 + 1)) x140 x141 x142 x147 x148 (wrap64 (x149 + 1))) else (tabardlaw11_RowBack.l4 k x3 x12 x13 x14 x140 x141 x142 x147 x148 (wrap64 (x149 + 1)))) else (none)) else (none)) else ((row_At.f k x3 x12).bind fun bt285 => (if x14 = 1 then (if bt285.2 = true then (if bt285.1 = x13 then (tabardlaw11_RowBack.l3 k x3 x140 x141 (wrap64 (x142 + 1))) else (some false)) else (some false)) else (some false)))
def tabardlaw11_RowBack.l0 : Nat → List Int → List (S31) → Int → Int → Option (Bool)
 | 0, _, _, _, _ => none
 | k + 1, x0, x3, x5, x6 => if 0 ≤ x5 then (if (shl .i64 1 x5) < (x0.length : Int) then (if x5 < 7 then (tabardlaw11_RowBack.l0 k x0 x3 (wrap64 (x5 + 1)) x6) else (tabardlaw11_RowBack.j1 k x0 x3 x5 x6)) else (tabardlaw11_RowBack.j1 k x0 x3 x5 x6)) else (none)
end
def tabardlaw11_RowBack.f (k : Nat) (l0 : List Int) : Option (Bool) := (tabardlaw11_fixed.f k).bind fun t253 => (if t253 = true then ((some (([] : List Int) : List Int)).bind fun y254 => (if y254.length + l0.length < 17592186044416 then ((row_Pack.f k (y254 ++ l0)).bind fun bt260 => (if bt260.2 = 0 then (tabardlaw11_RowBack.l0 k l0 bt260.1 0 0) else (if bt260.2 = 3 then (some ((bt260.1.length : Int) == 0)) else (some false)))) else (none))) else (some false))
theorem tabardlaw11_RowBack.mono_l : ∀ k, (∀ y0 y1 y2 y3, LeO (tabardlaw11_RowBack.j1 k y0 y1 y2 y3) (tabardlaw11_RowBack.j1 (k + 1) y0 y1 y2 y3)) ∧ (∀ y0 y1 y2 y3 y4 y5 y6, LeO (tabardlaw11_RowBack.l1 k y0 y1 y2 y3 y4 y5 y6) (tabardlaw11_RowBack.l1 (k + 1) y0 y1 y2 y3 y4 y5 y6)) ∧ (∀ y0 y1 y2, LeO (tabardlaw11_RowBack.j3 k y0 y1 y2) (tabardlaw11_RowBack.j3 (k + 1) y0 y1 y2)) ∧ (∀ y0 y1 y2 y3 y4, LeO (tabardlaw11_RowBack.l2 k y0 y1 y2 y3 y4) (tabardlaw11_RowBack.l2 (k + 1) y0 y1 y2 y3 y4)) ∧ (∀ y0 y1 y2 y3, LeO (tabardlaw11_RowBack.l3 k y0 y1 y2 y3) (tabardlaw11_RowBack.l3 (k + 1) y0 y1 y2 y3)) ∧ (∀ y0 y1 y2 y3 y4 y5 y6 y7 y8 y9, LeO (tabardlaw11_RowBack.l4 k y0 y1 y2 y3 y4 y5 y6 y7 y8 y9) (tabardlaw11_RowBack.l4 (k + 1) y0 y1 y2 y3 y4 y5 y6 y7 y8 y9)) ∧ (∀ y0 y1 y2 y3, LeO (tabardlaw11_RowBack.l0 k y0 y1 y2 y3) (tabardlaw11_RowBack.l0 (k + 1) y0 y1 y2 y3))
 | 0 => ⟨fun _ _ _ _ r h => by simp [tabardlaw11_RowBack.j1] at h, fun _ _ _ _ _ _ _ r h => by simp [tabardlaw11_RowBack.l1] at h, fun _ _ _ r h => by simp [tabardlaw11_RowBack.j3] at h, fun _ _ _ _ _ r h => by simp [tabardlaw11_RowBack.l2] at h, fun _ _ _ _ r h => by simp [tabardlaw11_RowBack.l3] at h, fun _ _ _ _ _ _ _ _ _ _ r h => by simp [tabardlaw11_RowBack.l4] at h, fun _ _ _ _ r h => by simp [tabardlaw11_RowBack.l0] at h⟩
 | k + 1 => by
  obtain ⟨ih0, ih1, ih2, ih3, ih4, ih5, ih6⟩ := tabardlaw11_RowBack.mono_l k
  refine ⟨?_, ?_, ?_, ?_, ?_, ?_, ?_⟩
  ·intro y0 y1 y2 y3
   unfold tabardlaw11_RowBack.j1
   repeat' first
   | (with_reducible exact ih0 _ _ _ _)
   | (with_reducible exact ih1 _ _ _ _ _ _ _)
   | (with_reducible exact ih2 _ _ _)
   | (with_reducible exact ih3 _ _ _ _ _)
   | (with_reducible exact ih4 _ _ _ _)
   | (with_reducible exact ih5 _ _ _ _ _ _ _ _ _ _)
   | (with_reducible exact ih6 _ _ _ _)
   | (with_reducible exact row_At.mono _ _ _)
   | (with_reducible exact row_Pack.mono _ _)
   | (with_reducible exact row_Right.mono _ _ _ _)
   | (with_reducible exact row_Unpack.mono _ _ _)
   | (with_reducible exact tabardlaw11_fixed.mono _)
   | (with_reducible exact tabardlaw11_ints.mono _ _ _)
   | (with_reducible exact LeO.refl _)
   | (with_reducible exact LeO.none _)
   | (with_reducible refine LeO.ite ?_ ?_)
   | (with_reducible refine LeO.bind ?_ (fun _ => ?_))
   | exact ih0 _ _ _ _
   | exact ih1 _ _ _ _ _ _ _
   | exact ih2 _ _ _
   | exact ih3 _ _ _ _ _
   | exact ih4 _ _ _ _
   | exact ih5 _ _ _ _ _ _ _ _ _ _
   | exact ih6 _ _ _ _
   | exact row_At.mono _ _ _
   | exact row_Pack.mono _ _
   | exact row_Right.mono _ _ _ _
   | exact row_Unpack.mono _ _ _
   | exact tabardlaw11_fixed.mono _
   | exact tabardlaw11_ints.mono _ _ _
   | exact LeO.none _
   | refine LeO.ite ?_ ?_
   | refine LeO.bind ?_ (fun _ => ?_)
  ·intro y0 y1 y2 y3 y4 y5 y6
   unfold tabardlaw11_RowBack.l1
   repeat' first
   | (with_reducible exact ih0 _ _ _ _)
   | (with_reducible exact ih1 _ _ _ _ _ _ _)
   | (with_reducible exact ih2 _ _ _)
   | (with_reducible exact ih3 _ _ _ _ _)
   | (with_reducible exact ih4 _ _ _ _)
   | (with_reducible exact ih5 _ _ _ _ _ _ _ _ _ _)
   | (with_reducible exact ih6 _ _ _ _)
   | (with_reducible exact row_At.mono _ _ _)
   | (with_reducible exact row_Pack.mono _ _)
   | (with_reducible exact row_Right.mono _ _ _ _)
   | (with_reducible exact row_Unpack.mono _ _ _)
   | (with_reducible exact tabardlaw11_fixed.mono _)
   | (with_reducible exact tabardlaw11_ints.mono _ _ _)
   | (with_reducible exact LeO.refl _)
   | (with_reducible exact LeO.none _)
   | (with_reducible refine LeO.ite ?_ ?_)
   | (with_reducible refine LeO.bind ?_ (fun _ => ?_))
   | exact ih0 _ _ _ _
   | exact ih1 _ _ _ _ _ _ _
   | exact ih2 _ _ _
   | exact ih3 _ _ _ _ _
   | exact ih4 _ _ _ _
   | exact ih5 _ _ _ _ _ _ _ _ _ _
   | exact ih6 _ _ _ _
   | exact row_At.mono _ _ _
   | exact row_Pack.mono _ _
   | exact row_Right.mono _ _ _ _
   | exact row_Unpack.mono _ _ _
   | exact tabardlaw11_fixed.mono _
   | exact tabardlaw11_ints.mono _ _ _
   | exact LeO.none _
   | refine LeO.ite ?_ ?_
   | refine LeO.bind ?_ (fun _ => ?_)
  ·intro y0 y1 y2
   unfold tabardlaw11_RowBack.j3
   repeat' first
   | (with_reducible exact ih0 _ _ _ _)
   | (with_reducible exact ih1 _ _ _ _ _ _ _)
   | (with_reducible exact ih2 _ _ _)
   | (with_reducible exact ih3 _ _ _ _ _)
   | (with_reducible exact ih4 _ _ _ _)
   | (with_reducible exact ih5 _ _ _ _ _ _ _ _ _ _)
   | (with_reducible exact ih6 _ _ _ _)
   | (with_reducible exact row_At.mono _ _ _)
   | (with_reducible exact row_Pack.mono _ _)
   | (with_reducible exact row_Right.mono _ _ _ _)
   | (with_reducible exact row_Unpack.mono _ _ _)
   | (with_reducible exact tabardlaw11_fixed.mono _)
   | (with_reducible exact tabardlaw11_ints.mono _ _ _)
   | (with_reducible exact LeO.refl _)
   | (with_reducible exact LeO.none _)
   | (with_reducible refine LeO.ite ?_ ?_)
   | (with_reducible refine LeO.bind ?_ (fun _ => ?_))
   | exact ih0 _ _ _ _
   | exact ih1 _ _ _ _ _ _ _
   | exact ih2 _ _ _
   | exact ih3 _ _ _ _ _
   | exact ih4 _ _ _ _
   | exact ih5 _ _ _ _ _ _ _ _ _ _
   | exact ih6 _ _ _ _
   | exact row_At.mono _ _ _
   | exact row_Pack.mono _ _
   | exact row_Right.mono _ _ _ _
   | exact row_Unpack.mono _ _ _
   | exact tabardlaw11_fixed.mono _
   | exact tabardlaw11_ints.mono _ _ _
   | exact LeO.none _
   | refine LeO.ite ?_ ?_
   | refine LeO.bind ?_ (fun _ => ?_)
  ·intro y0 y1 y2 y3 y4
   unfold tabardlaw11_RowBack.l2
   repeat' first
   | (with_reducible exact ih0 _ _ _ _)
   | (with_reducible exact ih1 _ _ _ _ _ _ _)
   | (with_reducible exact ih2 _ _ _)
   | (with_reducible exact ih3 _ _ _ _ _)
   | (with_reducible exact ih4 _ _ _ _)
   | (with_reducible exact ih5 _ _ _ _ _ _ _ _ _ _)
   | (with_reducible exact ih6 _ _ _ _)
   | (with_reducible exact row_At.mono _ _ _)
   | (with_reducible exact row_Pack.mono _ _)
   | (with_reducible exact row_Right.mono _ _ _ _)
   | (with_reducible exact row_Unpack.mono _ _ _)
   | (with_reducible exact tabardlaw11_fixed.mono _)
   | (with_reducible exact tabardlaw11_ints.mono _ _ _)
   | (with_reducible exact LeO.refl _)
   | (with_reducible exact LeO.none _)
   | (with_reducible refine LeO.ite ?_ ?_)
   | (with_reducible refine LeO.bind ?_ (fun _ => ?_))
   | exact ih0 _ _ _ _
   | exact ih1 _ _ _ _ _ _ _
   | exact ih2 _ _ _
   | exact ih3 _ _ _ _ _
   | exact ih4 _ _ _ _
   | exact ih5 _ _ _ _ _ _ _ _ _ _
   | exact ih6 _ _ _ _
   | exact row_At.mono _ _ _
   | exact row_Pack.mono _ _
   | exact row_Right.mono _ _ _ _
   | exact row_Unpack.mono _ _ _
   | exact tabardlaw11_fixed.mono _
   | exact tabardlaw11_ints.mono _ _ _
   | exact LeO.none _
   | refine LeO.ite ?_ ?_
   | refine LeO.bind ?_ (fun _ => ?_)
  ·intro y0 y1 y2 y3
   unfold tabardlaw11_RowBack.l3
   repeat' first
   | (with_reducible exact ih0 _ _ _ _)
   | (with_reducible exact ih1 _ _ _ _ _ _ _)
   | (with_reducible exact ih2 _ _ _)
   | (with_reducible exact ih3 _ _ _ _ _)
   | (with_reducible exact ih4 _ _ _ _)
   | (with_reducible exact ih5 _ _ _ _ _ _ _ _ _ _)
   | (with_reducible exact ih6 _ _ _ _)
   | (with_reducible exact row_At.mono _ _ _)
   | (with_reducible exact row_Pack.mono _ _)
   | (with_reducible exact row_Right.mono _ _ _ _)
   | (with_reducible exact row_Unpack.mono _ _ _)
   | (with_reducible exact tabardlaw11_fixed.mono _)
   | (with_reducible exact tabardlaw11_ints.mono _ _ _)
   | (with_reducible exact LeO.refl _)
   | (with_reducible exact LeO.none _)
   | (with_reducible refine LeO.ite ?_ ?_)
   | (with_reducible refine LeO.bind ?_ (fun _ => ?_))
   | exact ih0 _ _ _ _
   | exact ih1 _ _ _ _ _ _ _
   | exact ih2 _ _ _
   | exact ih3 _ _ _ _ _
   | exact ih4 _ _ _ _
   | exact ih5 _ _ _ _ _ _ _ _ _ _
   | exact ih6 _ _ _ _
   | exact row_At.mono _ _ _
   | exact row_Pack.mono _ _
   | exact row_Right.mono _ _ _ _
   | exact row_Unpack.mono _ _ _
   | exact tabardlaw11_fixed.mono _
   | exact tabardlaw11_ints.mono _ _ _
   | exact LeO.none _
   | refine LeO.ite ?_ ?_
   | refine LeO.bind ?_ (fun _ => ?_)
  ·intro y0 y1 y2 y3 y4 y5 y6 y7 y8 y9
   unfold tabardlaw11_RowBack.l4
   repeat' first
   | (with_reducible exact ih0 _ _ _ _)
   | (with_reducible exact ih1 _ _ _ _ _ _ _)
   | (with_reducible exact ih2 _ _ _)
   | (with_reducible exact ih3 _ _ _ _ _)
   | (with_reducible exact ih4 _ _ _ _)
   | (with_reducible exact ih5 _ _ _ _ _ _ _ _ _ _)
   | (with_reducible exact ih6 _ _ _ _)
   | (with_reducible exact row_At.mono _ _ _)
   | (with_reducible exact row_Pack.mono _ _)
   | (with_reducible exact row_Right.mono _ _ _ _)
   | (with_reducible exact row_Unpack.mono _ _ _)
   | (with_reducible exact tabardlaw11_fixed.mono _)
   | (with_reducible exact tabardlaw11_ints.mono _ _ _)
   | (with_reducible exact LeO.refl _)
   | (with_reducible exact LeO.none _)
   | (with_reducible refine LeO.ite ?_ ?_)
   | (with_reducible refine LeO.bind ?_ (fun _ => ?_))
   | exact ih0 _ _ _ _
   | exact ih1 _ _ _ _ _ _ _
   | exact ih2 _ _ _
   | exact ih3 _ _ _ _ _
   | exact ih4 _ _ _ _
   | exact ih5 _ _ _ _ _ _ _ _ _ _
   | exact ih6 _ _ _ _
   | exact row_At.mono _ _ _
   | exact row_Pack.mono _ _
   | exact row_Right.mono _ _ _ _
   | exact row_Unpack.mono _ _ _
   | exact tabardlaw11_fixed.mono _
   | exact tabardlaw11_ints.mono _ _ _
   | exact LeO.none _
   | refine LeO.ite ?_ ?_
   | refine LeO.bind ?_ (fun _ => ?_)
  ·intro y0 y1 y2 y3
   unfold tabardlaw11_RowBack.l0
   repeat' first
   | (with_reducible exact ih0 _ _ _ _)
   | (with_reducible exact ih1 _ _ _ _ _ _ _)
   | (with_reducible exact ih2 _ _ _)
   | (with_reducible exact ih3 _ _ _ _ _)
   | (with_reducible exact ih4 _ _ _ _)
   | (with_reducible exact ih5 _ _ _ _ _ _ _ _ _ _)
   | (with_reducible exact ih6 _ _ _ _)
   | (with_reducible exact row_At.mono _ _ _)
   | (with_reducible exact row_Pack.mono _ _)
   | (with_reducible exact row_Right.mono _ _ _ _)
   | (with_reducible exact row_Unpack.mono _ _ _)
   | (with_reducible exact tabardlaw11_fixed.mono _)
   | (with_reducible exact tabardlaw11_ints.mono _ _ _)
   | (with_reducible exact LeO.refl _)
   | (with_reducible exact LeO.none _)
   | (with_reducible refine LeO.ite ?_ ?_)
   | (with_reducible refine LeO.bind ?_ (fun _ => ?_))
   | exact ih0 _ _ _ _
   | exact ih1 _ _ _ _ _ _ _
   | exact ih2 _ _ _
   | exact ih3 _ _ _ _ _
   | exact ih4 _ _ _ _
   | exact ih5 _ _ _ _ _ _ _ _ _ _
   | exact ih6 _ _ _ _
   | exact row_At.mono _ _ _
   | exact row_Pack.mono _ _
   | exact row_Right.mono _ _ _ _
   | exact row_Unpack.mono _ _ _
   | exact tabardlaw11_fixed.mono _
   | exact tabardlaw11_ints.mono _ _ _
   | exact LeO.none _
   | refine LeO.ite ?_ ?_
   | refine LeO.bind ?_ (fun _ => ?_)
theorem tabardlaw11_RowBack.mono : ∀ a0 k, LeO (tabardlaw11_RowBack.f k a0) (tabardlaw11_RowBack.f (k + 1) a0) := by
 intro a0 k
 obtain ⟨ih0, ih1, ih2, ih3, ih4, ih5, ih6⟩ := tabardlaw11_RowBack.mono_l k
 unfold tabardlaw11_RowBack.f
 repeat' first
   | (with_reducible exact ih0 _ _ _ _)
   | (with_reducible exact ih1 _ _ _ _ _ _ _)
   | (with_reducible exact ih2 _ _ _)
   | (with_reducible exact ih3 _ _ _ _ _)
   | (with_reducible exact ih4 _ _ _ _)
   | (with_reducible exact ih5 _ _ _ _ _ _ _ _ _ _)
   | (with_reducible exact ih6 _ _ _ _)
   | (with_reducible exact row_At.mono _ _ _)
   | (with_reducible exact row_Pack.mono _ _)
   | (with_reducible exact row_Right.mono _ _ _ _)
   | (with_reducible exact row_Unpack.mono _ _ _)
   | (with_reducible exact tabardlaw11_fixed.mono _)
   | (with_reducible exact tabardlaw11_ints.mono _ _ _)
   | (with_reducible exact LeO.refl _)
   | (with_reducible exact LeO.none _)
   | (with_reducible refine LeO.ite ?_ ?_)
   | (with_reducible refine LeO.bind ?_ (fun _ => ?_))
   | exact ih0 _ _ _ _
   | exact ih1 _ _ _ _ _ _ _
   | exact ih2 _ _ _
   | exact ih3 _ _ _ _ _
   | exact ih4 _ _ _ _
   | exact ih5 _ _ _ _ _ _ _ _ _ _
   | exact ih6 _ _ _ _
   | exact row_At.mono _ _ _
   | exact row_Pack.mono _ _
   | exact row_Right.mono _ _ _ _
   | exact row_Unpack.mono _ _ _
   | exact tabardlaw11_fixed.mono _
   | exact tabardlaw11_ints.mono _ _ _
   | exact LeO.none _
   | refine LeO.ite ?_ ?_
   | refine LeO.bind ?_ (fun _ => ?_)
set_option maxHeartbeats 8000000 in
set_option maxRecDepth 100000 in
theorem tabardlaw11_RowBack.calls (k : Nat) (A0 : Option Addr) (c0 : Nat) (l0 : List Int) (r : Bool) (w : World) (hr0 : Kd.C (Kd.int .i64) w A0 l0.length l0) (hc0 : l0.length ≤ c0) (h : tabardlaw11_RowBack.f k l0 = some r) :
  Calls Try.prog 7 #[.slice A0 l0.length c0] w fun e w' => e = .returned (.bool r) ∧ Below w.heap.size w w' := by
 have hu31 := Try.underlying31
 have HR0 := Aside0.mk hr0
 have HC0 := Aside0.mk hc0
 clear hr0 hc0
 have HB := Aside0.mk (Below.refl w.heap.size w)
 have H : ((tabardlaw11_fixed.f k).bind fun t253 => (if t253 = true then ((some (([] : List Int) : List Int)).bind fun y254 => (if y254.length + l0.length < 17592186044416 then ((row_Pack.f k (y254 ++ l0)).bind fun bt260 => (if bt260.2 = 0 then (tabardlaw11_RowBack.l0 k l0 bt260.1 0 0) else (if bt260.2 = 3 then (some ((bt260.1.length : Int) == 0)) else (some false)))) else (none))) else (some false))) = some r := h
 clear h
 replace H := Option.bind_eq_some_iff.mp H
 obtain ⟨t253, A20, H⟩ := H
 replace H : (if t253 = true then ((some (([] : List Int) : List Int)).bind fun y254 => (if y254.length + l0.length < 17592186044416 then ((row_Pack.f k (y254 ++ l0)).bind fun bt260 => (if bt260.2 = 0 then (tabardlaw11_RowBack.l0 k l0 bt260.1 0 0) else (if bt260.2 = 3 then (some ((bt260.1.length : Int) == 0)) else (some false)))) else (none))) else (some false)) = some r := H
 have A2 := Aside0.mk A20
 clear A20
 by_cases c3 : t253 = true
 ·subst c3
  have H1 : ((some (([] : List Int) : List Int)).bind fun y254 => (if y254.length + l0.length < 17592186044416 then ((row_Pack.f k (y254 ++ l0)).bind fun bt260 => (if bt260.2 = 0 then (tabardlaw11_RowBack.l0 k l0 bt260.1 0 0) else (if bt260.2 = 3 then (some ((bt260.1.length : Int) == 0)) else (some false)))) else (none))) = some r := by rw [if_pos rfl] at H; exact H
  clear H
  have H := H1
  clear H1
  obtain ⟨y254, hy254⟩ : ∃ y_ : List Int, y_ = (([] : List Int)) := ⟨_, rfl⟩
  replace H : (if y254.length + l0.length < 17592186044416 then ((row_Pack.f k (y254 ++ l0)).bind fun bt260 => (if bt260.2 = 0 then (tabardlaw11_RowBack.l0 k l0 bt260.1 0 0) else (if bt260.2 = 3 then (some ((bt260.1.length : Int) == 0)) else (some false)))) else (none)) = some r := by first | (rw [hy254]; with_reducible exact H) | (have H2_ := (Option.bind_some _ _).symm.trans H; rw [hy254]; with_reducible exact H2_) | (have H2_ := (Option.bind_some _ _).symm.trans H; with_reducible exact H2_) | with_reducible exact H | (rw [hy254]; exact H) | exact H
  have Ny254 := Aside0.mk hy254
  clear hy254
  by_cases c4 : y254.length + l0.length < 17592186044416
  ·rw [if_pos c4] at H
   have LMc4 := Aside0.mk c4
   clear c4
   obtain ⟨y257, hy257⟩ : ∃ y_ : List Int, y_ = (y254 ++ l0) := ⟨_, rfl⟩
   replace H : ((row_Pack.f k y257).bind fun bt260 => (if bt260.2 = 0 then (tabardlaw11_RowBack.l0 k l0 bt260.1 0 0) else (if bt260.2 = 3 then (some ((bt260.1.length : Int) == 0)) else (some false)))) = some r := by first | (rw [hy257]; with_reducible exact H) | (have H2_ := (Option.bind_some _ _).symm.trans H; rw [hy257]; with_reducible exact H2_) | (have H2_ := (Option.bind_some _ _).symm.trans H; with_reducible exact H2_) | with_reducible exact H | (rw [hy257]; exact H) | exact H
   have Ny257 := Aside0.mk hy257
   clear hy257
   replace H := Option.bind_eq_some_iff.mp H
   obtain ⟨⟨t260, t261⟩, A50, H⟩ := H
   replace H : (if t261 = 0 then (tabardlaw11_RowBack.l0 k l0 t260 0 0) else (if t261 = 3 then (some ((t260.length : Int) == 0)) else (some false))) = some r := H
   have A5 := Aside0.mk A50
   clear A50
   by_cases c6 : t261 = 0
   ·rw [if_pos c6] at H
    have c6b0 : (t261 == 0) = true := beq_iff_eq.mpr c6
    have c6b1 : (t261 != 0) = false := bne_eq_false_iff_eq.mpr c6
    clear c6
    have HC7 := Aside0.mk H
    clear H
    go_enter Try.func7, Try.ntmps7
    go_upto_block 0 with (first | (go_at_call 8; (with_reducible refine (tabardlaw11_fixed.calls k  true _ A2.out).mono ?_); rintro e w8 ⟨rfl, hb⟩; have n0_ := Aside0.mk (below_step (bO HB.out) hb); clear HB; have HB := n0_; clear n0_; (try clear hb); (try clear hb2); (try clear hk); (try clear hi)) | ((with_reducible refine gate_dst (N := 22) rfl ?_); (try (refine gate_guard (by rfl) ?_; dsimp only)); refine Kd.R_lit (Kd.int .i64) _ 3 ?hg (N := 22) ?hd (xs := ([] : List Int)) (inner := []) (ok := fun _ => True) (okp := fun _ => True) ?hr ?hp (fun _ hk => hk) trivial (Below.refl _ _) (Nat.le_refl _) (by simp) ?_; (case hd => rfl); (case hg => rfl); (case hr => first | (go_simp; done) | (go_simp; rfl)); (case hp => exact (Reps.none _ _)); intro v255 w9 ho10 hb hg_ hnew_; clear hg_ hnew_; (first | rw [← Ny254.out] at ho10 | (simp only [Int.reduceToNat] at ho10; rw [← Ny254.out] at ho10)); have n0_ := Aside0.mk (Kd.R_lower ho10 (below_size (bO HB.out))); have n1_ := Aside0.mk (below_step (bO HB.out) hb); clear HB; have HO256 := n0_; have HB := n1_; clear n0_ n1_; clear hb ho10) | ((with_reducible refine gate_builtin (b := .append) (xs := #[.tmp 22, .tmp 23]) rfl ?_); (try (refine gate_guard (by rfl) ?_; dsimp only)); at_builtin; refine Kd.R_append_rows (Kd.int .i64) (w0 := w) w.heap.size rfl (.tmp 22) (.tmp 23) 22 3 (.int .i64 0) 8 rfl Try.underlying22 info3 rfl (by decide) (by omega) v255 y254 l0 _ _ _ (fun _ => True) (fun _ => False) rfl rfl ?aO ?aR (fun _ _ h => h) (fun _ h => h.elim) ?aF ?aB ?aS ?aL ?_; (case aR => exact cO (Kd.C_below HR0.out HB.out)); (case aB => exact (bO HB.out)); (case aF => exact (fun _ _ => trivial)); (case aO => exact (rO HO256.out)); (case aS => exact (below_size (bO HB.out))); (case aL => have := LMc4.out; omega); intro v258 w11 ho hb hg hat; rw [← Ny257.out] at ho; have n0_ := Aside0.mk (hb); have n1_ := Aside0.mk (ho); clear HB; clear HO256; have HB := n0_; have HO259 := n1_; clear n0_ n1_; clear ho hb hg hat; obtain ⟨Ao12, co12, eo12⟩ := Kd.R_slice HO259.out; subst eo12) | (go_at_call 9; (with_reducible refine (row_Pack.calls k _ _ y257 t260 t261 _ ?side1 ?side2 A5.out).mono ?_); (case side1 => exact cO (Kd.R_reads' HO259.out).2.2); (case side2 => exact (Kd.R_reads' HO259.out).2.1); rintro e w13 ⟨v262, rfl, ho0, hb⟩; have n0_ := Aside0.mk (Kd.R_below (rO HO259.out) hb); have n1_ := Aside0.mk (Kd.R_lower ho0 (below_size (bO HB.out))); have n2_ := Aside0.mk (below_step (bO HB.out) hb); clear HO259; clear HB; have HO259 := n0_; have HO263 := n1_; have HB := n2_; clear n0_ n1_ n2_; (try clear hb); (try clear hb2); (try clear hk); (try clear hi); (try clear ho0)))
    repeat (go_quiet (first | (go_at_call 8; (with_reducible refine (tabardlaw11_fixed.calls k  true _ A2.out).mono ?_); rintro e w8 ⟨rfl, hb⟩; have n0_ := Aside0.mk (below_step (bO HB.out) hb); clear HB; have HB := n0_; clear n0_; (try clear hb); (try clear hb2); (try clear hk); (try clear hi)) | ((with_reducible refine gate_dst (N := 22) rfl ?_); (try (refine gate_guard (by rfl) ?_; dsimp only)); refine Kd.R_lit (Kd.int .i64) _ 3 ?hg (N := 22) ?hd (xs := ([] : List Int)) (inner := []) (ok := fun _ => True) (okp := fun _ => True) ?hr ?hp (fun _ hk => hk) trivial (Below.refl _ _) (Nat.le_refl _) (by simp) ?_; (case hd => rfl); (case hg => rfl); (case hr => first | (go_simp; done) | (go_simp; rfl)); (case hp => exact (Reps.none _ _)); intro v255 w9 ho10 hb hg_ hnew_; clear hg_ hnew_; (first | rw [← Ny254.out] at ho10 | (simp only [Int.reduceToNat] at ho10; rw [← Ny254.out] at ho10)); have n0_ := Aside0.mk (Kd.R_lower ho10 (below_size (bO HB.out))); have n1_ := Aside0.mk (below_step (bO HB.out) hb); clear HB; have HO256 := n0_; have HB := n1_; clear n0_ n1_; clear hb ho10) | ((with_reducible refine gate_builtin (b := .append) (xs := #[.tmp 22, .tmp 23]) rfl ?_); (try (refine gate_guard (by rfl) ?_; dsimp only)); at_builtin; refine Kd.R_append_rows (Kd.int .i64) (w0 := w) w.heap.size rfl (.tmp 22) (.tmp 23) 22 3 (.int .i64 0) 8 rfl Try.underlying22 info3 rfl (by decide) (by omega) v255 y254 l0 _ _ _ (fun _ => True) (fun _ => False) rfl rfl ?aO ?aR (fun _ _ h => h) (fun _ h => h.elim) ?aF ?aB ?aS ?aL ?_; (case aR => exact cO (Kd.C_below HR0.out HB.out)); (case aB => exact (bO HB.out)); (case aF => exact (fun _ _ => trivial)); (case aO => exact (rO HO256.out)); (case aS => exact (below_size (bO HB.out))); (case aL => have := LMc4.out; omega); intro v258 w11 ho hb hg hat; rw [← Ny257.out] at ho; have n0_ := Aside0.mk (hb); have n1_ := Aside0.mk (ho); clear HB; clear HO256; have HB := n0_; have HO259 := n1_; clear n0_ n1_; clear ho hb hg hat; obtain ⟨Ao12, co12, eo12⟩ := Kd.R_slice HO259.out; subst eo12) | (go_at_call 9; (with_reducible refine (row_Pack.calls k _ _ y257 t260 t261 _ ?side1 ?side2 A5.out).mono ?_); (case side1 => exact cO (Kd.R_reads' HO259.out).2.2); (case side2 => exact (Kd.R_reads' HO259.out).2.1); rintro e w13 ⟨v262, rfl, ho0, hb⟩; have n0_ := Aside0.mk (Kd.R_below (rO HO259.out) hb); have n1_ := Aside0.mk (Kd.R_lower ho0 (below_size (bO HB.out))); have n2_ := Aside0.mk (below_step (bO HB.out) hb); clear HO259; clear HB; have HO259 := n0_; have HO263 := n1_; have HB := n2_; clear n0_ n1_ n2_; (try clear hb); (try clear hb2); (try clear hk); (try clear hi); (try clear ho0))); go_upto_block 0 with (first | (go_at_call 8; (with_reducible refine (tabardlaw11_fixed.calls k  true _ A2.out).mono ?_); rintro e w8 ⟨rfl, hb⟩; have n0_ := Aside0.mk (below_step (bO HB.out) hb); clear HB; have HB := n0_; clear n0_; (try clear hb); (try clear hb2); (try clear hk); (try clear hi)) | ((with_reducible refine gate_dst (N := 22) rfl ?_); (try (refine gate_guard (by rfl) ?_; dsimp only)); refine Kd.R_lit (Kd.int .i64) _ 3 ?hg (N := 22) ?hd (xs := ([] : List Int)) (inner := []) (ok := fun _ => True) (okp := fun _ => True) ?hr ?hp (fun _ hk => hk) trivial (Below.refl _ _) (Nat.le_refl _) (by simp) ?_; (case hd => rfl); (case hg => rfl); (case hr => first | (go_simp; done) | (go_simp; rfl)); (case hp => exact (Reps.none _ _)); intro v255 w9 ho10 hb hg_ hnew_; clear hg_ hnew_; (first | rw [← Ny254.out] at ho10 | (simp only [Int.reduceToNat] at ho10; rw [← Ny254.out] at ho10)); have n0_ := Aside0.mk (Kd.R_lower ho10 (below_size (bO HB.out))); have n1_ := Aside0.mk (below_step (bO HB.out) hb); clear HB; have HO256 := n0_; have HB := n1_; clear n0_ n1_; clear hb ho10) | ((with_reducible refine gate_builtin (b := .append) (xs := #[.tmp 22, .tmp 23]) rfl ?_); (try (refine gate_guard (by rfl) ?_; dsimp only)); at_builtin; refine Kd.R_append_rows (Kd.int .i64) (w0 := w) w.heap.size rfl (.tmp 22) (.tmp 23) 22 3 (.int .i64 0) 8 rfl Try.underlying22 info3 rfl (by decide) (by omega) v255 y254 l0 _ _ _ (fun _ => True) (fun _ => False) rfl rfl ?aO ?aR (fun _ _ h => h) (fun _ h => h.elim) ?aF ?aB ?aS ?aL ?_; (case aR => exact cO (Kd.C_below HR0.out HB.out)); (case aB => exact (bO HB.out)); (case aF => exact (fun _ _ => trivial)); (case aO => exact (rO HO256.out)); (case aS => exact (below_size (bO HB.out))); (case aL => have := LMc4.out; omega); intro v258 w11 ho hb hg hat; rw [← Ny257.out] at ho; have n0_ := Aside0.mk (hb); have n1_ := Aside0.mk (ho); clear HB; clear HO256; have HB := n0_; have HO259 := n1_; clear n0_ n1_; clear ho hb hg hat; obtain ⟨Ao12, co12, eo12⟩ := Kd.R_slice HO259.out; subst eo12) | (go_at_call 9; (with_reducible refine (row_Pack.calls k _ _ y257 t260 t261 _ ?side1 ?side2 A5.out).mono ?_); (case side1 => exact cO (Kd.R_reads' HO259.out).2.2); (case side2 => exact (Kd.R_reads' HO259.out).2.1); rintro e w13 ⟨v262, rfl, ho0, hb⟩; have n0_ := Aside0.mk (Kd.R_below (rO HO259.out) hb); have n1_ := Aside0.mk (Kd.R_lower ho0 (below_size (bO HB.out))); have n2_ := Aside0.mk (below_step (bO HB.out) hb); clear HO259; clear HB; have HO259 := n0_; have HO263 := n1_; have HB := n2_; clear n0_ n1_ n2_; (try clear hb); (try clear hb2); (try clear hk); (try clear hi); (try clear ho0))))
    (try simp only [Act.put, List.setIfInBounds_toArray, List.set_cons_zero, List.set_cons_succ])
    go_cut [5] (fun v5 wc => ∃ (kq : Nat) (x5_6 : Int), v5 = .int .i64 x5_6 ∧ Aside0 (tabardlaw11_RowBack.j1 kq l0 t260 x5_6 0 = some r) ∧ Aside0 (kq ≤ k) ∧ Aside0 (Kd.R k31 31 wc w.heap.size (fun _ => True) v262 t260) ∧ Aside0 (Below w.heap.size w wc))
    case first =>
     have H := HC7.out
     clear HC7
     have H' := Aside0.mk H
     clear H
     go_wp2
     repeat (go_quiet (fail); try go_wp2)
     go_loopg [5] k (fun kq v5 w' => ∃ (x5_1 : Int), v5 = .int .i64 x5_1 ∧ Aside0 (tabardlaw11_RowBack.l0 kq l0 t260 x5_1 0 = some r) ∧ Aside0 (kq ≤ k) ∧ Aside0 (Kd.R k31 31 w' w.heap.size (fun _ => True) v262 t260) ∧ Aside0 (Below w.heap.size w w'))
     case atStart => exact ⟨(0), (by first | rfl | (simp; done) | (simp [*]; done)), H', ⟨Nat.le_refl _⟩, ⟨rO HO263.out⟩, ⟨bO HB.out⟩⟩
     case round =>
      clear H'
      try clear p2
      try clear c3
      try clear c4
      try clear c6
      try clear c6b0
      try clear c6b1
      try clear c7
      obtain ⟨x5_1, rfl, HA, HK1, HO_3, HB⟩ := hrel
      cases gk with
      | zero => exact absurd HA.out (by simp [tabardlaw11_RowBack.l0])
      | succ k1 =>
       have H := HA.out
       clear HA
       simp only [tabardlaw11_RowBack.l0] at H
       by_cases c14 : 0 ≤ x5_1
       ·rw [if_pos c14] at H
        have c14b0 := eq_true c14
        have c14b1 : decide (0 ≤ x5_1) = true := decide_eq_true c14
        clear c14
        obtain ⟨ji15, hji15⟩ : ∃ j_ : Int, (shl .i64 1 x5_1) = j_ := ⟨_, rfl⟩
        replace H : (if (ji15) < (l0.length : Int) then (if x5_1 < 7 then (tabardlaw11_RowBack.l0 k1 l0 t260 (wrap64 (x5_1 + 1)) 0) else (tabardlaw11_RowBack.j1 k1 l0 t260 x5_1 0)) else (tabardlaw11_RowBack.j1 k1 l0 t260 x5_1 0)) = some r := by first | (rw [hji15] at H; exact H) | (simp only [hji15] at H ⊢; exact H)
        have hji15_ : (IntKind.i64.wrap (1 * 2 ^ min x5_1.toNat 64)) = ji15 := hji15
        have hji15z : x5_1 ≤ 64 → (IntKind.i64.wrap (1 * 2 ^ x5_1.toNat)) = ji15 := shl_small hji15
        have hji15u : (IntKind.i64.wrap (2 ^ min x5_1.toNat 64)) = ji15 := by have h_ := hji15_; rw [Int.one_mul] at h_; exact h_
        have hji15v : x5_1 ≤ 64 → (IntKind.i64.wrap (2 ^ x5_1.toNat)) = ji15 := fun hle_ => by have h_ := hji15z hle_; rw [Int.one_mul] at h_; exact h_
        have hji15y : (wrap64 (1 * 2 ^ min x5_1.toNat 64)) = ji15 := (i64_w _).symm.trans hji15_
        have hji15x : x5_1 ≤ 64 → (wrap64 (1 * 2 ^ x5_1.toNat)) = ji15 := fun h_ => (i64_w _).symm.trans (hji15z h_)
        by_cases c16 : (ji15) < (l0.length : Int)
        ·rw [if_pos c16] at H
         have c16b0 : decide ((ji15) < (l0.length : Int)) = true := decide_eq_true c16
         clear c16
         (first | rw [c16b0] | (simp only [i64_w, i32_w]; rw [c16b0]) | skip)
         by_cases c17 : x5_1 < 7
         ·rw [if_pos c17] at H
          have c17b0 : decide (x5_1 < 7) = true := decide_eq_true c17
          clear c17
          have H' := Aside0.mk H
          clear H
          go_wp2
          repeat (go_quiet (fail); try go_wp2)
          go_roundg k1
          case measure => have := HK1.out; omega
          case rel => exact ⟨(wrap64 (x5_1 + 1)), (by first | rfl | (simp; done) | (simp [*]; done)), H', ⟨by have := HK1.out; omega⟩, ⟨rO HO_3.out⟩, ⟨bO HB.out⟩⟩
         ·rw [if_neg c17] at H
          have c17b0 : decide (x5_1 < 7) = false := decide_eq_false c17
          clear c17
          have H' := Aside0.mk H
          clear H
          go_wp2
          repeat (go_quiet (fail); try go_wp2)
          go_meet
          case rel => exact ⟨_, (x5_1), (by first | rfl | (simp; done) | (simp [*]; done)), H', ⟨by have := HK1.out; first | omega | exact Nat.le_refl _⟩, ⟨rO HO_3.out⟩, ⟨bO HB.out⟩⟩
        ·rw [if_neg c16] at H
         have c16b0 : decide ((ji15) < (l0.length : Int)) = false := decide_eq_false c16
         clear c16
         (first | rw [c16b0] | (simp only [i64_w, i32_w]; rw [c16b0]) | skip)
         have H' := Aside0.mk H
         clear H
         go_wp2
         repeat (go_quiet (fail); try go_wp2)
         go_meet
         case rel => exact ⟨_, (x5_1), (by first | rfl | (simp; done) | (simp [*]; done)), H', ⟨by have := HK1.out; first | omega | exact Nat.le_refl _⟩, ⟨rO HO_3.out⟩, ⟨bO HB.out⟩⟩
       ·rw [if_neg c14] at H
        exact absurd H (by simp)
    case rest =>
     clear HC7
     try clear c1
     try clear p2
     try clear c3
     try clear c4
     try clear c6
     try clear c6b0
     try clear c6b1
     try clear p6
     try clear c7
     try clear c14
     try clear c14b0
     try clear c14b1
     try clear c16
     try clear c16b0
     try clear c17
     try clear c17b0
     try clear p2
     obtain ⟨kq, x5_6, rfl, HA, HJ6, HO_3, HB⟩ := hcut
     cases kq with
     | zero => exact absurd HA.out (by simp [tabardlaw11_RowBack.j1])
     | succ kj6 =>
      have H := HA.out
      clear HA
      simp only [tabardlaw11_RowBack.j1] at H
      have H' := Aside0.mk H
      clear H
      go_wp2
      repeat (go_quiet (fail); try go_wp2)
      go_loopg [6, 50] kj6 (fun kq v6 v50 w' => ∃ (x6_2 : Int) (x50_2 : Int), v6 = .int .i64 x6_2 ∧ v50 = .int .i64 x50_2 ∧ Aside0 (tabardlaw11_RowBack.l1 kq l0 t260 x5_6 x6_2 l0 (l0.length : Int) x50_2 = some r) ∧ Aside0 (kq ≤ kj6) ∧ Aside0 (Kd.R k31 31 w' w.heap.size (fun _ => True) v262 t260) ∧ Aside0 (Below w.heap.size w w'))
      case atStart => exact ⟨(0), (0), (by first | rfl | (simp; done) | (simp [*]; done)), (by first | rfl | (simp; done) | (simp [*]; done)), H', ⟨Nat.le_refl _⟩, ⟨rO HO_3.out⟩, ⟨bO HB.out⟩⟩
      case round =>
       clear H'
       try clear c1
       try clear p2
       try clear c3
       try clear c4
       try clear c6
       try clear c6b0
       try clear c6b1
       try clear p6
       try clear c7
       try clear c14
       try clear c14b0
       try clear c14b1
       try clear c16
       try clear c16b0
       try clear c17
       try clear c17b0
       try clear p2
       try clear p6
       obtain ⟨x6_2, x50_2, rfl, rfl, HA, HK2, HO_3, HB⟩ := hrel
       cases gk with
       | zero => exact absurd HA.out (by simp [tabardlaw11_RowBack.l1])
       | succ k2 =>
        have H := HA.out
        clear HA
        simp only [tabardlaw11_RowBack.l1] at H
        by_cases c18 : x50_2 < (l0.length : Int)
        ·rw [if_pos c18] at H
         have c18b0 : decide (x50_2 < (l0.length : Int)) = true := decide_eq_true c18
         clear c18
         by_cases c19 : 0 ≤ x50_2
         ·rw [if_pos c19] at H
          have c19b0 : decide (0 ≤ x50_2) = true := decide_eq_true c19
          clear c19
          by_cases c20 : x50_2 < (l0.length : Int)
          ·rw [if_pos c20] at H
           have c20b0 : decide (x50_2 < (l0.length : Int)) = true := decide_eq_true c20
           clear c20
           obtain ⟨ji21, hji21⟩ : ∃ j_ : Int, (mx x6_2 (rd l0 x50_2)) = j_ := ⟨_, rfl⟩
           replace H : (tabardlaw11_RowBack.l1 k2 l0 t260 x5_6 ji21 l0 (l0.length : Int) (wrap64 (x50_2 + 1))) = some r := by first | (rw [hji21] at H; exact H) | (simp only [hji21] at H ⊢; exact H)
           have hji21_ : (if x6_2 < (rd l0 x50_2) then (rd l0 x50_2) else x6_2) = ji21 := hji21
           have H' := Aside0.mk H
           clear H
           have p264 : 0 ≤ (x50_2 : Int) := of_decide_eq_true aO
           have q264 : x50_2 < (l0.length : Int) := of_decide_eq_true aO
           obtain ⟨ad264, e264, hx264_0⟩ := Kd.at_int HR0.out x50_2 p264 q264
           cases e264
           replace hx264_0 := (HB.out.cell (World.block_lt_of_cell? w _ hx264_0)).trans hx264_0
           replace p264 := eq_true p264
           replace q264 := eq_true q264
           go_wp2
           repeat (go_quiet (fail); try go_wp2)
           go_roundg k2
           case measure => have := HJ6.out; have := HK2.out; omega
           case rel => exact ⟨(ji21), (wrap64 (x50_2 + 1)), (by first | rfl | (simp; done) | (simp only [← hji21] <;> (first | rfl | simp)) | (simp [*]; done)), (by first | rfl | (simp; done) | (simp [*]; done)), H', ⟨by have := HJ6.out; have := HK2.out; omega⟩, ⟨rO HO_3.out⟩, ⟨bO HB.out⟩⟩
          ·rw [if_neg c20] at H
           exact absurd H (by simp)
         ·rw [if_neg c19] at H
          exact absurd H (by simp)
        ·rw [if_neg c18] at H
         have c18b0 : decide (x50_2 < (l0.length : Int)) = false := decide_eq_false c18
         clear c18
         obtain ⟨y265, hy265⟩ : ∃ y_ : List (S31), y_ = (([] : List (S31))) := ⟨_, rfl⟩
         replace H : (if y265.length + t260.length < 5864062014805 then ((row_Unpack.f k2 (y265 ++ t260) x5_6).bind fun bt271 => (if bt271.2 = 0 then ((tabardlaw11_ints.f k2 bt271.1 l0).bind fun t275 => (if t275 = true then (if (t260.length : Int) > (l0.length : Int) then (tabardlaw11_RowBack.j3 k2 l0 t260 true) else (if x6_2 < 4611686018427387904 then ((row_Right.f k2 t260 x5_6 (wrap64 (x6_2 + 1))).bind fun t276 => (if t276 = true then ((row_Right.f k2 t260 x5_6 x6_2).bind fun t277 => (tabardlaw11_RowBack.j3 k2 l0 t260 t277)) else (tabardlaw11_RowBack.j3 k2 l0 t260 true))) else ((row_Right.f k2 t260 x5_6 x6_2).bind fun t278 => (tabardlaw11_RowBack.j3 k2 l0 t260 t278)))) else (tabardlaw11_RowBack.j3 k2 l0 t260 true))) else (tabardlaw11_RowBack.j3 k2 l0 t260 true))) else (none)) = some r := by first | (rw [hy265]; with_reducible exact H) | (have H2_ := (Option.bind_some _ _).symm.trans H; rw [hy265]; with_reducible exact H2_) | (have H2_ := (Option.bind_some _ _).symm.trans H; with_reducible exact H2_) | with_reducible exact H | (rw [hy265]; exact H) | exact H
         have Ny265 := Aside0.mk hy265
         clear hy265
         by_cases c22 : y265.length + t260.length < 5864062014805
         ·rw [if_pos c22] at H
          have LMc22 := Aside0.mk c22
          clear c22
          obtain ⟨y268, hy268⟩ : ∃ y_ : List (S31), y_ = (y265 ++ t260) := ⟨_, rfl⟩
          replace H : ((row_Unpack.f k2 y268 x5_6).bind fun bt271 => (if bt271.2 = 0 then ((tabardlaw11_ints.f k2 bt271.1 l0).bind fun t275 => (if t275 = true then (if (t260.length : Int) > (l0.length : Int) then (tabardlaw11_RowBack.j3 k2 l0 t260 true) else (if x6_2 < 4611686018427387904 then ((row_Right.f k2 t260 x5_6 (wrap64 (x6_2 + 1))).bind fun t276 => (if t276 = true then ((row_Right.f k2 t260 x5_6 x6_2).bind fun t277 => (tabardlaw11_RowBack.j3 k2 l0 t260 t277)) else (tabardlaw11_RowBack.j3 k2 l0 t260 true))) else ((row_Right.f k2 t260 x5_6 x6_2).bind fun t278 => (tabardlaw11_RowBack.j3 k2 l0 t260 t278)))) else (tabardlaw11_RowBack.j3 k2 l0 t260 true))) else (tabardlaw11_RowBack.j3 k2 l0 t260 true))) = some r := by first | (rw [hy268]; with_reducible exact H) | (have H2_ := (Option.bind_some _ _).symm.trans H; rw [hy268]; with_reducible exact H2_) | (have H2_ := (Option.bind_some _ _).symm.trans H; with_reducible exact H2_) | with_reducible exact H | (rw [hy268]; exact H) | exact H
          have Ny268 := Aside0.mk hy268
          clear hy268
          replace H := Option.bind_eq_some_iff.mp H
          obtain ⟨⟨t271, t272⟩, A230, H⟩ := H
          replace H : (if t272 = 0 then ((tabardlaw11_ints.f k2 t271 l0).bind fun t275 => (if t275 = true then (if (t260.length : Int) > (l0.length : Int) then (tabardlaw11_RowBack.j3 k2 l0 t260 true) else (if x6_2 < 4611686018427387904 then ((row_Right.f k2 t260 x5_6 (wrap64 (x6_2 + 1))).bind fun t276 => (if t276 = true then ((row_Right.f k2 t260 x5_6 x6_2).bind fun t277 => (tabardlaw11_RowBack.j3 k2 l0 t260 t277)) else (tabardlaw11_RowBack.j3 k2 l0 t260 true))) else ((row_Right.f k2 t260 x5_6 x6_2).bind fun t278 => (tabardlaw11_RowBack.j3 k2 l0 t260 t278)))) else (tabardlaw11_RowBack.j3 k2 l0 t260 true))) else (tabardlaw11_RowBack.j3 k2 l0 t260 true)) = some r := H
          have A23 := Aside0.mk A230
          clear A230
          have HC24 := Aside0.mk H
          clear H
          go_upto_region 15 with (first | ((with_reducible refine gate_dst (N := 59) rfl ?_); (try (refine gate_guard (by rfl) ?_; dsimp only)); refine Kd.R_lit k31 _ 31 ?hg (N := 59) ?hd (xs := ([] : List (S31))) (inner := []) (ok := fun _ => True) (okp := fun _ => True) ?hr ?hp (fun _ hk => hk) trivial (Below.refl _ _) (Nat.le_refl _) (by simp) ?_; (case hd => rfl); (case hg => rfl); (case hr => first | (go_simp; done) | (go_simp; rfl)); (case hp => exact (Reps.none _ _)); intro v266 w25 ho26 hb hg_ hnew_; clear hg_ hnew_; (first | rw [← Ny265.out] at ho26 | (simp only [Int.reduceToNat] at ho26; rw [← Ny265.out] at ho26)); have n0_ := Aside0.mk (Kd.R_elder' (rO HO_3.out) (Kd.R_base ho26) hb); have n1_ := Aside0.mk (Kd.R_lower (Kd.R_new' ho26 (Kd.R_lt (rO HO_3.out))) (below_size (bO HB.out))); have n2_ := Aside0.mk (below_step (bO HB.out) hb); clear HO_3; clear HB; have HO_3 := n0_; have HO267 := n1_; have HB := n2_; clear n0_ n1_ n2_; clear hb ho26; obtain ⟨Ao28, co28, eo28⟩ := Kd.R_slice HO_3.out; subst eo28) | ((with_reducible refine gate_builtin (b := .append) (xs := #[.tmp 59, .tmp 60]) rfl ?_); (try (refine gate_guard (by rfl) ?_; dsimp only)); at_builtin; refine Kd.R_append_rows k31 (w0 := w) w.heap.size rfl (.tmp 59) (.tmp 60) 24 31 (.agg #[(.int .i64 0), (.int .i64 0), (.int .i64 0)]) 24 rfl Try.underlying24 info31 rfl (by decide) (by omega) v266 y265 t260 _ _ _ (fun k_ => some k_ ≠ (.slice Ao28 t260.length co28 : Value).ownBlock) (fun _ => False) rfl rfl ?aO ?aR (fun _ _ h => h) (fun _ h => h.elim) ?aF ?aB ?aS ?aL ?_; (case aR => exact cO (Kd.R_reads' HO_3.out).2.2); (case aB => exact (bO HB.out)); (case aF => exact (fun k_ hk => Kd.fresh' (Kd.R_lt (rO HO_3.out)) k_ hk)); (case aO => exact (by (with_reducible repeat (first | apply Kd.R_alloc | apply Kd.R_drewN | apply Kd.R_drew)); exact Kd.R_mono HO267.out (fun _ hk => hk.2))); (case aS => exact (below_size (bO HB.out))); (case aL => have := LMc22.out; omega); intro v269 w27 ho hb hg hat; rw [← Ny268.out] at ho; have n0_ := Aside0.mk (Kd.R_after (ok := (fun _ => True)) (rO HO_3.out) hg hat); have n1_ := Aside0.mk (hb); have n2_ := Aside0.mk (ho); clear HO_3; clear HB; clear HO267; have HO_3 := n0_; have HB := n1_; have HO270 := n2_; clear n0_ n1_ n2_; clear ho hb hg hat; obtain ⟨Ao29, co29, eo29⟩ := Kd.R_slice HO270.out; subst eo29) | (go_at_call 14; (with_reducible refine (row_Unpack.calls k2 _ _ y268 x5_6 t271 t272 _ ?side1 ?side2 A23.out).mono ?_); (case side1 => exact cO (Kd.R_reads' HO270.out).2.2); (case side2 => exact (Kd.R_reads' HO270.out).2.1); rintro e w30 ⟨v273, rfl, ho0, hb⟩; have n0_ := Aside0.mk (Kd.R_below (rO HO_3.out) hb); have n1_ := Aside0.mk (Kd.R_below (rO HO270.out) hb); have n2_ := Aside0.mk (Kd.R_lower ho0 (below_size (bO HB.out))); have n3_ := Aside0.mk (below_step (bO HB.out) hb); clear HO_3; clear HO270; clear HB; have HO_3 := n0_; have HO270 := n1_; have HO274 := n2_; have HB := n3_; clear n0_ n1_ n2_ n3_; (try clear hb); (try clear hb2); (try clear hk); (try clear hi); (try clear ho0)))
          repeat (go_quiet (first | ((with_reducible refine gate_dst (N := 59) rfl ?_); (try (refine gate_guard (by rfl) ?_; dsimp only)); refine Kd.R_lit k31 _ 31 ?hg (N := 59) ?hd (xs := ([] : List (S31))) (inner := []) (ok := fun _ => True) (okp := fun _ => True) ?hr ?hp (fun _ hk => hk) trivial (Below.refl _ _) (Nat.le_refl _) (by simp) ?_; (case hd => rfl); (case hg => rfl); (case hr => first | (go_simp; done) | (go_simp; rfl)); (case hp => exact (Reps.none _ _)); intro v266 w25 ho26 hb hg_ hnew_; clear hg_ hnew_; (first | rw [← Ny265.out] at ho26 | (simp only [Int.reduceToNat] at ho26; rw [← Ny265.out] at ho26)); have n0_ := Aside0.mk (Kd.R_elder' (rO HO_3.out) (Kd.R_base ho26) hb); have n1_ := Aside0.mk (Kd.R_lower (Kd.R_new' ho26 (Kd.R_lt (rO HO_3.out))) (below_size (bO HB.out))); have n2_ := Aside0.mk (below_step (bO HB.out) hb); clear HO_3; clear HB; have HO_3 := n0_; have HO267 := n1_; have HB := n2_; clear n0_ n1_ n2_; clear hb ho26; obtain ⟨Ao28, co28, eo28⟩ := Kd.R_slice HO_3.out; subst eo28) | ((with_reducible refine gate_builtin (b := .append) (xs := #[.tmp 59, .tmp 60]) rfl ?_); (try (refine gate_guard (by rfl) ?_; dsimp only)); at_builtin; refine Kd.R_append_rows k31 (w0 := w) w.heap.size rfl (.tmp 59) (.tmp 60) 24 31 (.agg #[(.int .i64 0), (.int .i64 0), (.int .i64 0)]) 24 rfl Try.underlying24 info31 rfl (by decide) (by omega) v266 y265 t260 _ _ _ (fun k_ => some k_ ≠ (.slice Ao28 t260.length co28 : Value).ownBlock) (fun _ => False) rfl rfl ?aO ?aR (fun _ _ h => h) (fun _ h => h.elim) ?aF ?aB ?aS ?aL ?_; (case aR => exact cO (Kd.R_reads' HO_3.out).2.2); (case aB => exact (bO HB.out)); (case aF => exact (fun k_ hk => Kd.fresh' (Kd.R_lt (rO HO_3.out)) k_ hk)); (case aO => exact (by (with_reducible repeat (first | apply Kd.R_alloc | apply Kd.R_drewN | apply Kd.R_drew)); exact Kd.R_mono HO267.out (fun _ hk => hk.2))); (case aS => exact (below_size (bO HB.out))); (case aL => have := LMc22.out; omega); intro v269 w27 ho hb hg hat; rw [← Ny268.out] at ho; have n0_ := Aside0.mk (Kd.R_after (ok := (fun _ => True)) (rO HO_3.out) hg hat); have n1_ := Aside0.mk (hb); have n2_ := Aside0.mk (ho); clear HO_3; clear HB; clear HO267; have HO_3 := n0_; have HB := n1_; have HO270 := n2_; clear n0_ n1_ n2_; clear ho hb hg hat; obtain ⟨Ao29, co29, eo29⟩ := Kd.R_slice HO270.out; subst eo29) | (go_at_call 14; (with_reducible refine (row_Unpack.calls k2 _ _ y268 x5_6 t271 t272 _ ?side1 ?side2 A23.out).mono ?_); (case side1 => exact cO (Kd.R_reads' HO270.out).2.2); (case side2 => exact (Kd.R_reads' HO270.out).2.1); rintro e w30 ⟨v273, rfl, ho0, hb⟩; have n0_ := Aside0.mk (Kd.R_below (rO HO_3.out) hb); have n1_ := Aside0.mk (Kd.R_below (rO HO270.out) hb); have n2_ := Aside0.mk (Kd.R_lower ho0 (below_size (bO HB.out))); have n3_ := Aside0.mk (below_step (bO HB.out) hb); clear HO_3; clear HO270; clear HB; have HO_3 := n0_; have HO270 := n1_; have HO274 := n2_; have HB := n3_; clear n0_ n1_ n2_ n3_; (try clear hb); (try clear hb2); (try clear hk); (try clear hi); (try clear ho0))); go_upto_region 15 with (first | ((with_reducible refine gate_dst (N := 59) rfl ?_); (try (refine gate_guard (by rfl) ?_; dsimp only)); refine Kd.R_lit k31 _ 31 ?hg (N := 59) ?hd (xs := ([] : List (S31))) (inner := []) (ok := fun _ => True) (okp := fun _ => True) ?hr ?hp (fun _ hk => hk) trivial (Below.refl _ _) (Nat.le_refl _) (by simp) ?_; (case hd => rfl); (case hg => rfl); (case hr => first | (go_simp; done) | (go_simp; rfl)); (case hp => exact (Reps.none _ _)); intro v266 w25 ho26 hb hg_ hnew_; clear hg_ hnew_; (first | rw [← Ny265.out] at ho26 | (simp only [Int.reduceToNat] at ho26; rw [← Ny265.out] at ho26)); have n0_ := Aside0.mk (Kd.R_elder' (rO HO_3.out) (Kd.R_base ho26) hb); have n1_ := Aside0.mk (Kd.R_lower (Kd.R_new' ho26 (Kd.R_lt (rO HO_3.out))) (below_size (bO HB.out))); have n2_ := Aside0.mk (below_step (bO HB.out) hb); clear HO_3; clear HB; have HO_3 := n0_; have HO267 := n1_; have HB := n2_; clear n0_ n1_ n2_; clear hb ho26; obtain ⟨Ao28, co28, eo28⟩ := Kd.R_slice HO_3.out; subst eo28) | ((with_reducible refine gate_builtin (b := .append) (xs := #[.tmp 59, .tmp 60]) rfl ?_); (try (refine gate_guard (by rfl) ?_; dsimp only)); at_builtin; refine Kd.R_append_rows k31 (w0 := w) w.heap.size rfl (.tmp 59) (.tmp 60) 24 31 (.agg #[(.int .i64 0), (.int .i64 0), (.int .i64 0)]) 24 rfl Try.underlying24 info31 rfl (by decide) (by omega) v266 y265 t260 _ _ _ (fun k_ => some k_ ≠ (.slice Ao28 t260.length co28 : Value).ownBlock) (fun _ => False) rfl rfl ?aO ?aR (fun _ _ h => h) (fun _ h => h.elim) ?aF ?aB ?aS ?aL ?_; (case aR => exact cO (Kd.R_reads' HO_3.out).2.2); (case aB => exact (bO HB.out)); (case aF => exact (fun k_ hk => Kd.fresh' (Kd.R_lt (rO HO_3.out)) k_ hk)); (case aO => exact (by (with_reducible repeat (first | apply Kd.R_alloc | apply Kd.R_drewN | apply Kd.R_drew)); exact Kd.R_mono HO267.out (fun _ hk => hk.2))); (case aS => exact (below_size (bO HB.out))); (case aL => have := LMc22.out; omega); intro v269 w27 ho hb hg hat; rw [← Ny268.out] at ho; have n0_ := Aside0.mk (Kd.R_after (ok := (fun _ => True)) (rO HO_3.out) hg hat); have n1_ := Aside0.mk (hb); have n2_ := Aside0.mk (ho); clear HO_3; clear HB; clear HO267; have HO_3 := n0_; have HB := n1_; have HO270 := n2_; clear n0_ n1_ n2_; clear ho hb hg hat; obtain ⟨Ao29, co29, eo29⟩ := Kd.R_slice HO270.out; subst eo29) | (go_at_call 14; (with_reducible refine (row_Unpack.calls k2 _ _ y268 x5_6 t271 t272 _ ?side1 ?side2 A23.out).mono ?_); (case side1 => exact cO (Kd.R_reads' HO270.out).2.2); (case side2 => exact (Kd.R_reads' HO270.out).2.1); rintro e w30 ⟨v273, rfl, ho0, hb⟩; have n0_ := Aside0.mk (Kd.R_below (rO HO_3.out) hb); have n1_ := Aside0.mk (Kd.R_below (rO HO270.out) hb); have n2_ := Aside0.mk (Kd.R_lower ho0 (below_size (bO HB.out))); have n3_ := Aside0.mk (below_step (bO HB.out) hb); clear HO_3; clear HO270; clear HB; have HO_3 := n0_; have HO270 := n1_; have HO274 := n2_; have HB := n3_; clear n0_ n1_ n2_ n3_; (try clear hb); (try clear hb2); (try clear hk); (try clear hi); (try clear ho0))))
          (try simp only [Act.put, List.setIfInBounds_toArray, List.set_cons_zero, List.set_cons_succ])
          go_cut [98] (fun v98 wc => ∃ (kq : Nat) (x98_23 : Bool), v98 = .bool x98_23 ∧ Aside0 (tabardlaw11_RowBack.j3 kq l0 t260 x98_23 = some r) ∧ Aside0 (kq ≤ k2) ∧ Aside0 (Kd.R k31 31 wc w.heap.size (fun _ => True) (.slice Ao28 t260.length co28) t260) ∧ Aside0 (Below w.heap.size w wc))
          case first =>
           have H := HC24.out
           clear HC24
           by_cases c31 : t272 = 0
           ·rw [if_pos c31] at H
            have c31b0 : (t272 == 0) = true := beq_iff_eq.mpr c31
            have c31b1 : (t272 != 0) = false := bne_eq_false_iff_eq.mpr c31
            clear c31
            (first | rw [c31b0] | (simp only [i64_w, i32_w]; rw [c31b0]) | skip)
            replace H := Option.bind_eq_some_iff.mp H
            obtain ⟨t275, A320, H⟩ := H
            replace H : (if t275 = true then (if (t260.length : Int) > (l0.length : Int) then (tabardlaw11_RowBack.j3 k2 l0 t260 true) else (if x6_2 < 4611686018427387904 then ((row_Right.f k2 t260 x5_6 (wrap64 (x6_2 + 1))).bind fun t276 => (if t276 = true then ((row_Right.f k2 t260 x5_6 x6_2).bind fun t277 => (tabardlaw11_RowBack.j3 k2 l0 t260 t277)) else (tabardlaw11_RowBack.j3 k2 l0 t260 true))) else ((row_Right.f k2 t260 x5_6 x6_2).bind fun t278 => (tabardlaw11_RowBack.j3 k2 l0 t260 t278)))) else (tabardlaw11_RowBack.j3 k2 l0 t260 true)) = some r := H
            have A32 := Aside0.mk A320
            clear A320
            by_cases c33 : t275 = true
            ·subst c33
             have H1 : (if (t260.length : Int) > (l0.length : Int) then (tabardlaw11_RowBack.j3 k2 l0 t260 true) else (if x6_2 < 4611686018427387904 then ((row_Right.f k2 t260 x5_6 (wrap64 (x6_2 + 1))).bind fun t276 => (if t276 = true then ((row_Right.f k2 t260 x5_6 x6_2).bind fun t277 => (tabardlaw11_RowBack.j3 k2 l0 t260 t277)) else (tabardlaw11_RowBack.j3 k2 l0 t260 true))) else ((row_Right.f k2 t260 x5_6 x6_2).bind fun t278 => (tabardlaw11_RowBack.j3 k2 l0 t260 t278)))) = some r := by rw [if_pos rfl] at H; exact H
             clear H
             have H := H1
             clear H1
             by_cases c34 : (t260.length : Int) > (l0.length : Int)
             ·rw [if_pos c34] at H
              have c34b0 : decide ((l0.length : Int) < (t260.length : Int)) = true := decide_eq_true c34
              have c34b1 : decide (l0.length < t260.length) = true := decide_eq_true (Int.ofNat_lt.mp c34)
              clear c34
              have H' := Aside0.mk H
              clear H
              obtain ⟨Ao35, co35, eo35⟩ := Kd.R_slice HO274.out
              subst eo35
              go_wp2_with (first | (go_at_call 11; (with_reducible refine (tabardlaw11_ints.calls k2 _ _ t271 _ _ l0 true _ ?side1 ?side2 ?side3 ?side4 A32.out).mono ?_); (case side1 => exact cO (Kd.R_reads' HO274.out).2.2); (case side2 => exact (Kd.R_reads' HO274.out).2.1); (case side3 => exact cO (Kd.C_below HR0.out HB.out)); (case side4 => exact HC0.out); rintro e w' ⟨rfl, ⟨nd, rfl⟩⟩; (try first | exact ⟨rfl, _, World.drewN_drewN _ _ _⟩ | exact ⟨rfl, _, Eq.trans (World.drewN_drewN _ _ _) (congrArg (World.drewN _) (Nat.add_assoc _ _ _))⟩)))
              repeat (go_quiet (first | (go_at_call 11; (with_reducible refine (tabardlaw11_ints.calls k2 _ _ t271 _ _ l0 true _ ?side1 ?side2 ?side3 ?side4 A32.out).mono ?_); (case side1 => exact cO (Kd.R_reads' HO274.out).2.2); (case side2 => exact (Kd.R_reads' HO274.out).2.1); (case side3 => exact cO (Kd.C_below HR0.out HB.out)); (case side4 => exact HC0.out); rintro e w' ⟨rfl, ⟨nd, rfl⟩⟩; (try first | exact ⟨rfl, _, World.drewN_drewN _ _ _⟩ | exact ⟨rfl, _, Eq.trans (World.drewN_drewN _ _ _) (congrArg (World.drewN _) (Nat.add_assoc _ _ _))⟩))); try go_wp2_with (first | (go_at_call 11; (with_reducible refine (tabardlaw11_ints.calls k2 _ _ t271 _ _ l0 true _ ?side1 ?side2 ?side3 ?side4 A32.out).mono ?_); (case side1 => exact cO (Kd.R_reads' HO274.out).2.2); (case side2 => exact (Kd.R_reads' HO274.out).2.1); (case side3 => exact cO (Kd.C_below HR0.out HB.out)); (case side4 => exact HC0.out); rintro e w' ⟨rfl, ⟨nd, rfl⟩⟩; (try first | exact ⟨rfl, _, World.drewN_drewN _ _ _⟩ | exact ⟨rfl, _, Eq.trans (World.drewN_drewN _ _ _) (congrArg (World.drewN _) (Nat.add_assoc _ _ _))⟩))))
              go_meet
              case rel => exact ⟨_, (true), (by first | rfl | (simp; done) | (simp [*]; done)), H', ⟨by have := HJ6.out; have := HK2.out; first | omega | exact Nat.le_refl _⟩, ⟨by (with_reducible repeat (first | apply Kd.R_alloc | apply Kd.R_drewN | apply Kd.R_drew)); exact Kd.R_mono HO_3.out (fun _ hk => trivial)⟩, ⟨bO HB.out⟩⟩
             ·rw [if_neg c34] at H
              have c34b0 : decide ((l0.length : Int) < (t260.length : Int)) = false := decide_eq_false c34
              have c34b1 : decide (l0.length < t260.length) = false := decide_eq_false (fun h => c34 (Int.ofNat_lt.mpr h))
              clear c34
              by_cases c36 : x6_2 < 4611686018427387904
              ·rw [if_pos c36] at H
               have c36b0 : decide (x6_2 < 4611686018427387904) = true := decide_eq_true c36
               clear c36
               replace H := Option.bind_eq_some_iff.mp H
               obtain ⟨t276, A370, H⟩ := H
               replace H : (if t276 = true then ((row_Right.f k2 t260 x5_6 x6_2).bind fun t277 => (tabardlaw11_RowBack.j3 k2 l0 t260 t277)) else (tabardlaw11_RowBack.j3 k2 l0 t260 true)) = some r := H
               have A37 := Aside0.mk A370
               clear A370
               by_cases c38 : t276 = true
               ·subst c38
                have H1 : ((row_Right.f k2 t260 x5_6 x6_2).bind fun t277 => (tabardlaw11_RowBack.j3 k2 l0 t260 t277)) = some r := by rw [if_pos rfl] at H; exact H
                clear H
                have H := H1
                clear H1
                replace H := Option.bind_eq_some_iff.mp H
                obtain ⟨t277, A390, H⟩ := H
                replace H : (tabardlaw11_RowBack.j3 k2 l0 t260 t277) = some r := H
                have A39 := Aside0.mk A390
                clear A390
                have H' := Aside0.mk H
                clear H
                obtain ⟨Ao40, co40, eo40⟩ := Kd.R_slice HO274.out
                subst eo40
                go_wp2_with (first | (go_at_call 11; (with_reducible refine (tabardlaw11_ints.calls k2 _ _ t271 _ _ l0 true _ ?side1 ?side2 ?side3 ?side4 A32.out).mono ?_); (case side1 => exact cO (Kd.R_reads' HO274.out).2.2); (case side2 => exact (Kd.R_reads' HO274.out).2.1); (case side3 => exact cO (Kd.C_below HR0.out HB.out)); (case side4 => exact HC0.out); rintro e w' ⟨rfl, ⟨nd, rfl⟩⟩; (try first | exact ⟨rfl, _, World.drewN_drewN _ _ _⟩ | exact ⟨rfl, _, Eq.trans (World.drewN_drewN _ _ _) (congrArg (World.drewN _) (Nat.add_assoc _ _ _))⟩)) | (go_at_call 18; (with_reducible refine (row_Right.calls k2 _ _ t260 x5_6 (wrap64 (x6_2 + 1)) true _ ?side1 ?side2 A37.out).mono ?_); (case side1 => exact cO (Kd.R_reads' HO_3.out).2.2); (case side2 => exact (Kd.R_reads' HO_3.out).2.1); rintro e w41 ⟨rfl, hb⟩; have n0_ := Aside0.mk (Kd.R_below (rO HO_3.out) hb); have n1_ := Aside0.mk (Kd.R_below (rO HO270.out) hb); have n2_ := Aside0.mk (Kd.R_below (rO HO274.out) hb); have n3_ := Aside0.mk (below_step (bO HB.out) hb); clear HO_3; clear HO270; clear HO274; clear HB; have HO_3 := n0_; have HO270 := n1_; have HO274 := n2_; have HB := n3_; clear n0_ n1_ n2_ n3_; (try clear hb); (try clear hb2); (try clear hk); (try clear hi)) | (go_at_call 18; (with_reducible refine (row_Right.calls k2 _ _ t260 x5_6 x6_2 t277 _ ?side1 ?side2 A39.out).mono ?_); (case side1 => exact cO (Kd.R_reads' HO_3.out).2.2); (case side2 => exact (Kd.R_reads' HO_3.out).2.1); rintro e w42 ⟨rfl, hb⟩; have n0_ := Aside0.mk (Kd.R_below (rO HO_3.out) hb); have n1_ := Aside0.mk (Kd.R_below (rO HO270.out) hb); have n2_ := Aside0.mk (Kd.R_below (rO HO274.out) hb); have n3_ := Aside0.mk (below_step (bO HB.out) hb); clear HO_3; clear HO270; clear HO274; clear HB; have HO_3 := n0_; have HO270 := n1_; have HO274 := n2_; have HB := n3_; clear n0_ n1_ n2_ n3_; (try clear hb); (try clear hb2); (try clear hk); (try clear hi)))
                repeat (go_quiet (first | (go_at_call 11; (with_reducible refine (tabardlaw11_ints.calls k2 _ _ t271 _ _ l0 true _ ?side1 ?side2 ?side3 ?side4 A32.out).mono ?_); (case side1 => exact cO (Kd.R_reads' HO274.out).2.2); (case side2 => exact (Kd.R_reads' HO274.out).2.1); (case side3 => exact cO (Kd.C_below HR0.out HB.out)); (case side4 => exact HC0.out); rintro e w' ⟨rfl, ⟨nd, rfl⟩⟩; (try first | exact ⟨rfl, _, World.drewN_drewN _ _ _⟩ | exact ⟨rfl, _, Eq.trans (World.drewN_drewN _ _ _) (congrArg (World.drewN _) (Nat.add_assoc _ _ _))⟩)) | (go_at_call 18; (with_reducible refine (row_Right.calls k2 _ _ t260 x5_6 (wrap64 (x6_2 + 1)) true _ ?side1 ?side2 A37.out).mono ?_); (case side1 => exact cO (Kd.R_reads' HO_3.out).2.2); (case side2 => exact (Kd.R_reads' HO_3.out).2.1); rintro e w41 ⟨rfl, hb⟩; have n0_ := Aside0.mk (Kd.R_below (rO HO_3.out) hb); have n1_ := Aside0.mk (Kd.R_below (rO HO270.out) hb); have n2_ := Aside0.mk (Kd.R_below (rO HO274.out) hb); have n3_ := Aside0.mk (below_step (bO HB.out) hb); clear HO_3; clear HO270; clear HO274; clear HB; have HO_3 := n0_; have HO270 := n1_; have HO274 := n2_; have HB := n3_; clear n0_ n1_ n2_ n3_; (try clear hb); (try clear hb2); (try clear hk); (try clear hi)) | (go_at_call 18; (with_reducible refine (row_Right.calls k2 _ _ t260 x5_6 x6_2 t277 _ ?side1 ?side2 A39.out).mono ?_); (case side1 => exact cO (Kd.R_reads' HO_3.out).2.2); (case side2 => exact (Kd.R_reads' HO_3.out).2.1); rintro e w42 ⟨rfl, hb⟩; have n0_ := Aside0.mk (Kd.R_below (rO HO_3.out) hb); have n1_ := Aside0.mk (Kd.R_below (rO HO270.out) hb); have n2_ := Aside0.mk (Kd.R_below (rO HO274.out) hb); have n3_ := Aside0.mk (below_step (bO HB.out) hb); clear HO_3; clear HO270; clear HO274; clear HB; have HO_3 := n0_; have HO270 := n1_; have HO274 := n2_; have HB := n3_; clear n0_ n1_ n2_ n3_; (try clear hb); (try clear hb2); (try clear hk); (try clear hi))); try go_wp2_with (first | (go_at_call 11; (with_reducible refine (tabardlaw11_ints.calls k2 _ _ t271 _ _ l0 true _ ?side1 ?side2 ?side3 ?side4 A32.out).mono ?_); (case side1 => exact cO (Kd.R_reads' HO274.out).2.2); (case side2 => exact (Kd.R_reads' HO274.out).2.1); (case side3 => exact cO (Kd.C_below HR0.out HB.out)); (case side4 => exact HC0.out); rintro e w' ⟨rfl, ⟨nd, rfl⟩⟩; (try first | exact ⟨rfl, _, World.drewN_drewN _ _ _⟩ | exact ⟨rfl, _, Eq.trans (World.drewN_drewN _ _ _) (congrArg (World.drewN _) (Nat.add_assoc _ _ _))⟩)) | (go_at_call 18; (with_reducible refine (row_Right.calls k2 _ _ t260 x5_6 (wrap64 (x6_2 + 1)) true _ ?side1 ?side2 A37.out).mono ?_); (case side1 => exact cO (Kd.R_reads' HO_3.out).2.2); (case side2 => exact (Kd.R_reads' HO_3.out).2.1); rintro e w41 ⟨rfl, hb⟩; have n0_ := Aside0.mk (Kd.R_below (rO HO_3.out) hb); have n1_ := Aside0.mk (Kd.R_below (rO HO270.out) hb); have n2_ := Aside0.mk (Kd.R_below (rO HO274.out) hb); have n3_ := Aside0.mk (below_step (bO HB.out) hb); clear HO_3; clear HO270; clear HO274; clear HB; have HO_3 := n0_; have HO270 := n1_; have HO274 := n2_; have HB := n3_; clear n0_ n1_ n2_ n3_; (try clear hb); (try clear hb2); (try clear hk); (try clear hi)) | (go_at_call 18; (with_reducible refine (row_Right.calls k2 _ _ t260 x5_6 x6_2 t277 _ ?side1 ?side2 A39.out).mono ?_); (case side1 => exact cO (Kd.R_reads' HO_3.out).2.2); (case side2 => exact (Kd.R_reads' HO_3.out).2.1); rintro e w42 ⟨rfl, hb⟩; have n0_ := Aside0.mk (Kd.R_below (rO HO_3.out) hb); have n1_ := Aside0.mk (Kd.R_below (rO HO270.out) hb); have n2_ := Aside0.mk (Kd.R_below (rO HO274.out) hb); have n3_ := Aside0.mk (below_step (bO HB.out) hb); clear HO_3; clear HO270; clear HO274; clear HB; have HO_3 := n0_; have HO270 := n1_; have HO274 := n2_; have HB := n3_; clear n0_ n1_ n2_ n3_; (try clear hb); (try clear hb2); (try clear hk); (try clear hi))))
                go_meet
                case rel => exact ⟨_, (t277), (by first | rfl | (simp; done) | (simp [*]; done)), H', ⟨by have := HJ6.out; have := HK2.out; first | omega | exact Nat.le_refl _⟩, ⟨by (with_reducible repeat (first | apply Kd.R_alloc | apply Kd.R_drewN | apply Kd.R_drew)); exact Kd.R_mono HO_3.out (fun _ hk => trivial)⟩, ⟨bO HB.out⟩⟩
               ·replace c38 := Bool.eq_false_iff.mpr c38
                subst c38
                have H1 : (tabardlaw11_RowBack.j3 k2 l0 t260 true) = some r := by rw [if_neg (show ¬ (false = true) by decide)] at H; exact H
                clear H
                have H := H1
                clear H1
                have H' := Aside0.mk H
                clear H
                obtain ⟨Ao43, co43, eo43⟩ := Kd.R_slice HO274.out
                subst eo43
                go_wp2_with (first | (go_at_call 11; (with_reducible refine (tabardlaw11_ints.calls k2 _ _ t271 _ _ l0 true _ ?side1 ?side2 ?side3 ?side4 A32.out).mono ?_); (case side1 => exact cO (Kd.R_reads' HO274.out).2.2); (case side2 => exact (Kd.R_reads' HO274.out).2.1); (case side3 => exact cO (Kd.C_below HR0.out HB.out)); (case side4 => exact HC0.out); rintro e w' ⟨rfl, ⟨nd, rfl⟩⟩; (try first | exact ⟨rfl, _, World.drewN_drewN _ _ _⟩ | exact ⟨rfl, _, Eq.trans (World.drewN_drewN _ _ _) (congrArg (World.drewN _) (Nat.add_assoc _ _ _))⟩)) | (go_at_call 18; (with_reducible refine (row_Right.calls k2 _ _ t260 x5_6 (wrap64 (x6_2 + 1)) false _ ?side1 ?side2 A37.out).mono ?_); (case side1 => exact cO (Kd.R_reads' HO_3.out).2.2); (case side2 => exact (Kd.R_reads' HO_3.out).2.1); rintro e w44 ⟨rfl, hb⟩; have n0_ := Aside0.mk (Kd.R_below (rO HO_3.out) hb); have n1_ := Aside0.mk (Kd.R_below (rO HO270.out) hb); have n2_ := Aside0.mk (Kd.R_below (rO HO274.out) hb); have n3_ := Aside0.mk (below_step (bO HB.out) hb); clear HO_3; clear HO270; clear HO274; clear HB; have HO_3 := n0_; have HO270 := n1_; have HO274 := n2_; have HB := n3_; clear n0_ n1_ n2_ n3_; (try clear hb); (try clear hb2); (try clear hk); (try clear hi)))
                repeat (go_quiet (first | (go_at_call 11; (with_reducible refine (tabardlaw11_ints.calls k2 _ _ t271 _ _ l0 true _ ?side1 ?side2 ?side3 ?side4 A32.out).mono ?_); (case side1 => exact cO (Kd.R_reads' HO274.out).2.2); (case side2 => exact (Kd.R_reads' HO274.out).2.1); (case side3 => exact cO (Kd.C_below HR0.out HB.out)); (case side4 => exact HC0.out); rintro e w' ⟨rfl, ⟨nd, rfl⟩⟩; (try first | exact ⟨rfl, _, World.drewN_drewN _ _ _⟩ | exact ⟨rfl, _, Eq.trans (World.drewN_drewN _ _ _) (congrArg (World.drewN _) (Nat.add_assoc _ _ _))⟩)) | (go_at_call 18; (with_reducible refine (row_Right.calls k2 _ _ t260 x5_6 (wrap64 (x6_2 + 1)) false _ ?side1 ?side2 A37.out).mono ?_); (case side1 => exact cO (Kd.R_reads' HO_3.out).2.2); (case side2 => exact (Kd.R_reads' HO_3.out).2.1); rintro e w44 ⟨rfl, hb⟩; have n0_ := Aside0.mk (Kd.R_below (rO HO_3.out) hb); have n1_ := Aside0.mk (Kd.R_below (rO HO270.out) hb); have n2_ := Aside0.mk (Kd.R_below (rO HO274.out) hb); have n3_ := Aside0.mk (below_step (bO HB.out) hb); clear HO_3; clear HO270; clear HO274; clear HB; have HO_3 := n0_; have HO270 := n1_; have HO274 := n2_; have HB := n3_; clear n0_ n1_ n2_ n3_; (try clear hb); (try clear hb2); (try clear hk); (try clear hi))); try go_wp2_with (first | (go_at_call 11; (with_reducible refine (tabardlaw11_ints.calls k2 _ _ t271 _ _ l0 true _ ?side1 ?side2 ?side3 ?side4 A32.out).mono ?_); (case side1 => exact cO (Kd.R_reads' HO274.out).2.2); (case side2 => exact (Kd.R_reads' HO274.out).2.1); (case side3 => exact cO (Kd.C_below HR0.out HB.out)); (case side4 => exact HC0.out); rintro e w' ⟨rfl, ⟨nd, rfl⟩⟩; (try first | exact ⟨rfl, _, World.drewN_drewN _ _ _⟩ | exact ⟨rfl, _, Eq.trans (World.drewN_drewN _ _ _) (congrArg (World.drewN _) (Nat.add_assoc _ _ _))⟩)) | (go_at_call 18; (with_reducible refine (row_Right.calls k2 _ _ t260 x5_6 (wrap64 (x6_2 + 1)) false _ ?side1 ?side2 A37.out).mono ?_); (case side1 => exact cO (Kd.R_reads' HO_3.out).2.2); (case side2 => exact (Kd.R_reads' HO_3.out).2.1); rintro e w44 ⟨rfl, hb⟩; have n0_ := Aside0.mk (Kd.R_below (rO HO_3.out) hb); have n1_ := Aside0.mk (Kd.R_below (rO HO270.out) hb); have n2_ := Aside0.mk (Kd.R_below (rO HO274.out) hb); have n3_ := Aside0.mk (below_step (bO HB.out) hb); clear HO_3; clear HO270; clear HO274; clear HB; have HO_3 := n0_; have HO270 := n1_; have HO274 := n2_; have HB := n3_; clear n0_ n1_ n2_ n3_; (try clear hb); (try clear hb2); (try clear hk); (try clear hi))))
                go_meet
                case rel => exact ⟨_, (true), (by first | rfl | (simp; done) | (simp [*]; done)), H', ⟨by have := HJ6.out; have := HK2.out; first | omega | exact Nat.le_refl _⟩, ⟨by (with_reducible repeat (first | apply Kd.R_alloc | apply Kd.R_drewN | apply Kd.R_drew)); exact Kd.R_mono HO_3.out (fun _ hk => trivial)⟩, ⟨bO HB.out⟩⟩
              ·rw [if_neg c36] at H
               have c36b0 : decide (x6_2 < 4611686018427387904) = false := decide_eq_false c36
               clear c36
               replace H := Option.bind_eq_some_iff.mp H
               obtain ⟨t278, A450, H⟩ := H
               replace H : (tabardlaw11_RowBack.j3 k2 l0 t260 t278) = some r := H
               have A45 := Aside0.mk A450
               clear A450
               have H' := Aside0.mk H
               clear H
               obtain ⟨Ao46, co46, eo46⟩ := Kd.R_slice HO274.out
               subst eo46
               go_wp2_with (first | (go_at_call 11; (with_reducible refine (tabardlaw11_ints.calls k2 _ _ t271 _ _ l0 true _ ?side1 ?side2 ?side3 ?side4 A32.out).mono ?_); (case side1 => exact cO (Kd.R_reads' HO274.out).2.2); (case side2 => exact (Kd.R_reads' HO274.out).2.1); (case side3 => exact cO (Kd.C_below HR0.out HB.out)); (case side4 => exact HC0.out); rintro e w' ⟨rfl, ⟨nd, rfl⟩⟩; (try first | exact ⟨rfl, _, World.drewN_drewN _ _ _⟩ | exact ⟨rfl, _, Eq.trans (World.drewN_drewN _ _ _) (congrArg (World.drewN _) (Nat.add_assoc _ _ _))⟩)) | (go_at_call 18; (with_reducible refine (row_Right.calls k2 _ _ t260 x5_6 x6_2 t278 _ ?side1 ?side2 A45.out).mono ?_); (case side1 => exact cO (Kd.R_reads' HO_3.out).2.2); (case side2 => exact (Kd.R_reads' HO_3.out).2.1); rintro e w47 ⟨rfl, hb⟩; have n0_ := Aside0.mk (Kd.R_below (rO HO_3.out) hb); have n1_ := Aside0.mk (Kd.R_below (rO HO270.out) hb); have n2_ := Aside0.mk (Kd.R_below (rO HO274.out) hb); have n3_ := Aside0.mk (below_step (bO HB.out) hb); clear HO_3; clear HO270; clear HO274; clear HB; have HO_3 := n0_; have HO270 := n1_; have HO274 := n2_; have HB := n3_; clear n0_ n1_ n2_ n3_; (try clear hb); (try clear hb2); (try clear hk); (try clear hi)))
               repeat (go_quiet (first | (go_at_call 11; (with_reducible refine (tabardlaw11_ints.calls k2 _ _ t271 _ _ l0 true _ ?side1 ?side2 ?side3 ?side4 A32.out).mono ?_); (case side1 => exact cO (Kd.R_reads' HO274.out).2.2); (case side2 => exact (Kd.R_reads' HO274.out).2.1); (case side3 => exact cO (Kd.C_below HR0.out HB.out)); (case side4 => exact HC0.out); rintro e w' ⟨rfl, ⟨nd, rfl⟩⟩; (try first | exact ⟨rfl, _, World.drewN_drewN _ _ _⟩ | exact ⟨rfl, _, Eq.trans (World.drewN_drewN _ _ _) (congrArg (World.drewN _) (Nat.add_assoc _ _ _))⟩)) | (go_at_call 18; (with_reducible refine (row_Right.calls k2 _ _ t260 x5_6 x6_2 t278 _ ?side1 ?side2 A45.out).mono ?_); (case side1 => exact cO (Kd.R_reads' HO_3.out).2.2); (case side2 => exact (Kd.R_reads' HO_3.out).2.1); rintro e w47 ⟨rfl, hb⟩; have n0_ := Aside0.mk (Kd.R_below (rO HO_3.out) hb); have n1_ := Aside0.mk (Kd.R_below (rO HO270.out) hb); have n2_ := Aside0.mk (Kd.R_below (rO HO274.out) hb); have n3_ := Aside0.mk (below_step (bO HB.out) hb); clear HO_3; clear HO270; clear HO274; clear HB; have HO_3 := n0_; have HO270 := n1_; have HO274 := n2_; have HB := n3_; clear n0_ n1_ n2_ n3_; (try clear hb); (try clear hb2); (try clear hk); (try clear hi))); try go_wp2_with (first | (go_at_call 11; (with_reducible refine (tabardlaw11_ints.calls k2 _ _ t271 _ _ l0 true _ ?side1 ?side2 ?side3 ?side4 A32.out).mono ?_); (case side1 => exact cO (Kd.R_reads' HO274.out).2.2); (case side2 => exact (Kd.R_reads' HO274.out).2.1); (case side3 => exact cO (Kd.C_below HR0.out HB.out)); (case side4 => exact HC0.out); rintro e w' ⟨rfl, ⟨nd, rfl⟩⟩; (try first | exact ⟨rfl, _, World.drewN_drewN _ _ _⟩ | exact ⟨rfl, _, Eq.trans (World.drewN_drewN _ _ _) (congrArg (World.drewN _) (Nat.add_assoc _ _ _))⟩)) | (go_at_call 18; (with_reducible refine (row_Right.calls k2 _ _ t260 x5_6 x6_2 t278 _ ?side1 ?side2 A45.out).mono ?_); (case side1 => exact cO (Kd.R_reads' HO_3.out).2.2); (case side2 => exact (Kd.R_reads' HO_3.out).2.1); rintro e w47 ⟨rfl, hb⟩; have n0_ := Aside0.mk (Kd.R_below (rO HO_3.out) hb); have n1_ := Aside0.mk (Kd.R_below (rO HO270.out) hb); have n2_ := Aside0.mk (Kd.R_below (rO HO274.out) hb); have n3_ := Aside0.mk (below_step (bO HB.out) hb); clear HO_3; clear HO270; clear HO274; clear HB; have HO_3 := n0_; have HO270 := n1_; have HO274 := n2_; have HB := n3_; clear n0_ n1_ n2_ n3_; (try clear hb); (try clear hb2); (try clear hk); (try clear hi))))
               go_meet
               case rel => exact ⟨_, (t278), (by first | rfl | (simp; done) | (simp [*]; done)), H', ⟨by have := HJ6.out; have := HK2.out; first | omega | exact Nat.le_refl _⟩, ⟨by (with_reducible repeat (first | apply Kd.R_alloc | apply Kd.R_drewN | apply Kd.R_drew)); exact Kd.R_mono HO_3.out (fun _ hk => trivial)⟩, ⟨bO HB.out⟩⟩
            ·replace c33 := Bool.eq_false_iff.mpr c33
             subst c33
             have H1 : (tabardlaw11_RowBack.j3 k2 l0 t260 true) = some r := by rw [if_neg (show ¬ (false = true) by decide)] at H; exact H
             clear H
             have H := H1
             clear H1
             have H' := Aside0.mk H
             clear H
             obtain ⟨Ao48, co48, eo48⟩ := Kd.R_slice HO274.out
             subst eo48
             go_wp2_with (first | (go_at_call 11; (with_reducible refine (tabardlaw11_ints.calls k2 _ _ t271 _ _ l0 false _ ?side1 ?side2 ?side3 ?side4 A32.out).mono ?_); (case side1 => exact cO (Kd.R_reads' HO274.out).2.2); (case side2 => exact (Kd.R_reads' HO274.out).2.1); (case side3 => exact cO (Kd.C_below HR0.out HB.out)); (case side4 => exact HC0.out); rintro e w' ⟨rfl, ⟨nd, rfl⟩⟩; (try first | exact ⟨rfl, _, World.drewN_drewN _ _ _⟩ | exact ⟨rfl, _, Eq.trans (World.drewN_drewN _ _ _) (congrArg (World.drewN _) (Nat.add_assoc _ _ _))⟩)))
             repeat (go_quiet (first | (go_at_call 11; (with_reducible refine (tabardlaw11_ints.calls k2 _ _ t271 _ _ l0 false _ ?side1 ?side2 ?side3 ?side4 A32.out).mono ?_); (case side1 => exact cO (Kd.R_reads' HO274.out).2.2); (case side2 => exact (Kd.R_reads' HO274.out).2.1); (case side3 => exact cO (Kd.C_below HR0.out HB.out)); (case side4 => exact HC0.out); rintro e w' ⟨rfl, ⟨nd, rfl⟩⟩; (try first | exact ⟨rfl, _, World.drewN_drewN _ _ _⟩ | exact ⟨rfl, _, Eq.trans (World.drewN_drewN _ _ _) (congrArg (World.drewN _) (Nat.add_assoc _ _ _))⟩))); try go_wp2_with (first | (go_at_call 11; (with_reducible refine (tabardlaw11_ints.calls k2 _ _ t271 _ _ l0 false _ ?side1 ?side2 ?side3 ?side4 A32.out).mono ?_); (case side1 => exact cO (Kd.R_reads' HO274.out).2.2); (case side2 => exact (Kd.R_reads' HO274.out).2.1); (case side3 => exact cO (Kd.C_below HR0.out HB.out)); (case side4 => exact HC0.out); rintro e w' ⟨rfl, ⟨nd, rfl⟩⟩; (try first | exact ⟨rfl, _, World.drewN_drewN _ _ _⟩ | exact ⟨rfl, _, Eq.trans (World.drewN_drewN _ _ _) (congrArg (World.drewN _) (Nat.add_assoc _ _ _))⟩))))
             go_meet
             case rel => exact ⟨_, (true), (by first | rfl | (simp; done) | (simp [*]; done)), H', ⟨by have := HJ6.out; have := HK2.out; first | omega | exact Nat.le_refl _⟩, ⟨by (with_reducible repeat (first | apply Kd.R_alloc | apply Kd.R_drewN | apply Kd.R_drew)); exact Kd.R_mono HO_3.out (fun _ hk => trivial)⟩, ⟨bO HB.out⟩⟩
           ·rw [if_neg c31] at H
            have c31b0 : (t272 == 0) = false := beq_eq_false_iff_ne.mpr c31
            have c31b1 : (t272 != 0) = true := bne_iff_ne.mpr c31
            (first | rw [c31b0] | (simp only [i64_w, i32_w]; rw [c31b0]) | skip)
            have H' := Aside0.mk H
            clear H
            go_wp2
            repeat (go_quiet (fail); try go_wp2)
            go_meet
            case rel => exact ⟨_, (true), (by first | rfl | (simp; done) | (simp [*]; done)), H', ⟨by have := HJ6.out; have := HK2.out; first | omega | exact Nat.le_refl _⟩, ⟨by (with_reducible repeat (first | apply Kd.R_alloc | apply Kd.R_drewN | apply Kd.R_drew)); exact Kd.R_mono HO_3.out (fun _ hk => trivial)⟩, ⟨bO HB.out⟩⟩
          case rest =>
           clear HC24
           try clear c1
           try clear c2
           try clear p2
           try clear q2
           try clear hx2
           try clear c3
           try clear c4
           try clear c6
           try clear c6b0
           try clear c6b1
           try clear p6
           try clear c7
           try clear c14
           try clear c14b0
           try clear c14b1
           try clear c16
           try clear c16b0
           try clear c17
           try clear c17b0
           try clear c18
           try clear c18b0
           try clear c19
           try clear c19b0
           try clear c20
           try clear c20b0
           try clear c22
           try clear p26
           try clear q26
           try clear hx26
           try clear c31
           try clear c31b0
           try clear c31b1
           try clear c33
           try clear c34
           try clear c34b0
           try clear c34b1
           try clear c36
           try clear c36b0
           try clear c38
           try clear hx264_0
           try clear p2
           try clear p264
           try clear p6
           try clear q264
           obtain ⟨kq, x98_23, rfl, HA, HJ23, HO_3, HB⟩ := hcut
           cases kq with
           | zero => exact absurd HA.out (by simp [tabardlaw11_RowBack.j3])
           | succ kj23 =>
            have H := HA.out
            clear HA
            simp only [tabardlaw11_RowBack.j3] at H
            by_cases c49 : x98_23 = true
            ·subst c49
             have H1 : (some false) = some r := by rw [if_pos rfl] at H; exact H
             clear H
             have H := H1
             clear H1
             obtain rfl := Option.some.inj H
             go_wp2
             repeat (go_quiet (fail); try go_wp2)
             go_ret
             exact ⟨by first | rfl | (simp [errW_none, errW_some] <;> rfl) | (simp [*, errW_none, errW_some] <;> rfl), bO HB.out⟩
            ·replace c49 := Bool.eq_false_iff.mpr c49
             subst c49
             have H1 : (tabardlaw11_RowBack.l2 kj23 l0 t260 t260 (t260.length : Int) 0) = some r := by rw [if_neg (show ¬ (false = true) by decide)] at H; exact H
             clear H
             have H := H1
             clear H1
             have H' := Aside0.mk H
             clear H
             go_wp2
             repeat (go_quiet (fail); try go_wp2)
             go_loopg [101] kj23 (fun kq v101 w' => ∃ (x101_4 : Int), v101 = .int .i64 x101_4 ∧ Aside0 (tabardlaw11_RowBack.l2 kq l0 t260 t260 (t260.length : Int) x101_4 = some r) ∧ Aside0 (kq ≤ kj23) ∧ Aside0 (Kd.R k31 31 w' w.heap.size (fun _ => True) (.slice Ao28 t260.length co28) t260) ∧ Aside0 (Kd.R k31 31 w' w.heap.size (fun _ => True) (.slice Ao28 t260.length co28) t260) ∧ Aside0 (Below w.heap.size w w'))
             case atStart => exact ⟨(0), (by first | rfl | (simp; done) | (simp [*]; done)), H', ⟨Nat.le_refl _⟩, ⟨rO HO_3.out⟩, ⟨rO HO_3.out⟩, ⟨bO HB.out⟩⟩
             case round =>
              clear H'
              try clear c1
              try clear c2
              try clear p2
              try clear q2
              try clear hx2
              try clear c3
              try clear c4
              try clear c6
              try clear c6b0
              try clear c6b1
              try clear p6
              try clear c7
              try clear c14
              try clear c14b0
              try clear c14b1
              try clear c16
              try clear c16b0
              try clear c17
              try clear c17b0
              try clear c18
              try clear c18b0
              try clear c19
              try clear c19b0
              try clear c20
              try clear c20b0
              try clear c22
              try clear p26
              try clear q26
              try clear hx26
              try clear c31
              try clear c31b0
              try clear c31b1
              try clear c33
              try clear c34
              try clear c34b0
              try clear c34b1
              try clear c36
              try clear c36b0
              try clear c38
              try clear c49
              try clear hx264_0
              try clear p2
              try clear p26
              try clear p264
              try clear p6
              try clear q2
              try clear q26
              try clear q264
              obtain ⟨x101_4, rfl, HA, HK4, HO_3, HO_99, HB⟩ := hrel
              cases gk with
              | zero => exact absurd HA.out (by simp [tabardlaw11_RowBack.l2])
              | succ k4 =>
               have H := HA.out
               clear HA
               simp only [tabardlaw11_RowBack.l2] at H
               by_cases c50 : x101_4 < (t260.length : Int)
               ·rw [if_pos c50] at H
                have c50b0 : decide (x101_4 < (t260.length : Int)) = true := decide_eq_true c50
                clear c50
                by_cases c51 : 0 ≤ x101_4
                ·rw [if_pos c51] at H
                 have c51b0 : decide (0 ≤ x101_4) = true := decide_eq_true c51
                 clear c51
                 by_cases c52 : x101_4 < (t260.length : Int)
                 ·rw [if_pos c52] at H
                  have c52b0 : decide (x101_4 < (t260.length : Int)) = true := decide_eq_true c52
                  clear c52
                  by_cases c53 : (Go.bits .andNot .i64 ((rd_T31 t260 x101_4).f1) ((rd_T31 t260 x101_4).f0)) = 0
                  ·rw [if_pos c53] at H
                   have c53b0 : ((Go.bits .andNot .i64 ((rd_T31 t260 x101_4).f1) ((rd_T31 t260 x101_4).f0)) == 0) = true := beq_iff_eq.mpr c53
                   have c53b1 : ((Go.bits .andNot .i64 ((rd_T31 t260 x101_4).f1) ((rd_T31 t260 x101_4).f0)) != 0) = false := bne_eq_false_iff_eq.mpr c53
                   clear c53
                   by_cases c54 : ((rd_T31 t260 x101_4).f0) < 0
                   ·rw [if_pos c54] at H
                    have c54b0 : decide (((rd_T31 t260 x101_4).f0) < 0) = true := decide_eq_true c54
                    clear c54
                    obtain rfl := Option.some.inj H
                    have p279 : 0 ≤ (x101_4 : Int) := of_decide_eq_true aO
                    have q279 : x101_4 < (t260.length : Int) := of_decide_eq_true aO
                    obtain ⟨ad279, e279, hx279_0, hx279_1, hx279_2⟩ := at_T31 (Kd.R_reads' HO_99.out).2.2 x101_4 p279 q279
                    cases e279
                    replace p279 := eq_true p279
                    replace q279 := eq_true q279
                    go_wp2_with (first | ((with_reducible refine gate_dst (N := 11) rfl ?_); (try (refine gate_guard (by rfl) ?_; dsimp only)); refine box_event ?hg (N := 11) ?hd (cs := #[.int .i64 0, .int .i64 0, .int .i64 0]) (t := 31) ?hr ?_; (case hd => rfl); (case hg => rfl); (case hr => first | (go_simp; done) | (go_simp; rfl)); intro gb280 hg w55 hbox hb; have n0_ := Aside0.mk (Kd.R_below (Kd.R_elderB (rO HO_3.out) gb280 (Nat.le_of_eq hg.symm)) hb); have n1_ := Aside0.mk (Kd.R_below (Kd.R_elderB (rO HO_99.out) gb280 (Nat.le_of_eq hg.symm)) hb); have n2_ := Aside0.mk (below_step (bO HB.out) hb); have n3_ := Aside0.mk (hbox); have n4_ := Aside0.mk ((by rw [hg]; exact (below_size (bO HB.out)) : w.heap.size ≤ gb280)); have n5_ := Aside0.mk ((by rw [hg]; exact (below_size (bO HB.out)) : w.heap.size ≤ gb280)); clear HO_3; clear HO_99; clear HB; have HO_3 := n0_; have HO_99 := n1_; have HB := n2_; have BK280 := n3_; have GW280 := n4_; have GE280 := n5_; clear n0_ n1_ n2_ n3_ n4_ n5_; (try have hxb279_0 := pw_cell_below hb hx279_0); (try have hxb279_1 := pw_cell_below hb hx279_1); (try have hxb279_2 := pw_cell_below hb hx279_2); clear hb hbox hg; have hcz56_0 : w55.cell? ⟨gb280, 0, none⟩ = some (.int .i64 0) := (blk_cell BK280.out 0).trans rfl; have hcz56_1 : w55.cell? ⟨gb280, 1, none⟩ = some (.int .i64 0) := (blk_cell BK280.out 1).trans rfl; have hcz56_2 : w55.cell? ⟨gb280, 2, none⟩ = some (.int .i64 0) := (blk_cell BK280.out 2).trans rfl; have hfz56_0 := blk_frozen BK280.out 0; have hfz56_1 := blk_frozen BK280.out 1; have hfz56_2 := blk_frozen BK280.out 2))
                    repeat (go_quiet (first | ((with_reducible refine gate_dst (N := 11) rfl ?_); (try (refine gate_guard (by rfl) ?_; dsimp only)); refine box_event ?hg (N := 11) ?hd (cs := #[.int .i64 0, .int .i64 0, .int .i64 0]) (t := 31) ?hr ?_; (case hd => rfl); (case hg => rfl); (case hr => first | (go_simp; done) | (go_simp; rfl)); intro gb280 hg w55 hbox hb; have n0_ := Aside0.mk (Kd.R_below (Kd.R_elderB (rO HO_3.out) gb280 (Nat.le_of_eq hg.symm)) hb); have n1_ := Aside0.mk (Kd.R_below (Kd.R_elderB (rO HO_99.out) gb280 (Nat.le_of_eq hg.symm)) hb); have n2_ := Aside0.mk (below_step (bO HB.out) hb); have n3_ := Aside0.mk (hbox); have n4_ := Aside0.mk ((by rw [hg]; exact (below_size (bO HB.out)) : w.heap.size ≤ gb280)); have n5_ := Aside0.mk ((by rw [hg]; exact (below_size (bO HB.out)) : w.heap.size ≤ gb280)); clear HO_3; clear HO_99; clear HB; have HO_3 := n0_; have HO_99 := n1_; have HB := n2_; have BK280 := n3_; have GW280 := n4_; have GE280 := n5_; clear n0_ n1_ n2_ n3_ n4_ n5_; (try have hxb279_0 := pw_cell_below hb hx279_0); (try have hxb279_1 := pw_cell_below hb hx279_1); (try have hxb279_2 := pw_cell_below hb hx279_2); clear hb hbox hg; have hcz56_0 : w55.cell? ⟨gb280, 0, none⟩ = some (.int .i64 0) := (blk_cell BK280.out 0).trans rfl; have hcz56_1 : w55.cell? ⟨gb280, 1, none⟩ = some (.int .i64 0) := (blk_cell BK280.out 1).trans rfl; have hcz56_2 : w55.cell? ⟨gb280, 2, none⟩ = some (.int .i64 0) := (blk_cell BK280.out 2).trans rfl; have hfz56_0 := blk_frozen BK280.out 0; have hfz56_1 := blk_frozen BK280.out 1; have hfz56_2 := blk_frozen BK280.out 2)); try go_wp2_with (first | ((with_reducible refine gate_dst (N := 11) rfl ?_); (try (refine gate_guard (by rfl) ?_; dsimp only)); refine box_event ?hg (N := 11) ?hd (cs := #[.int .i64 0, .int .i64 0, .int .i64 0]) (t := 31) ?hr ?_; (case hd => rfl); (case hg => rfl); (case hr => first | (go_simp; done) | (go_simp; rfl)); intro gb280 hg w55 hbox hb; have n0_ := Aside0.mk (Kd.R_below (Kd.R_elderB (rO HO_3.out) gb280 (Nat.le_of_eq hg.symm)) hb); have n1_ := Aside0.mk (Kd.R_below (Kd.R_elderB (rO HO_99.out) gb280 (Nat.le_of_eq hg.symm)) hb); have n2_ := Aside0.mk (below_step (bO HB.out) hb); have n3_ := Aside0.mk (hbox); have n4_ := Aside0.mk ((by rw [hg]; exact (below_size (bO HB.out)) : w.heap.size ≤ gb280)); have n5_ := Aside0.mk ((by rw [hg]; exact (below_size (bO HB.out)) : w.heap.size ≤ gb280)); clear HO_3; clear HO_99; clear HB; have HO_3 := n0_; have HO_99 := n1_; have HB := n2_; have BK280 := n3_; have GW280 := n4_; have GE280 := n5_; clear n0_ n1_ n2_ n3_ n4_ n5_; (try have hxb279_0 := pw_cell_below hb hx279_0); (try have hxb279_1 := pw_cell_below hb hx279_1); (try have hxb279_2 := pw_cell_below hb hx279_2); clear hb hbox hg; have hcz56_0 : w55.cell? ⟨gb280, 0, none⟩ = some (.int .i64 0) := (blk_cell BK280.out 0).trans rfl; have hcz56_1 : w55.cell? ⟨gb280, 1, none⟩ = some (.int .i64 0) := (blk_cell BK280.out 1).trans rfl; have hcz56_2 : w55.cell? ⟨gb280, 2, none⟩ = some (.int .i64 0) := (blk_cell BK280.out 2).trans rfl; have hfz56_0 := blk_frozen BK280.out 0; have hfz56_1 := blk_frozen BK280.out 1; have hfz56_2 := blk_frozen BK280.out 2)))
                    go_ret
                    exact ⟨by first | rfl | (simp [errW_none, errW_some] <;> rfl) | (simp [*, errW_none, errW_some] <;> rfl), by repeat (first | (with_reducible first | exact HB.out | apply below_alloc | apply pw_below_drewN | apply below_drew1 | refine below_set ?_ GE280.out) | exact HB.out)⟩
                   ·rw [if_neg c54] at H
                    have c54b0 : decide (((rd_T31 t260 x101_4).f0) < 0) = false := decide_eq_false c54
                    clear c54
                    by_cases c57 : ((rd_T31 t260 x101_4).f0) ≥ (l0.length : Int)
                    ·rw [if_pos c57] at H
                     have c57b0 : decide ((l0.length : Int) ≤ ((rd_T31 t260 x101_4).f0)) = true := decide_eq_true c57
                     clear c57
                     obtain rfl := Option.some.inj H
                     have p279 : 0 ≤ (x101_4 : Int) := of_decide_eq_true aO
                     have q279 : x101_4 < (t260.length : Int) := of_decide_eq_true aO
                     obtain ⟨ad279, e279, hx279_0, hx279_1, hx279_2⟩ := at_T31 (Kd.R_reads' HO_99.out).2.2 x101_4 p279 q279
                     cases e279
                     replace p279 := eq_true p279
                     replace q279 := eq_true q279
                     go_wp2_with (first | ((with_reducible refine gate_dst (N := 11) rfl ?_); (try (refine gate_guard (by rfl) ?_; dsimp only)); refine box_event ?hg (N := 11) ?hd (cs := #[.int .i64 0, .int .i64 0, .int .i64 0]) (t := 31) ?hr ?_; (case hd => rfl); (case hg => rfl); (case hr => first | (go_simp; done) | (go_simp; rfl)); intro gb280 hg w58 hbox hb; have n0_ := Aside0.mk (Kd.R_below (Kd.R_elderB (rO HO_3.out) gb280 (Nat.le_of_eq hg.symm)) hb); have n1_ := Aside0.mk (Kd.R_below (Kd.R_elderB (rO HO_99.out) gb280 (Nat.le_of_eq hg.symm)) hb); have n2_ := Aside0.mk (below_step (bO HB.out) hb); have n3_ := Aside0.mk (hbox); have n4_ := Aside0.mk ((by rw [hg]; exact (below_size (bO HB.out)) : w.heap.size ≤ gb280)); have n5_ := Aside0.mk ((by rw [hg]; exact (below_size (bO HB.out)) : w.heap.size ≤ gb280)); clear HO_3; clear HO_99; clear HB; have HO_3 := n0_; have HO_99 := n1_; have HB := n2_; have BK280 := n3_; have GW280 := n4_; have GE280 := n5_; clear n0_ n1_ n2_ n3_ n4_ n5_; (try have hxb279_0 := pw_cell_below hb hx279_0); (try have hxb279_1 := pw_cell_below hb hx279_1); (try have hxb279_2 := pw_cell_below hb hx279_2); (try have hxb279_0 := pw_cell_below hb hx279_0); (try have hxb279_1 := pw_cell_below hb hx279_1); (try have hxb279_2 := pw_cell_below hb hx279_2); clear hb hbox hg; have hcz59_0 : w58.cell? ⟨gb280, 0, none⟩ = some (.int .i64 0) := (blk_cell BK280.out 0).trans rfl; have hcz59_1 : w58.cell? ⟨gb280, 1, none⟩ = some (.int .i64 0) := (blk_cell BK280.out 1).trans rfl; have hcz59_2 : w58.cell? ⟨gb280, 2, none⟩ = some (.int .i64 0) := (blk_cell BK280.out 2).trans rfl; have hfz59_0 := blk_frozen BK280.out 0; have hfz59_1 := blk_frozen BK280.out 1; have hfz59_2 := blk_frozen BK280.out 2))
                     repeat (go_quiet (first | ((with_reducible refine gate_dst (N := 11) rfl ?_); (try (refine gate_guard (by rfl) ?_; dsimp only)); refine box_event ?hg (N := 11) ?hd (cs := #[.int .i64 0, .int .i64 0, .int .i64 0]) (t := 31) ?hr ?_; (case hd => rfl); (case hg => rfl); (case hr => first | (go_simp; done) | (go_simp; rfl)); intro gb280 hg w58 hbox hb; have n0_ := Aside0.mk (Kd.R_below (Kd.R_elderB (rO HO_3.out) gb280 (Nat.le_of_eq hg.symm)) hb); have n1_ := Aside0.mk (Kd.R_below (Kd.R_elderB (rO HO_99.out) gb280 (Nat.le_of_eq hg.symm)) hb); have n2_ := Aside0.mk (below_step (bO HB.out) hb); have n3_ := Aside0.mk (hbox); have n4_ := Aside0.mk ((by rw [hg]; exact (below_size (bO HB.out)) : w.heap.size ≤ gb280)); have n5_ := Aside0.mk ((by rw [hg]; exact (below_size (bO HB.out)) : w.heap.size ≤ gb280)); clear HO_3; clear HO_99; clear HB; have HO_3 := n0_; have HO_99 := n1_; have HB := n2_; have BK280 := n3_; have GW280 := n4_; have GE280 := n5_; clear n0_ n1_ n2_ n3_ n4_ n5_; (try have hxb279_0 := pw_cell_below hb hx279_0); (try have hxb279_1 := pw_cell_below hb hx279_1); (try have hxb279_2 := pw_cell_below hb hx279_2); (try have hxb279_0 := pw_cell_below hb hx279_0); (try have hxb279_1 := pw_cell_below hb hx279_1); (try have hxb279_2 := pw_cell_below hb hx279_2); clear hb hbox hg; have hcz59_0 : w58.cell? ⟨gb280, 0, none⟩ = some (.int .i64 0) := (blk_cell BK280.out 0).trans rfl; have hcz59_1 : w58.cell? ⟨gb280, 1, none⟩ = some (.int .i64 0) := (blk_cell BK280.out 1).trans rfl; have hcz59_2 : w58.cell? ⟨gb280, 2, none⟩ = some (.int .i64 0) := (blk_cell BK280.out 2).trans rfl; have hfz59_0 := blk_frozen BK280.out 0; have hfz59_1 := blk_frozen BK280.out 1; have hfz59_2 := blk_frozen BK280.out 2)); try go_wp2_with (first | ((with_reducible refine gate_dst (N := 11) rfl ?_); (try (refine gate_guard (by rfl) ?_; dsimp only)); refine box_event ?hg (N := 11) ?hd (cs := #[.int .i64 0, .int .i64 0, .int .i64 0]) (t := 31) ?hr ?_; (case hd => rfl); (case hg => rfl); (case hr => first | (go_simp; done) | (go_simp; rfl)); intro gb280 hg w58 hbox hb; have n0_ := Aside0.mk (Kd.R_below (Kd.R_elderB (rO HO_3.out) gb280 (Nat.le_of_eq hg.symm)) hb); have n1_ := Aside0.mk (Kd.R_below (Kd.R_elderB (rO HO_99.out) gb280 (Nat.le_of_eq hg.symm)) hb); have n2_ := Aside0.mk (below_step (bO HB.out) hb); have n3_ := Aside0.mk (hbox); have n4_ := Aside0.mk ((by rw [hg]; exact (below_size (bO HB.out)) : w.heap.size ≤ gb280)); have n5_ := Aside0.mk ((by rw [hg]; exact (below_size (bO HB.out)) : w.heap.size ≤ gb280)); clear HO_3; clear HO_99; clear HB; have HO_3 := n0_; have HO_99 := n1_; have HB := n2_; have BK280 := n3_; have GW280 := n4_; have GE280 := n5_; clear n0_ n1_ n2_ n3_ n4_ n5_; (try have hxb279_0 := pw_cell_below hb hx279_0); (try have hxb279_1 := pw_cell_below hb hx279_1); (try have hxb279_2 := pw_cell_below hb hx279_2); (try have hxb279_0 := pw_cell_below hb hx279_0); (try have hxb279_1 := pw_cell_below hb hx279_1); (try have hxb279_2 := pw_cell_below hb hx279_2); clear hb hbox hg; have hcz59_0 : w58.cell? ⟨gb280, 0, none⟩ = some (.int .i64 0) := (blk_cell BK280.out 0).trans rfl; have hcz59_1 : w58.cell? ⟨gb280, 1, none⟩ = some (.int .i64 0) := (blk_cell BK280.out 1).trans rfl; have hcz59_2 : w58.cell? ⟨gb280, 2, none⟩ = some (.int .i64 0) := (blk_cell BK280.out 2).trans rfl; have hfz59_0 := blk_frozen BK280.out 0; have hfz59_1 := blk_frozen BK280.out 1; have hfz59_2 := blk_frozen BK280.out 2)))
                     go_ret
                     exact ⟨by first | rfl | (simp [errW_none, errW_some] <;> rfl) | (simp [*, errW_none, errW_some] <;> rfl), by repeat (first | (with_reducible first | exact HB.out | apply below_alloc | apply pw_below_drewN | apply below_drew1 | refine below_set ?_ GE280.out) | exact HB.out)⟩
                    ·rw [if_neg c57] at H
                     have c57b0 : decide ((l0.length : Int) ≤ ((rd_T31 t260 x101_4).f0)) = false := decide_eq_false c57
                     clear c57
                     by_cases c60 : x101_4 > 0
                     ·rw [if_pos c60] at H
                      have c60b0 : decide (0 < x101_4) = true := decide_eq_true c60
                      clear c60
                      obtain ⟨ji61, hji61⟩ : ∃ j_ : Int, (wrap64 (x101_4 - 1)) = j_ := ⟨_, rfl⟩
                      replace H : (if 0 ≤ (ji61) then (if (ji61) < (t260.length : Int) then (if ((rd_T31 t260 (ji61)).f1) ≥ ((rd_T31 t260 x101_4).f1) then (some false) else (tabardlaw11_RowBack.l2 k4 l0 t260 t260 (t260.length : Int) (wrap64 (x101_4 + 1)))) else (none)) else (none)) = some r := by first | (rw [hji61] at H; exact H) | (simp only [hji61] at H ⊢; exact H)
                      have hji61w : (IntKind.i64.wrap (x101_4 - 1)) = ji61 := (i64_w _).trans hji61
                      by_cases c62 : 0 ≤ (ji61)
                      ·rw [if_pos c62] at H
                       have c62b0 : decide (0 ≤ (ji61)) = true := decide_eq_true c62
                       clear c62
                       by_cases c63 : (ji61) < (t260.length : Int)
                       ·rw [if_pos c63] at H
                        have c63b0 : decide ((ji61) < (t260.length : Int)) = true := decide_eq_true c63
                        clear c63
                        by_cases c64 : ((rd_T31 t260 (ji61)).f1) ≥ ((rd_T31 t260 x101_4).f1)
                        ·rw [if_pos c64] at H
                         have c64b0 : decide (((rd_T31 t260 x101_4).f1) ≤ ((rd_T31 t260 (ji61)).f1)) = true := decide_eq_true c64
                         clear c64
                         obtain rfl := Option.some.inj H
                         have p279 : 0 ≤ (x101_4 : Int) := of_decide_eq_true aO
                         have q279 : x101_4 < (t260.length : Int) := of_decide_eq_true aO
                         obtain ⟨ad279, e279, hx279_0, hx279_1, hx279_2⟩ := at_T31 (Kd.R_reads' HO_99.out).2.2 x101_4 p279 q279
                         cases e279
                         replace p279 := eq_true p279
                         replace q279 := eq_true q279
                         go_wp2_with (first | ((with_reducible refine gate_dst (N := 11) rfl ?_); (try (refine gate_guard (by rfl) ?_; dsimp only)); refine box_event ?hg (N := 11) ?hd (cs := #[.int .i64 0, .int .i64 0, .int .i64 0]) (t := 31) ?hr ?_; (case hd => rfl); (case hg => rfl); (case hr => first | (go_simp; done) | (go_simp; rfl)); intro gb280 hg w65 hbox hb; have n0_ := Aside0.mk (Kd.R_below (Kd.R_elderB (rO HO_3.out) gb280 (Nat.le_of_eq hg.symm)) hb); have n1_ := Aside0.mk (Kd.R_below (Kd.R_elderB (rO HO_99.out) gb280 (Nat.le_of_eq hg.symm)) hb); have n2_ := Aside0.mk (below_step (bO HB.out) hb); have n3_ := Aside0.mk (hbox); have n4_ := Aside0.mk ((by rw [hg]; exact (below_size (bO HB.out)) : w.heap.size ≤ gb280)); have n5_ := Aside0.mk ((by rw [hg]; exact (below_size (bO HB.out)) : w.heap.size ≤ gb280)); clear HO_3; clear HO_99; clear HB; have HO_3 := n0_; have HO_99 := n1_; have HB := n2_; have BK280 := n3_; have GW280 := n4_; have GE280 := n5_; clear n0_ n1_ n2_ n3_ n4_ n5_; (try have hxb279_0 := pw_cell_below hb hx279_0); (try have hxb279_1 := pw_cell_below hb hx279_1); (try have hxb279_2 := pw_cell_below hb hx279_2); (try have hxb279_0 := pw_cell_below hb hx279_0); (try have hxb279_1 := pw_cell_below hb hx279_1); (try have hxb279_2 := pw_cell_below hb hx279_2); (try have hxb279_0 := pw_cell_below hb hx279_0); (try have hxb279_1 := pw_cell_below hb hx279_1); (try have hxb279_2 := pw_cell_below hb hx279_2); clear hb hbox hg; have hcz66_0 : w65.cell? ⟨gb280, 0, none⟩ = some (.int .i64 0) := (blk_cell BK280.out 0).trans rfl; have hcz66_1 : w65.cell? ⟨gb280, 1, none⟩ = some (.int .i64 0) := (blk_cell BK280.out 1).trans rfl; have hcz66_2 : w65.cell? ⟨gb280, 2, none⟩ = some (.int .i64 0) := (blk_cell BK280.out 2).trans rfl; have hfz66_0 := blk_frozen BK280.out 0; have hfz66_1 := blk_frozen BK280.out 1; have hfz66_2 := blk_frozen BK280.out 2; have p281 : 0 ≤ ((ji61) : Int) := of_decide_eq_true aO; have q281 : (ji61) < (t260.length : Int) := of_decide_eq_true aO; obtain ⟨ad281, e281, hx281_0, hx281_1, hx281_2⟩ := at_T31 (Kd.R_reads' HO_3.out).2.2 (ji61) p281 q281; have he_ : ad279 = ad281 := (by injection e281); subst he_; have hn281_0 : ad279.block ≠ gb280 := Kd.own_blk (Kd.R_away HO_3.out (fun _ hk => hk.2)); have hn281_1 : ad279.block ≠ gb280 := Kd.own_blk (Kd.R_away HO_3.out (fun _ hk => hk.2)); have hn281_2 : ad279.block ≠ gb280 := Kd.own_blk (Kd.R_away HO_3.out (fun _ hk => hk.2)); replace hx281_0 := (cell_far (p := ⟨gb280, 0, none⟩) (by first | (rw [add_block]; exact hn281_0) | (show (Addr.add _ _).block ≠ _; rw [add_block]; exact hn281_0) | exact hn281_0) (.int .i64 ((rd_T31 t260 x101_4).f0))).trans hx281_0; replace hx281_1 := (cell_far (p := ⟨gb280, 0, none⟩) (by first | (rw [add_block]; exact hn281_0) | (show (Addr.add _ _).block ≠ _; rw [add_block]; exact hn281_0) | exact hn281_0) (.int .i64 ((rd_T31 t260 x101_4).f0))).trans hx281_1; replace hx281_2 := (cell_far (p := ⟨gb280, 0, none⟩) (by first | (rw [add_block]; exact hn281_0) | (show (Addr.add _ _).block ≠ _; rw [add_block]; exact hn281_0) | exact hn281_0) (.int .i64 ((rd_T31 t260 x101_4).f0))).trans hx281_2; replace hx281_0 := (cell_far (p := ⟨gb280, 1, none⟩) (by first | (rw [add_block]; exact hn281_1) | (show (Addr.add _ _).block ≠ _; rw [add_block]; exact hn281_1) | exact hn281_1) (.int .i64 ((rd_T31 t260 x101_4).f1))).trans hx281_0; replace hx281_1 := (cell_far (p := ⟨gb280, 1, none⟩) (by first | (rw [add_block]; exact hn281_1) | (show (Addr.add _ _).block ≠ _; rw [add_block]; exact hn281_1) | exact hn281_1) (.int .i64 ((rd_T31 t260 x101_4).f1))).trans hx281_1; replace hx281_2 := (cell_far (p := ⟨gb280, 1, none⟩) (by first | (rw [add_block]; exact hn281_1) | (show (Addr.add _ _).block ≠ _; rw [add_block]; exact hn281_1) | exact hn281_1) (.int .i64 ((rd_T31 t260 x101_4).f1))).trans hx281_2; replace hx281_0 := (cell_far (p := ⟨gb280, 2, none⟩) (by first | (rw [add_block]; exact hn281_2) | (show (Addr.add _ _).block ≠ _; rw [add_block]; exact hn281_2) | exact hn281_2) (.int .i64 ((rd_T31 t260 x101_4).f2))).trans hx281_0; replace hx281_1 := (cell_far (p := ⟨gb280, 2, none⟩) (by first | (rw [add_block]; exact hn281_2) | (show (Addr.add _ _).block ≠ _; rw [add_block]; exact hn281_2) | exact hn281_2) (.int .i64 ((rd_T31 t260 x101_4).f2))).trans hx281_1; replace hx281_2 := (cell_far (p := ⟨gb280, 2, none⟩) (by first | (rw [add_block]; exact hn281_2) | (show (Addr.add _ _).block ≠ _; rw [add_block]; exact hn281_2) | exact hn281_2) (.int .i64 ((rd_T31 t260 x101_4).f2))).trans hx281_2; (try have hy281_0 := fun (n_ : Nat) => (show (((((w65.drewN n_).setCell ⟨gb280, 0, none⟩ (.int .i64 ((rd_T31 t260 x101_4).f0))).setCell ⟨gb280, 1, none⟩ (.int .i64 ((rd_T31 t260 x101_4).f1))).setCell ⟨gb280, 2, none⟩ (.int .i64 ((rd_T31 t260 x101_4).f2)))).cell? _ = some _ from hx281_0)); (try have hy281_1 := fun (n_ : Nat) => (show (((((w65.drewN n_).setCell ⟨gb280, 0, none⟩ (.int .i64 ((rd_T31 t260 x101_4).f0))).setCell ⟨gb280, 1, none⟩ (.int .i64 ((rd_T31 t260 x101_4).f1))).setCell ⟨gb280, 2, none⟩ (.int .i64 ((rd_T31 t260 x101_4).f2)))).cell? _ = some _ from hx281_1)); (try have hy281_2 := fun (n_ : Nat) => (show (((((w65.drewN n_).setCell ⟨gb280, 0, none⟩ (.int .i64 ((rd_T31 t260 x101_4).f0))).setCell ⟨gb280, 1, none⟩ (.int .i64 ((rd_T31 t260 x101_4).f1))).setCell ⟨gb280, 2, none⟩ (.int .i64 ((rd_T31 t260 x101_4).f2)))).cell? _ = some _ from hx281_2)); clear hn281_0; clear hn281_1; clear hn281_2; replace p281 := eq_true p281; replace q281 := eq_true q281))
                         repeat (go_quiet (first | ((with_reducible refine gate_dst (N := 11) rfl ?_); (try (refine gate_guard (by rfl) ?_; dsimp only)); refine box_event ?hg (N := 11) ?hd (cs := #[.int .i64 0, .int .i64 0, .int .i64 0]) (t := 31) ?hr ?_; (case hd => rfl); (case hg => rfl); (case hr => first | (go_simp; done) | (go_simp; rfl)); intro gb280 hg w65 hbox hb; have n0_ := Aside0.mk (Kd.R_below (Kd.R_elderB (rO HO_3.out) gb280 (Nat.le_of_eq hg.symm)) hb); have n1_ := Aside0.mk (Kd.R_below (Kd.R_elderB (rO HO_99.out) gb280 (Nat.le_of_eq hg.symm)) hb); have n2_ := Aside0.mk (below_step (bO HB.out) hb); have n3_ := Aside0.mk (hbox); have n4_ := Aside0.mk ((by rw [hg]; exact (below_size (bO HB.out)) : w.heap.size ≤ gb280)); have n5_ := Aside0.mk ((by rw [hg]; exact (below_size (bO HB.out)) : w.heap.size ≤ gb280)); clear HO_3; clear HO_99; clear HB; have HO_3 := n0_; have HO_99 := n1_; have HB := n2_; have BK280 := n3_; have GW280 := n4_; have GE280 := n5_; clear n0_ n1_ n2_ n3_ n4_ n5_; (try have hxb279_0 := pw_cell_below hb hx279_0); (try have hxb279_1 := pw_cell_below hb hx279_1); (try have hxb279_2 := pw_cell_below hb hx279_2); (try have hxb279_0 := pw_cell_below hb hx279_0); (try have hxb279_1 := pw_cell_below hb hx279_1); (try have hxb279_2 := pw_cell_below hb hx279_2); (try have hxb279_0 := pw_cell_below hb hx279_0); (try have hxb279_1 := pw_cell_below hb hx279_1); (try have hxb279_2 := pw_cell_below hb hx279_2); clear hb hbox hg; have hcz66_0 : w65.cell? ⟨gb280, 0, none⟩ = some (.int .i64 0) := (blk_cell BK280.out 0).trans rfl; have hcz66_1 : w65.cell? ⟨gb280, 1, none⟩ = some (.int .i64 0) := (blk_cell BK280.out 1).trans rfl; have hcz66_2 : w65.cell? ⟨gb280, 2, none⟩ = some (.int .i64 0) := (blk_cell BK280.out 2).trans rfl; have hfz66_0 := blk_frozen BK280.out 0; have hfz66_1 := blk_frozen BK280.out 1; have hfz66_2 := blk_frozen BK280.out 2; have p281 : 0 ≤ ((ji61) : Int) := of_decide_eq_true aO; have q281 : (ji61) < (t260.length : Int) := of_decide_eq_true aO; obtain ⟨ad281, e281, hx281_0, hx281_1, hx281_2⟩ := at_T31 (Kd.R_reads' HO_3.out).2.2 (ji61) p281 q281; have he_ : ad279 = ad281 := (by injection e281); subst he_; have hn281_0 : ad279.block ≠ gb280 := Kd.own_blk (Kd.R_away HO_3.out (fun _ hk => hk.2)); have hn281_1 : ad279.block ≠ gb280 := Kd.own_blk (Kd.R_away HO_3.out (fun _ hk => hk.2)); have hn281_2 : ad279.block ≠ gb280 := Kd.own_blk (Kd.R_away HO_3.out (fun _ hk => hk.2)); replace hx281_0 := (cell_far (p := ⟨gb280, 0, none⟩) (by first | (rw [add_block]; exact hn281_0) | (show (Addr.add _ _).block ≠ _; rw [add_block]; exact hn281_0) | exact hn281_0) (.int .i64 ((rd_T31 t260 x101_4).f0))).trans hx281_0; replace hx281_1 := (cell_far (p := ⟨gb280, 0, none⟩) (by first | (rw [add_block]; exact hn281_0) | (show (Addr.add _ _).block ≠ _; rw [add_block]; exact hn281_0) | exact hn281_0) (.int .i64 ((rd_T31 t260 x101_4).f0))).trans hx281_1; replace hx281_2 := (cell_far (p := ⟨gb280, 0, none⟩) (by first | (rw [add_block]; exact hn281_0) | (show (Addr.add _ _).block ≠ _; rw [add_block]; exact hn281_0) | exact hn281_0) (.int .i64 ((rd_T31 t260 x101_4).f0))).trans hx281_2; replace hx281_0 := (cell_far (p := ⟨gb280, 1, none⟩) (by first | (rw [add_block]; exact hn281_1) | (show (Addr.add _ _).block ≠ _; rw [add_block]; exact hn281_1) | exact hn281_1) (.int .i64 ((rd_T31 t260 x101_4).f1))).trans hx281_0; replace hx281_1 := (cell_far (p := ⟨gb280, 1, none⟩) (by first | (rw [add_block]; exact hn281_1) | (show (Addr.add _ _).block ≠ _; rw [add_block]; exact hn281_1) | exact hn281_1) (.int .i64 ((rd_T31 t260 x101_4).f1))).trans hx281_1; replace hx281_2 := (cell_far (p := ⟨gb280, 1, none⟩) (by first | (rw [add_block]; exact hn281_1) | (show (Addr.add _ _).block ≠ _; rw [add_block]; exact hn281_1) | exact hn281_1) (.int .i64 ((rd_T31 t260 x101_4).f1))).trans hx281_2; replace hx281_0 := (cell_far (p := ⟨gb280, 2, none⟩) (by first | (rw [add_block]; exact hn281_2) | (show (Addr.add _ _).block ≠ _; rw [add_block]; exact hn281_2) | exact hn281_2) (.int .i64 ((rd_T31 t260 x101_4).f2))).trans hx281_0; replace hx281_1 := (cell_far (p := ⟨gb280, 2, none⟩) (by first | (rw [add_block]; exact hn281_2) | (show (Addr.add _ _).block ≠ _; rw [add_block]; exact hn281_2) | exact hn281_2) (.int .i64 ((rd_T31 t260 x101_4).f2))).trans hx281_1; replace hx281_2 := (cell_far (p := ⟨gb280, 2, none⟩) (by first | (rw [add_block]; exact hn281_2) | (show (Addr.add _ _).block ≠ _; rw [add_block]; exact hn281_2) | exact hn281_2) (.int .i64 ((rd_T31 t260 x101_4).f2))).trans hx281_2; (try have hy281_0 := fun (n_ : Nat) => (show (((((w65.drewN n_).setCell ⟨gb280, 0, none⟩ (.int .i64 ((rd_T31 t260 x101_4).f0))).setCell ⟨gb280, 1, none⟩ (.int .i64 ((rd_T31 t260 x101_4).f1))).setCell ⟨gb280, 2, none⟩ (.int .i64 ((rd_T31 t260 x101_4).f2)))).cell? _ = some _ from hx281_0)); (try have hy281_1 := fun (n_ : Nat) => (show (((((w65.drewN n_).setCell ⟨gb280, 0, none⟩ (.int .i64 ((rd_T31 t260 x101_4).f0))).setCell ⟨gb280, 1, none⟩ (.int .i64 ((rd_T31 t260 x101_4).f1))).setCell ⟨gb280, 2, none⟩ (.int .i64 ((rd_T31 t260 x101_4).f2)))).cell? _ = some _ from hx281_1)); (try have hy281_2 := fun (n_ : Nat) => (show (((((w65.drewN n_).setCell ⟨gb280, 0, none⟩ (.int .i64 ((rd_T31 t260 x101_4).f0))).setCell ⟨gb280, 1, none⟩ (.int .i64 ((rd_T31 t260 x101_4).f1))).setCell ⟨gb280, 2, none⟩ (.int .i64 ((rd_T31 t260 x101_4).f2)))).cell? _ = some _ from hx281_2)); clear hn281_0; clear hn281_1; clear hn281_2; replace p281 := eq_true p281; replace q281 := eq_true q281)); try go_wp2_with (first | ((with_reducible refine gate_dst (N := 11) rfl ?_); (try (refine gate_guard (by rfl) ?_; dsimp only)); refine box_event ?hg (N := 11) ?hd (cs := #[.int .i64 0, .int .i64 0, .int .i64 0]) (t := 31) ?hr ?_; (case hd => rfl); (case hg => rfl); (case hr => first | (go_simp; done) | (go_simp; rfl)); intro gb280 hg w65 hbox hb; have n0_ := Aside0.mk (Kd.R_below (Kd.R_elderB (rO HO_3.out) gb280 (Nat.le_of_eq hg.symm)) hb); have n1_ := Aside0.mk (Kd.R_below (Kd.R_elderB (rO HO_99.out) gb280 (Nat.le_of_eq hg.symm)) hb); have n2_ := Aside0.mk (below_step (bO HB.out) hb); have n3_ := Aside0.mk (hbox); have n4_ := Aside0.mk ((by rw [hg]; exact (below_size (bO HB.out)) : w.heap.size ≤ gb280)); have n5_ := Aside0.mk ((by rw [hg]; exact (below_size (bO HB.out)) : w.heap.size ≤ gb280)); clear HO_3; clear HO_99; clear HB; have HO_3 := n0_; have HO_99 := n1_; have HB := n2_; have BK280 := n3_; have GW280 := n4_; have GE280 := n5_; clear n0_ n1_ n2_ n3_ n4_ n5_; (try have hxb279_0 := pw_cell_below hb hx279_0); (try have hxb279_1 := pw_cell_below hb hx279_1); (try have hxb279_2 := pw_cell_below hb hx279_2); (try have hxb279_0 := pw_cell_below hb hx279_0); (try have hxb279_1 := pw_cell_below hb hx279_1); (try have hxb279_2 := pw_cell_below hb hx279_2); (try have hxb279_0 := pw_cell_below hb hx279_0); (try have hxb279_1 := pw_cell_below hb hx279_1); (try have hxb279_2 := pw_cell_below hb hx279_2); clear hb hbox hg; have hcz66_0 : w65.cell? ⟨gb280, 0, none⟩ = some (.int .i64 0) := (blk_cell BK280.out 0).trans rfl; have hcz66_1 : w65.cell? ⟨gb280, 1, none⟩ = some (.int .i64 0) := (blk_cell BK280.out 1).trans rfl; have hcz66_2 : w65.cell? ⟨gb280, 2, none⟩ = some (.int .i64 0) := (blk_cell BK280.out 2).trans rfl; have hfz66_0 := blk_frozen BK280.out 0; have hfz66_1 := blk_frozen BK280.out 1; have hfz66_2 := blk_frozen BK280.out 2; have p281 : 0 ≤ ((ji61) : Int) := of_decide_eq_true aO; have q281 : (ji61) < (t260.length : Int) := of_decide_eq_true aO; obtain ⟨ad281, e281, hx281_0, hx281_1, hx281_2⟩ := at_T31 (Kd.R_reads' HO_3.out).2.2 (ji61) p281 q281; have he_ : ad279 = ad281 := (by injection e281); subst he_; have hn281_0 : ad279.block ≠ gb280 := Kd.own_blk (Kd.R_away HO_3.out (fun _ hk => hk.2)); have hn281_1 : ad279.block ≠ gb280 := Kd.own_blk (Kd.R_away HO_3.out (fun _ hk => hk.2)); have hn281_2 : ad279.block ≠ gb280 := Kd.own_blk (Kd.R_away HO_3.out (fun _ hk => hk.2)); replace hx281_0 := (cell_far (p := ⟨gb280, 0, none⟩) (by first | (rw [add_block]; exact hn281_0) | (show (Addr.add _ _).block ≠ _; rw [add_block]; exact hn281_0) | exact hn281_0) (.int .i64 ((rd_T31 t260 x101_4).f0))).trans hx281_0; replace hx281_1 := (cell_far (p := ⟨gb280, 0, none⟩) (by first | (rw [add_block]; exact hn281_0) | (show (Addr.add _ _).block ≠ _; rw [add_block]; exact hn281_0) | exact hn281_0) (.int .i64 ((rd_T31 t260 x101_4).f0))).trans hx281_1; replace hx281_2 := (cell_far (p := ⟨gb280, 0, none⟩) (by first | (rw [add_block]; exact hn281_0) | (show (Addr.add _ _).block ≠ _; rw [add_block]; exact hn281_0) | exact hn281_0) (.int .i64 ((rd_T31 t260 x101_4).f0))).trans hx281_2; replace hx281_0 := (cell_far (p := ⟨gb280, 1, none⟩) (by first | (rw [add_block]; exact hn281_1) | (show (Addr.add _ _).block ≠ _; rw [add_block]; exact hn281_1) | exact hn281_1) (.int .i64 ((rd_T31 t260 x101_4).f1))).trans hx281_0; replace hx281_1 := (cell_far (p := ⟨gb280, 1, none⟩) (by first | (rw [add_block]; exact hn281_1) | (show (Addr.add _ _).block ≠ _; rw [add_block]; exact hn281_1) | exact hn281_1) (.int .i64 ((rd_T31 t260 x101_4).f1))).trans hx281_1; replace hx281_2 := (cell_far (p := ⟨gb280, 1, none⟩) (by first | (rw [add_block]; exact hn281_1) | (show (Addr.add _ _).block ≠ _; rw [add_block]; exact hn281_1) | exact hn281_1) (.int .i64 ((rd_T31 t260 x101_4).f1))).trans hx281_2; replace hx281_0 := (cell_far (p := ⟨gb280, 2, none⟩) (by first | (rw [add_block]; exact hn281_2) | (show (Addr.add _ _).block ≠ _; rw [add_block]; exact hn281_2) | exact hn281_2) (.int .i64 ((rd_T31 t260 x101_4).f2))).trans hx281_0; replace hx281_1 := (cell_far (p := ⟨gb280, 2, none⟩) (by first | (rw [add_block]; exact hn281_2) | (show (Addr.add _ _).block ≠ _; rw [add_block]; exact hn281_2) | exact hn281_2) (.int .i64 ((rd_T31 t260 x101_4).f2))).trans hx281_1; replace hx281_2 := (cell_far (p := ⟨gb280, 2, none⟩) (by first | (rw [add_block]; exact hn281_2) | (show (Addr.add _ _).block ≠ _; rw [add_block]; exact hn281_2) | exact hn281_2) (.int .i64 ((rd_T31 t260 x101_4).f2))).trans hx281_2; (try have hy281_0 := fun (n_ : Nat) => (show (((((w65.drewN n_).setCell ⟨gb280, 0, none⟩ (.int .i64 ((rd_T31 t260 x101_4).f0))).setCell ⟨gb280, 1, none⟩ (.int .i64 ((rd_T31 t260 x101_4).f1))).setCell ⟨gb280, 2, none⟩ (.int .i64 ((rd_T31 t260 x101_4).f2)))).cell? _ = some _ from hx281_0)); (try have hy281_1 := fun (n_ : Nat) => (show (((((w65.drewN n_).setCell ⟨gb280, 0, none⟩ (.int .i64 ((rd_T31 t260 x101_4).f0))).setCell ⟨gb280, 1, none⟩ (.int .i64 ((rd_T31 t260 x101_4).f1))).setCell ⟨gb280, 2, none⟩ (.int .i64 ((rd_T31 t260 x101_4).f2)))).cell? _ = some _ from hx281_1)); (try have hy281_2 := fun (n_ : Nat) => (show (((((w65.drewN n_).setCell ⟨gb280, 0, none⟩ (.int .i64 ((rd_T31 t260 x101_4).f0))).setCell ⟨gb280, 1, none⟩ (.int .i64 ((rd_T31 t260 x101_4).f1))).setCell ⟨gb280, 2, none⟩ (.int .i64 ((rd_T31 t260 x101_4).f2)))).cell? _ = some _ from hx281_2)); clear hn281_0; clear hn281_1; clear hn281_2; replace p281 := eq_true p281; replace q281 := eq_true q281)))
                         go_ret
                         exact ⟨by first | rfl | (simp [errW_none, errW_some] <;> rfl) | (simp only [← hji61]; first | rfl | (simp [errW_none, errW_some] <;> rfl)) | (simp [*, errW_none, errW_some] <;> rfl), by repeat (first | (with_reducible first | exact HB.out | apply below_alloc | apply pw_below_drewN | apply below_drew1 | refine below_set ?_ GE280.out) | exact HB.out)⟩
                        ·rw [if_neg c64] at H
                         have c64b0 : decide (((rd_T31 t260 x101_4).f1) ≤ ((rd_T31 t260 (ji61)).f1)) = false := decide_eq_false c64
                         clear c64
                         have H' := Aside0.mk H
                         clear H
                         have p279 : 0 ≤ (x101_4 : Int) := of_decide_eq_true aO
                         have q279 : x101_4 < (t260.length : Int) := of_decide_eq_true aO
                         obtain ⟨ad279, e279, hx279_0, hx279_1, hx279_2⟩ := at_T31 (Kd.R_reads' HO_99.out).2.2 x101_4 p279 q279
                         cases e279
                         replace p279 := eq_true p279
                         replace q279 := eq_true q279
                         go_wp2_with (first | ((with_reducible refine gate_dst (N := 11) rfl ?_); (try (refine gate_guard (by rfl) ?_; dsimp only)); refine box_event ?hg (N := 11) ?hd (cs := #[.int .i64 0, .int .i64 0, .int .i64 0]) (t := 31) ?hr ?_; (case hd => rfl); (case hg => rfl); (case hr => first | (go_simp; done) | (go_simp; rfl)); intro gb280 hg w67 hbox hb; have n0_ := Aside0.mk (Kd.R_below (Kd.R_elderB (rO HO_3.out) gb280 (Nat.le_of_eq hg.symm)) hb); have n1_ := Aside0.mk (Kd.R_below (Kd.R_elderB (rO HO_99.out) gb280 (Nat.le_of_eq hg.symm)) hb); have n2_ := Aside0.mk (below_step (bO HB.out) hb); have n3_ := Aside0.mk (hbox); have n4_ := Aside0.mk ((by rw [hg]; exact (below_size (bO HB.out)) : w.heap.size ≤ gb280)); have n5_ := Aside0.mk ((by rw [hg]; exact (below_size (bO HB.out)) : w.heap.size ≤ gb280)); clear HO_3; clear HO_99; clear HB; have HO_3 := n0_; have HO_99 := n1_; have HB := n2_; have BK280 := n3_; have GW280 := n4_; have GE280 := n5_; clear n0_ n1_ n2_ n3_ n4_ n5_; (try have hxb279_0 := pw_cell_below hb hx279_0); (try have hxb279_1 := pw_cell_below hb hx279_1); (try have hxb279_2 := pw_cell_below hb hx279_2); (try have hxb279_0 := pw_cell_below hb hx279_0); (try have hxb279_1 := pw_cell_below hb hx279_1); (try have hxb279_2 := pw_cell_below hb hx279_2); (try have hxb279_0 := pw_cell_below hb hx279_0); (try have hxb279_1 := pw_cell_below hb hx279_1); (try have hxb279_2 := pw_cell_below hb hx279_2); (try have hxb279_0 := pw_cell_below hb hx279_0); (try have hxb279_1 := pw_cell_below hb hx279_1); (try have hxb279_2 := pw_cell_below hb hx279_2); clear hb hbox hg; have hcz68_0 : w67.cell? ⟨gb280, 0, none⟩ = some (.int .i64 0) := (blk_cell BK280.out 0).trans rfl; have hcz68_1 : w67.cell? ⟨gb280, 1, none⟩ = some (.int .i64 0) := (blk_cell BK280.out 1).trans rfl; have hcz68_2 : w67.cell? ⟨gb280, 2, none⟩ = some (.int .i64 0) := (blk_cell BK280.out 2).trans rfl; have hfz68_0 := blk_frozen BK280.out 0; have hfz68_1 := blk_frozen BK280.out 1; have hfz68_2 := blk_frozen BK280.out 2; have p281 : 0 ≤ ((ji61) : Int) := of_decide_eq_true aO; have q281 : (ji61) < (t260.length : Int) := of_decide_eq_true aO; obtain ⟨ad281, e281, hx281_0, hx281_1, hx281_2⟩ := at_T31 (Kd.R_reads' HO_3.out).2.2 (ji61) p281 q281; have he_ : ad279 = ad281 := (by injection e281); subst he_; have hn281_0 : ad279.block ≠ gb280 := Kd.own_blk (Kd.R_away HO_3.out (fun _ hk => hk.2)); have hn281_1 : ad279.block ≠ gb280 := Kd.own_blk (Kd.R_away HO_3.out (fun _ hk => hk.2)); have hn281_2 : ad279.block ≠ gb280 := Kd.own_blk (Kd.R_away HO_3.out (fun _ hk => hk.2)); replace hx281_0 := (cell_far (p := ⟨gb280, 0, none⟩) (by first | (rw [add_block]; exact hn281_0) | (show (Addr.add _ _).block ≠ _; rw [add_block]; exact hn281_0) | exact hn281_0) (.int .i64 ((rd_T31 t260 x101_4).f0))).trans hx281_0; replace hx281_1 := (cell_far (p := ⟨gb280, 0, none⟩) (by first | (rw [add_block]; exact hn281_0) | (show (Addr.add _ _).block ≠ _; rw [add_block]; exact hn281_0) | exact hn281_0) (.int .i64 ((rd_T31 t260 x101_4).f0))).trans hx281_1; replace hx281_2 := (cell_far (p := ⟨gb280, 0, none⟩) (by first | (rw [add_block]; exact hn281_0) | (show (Addr.add _ _).block ≠ _; rw [add_block]; exact hn281_0) | exact hn281_0) (.int .i64 ((rd_T31 t260 x101_4).f0))).trans hx281_2; replace hx281_0 := (cell_far (p := ⟨gb280, 1, none⟩) (by first | (rw [add_block]; exact hn281_1) | (show (Addr.add _ _).block ≠ _; rw [add_block]; exact hn281_1) | exact hn281_1) (.int .i64 ((rd_T31 t260 x101_4).f1))).trans hx281_0; replace hx281_1 := (cell_far (p := ⟨gb280, 1, none⟩) (by first | (rw [add_block]; exact hn281_1) | (show (Addr.add _ _).block ≠ _; rw [add_block]; exact hn281_1) | exact hn281_1) (.int .i64 ((rd_T31 t260 x101_4).f1))).trans hx281_1; replace hx281_2 := (cell_far (p := ⟨gb280, 1, none⟩) (by first | (rw [add_block]; exact hn281_1) | (show (Addr.add _ _).block ≠ _; rw [add_block]; exact hn281_1) | exact hn281_1) (.int .i64 ((rd_T31 t260 x101_4).f1))).trans hx281_2; replace hx281_0 := (cell_far (p := ⟨gb280, 2, none⟩) (by first | (rw [add_block]; exact hn281_2) | (show (Addr.add _ _).block ≠ _; rw [add_block]; exact hn281_2) | exact hn281_2) (.int .i64 ((rd_T31 t260 x101_4).f2))).trans hx281_0; replace hx281_1 := (cell_far (p := ⟨gb280, 2, none⟩) (by first | (rw [add_block]; exact hn281_2) | (show (Addr.add _ _).block ≠ _; rw [add_block]; exact hn281_2) | exact hn281_2) (.int .i64 ((rd_T31 t260 x101_4).f2))).trans hx281_1; replace hx281_2 := (cell_far (p := ⟨gb280, 2, none⟩) (by first | (rw [add_block]; exact hn281_2) | (show (Addr.add _ _).block ≠ _; rw [add_block]; exact hn281_2) | exact hn281_2) (.int .i64 ((rd_T31 t260 x101_4).f2))).trans hx281_2; (try have hy281_0 := fun (n_ : Nat) => (show (((((w67.drewN n_).setCell ⟨gb280, 0, none⟩ (.int .i64 ((rd_T31 t260 x101_4).f0))).setCell ⟨gb280, 1, none⟩ (.int .i64 ((rd_T31 t260 x101_4).f1))).setCell ⟨gb280, 2, none⟩ (.int .i64 ((rd_T31 t260 x101_4).f2)))).cell? _ = some _ from hx281_0)); (try have hy281_1 := fun (n_ : Nat) => (show (((((w67.drewN n_).setCell ⟨gb280, 0, none⟩ (.int .i64 ((rd_T31 t260 x101_4).f0))).setCell ⟨gb280, 1, none⟩ (.int .i64 ((rd_T31 t260 x101_4).f1))).setCell ⟨gb280, 2, none⟩ (.int .i64 ((rd_T31 t260 x101_4).f2)))).cell? _ = some _ from hx281_1)); (try have hy281_2 := fun (n_ : Nat) => (show (((((w67.drewN n_).setCell ⟨gb280, 0, none⟩ (.int .i64 ((rd_T31 t260 x101_4).f0))).setCell ⟨gb280, 1, none⟩ (.int .i64 ((rd_T31 t260 x101_4).f1))).setCell ⟨gb280, 2, none⟩ (.int .i64 ((rd_T31 t260 x101_4).f2)))).cell? _ = some _ from hx281_2)); clear hn281_0; clear hn281_1; clear hn281_2; replace p281 := eq_true p281; replace q281 := eq_true q281))
                         repeat (go_quiet (first | ((with_reducible refine gate_dst (N := 11) rfl ?_); (try (refine gate_guard (by rfl) ?_; dsimp only)); refine box_event ?hg (N := 11) ?hd (cs := #[.int .i64 0, .int .i64 0, .int .i64 0]) (t := 31) ?hr ?_; (case hd => rfl); (case hg => rfl); (case hr => first | (go_simp; done) | (go_simp; rfl)); intro gb280 hg w67 hbox hb; have n0_ := Aside0.mk (Kd.R_below (Kd.R_elderB (rO HO_3.out) gb280 (Nat.le_of_eq hg.symm)) hb); have n1_ := Aside0.mk (Kd.R_below (Kd.R_elderB (rO HO_99.out) gb280 (Nat.le_of_eq hg.symm)) hb); have n2_ := Aside0.mk (below_step (bO HB.out) hb); have n3_ := Aside0.mk (hbox); have n4_ := Aside0.mk ((by rw [hg]; exact (below_size (bO HB.out)) : w.heap.size ≤ gb280)); have n5_ := Aside0.mk ((by rw [hg]; exact (below_size (bO HB.out)) : w.heap.size ≤ gb280)); clear HO_3; clear HO_99; clear HB; have HO_3 := n0_; have HO_99 := n1_; have HB := n2_; have BK280 := n3_; have GW280 := n4_; have GE280 := n5_; clear n0_ n1_ n2_ n3_ n4_ n5_; (try have hxb279_0 := pw_cell_below hb hx279_0); (try have hxb279_1 := pw_cell_below hb hx279_1); (try have hxb279_2 := pw_cell_below hb hx279_2); (try have hxb279_0 := pw_cell_below hb hx279_0); (try have hxb279_1 := pw_cell_below hb hx279_1); (try have hxb279_2 := pw_cell_below hb hx279_2); (try have hxb279_0 := pw_cell_below hb hx279_0); (try have hxb279_1 := pw_cell_below hb hx279_1); (try have hxb279_2 := pw_cell_below hb hx279_2); (try have hxb279_0 := pw_cell_below hb hx279_0); (try have hxb279_1 := pw_cell_below hb hx279_1); (try have hxb279_2 := pw_cell_below hb hx279_2); clear hb hbox hg; have hcz68_0 : w67.cell? ⟨gb280, 0, none⟩ = some (.int .i64 0) := (blk_cell BK280.out 0).trans rfl; have hcz68_1 : w67.cell? ⟨gb280, 1, none⟩ = some (.int .i64 0) := (blk_cell BK280.out 1).trans rfl; have hcz68_2 : w67.cell? ⟨gb280, 2, none⟩ = some (.int .i64 0) := (blk_cell BK280.out 2).trans rfl; have hfz68_0 := blk_frozen BK280.out 0; have hfz68_1 := blk_frozen BK280.out 1; have hfz68_2 := blk_frozen BK280.out 2; have p281 : 0 ≤ ((ji61) : Int) := of_decide_eq_true aO; have q281 : (ji61) < (t260.length : Int) := of_decide_eq_true aO; obtain ⟨ad281, e281, hx281_0, hx281_1, hx281_2⟩ := at_T31 (Kd.R_reads' HO_3.out).2.2 (ji61) p281 q281; have he_ : ad279 = ad281 := (by injection e281); subst he_; have hn281_0 : ad279.block ≠ gb280 := Kd.own_blk (Kd.R_away HO_3.out (fun _ hk => hk.2)); have hn281_1 : ad279.block ≠ gb280 := Kd.own_blk (Kd.R_away HO_3.out (fun _ hk => hk.2)); have hn281_2 : ad279.block ≠ gb280 := Kd.own_blk (Kd.R_away HO_3.out (fun _ hk => hk.2)); replace hx281_0 := (cell_far (p := ⟨gb280, 0, none⟩) (by first | (rw [add_block]; exact hn281_0) | (show (Addr.add _ _).block ≠ _; rw [add_block]; exact hn281_0) | exact hn281_0) (.int .i64 ((rd_T31 t260 x101_4).f0))).trans hx281_0; replace hx281_1 := (cell_far (p := ⟨gb280, 0, none⟩) (by first | (rw [add_block]; exact hn281_0) | (show (Addr.add _ _).block ≠ _; rw [add_block]; exact hn281_0) | exact hn281_0) (.int .i64 ((rd_T31 t260 x101_4).f0))).trans hx281_1; replace hx281_2 := (cell_far (p := ⟨gb280, 0, none⟩) (by first | (rw [add_block]; exact hn281_0) | (show (Addr.add _ _).block ≠ _; rw [add_block]; exact hn281_0) | exact hn281_0) (.int .i64 ((rd_T31 t260 x101_4).f0))).trans hx281_2; replace hx281_0 := (cell_far (p := ⟨gb280, 1, none⟩) (by first | (rw [add_block]; exact hn281_1) | (show (Addr.add _ _).block ≠ _; rw [add_block]; exact hn281_1) | exact hn281_1) (.int .i64 ((rd_T31 t260 x101_4).f1))).trans hx281_0; replace hx281_1 := (cell_far (p := ⟨gb280, 1, none⟩) (by first | (rw [add_block]; exact hn281_1) | (show (Addr.add _ _).block ≠ _; rw [add_block]; exact hn281_1) | exact hn281_1) (.int .i64 ((rd_T31 t260 x101_4).f1))).trans hx281_1; replace hx281_2 := (cell_far (p := ⟨gb280, 1, none⟩) (by first | (rw [add_block]; exact hn281_1) | (show (Addr.add _ _).block ≠ _; rw [add_block]; exact hn281_1) | exact hn281_1) (.int .i64 ((rd_T31 t260 x101_4).f1))).trans hx281_2; replace hx281_0 := (cell_far (p := ⟨gb280, 2, none⟩) (by first | (rw [add_block]; exact hn281_2) | (show (Addr.add _ _).block ≠ _; rw [add_block]; exact hn281_2) | exact hn281_2) (.int .i64 ((rd_T31 t260 x101_4).f2))).trans hx281_0; replace hx281_1 := (cell_far (p := ⟨gb280, 2, none⟩) (by first | (rw [add_block]; exact hn281_2) | (show (Addr.add _ _).block ≠ _; rw [add_block]; exact hn281_2) | exact hn281_2) (.int .i64 ((rd_T31 t260 x101_4).f2))).trans hx281_1; replace hx281_2 := (cell_far (p := ⟨gb280, 2, none⟩) (by first | (rw [add_block]; exact hn281_2) | (show (Addr.add _ _).block ≠ _; rw [add_block]; exact hn281_2) | exact hn281_2) (.int .i64 ((rd_T31 t260 x101_4).f2))).trans hx281_2; (try have hy281_0 := fun (n_ : Nat) => (show (((((w67.drewN n_).setCell ⟨gb280, 0, none⟩ (.int .i64 ((rd_T31 t260 x101_4).f0))).setCell ⟨gb280, 1, none⟩ (.int .i64 ((rd_T31 t260 x101_4).f1))).setCell ⟨gb280, 2, none⟩ (.int .i64 ((rd_T31 t260 x101_4).f2)))).cell? _ = some _ from hx281_0)); (try have hy281_1 := fun (n_ : Nat) => (show (((((w67.drewN n_).setCell ⟨gb280, 0, none⟩ (.int .i64 ((rd_T31 t260 x101_4).f0))).setCell ⟨gb280, 1, none⟩ (.int .i64 ((rd_T31 t260 x101_4).f1))).setCell ⟨gb280, 2, none⟩ (.int .i64 ((rd_T31 t260 x101_4).f2)))).cell? _ = some _ from hx281_1)); (try have hy281_2 := fun (n_ : Nat) => (show (((((w67.drewN n_).setCell ⟨gb280, 0, none⟩ (.int .i64 ((rd_T31 t260 x101_4).f0))).setCell ⟨gb280, 1, none⟩ (.int .i64 ((rd_T31 t260 x101_4).f1))).setCell ⟨gb280, 2, none⟩ (.int .i64 ((rd_T31 t260 x101_4).f2)))).cell? _ = some _ from hx281_2)); clear hn281_0; clear hn281_1; clear hn281_2; replace p281 := eq_true p281; replace q281 := eq_true q281)); try go_wp2_with (first | ((with_reducible refine gate_dst (N := 11) rfl ?_); (try (refine gate_guard (by rfl) ?_; dsimp only)); refine box_event ?hg (N := 11) ?hd (cs := #[.int .i64 0, .int .i64 0, .int .i64 0]) (t := 31) ?hr ?_; (case hd => rfl); (case hg => rfl); (case hr => first | (go_simp; done) | (go_simp; rfl)); intro gb280 hg w67 hbox hb; have n0_ := Aside0.mk (Kd.R_below (Kd.R_elderB (rO HO_3.out) gb280 (Nat.le_of_eq hg.symm)) hb); have n1_ := Aside0.mk (Kd.R_below (Kd.R_elderB (rO HO_99.out) gb280 (Nat.le_of_eq hg.symm)) hb); have n2_ := Aside0.mk (below_step (bO HB.out) hb); have n3_ := Aside0.mk (hbox); have n4_ := Aside0.mk ((by rw [hg]; exact (below_size (bO HB.out)) : w.heap.size ≤ gb280)); have n5_ := Aside0.mk ((by rw [hg]; exact (below_size (bO HB.out)) : w.heap.size ≤ gb280)); clear HO_3; clear HO_99; clear HB; have HO_3 := n0_; have HO_99 := n1_; have HB := n2_; have BK280 := n3_; have GW280 := n4_; have GE280 := n5_; clear n0_ n1_ n2_ n3_ n4_ n5_; (try have hxb279_0 := pw_cell_below hb hx279_0); (try have hxb279_1 := pw_cell_below hb hx279_1); (try have hxb279_2 := pw_cell_below hb hx279_2); (try have hxb279_0 := pw_cell_below hb hx279_0); (try have hxb279_1 := pw_cell_below hb hx279_1); (try have hxb279_2 := pw_cell_below hb hx279_2); (try have hxb279_0 := pw_cell_below hb hx279_0); (try have hxb279_1 := pw_cell_below hb hx279_1); (try have hxb279_2 := pw_cell_below hb hx279_2); (try have hxb279_0 := pw_cell_below hb hx279_0); (try have hxb279_1 := pw_cell_below hb hx279_1); (try have hxb279_2 := pw_cell_below hb hx279_2); clear hb hbox hg; have hcz68_0 : w67.cell? ⟨gb280, 0, none⟩ = some (.int .i64 0) := (blk_cell BK280.out 0).trans rfl; have hcz68_1 : w67.cell? ⟨gb280, 1, none⟩ = some (.int .i64 0) := (blk_cell BK280.out 1).trans rfl; have hcz68_2 : w67.cell? ⟨gb280, 2, none⟩ = some (.int .i64 0) := (blk_cell BK280.out 2).trans rfl; have hfz68_0 := blk_frozen BK280.out 0; have hfz68_1 := blk_frozen BK280.out 1; have hfz68_2 := blk_frozen BK280.out 2; have p281 : 0 ≤ ((ji61) : Int) := of_decide_eq_true aO; have q281 : (ji61) < (t260.length : Int) := of_decide_eq_true aO; obtain ⟨ad281, e281, hx281_0, hx281_1, hx281_2⟩ := at_T31 (Kd.R_reads' HO_3.out).2.2 (ji61) p281 q281; have he_ : ad279 = ad281 := (by injection e281); subst he_; have hn281_0 : ad279.block ≠ gb280 := Kd.own_blk (Kd.R_away HO_3.out (fun _ hk => hk.2)); have hn281_1 : ad279.block ≠ gb280 := Kd.own_blk (Kd.R_away HO_3.out (fun _ hk => hk.2)); have hn281_2 : ad279.block ≠ gb280 := Kd.own_blk (Kd.R_away HO_3.out (fun _ hk => hk.2)); replace hx281_0 := (cell_far (p := ⟨gb280, 0, none⟩) (by first | (rw [add_block]; exact hn281_0) | (show (Addr.add _ _).block ≠ _; rw [add_block]; exact hn281_0) | exact hn281_0) (.int .i64 ((rd_T31 t260 x101_4).f0))).trans hx281_0; replace hx281_1 := (cell_far (p := ⟨gb280, 0, none⟩) (by first | (rw [add_block]; exact hn281_0) | (show (Addr.add _ _).block ≠ _; rw [add_block]; exact hn281_0) | exact hn281_0) (.int .i64 ((rd_T31 t260 x101_4).f0))).trans hx281_1; replace hx281_2 := (cell_far (p := ⟨gb280, 0, none⟩) (by first | (rw [add_block]; exact hn281_0) | (show (Addr.add _ _).block ≠ _; rw [add_block]; exact hn281_0) | exact hn281_0) (.int .i64 ((rd_T31 t260 x101_4).f0))).trans hx281_2; replace hx281_0 := (cell_far (p := ⟨gb280, 1, none⟩) (by first | (rw [add_block]; exact hn281_1) | (show (Addr.add _ _).block ≠ _; rw [add_block]; exact hn281_1) | exact hn281_1) (.int .i64 ((rd_T31 t260 x101_4).f1))).trans hx281_0; replace hx281_1 := (cell_far (p := ⟨gb280, 1, none⟩) (by first | (rw [add_block]; exact hn281_1) | (show (Addr.add _ _).block ≠ _; rw [add_block]; exact hn281_1) | exact hn281_1) (.int .i64 ((rd_T31 t260 x101_4).f1))).trans hx281_1; replace hx281_2 := (cell_far (p := ⟨gb280, 1, none⟩) (by first | (rw [add_block]; exact hn281_1) | (show (Addr.add _ _).block ≠ _; rw [add_block]; exact hn281_1) | exact hn281_1) (.int .i64 ((rd_T31 t260 x101_4).f1))).trans hx281_2; replace hx281_0 := (cell_far (p := ⟨gb280, 2, none⟩) (by first | (rw [add_block]; exact hn281_2) | (show (Addr.add _ _).block ≠ _; rw [add_block]; exact hn281_2) | exact hn281_2) (.int .i64 ((rd_T31 t260 x101_4).f2))).trans hx281_0; replace hx281_1 := (cell_far (p := ⟨gb280, 2, none⟩) (by first | (rw [add_block]; exact hn281_2) | (show (Addr.add _ _).block ≠ _; rw [add_block]; exact hn281_2) | exact hn281_2) (.int .i64 ((rd_T31 t260 x101_4).f2))).trans hx281_1; replace hx281_2 := (cell_far (p := ⟨gb280, 2, none⟩) (by first | (rw [add_block]; exact hn281_2) | (show (Addr.add _ _).block ≠ _; rw [add_block]; exact hn281_2) | exact hn281_2) (.int .i64 ((rd_T31 t260 x101_4).f2))).trans hx281_2; (try have hy281_0 := fun (n_ : Nat) => (show (((((w67.drewN n_).setCell ⟨gb280, 0, none⟩ (.int .i64 ((rd_T31 t260 x101_4).f0))).setCell ⟨gb280, 1, none⟩ (.int .i64 ((rd_T31 t260 x101_4).f1))).setCell ⟨gb280, 2, none⟩ (.int .i64 ((rd_T31 t260 x101_4).f2)))).cell? _ = some _ from hx281_0)); (try have hy281_1 := fun (n_ : Nat) => (show (((((w67.drewN n_).setCell ⟨gb280, 0, none⟩ (.int .i64 ((rd_T31 t260 x101_4).f0))).setCell ⟨gb280, 1, none⟩ (.int .i64 ((rd_T31 t260 x101_4).f1))).setCell ⟨gb280, 2, none⟩ (.int .i64 ((rd_T31 t260 x101_4).f2)))).cell? _ = some _ from hx281_1)); (try have hy281_2 := fun (n_ : Nat) => (show (((((w67.drewN n_).setCell ⟨gb280, 0, none⟩ (.int .i64 ((rd_T31 t260 x101_4).f0))).setCell ⟨gb280, 1, none⟩ (.int .i64 ((rd_T31 t260 x101_4).f1))).setCell ⟨gb280, 2, none⟩ (.int .i64 ((rd_T31 t260 x101_4).f2)))).cell? _ = some _ from hx281_2)); clear hn281_0; clear hn281_1; clear hn281_2; replace p281 := eq_true p281; replace q281 := eq_true q281)))
                         go_roundg k4
                         case measure => have := HJ6.out; have := HK2.out; have := HJ23.out; have := HK4.out; omega
                         case rel => exact ⟨(wrap64 (x101_4 + 1)), (by first | rfl | (simp; done) | (simp [*]; done)), H', ⟨by have := HJ6.out; have := HK2.out; have := HJ23.out; have := HK4.out; omega⟩, ⟨by (with_reducible repeat (first | apply Kd.R_alloc | apply Kd.R_drewN | apply Kd.R_drew)); exact Kd.R_mono (Kd.R_far (p := ⟨gb280, 2, none⟩) (Kd.R_far (p := ⟨gb280, 1, none⟩) (Kd.R_far (p := ⟨gb280, 0, none⟩) (Kd.R_mono HO_3.out (fun k_ hk => (⟨hk, hk.2⟩ : _ ∧ k_ ≠ gb280))) (fun _ hk => hk.2) (.int .i64 ((rd_T31 t260 x101_4).f0))) (fun _ hk => hk.2) (.int .i64 ((rd_T31 t260 x101_4).f1))) (fun _ hk => hk.2) (.int .i64 ((rd_T31 t260 x101_4).f2))) (fun _ hk => trivial)⟩, ⟨by (with_reducible repeat (first | apply Kd.R_alloc | apply Kd.R_drewN | apply Kd.R_drew)); exact Kd.R_mono (Kd.R_far (p := ⟨gb280, 2, none⟩) (Kd.R_far (p := ⟨gb280, 1, none⟩) (Kd.R_far (p := ⟨gb280, 0, none⟩) (Kd.R_mono HO_99.out (fun k_ hk => (⟨hk, hk.2⟩ : _ ∧ k_ ≠ gb280))) (fun _ hk => hk.2) (.int .i64 ((rd_T31 t260 x101_4).f0))) (fun _ hk => hk.2) (.int .i64 ((rd_T31 t260 x101_4).f1))) (fun _ hk => hk.2) (.int .i64 ((rd_T31 t260 x101_4).f2))) (fun _ hk => trivial)⟩, ⟨by repeat (first | (with_reducible first | exact HB.out | apply below_alloc | apply pw_below_drewN | apply below_drew1 | refine below_set ?_ GE280.out) | exact HB.out)⟩⟩
                       ·rw [if_neg c63] at H
                        exact absurd H (by simp)
                      ·rw [if_neg c62] at H
                       exact absurd H (by simp)
                     ·rw [if_neg c60] at H
                      have c60b0 : decide (0 < x101_4) = false := decide_eq_false c60
                      clear c60
                      have H' := Aside0.mk H
                      clear H
                      have p279 : 0 ≤ (x101_4 : Int) := of_decide_eq_true aO
                      have q279 : x101_4 < (t260.length : Int) := of_decide_eq_true aO
                      obtain ⟨ad279, e279, hx279_0, hx279_1, hx279_2⟩ := at_T31 (Kd.R_reads' HO_99.out).2.2 x101_4 p279 q279
                      cases e279
                      replace p279 := eq_true p279
                      replace q279 := eq_true q279
                      go_wp2_with (first | ((with_reducible refine gate_dst (N := 11) rfl ?_); (try (refine gate_guard (by rfl) ?_; dsimp only)); refine box_event ?hg (N := 11) ?hd (cs := #[.int .i64 0, .int .i64 0, .int .i64 0]) (t := 31) ?hr ?_; (case hd => rfl); (case hg => rfl); (case hr => first | (go_simp; done) | (go_simp; rfl)); intro gb280 hg w69 hbox hb; have n0_ := Aside0.mk (Kd.R_below (Kd.R_elderB (rO HO_3.out) gb280 (Nat.le_of_eq hg.symm)) hb); have n1_ := Aside0.mk (Kd.R_below (Kd.R_elderB (rO HO_99.out) gb280 (Nat.le_of_eq hg.symm)) hb); have n2_ := Aside0.mk (below_step (bO HB.out) hb); have n3_ := Aside0.mk (hbox); have n4_ := Aside0.mk ((by rw [hg]; exact (below_size (bO HB.out)) : w.heap.size ≤ gb280)); have n5_ := Aside0.mk ((by rw [hg]; exact (below_size (bO HB.out)) : w.heap.size ≤ gb280)); clear HO_3; clear HO_99; clear HB; have HO_3 := n0_; have HO_99 := n1_; have HB := n2_; have BK280 := n3_; have GW280 := n4_; have GE280 := n5_; clear n0_ n1_ n2_ n3_ n4_ n5_; (try have hxb279_0 := pw_cell_below hb hx279_0); (try have hxb279_1 := pw_cell_below hb hx279_1); (try have hxb279_2 := pw_cell_below hb hx279_2); (try have hxb279_0 := pw_cell_below hb hx279_0); (try have hxb279_1 := pw_cell_below hb hx279_1); (try have hxb279_2 := pw_cell_below hb hx279_2); (try have hxb279_0 := pw_cell_below hb hx279_0); (try have hxb279_1 := pw_cell_below hb hx279_1); (try have hxb279_2 := pw_cell_below hb hx279_2); (try have hxb279_0 := pw_cell_below hb hx279_0); (try have hxb279_1 := pw_cell_below hb hx279_1); (try have hxb279_2 := pw_cell_below hb hx279_2); (try have hxb279_0 := pw_cell_below hb hx279_0); (try have hxb279_1 := pw_cell_below hb hx279_1); (try have hxb279_2 := pw_cell_below hb hx279_2); clear hb hbox hg; have hcz70_0 : w69.cell? ⟨gb280, 0, none⟩ = some (.int .i64 0) := (blk_cell BK280.out 0).trans rfl; have hcz70_1 : w69.cell? ⟨gb280, 1, none⟩ = some (.int .i64 0) := (blk_cell BK280.out 1).trans rfl; have hcz70_2 : w69.cell? ⟨gb280, 2, none⟩ = some (.int .i64 0) := (blk_cell BK280.out 2).trans rfl; have hfz70_0 := blk_frozen BK280.out 0; have hfz70_1 := blk_frozen BK280.out 1; have hfz70_2 := blk_frozen BK280.out 2))
                      repeat (go_quiet (first | ((with_reducible refine gate_dst (N := 11) rfl ?_); (try (refine gate_guard (by rfl) ?_; dsimp only)); refine box_event ?hg (N := 11) ?hd (cs := #[.int .i64 0, .int .i64 0, .int .i64 0]) (t := 31) ?hr ?_; (case hd => rfl); (case hg => rfl); (case hr => first | (go_simp; done) | (go_simp; rfl)); intro gb280 hg w69 hbox hb; have n0_ := Aside0.mk (Kd.R_below (Kd.R_elderB (rO HO_3.out) gb280 (Nat.le_of_eq hg.symm)) hb); have n1_ := Aside0.mk (Kd.R_below (Kd.R_elderB (rO HO_99.out) gb280 (Nat.le_of_eq hg.symm)) hb); have n2_ := Aside0.mk (below_step (bO HB.out) hb); have n3_ := Aside0.mk (hbox); have n4_ := Aside0.mk ((by rw [hg]; exact (below_size (bO HB.out)) : w.heap.size ≤ gb280)); have n5_ := Aside0.mk ((by rw [hg]; exact (below_size (bO HB.out)) : w.heap.size ≤ gb280)); clear HO_3; clear HO_99; clear HB; have HO_3 := n0_; have HO_99 := n1_; have HB := n2_; have BK280 := n3_; have GW280 := n4_; have GE280 := n5_; clear n0_ n1_ n2_ n3_ n4_ n5_; (try have hxb279_0 := pw_cell_below hb hx279_0); (try have hxb279_1 := pw_cell_below hb hx279_1); (try have hxb279_2 := pw_cell_below hb hx279_2); (try have hxb279_0 := pw_cell_below hb hx279_0); (try have hxb279_1 := pw_cell_below hb hx279_1); (try have hxb279_2 := pw_cell_below hb hx279_2); (try have hxb279_0 := pw_cell_below hb hx279_0); (try have hxb279_1 := pw_cell_below hb hx279_1); (try have hxb279_2 := pw_cell_below hb hx279_2); (try have hxb279_0 := pw_cell_below hb hx279_0); (try have hxb279_1 := pw_cell_below hb hx279_1); (try have hxb279_2 := pw_cell_below hb hx279_2); (try have hxb279_0 := pw_cell_below hb hx279_0); (try have hxb279_1 := pw_cell_below hb hx279_1); (try have hxb279_2 := pw_cell_below hb hx279_2); clear hb hbox hg; have hcz70_0 : w69.cell? ⟨gb280, 0, none⟩ = some (.int .i64 0) := (blk_cell BK280.out 0).trans rfl; have hcz70_1 : w69.cell? ⟨gb280, 1, none⟩ = some (.int .i64 0) := (blk_cell BK280.out 1).trans rfl; have hcz70_2 : w69.cell? ⟨gb280, 2, none⟩ = some (.int .i64 0) := (blk_cell BK280.out 2).trans rfl; have hfz70_0 := blk_frozen BK280.out 0; have hfz70_1 := blk_frozen BK280.out 1; have hfz70_2 := blk_frozen BK280.out 2)); try go_wp2_with (first | ((with_reducible refine gate_dst (N := 11) rfl ?_); (try (refine gate_guard (by rfl) ?_; dsimp only)); refine box_event ?hg (N := 11) ?hd (cs := #[.int .i64 0, .int .i64 0, .int .i64 0]) (t := 31) ?hr ?_; (case hd => rfl); (case hg => rfl); (case hr => first | (go_simp; done) | (go_simp; rfl)); intro gb280 hg w69 hbox hb; have n0_ := Aside0.mk (Kd.R_below (Kd.R_elderB (rO HO_3.out) gb280 (Nat.le_of_eq hg.symm)) hb); have n1_ := Aside0.mk (Kd.R_below (Kd.R_elderB (rO HO_99.out) gb280 (Nat.le_of_eq hg.symm)) hb); have n2_ := Aside0.mk (below_step (bO HB.out) hb); have n3_ := Aside0.mk (hbox); have n4_ := Aside0.mk ((by rw [hg]; exact (below_size (bO HB.out)) : w.heap.size ≤ gb280)); have n5_ := Aside0.mk ((by rw [hg]; exact (below_size (bO HB.out)) : w.heap.size ≤ gb280)); clear HO_3; clear HO_99; clear HB; have HO_3 := n0_; have HO_99 := n1_; have HB := n2_; have BK280 := n3_; have GW280 := n4_; have GE280 := n5_; clear n0_ n1_ n2_ n3_ n4_ n5_; (try have hxb279_0 := pw_cell_below hb hx279_0); (try have hxb279_1 := pw_cell_below hb hx279_1); (try have hxb279_2 := pw_cell_below hb hx279_2); (try have hxb279_0 := pw_cell_below hb hx279_0); (try have hxb279_1 := pw_cell_below hb hx279_1); (try have hxb279_2 := pw_cell_below hb hx279_2); (try have hxb279_0 := pw_cell_below hb hx279_0); (try have hxb279_1 := pw_cell_below hb hx279_1); (try have hxb279_2 := pw_cell_below hb hx279_2); (try have hxb279_0 := pw_cell_below hb hx279_0); (try have hxb279_1 := pw_cell_below hb hx279_1); (try have hxb279_2 := pw_cell_below hb hx279_2); (try have hxb279_0 := pw_cell_below hb hx279_0); (try have hxb279_1 := pw_cell_below hb hx279_1); (try have hxb279_2 := pw_cell_below hb hx279_2); clear hb hbox hg; have hcz70_0 : w69.cell? ⟨gb280, 0, none⟩ = some (.int .i64 0) := (blk_cell BK280.out 0).trans rfl; have hcz70_1 : w69.cell? ⟨gb280, 1, none⟩ = some (.int .i64 0) := (blk_cell BK280.out 1).trans rfl; have hcz70_2 : w69.cell? ⟨gb280, 2, none⟩ = some (.int .i64 0) := (blk_cell BK280.out 2).trans rfl; have hfz70_0 := blk_frozen BK280.out 0; have hfz70_1 := blk_frozen BK280.out 1; have hfz70_2 := blk_frozen BK280.out 2)))
                      go_roundg k4
                      case measure => have := HJ6.out; have := HK2.out; have := HJ23.out; have := HK4.out; omega
                      case rel => exact ⟨(wrap64 (x101_4 + 1)), (by first | rfl | (simp; done) | (simp [*]; done)), H', ⟨by have := HJ6.out; have := HK2.out; have := HJ23.out; have := HK4.out; omega⟩, ⟨by (with_reducible repeat (first | apply Kd.R_alloc | apply Kd.R_drewN | apply Kd.R_drew)); exact Kd.R_mono (Kd.R_far (p := ⟨gb280, 2, none⟩) (Kd.R_far (p := ⟨gb280, 1, none⟩) (Kd.R_far (p := ⟨gb280, 0, none⟩) (Kd.R_mono HO_3.out (fun k_ hk => (⟨hk, hk.2⟩ : _ ∧ k_ ≠ gb280))) (fun _ hk => hk.2) (.int .i64 ((rd_T31 t260 x101_4).f0))) (fun _ hk => hk.2) (.int .i64 ((rd_T31 t260 x101_4).f1))) (fun _ hk => hk.2) (.int .i64 ((rd_T31 t260 x101_4).f2))) (fun _ hk => trivial)⟩, ⟨by (with_reducible repeat (first | apply Kd.R_alloc | apply Kd.R_drewN | apply Kd.R_drew)); exact Kd.R_mono (Kd.R_far (p := ⟨gb280, 2, none⟩) (Kd.R_far (p := ⟨gb280, 1, none⟩) (Kd.R_far (p := ⟨gb280, 0, none⟩) (Kd.R_mono HO_99.out (fun k_ hk => (⟨hk, hk.2⟩ : _ ∧ k_ ≠ gb280))) (fun _ hk => hk.2) (.int .i64 ((rd_T31 t260 x101_4).f0))) (fun _ hk => hk.2) (.int .i64 ((rd_T31 t260 x101_4).f1))) (fun _ hk => hk.2) (.int .i64 ((rd_T31 t260 x101_4).f2))) (fun _ hk => trivial)⟩, ⟨by repeat (first | (with_reducible first | exact HB.out | apply below_alloc | apply pw_below_drewN | apply below_drew1 | refine below_set ?_ GE280.out) | exact HB.out)⟩⟩
                  ·rw [if_neg c53] at H
                   have c53b0 : ((Go.bits .andNot .i64 ((rd_T31 t260 x101_4).f1) ((rd_T31 t260 x101_4).f0)) == 0) = false := beq_eq_false_iff_ne.mpr c53
                   have c53b1 : ((Go.bits .andNot .i64 ((rd_T31 t260 x101_4).f1) ((rd_T31 t260 x101_4).f0)) != 0) = true := bne_iff_ne.mpr c53
                   obtain rfl := Option.some.inj H
                   have p279 : 0 ≤ (x101_4 : Int) := of_decide_eq_true aO
                   have q279 : x101_4 < (t260.length : Int) := of_decide_eq_true aO
                   obtain ⟨ad279, e279, hx279_0, hx279_1, hx279_2⟩ := at_T31 (Kd.R_reads' HO_99.out).2.2 x101_4 p279 q279
                   cases e279
                   replace p279 := eq_true p279
                   replace q279 := eq_true q279
                   go_wp2_with (first | ((with_reducible refine gate_dst (N := 11) rfl ?_); (try (refine gate_guard (by rfl) ?_; dsimp only)); refine box_event ?hg (N := 11) ?hd (cs := #[.int .i64 0, .int .i64 0, .int .i64 0]) (t := 31) ?hr ?_; (case hd => rfl); (case hg => rfl); (case hr => first | (go_simp; done) | (go_simp; rfl)); intro gb280 hg w71 hbox hb; have n0_ := Aside0.mk (Kd.R_below (Kd.R_elderB (rO HO_3.out) gb280 (Nat.le_of_eq hg.symm)) hb); have n1_ := Aside0.mk (Kd.R_below (Kd.R_elderB (rO HO_99.out) gb280 (Nat.le_of_eq hg.symm)) hb); have n2_ := Aside0.mk (below_step (bO HB.out) hb); have n3_ := Aside0.mk (hbox); have n4_ := Aside0.mk ((by rw [hg]; exact (below_size (bO HB.out)) : w.heap.size ≤ gb280)); have n5_ := Aside0.mk ((by rw [hg]; exact (below_size (bO HB.out)) : w.heap.size ≤ gb280)); clear HO_3; clear HO_99; clear HB; have HO_3 := n0_; have HO_99 := n1_; have HB := n2_; have BK280 := n3_; have GW280 := n4_; have GE280 := n5_; clear n0_ n1_ n2_ n3_ n4_ n5_; (try have hxb279_0 := pw_cell_below hb hx279_0); (try have hxb279_1 := pw_cell_below hb hx279_1); (try have hxb279_2 := pw_cell_below hb hx279_2); (try have hxb279_0 := pw_cell_below hb hx279_0); (try have hxb279_1 := pw_cell_below hb hx279_1); (try have hxb279_2 := pw_cell_below hb hx279_2); (try have hxb279_0 := pw_cell_below hb hx279_0); (try have hxb279_1 := pw_cell_below hb hx279_1); (try have hxb279_2 := pw_cell_below hb hx279_2); (try have hxb279_0 := pw_cell_below hb hx279_0); (try have hxb279_1 := pw_cell_below hb hx279_1); (try have hxb279_2 := pw_cell_below hb hx279_2); (try have hxb279_0 := pw_cell_below hb hx279_0); (try have hxb279_1 := pw_cell_below hb hx279_1); (try have hxb279_2 := pw_cell_below hb hx279_2); (try have hxb279_0 := pw_cell_below hb hx279_0); (try have hxb279_1 := pw_cell_below hb hx279_1); (try have hxb279_2 := pw_cell_below hb hx279_2); clear hb hbox hg; have hcz72_0 : w71.cell? ⟨gb280, 0, none⟩ = some (.int .i64 0) := (blk_cell BK280.out 0).trans rfl; have hcz72_1 : w71.cell? ⟨gb280, 1, none⟩ = some (.int .i64 0) := (blk_cell BK280.out 1).trans rfl; have hcz72_2 : w71.cell? ⟨gb280, 2, none⟩ = some (.int .i64 0) := (blk_cell BK280.out 2).trans rfl; have hfz72_0 := blk_frozen BK280.out 0; have hfz72_1 := blk_frozen BK280.out 1; have hfz72_2 := blk_frozen BK280.out 2))
                   repeat (go_quiet (first | ((with_reducible refine gate_dst (N := 11) rfl ?_); (try (refine gate_guard (by rfl) ?_; dsimp only)); refine box_event ?hg (N := 11) ?hd (cs := #[.int .i64 0, .int .i64 0, .int .i64 0]) (t := 31) ?hr ?_; (case hd => rfl); (case hg => rfl); (case hr => first | (go_simp; done) | (go_simp; rfl)); intro gb280 hg w71 hbox hb; have n0_ := Aside0.mk (Kd.R_below (Kd.R_elderB (rO HO_3.out) gb280 (Nat.le_of_eq hg.symm)) hb); have n1_ := Aside0.mk (Kd.R_below (Kd.R_elderB (rO HO_99.out) gb280 (Nat.le_of_eq hg.symm)) hb); have n2_ := Aside0.mk (below_step (bO HB.out) hb); have n3_ := Aside0.mk (hbox); have n4_ := Aside0.mk ((by rw [hg]; exact (below_size (bO HB.out)) : w.heap.size ≤ gb280)); have n5_ := Aside0.mk ((by rw [hg]; exact (below_size (bO HB.out)) : w.heap.size ≤ gb280)); clear HO_3; clear HO_99; clear HB; have HO_3 := n0_; have HO_99 := n1_; have HB := n2_; have BK280 := n3_; have GW280 := n4_; have GE280 := n5_; clear n0_ n1_ n2_ n3_ n4_ n5_; (try have hxb279_0 := pw_cell_below hb hx279_0); (try have hxb279_1 := pw_cell_below hb hx279_1); (try have hxb279_2 := pw_cell_below hb hx279_2); (try have hxb279_0 := pw_cell_below hb hx279_0); (try have hxb279_1 := pw_cell_below hb hx279_1); (try have hxb279_2 := pw_cell_below hb hx279_2); (try have hxb279_0 := pw_cell_below hb hx279_0); (try have hxb279_1 := pw_cell_below hb hx279_1); (try have hxb279_2 := pw_cell_below hb hx279_2); (try have hxb279_0 := pw_cell_below hb hx279_0); (try have hxb279_1 := pw_cell_below hb hx279_1); (try have hxb279_2 := pw_cell_below hb hx279_2); (try have hxb279_0 := pw_cell_below hb hx279_0); (try have hxb279_1 := pw_cell_below hb hx279_1); (try have hxb279_2 := pw_cell_below hb hx279_2); (try have hxb279_0 := pw_cell_below hb hx279_0); (try have hxb279_1 := pw_cell_below hb hx279_1); (try have hxb279_2 := pw_cell_below hb hx279_2); clear hb hbox hg; have hcz72_0 : w71.cell? ⟨gb280, 0, none⟩ = some (.int .i64 0) := (blk_cell BK280.out 0).trans rfl; have hcz72_1 : w71.cell? ⟨gb280, 1, none⟩ = some (.int .i64 0) := (blk_cell BK280.out 1).trans rfl; have hcz72_2 : w71.cell? ⟨gb280, 2, none⟩ = some (.int .i64 0) := (blk_cell BK280.out 2).trans rfl; have hfz72_0 := blk_frozen BK280.out 0; have hfz72_1 := blk_frozen BK280.out 1; have hfz72_2 := blk_frozen BK280.out 2)); try go_wp2_with (first | ((with_reducible refine gate_dst (N := 11) rfl ?_); (try (refine gate_guard (by rfl) ?_; dsimp only)); refine box_event ?hg (N := 11) ?hd (cs := #[.int .i64 0, .int .i64 0, .int .i64 0]) (t := 31) ?hr ?_; (case hd => rfl); (case hg => rfl); (case hr => first | (go_simp; done) | (go_simp; rfl)); intro gb280 hg w71 hbox hb; have n0_ := Aside0.mk (Kd.R_below (Kd.R_elderB (rO HO_3.out) gb280 (Nat.le_of_eq hg.symm)) hb); have n1_ := Aside0.mk (Kd.R_below (Kd.R_elderB (rO HO_99.out) gb280 (Nat.le_of_eq hg.symm)) hb); have n2_ := Aside0.mk (below_step (bO HB.out) hb); have n3_ := Aside0.mk (hbox); have n4_ := Aside0.mk ((by rw [hg]; exact (below_size (bO HB.out)) : w.heap.size ≤ gb280)); have n5_ := Aside0.mk ((by rw [hg]; exact (below_size (bO HB.out)) : w.heap.size ≤ gb280)); clear HO_3; clear HO_99; clear HB; have HO_3 := n0_; have HO_99 := n1_; have HB := n2_; have BK280 := n3_; have GW280 := n4_; have GE280 := n5_; clear n0_ n1_ n2_ n3_ n4_ n5_; (try have hxb279_0 := pw_cell_below hb hx279_0); (try have hxb279_1 := pw_cell_below hb hx279_1); (try have hxb279_2 := pw_cell_below hb hx279_2); (try have hxb279_0 := pw_cell_below hb hx279_0); (try have hxb279_1 := pw_cell_below hb hx279_1); (try have hxb279_2 := pw_cell_below hb hx279_2); (try have hxb279_0 := pw_cell_below hb hx279_0); (try have hxb279_1 := pw_cell_below hb hx279_1); (try have hxb279_2 := pw_cell_below hb hx279_2); (try have hxb279_0 := pw_cell_below hb hx279_0); (try have hxb279_1 := pw_cell_below hb hx279_1); (try have hxb279_2 := pw_cell_below hb hx279_2); (try have hxb279_0 := pw_cell_below hb hx279_0); (try have hxb279_1 := pw_cell_below hb hx279_1); (try have hxb279_2 := pw_cell_below hb hx279_2); (try have hxb279_0 := pw_cell_below hb hx279_0); (try have hxb279_1 := pw_cell_below hb hx279_1); (try have hxb279_2 := pw_cell_below hb hx279_2); clear hb hbox hg; have hcz72_0 : w71.cell? ⟨gb280, 0, none⟩ = some (.int .i64 0) := (blk_cell BK280.out 0).trans rfl; have hcz72_1 : w71.cell? ⟨gb280, 1, none⟩ = some (.int .i64 0) := (blk_cell BK280.out 1).trans rfl; have hcz72_2 : w71.cell? ⟨gb280, 2, none⟩ = some (.int .i64 0) := (blk_cell BK280.out 2).trans rfl; have hfz72_0 := blk_frozen BK280.out 0; have hfz72_1 := blk_frozen BK280.out 1; have hfz72_2 := blk_frozen BK280.out 2)))
                   go_ret
                   exact ⟨by first | rfl | (simp [errW_none, errW_some] <;> rfl) | (simp [*, errW_none, errW_some] <;> rfl), by repeat (first | (with_reducible first | exact HB.out | apply below_alloc | apply pw_below_drewN | apply below_drew1 | refine below_set ?_ GE280.out) | exact HB.out)⟩
                 ·rw [if_neg c52] at H
                  exact absurd H (by simp)
                ·rw [if_neg c51] at H
                 exact absurd H (by simp)
               ·rw [if_neg c50] at H
                have c50b0 : decide (x101_4 < (t260.length : Int)) = false := decide_eq_false c50
                clear c50
                have H' := Aside0.mk H
                clear H
                go_wp2
                repeat (go_quiet (fail); try go_wp2)
                go_loopg [142] k4 (fun kq v142 w' => ∃ (x142_5 : Int), v142 = .int .i64 x142_5 ∧ Aside0 (tabardlaw11_RowBack.l3 kq t260 l0 (l0.length : Int) x142_5 = some r) ∧ Aside0 (kq ≤ k4) ∧ Aside0 (Kd.R k31 31 w' w.heap.size (fun _ => True) (.slice Ao28 t260.length co28) t260) ∧ Aside0 (Below w.heap.size w w'))
                case atStart => exact ⟨(0), (by first | rfl | (simp; done) | (simp [*]; done)), H', ⟨Nat.le_refl _⟩, ⟨rO HO_3.out⟩, ⟨bO HB.out⟩⟩
                case round =>
                 clear H'
                 try clear c1
                 try clear c2
                 try clear p2
                 try clear q2
                 try clear hx2
                 try clear c3
                 try clear c4
                 try clear c5
                 try clear c6
                 try clear c6b0
                 try clear c6b1
                 try clear p6
                 try clear c7
                 try clear c14
                 try clear c14b0
                 try clear c14b1
                 try clear c16
                 try clear c16b0
                 try clear c17
                 try clear c17b0
                 try clear c18
                 try clear c18b0
                 try clear c19
                 try clear c19b0
                 try clear c20
                 try clear c20b0
                 try clear c22
                 try clear p26
                 try clear q26
                 try clear hx26
                 try clear p27
                 try clear q27
                 try clear hx27
                 try clear p28
                 try clear q28
                 try clear hx28
                 try clear c31
                 try clear c31b0
                 try clear c31b1
                 try clear c33
                 try clear c34
                 try clear c34b0
                 try clear c34b1
                 try clear c36
                 try clear c36b0
                 try clear c38
                 try clear c49
                 try clear c50
                 try clear c50b0
                 try clear c51
                 try clear c51b0
                 try clear c52
                 try clear c52b0
                 try clear c53
                 try clear c53b0
                 try clear c53b1
                 try clear c54
                 try clear c54b0
                 try clear c57
                 try clear c57b0
                 try clear c60
                 try clear c60b0
                 try clear c62
                 try clear c62b0
                 try clear c63
                 try clear c63b0
                 try clear c64
                 try clear c64b0
                 try clear p64
                 try clear hcz56_0
                 try clear hcz56_1
                 try clear hcz56_2
                 try clear hcz59_0
                 try clear hcz59_1
                 try clear hcz59_2
                 try clear hcz66_0
                 try clear hcz66_1
                 try clear hcz66_2
                 try clear hcz68_0
                 try clear hcz68_1
                 try clear hcz68_2
                 try clear hcz70_0
                 try clear hcz70_1
                 try clear hcz70_2
                 try clear hcz72_0
                 try clear hcz72_1
                 try clear hcz72_2
                 try clear hfz56_0
                 try clear hfz56_1
                 try clear hfz56_2
                 try clear hfz59_0
                 try clear hfz59_1
                 try clear hfz59_2
                 try clear hfz66_0
                 try clear hfz66_1
                 try clear hfz66_2
                 try clear hfz68_0
                 try clear hfz68_1
                 try clear hfz68_2
                 try clear hfz70_0
                 try clear hfz70_1
                 try clear hfz70_2
                 try clear hfz72_0
                 try clear hfz72_1
                 try clear hfz72_2
                 try clear hx264_0
                 try clear hx279_0
                 try clear hx279_1
                 try clear hx279_2
                 try clear hx281_0
                 try clear hx281_1
                 try clear hx281_2
                 try clear p2
                 try clear p26
                 try clear p264
                 try clear p279
                 try clear p281
                 try clear p6
                 try clear q2
                 try clear q26
                 try clear q264
                 try clear q279
                 try clear q281
                 obtain ⟨x142_5, rfl, HA, HK5, HO_3, HB⟩ := hrel
                 cases gk with
                 | zero => exact absurd HA.out (by simp [tabardlaw11_RowBack.l3])
                 | succ k5 =>
                  have H := HA.out
                  clear HA
                  simp only [tabardlaw11_RowBack.l3] at H
                  by_cases c73 : x142_5 < (l0.length : Int)
                  ·rw [if_pos c73] at H
                   have c73b0 : decide (x142_5 < (l0.length : Int)) = true := decide_eq_true c73
                   clear c73
                   by_cases c74 : 0 ≤ x142_5
                   ·rw [if_pos c74] at H
                    have c74b0 : decide (0 ≤ x142_5) = true := decide_eq_true c74
                    clear c74
                    by_cases c75 : x142_5 < (l0.length : Int)
                    ·rw [if_pos c75] at H
                     have c75b0 : decide (x142_5 < (l0.length : Int)) = true := decide_eq_true c75
                     clear c75
                     have H' := Aside0.mk H
                     clear H
                     have p282 : 0 ≤ (x142_5 : Int) := of_decide_eq_true aO
                     have q282 : x142_5 < (l0.length : Int) := of_decide_eq_true aO
                     obtain ⟨ad282, e282, hx282_0⟩ := Kd.at_int HR0.out x142_5 p282 q282
                     cases e282
                     replace hx282_0 := (HB.out.cell (World.block_lt_of_cell? w _ hx282_0)).trans hx282_0
                     replace p282 := eq_true p282
                     replace q282 := eq_true q282
                     go_wp2
                     repeat (go_quiet (fail); try go_wp2)
                     go_loopg [14, 149] k5 (fun kq v14 v149 w' => ∃ (x14_6 : Int) (x149_6 : Int), v14 = .int .i64 x14_6 ∧ v149 = .int .i64 x149_6 ∧ Aside0 (tabardlaw11_RowBack.l4 kq t260 x142_5 (rd l0 x142_5) x14_6 l0 (l0.length : Int) x142_5 t260 (t260.length : Int) x149_6 = some r) ∧ Aside0 (kq ≤ k5) ∧ Aside0 (Kd.R k31 31 w' w.heap.size (fun _ => True) (.slice Ao28 t260.length co28) t260) ∧ Aside0 (Kd.R k31 31 w' w.heap.size (fun _ => True) (.slice Ao28 t260.length co28) t260) ∧ Aside0 (Below w.heap.size w w'))
                     case atStart => exact ⟨(0), (0), (by first | rfl | (simp; done) | (simp [*]; done)), (by first | rfl | (simp; done) | (simp [*]; done)), H', ⟨Nat.le_refl _⟩, ⟨rO HO_3.out⟩, ⟨rO HO_3.out⟩, ⟨bO HB.out⟩⟩
                     case round =>
                      clear H'
                      try clear c1
                      try clear c2
                      try clear p2
                      try clear q2
                      try clear hx2
                      try clear c3
                      try clear c4
                      try clear c5
                      try clear c6
                      try clear c6b0
                      try clear c6b1
                      try clear p6
                      try clear c7
                      try clear c14
                      try clear c14b0
                      try clear c14b1
                      try clear c16
                      try clear c16b0
                      try clear c17
                      try clear c17b0
                      try clear c18
                      try clear c18b0
                      try clear c19
                      try clear c19b0
                      try clear c20
                      try clear c20b0
                      try clear c22
                      try clear p26
                      try clear q26
                      try clear hx26
                      try clear p27
                      try clear q27
                      try clear hx27
                      try clear p28
                      try clear q28
                      try clear hx28
                      try clear c31
                      try clear c31b0
                      try clear c31b1
                      try clear c33
                      try clear c34
                      try clear c34b0
                      try clear c34b1
                      try clear c36
                      try clear c36b0
                      try clear c38
                      try clear c49
                      try clear c50
                      try clear c50b0
                      try clear c51
                      try clear c51b0
                      try clear c52
                      try clear c52b0
                      try clear c53
                      try clear c53b0
                      try clear c53b1
                      try clear c54
                      try clear c54b0
                      try clear c57
                      try clear c57b0
                      try clear c60
                      try clear c60b0
                      try clear c62
                      try clear c62b0
                      try clear c63
                      try clear c63b0
                      try clear c64
                      try clear c64b0
                      try clear p64
                      try clear c73
                      try clear c73b0
                      try clear c74
                      try clear c74b0
                      try clear c75
                      try clear c75b0
                      try clear hcz56_0
                      try clear hcz56_1
                      try clear hcz56_2
                      try clear hcz59_0
                      try clear hcz59_1
                      try clear hcz59_2
                      try clear hcz66_0
                      try clear hcz66_1
                      try clear hcz66_2
                      try clear hcz68_0
                      try clear hcz68_1
                      try clear hcz68_2
                      try clear hcz70_0
                      try clear hcz70_1
                      try clear hcz70_2
                      try clear hcz72_0
                      try clear hcz72_1
                      try clear hcz72_2
                      try clear hfz56_0
                      try clear hfz56_1
                      try clear hfz56_2
                      try clear hfz59_0
                      try clear hfz59_1
                      try clear hfz59_2
                      try clear hfz66_0
                      try clear hfz66_1
                      try clear hfz66_2
                      try clear hfz68_0
                      try clear hfz68_1
                      try clear hfz68_2
                      try clear hfz70_0
                      try clear hfz70_1
                      try clear hfz70_2
                      try clear hfz72_0
                      try clear hfz72_1
                      try clear hfz72_2
                      try clear hx264_0
                      try clear hx279_0
                      try clear hx279_1
                      try clear hx279_2
                      try clear hx281_0
                      try clear hx281_1
                      try clear hx281_2
                      try clear hx282_0
                      try clear p2
                      try clear p26
                      try clear p264
                      try clear p27
                      try clear p279
                      try clear p28
                      try clear p281
                      try clear p282
                      try clear p6
                      try clear p64
                      try clear q2
                      try clear q26
                      try clear q264
                      try clear q27
                      try clear q279
                      try clear q28
                      try clear q281
                      try clear q282
                      obtain ⟨x14_6, x149_6, rfl, rfl, HA, HK6, HO_3, HO_147, HB⟩ := hrel
                      cases gk with
                      | zero => exact absurd HA.out (by simp [tabardlaw11_RowBack.l4])
                      | succ k6 =>
                       have H := HA.out
                       clear HA
                       simp only [tabardlaw11_RowBack.l4] at H
                       by_cases c76 : x149_6 < (t260.length : Int)
                       ·rw [if_pos c76] at H
                        have c76b0 : decide (x149_6 < (t260.length : Int)) = true := decide_eq_true c76
                        clear c76
                        by_cases c77 : 0 ≤ x149_6
                        ·rw [if_pos c77] at H
                         have c77b0 : decide (0 ≤ x149_6) = true := decide_eq_true c77
                         clear c77
                         by_cases c78 : x149_6 < (t260.length : Int)
                         ·rw [if_pos c78] at H
                          have c78b0 : decide (x149_6 < (t260.length : Int)) = true := decide_eq_true c78
                          clear c78
                          by_cases c79 : (Go.bits .and .i64 x142_5 ((rd_T31 t260 x149_6).f0)) = ((rd_T31 t260 x149_6).f1)
                          ·rw [if_pos c79] at H
                           have c79b0 : ((Go.bits .and .i64 x142_5 ((rd_T31 t260 x149_6).f0)) == ((rd_T31 t260 x149_6).f1)) = true := beq_iff_eq.mpr c79
                           have c79b1 : ((Go.bits .and .i64 x142_5 ((rd_T31 t260 x149_6).f0)) != ((rd_T31 t260 x149_6).f1)) = false := bne_eq_false_iff_eq.mpr c79
                           clear c79
                           have H' := Aside0.mk H
                           clear H
                           have p283 : 0 ≤ (x149_6 : Int) := of_decide_eq_true aO
                           have q283 : x149_6 < (t260.length : Int) := of_decide_eq_true aO
                           obtain ⟨ad283, e283, hx283_0, hx283_1, hx283_2⟩ := at_T31 (Kd.R_reads' HO_147.out).2.2 x149_6 p283 q283
                           cases e283
                           replace p283 := eq_true p283
                           replace q283 := eq_true q283
                           go_wp2_with (first | ((with_reducible refine gate_dst (N := 16) rfl ?_); (try (refine gate_guard (by rfl) ?_; dsimp only)); refine box_event ?hg (N := 16) ?hd (cs := #[.int .i64 0, .int .i64 0, .int .i64 0]) (t := 31) ?hr ?_; (case hd => rfl); (case hg => rfl); (case hr => first | (go_simp; done) | (go_simp; rfl)); intro gb284 hg w80 hbox hb; have n0_ := Aside0.mk (Kd.R_below (Kd.R_elderB (rO HO_3.out) gb284 (Nat.le_of_eq hg.symm)) hb); have n1_ := Aside0.mk (Kd.R_below (Kd.R_elderB (rO HO_147.out) gb284 (Nat.le_of_eq hg.symm)) hb); have n2_ := Aside0.mk (below_step (bO HB.out) hb); have n3_ := Aside0.mk (hbox); have n4_ := Aside0.mk ((by rw [hg]; exact (below_size (bO HB.out)) : w.heap.size ≤ gb284)); have n5_ := Aside0.mk ((by rw [hg]; exact (below_size (bO HB.out)) : w.heap.size ≤ gb284)); clear HO_3; clear HO_147; clear HB; have HO_3 := n0_; have HO_147 := n1_; have HB := n2_; have BK284 := n3_; have GW284 := n4_; have GE284 := n5_; clear n0_ n1_ n2_ n3_ n4_ n5_; (try have hxb279_0 := pw_cell_below hb hx279_0); (try have hxb279_1 := pw_cell_below hb hx279_1); (try have hxb279_2 := pw_cell_below hb hx279_2); (try have hxb279_0 := pw_cell_below hb hx279_0); (try have hxb279_1 := pw_cell_below hb hx279_1); (try have hxb279_2 := pw_cell_below hb hx279_2); (try have hxb279_0 := pw_cell_below hb hx279_0); (try have hxb279_1 := pw_cell_below hb hx279_1); (try have hxb279_2 := pw_cell_below hb hx279_2); (try have hxb279_0 := pw_cell_below hb hx279_0); (try have hxb279_1 := pw_cell_below hb hx279_1); (try have hxb279_2 := pw_cell_below hb hx279_2); (try have hxb279_0 := pw_cell_below hb hx279_0); (try have hxb279_1 := pw_cell_below hb hx279_1); (try have hxb279_2 := pw_cell_below hb hx279_2); (try have hxb279_0 := pw_cell_below hb hx279_0); (try have hxb279_1 := pw_cell_below hb hx279_1); (try have hxb279_2 := pw_cell_below hb hx279_2); (try have hxb283_0 := pw_cell_below hb hx283_0); (try have hxb283_1 := pw_cell_below hb hx283_1); (try have hxb283_2 := pw_cell_below hb hx283_2); clear hb hbox hg; have hcz81_0 : w80.cell? ⟨gb284, 0, none⟩ = some (.int .i64 0) := (blk_cell BK284.out 0).trans rfl; have hcz81_1 : w80.cell? ⟨gb284, 1, none⟩ = some (.int .i64 0) := (blk_cell BK284.out 1).trans rfl; have hcz81_2 : w80.cell? ⟨gb284, 2, none⟩ = some (.int .i64 0) := (blk_cell BK284.out 2).trans rfl; have hfz81_0 := blk_frozen BK284.out 0; have hfz81_1 := blk_frozen BK284.out 1; have hfz81_2 := blk_frozen BK284.out 2))
                           repeat (go_quiet (first | ((with_reducible refine gate_dst (N := 16) rfl ?_); (try (refine gate_guard (by rfl) ?_; dsimp only)); refine box_event ?hg (N := 16) ?hd (cs := #[.int .i64 0, .int .i64 0, .int .i64 0]) (t := 31) ?hr ?_; (case hd => rfl); (case hg => rfl); (case hr => first | (go_simp; done) | (go_simp; rfl)); intro gb284 hg w80 hbox hb; have n0_ := Aside0.mk (Kd.R_below (Kd.R_elderB (rO HO_3.out) gb284 (Nat.le_of_eq hg.symm)) hb); have n1_ := Aside0.mk (Kd.R_below (Kd.R_elderB (rO HO_147.out) gb284 (Nat.le_of_eq hg.symm)) hb); have n2_ := Aside0.mk (below_step (bO HB.out) hb); have n3_ := Aside0.mk (hbox); have n4_ := Aside0.mk ((by rw [hg]; exact (below_size (bO HB.out)) : w.heap.size ≤ gb284)); have n5_ := Aside0.mk ((by rw [hg]; exact (below_size (bO HB.out)) : w.heap.size ≤ gb284)); clear HO_3; clear HO_147; clear HB; have HO_3 := n0_; have HO_147 := n1_; have HB := n2_; have BK284 := n3_; have GW284 := n4_; have GE284 := n5_; clear n0_ n1_ n2_ n3_ n4_ n5_; (try have hxb279_0 := pw_cell_below hb hx279_0); (try have hxb279_1 := pw_cell_below hb hx279_1); (try have hxb279_2 := pw_cell_below hb hx279_2); (try have hxb279_0 := pw_cell_below hb hx279_0); (try have hxb279_1 := pw_cell_below hb hx279_1); (try have hxb279_2 := pw_cell_below hb hx279_2); (try have hxb279_0 := pw_cell_below hb hx279_0); (try have hxb279_1 := pw_cell_below hb hx279_1); (try have hxb279_2 := pw_cell_below hb hx279_2); (try have hxb279_0 := pw_cell_below hb hx279_0); (try have hxb279_1 := pw_cell_below hb hx279_1); (try have hxb279_2 := pw_cell_below hb hx279_2); (try have hxb279_0 := pw_cell_below hb hx279_0); (try have hxb279_1 := pw_cell_below hb hx279_1); (try have hxb279_2 := pw_cell_below hb hx279_2); (try have hxb279_0 := pw_cell_below hb hx279_0); (try have hxb279_1 := pw_cell_below hb hx279_1); (try have hxb279_2 := pw_cell_below hb hx279_2); (try have hxb283_0 := pw_cell_below hb hx283_0); (try have hxb283_1 := pw_cell_below hb hx283_1); (try have hxb283_2 := pw_cell_below hb hx283_2); clear hb hbox hg; have hcz81_0 : w80.cell? ⟨gb284, 0, none⟩ = some (.int .i64 0) := (blk_cell BK284.out 0).trans rfl; have hcz81_1 : w80.cell? ⟨gb284, 1, none⟩ = some (.int .i64 0) := (blk_cell BK284.out 1).trans rfl; have hcz81_2 : w80.cell? ⟨gb284, 2, none⟩ = some (.int .i64 0) := (blk_cell BK284.out 2).trans rfl; have hfz81_0 := blk_frozen BK284.out 0; have hfz81_1 := blk_frozen BK284.out 1; have hfz81_2 := blk_frozen BK284.out 2)); try go_wp2_with (first | ((with_reducible refine gate_dst (N := 16) rfl ?_); (try (refine gate_guard (by rfl) ?_; dsimp only)); refine box_event ?hg (N := 16) ?hd (cs := #[.int .i64 0, .int .i64 0, .int .i64 0]) (t := 31) ?hr ?_; (case hd => rfl); (case hg => rfl); (case hr => first | (go_simp; done) | (go_simp; rfl)); intro gb284 hg w80 hbox hb; have n0_ := Aside0.mk (Kd.R_below (Kd.R_elderB (rO HO_3.out) gb284 (Nat.le_of_eq hg.symm)) hb); have n1_ := Aside0.mk (Kd.R_below (Kd.R_elderB (rO HO_147.out) gb284 (Nat.le_of_eq hg.symm)) hb); have n2_ := Aside0.mk (below_step (bO HB.out) hb); have n3_ := Aside0.mk (hbox); have n4_ := Aside0.mk ((by rw [hg]; exact (below_size (bO HB.out)) : w.heap.size ≤ gb284)); have n5_ := Aside0.mk ((by rw [hg]; exact (below_size (bO HB.out)) : w.heap.size ≤ gb284)); clear HO_3; clear HO_147; clear HB; have HO_3 := n0_; have HO_147 := n1_; have HB := n2_; have BK284 := n3_; have GW284 := n4_; have GE284 := n5_; clear n0_ n1_ n2_ n3_ n4_ n5_; (try have hxb279_0 := pw_cell_below hb hx279_0); (try have hxb279_1 := pw_cell_below hb hx279_1); (try have hxb279_2 := pw_cell_below hb hx279_2); (try have hxb279_0 := pw_cell_below hb hx279_0); (try have hxb279_1 := pw_cell_below hb hx279_1); (try have hxb279_2 := pw_cell_below hb hx279_2); (try have hxb279_0 := pw_cell_below hb hx279_0); (try have hxb279_1 := pw_cell_below hb hx279_1); (try have hxb279_2 := pw_cell_below hb hx279_2); (try have hxb279_0 := pw_cell_below hb hx279_0); (try have hxb279_1 := pw_cell_below hb hx279_1); (try have hxb279_2 := pw_cell_below hb hx279_2); (try have hxb279_0 := pw_cell_below hb hx279_0); (try have hxb279_1 := pw_cell_below hb hx279_1); (try have hxb279_2 := pw_cell_below hb hx279_2); (try have hxb279_0 := pw_cell_below hb hx279_0); (try have hxb279_1 := pw_cell_below hb hx279_1); (try have hxb279_2 := pw_cell_below hb hx279_2); (try have hxb283_0 := pw_cell_below hb hx283_0); (try have hxb283_1 := pw_cell_below hb hx283_1); (try have hxb283_2 := pw_cell_below hb hx283_2); clear hb hbox hg; have hcz81_0 : w80.cell? ⟨gb284, 0, none⟩ = some (.int .i64 0) := (blk_cell BK284.out 0).trans rfl; have hcz81_1 : w80.cell? ⟨gb284, 1, none⟩ = some (.int .i64 0) := (blk_cell BK284.out 1).trans rfl; have hcz81_2 : w80.cell? ⟨gb284, 2, none⟩ = some (.int .i64 0) := (blk_cell BK284.out 2).trans rfl; have hfz81_0 := blk_frozen BK284.out 0; have hfz81_1 := blk_frozen BK284.out 1; have hfz81_2 := blk_frozen BK284.out 2)))
                           go_roundg k6
                           case measure => have := HJ6.out; have := HK2.out; have := HJ23.out; have := HK4.out; have := HK5.out; have := HK6.out; omega
                           case rel => exact ⟨(wrap64 (x14_6 + 1)), (wrap64 (x149_6 + 1)), (by first | rfl | (simp; done) | (simp [*]; done)), (by first | rfl | (simp; done) | (simp [*]; done)), H', ⟨by have := HJ6.out; have := HK2.out; have := HJ23.out; have := HK4.out; have := HK5.out; have := HK6.out; omega⟩, ⟨by (with_reducible repeat (first | apply Kd.R_alloc | apply Kd.R_drewN | apply Kd.R_drew)); exact Kd.R_mono (Kd.R_far (p := ⟨gb284, 2, none⟩) (Kd.R_far (p := ⟨gb284, 1, none⟩) (Kd.R_far (p := ⟨gb284, 0, none⟩) (Kd.R_mono HO_3.out (fun k_ hk => (⟨hk, hk.2⟩ : _ ∧ k_ ≠ gb284))) (fun _ hk => hk.2) (.int .i64 ((rd_T31 t260 x149_6).f0))) (fun _ hk => hk.2) (.int .i64 ((rd_T31 t260 x149_6).f1))) (fun _ hk => hk.2) (.int .i64 ((rd_T31 t260 x149_6).f2))) (fun _ hk => trivial)⟩, ⟨by (with_reducible repeat (first | apply Kd.R_alloc | apply Kd.R_drewN | apply Kd.R_drew)); exact Kd.R_mono (Kd.R_far (p := ⟨gb284, 2, none⟩) (Kd.R_far (p := ⟨gb284, 1, none⟩) (Kd.R_far (p := ⟨gb284, 0, none⟩) (Kd.R_mono HO_147.out (fun k_ hk => (⟨hk, hk.2⟩ : _ ∧ k_ ≠ gb284))) (fun _ hk => hk.2) (.int .i64 ((rd_T31 t260 x149_6).f0))) (fun _ hk => hk.2) (.int .i64 ((rd_T31 t260 x149_6).f1))) (fun _ hk => hk.2) (.int .i64 ((rd_T31 t260 x149_6).f2))) (fun _ hk => trivial)⟩, ⟨by repeat (first | (with_reducible first | exact HB.out | apply below_alloc | apply pw_below_drewN | apply below_drew1 | refine below_set ?_ GE284.out) | exact HB.out)⟩⟩
                          ·rw [if_neg c79] at H
                           have c79b0 : ((Go.bits .and .i64 x142_5 ((rd_T31 t260 x149_6).f0)) == ((rd_T31 t260 x149_6).f1)) = false := beq_eq_false_iff_ne.mpr c79
                           have c79b1 : ((Go.bits .and .i64 x142_5 ((rd_T31 t260 x149_6).f0)) != ((rd_T31 t260 x149_6).f1)) = true := bne_iff_ne.mpr c79
                           have H' := Aside0.mk H
                           clear H
                           have p283 : 0 ≤ (x149_6 : Int) := of_decide_eq_true aO
                           have q283 : x149_6 < (t260.length : Int) := of_decide_eq_true aO
                           obtain ⟨ad283, e283, hx283_0, hx283_1, hx283_2⟩ := at_T31 (Kd.R_reads' HO_147.out).2.2 x149_6 p283 q283
                           cases e283
                           replace p283 := eq_true p283
                           replace q283 := eq_true q283
                           go_wp2_with (first | ((with_reducible refine gate_dst (N := 16) rfl ?_); (try (refine gate_guard (by rfl) ?_; dsimp only)); refine box_event ?hg (N := 16) ?hd (cs := #[.int .i64 0, .int .i64 0, .int .i64 0]) (t := 31) ?hr ?_; (case hd => rfl); (case hg => rfl); (case hr => first | (go_simp; done) | (go_simp; rfl)); intro gb284 hg w82 hbox hb; have n0_ := Aside0.mk (Kd.R_below (Kd.R_elderB (rO HO_3.out) gb284 (Nat.le_of_eq hg.symm)) hb); have n1_ := Aside0.mk (Kd.R_below (Kd.R_elderB (rO HO_147.out) gb284 (Nat.le_of_eq hg.symm)) hb); have n2_ := Aside0.mk (below_step (bO HB.out) hb); have n3_ := Aside0.mk (hbox); have n4_ := Aside0.mk ((by rw [hg]; exact (below_size (bO HB.out)) : w.heap.size ≤ gb284)); have n5_ := Aside0.mk ((by rw [hg]; exact (below_size (bO HB.out)) : w.heap.size ≤ gb284)); clear HO_3; clear HO_147; clear HB; have HO_3 := n0_; have HO_147 := n1_; have HB := n2_; have BK284 := n3_; have GW284 := n4_; have GE284 := n5_; clear n0_ n1_ n2_ n3_ n4_ n5_; (try have hxb279_0 := pw_cell_below hb hx279_0); (try have hxb279_1 := pw_cell_below hb hx279_1); (try have hxb279_2 := pw_cell_below hb hx279_2); (try have hxb279_0 := pw_cell_below hb hx279_0); (try have hxb279_1 := pw_cell_below hb hx279_1); (try have hxb279_2 := pw_cell_below hb hx279_2); (try have hxb279_0 := pw_cell_below hb hx279_0); (try have hxb279_1 := pw_cell_below hb hx279_1); (try have hxb279_2 := pw_cell_below hb hx279_2); (try have hxb279_0 := pw_cell_below hb hx279_0); (try have hxb279_1 := pw_cell_below hb hx279_1); (try have hxb279_2 := pw_cell_below hb hx279_2); (try have hxb279_0 := pw_cell_below hb hx279_0); (try have hxb279_1 := pw_cell_below hb hx279_1); (try have hxb279_2 := pw_cell_below hb hx279_2); (try have hxb279_0 := pw_cell_below hb hx279_0); (try have hxb279_1 := pw_cell_below hb hx279_1); (try have hxb279_2 := pw_cell_below hb hx279_2); (try have hxb283_0 := pw_cell_below hb hx283_0); (try have hxb283_1 := pw_cell_below hb hx283_1); (try have hxb283_2 := pw_cell_below hb hx283_2); (try have hxb283_0 := pw_cell_below hb hx283_0); (try have hxb283_1 := pw_cell_below hb hx283_1); (try have hxb283_2 := pw_cell_below hb hx283_2); clear hb hbox hg; have hcz83_0 : w82.cell? ⟨gb284, 0, none⟩ = some (.int .i64 0) := (blk_cell BK284.out 0).trans rfl; have hcz83_1 : w82.cell? ⟨gb284, 1, none⟩ = some (.int .i64 0) := (blk_cell BK284.out 1).trans rfl; have hcz83_2 : w82.cell? ⟨gb284, 2, none⟩ = some (.int .i64 0) := (blk_cell BK284.out 2).trans rfl; have hfz83_0 := blk_frozen BK284.out 0; have hfz83_1 := blk_frozen BK284.out 1; have hfz83_2 := blk_frozen BK284.out 2))
                           repeat (go_quiet (first | ((with_reducible refine gate_dst (N := 16) rfl ?_); (try (refine gate_guard (by rfl) ?_; dsimp only)); refine box_event ?hg (N := 16) ?hd (cs := #[.int .i64 0, .int .i64 0, .int .i64 0]) (t := 31) ?hr ?_; (case hd => rfl); (case hg => rfl); (case hr => first | (go_simp; done) | (go_simp; rfl)); intro gb284 hg w82 hbox hb; have n0_ := Aside0.mk (Kd.R_below (Kd.R_elderB (rO HO_3.out) gb284 (Nat.le_of_eq hg.symm)) hb); have n1_ := Aside0.mk (Kd.R_below (Kd.R_elderB (rO HO_147.out) gb284 (Nat.le_of_eq hg.symm)) hb); have n2_ := Aside0.mk (below_step (bO HB.out) hb); have n3_ := Aside0.mk (hbox); have n4_ := Aside0.mk ((by rw [hg]; exact (below_size (bO HB.out)) : w.heap.size ≤ gb284)); have n5_ := Aside0.mk ((by rw [hg]; exact (below_size (bO HB.out)) : w.heap.size ≤ gb284)); clear HO_3; clear HO_147; clear HB; have HO_3 := n0_; have HO_147 := n1_; have HB := n2_; have BK284 := n3_; have GW284 := n4_; have GE284 := n5_; clear n0_ n1_ n2_ n3_ n4_ n5_; (try have hxb279_0 := pw_cell_below hb hx279_0); (try have hxb279_1 := pw_cell_below hb hx279_1); (try have hxb279_2 := pw_cell_below hb hx279_2); (try have hxb279_0 := pw_cell_below hb hx279_0); (try have hxb279_1 := pw_cell_below hb hx279_1); (try have hxb279_2 := pw_cell_below hb hx279_2); (try have hxb279_0 := pw_cell_below hb hx279_0); (try have hxb279_1 := pw_cell_below hb hx279_1); (try have hxb279_2 := pw_cell_below hb hx279_2); (try have hxb279_0 := pw_cell_below hb hx279_0); (try have hxb279_1 := pw_cell_below hb hx279_1); (try have hxb279_2 := pw_cell_below hb hx279_2); (try have hxb279_0 := pw_cell_below hb hx279_0); (try have hxb279_1 := pw_cell_below hb hx279_1); (try have hxb279_2 := pw_cell_below hb hx279_2); (try have hxb279_0 := pw_cell_below hb hx279_0); (try have hxb279_1 := pw_cell_below hb hx279_1); (try have hxb279_2 := pw_cell_below hb hx279_2); (try have hxb283_0 := pw_cell_below hb hx283_0); (try have hxb283_1 := pw_cell_below hb hx283_1); (try have hxb283_2 := pw_cell_below hb hx283_2); (try have hxb283_0 := pw_cell_below hb hx283_0); (try have hxb283_1 := pw_cell_below hb hx283_1); (try have hxb283_2 := pw_cell_below hb hx283_2); clear hb hbox hg; have hcz83_0 : w82.cell? ⟨gb284, 0, none⟩ = some (.int .i64 0) := (blk_cell BK284.out 0).trans rfl; have hcz83_1 : w82.cell? ⟨gb284, 1, none⟩ = some (.int .i64 0) := (blk_cell BK284.out 1).trans rfl; have hcz83_2 : w82.cell? ⟨gb284, 2, none⟩ = some (.int .i64 0) := (blk_cell BK284.out 2).trans rfl; have hfz83_0 := blk_frozen BK284.out 0; have hfz83_1 := blk_frozen BK284.out 1; have hfz83_2 := blk_frozen BK284.out 2)); try go_wp2_with (first | ((with_reducible refine gate_dst (N := 16) rfl ?_); (try (refine gate_guard (by rfl) ?_; dsimp only)); refine box_event ?hg (N := 16) ?hd (cs := #[.int .i64 0, .int .i64 0, .int .i64 0]) (t := 31) ?hr ?_; (case hd => rfl); (case hg => rfl); (case hr => first | (go_simp; done) | (go_simp; rfl)); intro gb284 hg w82 hbox hb; have n0_ := Aside0.mk (Kd.R_below (Kd.R_elderB (rO HO_3.out) gb284 (Nat.le_of_eq hg.symm)) hb); have n1_ := Aside0.mk (Kd.R_below (Kd.R_elderB (rO HO_147.out) gb284 (Nat.le_of_eq hg.symm)) hb); have n2_ := Aside0.mk (below_step (bO HB.out) hb); have n3_ := Aside0.mk (hbox); have n4_ := Aside0.mk ((by rw [hg]; exact (below_size (bO HB.out)) : w.heap.size ≤ gb284)); have n5_ := Aside0.mk ((by rw [hg]; exact (below_size (bO HB.out)) : w.heap.size ≤ gb284)); clear HO_3; clear HO_147; clear HB; have HO_3 := n0_; have HO_147 := n1_; have HB := n2_; have BK284 := n3_; have GW284 := n4_; have GE284 := n5_; clear n0_ n1_ n2_ n3_ n4_ n5_; (try have hxb279_0 := pw_cell_below hb hx279_0); (try have hxb279_1 := pw_cell_below hb hx279_1); (try have hxb279_2 := pw_cell_below hb hx279_2); (try have hxb279_0 := pw_cell_below hb hx279_0); (try have hxb279_1 := pw_cell_below hb hx279_1); (try have hxb279_2 := pw_cell_below hb hx279_2); (try have hxb279_0 := pw_cell_below hb hx279_0); (try have hxb279_1 := pw_cell_below hb hx279_1); (try have hxb279_2 := pw_cell_below hb hx279_2); (try have hxb279_0 := pw_cell_below hb hx279_0); (try have hxb279_1 := pw_cell_below hb hx279_1); (try have hxb279_2 := pw_cell_below hb hx279_2); (try have hxb279_0 := pw_cell_below hb hx279_0); (try have hxb279_1 := pw_cell_below hb hx279_1); (try have hxb279_2 := pw_cell_below hb hx279_2); (try have hxb279_0 := pw_cell_below hb hx279_0); (try have hxb279_1 := pw_cell_below hb hx279_1); (try have hxb279_2 := pw_cell_below hb hx279_2); (try have hxb283_0 := pw_cell_below hb hx283_0); (try have hxb283_1 := pw_cell_below hb hx283_1); (try have hxb283_2 := pw_cell_below hb hx283_2); (try have hxb283_0 := pw_cell_below hb hx283_0); (try have hxb283_1 := pw_cell_below hb hx283_1); (try have hxb283_2 := pw_cell_below hb hx283_2); clear hb hbox hg; have hcz83_0 : w82.cell? ⟨gb284, 0, none⟩ = some (.int .i64 0) := (blk_cell BK284.out 0).trans rfl; have hcz83_1 : w82.cell? ⟨gb284, 1, none⟩ = some (.int .i64 0) := (blk_cell BK284.out 1).trans rfl; have hcz83_2 : w82.cell? ⟨gb284, 2, none⟩ = some (.int .i64 0) := (blk_cell BK284.out 2).trans rfl; have hfz83_0 := blk_frozen BK284.out 0; have hfz83_1 := blk_frozen BK284.out 1; have hfz83_2 := blk_frozen BK284.out 2)))
                           go_roundg k6
                           case measure => have := HJ6.out; have := HK2.out; have := HJ23.out; have := HK4.out; have := HK5.out; have := HK6.out; omega
                           case rel => exact ⟨(x14_6), (wrap64 (x149_6 + 1)), (by first | rfl | (simp; done) | (simp [*]; done)), (by first | rfl | (simp; done) | (simp [*]; done)), H', ⟨by have := HJ6.out; have := HK2.out; have := HJ23.out; have := HK4.out; have := HK5.out; have := HK6.out; omega⟩, ⟨by (with_reducible repeat (first | apply Kd.R_alloc | apply Kd.R_drewN | apply Kd.R_drew)); exact Kd.R_mono (Kd.R_far (p := ⟨gb284, 2, none⟩) (Kd.R_far (p := ⟨gb284, 1, none⟩) (Kd.R_far (p := ⟨gb284, 0, none⟩) (Kd.R_mono HO_3.out (fun k_ hk => (⟨hk, hk.2⟩ : _ ∧ k_ ≠ gb284))) (fun _ hk => hk.2) (.int .i64 ((rd_T31 t260 x149_6).f0))) (fun _ hk => hk.2) (.int .i64 ((rd_T31 t260 x149_6).f1))) (fun _ hk => hk.2) (.int .i64 ((rd_T31 t260 x149_6).f2))) (fun _ hk => trivial)⟩, ⟨by (with_reducible repeat (first | apply Kd.R_alloc | apply Kd.R_drewN | apply Kd.R_drew)); exact Kd.R_mono (Kd.R_far (p := ⟨gb284, 2, none⟩) (Kd.R_far (p := ⟨gb284, 1, none⟩) (Kd.R_far (p := ⟨gb284, 0, none⟩) (Kd.R_mono HO_147.out (fun k_ hk => (⟨hk, hk.2⟩ : _ ∧ k_ ≠ gb284))) (fun _ hk => hk.2) (.int .i64 ((rd_T31 t260 x149_6).f0))) (fun _ hk => hk.2) (.int .i64 ((rd_T31 t260 x149_6).f1))) (fun _ hk => hk.2) (.int .i64 ((rd_T31 t260 x149_6).f2))) (fun _ hk => trivial)⟩, ⟨by repeat (first | (with_reducible first | exact HB.out | apply below_alloc | apply pw_below_drewN | apply below_drew1 | refine below_set ?_ GE284.out) | exact HB.out)⟩⟩
                         ·rw [if_neg c78] at H
                          exact absurd H (by simp)
                        ·rw [if_neg c77] at H
                         exact absurd H (by simp)
                       ·rw [if_neg c76] at H
                        have c76b0 : decide (x149_6 < (t260.length : Int)) = false := decide_eq_false c76
                        clear c76
                        replace H := Option.bind_eq_some_iff.mp H
                        obtain ⟨⟨t285, t286⟩, A840, H⟩ := H
                        replace H : (if x14_6 = 1 then (if t286 = true then (if t285 = (rd l0 x142_5) then (tabardlaw11_RowBack.l3 k6 t260 l0 (l0.length : Int) (wrap64 (x142_5 + 1))) else (some false)) else (some false)) else (some false)) = some r := H
                        have A84 := Aside0.mk A840
                        clear A840
                        by_cases c85 : x14_6 = 1
                        ·rw [if_pos c85] at H
                         have c85b0 : (x14_6 == 1) = true := beq_iff_eq.mpr c85
                         have c85b1 : (x14_6 != 1) = false := bne_eq_false_iff_eq.mpr c85
                         clear c85
                         by_cases c86 : t286 = true
                         ·subst c86
                          have H1 : (if t285 = (rd l0 x142_5) then (tabardlaw11_RowBack.l3 k6 t260 l0 (l0.length : Int) (wrap64 (x142_5 + 1))) else (some false)) = some r := by rw [if_pos rfl] at H; exact H
                          clear H
                          have H := H1
                          clear H1
                          by_cases c87 : t285 = (rd l0 x142_5)
                          ·rw [if_pos c87] at H
                           have c87b0 : (t285 == (rd l0 x142_5)) = true := beq_iff_eq.mpr c87
                           have c87b1 : (t285 != (rd l0 x142_5)) = false := bne_eq_false_iff_eq.mpr c87
                           clear c87
                           have H' := Aside0.mk H
                           clear H
                           go_wp2_with (first | (go_at_call 16; (with_reducible refine (row_At.calls k6 _ _ t260 x142_5 t285 true _ ?side1 ?side2 A84.out).mono ?_); (case side1 => exact cO (Kd.R_reads' HO_3.out).2.2); (case side2 => exact (Kd.R_reads' HO_3.out).2.1); rintro e w88 ⟨rfl, hb⟩; have n0_ := Aside0.mk (Kd.R_below (rO HO_3.out) hb); have n1_ := Aside0.mk (Kd.R_below (rO HO_147.out) hb); have n2_ := Aside0.mk (below_step (bO HB.out) hb); clear HO_3; clear HO_147; clear HB; have HO_3 := n0_; have HO_147 := n1_; have HB := n2_; clear n0_ n1_ n2_; (try clear hb); (try clear hb2); (try clear hk); (try clear hi)))
                           repeat (go_quiet (first | (go_at_call 16; (with_reducible refine (row_At.calls k6 _ _ t260 x142_5 t285 true _ ?side1 ?side2 A84.out).mono ?_); (case side1 => exact cO (Kd.R_reads' HO_3.out).2.2); (case side2 => exact (Kd.R_reads' HO_3.out).2.1); rintro e w88 ⟨rfl, hb⟩; have n0_ := Aside0.mk (Kd.R_below (rO HO_3.out) hb); have n1_ := Aside0.mk (Kd.R_below (rO HO_147.out) hb); have n2_ := Aside0.mk (below_step (bO HB.out) hb); clear HO_3; clear HO_147; clear HB; have HO_3 := n0_; have HO_147 := n1_; have HB := n2_; clear n0_ n1_ n2_; (try clear hb); (try clear hb2); (try clear hk); (try clear hi))); try go_wp2_with (first | (go_at_call 16; (with_reducible refine (row_At.calls k6 _ _ t260 x142_5 t285 true _ ?side1 ?side2 A84.out).mono ?_); (case side1 => exact cO (Kd.R_reads' HO_3.out).2.2); (case side2 => exact (Kd.R_reads' HO_3.out).2.1); rintro e w88 ⟨rfl, hb⟩; have n0_ := Aside0.mk (Kd.R_below (rO HO_3.out) hb); have n1_ := Aside0.mk (Kd.R_below (rO HO_147.out) hb); have n2_ := Aside0.mk (below_step (bO HB.out) hb); clear HO_3; clear HO_147; clear HB; have HO_3 := n0_; have HO_147 := n1_; have HB := n2_; clear n0_ n1_ n2_; (try clear hb); (try clear hb2); (try clear hk); (try clear hi))))
                           go_roundg k6
                           case measure => have := HJ6.out; have := HK2.out; have := HJ23.out; have := HK4.out; have := HK5.out; have := HK6.out; omega
                           case rel => exact ⟨(wrap64 (x142_5 + 1)), (by first | rfl | (simp; done) | (simp [*]; done)), H', ⟨by have := HJ6.out; have := HK2.out; have := HJ23.out; have := HK4.out; have := HK5.out; have := HK6.out; omega⟩, ⟨rO HO_3.out⟩, ⟨bO HB.out⟩⟩
                          ·rw [if_neg c87] at H
                           have c87b0 : (t285 == (rd l0 x142_5)) = false := beq_eq_false_iff_ne.mpr c87
                           have c87b1 : (t285 != (rd l0 x142_5)) = true := bne_iff_ne.mpr c87
                           obtain rfl := Option.some.inj H
                           go_wp2_with (first | (go_at_call 16; (with_reducible refine (row_At.calls k6 _ _ t260 x142_5 t285 true _ ?side1 ?side2 A84.out).mono ?_); (case side1 => exact cO (Kd.R_reads' HO_3.out).2.2); (case side2 => exact (Kd.R_reads' HO_3.out).2.1); rintro e w89 ⟨rfl, hb⟩; have n0_ := Aside0.mk (Kd.R_below (rO HO_3.out) hb); have n1_ := Aside0.mk (Kd.R_below (rO HO_147.out) hb); have n2_ := Aside0.mk (below_step (bO HB.out) hb); clear HO_3; clear HO_147; clear HB; have HO_3 := n0_; have HO_147 := n1_; have HB := n2_; clear n0_ n1_ n2_; (try clear hb); (try clear hb2); (try clear hk); (try clear hi)))
                           repeat (go_quiet (first | (go_at_call 16; (with_reducible refine (row_At.calls k6 _ _ t260 x142_5 t285 true _ ?side1 ?side2 A84.out).mono ?_); (case side1 => exact cO (Kd.R_reads' HO_3.out).2.2); (case side2 => exact (Kd.R_reads' HO_3.out).2.1); rintro e w89 ⟨rfl, hb⟩; have n0_ := Aside0.mk (Kd.R_below (rO HO_3.out) hb); have n1_ := Aside0.mk (Kd.R_below (rO HO_147.out) hb); have n2_ := Aside0.mk (below_step (bO HB.out) hb); clear HO_3; clear HO_147; clear HB; have HO_3 := n0_; have HO_147 := n1_; have HB := n2_; clear n0_ n1_ n2_; (try clear hb); (try clear hb2); (try clear hk); (try clear hi))); try go_wp2_with (first | (go_at_call 16; (with_reducible refine (row_At.calls k6 _ _ t260 x142_5 t285 true _ ?side1 ?side2 A84.out).mono ?_); (case side1 => exact cO (Kd.R_reads' HO_3.out).2.2); (case side2 => exact (Kd.R_reads' HO_3.out).2.1); rintro e w89 ⟨rfl, hb⟩; have n0_ := Aside0.mk (Kd.R_below (rO HO_3.out) hb); have n1_ := Aside0.mk (Kd.R_below (rO HO_147.out) hb); have n2_ := Aside0.mk (below_step (bO HB.out) hb); clear HO_3; clear HO_147; clear HB; have HO_3 := n0_; have HO_147 := n1_; have HB := n2_; clear n0_ n1_ n2_; (try clear hb); (try clear hb2); (try clear hk); (try clear hi))))
                           go_ret
                           exact ⟨by first | rfl | (simp [errW_none, errW_some] <;> rfl) | (simp [*, errW_none, errW_some] <;> rfl), bO HB.out⟩
                         ·replace c86 := Bool.eq_false_iff.mpr c86
                          subst c86
                          have H1 : (some false) = some r := by rw [if_neg (show ¬ (false = true) by decide)] at H; exact H
                          clear H
                          have H := H1
                          clear H1
                          obtain rfl := Option.some.inj H
                          go_wp2_with (first | (go_at_call 16; (with_reducible refine (row_At.calls k6 _ _ t260 x142_5 t285 false _ ?side1 ?side2 A84.out).mono ?_); (case side1 => exact cO (Kd.R_reads' HO_3.out).2.2); (case side2 => exact (Kd.R_reads' HO_3.out).2.1); rintro e w90 ⟨rfl, hb⟩; have n0_ := Aside0.mk (Kd.R_below (rO HO_3.out) hb); have n1_ := Aside0.mk (Kd.R_below (rO HO_147.out) hb); have n2_ := Aside0.mk (below_step (bO HB.out) hb); clear HO_3; clear HO_147; clear HB; have HO_3 := n0_; have HO_147 := n1_; have HB := n2_; clear n0_ n1_ n2_; (try clear hb); (try clear hb2); (try clear hk); (try clear hi)))
                          repeat (go_quiet (first | (go_at_call 16; (with_reducible refine (row_At.calls k6 _ _ t260 x142_5 t285 false _ ?side1 ?side2 A84.out).mono ?_); (case side1 => exact cO (Kd.R_reads' HO_3.out).2.2); (case side2 => exact (Kd.R_reads' HO_3.out).2.1); rintro e w90 ⟨rfl, hb⟩; have n0_ := Aside0.mk (Kd.R_below (rO HO_3.out) hb); have n1_ := Aside0.mk (Kd.R_below (rO HO_147.out) hb); have n2_ := Aside0.mk (below_step (bO HB.out) hb); clear HO_3; clear HO_147; clear HB; have HO_3 := n0_; have HO_147 := n1_; have HB := n2_; clear n0_ n1_ n2_; (try clear hb); (try clear hb2); (try clear hk); (try clear hi))); try go_wp2_with (first | (go_at_call 16; (with_reducible refine (row_At.calls k6 _ _ t260 x142_5 t285 false _ ?side1 ?side2 A84.out).mono ?_); (case side1 => exact cO (Kd.R_reads' HO_3.out).2.2); (case side2 => exact (Kd.R_reads' HO_3.out).2.1); rintro e w90 ⟨rfl, hb⟩; have n0_ := Aside0.mk (Kd.R_below (rO HO_3.out) hb); have n1_ := Aside0.mk (Kd.R_below (rO HO_147.out) hb); have n2_ := Aside0.mk (below_step (bO HB.out) hb); clear HO_3; clear HO_147; clear HB; have HO_3 := n0_; have HO_147 := n1_; have HB := n2_; clear n0_ n1_ n2_; (try clear hb); (try clear hb2); (try clear hk); (try clear hi))))
                          go_ret
                          exact ⟨by first | rfl | (simp [errW_none, errW_some] <;> rfl) | (simp [*, errW_none, errW_some] <;> rfl), bO HB.out⟩
                        ·rw [if_neg c85] at H
                         have c85b0 : (x14_6 == 1) = false := beq_eq_false_iff_ne.mpr c85
                         have c85b1 : (x14_6 != 1) = true := bne_iff_ne.mpr c85
                         obtain rfl := Option.some.inj H
                         go_wp2_with (first | (go_at_call 16; (with_reducible refine (row_At.calls k6 _ _ t260 x142_5 t285 t286 _ ?side1 ?side2 A84.out).mono ?_); (case side1 => exact cO (Kd.R_reads' HO_3.out).2.2); (case side2 => exact (Kd.R_reads' HO_3.out).2.1); rintro e w91 ⟨rfl, hb⟩; have n0_ := Aside0.mk (Kd.R_below (rO HO_3.out) hb); have n1_ := Aside0.mk (Kd.R_below (rO HO_147.out) hb); have n2_ := Aside0.mk (below_step (bO HB.out) hb); clear HO_3; clear HO_147; clear HB; have HO_3 := n0_; have HO_147 := n1_; have HB := n2_; clear n0_ n1_ n2_; (try clear hb); (try clear hb2); (try clear hk); (try clear hi)))
                         repeat (go_quiet (first | (go_at_call 16; (with_reducible refine (row_At.calls k6 _ _ t260 x142_5 t285 t286 _ ?side1 ?side2 A84.out).mono ?_); (case side1 => exact cO (Kd.R_reads' HO_3.out).2.2); (case side2 => exact (Kd.R_reads' HO_3.out).2.1); rintro e w91 ⟨rfl, hb⟩; have n0_ := Aside0.mk (Kd.R_below (rO HO_3.out) hb); have n1_ := Aside0.mk (Kd.R_below (rO HO_147.out) hb); have n2_ := Aside0.mk (below_step (bO HB.out) hb); clear HO_3; clear HO_147; clear HB; have HO_3 := n0_; have HO_147 := n1_; have HB := n2_; clear n0_ n1_ n2_; (try clear hb); (try clear hb2); (try clear hk); (try clear hi))); try go_wp2_with (first | (go_at_call 16; (with_reducible refine (row_At.calls k6 _ _ t260 x142_5 t285 t286 _ ?side1 ?side2 A84.out).mono ?_); (case side1 => exact cO (Kd.R_reads' HO_3.out).2.2); (case side2 => exact (Kd.R_reads' HO_3.out).2.1); rintro e w91 ⟨rfl, hb⟩; have n0_ := Aside0.mk (Kd.R_below (rO HO_3.out) hb); have n1_ := Aside0.mk (Kd.R_below (rO HO_147.out) hb); have n2_ := Aside0.mk (below_step (bO HB.out) hb); clear HO_3; clear HO_147; clear HB; have HO_3 := n0_; have HO_147 := n1_; have HB := n2_; clear n0_ n1_ n2_; (try clear hb); (try clear hb2); (try clear hk); (try clear hi))))
                         go_ret
                         exact ⟨by first | rfl | (simp [errW_none, errW_some] <;> rfl) | (simp [*, errW_none, errW_some] <;> rfl), bO HB.out⟩
                    ·rw [if_neg c75] at H
                     exact absurd H (by simp)
                   ·rw [if_neg c74] at H
                    exact absurd H (by simp)
                  ·rw [if_neg c73] at H
                   have c73b0 : decide (x142_5 < (l0.length : Int)) = false := decide_eq_false c73
                   clear c73
                   obtain rfl := Option.some.inj H
                   go_wp2
                   repeat (go_quiet (fail); try go_wp2)
                   go_ret
                   exact ⟨by first | rfl | (simp [errW_none, errW_some] <;> rfl) | (simp [*, errW_none, errW_some] <;> rfl), bO HB.out⟩
         ·rw [if_neg c22] at H
          exact absurd H (by simp)
   ·rw [if_neg c6] at H
    have c6b0 : (t261 == 0) = false := beq_eq_false_iff_ne.mpr c6
    have c6b1 : (t261 != 0) = true := bne_iff_ne.mpr c6
    by_cases c92 : t261 = 3
    ·rw [if_pos c92] at H
     have c92b0 : (t261 == 3) = true := beq_iff_eq.mpr c92
     have c92b1 : (t261 != 3) = false := bne_eq_false_iff_eq.mpr c92
     clear c92
     obtain rfl := Option.some.inj H
     go_enter Try.func7, Try.ntmps7
     go_wp2_with (first | (go_at_call 8; (with_reducible refine (tabardlaw11_fixed.calls k  true _ A2.out).mono ?_); rintro e w93 ⟨rfl, hb⟩; have n0_ := Aside0.mk (below_step (bO HB.out) hb); clear HB; have HB := n0_; clear n0_; (try clear hb); (try clear hb2); (try clear hk); (try clear hi)) | ((with_reducible refine gate_dst (N := 22) rfl ?_); (try (refine gate_guard (by rfl) ?_; dsimp only)); refine Kd.R_lit (Kd.int .i64) _ 3 ?hg (N := 22) ?hd (xs := ([] : List Int)) (inner := []) (ok := fun _ => True) (okp := fun _ => True) ?hr ?hp (fun _ hk => hk) trivial (Below.refl _ _) (Nat.le_refl _) (by simp) ?_; (case hd => rfl); (case hg => rfl); (case hr => first | (go_simp; done) | (go_simp; rfl)); (case hp => exact (Reps.none _ _)); intro v255 w94 ho95 hb hg_ hnew_; clear hg_ hnew_; (first | rw [← Ny254.out] at ho95 | (simp only [Int.reduceToNat] at ho95; rw [← Ny254.out] at ho95)); have n0_ := Aside0.mk (Kd.R_lower ho95 (below_size (bO HB.out))); have n1_ := Aside0.mk (below_step (bO HB.out) hb); clear HB; have HO256 := n0_; have HB := n1_; clear n0_ n1_; clear hb ho95) | ((with_reducible refine gate_builtin (b := .append) (xs := #[.tmp 22, .tmp 23]) rfl ?_); (try (refine gate_guard (by rfl) ?_; dsimp only)); at_builtin; refine Kd.R_append_rows (Kd.int .i64) (w0 := w) w.heap.size rfl (.tmp 22) (.tmp 23) 22 3 (.int .i64 0) 8 rfl Try.underlying22 info3 rfl (by decide) (by omega) v255 y254 l0 _ _ _ (fun _ => True) (fun _ => False) rfl rfl ?aO ?aR (fun _ _ h => h) (fun _ h => h.elim) ?aF ?aB ?aS ?aL ?_; (case aR => exact cO (Kd.C_below HR0.out HB.out)); (case aB => exact (bO HB.out)); (case aF => exact (fun _ _ => trivial)); (case aO => exact (rO HO256.out)); (case aS => exact (below_size (bO HB.out))); (case aL => have := LMc4.out; omega); intro v258 w96 ho hb hg hat; rw [← Ny257.out] at ho; have n0_ := Aside0.mk (hb); have n1_ := Aside0.mk (ho); clear HB; clear HO256; have HB := n0_; have HO259 := n1_; clear n0_ n1_; clear ho hb hg hat; obtain ⟨Ao97, co97, eo97⟩ := Kd.R_slice HO259.out; subst eo97) | (go_at_call 9; (with_reducible refine (row_Pack.calls k _ _ y257 t260 t261 _ ?side1 ?side2 A5.out).mono ?_); (case side1 => exact cO (Kd.R_reads' HO259.out).2.2); (case side2 => exact (Kd.R_reads' HO259.out).2.1); rintro e w98 ⟨v262, rfl, ho0, hb⟩; have n0_ := Aside0.mk (Kd.R_below (rO HO259.out) hb); have n1_ := Aside0.mk (Kd.R_lower ho0 (below_size (bO HB.out))); have n2_ := Aside0.mk (below_step (bO HB.out) hb); clear HO259; clear HB; have HO259 := n0_; have HO263 := n1_; have HB := n2_; clear n0_ n1_ n2_; (try clear hb); (try clear hb2); (try clear hk); (try clear hi); (try clear ho0); obtain ⟨Ao99, co99, eo99⟩ := Kd.R_slice HO263.out; subst eo99))
     repeat (go_quiet (first | (go_at_call 8; (with_reducible refine (tabardlaw11_fixed.calls k  true _ A2.out).mono ?_); rintro e w93 ⟨rfl, hb⟩; have n0_ := Aside0.mk (below_step (bO HB.out) hb); clear HB; have HB := n0_; clear n0_; (try clear hb); (try clear hb2); (try clear hk); (try clear hi)) | ((with_reducible refine gate_dst (N := 22) rfl ?_); (try (refine gate_guard (by rfl) ?_; dsimp only)); refine Kd.R_lit (Kd.int .i64) _ 3 ?hg (N := 22) ?hd (xs := ([] : List Int)) (inner := []) (ok := fun _ => True) (okp := fun _ => True) ?hr ?hp (fun _ hk => hk) trivial (Below.refl _ _) (Nat.le_refl _) (by simp) ?_; (case hd => rfl); (case hg => rfl); (case hr => first | (go_simp; done) | (go_simp; rfl)); (case hp => exact (Reps.none _ _)); intro v255 w94 ho95 hb hg_ hnew_; clear hg_ hnew_; (first | rw [← Ny254.out] at ho95 | (simp only [Int.reduceToNat] at ho95; rw [← Ny254.out] at ho95)); have n0_ := Aside0.mk (Kd.R_lower ho95 (below_size (bO HB.out))); have n1_ := Aside0.mk (below_step (bO HB.out) hb); clear HB; have HO256 := n0_; have HB := n1_; clear n0_ n1_; clear hb ho95) | ((with_reducible refine gate_builtin (b := .append) (xs := #[.tmp 22, .tmp 23]) rfl ?_); (try (refine gate_guard (by rfl) ?_; dsimp only)); at_builtin; refine Kd.R_append_rows (Kd.int .i64) (w0 := w) w.heap.size rfl (.tmp 22) (.tmp 23) 22 3 (.int .i64 0) 8 rfl Try.underlying22 info3 rfl (by decide) (by omega) v255 y254 l0 _ _ _ (fun _ => True) (fun _ => False) rfl rfl ?aO ?aR (fun _ _ h => h) (fun _ h => h.elim) ?aF ?aB ?aS ?aL ?_; (case aR => exact cO (Kd.C_below HR0.out HB.out)); (case aB => exact (bO HB.out)); (case aF => exact (fun _ _ => trivial)); (case aO => exact (rO HO256.out)); (case aS => exact (below_size (bO HB.out))); (case aL => have := LMc4.out; omega); intro v258 w96 ho hb hg hat; rw [← Ny257.out] at ho; have n0_ := Aside0.mk (hb); have n1_ := Aside0.mk (ho); clear HB; clear HO256; have HB := n0_; have HO259 := n1_; clear n0_ n1_; clear ho hb hg hat; obtain ⟨Ao97, co97, eo97⟩ := Kd.R_slice HO259.out; subst eo97) | (go_at_call 9; (with_reducible refine (row_Pack.calls k _ _ y257 t260 t261 _ ?side1 ?side2 A5.out).mono ?_); (case side1 => exact cO (Kd.R_reads' HO259.out).2.2); (case side2 => exact (Kd.R_reads' HO259.out).2.1); rintro e w98 ⟨v262, rfl, ho0, hb⟩; have n0_ := Aside0.mk (Kd.R_below (rO HO259.out) hb); have n1_ := Aside0.mk (Kd.R_lower ho0 (below_size (bO HB.out))); have n2_ := Aside0.mk (below_step (bO HB.out) hb); clear HO259; clear HB; have HO259 := n0_; have HO263 := n1_; have HB := n2_; clear n0_ n1_ n2_; (try clear hb); (try clear hb2); (try clear hk); (try clear hi); (try clear ho0); obtain ⟨Ao99, co99, eo99⟩ := Kd.R_slice HO263.out; subst eo99)); try go_wp2_with (first | (go_at_call 8; (with_reducible refine (tabardlaw11_fixed.calls k  true _ A2.out).mono ?_); rintro e w93 ⟨rfl, hb⟩; have n0_ := Aside0.mk (below_step (bO HB.out) hb); clear HB; have HB := n0_; clear n0_; (try clear hb); (try clear hb2); (try clear hk); (try clear hi)) | ((with_reducible refine gate_dst (N := 22) rfl ?_); (try (refine gate_guard (by rfl) ?_; dsimp only)); refine Kd.R_lit (Kd.int .i64) _ 3 ?hg (N := 22) ?hd (xs := ([] : List Int)) (inner := []) (ok := fun _ => True) (okp := fun _ => True) ?hr ?hp (fun _ hk => hk) trivial (Below.refl _ _) (Nat.le_refl _) (by simp) ?_; (case hd => rfl); (case hg => rfl); (case hr => first | (go_simp; done) | (go_simp; rfl)); (case hp => exact (Reps.none _ _)); intro v255 w94 ho95 hb hg_ hnew_; clear hg_ hnew_; (first | rw [← Ny254.out] at ho95 | (simp only [Int.reduceToNat] at ho95; rw [← Ny254.out] at ho95)); have n0_ := Aside0.mk (Kd.R_lower ho95 (below_size (bO HB.out))); have n1_ := Aside0.mk (below_step (bO HB.out) hb); clear HB; have HO256 := n0_; have HB := n1_; clear n0_ n1_; clear hb ho95) | ((with_reducible refine gate_builtin (b := .append) (xs := #[.tmp 22, .tmp 23]) rfl ?_); (try (refine gate_guard (by rfl) ?_; dsimp only)); at_builtin; refine Kd.R_append_rows (Kd.int .i64) (w0 := w) w.heap.size rfl (.tmp 22) (.tmp 23) 22 3 (.int .i64 0) 8 rfl Try.underlying22 info3 rfl (by decide) (by omega) v255 y254 l0 _ _ _ (fun _ => True) (fun _ => False) rfl rfl ?aO ?aR (fun _ _ h => h) (fun _ h => h.elim) ?aF ?aB ?aS ?aL ?_; (case aR => exact cO (Kd.C_below HR0.out HB.out)); (case aB => exact (bO HB.out)); (case aF => exact (fun _ _ => trivial)); (case aO => exact (rO HO256.out)); (case aS => exact (below_size (bO HB.out))); (case aL => have := LMc4.out; omega); intro v258 w96 ho hb hg hat; rw [← Ny257.out] at ho; have n0_ := Aside0.mk (hb); have n1_ := Aside0.mk (ho); clear HB; clear HO256; have HB := n0_; have HO259 := n1_; clear n0_ n1_; clear ho hb hg hat; obtain ⟨Ao97, co97, eo97⟩ := Kd.R_slice HO259.out; subst eo97) | (go_at_call 9; (with_reducible refine (row_Pack.calls k _ _ y257 t260 t261 _ ?side1 ?side2 A5.out).mono ?_); (case side1 => exact cO (Kd.R_reads' HO259.out).2.2); (case side2 => exact (Kd.R_reads' HO259.out).2.1); rintro e w98 ⟨v262, rfl, ho0, hb⟩; have n0_ := Aside0.mk (Kd.R_below (rO HO259.out) hb); have n1_ := Aside0.mk (Kd.R_lower ho0 (below_size (bO HB.out))); have n2_ := Aside0.mk (below_step (bO HB.out) hb); clear HO259; clear HB; have HO259 := n0_; have HO263 := n1_; have HB := n2_; clear n0_ n1_ n2_; (try clear hb); (try clear hb2); (try clear hk); (try clear hi); (try clear ho0); obtain ⟨Ao99, co99, eo99⟩ := Kd.R_slice HO263.out; subst eo99)))
     go_ret
     exact ⟨by first | rfl | (simp [errW_none, errW_some] <;> rfl) | (simp [*, errW_none, errW_some] <;> rfl), bO HB.out⟩
    ·rw [if_neg c92] at H
     have c92b0 : (t261 == 3) = false := beq_eq_false_iff_ne.mpr c92
     have c92b1 : (t261 != 3) = true := bne_iff_ne.mpr c92
     obtain rfl := Option.some.inj H
     go_enter Try.func7, Try.ntmps7
     go_wp2_with (first | (go_at_call 8; (with_reducible refine (tabardlaw11_fixed.calls k  true _ A2.out).mono ?_); rintro e w100 ⟨rfl, hb⟩; have n0_ := Aside0.mk (below_step (bO HB.out) hb); clear HB; have HB := n0_; clear n0_; (try clear hb); (try clear hb2); (try clear hk); (try clear hi)) | ((with_reducible refine gate_dst (N := 22) rfl ?_); (try (refine gate_guard (by rfl) ?_; dsimp only)); refine Kd.R_lit (Kd.int .i64) _ 3 ?hg (N := 22) ?hd (xs := ([] : List Int)) (inner := []) (ok := fun _ => True) (okp := fun _ => True) ?hr ?hp (fun _ hk => hk) trivial (Below.refl _ _) (Nat.le_refl _) (by simp) ?_; (case hd => rfl); (case hg => rfl); (case hr => first | (go_simp; done) | (go_simp; rfl)); (case hp => exact (Reps.none _ _)); intro v255 w101 ho102 hb hg_ hnew_; clear hg_ hnew_; (first | rw [← Ny254.out] at ho102 | (simp only [Int.reduceToNat] at ho102; rw [← Ny254.out] at ho102)); have n0_ := Aside0.mk (Kd.R_lower ho102 (below_size (bO HB.out))); have n1_ := Aside0.mk (below_step (bO HB.out) hb); clear HB; have HO256 := n0_; have HB := n1_; clear n0_ n1_; clear hb ho102) | ((with_reducible refine gate_builtin (b := .append) (xs := #[.tmp 22, .tmp 23]) rfl ?_); (try (refine gate_guard (by rfl) ?_; dsimp only)); at_builtin; refine Kd.R_append_rows (Kd.int .i64) (w0 := w) w.heap.size rfl (.tmp 22) (.tmp 23) 22 3 (.int .i64 0) 8 rfl Try.underlying22 info3 rfl (by decide) (by omega) v255 y254 l0 _ _ _ (fun _ => True) (fun _ => False) rfl rfl ?aO ?aR (fun _ _ h => h) (fun _ h => h.elim) ?aF ?aB ?aS ?aL ?_; (case aR => exact cO (Kd.C_below HR0.out HB.out)); (case aB => exact (bO HB.out)); (case aF => exact (fun _ _ => trivial)); (case aO => exact (rO HO256.out)); (case aS => exact (below_size (bO HB.out))); (case aL => have := LMc4.out; omega); intro v258 w103 ho hb hg hat; rw [← Ny257.out] at ho; have n0_ := Aside0.mk (hb); have n1_ := Aside0.mk (ho); clear HB; clear HO256; have HB := n0_; have HO259 := n1_; clear n0_ n1_; clear ho hb hg hat; obtain ⟨Ao104, co104, eo104⟩ := Kd.R_slice HO259.out; subst eo104) | (go_at_call 9; (with_reducible refine (row_Pack.calls k _ _ y257 t260 t261 _ ?side1 ?side2 A5.out).mono ?_); (case side1 => exact cO (Kd.R_reads' HO259.out).2.2); (case side2 => exact (Kd.R_reads' HO259.out).2.1); rintro e w105 ⟨v262, rfl, ho0, hb⟩; have n0_ := Aside0.mk (Kd.R_below (rO HO259.out) hb); have n1_ := Aside0.mk (Kd.R_lower ho0 (below_size (bO HB.out))); have n2_ := Aside0.mk (below_step (bO HB.out) hb); clear HO259; clear HB; have HO259 := n0_; have HO263 := n1_; have HB := n2_; clear n0_ n1_ n2_; (try clear hb); (try clear hb2); (try clear hk); (try clear hi); (try clear ho0)))
     repeat (go_quiet (first | (go_at_call 8; (with_reducible refine (tabardlaw11_fixed.calls k  true _ A2.out).mono ?_); rintro e w100 ⟨rfl, hb⟩; have n0_ := Aside0.mk (below_step (bO HB.out) hb); clear HB; have HB := n0_; clear n0_; (try clear hb); (try clear hb2); (try clear hk); (try clear hi)) | ((with_reducible refine gate_dst (N := 22) rfl ?_); (try (refine gate_guard (by rfl) ?_; dsimp only)); refine Kd.R_lit (Kd.int .i64) _ 3 ?hg (N := 22) ?hd (xs := ([] : List Int)) (inner := []) (ok := fun _ => True) (okp := fun _ => True) ?hr ?hp (fun _ hk => hk) trivial (Below.refl _ _) (Nat.le_refl _) (by simp) ?_; (case hd => rfl); (case hg => rfl); (case hr => first | (go_simp; done) | (go_simp; rfl)); (case hp => exact (Reps.none _ _)); intro v255 w101 ho102 hb hg_ hnew_; clear hg_ hnew_; (first | rw [← Ny254.out] at ho102 | (simp only [Int.reduceToNat] at ho102; rw [← Ny254.out] at ho102)); have n0_ := Aside0.mk (Kd.R_lower ho102 (below_size (bO HB.out))); have n1_ := Aside0.mk (below_step (bO HB.out) hb); clear HB; have HO256 := n0_; have HB := n1_; clear n0_ n1_; clear hb ho102) | ((with_reducible refine gate_builtin (b := .append) (xs := #[.tmp 22, .tmp 23]) rfl ?_); (try (refine gate_guard (by rfl) ?_; dsimp only)); at_builtin; refine Kd.R_append_rows (Kd.int .i64) (w0 := w) w.heap.size rfl (.tmp 22) (.tmp 23) 22 3 (.int .i64 0) 8 rfl Try.underlying22 info3 rfl (by decide) (by omega) v255 y254 l0 _ _ _ (fun _ => True) (fun _ => False) rfl rfl ?aO ?aR (fun _ _ h => h) (fun _ h => h.elim) ?aF ?aB ?aS ?aL ?_; (case aR => exact cO (Kd.C_below HR0.out HB.out)); (case aB => exact (bO HB.out)); (case aF => exact (fun _ _ => trivial)); (case aO => exact (rO HO256.out)); (case aS => exact (below_size (bO HB.out))); (case aL => have := LMc4.out; omega); intro v258 w103 ho hb hg hat; rw [← Ny257.out] at ho; have n0_ := Aside0.mk (hb); have n1_ := Aside0.mk (ho); clear HB; clear HO256; have HB := n0_; have HO259 := n1_; clear n0_ n1_; clear ho hb hg hat; obtain ⟨Ao104, co104, eo104⟩ := Kd.R_slice HO259.out; subst eo104) | (go_at_call 9; (with_reducible refine (row_Pack.calls k _ _ y257 t260 t261 _ ?side1 ?side2 A5.out).mono ?_); (case side1 => exact cO (Kd.R_reads' HO259.out).2.2); (case side2 => exact (Kd.R_reads' HO259.out).2.1); rintro e w105 ⟨v262, rfl, ho0, hb⟩; have n0_ := Aside0.mk (Kd.R_below (rO HO259.out) hb); have n1_ := Aside0.mk (Kd.R_lower ho0 (below_size (bO HB.out))); have n2_ := Aside0.mk (below_step (bO HB.out) hb); clear HO259; clear HB; have HO259 := n0_; have HO263 := n1_; have HB := n2_; clear n0_ n1_ n2_; (try clear hb); (try clear hb2); (try clear hk); (try clear hi); (try clear ho0))); try go_wp2_with (first | (go_at_call 8; (with_reducible refine (tabardlaw11_fixed.calls k  true _ A2.out).mono ?_); rintro e w100 ⟨rfl, hb⟩; have n0_ := Aside0.mk (below_step (bO HB.out) hb); clear HB; have HB := n0_; clear n0_; (try clear hb); (try clear hb2); (try clear hk); (try clear hi)) | ((with_reducible refine gate_dst (N := 22) rfl ?_); (try (refine gate_guard (by rfl) ?_; dsimp only)); refine Kd.R_lit (Kd.int .i64) _ 3 ?hg (N := 22) ?hd (xs := ([] : List Int)) (inner := []) (ok := fun _ => True) (okp := fun _ => True) ?hr ?hp (fun _ hk => hk) trivial (Below.refl _ _) (Nat.le_refl _) (by simp) ?_; (case hd => rfl); (case hg => rfl); (case hr => first | (go_simp; done) | (go_simp; rfl)); (case hp => exact (Reps.none _ _)); intro v255 w101 ho102 hb hg_ hnew_; clear hg_ hnew_; (first | rw [← Ny254.out] at ho102 | (simp only [Int.reduceToNat] at ho102; rw [← Ny254.out] at ho102)); have n0_ := Aside0.mk (Kd.R_lower ho102 (below_size (bO HB.out))); have n1_ := Aside0.mk (below_step (bO HB.out) hb); clear HB; have HO256 := n0_; have HB := n1_; clear n0_ n1_; clear hb ho102) | ((with_reducible refine gate_builtin (b := .append) (xs := #[.tmp 22, .tmp 23]) rfl ?_); (try (refine gate_guard (by rfl) ?_; dsimp only)); at_builtin; refine Kd.R_append_rows (Kd.int .i64) (w0 := w) w.heap.size rfl (.tmp 22) (.tmp 23) 22 3 (.int .i64 0) 8 rfl Try.underlying22 info3 rfl (by decide) (by omega) v255 y254 l0 _ _ _ (fun _ => True) (fun _ => False) rfl rfl ?aO ?aR (fun _ _ h => h) (fun _ h => h.elim) ?aF ?aB ?aS ?aL ?_; (case aR => exact cO (Kd.C_below HR0.out HB.out)); (case aB => exact (bO HB.out)); (case aF => exact (fun _ _ => trivial)); (case aO => exact (rO HO256.out)); (case aS => exact (below_size (bO HB.out))); (case aL => have := LMc4.out; omega); intro v258 w103 ho hb hg hat; rw [← Ny257.out] at ho; have n0_ := Aside0.mk (hb); have n1_ := Aside0.mk (ho); clear HB; clear HO256; have HB := n0_; have HO259 := n1_; clear n0_ n1_; clear ho hb hg hat; obtain ⟨Ao104, co104, eo104⟩ := Kd.R_slice HO259.out; subst eo104) | (go_at_call 9; (with_reducible refine (row_Pack.calls k _ _ y257 t260 t261 _ ?side1 ?side2 A5.out).mono ?_); (case side1 => exact cO (Kd.R_reads' HO259.out).2.2); (case side2 => exact (Kd.R_reads' HO259.out).2.1); rintro e w105 ⟨v262, rfl, ho0, hb⟩; have n0_ := Aside0.mk (Kd.R_below (rO HO259.out) hb); have n1_ := Aside0.mk (Kd.R_lower ho0 (below_size (bO HB.out))); have n2_ := Aside0.mk (below_step (bO HB.out) hb); clear HO259; clear HB; have HO259 := n0_; have HO263 := n1_; have HB := n2_; clear n0_ n1_ n2_; (try clear hb); (try clear hb2); (try clear hk); (try clear hi); (try clear ho0))))
     go_ret
     exact ⟨by first | rfl | (simp [errW_none, errW_some] <;> rfl) | (simp [*, errW_none, errW_some] <;> rfl), bO HB.out⟩
  ·rw [if_neg c4] at H
   exact absurd H (by simp)
 ·replace c3 := Bool.eq_false_iff.mpr c3
  subst c3
  have H1 : (some false) = some r := by rw [if_neg (show ¬ (false = true) by decide)] at H; exact H
  clear H
  have H := H1
  clear H1
  obtain rfl := Option.some.inj H
  go_enter Try.func7, Try.ntmps7
  go_wp2_with (first | (go_at_call 8; (with_reducible refine (tabardlaw11_fixed.calls k  false _ A2.out).mono ?_); rintro e w106 ⟨rfl, hb⟩; have n0_ := Aside0.mk (below_step (bO HB.out) hb); clear HB; have HB := n0_; clear n0_; (try clear hb); (try clear hb2); (try clear hk); (try clear hi)))
  repeat (go_quiet (first | (go_at_call 8; (with_reducible refine (tabardlaw11_fixed.calls k  false _ A2.out).mono ?_); rintro e w106 ⟨rfl, hb⟩; have n0_ := Aside0.mk (below_step (bO HB.out) hb); clear HB; have HB := n0_; clear n0_; (try clear hb); (try clear hb2); (try clear hk); (try clear hi))); try go_wp2_with (first | (go_at_call 8; (with_reducible refine (tabardlaw11_fixed.calls k  false _ A2.out).mono ?_); rintro e w106 ⟨rfl, hb⟩; have n0_ := Aside0.mk (below_step (bO HB.out) hb); clear HB; have HB := n0_; clear n0_; (try clear hb); (try clear hb2); (try clear hk); (try clear hi))))
  go_ret
  exact ⟨by first | rfl | (simp [errW_none, errW_some] <;> rfl) | (simp [*, errW_none, errW_some] <;> rfl), bO HB.out⟩

/-- THE ONE PURE STATEMENT of tabardlaw11_RowBack: yours. -/
def tabardlaw11_RowBack.Pure : Prop := ∀ (l0 : List Int), l0.length ≤ maxLen → l0.length * 8 ≤ 140737488351232 → (∀ x ∈ l0, (Lit.int .i64 x).wf = true) → ∃ k, tabardlaw11_RowBack.f k l0 = some true
theorem tabardlaw11_RowBack.walk (P : tabardlaw11_RowBack.Pure) (a0 : Option Addr) (len0 cap0 : Nat) (z0 : List Int) (w : World) (w0 : (a0 = none ∧ len0 = 0 ∧ cap0 = 0 ∧ z0 = []) ∨ ∃ x, a0 = some x ∧ len0 ≤ cap0 ∧ cap0 ≤ maxLen ∧ z0.length = cap0 ∧ (∀ i, i < z0.length → w.cell? (x.add i) = some (.int .i64 (z0.getD i 0))) ∧ ∀ n ∈ z0, (Lit.int .i64 n).wf = true) (y0 : len0 * 8 ≤ 140737488351232) :
  Calls Try.prog 7 #[.slice a0 len0 cap0] w fun e w' => e = .returned (.bool true) ∧ Below w.heap.size w w' := by
 obtain ⟨l0, rfl, hr0, hm0, hw0, hc0⟩ := ReadsInt.ofRowC w0
 obtain ⟨k, h⟩ := P l0 hm0 y0 hw0
 refine (tabardlaw11_RowBack.calls k _ _ l0 true w (Kd.C_of_reads (d := (0 : Int)) (h1 := fun _ => rfl) hr0) hc0 h).mono ?_
 rintro e w' ⟨rfl, hd⟩
 exact ⟨rfl, hd⟩

end Go.Proofs.Ytiakfdoaopfihaa.X

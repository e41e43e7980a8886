/- Small words beside the kit's: cuts with a capacity; no condition. -/
import Derived.Test.YtghfclgcgecgdaaWMore
import Derived.Lib.SliceRun
namespace Go.Proofs.YtghfclgcgecgdaaW.PrintWords
open Go.RowKit
section
variable {P : Program}
/-- 'xs[:n:n]'. -/
theorem cut_to3 (t e : TypeId) (kh km : IntKind) {i : TypeInfo} (ht : P.underlying t = some (.slice e)) (hi : P.info? e = some i) (A : Option Addr) (n c : Nat) (j : Int) (h0 : 0 ≤ j) (hm : j ≤ n) (hc : n ≤ c) :
    ∀ W : World, (Instr.slice t (.slice A n c) none (some (.int kh j)) (some (.int km j))).run P W = .ok (.slice A j.toNat j.toNat) W := by
  intro W
  have hel : P.elem t = e := by simp [Program.elem, ht]
  have hu : P.underlying t = some (.slice (P.elem t)) := by rw [hel]; exact ht
  have ha : (A.map fun x => x.add 0) = A := by cases A <;> simp [Addr.add]
  rw [run_slice_hm W t A n c hu kh km j j h0 (Int.le_refl _) (by omega), hel]
  simp [sizeOf, typeInfo, hi, sliced, Result.andThen, ha]
end
/-- A length, spelled otherwise. -/
theorem Kd.C_lenO {α : Type} {d : Kd α} {w : World} {A : Option Addr} {n m : Nat} {xs : List α} (h : n = m) (hc : d.C w A n xs) : d.C w A m xs := h ▸ hc
/-! What the printed walks ask again and again, by a term. -/
theorem bO {q p : Prop} (h : q) (k : q → p := by intro h_; repeat (first | (with_reducible first | exact h_ | apply below_alloc | apply pw_below_drewN | apply below_drew1) | exact h_)) : p := k h
theorem rO {q p : Prop} (h : q) (k : q → p := by intro h_; (with_reducible repeat (first | apply Kd.R_alloc | apply Kd.R_drewN | apply Kd.R_drew)); exact h_) : p := k h
theorem vO {q p : Prop} (h : q) (k : q → p := by intro h_; (with_reducible repeat (first | apply Kd.V_alloc | apply Kd.V_drewN | apply Kd.V_drew)); exact h_) : p := k h
theorem kO {q p : Prop} (h : q) (k : q → p := by intro h_; (with_reducible repeat (first | refine blk_drewN ?_ _ | refine blk_drew ?_ | refine blk_alloc ?_ _)); exact h_) : p := k h
theorem cO {q p : Prop} (h : q) (k : q → p := by intro h_; repeat (first | exact h_ | (with_reducible refine Kd.C_alloc ?_ _) | (with_reducible refine Kd.C_drewN ?_ _) | (with_reducible refine Kd.C_drew ?_))) : p := k h
theorem mO {p : Prop} (k : p := by (try simp only [List.map_toArray, List.map_cons, List.map_nil]); first | done | rfl | (simp only [List.length_drop, List.length_take]; rfl)) : p := k
theorem aO {p : Prop} (k : p := by first | (with_reducible assumption) | assumption) : p := k
/-! Short names for what the printed walks say most (compact.py). -/
theorem pO {p : Prop} (k : p := by first | (simp only [putAll, Act.put, List.setIfInBounds_toArray, List.set_cons_zero, List.set_cons_succ]; done) | (simp only [putAll, Act.put, List.setIfInBounds_toArray, List.set_cons_zero, List.set_cons_succ]; rfl)) : p := k
theorem sA {α : Type} (l : List α) (i : Nat) (a : α) : l.toArray.setIfInBounds i a = (l.set i a).toArray := List.setIfInBounds_toArray l i a
theorem sB {α : Type} (a b : α) (l : List α) : (a :: l).set 0 b = b :: l := rfl
theorem sC {α : Type} (a b : α) (l : List α) (n : Nat) : (a :: l).set (n + 1) b = a :: l.set n b := rfl
theorem nO {a : Addr} {g : Nat} {p : Prop} (h : a.block ≠ g) (k : a.block ≠ g → p := by intro h_; first | (rw [add_block]; exact h_) | (show (Addr.add _ _).block ≠ _; rw [add_block]; exact h_) | exact h_) : p := k h
theorem bC2 {W : World} {g t : Nat} {v0 v1 : Value} (h : W.heap[g]? = some (.cells #[v0, v1] t (0, 0))) : W.cell? ⟨g, 0, none⟩ = some v0 ∧ W.cell? ⟨g, 1, none⟩ = some v1 := ⟨(blk_cell h 0).trans rfl, (blk_cell h 1).trans rfl⟩
theorem bC3 {W : World} {g t : Nat} {v0 v1 v2 : Value} (h : W.heap[g]? = some (.cells #[v0, v1, v2] t (0, 0))) : W.cell? ⟨g, 0, none⟩ = some v0 ∧ W.cell? ⟨g, 1, none⟩ = some v1 ∧ W.cell? ⟨g, 2, none⟩ = some v2 := ⟨(blk_cell h 0).trans rfl, (blk_cell h 1).trans rfl, (blk_cell h 2).trans rfl⟩
theorem bC4 {W : World} {g t : Nat} {v0 v1 v2 v3 : Value} (h : W.heap[g]? = some (.cells #[v0, v1, v2, v3] t (0, 0))) : W.cell? ⟨g, 0, none⟩ = some v0 ∧ W.cell? ⟨g, 1, none⟩ = some v1 ∧ W.cell? ⟨g, 2, none⟩ = some v2 ∧ W.cell? ⟨g, 3, none⟩ = some v3 := ⟨(blk_cell h 0).trans rfl, (blk_cell h 1).trans rfl, (blk_cell h 2).trans rfl, (blk_cell h 3).trans rfl⟩
theorem bS1 {q p r0 : Prop} (h : q) (g0 : r0) (k : q → r0 → p := by intro h_ i0_; repeat (first | (with_reducible first | exact h_ | apply below_alloc | apply pw_below_drewN | apply below_drew1 | refine below_set ?_ i0_) | exact h_)) : p := k h g0
theorem bS2 {q p r0 r1 : Prop} (h : q) (g0 : r0) (g1 : r1) (k : q → r0 → r1 → p := by intro h_ i0_ i1_; repeat (first | (with_reducible first | exact h_ | apply below_alloc | apply pw_below_drewN | apply below_drew1 | refine below_set ?_ i0_ | refine below_set ?_ i1_) | exact h_)) : p := k h g0 g1
theorem bS3 {q p r0 r1 r2 : Prop} (h : q) (g0 : r0) (g1 : r1) (g2 : r2) (k : q → r0 → r1 → r2 → p := by intro h_ i0_ i1_ i2_; repeat (first | (with_reducible first | exact h_ | apply below_alloc | apply pw_below_drewN | apply below_drew1 | refine below_set ?_ i0_ | refine below_set ?_ i1_ | refine below_set ?_ i2_) | exact h_)) : p := k h g0 g1 g2
theorem bS4 {q p r0 r1 r2 r3 : Prop} (h : q) (g0 : r0) (g1 : r1) (g2 : r2) (g3 : r3) (k : q → r0 → r1 → r2 → r3 → p := by intro h_ i0_ i1_ i2_ i3_; repeat (first | (with_reducible first | exact h_ | apply below_alloc | apply pw_below_drewN | apply below_drew1 | refine below_set ?_ i0_ | refine below_set ?_ i1_ | refine below_set ?_ i2_ | refine below_set ?_ i3_) | exact h_)) : p := k h g0 g1 g2 g3
theorem bS5 {q p r0 r1 r2 r3 r4 : Prop} (h : q) (g0 : r0) (g1 : r1) (g2 : r2) (g3 : r3) (g4 : r4) (k : q → r0 → r1 → r2 → r3 → r4 → p := by intro h_ i0_ i1_ i2_ i3_ i4_; repeat (first | (with_reducible first | exact h_ | apply below_alloc | apply pw_below_drewN | apply below_drew1 | refine below_set ?_ i0_ | refine below_set ?_ i1_ | refine below_set ?_ i2_ | refine below_set ?_ i3_ | refine below_set ?_ i4_) | exact h_)) : p := k h g0 g1 g2 g3 g4
theorem bS6 {q p r0 r1 r2 r3 r4 r5 : Prop} (h : q) (g0 : r0) (g1 : r1) (g2 : r2) (g3 : r3) (g4 : r4) (g5 : r5) (k : q → r0 → r1 → r2 → r3 → r4 → r5 → p := by intro h_ i0_ i1_ i2_ i3_ i4_ i5_; repeat (first | (with_reducible first | exact h_ | apply below_alloc | apply pw_below_drewN | apply below_drew1 | refine below_set ?_ i0_ | refine below_set ?_ i1_ | refine below_set ?_ i2_ | refine below_set ?_ i3_ | refine below_set ?_ i4_ | refine below_set ?_ i5_) | exact h_)) : p := k h g0 g1 g2 g3 g4 g5
end Go.Proofs.YtghfclgcgecgdaaW.PrintWords

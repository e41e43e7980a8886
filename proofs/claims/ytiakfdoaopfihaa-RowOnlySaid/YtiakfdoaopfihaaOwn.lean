/- Small words beside the kit's: cuts with a capacity; no condition. -/
import Derived.Test.YtiakfdoaopfihaaWMore
import Derived.Lib.SliceRun
namespace Go.Proofs.YtiakfdoaopfihaaW.PrintWords
open Go.RowKit
section
variable {P : Program}
/-- 'xs[:n:n]'. -/
theorem cut_to3 (t e : TypeId) (kh km : IntKind) {i : TypeInfo} (ht : P.underlying t = some (.slice e)) (hi : P.info? e = some i) (A : Option Addr) (n c : Nat) (j : Int) (h0 : 0 ≤ j) (hm : j ≤ n) (hc : n ≤ c) :
    ∀ W : World, (Instr.slice t (.slice A n c) none (some (.int kh j)) (some (.int km j))).run P W = .ok (.slice A j.toNat j.toNat) W := by
  intro W
  have hel : P.elem t = e := by simp [Program.elem, ht]
  have hu : P.underlying t = some (.slice (P.elem t)) := by rw [hel]; exact ht
  have ha : (A.map fun x => x.add 0) = A := by cases A <;> simp [Addr.add]
  rw [run_slice_hm W t A n c hu kh km j j h0 (Int.le_refl _) (by omega), hel]
  simp [sizeOf, typeInfo, hi, sliced, Result.andThen, ha]
end
/-- A length, spelled otherwise. -/
theorem Kd.C_lenO {α : Type} {d : Kd α} {w : World} {A : Option Addr} {n m : Nat} {xs : List α} (h : n = m) (hc : d.C w A n xs) : d.C w A m xs := h ▸ hc
/-! What the printed walks ask again and again, by a term. -/
theorem bO {q p : Prop} (h : q) (k : q → p := by intro h_; repeat (first | (with_reducible first | exact h_ | apply below_alloc | apply pw_below_drewN | apply below_drew1) | exact h_)) : p := k h
theorem rO {q p : Prop} (h : q) (k : q → p := by intro h_; (with_reducible repeat (first | apply Kd.R_alloc | apply Kd.R_drewN | apply Kd.R_drew)); exact h_) : p := k h
theorem vO {q p : Prop} (h : q) (k : q → p := by intro h_; (with_reducible repeat (first | apply Kd.V_alloc | apply Kd.V_drewN | apply Kd.V_drew)); exact h_) : p := k h
theorem kO {q p : Prop} (h : q) (k : q → p := by intro h_; (with_reducible repeat (first | refine blk_drewN ?_ _ | refine blk_drew ?_ | refine blk_alloc ?_ _)); exact h_) : p := k h
theorem cO {q p : Prop} (h : q) (k : q → p := by intro h_; repeat (first | exact h_ | (with_reducible refine Kd.C_alloc ?_ _) | (with_reducible refine Kd.C_drewN ?_ _) | (with_reducible refine Kd.C_drew ?_))) : p := k h
theorem mO {p : Prop} (k : p := by (try simp only [List.map_toArray, List.map_cons, List.map_nil]); first | done | rfl | (simp only [List.length_drop, List.length_take]; rfl)) : p := k
theorem aO {p : Prop} (k : p := by first | (with_reducible assumption) | assumption) : p := k
end Go.Proofs.YtiakfdoaopfihaaW.PrintWords

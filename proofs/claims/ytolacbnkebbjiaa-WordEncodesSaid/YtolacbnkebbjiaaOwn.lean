/- Small words beside the kit's: cuts with a capacity; no condition. -/
import Derived.Test.YtolacbnkebbjiaaWMore
import Derived.Lib.SliceRun
namespace Go.Proofs.YtolacbnkebbjiaaW.PrintWords
open Go.RowKit
section
variable {P : Program}
/-- 'xs[:n:n]'. -/
theorem cut_to3 (t e : TypeId) (kh km : IntKind) {i : TypeInfo} (ht : P.underlying t = some (.slice e)) (hi : P.info? e = some i) (A : Option Addr) (n c : Nat) (j : Int) (h0 : 0 ≤ j) (hm : j ≤ n) (hc : n ≤ c) :
    ∀ W : World, (Instr.slice t (.slice A n c) none (some (.int kh j)) (some (.int km j))).run P W = .ok (.slice A j.toNat j.toNat) W := by
  intro W
  have hel : P.elem t = e := by simp [Program.elem, ht]
  have hu : P.underlying t = some (.slice (P.elem t)) := by rw [hel]; exact ht
  have ha : (A.map fun x => x.add 0) = A := by cases A <;> simp [Addr.add]
  rw [run_slice_hm W t A n c hu kh km j j h0 (Int.le_refl _) (by omega), hel]
  simp [sizeOf, typeInfo, hi, sliced, Result.andThen, ha]
end
/-- A length, spelled otherwise. -/
theorem Kd.C_lenO {α : Type} {d : Kd α} {w : World} {A : Option Addr} {n m : Nat} {xs : List α} (h : n = m) (hc : d.C w A n xs) : d.C w A m xs := h ▸ hc
end Go.Proofs.YtolacbnkebbjiaaW.PrintWords

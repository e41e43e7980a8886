/- What the listed table's condition gives the walks: its 64 cells in the first block; no condition beyond it. -/
import Derived.Test.YtpekanolhgcljaaDoorRows
import Derived.Test.YtpekanolhgcljaaDoorSetsB
import Derived.ProofKit
import Derived.LaidMore
import Derived.OpenShut
import Derived.Stop.Joined
namespace Go.Proofs.YtpekanolhgcljaaDoor
open Go.ChangeShapes Go.WideShapes Go.ChangeAt Go.WideMaps Go.WideElems Go.RowKit
def laid1 : List (String × DataW Unit) := [("math/bits.deBruijn64tab", Rows.laid_math_bits_deBruijn64tab)]
theorem own : ownKnob Tryd.prog.godebug = none := by kernel_rfl
theorem gTab : Tryd.prog.globalNamed "math/bits.deBruijn64tab" = some 0 := by kernel_rfl
theorem tTab : (Tryd.prog.globals[0]?).map (·.type) = some 71 := by kernel_rfl
theorem door_met (os : Os) (args : Array Value) : laidMetH Tryd.prog laid1 ((World.doorLaid Tryd.prog 400 os).forCall (fun _ _ => 0) ⟨#[], args, []⟩).memory :=
  laidMetH_of_parts3 (fuel := 8) (laidMet_of_run' 8 (by kernel_rfl) (by kernel_rfl)) (by kernel_rfl) (by kernel_rfl)
theorem of_laid {W : World} (h : laidMetH Tryd.prog laid1 W) : X.bitset.Tab W := by
  rw [MakeChecks.laidMetH_plain _ _ _ (by kernel_rfl)] at h
  obtain ⟨ps, ⟨g0, t0, cs0, f0, p0, q0, hg0, ht0, hv0, hd0, _, _⟩, _, _⟩ := h
  obtain rfl := Option.some.inj (gTab.symm.trans hg0)
  obtain rfl := Option.some.inj (tTab.symm.trans ht0)
  obtain ⟨xs, m1, rfl, hx1, hlen, hn3, hel⟩ := DataW.trod_array Tryd.underlying71 hd0
  have c5 : Tryd.prog.cellsOf 5 = 1 := by kernel_rfl
  have c71 : Tryd.prog.cellsOf 71 = 64 := by kernel_rfl
  rw [c71] at hlen
  have hx2 : xs.map (·.1) = BitP.tab.map fun n : Nat => (.lit (.int .u8 (n : Int)) : DataW Unit) := by
    injection hx1 with e1 e2
    have e3 : (Rows.laid_math_bits_deBruijn64tab (H := Unit)) = .agg (BitP.tab.map fun n : Nat => .lit (.int .u8 (n : Int))) := rfl
    rw [e3] at e1
    injection e1 with e1
    exact e1.symm
  have hcell : ∀ i : Nat, i < 64 → W.cell? ⟨0, i, none⟩ = some (.int .u8 ((BitP.tab.getD i 0 : Nat) : Int)) := by
    intro i hi
    have h0 := hel i hi
    rw [c5, Nat.mul_one] at h0
    have hxi : xs[i]? = some xs[i] := List.getElem?_eq_getElem (by omega)
    rw [hxi] at h0
    obtain ⟨k, e1, e2, _⟩ := DataW.trod_int Tryd.underlying5 h0
    have e3 : xs[i].1 = .lit (.int .u8 ((BitP.tab.getD i 0 : Nat) : Int)) := by
      have a := congrArg (fun l : List (DataW Unit) => l[i]?) hx2
      simp only [List.getElem?_map, hxi, Option.map_some] at a
      rw [List.getElem?_eq_getElem (show i < BitP.tab.length by rw [BitP.tab_len]; exact hi), Option.map_some] at a
      have a := Option.some.inj a
      rw [a, List.getD, List.getElem?_eq_getElem (show i < BitP.tab.length by rw [BitP.tab_len]; exact hi)]
      rfl
    have e4 : k = ((BitP.tab.getD i 0 : Nat) : Int) := by
      rw [e2] at e3
      simpa using e3
    have hv := World.var?_cell hg0 hv0 i
    obtain ⟨l1⟩ := cs0
    have e5 : l1[i]? = some (.int .u8 k) := by
      have := congrArg (fun l : List Value => l[0]?) e1
      simpa using this
    rw [e4] at e5
    simpa using hv.trans (by simpa using e5)
  refine ⟨hcell, ?_⟩
  have := World.block_lt_of_cell? W ⟨0, 0, none⟩ (hcell 0 (by decide))
  exact this
end Go.Proofs.YtpekanolhgcljaaDoor

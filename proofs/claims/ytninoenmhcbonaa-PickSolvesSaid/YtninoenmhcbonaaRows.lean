/-
  No cell of these rows narrows 'for every input' (looked for: loops, veiled, ifaces, maps, wideKeys, modest, calm, conditions, laid).
  DERIVED. THE GIVEN ROWS OF THIS SEAT. 5 by the template 'for every input the law returns true; each argument reads behind the call as it read before'; 0 by the template 'total and deterministic' (their statements: YtninoenmhcbonaaTotals.lean).
  GIVEN WITH THE SEED: the statements are not yours to turn. If you find one false, say at which input.
  Laid BY PROGRAM, IN A SANDBOX (cutbox-rows.mjs): the forced cells as the released guide's own fill.sh prints them over the translation 37e76b485c768e74… (all of the seat's roots in one cut). By AI agents, Wed Nov 11 2026. No macro, syntax, notation, axiom, sorry.
-/
import Derived.Test.YtninoenmhcbonaaChecked
import GoSem.Claim
import GoSem.ClaimJoined
import GoSem.ClaimMapViews
import Derived.JoinedTies
import Derived.KernelRfl
namespace Go.Proofs.Ytninoenmhcbonaa
/- THE CELL 'sum', in the pinned program and in every row, IS THE sha256 OF THE DUMP (.gsa) THAT YtninoenmhcbonaaProg.lean LOADS. Nothing in Lean hashes anything: it is a label: what it is worth is what the hold of that sum in a sandbox is worth. -/
noncomputable def Try.pinned : Pinned := { name := "ytninoenmhcbonaa", sum := "37e76b485c768e748ee7b760792427b1ee49d2ba718064fdacaebe5d06ec6b07", checked := Try.checked }
namespace Rows
def none {H : Type} : Left H := { results := [], args := [] }

/-- 'tabardlaw19.PickSolves': WHATEVER THE INPUT: true; the input reads as it did. -/
def pickSolvesSpec : ChangeSpec := { name := "pickSolves", fn := fun _ => fun
  | [d] => { results := [.lit (.bool true)], args := [d] }
  | _ => none }
def pickSolvesRow : OpenClaim := { program := "ytninoenmhcbonaa", sum := "37e76b485c768e748ee7b760792427b1ee49d2ba718064fdacaebe5d06ec6b07", func := "tabard/tabardlaw19.PickSolves", spec := "pickSolves", unfollowed := true, recurses := true, apart := false }
def PickSolvesSaid : Prop := pickSolvesRow.holds Try.pinned (OpenSpec.ofChange pickSolvesSpec)

/-- ITS FALSE NEIGHBOUR: 'it returns false'. Refute it at one input. -/
def pickSolvesWrong : ChangeSpec := { name := "pickSolves", fn := fun _ => fun
  | [d] => { results := [.lit (.bool false)], args := [d] }
  | _ => none }
def PickSolvesWrongFalsely : Prop := pickSolvesRow.holds Try.pinned (OpenSpec.ofChange pickSolvesWrong)

/-- 'tabardlaw19.PickShortest': WHATEVER THE INPUT: true; the input reads as it did. -/
def pickShortestSpec : ChangeSpec := { name := "pickShortest", fn := fun _ => fun
  | [d] => { results := [.lit (.bool true)], args := [d] }
  | _ => none }
def pickShortestRow : OpenClaim := { program := "ytninoenmhcbonaa", sum := "37e76b485c768e748ee7b760792427b1ee49d2ba718064fdacaebe5d06ec6b07", func := "tabard/tabardlaw19.PickShortest", spec := "pickShortest", unfollowed := true, recurses := true, apart := false }
def PickShortestSaid : Prop := pickShortestRow.holds Try.pinned (OpenSpec.ofChange pickShortestSpec)

/-- ITS FALSE NEIGHBOUR: 'it returns false'. Refute it at one input. -/
def pickShortestWrong : ChangeSpec := { name := "pickShortest", fn := fun _ => fun
  | [d] => { results := [.lit (.bool false)], args := [d] }
  | _ => none }
def PickShortestWrongFalsely : Prop := pickShortestRow.holds Try.pinned (OpenSpec.ofChange pickShortestWrong)

/-- 'tabardlaw19.PickFirst': WHATEVER THE INPUT: true; the input reads as it did. -/
def pickFirstSpec : ChangeSpec := { name := "pickFirst", fn := fun _ => fun
  | [d1, d2] => { results := [.lit (.bool true)], args := [d1, d2] }
  | _ => none }
def pickFirstRow : OpenClaim := { program := "ytninoenmhcbonaa", sum := "37e76b485c768e748ee7b760792427b1ee49d2ba718064fdacaebe5d06ec6b07", func := "tabard/tabardlaw19.PickFirst", spec := "pickFirst", unfollowed := true, recurses := true, apart := false }
def PickFirstSaid : Prop := pickFirstRow.holds Try.pinned (OpenSpec.ofChange pickFirstSpec)

/-- ITS FALSE NEIGHBOUR: 'it returns false'. Refute it at one input. -/
def pickFirstWrong : ChangeSpec := { name := "pickFirst", fn := fun _ => fun
  | [d1, d2] => { results := [.lit (.bool false)], args := [d1, d2] }
  | _ => none }
def PickFirstWrongFalsely : Prop := pickFirstRow.holds Try.pinned (OpenSpec.ofChange pickFirstWrong)

/-- 'tabardlaw19.PickTakes': WHATEVER THE INPUT: true; the input reads as it did. -/
def pickTakesSpec : ChangeSpec := { name := "pickTakes", fn := fun _ => fun
  | [d1, d2] => { results := [.lit (.bool true)], args := [d1, d2] }
  | _ => none }
def pickTakesRow : OpenClaim := { program := "ytninoenmhcbonaa", sum := "37e76b485c768e748ee7b760792427b1ee49d2ba718064fdacaebe5d06ec6b07", func := "tabard/tabardlaw19.PickTakes", spec := "pickTakes", unfollowed := true, recurses := true, apart := false }
def PickTakesSaid : Prop := pickTakesRow.holds Try.pinned (OpenSpec.ofChange pickTakesSpec)

/-- ITS FALSE NEIGHBOUR: 'it returns false'. Refute it at one input. -/
def pickTakesWrong : ChangeSpec := { name := "pickTakes", fn := fun _ => fun
  | [d1, d2] => { results := [.lit (.bool false)], args := [d1, d2] }
  | _ => none }
def PickTakesWrongFalsely : Prop := pickTakesRow.holds Try.pinned (OpenSpec.ofChange pickTakesWrong)

/-- 'tabardlaw19.PickLists': WHATEVER THE INPUT: true; the input reads as it did. -/
def pickListsSpec : ChangeSpec := { name := "pickLists", fn := fun _ => fun
  | [d1, d2, d3] => { results := [.lit (.bool true)], args := [d1, d2, d3] }
  | _ => none }
def pickListsRow : OpenClaim := { program := "ytninoenmhcbonaa", sum := "37e76b485c768e748ee7b760792427b1ee49d2ba718064fdacaebe5d06ec6b07", func := "tabard/tabardlaw19.PickLists", spec := "pickLists", unfollowed := true, recurses := true, apart := false }
def PickListsSaid : Prop := pickListsRow.holds Try.pinned (OpenSpec.ofChange pickListsSpec)

/-- ITS FALSE NEIGHBOUR: 'it returns false'. Refute it at one input. -/
def pickListsWrong : ChangeSpec := { name := "pickLists", fn := fun _ => fun
  | [d1, d2, d3] => { results := [.lit (.bool false)], args := [d1, d2, d3] }
  | _ => none }
def PickListsWrongFalsely : Prop := pickListsRow.holds Try.pinned (OpenSpec.ofChange pickListsWrong)

/- THE SECOND FORM. 'bulk': how many values and letters a reading holds, each counted each time it is reached (what is shared counts as often as it is met; a slice's spare places count too). A statement '..UptoSaid' is the law's where the arguments, and the package variables that the reading takes, are together of bulk at most 1048576: NARROWER than '..Said'. Prove '..Said' where nothing that the law and all that it calls make is longer than what came in: it says more and counts as full. Else prove '..UptoSaid'. A law counts once. -/
mutual
def uptoBulk {H : Type} : DataW H → Nat
  | .lit (.string bytes) => bytes.length + 1
  | .lit _ => 1
  | .nil => 1
  | .ptr d => uptoBulk d + 1
  | .slice elems spare => uptoBulkAll elems + uptoBulkAll spare + 1
  | .agg parts => uptoBulkAll parts + 1
  | .iface _ d => uptoBulk d + 1
  | .map entries => uptoBulkEntries entries + 1
  | .held _ => 1
def uptoBulkAll {H : Type} : List (DataW H) → Nat
  | [] => 0
  | d :: r => uptoBulk d + uptoBulkAll r
def uptoBulkEntries {H : Type} : List (Lit × DataW H) → Nat
  | [] => 0
  | x :: r => uptoBulkEntry x + uptoBulkEntries r
def uptoBulkEntry {H : Type} : Lit × DataW H → Nat
  | (.string bytes, d) => bytes.length + uptoBulk d + 1
  | (_, d) => uptoBulk d + 1
 end
def uptoSmall : (H : Type) → List (DataW H) → Bool := fun _ ds => decide (uptoBulkAll ds ≤ 1048576)
def OpenSpec.upto (s : _root_.Go.ChangeSpec) : _root_.Go.OpenSpec := { _root_.Go.OpenSpec.ofChange s with cond := some uptoSmall }

/-- 'tabardlaw19.PickSolves', WHERE WHAT IT READS IS OF BULK AT MOST 1048576: true; the input reads as it did. -/
def pickSolvesUptoRow : OpenClaim := { program := "ytninoenmhcbonaa", sum := "37e76b485c768e748ee7b760792427b1ee49d2ba718064fdacaebe5d06ec6b07", func := "tabard/tabardlaw19.PickSolves", spec := "pickSolves", unfollowed := true, recurses := true, apart := false, narrowed := true }
def PickSolvesUptoSaid : Prop := pickSolvesUptoRow.holds Try.pinned (OpenSpec.upto pickSolvesSpec)

/-- 'tabardlaw19.PickShortest', WHERE WHAT IT READS IS OF BULK AT MOST 1048576: true; the input reads as it did. -/
def pickShortestUptoRow : OpenClaim := { program := "ytninoenmhcbonaa", sum := "37e76b485c768e748ee7b760792427b1ee49d2ba718064fdacaebe5d06ec6b07", func := "tabard/tabardlaw19.PickShortest", spec := "pickShortest", unfollowed := true, recurses := true, apart := false, narrowed := true }
def PickShortestUptoSaid : Prop := pickShortestUptoRow.holds Try.pinned (OpenSpec.upto pickShortestSpec)

/-- 'tabardlaw19.PickFirst', WHERE WHAT IT READS IS OF BULK AT MOST 1048576: true; the input reads as it did. -/
def pickFirstUptoRow : OpenClaim := { program := "ytninoenmhcbonaa", sum := "37e76b485c768e748ee7b760792427b1ee49d2ba718064fdacaebe5d06ec6b07", func := "tabard/tabardlaw19.PickFirst", spec := "pickFirst", unfollowed := true, recurses := true, apart := false, narrowed := true }
def PickFirstUptoSaid : Prop := pickFirstUptoRow.holds Try.pinned (OpenSpec.upto pickFirstSpec)

/-- 'tabardlaw19.PickTakes', WHERE WHAT IT READS IS OF BULK AT MOST 1048576: true; the input reads as it did. -/
def pickTakesUptoRow : OpenClaim := { program := "ytninoenmhcbonaa", sum := "37e76b485c768e748ee7b760792427b1ee49d2ba718064fdacaebe5d06ec6b07", func := "tabard/tabardlaw19.PickTakes", spec := "pickTakes", unfollowed := true, recurses := true, apart := false, narrowed := true }
def PickTakesUptoSaid : Prop := pickTakesUptoRow.holds Try.pinned (OpenSpec.upto pickTakesSpec)

/-- 'tabardlaw19.PickLists', WHERE WHAT IT READS IS OF BULK AT MOST 1048576: true; the input reads as it did. -/
def pickListsUptoRow : OpenClaim := { program := "ytninoenmhcbonaa", sum := "37e76b485c768e748ee7b760792427b1ee49d2ba718064fdacaebe5d06ec6b07", func := "tabard/tabardlaw19.PickLists", spec := "pickLists", unfollowed := true, recurses := true, apart := false, narrowed := true }
def PickListsUptoSaid : Prop := pickListsUptoRow.holds Try.pinned (OpenSpec.upto pickListsSpec)

end Rows
end Go.Proofs.Ytninoenmhcbonaa

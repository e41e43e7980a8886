/-
  No cell of these rows narrows 'for every input' (looked for: loops, veiled, ifaces, maps, wideKeys, modest, calm, conditions, laid).
  DERIVED. THE GIVEN ROWS OF THIS SEAT. 5 by the template 'for every input the law returns true; each argument reads behind the call as it read before'; 0 by the template 'total and deterministic' (their statements: YtiakfdoaopfihaaTotals.lean).
  GIVEN WITH THE SEED: the statements are not yours to turn. If you find one false, say at which input.
  Laid BY PROGRAM, IN A SANDBOX (cutbox-rows.mjs): the forced cells as the released guide's own fill.sh prints them over the translation 02a3d76bb33648f1… (all of the seat's roots in one cut). By AI agents, Wed Nov 11 2026. No macro, syntax, notation, axiom, sorry.
-/
import Derived.Test.YtiakfdoaopfihaaChecked
import GoSem.Claim
import GoSem.ClaimJoined
import GoSem.ClaimMapViews
import Derived.JoinedTies
import Derived.KernelRfl
namespace Go.Proofs.Ytiakfdoaopfihaa
/- THE CELL 'sum', in the pinned program and in every row, IS THE sha256 OF THE DUMP (.gsa) THAT YtiakfdoaopfihaaProg.lean LOADS. Nothing in Lean hashes anything: it is a label: what it is worth is what the hold of that sum in a sandbox is worth. -/
noncomputable def Try.pinned : Pinned := { name := "ytiakfdoaopfihaa", sum := "02a3d76bb33648f17c8b1132d1936fca55aaa4ef107055a55c22e2f34e16f9f2", checked := Try.checked }
namespace Rows
def none {H : Type} : Left H := { results := [], args := [] }

/-- 'tabardlaw11.RowLeast': WHATEVER THE INPUT: true; the input reads as it did. -/
def rowLeastSpec : ChangeSpec := { name := "rowLeast", fn := fun _ => fun
  | [d1, d2] => { results := [.lit (.bool true)], args := [d1, d2] }
  | _ => none }
def rowLeastRow : OpenClaim := { program := "ytiakfdoaopfihaa", sum := "02a3d76bb33648f17c8b1132d1936fca55aaa4ef107055a55c22e2f34e16f9f2", func := "tabard/tabardlaw11.RowLeast", spec := "rowLeast", unfollowed := true, recurses := true, apart := false }
def RowLeastSaid : Prop := rowLeastRow.holds Try.pinned (OpenSpec.ofChange rowLeastSpec)

/-- ITS FALSE NEIGHBOUR: 'it returns false'. Refute it at one input. -/
def rowLeastWrong : ChangeSpec := { name := "rowLeast", fn := fun _ => fun
  | [d1, d2] => { results := [.lit (.bool false)], args := [d1, d2] }
  | _ => none }
def RowLeastWrongFalsely : Prop := rowLeastRow.holds Try.pinned (OpenSpec.ofChange rowLeastWrong)

/-- 'tabardlaw11.RowPacks': WHATEVER THE INPUT: true; the input reads as it did. -/
def rowPacksSpec : ChangeSpec := { name := "rowPacks", fn := fun _ => fun
  | [d] => { results := [.lit (.bool true)], args := [d] }
  | _ => none }
def rowPacksRow : OpenClaim := { program := "ytiakfdoaopfihaa", sum := "02a3d76bb33648f17c8b1132d1936fca55aaa4ef107055a55c22e2f34e16f9f2", func := "tabard/tabardlaw11.RowPacks", spec := "rowPacks", unfollowed := true, recurses := true, apart := false }
def RowPacksSaid : Prop := rowPacksRow.holds Try.pinned (OpenSpec.ofChange rowPacksSpec)

/-- ITS FALSE NEIGHBOUR: 'it returns false'. Refute it at one input. -/
def rowPacksWrong : ChangeSpec := { name := "rowPacks", fn := fun _ => fun
  | [d] => { results := [.lit (.bool false)], args := [d] }
  | _ => none }
def RowPacksWrongFalsely : Prop := rowPacksRow.holds Try.pinned (OpenSpec.ofChange rowPacksWrong)

/-- 'tabardlaw11.RowOnly': WHATEVER THE INPUT: true; the input reads as it did. -/
def rowOnlySpec : ChangeSpec := { name := "rowOnly", fn := fun _ => fun
  | [d1, d2, d3] => { results := [.lit (.bool true)], args := [d1, d2, d3] }
  | _ => none }
def rowOnlyRow : OpenClaim := { program := "ytiakfdoaopfihaa", sum := "02a3d76bb33648f17c8b1132d1936fca55aaa4ef107055a55c22e2f34e16f9f2", func := "tabard/tabardlaw11.RowOnly", spec := "rowOnly", unfollowed := true, recurses := true, apart := false }
def RowOnlySaid : Prop := rowOnlyRow.holds Try.pinned (OpenSpec.ofChange rowOnlySpec)

/-- ITS FALSE NEIGHBOUR: 'it returns false'. Refute it at one input. -/
def rowOnlyWrong : ChangeSpec := { name := "rowOnly", fn := fun _ => fun
  | [d1, d2, d3] => { results := [.lit (.bool false)], args := [d1, d2, d3] }
  | _ => none }
def RowOnlyWrongFalsely : Prop := rowOnlyRow.holds Try.pinned (OpenSpec.ofChange rowOnlyWrong)

/-- 'tabardlaw11.RowUnpacks': WHATEVER THE INPUT: true; the input reads as it did. -/
def rowUnpacksSpec : ChangeSpec := { name := "rowUnpacks", fn := fun _ => fun
  | [d1, d2, d3] => { results := [.lit (.bool true)], args := [d1, d2, d3] }
  | _ => none }
def rowUnpacksRow : OpenClaim := { program := "ytiakfdoaopfihaa", sum := "02a3d76bb33648f17c8b1132d1936fca55aaa4ef107055a55c22e2f34e16f9f2", func := "tabard/tabardlaw11.RowUnpacks", spec := "rowUnpacks", unfollowed := true, recurses := true, apart := false }
def RowUnpacksSaid : Prop := rowUnpacksRow.holds Try.pinned (OpenSpec.ofChange rowUnpacksSpec)

/-- ITS FALSE NEIGHBOUR: 'it returns false'. Refute it at one input. -/
def rowUnpacksWrong : ChangeSpec := { name := "rowUnpacks", fn := fun _ => fun
  | [d1, d2, d3] => { results := [.lit (.bool false)], args := [d1, d2, d3] }
  | _ => none }
def RowUnpacksWrongFalsely : Prop := rowUnpacksRow.holds Try.pinned (OpenSpec.ofChange rowUnpacksWrong)

/-- 'tabardlaw11.RowBack': WHATEVER THE INPUT: true; the input reads as it did. -/
def rowBackSpec : ChangeSpec := { name := "rowBack", fn := fun _ => fun
  | [d] => { results := [.lit (.bool true)], args := [d] }
  | _ => none }
def rowBackRow : OpenClaim := { program := "ytiakfdoaopfihaa", sum := "02a3d76bb33648f17c8b1132d1936fca55aaa4ef107055a55c22e2f34e16f9f2", func := "tabard/tabardlaw11.RowBack", spec := "rowBack", unfollowed := true, recurses := true, apart := false }
def RowBackSaid : Prop := rowBackRow.holds Try.pinned (OpenSpec.ofChange rowBackSpec)

/-- ITS FALSE NEIGHBOUR: 'it returns false'. Refute it at one input. -/
def rowBackWrong : ChangeSpec := { name := "rowBack", fn := fun _ => fun
  | [d] => { results := [.lit (.bool false)], args := [d] }
  | _ => none }
def RowBackWrongFalsely : Prop := rowBackRow.holds Try.pinned (OpenSpec.ofChange rowBackWrong)

/- THE SECOND FORM. 'bulk': how many values and letters a reading holds, each counted each time it is reached (what is shared counts as often as it is met; a slice's spare places count too). A statement '..UptoSaid' is the law's where the arguments, and the package variables that the reading takes, are together of bulk at most 1048576: NARROWER than '..Said'. Prove '..Said' where nothing that the law and all that it calls make is longer than what came in: it says more and counts as full. Else prove '..UptoSaid'. A law counts once. -/
mutual
def uptoBulk {H : Type} : DataW H → Nat
  | .lit (.string bytes) => bytes.length + 1
  | .lit _ => 1
  | .nil => 1
  | .ptr d => uptoBulk d + 1
  | .slice elems spare => uptoBulkAll elems + uptoBulkAll spare + 1
  | .agg parts => uptoBulkAll parts + 1
  | .iface _ d => uptoBulk d + 1
  | .map entries => uptoBulkEntries entries + 1
  | .held _ => 1
def uptoBulkAll {H : Type} : List (DataW H) → Nat
  | [] => 0
  | d :: r => uptoBulk d + uptoBulkAll r
def uptoBulkEntries {H : Type} : List (Lit × DataW H) → Nat
  | [] => 0
  | x :: r => uptoBulkEntry x + uptoBulkEntries r
def uptoBulkEntry {H : Type} : Lit × DataW H → Nat
  | (.string bytes, d) => bytes.length + uptoBulk d + 1
  | (_, d) => uptoBulk d + 1
 end
def uptoSmall : (H : Type) → List (DataW H) → Bool := fun _ ds => decide (uptoBulkAll ds ≤ 1048576)
def OpenSpec.upto (s : _root_.Go.ChangeSpec) : _root_.Go.OpenSpec := { _root_.Go.OpenSpec.ofChange s with cond := some uptoSmall }

/-- 'tabardlaw11.RowLeast', WHERE WHAT IT READS IS OF BULK AT MOST 1048576: true; the input reads as it did. -/
def rowLeastUptoRow : OpenClaim := { program := "ytiakfdoaopfihaa", sum := "02a3d76bb33648f17c8b1132d1936fca55aaa4ef107055a55c22e2f34e16f9f2", func := "tabard/tabardlaw11.RowLeast", spec := "rowLeast", unfollowed := true, recurses := true, apart := false, narrowed := true }
def RowLeastUptoSaid : Prop := rowLeastUptoRow.holds Try.pinned (OpenSpec.upto rowLeastSpec)

/-- 'tabardlaw11.RowPacks', WHERE WHAT IT READS IS OF BULK AT MOST 1048576: true; the input reads as it did. -/
def rowPacksUptoRow : OpenClaim := { program := "ytiakfdoaopfihaa", sum := "02a3d76bb33648f17c8b1132d1936fca55aaa4ef107055a55c22e2f34e16f9f2", func := "tabard/tabardlaw11.RowPacks", spec := "rowPacks", unfollowed := true, recurses := true, apart := false, narrowed := true }
def RowPacksUptoSaid : Prop := rowPacksUptoRow.holds Try.pinned (OpenSpec.upto rowPacksSpec)

/-- 'tabardlaw11.RowOnly', WHERE WHAT IT READS IS OF BULK AT MOST 1048576: true; the input reads as it did. -/
def rowOnlyUptoRow : OpenClaim := { program := "ytiakfdoaopfihaa", sum := "02a3d76bb33648f17c8b1132d1936fca55aaa4ef107055a55c22e2f34e16f9f2", func := "tabard/tabardlaw11.RowOnly", spec := "rowOnly", unfollowed := true, recurses := true, apart := false, narrowed := true }
def RowOnlyUptoSaid : Prop := rowOnlyUptoRow.holds Try.pinned (OpenSpec.upto rowOnlySpec)

/-- 'tabardlaw11.RowUnpacks', WHERE WHAT IT READS IS OF BULK AT MOST 1048576: true; the input reads as it did. -/
def rowUnpacksUptoRow : OpenClaim := { program := "ytiakfdoaopfihaa", sum := "02a3d76bb33648f17c8b1132d1936fca55aaa4ef107055a55c22e2f34e16f9f2", func := "tabard/tabardlaw11.RowUnpacks", spec := "rowUnpacks", unfollowed := true, recurses := true, apart := false, narrowed := true }
def RowUnpacksUptoSaid : Prop := rowUnpacksUptoRow.holds Try.pinned (OpenSpec.upto rowUnpacksSpec)

/-- 'tabardlaw11.RowBack', WHERE WHAT IT READS IS OF BULK AT MOST 1048576: true; the input reads as it did. -/
def rowBackUptoRow : OpenClaim := { program := "ytiakfdoaopfihaa", sum := "02a3d76bb33648f17c8b1132d1936fca55aaa4ef107055a55c22e2f34e16f9f2", func := "tabard/tabardlaw11.RowBack", spec := "rowBack", unfollowed := true, recurses := true, apart := false, narrowed := true }
def RowBackUptoSaid : Prop := rowBackUptoRow.holds Try.pinned (OpenSpec.upto rowBackSpec)

end Rows
end Go.Proofs.Ytiakfdoaopfihaa

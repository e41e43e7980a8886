/-
  No cell of these rows narrows 'for every input' (looked for: loops, veiled, ifaces, maps, wideKeys, modest, calm, conditions, laid).
  DERIVED. THE GIVEN ROWS OF THIS SEAT. 7 by the template 'for every input the law returns true; each argument reads behind the call as it read before'; 0 by the template 'total and deterministic' (their statements: YtghfclgcgecgdaaTotals.lean).
  GIVEN WITH THE SEED: the statements are not yours to turn. If you find one false, say at which input.
  Laid BY PROGRAM, IN A SANDBOX (cutbox-rows.mjs): the forced cells as the released guide's own fill.sh prints them over the translation d944879cacdb5ca0… (all of the seat's roots in one cut). By AI agents, Wed Nov 11 2026. No macro, syntax, notation, axiom, sorry.
-/
import Derived.Test.YtghfclgcgecgdaaChecked
import GoSem.Claim
import GoSem.ClaimJoined
import GoSem.ClaimMapViews
import Derived.JoinedTies
import Derived.KernelRfl
namespace Go.Proofs.Ytghfclgcgecgdaa
/- THE CELL 'sum', in the pinned program and in every row, IS THE sha256 OF THE DUMP (.gsa) THAT YtghfclgcgecgdaaProg.lean LOADS. Nothing in Lean hashes anything: it is a label: what it is worth is what the hold of that sum in a sandbox is worth. -/
noncomputable def Try.pinned : Pinned := { name := "ytghfclgcgecgdaa", sum := "d944879cacdb5ca027dee3ecd023d432064cce26d2613a11f3b442aa021e80f0", checked := Try.checked }
namespace Rows
def none {H : Type} : Left H := { results := [], args := [] }

/-- 'tabardlaw12.TablePacks': WHATEVER THE INPUT: true; the input reads as it did. -/
def tablePacksSpec : ChangeSpec := { name := "tablePacks", fn := fun _ => fun
  | [d] => { results := [.lit (.bool true)], args := [d] }
  | _ => none }
def tablePacksRow : OpenClaim := { program := "ytghfclgcgecgdaa", sum := "d944879cacdb5ca027dee3ecd023d432064cce26d2613a11f3b442aa021e80f0", func := "tabard/tabardlaw12.TablePacks", spec := "tablePacks", unfollowed := true, recurses := true, apart := false }
def TablePacksSaid : Prop := tablePacksRow.holds Try.pinned (OpenSpec.ofChange tablePacksSpec)

/-- ITS FALSE NEIGHBOUR: 'it returns false'. Refute it at one input. -/
def tablePacksWrong : ChangeSpec := { name := "tablePacks", fn := fun _ => fun
  | [d] => { results := [.lit (.bool false)], args := [d] }
  | _ => none }
def TablePacksWrongFalsely : Prop := tablePacksRow.holds Try.pinned (OpenSpec.ofChange tablePacksWrong)

/-- 'tabardlaw12.TableRuns': WHATEVER THE INPUT: true; the input reads as it did. -/
def tableRunsSpec : ChangeSpec := { name := "tableRuns", fn := fun _ => fun
  | [d1, d2] => { results := [.lit (.bool true)], args := [d1, d2] }
  | _ => none }
def tableRunsRow : OpenClaim := { program := "ytghfclgcgecgdaa", sum := "d944879cacdb5ca027dee3ecd023d432064cce26d2613a11f3b442aa021e80f0", func := "tabard/tabardlaw12.TableRuns", spec := "tableRuns", unfollowed := true, recurses := true, apart := false }
def TableRunsSaid : Prop := tableRunsRow.holds Try.pinned (OpenSpec.ofChange tableRunsSpec)

/-- ITS FALSE NEIGHBOUR: 'it returns false'. Refute it at one input. -/
def tableRunsWrong : ChangeSpec := { name := "tableRuns", fn := fun _ => fun
  | [d1, d2] => { results := [.lit (.bool false)], args := [d1, d2] }
  | _ => none }
def TableRunsWrongFalsely : Prop := tableRunsRow.holds Try.pinned (OpenSpec.ofChange tableRunsWrong)

/-- 'tabardlaw12.TableSteps': WHATEVER THE INPUT: true; the input reads as it did. -/
def tableStepsSpec : ChangeSpec := { name := "tableSteps", fn := fun _ => fun
  | [d1, d2, d3] => { results := [.lit (.bool true)], args := [d1, d2, d3] }
  | _ => none }
def tableStepsRow : OpenClaim := { program := "ytghfclgcgecgdaa", sum := "d944879cacdb5ca027dee3ecd023d432064cce26d2613a11f3b442aa021e80f0", func := "tabard/tabardlaw12.TableSteps", spec := "tableSteps", unfollowed := true, recurses := true, apart := false }
def TableStepsSaid : Prop := tableStepsRow.holds Try.pinned (OpenSpec.ofChange tableStepsSpec)

/-- ITS FALSE NEIGHBOUR: 'it returns false'. Refute it at one input. -/
def tableStepsWrong : ChangeSpec := { name := "tableSteps", fn := fun _ => fun
  | [d1, d2, d3] => { results := [.lit (.bool false)], args := [d1, d2, d3] }
  | _ => none }
def TableStepsWrongFalsely : Prop := tableStepsRow.holds Try.pinned (OpenSpec.ofChange tableStepsWrong)

/-- 'tabardlaw12.TableSames': WHATEVER THE INPUT: true; the input reads as it did. -/
def tableSamesSpec : ChangeSpec := { name := "tableSames", fn := fun _ => fun
  | [d1, d2] => { results := [.lit (.bool true)], args := [d1, d2] }
  | _ => none }
def tableSamesRow : OpenClaim := { program := "ytghfclgcgecgdaa", sum := "d944879cacdb5ca027dee3ecd023d432064cce26d2613a11f3b442aa021e80f0", func := "tabard/tabardlaw12.TableSames", spec := "tableSames", unfollowed := true, recurses := true, apart := false }
def TableSamesSaid : Prop := tableSamesRow.holds Try.pinned (OpenSpec.ofChange tableSamesSpec)

/-- ITS FALSE NEIGHBOUR: 'it returns false'. Refute it at one input. -/
def tableSamesWrong : ChangeSpec := { name := "tableSames", fn := fun _ => fun
  | [d1, d2] => { results := [.lit (.bool false)], args := [d1, d2] }
  | _ => none }
def TableSamesWrongFalsely : Prop := tableSamesRow.holds Try.pinned (OpenSpec.ofChange tableSamesWrong)

/-- 'tabardlaw12.TableMemory': WHATEVER THE INPUT: true; the input reads as it did. -/
def tableMemorySpec : ChangeSpec := { name := "tableMemory", fn := fun _ => fun
  | [d] => { results := [.lit (.bool true)], args := [d] }
  | _ => none }
def tableMemoryRow : OpenClaim := { program := "ytghfclgcgecgdaa", sum := "d944879cacdb5ca027dee3ecd023d432064cce26d2613a11f3b442aa021e80f0", func := "tabard/tabardlaw12.TableMemory", spec := "tableMemory", unfollowed := true, recurses := true, apart := false }
def TableMemorySaid : Prop := tableMemoryRow.holds Try.pinned (OpenSpec.ofChange tableMemorySpec)

/-- ITS FALSE NEIGHBOUR: 'it returns false'. Refute it at one input. -/
def tableMemoryWrong : ChangeSpec := { name := "tableMemory", fn := fun _ => fun
  | [d] => { results := [.lit (.bool false)], args := [d] }
  | _ => none }
def TableMemoryWrongFalsely : Prop := tableMemoryRow.holds Try.pinned (OpenSpec.ofChange tableMemoryWrong)

/-- 'tabardlaw12.TableUnpacks': WHATEVER THE INPUT: true; the input reads as it did. -/
def tableUnpacksSpec : ChangeSpec := { name := "tableUnpacks", fn := fun _ => fun
  | [d] => { results := [.lit (.bool true)], args := [d] }
  | _ => none }
def tableUnpacksRow : OpenClaim := { program := "ytghfclgcgecgdaa", sum := "d944879cacdb5ca027dee3ecd023d432064cce26d2613a11f3b442aa021e80f0", func := "tabard/tabardlaw12.TableUnpacks", spec := "tableUnpacks", unfollowed := true, recurses := true, apart := false }
def TableUnpacksSaid : Prop := tableUnpacksRow.holds Try.pinned (OpenSpec.ofChange tableUnpacksSpec)

/-- ITS FALSE NEIGHBOUR: 'it returns false'. Refute it at one input. -/
def tableUnpacksWrong : ChangeSpec := { name := "tableUnpacks", fn := fun _ => fun
  | [d] => { results := [.lit (.bool false)], args := [d] }
  | _ => none }
def TableUnpacksWrongFalsely : Prop := tableUnpacksRow.holds Try.pinned (OpenSpec.ofChange tableUnpacksWrong)

/-- 'tabardlaw12.TableBack': WHATEVER THE INPUT: true; the input reads as it did. -/
def tableBackSpec : ChangeSpec := { name := "tableBack", fn := fun _ => fun
  | [d1, d2] => { results := [.lit (.bool true)], args := [d1, d2] }
  | _ => none }
def tableBackRow : OpenClaim := { program := "ytghfclgcgecgdaa", sum := "d944879cacdb5ca027dee3ecd023d432064cce26d2613a11f3b442aa021e80f0", func := "tabard/tabardlaw12.TableBack", spec := "tableBack", unfollowed := true, recurses := true, apart := false }
def TableBackSaid : Prop := tableBackRow.holds Try.pinned (OpenSpec.ofChange tableBackSpec)

/-- ITS FALSE NEIGHBOUR: 'it returns false'. Refute it at one input. -/
def tableBackWrong : ChangeSpec := { name := "tableBack", fn := fun _ => fun
  | [d1, d2] => { results := [.lit (.bool false)], args := [d1, d2] }
  | _ => none }
def TableBackWrongFalsely : Prop := tableBackRow.holds Try.pinned (OpenSpec.ofChange tableBackWrong)

/- THE SECOND FORM. 'bulk': how many values and letters a reading holds, each counted each time it is reached (what is shared counts as often as it is met; a slice's spare places count too). A statement '..UptoSaid' is the law's where the arguments, and the package variables that the reading takes, are together of bulk at most 1048576: NARROWER than '..Said'. Prove '..Said' where nothing that the law and all that it calls make is longer than what came in: it says more and counts as full. Else prove '..UptoSaid'. A law counts once. -/
mutual
def uptoBulk {H : Type} : DataW H → Nat
  | .lit (.string bytes) => bytes.length + 1
  | .lit _ => 1
  | .nil => 1
  | .ptr d => uptoBulk d + 1
  | .slice elems spare => uptoBulkAll elems + uptoBulkAll spare + 1
  | .agg parts => uptoBulkAll parts + 1
  | .iface _ d => uptoBulk d + 1
  | .map entries => uptoBulkEntries entries + 1
  | .held _ => 1
def uptoBulkAll {H : Type} : List (DataW H) → Nat
  | [] => 0
  | d :: r => uptoBulk d + uptoBulkAll r
def uptoBulkEntries {H : Type} : List (Lit × DataW H) → Nat
  | [] => 0
  | x :: r => uptoBulkEntry x + uptoBulkEntries r
def uptoBulkEntry {H : Type} : Lit × DataW H → Nat
  | (.string bytes, d) => bytes.length + uptoBulk d + 1
  | (_, d) => uptoBulk d + 1
 end
def uptoSmall : (H : Type) → List (DataW H) → Bool := fun _ ds => decide (uptoBulkAll ds ≤ 1048576)
def OpenSpec.upto (s : _root_.Go.ChangeSpec) : _root_.Go.OpenSpec := { _root_.Go.OpenSpec.ofChange s with cond := some uptoSmall }

/-- 'tabardlaw12.TablePacks', WHERE WHAT IT READS IS OF BULK AT MOST 1048576: true; the input reads as it did. -/
def tablePacksUptoRow : OpenClaim := { program := "ytghfclgcgecgdaa", sum := "d944879cacdb5ca027dee3ecd023d432064cce26d2613a11f3b442aa021e80f0", func := "tabard/tabardlaw12.TablePacks", spec := "tablePacks", unfollowed := true, recurses := true, apart := false, narrowed := true }
def TablePacksUptoSaid : Prop := tablePacksUptoRow.holds Try.pinned (OpenSpec.upto tablePacksSpec)

/-- 'tabardlaw12.TableRuns', WHERE WHAT IT READS IS OF BULK AT MOST 1048576: true; the input reads as it did. -/
def tableRunsUptoRow : OpenClaim := { program := "ytghfclgcgecgdaa", sum := "d944879cacdb5ca027dee3ecd023d432064cce26d2613a11f3b442aa021e80f0", func := "tabard/tabardlaw12.TableRuns", spec := "tableRuns", unfollowed := true, recurses := true, apart := false, narrowed := true }
def TableRunsUptoSaid : Prop := tableRunsUptoRow.holds Try.pinned (OpenSpec.upto tableRunsSpec)

/-- 'tabardlaw12.TableSteps', WHERE WHAT IT READS IS OF BULK AT MOST 1048576: true; the input reads as it did. -/
def tableStepsUptoRow : OpenClaim := { program := "ytghfclgcgecgdaa", sum := "d944879cacdb5ca027dee3ecd023d432064cce26d2613a11f3b442aa021e80f0", func := "tabard/tabardlaw12.TableSteps", spec := "tableSteps", unfollowed := true, recurses := true, apart := false, narrowed := true }
def TableStepsUptoSaid : Prop := tableStepsUptoRow.holds Try.pinned (OpenSpec.upto tableStepsSpec)

/-- 'tabardlaw12.TableSames', WHERE WHAT IT READS IS OF BULK AT MOST 1048576: true; the input reads as it did. -/
def tableSamesUptoRow : OpenClaim := { program := "ytghfclgcgecgdaa", sum := "d944879cacdb5ca027dee3ecd023d432064cce26d2613a11f3b442aa021e80f0", func := "tabard/tabardlaw12.TableSames", spec := "tableSames", unfollowed := true, recurses := true, apart := false, narrowed := true }
def TableSamesUptoSaid : Prop := tableSamesUptoRow.holds Try.pinned (OpenSpec.upto tableSamesSpec)

/-- 'tabardlaw12.TableMemory', WHERE WHAT IT READS IS OF BULK AT MOST 1048576: true; the input reads as it did. -/
def tableMemoryUptoRow : OpenClaim := { program := "ytghfclgcgecgdaa", sum := "d944879cacdb5ca027dee3ecd023d432064cce26d2613a11f3b442aa021e80f0", func := "tabard/tabardlaw12.TableMemory", spec := "tableMemory", unfollowed := true, recurses := true, apart := false, narrowed := true }
def TableMemoryUptoSaid : Prop := tableMemoryUptoRow.holds Try.pinned (OpenSpec.upto tableMemorySpec)

/-- 'tabardlaw12.TableUnpacks', WHERE WHAT IT READS IS OF BULK AT MOST 1048576: true; the input reads as it did. -/
def tableUnpacksUptoRow : OpenClaim := { program := "ytghfclgcgecgdaa", sum := "d944879cacdb5ca027dee3ecd023d432064cce26d2613a11f3b442aa021e80f0", func := "tabard/tabardlaw12.TableUnpacks", spec := "tableUnpacks", unfollowed := true, recurses := true, apart := false, narrowed := true }
def TableUnpacksUptoSaid : Prop := tableUnpacksUptoRow.holds Try.pinned (OpenSpec.upto tableUnpacksSpec)

/-- 'tabardlaw12.TableBack', WHERE WHAT IT READS IS OF BULK AT MOST 1048576: true; the input reads as it did. -/
def tableBackUptoRow : OpenClaim := { program := "ytghfclgcgecgdaa", sum := "d944879cacdb5ca027dee3ecd023d432064cce26d2613a11f3b442aa021e80f0", func := "tabard/tabardlaw12.TableBack", spec := "tableBack", unfollowed := true, recurses := true, apart := false, narrowed := true }
def TableBackUptoSaid : Prop := tableBackUptoRow.holds Try.pinned (OpenSpec.upto tableBackSpec)

end Rows
end Go.Proofs.Ytghfclgcgecgdaa

/-
  No cell of these rows narrows 'for every input' (looked for: loops, veiled, ifaces, maps, wideKeys, modest, calm, conditions, laid).
  DERIVED. THE GIVEN ROWS OF THIS SEAT. 7 by the template 'for every input the law returns true; each argument reads behind the call as it read before'; 0 by the template 'total and deterministic' (their statements: YtbpeloobnjbgkaaTotals.lean).
  GIVEN WITH THE SEED: the statements are not yours to turn. If you find one false, say at which input.
  Laid BY PROGRAM, IN A SANDBOX (cutbox-rows.mjs): the forced cells as the released guide's own fill.sh prints them over the translation 0cf886eb60351a38… (all of the seat's roots in one cut). By AI agents, Wed Nov 11 2026. No macro, syntax, notation, axiom, sorry.
-/
import Derived.Test.YtbpeloobnjbgkaaChecked
import GoSem.Claim
import GoSem.ClaimJoined
import GoSem.ClaimMapViews
import Derived.JoinedTies
import Derived.KernelRfl
namespace Go.Proofs.Ytbpeloobnjbgkaa
/- THE CELL 'sum', in the pinned program and in every row, IS THE sha256 OF THE DUMP (.gsa) THAT YtbpeloobnjbgkaaProg.lean LOADS. Nothing in Lean hashes anything: it is a label: what it is worth is what the hold of that sum in a sandbox is worth. -/
noncomputable def Try.pinned : Pinned := { name := "ytbpeloobnjbgkaa", sum := "0cf886eb60351a388135eeacfce8cd435b8c9443d5136f42f42005ddf5923834", checked := Try.checked }
namespace Rows
def none {H : Type} : Left H := { results := [], args := [] }

/-- 'tabardlaw13.CanonClasses': WHATEVER THE INPUT: true; the input reads as it did. -/
def canonClassesSpec : ChangeSpec := { name := "canonClasses", fn := fun _ => fun
  | [d] => { results := [.lit (.bool true)], args := [d] }
  | _ => none }
def canonClassesRow : OpenClaim := { program := "ytbpeloobnjbgkaa", sum := "0cf886eb60351a388135eeacfce8cd435b8c9443d5136f42f42005ddf5923834", func := "tabard/tabardlaw13.CanonClasses", spec := "canonClasses", unfollowed := true, recurses := true, plainKeys := false, apart := false }
def CanonClassesSaid : Prop := canonClassesRow.holds Try.pinned (OpenSpec.ofChange canonClassesSpec)

/-- ITS FALSE NEIGHBOUR: 'it returns false'. Refute it at one input. -/
def canonClassesWrong : ChangeSpec := { name := "canonClasses", fn := fun _ => fun
  | [d] => { results := [.lit (.bool false)], args := [d] }
  | _ => none }
def CanonClassesWrongFalsely : Prop := canonClassesRow.holds Try.pinned (OpenSpec.ofChange canonClassesWrong)

/-- 'tabardlaw13.CanonMinimal': WHATEVER THE INPUT: true; the input reads as it did. -/
def canonMinimalSpec : ChangeSpec := { name := "canonMinimal", fn := fun _ => fun
  | [d] => { results := [.lit (.bool true)], args := [d] }
  | _ => none }
def canonMinimalRow : OpenClaim := { program := "ytbpeloobnjbgkaa", sum := "0cf886eb60351a388135eeacfce8cd435b8c9443d5136f42f42005ddf5923834", func := "tabard/tabardlaw13.CanonMinimal", spec := "canonMinimal", unfollowed := true, recurses := true, plainKeys := false, apart := false }
def CanonMinimalSaid : Prop := canonMinimalRow.holds Try.pinned (OpenSpec.ofChange canonMinimalSpec)

/-- ITS FALSE NEIGHBOUR: 'it returns false'. Refute it at one input. -/
def canonMinimalWrong : ChangeSpec := { name := "canonMinimal", fn := fun _ => fun
  | [d] => { results := [.lit (.bool false)], args := [d] }
  | _ => none }
def CanonMinimalWrongFalsely : Prop := canonMinimalRow.holds Try.pinned (OpenSpec.ofChange canonMinimalWrong)

/-- 'tabardlaw13.CanonLeast': WHATEVER THE INPUT: true; the input reads as it did. -/
def canonLeastSpec : ChangeSpec := { name := "canonLeast", fn := fun _ => fun
  | [d] => { results := [.lit (.bool true)], args := [d] }
  | _ => none }
def canonLeastRow : OpenClaim := { program := "ytbpeloobnjbgkaa", sum := "0cf886eb60351a388135eeacfce8cd435b8c9443d5136f42f42005ddf5923834", func := "tabard/tabardlaw13.CanonLeast", spec := "canonLeast", unfollowed := true, recurses := true, plainKeys := false, apart := false }
def CanonLeastSaid : Prop := canonLeastRow.holds Try.pinned (OpenSpec.ofChange canonLeastSpec)

/-- ITS FALSE NEIGHBOUR: 'it returns false'. Refute it at one input. -/
def canonLeastWrong : ChangeSpec := { name := "canonLeast", fn := fun _ => fun
  | [d] => { results := [.lit (.bool false)], args := [d] }
  | _ => none }
def CanonLeastWrongFalsely : Prop := canonLeastRow.holds Try.pinned (OpenSpec.ofChange canonLeastWrong)

/-- 'tabardlaw13.CanonOne': WHATEVER THE INPUT: true; the input reads as it did. -/
def canonOneSpec : ChangeSpec := { name := "canonOne", fn := fun _ => fun
  | [d1, d2] => { results := [.lit (.bool true)], args := [d1, d2] }
  | _ => none }
def canonOneRow : OpenClaim := { program := "ytbpeloobnjbgkaa", sum := "0cf886eb60351a388135eeacfce8cd435b8c9443d5136f42f42005ddf5923834", func := "tabard/tabardlaw13.CanonOne", spec := "canonOne", unfollowed := true, recurses := true, plainKeys := false, apart := false }
def CanonOneSaid : Prop := canonOneRow.holds Try.pinned (OpenSpec.ofChange canonOneSpec)

/-- ITS FALSE NEIGHBOUR: 'it returns false'. Refute it at one input. -/
def canonOneWrong : ChangeSpec := { name := "canonOne", fn := fun _ => fun
  | [d1, d2] => { results := [.lit (.bool false)], args := [d1, d2] }
  | _ => none }
def CanonOneWrongFalsely : Prop := canonOneRow.holds Try.pinned (OpenSpec.ofChange canonOneWrong)

/-- 'tabardlaw13.CanonTells': WHATEVER THE INPUT: true; the input reads as it did. -/
def canonTellsSpec : ChangeSpec := { name := "canonTells", fn := fun _ => fun
  | [d] => { results := [.lit (.bool true)], args := [d] }
  | _ => none }
def canonTellsRow : OpenClaim := { program := "ytbpeloobnjbgkaa", sum := "0cf886eb60351a388135eeacfce8cd435b8c9443d5136f42f42005ddf5923834", func := "tabard/tabardlaw13.CanonTells", spec := "canonTells", unfollowed := true, recurses := true, plainKeys := false, apart := false }
def CanonTellsSaid : Prop := canonTellsRow.holds Try.pinned (OpenSpec.ofChange canonTellsSpec)

/-- ITS FALSE NEIGHBOUR: 'it returns false'. Refute it at one input. -/
def canonTellsWrong : ChangeSpec := { name := "canonTells", fn := fun _ => fun
  | [d] => { results := [.lit (.bool false)], args := [d] }
  | _ => none }
def CanonTellsWrongFalsely : Prop := canonTellsRow.holds Try.pinned (OpenSpec.ofChange canonTellsWrong)

/-- 'tabardlaw13.CanonTakes': WHATEVER THE INPUT: true; the input reads as it did. -/
def canonTakesSpec : ChangeSpec := { name := "canonTakes", fn := fun _ => fun
  | [d1, d2] => { results := [.lit (.bool true)], args := [d1, d2] }
  | _ => none }
def canonTakesRow : OpenClaim := { program := "ytbpeloobnjbgkaa", sum := "0cf886eb60351a388135eeacfce8cd435b8c9443d5136f42f42005ddf5923834", func := "tabard/tabardlaw13.CanonTakes", spec := "canonTakes", unfollowed := true, recurses := true, plainKeys := false, apart := false }
def CanonTakesSaid : Prop := canonTakesRow.holds Try.pinned (OpenSpec.ofChange canonTakesSpec)

/-- ITS FALSE NEIGHBOUR: 'it returns false'. Refute it at one input. -/
def canonTakesWrong : ChangeSpec := { name := "canonTakes", fn := fun _ => fun
  | [d1, d2] => { results := [.lit (.bool false)], args := [d1, d2] }
  | _ => none }
def CanonTakesWrongFalsely : Prop := canonTakesRow.holds Try.pinned (OpenSpec.ofChange canonTakesWrong)

/-- 'tabardlaw13.CanonSound': WHATEVER THE INPUT: true; the input reads as it did. -/
def canonSoundSpec : ChangeSpec := { name := "canonSound", fn := fun _ => fun
  | [d1, d2, d3] => { results := [.lit (.bool true)], args := [d1, d2, d3] }
  | _ => none }
def canonSoundRow : OpenClaim := { program := "ytbpeloobnjbgkaa", sum := "0cf886eb60351a388135eeacfce8cd435b8c9443d5136f42f42005ddf5923834", func := "tabard/tabardlaw13.CanonSound", spec := "canonSound", unfollowed := true, recurses := true, plainKeys := false, apart := false }
def CanonSoundSaid : Prop := canonSoundRow.holds Try.pinned (OpenSpec.ofChange canonSoundSpec)

/-- ITS FALSE NEIGHBOUR: 'it returns false'. Refute it at one input. -/
def canonSoundWrong : ChangeSpec := { name := "canonSound", fn := fun _ => fun
  | [d1, d2, d3] => { results := [.lit (.bool false)], args := [d1, d2, d3] }
  | _ => none }
def CanonSoundWrongFalsely : Prop := canonSoundRow.holds Try.pinned (OpenSpec.ofChange canonSoundWrong)

/- THE SECOND FORM. 'bulk': how many values and letters a reading holds, each counted each time it is reached (what is shared counts as often as it is met; a slice's spare places count too). A statement '..UptoSaid' is the law's where the arguments, and the package variables that the reading takes, are together of bulk at most 1048576: NARROWER than '..Said'. Prove '..Said' where nothing that the law and all that it calls make is longer than what came in: it says more and counts as full. Else prove '..UptoSaid'. A law counts once. -/
mutual
def uptoBulk {H : Type} : DataW H → Nat
  | .lit (.string bytes) => bytes.length + 1
  | .lit _ => 1
  | .nil => 1
  | .ptr d => uptoBulk d + 1
  | .slice elems spare => uptoBulkAll elems + uptoBulkAll spare + 1
  | .agg parts => uptoBulkAll parts + 1
  | .iface _ d => uptoBulk d + 1
  | .map entries => uptoBulkEntries entries + 1
  | .held _ => 1
def uptoBulkAll {H : Type} : List (DataW H) → Nat
  | [] => 0
  | d :: r => uptoBulk d + uptoBulkAll r
def uptoBulkEntries {H : Type} : List (Lit × DataW H) → Nat
  | [] => 0
  | x :: r => uptoBulkEntry x + uptoBulkEntries r
def uptoBulkEntry {H : Type} : Lit × DataW H → Nat
  | (.string bytes, d) => bytes.length + uptoBulk d + 1
  | (_, d) => uptoBulk d + 1
 end
def uptoSmall : (H : Type) → List (DataW H) → Bool := fun _ ds => decide (uptoBulkAll ds ≤ 1048576)
def OpenSpec.upto (s : _root_.Go.ChangeSpec) : _root_.Go.OpenSpec := { _root_.Go.OpenSpec.ofChange s with cond := some uptoSmall }

/-- 'tabardlaw13.CanonClasses', WHERE WHAT IT READS IS OF BULK AT MOST 1048576: true; the input reads as it did. -/
def canonClassesUptoRow : OpenClaim := { program := "ytbpeloobnjbgkaa", sum := "0cf886eb60351a388135eeacfce8cd435b8c9443d5136f42f42005ddf5923834", func := "tabard/tabardlaw13.CanonClasses", spec := "canonClasses", unfollowed := true, recurses := true, plainKeys := false, apart := false, narrowed := true }
def CanonClassesUptoSaid : Prop := canonClassesUptoRow.holds Try.pinned (OpenSpec.upto canonClassesSpec)

/-- 'tabardlaw13.CanonMinimal', WHERE WHAT IT READS IS OF BULK AT MOST 1048576: true; the input reads as it did. -/
def canonMinimalUptoRow : OpenClaim := { program := "ytbpeloobnjbgkaa", sum := "0cf886eb60351a388135eeacfce8cd435b8c9443d5136f42f42005ddf5923834", func := "tabard/tabardlaw13.CanonMinimal", spec := "canonMinimal", unfollowed := true, recurses := true, plainKeys := false, apart := false, narrowed := true }
def CanonMinimalUptoSaid : Prop := canonMinimalUptoRow.holds Try.pinned (OpenSpec.upto canonMinimalSpec)

/-- 'tabardlaw13.CanonLeast', WHERE WHAT IT READS IS OF BULK AT MOST 1048576: true; the input reads as it did. -/
def canonLeastUptoRow : OpenClaim := { program := "ytbpeloobnjbgkaa", sum := "0cf886eb60351a388135eeacfce8cd435b8c9443d5136f42f42005ddf5923834", func := "tabard/tabardlaw13.CanonLeast", spec := "canonLeast", unfollowed := true, recurses := true, plainKeys := false, apart := false, narrowed := true }
def CanonLeastUptoSaid : Prop := canonLeastUptoRow.holds Try.pinned (OpenSpec.upto canonLeastSpec)

/-- 'tabardlaw13.CanonOne', WHERE WHAT IT READS IS OF BULK AT MOST 1048576: true; the input reads as it did. -/
def canonOneUptoRow : OpenClaim := { program := "ytbpeloobnjbgkaa", sum := "0cf886eb60351a388135eeacfce8cd435b8c9443d5136f42f42005ddf5923834", func := "tabard/tabardlaw13.CanonOne", spec := "canonOne", unfollowed := true, recurses := true, plainKeys := false, apart := false, narrowed := true }
def CanonOneUptoSaid : Prop := canonOneUptoRow.holds Try.pinned (OpenSpec.upto canonOneSpec)

/-- 'tabardlaw13.CanonTells', WHERE WHAT IT READS IS OF BULK AT MOST 1048576: true; the input reads as it did. -/
def canonTellsUptoRow : OpenClaim := { program := "ytbpeloobnjbgkaa", sum := "0cf886eb60351a388135eeacfce8cd435b8c9443d5136f42f42005ddf5923834", func := "tabard/tabardlaw13.CanonTells", spec := "canonTells", unfollowed := true, recurses := true, plainKeys := false, apart := false, narrowed := true }
def CanonTellsUptoSaid : Prop := canonTellsUptoRow.holds Try.pinned (OpenSpec.upto canonTellsSpec)

/-- 'tabardlaw13.CanonTakes', WHERE WHAT IT READS IS OF BULK AT MOST 1048576: true; the input reads as it did. -/
def canonTakesUptoRow : OpenClaim := { program := "ytbpeloobnjbgkaa", sum := "0cf886eb60351a388135eeacfce8cd435b8c9443d5136f42f42005ddf5923834", func := "tabard/tabardlaw13.CanonTakes", spec := "canonTakes", unfollowed := true, recurses := true, plainKeys := false, apart := false, narrowed := true }
def CanonTakesUptoSaid : Prop := canonTakesUptoRow.holds Try.pinned (OpenSpec.upto canonTakesSpec)

/-- 'tabardlaw13.CanonSound', WHERE WHAT IT READS IS OF BULK AT MOST 1048576: true; the input reads as it did. -/
def canonSoundUptoRow : OpenClaim := { program := "ytbpeloobnjbgkaa", sum := "0cf886eb60351a388135eeacfce8cd435b8c9443d5136f42f42005ddf5923834", func := "tabard/tabardlaw13.CanonSound", spec := "canonSound", unfollowed := true, recurses := true, plainKeys := false, apart := false, narrowed := true }
def CanonSoundUptoSaid : Prop := canonSoundUptoRow.holds Try.pinned (OpenSpec.upto canonSoundSpec)

end Rows
end Go.Proofs.Ytbpeloobnjbgkaa

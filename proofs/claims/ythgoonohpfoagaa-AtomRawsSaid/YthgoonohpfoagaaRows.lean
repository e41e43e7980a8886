/-
  No cell of these rows narrows 'for every input' (looked for: loops, veiled, ifaces, maps, wideKeys, modest, calm, conditions, laid).
  DERIVED. THE GIVEN ROWS OF THIS SEAT. 5 by the template 'for every input the law returns true; each argument reads behind the call as it read before'; 0 by the template 'total and deterministic' (their statements: YthgoonohpfoagaaTotals.lean).
  GIVEN WITH THE SEED: the statements are not yours to turn. If you find one false, say at which input.
  Laid BY PROGRAM, IN A SANDBOX (cutbox-rows.mjs): the forced cells as the released guide's own fill.sh prints them over the translation 14125c9bc018c763… (all of the seat's roots in one cut). By AI agents, Wed Nov 11 2026. No macro, syntax, notation, axiom, sorry.
-/
import Derived.Test.YthgoonohpfoagaaChecked
import GoSem.Claim
import GoSem.ClaimJoined
import GoSem.ClaimMapViews
import Derived.JoinedTies
import Derived.KernelRfl
namespace Go.Proofs.Ythgoonohpfoagaa
/- THE CELL 'sum', in the pinned program and in every row, IS THE sha256 OF THE DUMP (.gsa) THAT YthgoonohpfoagaaProg.lean LOADS. Nothing in Lean hashes anything: it is a label: what it is worth is what the hold of that sum in a sandbox is worth. -/
noncomputable def Try.pinned : Pinned := { name := "ythgoonohpfoagaa", sum := "14125c9bc018c763427c26007dcc218e8797378bb73dff18a6fb068f977bc6f2", checked := Try.checked }
namespace Rows
def none {H : Type} : Left H := { results := [], args := [] }

/-- 'tabardlaw14.AtomRaws': WHATEVER THE INPUT: true; the input reads as it did. -/
def atomRawsSpec : ChangeSpec := { name := "atomRaws", fn := fun _ => fun
  | [d] => { results := [.lit (.bool true)], args := [d] }
  | _ => none }
def atomRawsRow : OpenClaim := { program := "ythgoonohpfoagaa", sum := "14125c9bc018c763427c26007dcc218e8797378bb73dff18a6fb068f977bc6f2", func := "tabard/tabardlaw14.AtomRaws", spec := "atomRaws", plainKeys := false, apart := false }
def AtomRawsSaid : Prop := atomRawsRow.holds Try.pinned (OpenSpec.ofChange atomRawsSpec)

/-- ITS FALSE NEIGHBOUR: 'it returns false'. Refute it at one input. -/
def atomRawsWrong : ChangeSpec := { name := "atomRaws", fn := fun _ => fun
  | [d] => { results := [.lit (.bool false)], args := [d] }
  | _ => none }
def AtomRawsWrongFalsely : Prop := atomRawsRow.holds Try.pinned (OpenSpec.ofChange atomRawsWrong)

/-- 'tabardlaw14.AtomMemory': WHATEVER THE INPUT: true; the input reads as it did. -/
def atomMemorySpec : ChangeSpec := { name := "atomMemory", fn := fun _ => fun
  | [d] => { results := [.lit (.bool true)], args := [d] }
  | _ => none }
def atomMemoryRow : OpenClaim := { program := "ythgoonohpfoagaa", sum := "14125c9bc018c763427c26007dcc218e8797378bb73dff18a6fb068f977bc6f2", func := "tabard/tabardlaw14.AtomMemory", spec := "atomMemory", plainKeys := false, apart := false }
def AtomMemorySaid : Prop := atomMemoryRow.holds Try.pinned (OpenSpec.ofChange atomMemorySpec)

/-- ITS FALSE NEIGHBOUR: 'it returns false'. Refute it at one input. -/
def atomMemoryWrong : ChangeSpec := { name := "atomMemory", fn := fun _ => fun
  | [d] => { results := [.lit (.bool false)], args := [d] }
  | _ => none }
def AtomMemoryWrongFalsely : Prop := atomMemoryRow.holds Try.pinned (OpenSpec.ofChange atomMemoryWrong)

/-- 'tabardlaw14.AtomTurns': WHATEVER THE INPUT: true; the input reads as it did. -/
def atomTurnsSpec : ChangeSpec := { name := "atomTurns", fn := fun _ => fun
  | [d1, d2] => { results := [.lit (.bool true)], args := [d1, d2] }
  | _ => none }
def atomTurnsRow : OpenClaim := { program := "ythgoonohpfoagaa", sum := "14125c9bc018c763427c26007dcc218e8797378bb73dff18a6fb068f977bc6f2", func := "tabard/tabardlaw14.AtomTurns", spec := "atomTurns", plainKeys := false, apart := false }
def AtomTurnsSaid : Prop := atomTurnsRow.holds Try.pinned (OpenSpec.ofChange atomTurnsSpec)

/-- ITS FALSE NEIGHBOUR: 'it returns false'. Refute it at one input. -/
def atomTurnsWrong : ChangeSpec := { name := "atomTurns", fn := fun _ => fun
  | [d1, d2] => { results := [.lit (.bool false)], args := [d1, d2] }
  | _ => none }
def AtomTurnsWrongFalsely : Prop := atomTurnsRow.holds Try.pinned (OpenSpec.ofChange atomTurnsWrong)

/-- 'tabardlaw14.AtomScales': WHATEVER THE INPUT: true; the input reads as it did. -/
def atomScalesSpec : ChangeSpec := { name := "atomScales", fn := fun _ => fun
  | [d1, d2] => { results := [.lit (.bool true)], args := [d1, d2] }
  | _ => none }
def atomScalesRow : OpenClaim := { program := "ythgoonohpfoagaa", sum := "14125c9bc018c763427c26007dcc218e8797378bb73dff18a6fb068f977bc6f2", func := "tabard/tabardlaw14.AtomScales", spec := "atomScales", unfollowed := true, recurses := true, plainKeys := false, apart := false }
def AtomScalesSaid : Prop := atomScalesRow.holds Try.pinned (OpenSpec.ofChange atomScalesSpec)

/-- ITS FALSE NEIGHBOUR: 'it returns false'. Refute it at one input. -/
def atomScalesWrong : ChangeSpec := { name := "atomScales", fn := fun _ => fun
  | [d1, d2] => { results := [.lit (.bool false)], args := [d1, d2] }
  | _ => none }
def AtomScalesWrongFalsely : Prop := atomScalesRow.holds Try.pinned (OpenSpec.ofChange atomScalesWrong)

/-- 'tabardlaw14.AtomTakes': WHATEVER THE INPUT: true; the input reads as it did. -/
def atomTakesSpec : ChangeSpec := { name := "atomTakes", fn := fun _ => fun
  | [d1, d2] => { results := [.lit (.bool true)], args := [d1, d2] }
  | _ => none }
def atomTakesRow : OpenClaim := { program := "ythgoonohpfoagaa", sum := "14125c9bc018c763427c26007dcc218e8797378bb73dff18a6fb068f977bc6f2", func := "tabard/tabardlaw14.AtomTakes", spec := "atomTakes", unfollowed := true, recurses := true, plainKeys := false, apart := false }
def AtomTakesSaid : Prop := atomTakesRow.holds Try.pinned (OpenSpec.ofChange atomTakesSpec)

/-- ITS FALSE NEIGHBOUR: 'it returns false'. Refute it at one input. -/
def atomTakesWrong : ChangeSpec := { name := "atomTakes", fn := fun _ => fun
  | [d1, d2] => { results := [.lit (.bool false)], args := [d1, d2] }
  | _ => none }
def AtomTakesWrongFalsely : Prop := atomTakesRow.holds Try.pinned (OpenSpec.ofChange atomTakesWrong)

/- THE SECOND FORM. 'bulk': how many values and letters a reading holds, each counted each time it is reached (what is shared counts as often as it is met; a slice's spare places count too). A statement '..UptoSaid' is the law's where the arguments, and the package variables that the reading takes, are together of bulk at most 1048576: NARROWER than '..Said'. Prove '..Said' where nothing that the law and all that it calls make is longer than what came in: it says more and counts as full. Else prove '..UptoSaid'. A law counts once. -/
mutual
def uptoBulk {H : Type} : DataW H → Nat
  | .lit (.string bytes) => bytes.length + 1
  | .lit _ => 1
  | .nil => 1
  | .ptr d => uptoBulk d + 1
  | .slice elems spare => uptoBulkAll elems + uptoBulkAll spare + 1
  | .agg parts => uptoBulkAll parts + 1
  | .iface _ d => uptoBulk d + 1
  | .map entries => uptoBulkEntries entries + 1
  | .held _ => 1
def uptoBulkAll {H : Type} : List (DataW H) → Nat
  | [] => 0
  | d :: r => uptoBulk d + uptoBulkAll r
def uptoBulkEntries {H : Type} : List (Lit × DataW H) → Nat
  | [] => 0
  | x :: r => uptoBulkEntry x + uptoBulkEntries r
def uptoBulkEntry {H : Type} : Lit × DataW H → Nat
  | (.string bytes, d) => bytes.length + uptoBulk d + 1
  | (_, d) => uptoBulk d + 1
 end
def uptoSmall : (H : Type) → List (DataW H) → Bool := fun _ ds => decide (uptoBulkAll ds ≤ 1048576)
def OpenSpec.upto (s : _root_.Go.ChangeSpec) : _root_.Go.OpenSpec := { _root_.Go.OpenSpec.ofChange s with cond := some uptoSmall }

/-- 'tabardlaw14.AtomRaws', WHERE WHAT IT READS IS OF BULK AT MOST 1048576: true; the input reads as it did. -/
def atomRawsUptoRow : OpenClaim := { program := "ythgoonohpfoagaa", sum := "14125c9bc018c763427c26007dcc218e8797378bb73dff18a6fb068f977bc6f2", func := "tabard/tabardlaw14.AtomRaws", spec := "atomRaws", plainKeys := false, apart := false, narrowed := true }
def AtomRawsUptoSaid : Prop := atomRawsUptoRow.holds Try.pinned (OpenSpec.upto atomRawsSpec)

/-- 'tabardlaw14.AtomMemory', WHERE WHAT IT READS IS OF BULK AT MOST 1048576: true; the input reads as it did. -/
def atomMemoryUptoRow : OpenClaim := { program := "ythgoonohpfoagaa", sum := "14125c9bc018c763427c26007dcc218e8797378bb73dff18a6fb068f977bc6f2", func := "tabard/tabardlaw14.AtomMemory", spec := "atomMemory", plainKeys := false, apart := false, narrowed := true }
def AtomMemoryUptoSaid : Prop := atomMemoryUptoRow.holds Try.pinned (OpenSpec.upto atomMemorySpec)

/-- 'tabardlaw14.AtomTurns', WHERE WHAT IT READS IS OF BULK AT MOST 1048576: true; the input reads as it did. -/
def atomTurnsUptoRow : OpenClaim := { program := "ythgoonohpfoagaa", sum := "14125c9bc018c763427c26007dcc218e8797378bb73dff18a6fb068f977bc6f2", func := "tabard/tabardlaw14.AtomTurns", spec := "atomTurns", plainKeys := false, apart := false, narrowed := true }
def AtomTurnsUptoSaid : Prop := atomTurnsUptoRow.holds Try.pinned (OpenSpec.upto atomTurnsSpec)

/-- 'tabardlaw14.AtomScales', WHERE WHAT IT READS IS OF BULK AT MOST 1048576: true; the input reads as it did. -/
def atomScalesUptoRow : OpenClaim := { program := "ythgoonohpfoagaa", sum := "14125c9bc018c763427c26007dcc218e8797378bb73dff18a6fb068f977bc6f2", func := "tabard/tabardlaw14.AtomScales", spec := "atomScales", unfollowed := true, recurses := true, plainKeys := false, apart := false, narrowed := true }
def AtomScalesUptoSaid : Prop := atomScalesUptoRow.holds Try.pinned (OpenSpec.upto atomScalesSpec)

/-- 'tabardlaw14.AtomTakes', WHERE WHAT IT READS IS OF BULK AT MOST 1048576: true; the input reads as it did. -/
def atomTakesUptoRow : OpenClaim := { program := "ythgoonohpfoagaa", sum := "14125c9bc018c763427c26007dcc218e8797378bb73dff18a6fb068f977bc6f2", func := "tabard/tabardlaw14.AtomTakes", spec := "atomTakes", unfollowed := true, recurses := true, plainKeys := false, apart := false, narrowed := true }
def AtomTakesUptoSaid : Prop := atomTakesUptoRow.holds Try.pinned (OpenSpec.upto atomTakesSpec)

end Rows
end Go.Proofs.Ythgoonohpfoagaa

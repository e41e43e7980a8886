/-
  No cell of these rows narrows 'for every input' (looked for: loops, veiled, ifaces, maps, wideKeys, modest, calm, conditions, laid).
  DERIVED. THE GIVEN ROWS OF THIS SEAT. 7 by the template 'for every input the law returns true; each argument reads behind the call as it read before'; 0 by the template 'total and deterministic' (their statements: YtolacbnkebbjiaaTotals.lean).
  GIVEN WITH THE SEED: the statements are not yours to turn. If you find one false, say at which input.
  Laid BY PROGRAM, IN A SANDBOX (cutbox-rows.mjs): the forced cells as the released guide's own fill.sh prints them over the translation 18c729b0232becb8… (all of the seat's roots in one cut). By AI agents, Wed Nov 11 2026. No macro, syntax, notation, axiom, sorry.
-/
import Derived.Test.YtolacbnkebbjiaaChecked
import GoSem.Claim
import GoSem.ClaimJoined
import GoSem.ClaimMapViews
import Derived.JoinedTies
import Derived.KernelRfl
namespace Go.Proofs.Ytolacbnkebbjiaa
/- THE CELL 'sum', in the pinned program and in every row, IS THE sha256 OF THE DUMP (.gsa) THAT YtolacbnkebbjiaaProg.lean LOADS. Nothing in Lean hashes anything: it is a label: what it is worth is what the hold of that sum in a sandbox is worth. -/
noncomputable def Try.pinned : Pinned := { name := "ytolacbnkebbjiaa", sum := "18c729b0232becb8122b3365ed012afa23df89e19f630d64a7d4509404450e5e", checked := Try.checked }
namespace Rows
def none {H : Type} : Left H := { results := [], args := [] }

/-- 'tabardlaw03.WordEncodes': WHATEVER THE INPUT: true; the input reads as it did. -/
def wordEncodesSpec : ChangeSpec := { name := "wordEncodes", fn := fun _ => fun
  | [d1, d2] => { results := [.lit (.bool true)], args := [d1, d2] }
  | _ => none }
def wordEncodesRow : OpenClaim := { program := "ytolacbnkebbjiaa", sum := "18c729b0232becb8122b3365ed012afa23df89e19f630d64a7d4509404450e5e", func := "tabard/tabardlaw03.WordEncodes", spec := "wordEncodes", apart := false }
def WordEncodesSaid : Prop := wordEncodesRow.holds Try.pinned (OpenSpec.ofChange wordEncodesSpec)

/-- ITS FALSE NEIGHBOUR: 'it returns false'. Refute it at one input. -/
def wordEncodesWrong : ChangeSpec := { name := "wordEncodes", fn := fun _ => fun
  | [d1, d2] => { results := [.lit (.bool false)], args := [d1, d2] }
  | _ => none }
def WordEncodesWrongFalsely : Prop := wordEncodesRow.holds Try.pinned (OpenSpec.ofChange wordEncodesWrong)

/-- 'tabardlaw03.WordDigits': WHATEVER THE INPUT: true; the input reads as it did. -/
def wordDigitsSpec : ChangeSpec := { name := "wordDigits", fn := fun _ => fun
  | [d1, d2, d3] => { results := [.lit (.bool true)], args := [d1, d2, d3] }
  | _ => none }
def wordDigitsRow : OpenClaim := { program := "ytolacbnkebbjiaa", sum := "18c729b0232becb8122b3365ed012afa23df89e19f630d64a7d4509404450e5e", func := "tabard/tabardlaw03.WordDigits", spec := "wordDigits", unfollowed := true, recurses := true, apart := false }
def WordDigitsSaid : Prop := wordDigitsRow.holds Try.pinned (OpenSpec.ofChange wordDigitsSpec)

/-- ITS FALSE NEIGHBOUR: 'it returns false'. Refute it at one input. -/
def wordDigitsWrong : ChangeSpec := { name := "wordDigits", fn := fun _ => fun
  | [d1, d2, d3] => { results := [.lit (.bool false)], args := [d1, d2, d3] }
  | _ => none }
def WordDigitsWrongFalsely : Prop := wordDigitsRow.holds Try.pinned (OpenSpec.ofChange wordDigitsWrong)

/-- 'tabardlaw03.WordOrder': WHATEVER THE INPUT: true; the input reads as it did. -/
def wordOrderSpec : ChangeSpec := { name := "wordOrder", fn := fun _ => fun
  | [d1, d2, d3, d4] => { results := [.lit (.bool true)], args := [d1, d2, d3, d4] }
  | _ => none }
def wordOrderRow : OpenClaim := { program := "ytolacbnkebbjiaa", sum := "18c729b0232becb8122b3365ed012afa23df89e19f630d64a7d4509404450e5e", func := "tabard/tabardlaw03.WordOrder", spec := "wordOrder", apart := false }
def WordOrderSaid : Prop := wordOrderRow.holds Try.pinned (OpenSpec.ofChange wordOrderSpec)

/-- ITS FALSE NEIGHBOUR: 'it returns false'. Refute it at one input. -/
def wordOrderWrong : ChangeSpec := { name := "wordOrder", fn := fun _ => fun
  | [d1, d2, d3, d4] => { results := [.lit (.bool false)], args := [d1, d2, d3, d4] }
  | _ => none }
def WordOrderWrongFalsely : Prop := wordOrderRow.holds Try.pinned (OpenSpec.ofChange wordOrderWrong)

/-- 'tabardlaw03.WordDecodes': WHATEVER THE INPUT: true; the input reads as it did. -/
def wordDecodesSpec : ChangeSpec := { name := "wordDecodes", fn := fun _ => fun
  | [d1, d2] => { results := [.lit (.bool true)], args := [d1, d2] }
  | _ => none }
def wordDecodesRow : OpenClaim := { program := "ytolacbnkebbjiaa", sum := "18c729b0232becb8122b3365ed012afa23df89e19f630d64a7d4509404450e5e", func := "tabard/tabardlaw03.WordDecodes", spec := "wordDecodes", unfollowed := true, recurses := true, apart := false }
def WordDecodesSaid : Prop := wordDecodesRow.holds Try.pinned (OpenSpec.ofChange wordDecodesSpec)

/-- ITS FALSE NEIGHBOUR: 'it returns false'. Refute it at one input. -/
def wordDecodesWrong : ChangeSpec := { name := "wordDecodes", fn := fun _ => fun
  | [d1, d2] => { results := [.lit (.bool false)], args := [d1, d2] }
  | _ => none }
def WordDecodesWrongFalsely : Prop := wordDecodesRow.holds Try.pinned (OpenSpec.ofChange wordDecodesWrong)

/-- 'tabardlaw03.WordTracks': WHATEVER THE INPUT: true; the input reads as it did. -/
def wordTracksSpec : ChangeSpec := { name := "wordTracks", fn := fun _ => fun
  | [d1, d2] => { results := [.lit (.bool true)], args := [d1, d2] }
  | _ => none }
def wordTracksRow : OpenClaim := { program := "ytolacbnkebbjiaa", sum := "18c729b0232becb8122b3365ed012afa23df89e19f630d64a7d4509404450e5e", func := "tabard/tabardlaw03.WordTracks", spec := "wordTracks", unfollowed := true, recurses := true, apart := false }
def WordTracksSaid : Prop := wordTracksRow.holds Try.pinned (OpenSpec.ofChange wordTracksSpec)

/-- ITS FALSE NEIGHBOUR: 'it returns false'. Refute it at one input. -/
def wordTracksWrong : ChangeSpec := { name := "wordTracks", fn := fun _ => fun
  | [d1, d2] => { results := [.lit (.bool false)], args := [d1, d2] }
  | _ => none }
def WordTracksWrongFalsely : Prop := wordTracksRow.holds Try.pinned (OpenSpec.ofChange wordTracksWrong)

/-- 'tabardlaw03.WordTrims': WHATEVER THE INPUT: true; the input reads as it did. -/
def wordTrimsSpec : ChangeSpec := { name := "wordTrims", fn := fun _ => fun
  | [d1, d2] => { results := [.lit (.bool true)], args := [d1, d2] }
  | _ => none }
def wordTrimsRow : OpenClaim := { program := "ytolacbnkebbjiaa", sum := "18c729b0232becb8122b3365ed012afa23df89e19f630d64a7d4509404450e5e", func := "tabard/tabardlaw03.WordTrims", spec := "wordTrims", apart := false }
def WordTrimsSaid : Prop := wordTrimsRow.holds Try.pinned (OpenSpec.ofChange wordTrimsSpec)

/-- ITS FALSE NEIGHBOUR: 'it returns false'. Refute it at one input. -/
def wordTrimsWrong : ChangeSpec := { name := "wordTrims", fn := fun _ => fun
  | [d1, d2] => { results := [.lit (.bool false)], args := [d1, d2] }
  | _ => none }
def WordTrimsWrongFalsely : Prop := wordTrimsRow.holds Try.pinned (OpenSpec.ofChange wordTrimsWrong)

/-- 'tabardlaw03.WordBack': WHATEVER THE INPUT: true; the input reads as it did. -/
def wordBackSpec : ChangeSpec := { name := "wordBack", fn := fun _ => fun
  | [d1, d2] => { results := [.lit (.bool true)], args := [d1, d2] }
  | _ => none }
def wordBackRow : OpenClaim := { program := "ytolacbnkebbjiaa", sum := "18c729b0232becb8122b3365ed012afa23df89e19f630d64a7d4509404450e5e", func := "tabard/tabardlaw03.WordBack", spec := "wordBack", unfollowed := true, recurses := true, apart := false }
def WordBackSaid : Prop := wordBackRow.holds Try.pinned (OpenSpec.ofChange wordBackSpec)

/-- ITS FALSE NEIGHBOUR: 'it returns false'. Refute it at one input. -/
def wordBackWrong : ChangeSpec := { name := "wordBack", fn := fun _ => fun
  | [d1, d2] => { results := [.lit (.bool false)], args := [d1, d2] }
  | _ => none }
def WordBackWrongFalsely : Prop := wordBackRow.holds Try.pinned (OpenSpec.ofChange wordBackWrong)

/- THE SECOND FORM. 'bulk': how many values and letters a reading holds, each counted each time it is reached (what is shared counts as often as it is met; a slice's spare places count too). A statement '..UptoSaid' is the law's where the arguments, and the package variables that the reading takes, are together of bulk at most 1048576: NARROWER than '..Said'. Prove '..Said' where nothing that the law and all that it calls make is longer than what came in: it says more and counts as full. Else prove '..UptoSaid'. A law counts once. -/
mutual
def uptoBulk {H : Type} : DataW H → Nat
  | .lit (.string bytes) => bytes.length + 1
  | .lit _ => 1
  | .nil => 1
  | .ptr d => uptoBulk d + 1
  | .slice elems spare => uptoBulkAll elems + uptoBulkAll spare + 1
  | .agg parts => uptoBulkAll parts + 1
  | .iface _ d => uptoBulk d + 1
  | .map entries => uptoBulkEntries entries + 1
  | .held _ => 1
def uptoBulkAll {H : Type} : List (DataW H) → Nat
  | [] => 0
  | d :: r => uptoBulk d + uptoBulkAll r
def uptoBulkEntries {H : Type} : List (Lit × DataW H) → Nat
  | [] => 0
  | x :: r => uptoBulkEntry x + uptoBulkEntries r
def uptoBulkEntry {H : Type} : Lit × DataW H → Nat
  | (.string bytes, d) => bytes.length + uptoBulk d + 1
  | (_, d) => uptoBulk d + 1
 end
def uptoSmall : (H : Type) → List (DataW H) → Bool := fun _ ds => decide (uptoBulkAll ds ≤ 1048576)
def OpenSpec.upto (s : _root_.Go.ChangeSpec) : _root_.Go.OpenSpec := { _root_.Go.OpenSpec.ofChange s with cond := some uptoSmall }

/-- 'tabardlaw03.WordEncodes', WHERE WHAT IT READS IS OF BULK AT MOST 1048576: true; the input reads as it did. -/
def wordEncodesUptoRow : OpenClaim := { program := "ytolacbnkebbjiaa", sum := "18c729b0232becb8122b3365ed012afa23df89e19f630d64a7d4509404450e5e", func := "tabard/tabardlaw03.WordEncodes", spec := "wordEncodes", apart := false, narrowed := true }
def WordEncodesUptoSaid : Prop := wordEncodesUptoRow.holds Try.pinned (OpenSpec.upto wordEncodesSpec)

/-- 'tabardlaw03.WordDigits', WHERE WHAT IT READS IS OF BULK AT MOST 1048576: true; the input reads as it did. -/
def wordDigitsUptoRow : OpenClaim := { program := "ytolacbnkebbjiaa", sum := "18c729b0232becb8122b3365ed012afa23df89e19f630d64a7d4509404450e5e", func := "tabard/tabardlaw03.WordDigits", spec := "wordDigits", unfollowed := true, recurses := true, apart := false, narrowed := true }
def WordDigitsUptoSaid : Prop := wordDigitsUptoRow.holds Try.pinned (OpenSpec.upto wordDigitsSpec)

/-- 'tabardlaw03.WordOrder', WHERE WHAT IT READS IS OF BULK AT MOST 1048576: true; the input reads as it did. -/
def wordOrderUptoRow : OpenClaim := { program := "ytolacbnkebbjiaa", sum := "18c729b0232becb8122b3365ed012afa23df89e19f630d64a7d4509404450e5e", func := "tabard/tabardlaw03.WordOrder", spec := "wordOrder", apart := false, narrowed := true }
def WordOrderUptoSaid : Prop := wordOrderUptoRow.holds Try.pinned (OpenSpec.upto wordOrderSpec)

/-- 'tabardlaw03.WordDecodes', WHERE WHAT IT READS IS OF BULK AT MOST 1048576: true; the input reads as it did. -/
def wordDecodesUptoRow : OpenClaim := { program := "ytolacbnkebbjiaa", sum := "18c729b0232becb8122b3365ed012afa23df89e19f630d64a7d4509404450e5e", func := "tabard/tabardlaw03.WordDecodes", spec := "wordDecodes", unfollowed := true, recurses := true, apart := false, narrowed := true }
def WordDecodesUptoSaid : Prop := wordDecodesUptoRow.holds Try.pinned (OpenSpec.upto wordDecodesSpec)

/-- 'tabardlaw03.WordTracks', WHERE WHAT IT READS IS OF BULK AT MOST 1048576: true; the input reads as it did. -/
def wordTracksUptoRow : OpenClaim := { program := "ytolacbnkebbjiaa", sum := "18c729b0232becb8122b3365ed012afa23df89e19f630d64a7d4509404450e5e", func := "tabard/tabardlaw03.WordTracks", spec := "wordTracks", unfollowed := true, recurses := true, apart := false, narrowed := true }
def WordTracksUptoSaid : Prop := wordTracksUptoRow.holds Try.pinned (OpenSpec.upto wordTracksSpec)

/-- 'tabardlaw03.WordTrims', WHERE WHAT IT READS IS OF BULK AT MOST 1048576: true; the input reads as it did. -/
def wordTrimsUptoRow : OpenClaim := { program := "ytolacbnkebbjiaa", sum := "18c729b0232becb8122b3365ed012afa23df89e19f630d64a7d4509404450e5e", func := "tabard/tabardlaw03.WordTrims", spec := "wordTrims", apart := false, narrowed := true }
def WordTrimsUptoSaid : Prop := wordTrimsUptoRow.holds Try.pinned (OpenSpec.upto wordTrimsSpec)

/-- 'tabardlaw03.WordBack', WHERE WHAT IT READS IS OF BULK AT MOST 1048576: true; the input reads as it did. -/
def wordBackUptoRow : OpenClaim := { program := "ytolacbnkebbjiaa", sum := "18c729b0232becb8122b3365ed012afa23df89e19f630d64a7d4509404450e5e", func := "tabard/tabardlaw03.WordBack", spec := "wordBack", unfollowed := true, recurses := true, apart := false, narrowed := true }
def WordBackUptoSaid : Prop := wordBackUptoRow.holds Try.pinned (OpenSpec.upto wordBackSpec)

end Rows
end Go.Proofs.Ytolacbnkebbjiaa

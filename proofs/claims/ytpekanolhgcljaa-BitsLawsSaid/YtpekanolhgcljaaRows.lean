/-
  No cell of these rows narrows 'for every input' (looked for: loops, veiled, ifaces, maps, wideKeys, modest, calm, conditions, laid).
  DERIVED. THE GIVEN ROWS OF THIS SEAT. 4 by the template 'for every input the law returns true; each argument reads behind the call as it read before'; 0 by the template 'total and deterministic' (their statements: YtpekanolhgcljaaTotals.lean).
  GIVEN WITH THE SEED: the statements are not yours to turn. If you find one false, say at which input.
  Laid BY PROGRAM, IN A SANDBOX (cutbox-rows.mjs): the forced cells as the released guide's own fill.sh prints them over the translation 49361b7568520981… (all of the seat's roots in one cut). By AI agents, Wed Nov 11 2026. No macro, syntax, notation, axiom, sorry.
-/
import Derived.Test.YtpekanolhgcljaaChecked
import GoSem.Claim
import GoSem.ClaimJoined
import GoSem.ClaimMapViews
import Derived.JoinedTies
import Derived.KernelRfl
namespace Go.Proofs.Ytpekanolhgcljaa
/- THE CELL 'sum', in the pinned program and in every row, IS THE sha256 OF THE DUMP (.gsa) THAT YtpekanolhgcljaaProg.lean LOADS. Nothing in Lean hashes anything: it is a label: what it is worth is what the hold of that sum in a sandbox is worth. -/
noncomputable def Try.pinned : Pinned := { name := "ytpekanolhgcljaa", sum := "49361b7568520981011d26460565f52f4dd1068c7f3a9c1fdcba0d6ba471f6d4", checked := Try.checked }
namespace Rows
def none {H : Type} : Left H := { results := [], args := [] }

/-- 'tabardlaw02.BitsLetters': WHATEVER THE INPUT: true; the input reads as it did. -/
def bitsLettersSpec : ChangeSpec := { name := "bitsLetters", fn := fun _ => fun
  | [d1, d2, d3] => { results := [.lit (.bool true)], args := [d1, d2, d3] }
  | _ => none }
def bitsLettersRow : OpenClaim := { program := "ytpekanolhgcljaa", sum := "49361b7568520981011d26460565f52f4dd1068c7f3a9c1fdcba0d6ba471f6d4", func := "tabard/tabardlaw02.BitsLetters", spec := "bitsLetters", apart := false }
def BitsLettersSaid : Prop := bitsLettersRow.holds Try.pinned (OpenSpec.ofChange bitsLettersSpec)

/-- ITS FALSE NEIGHBOUR: 'it returns false'. Refute it at one input. -/
def bitsLettersWrong : ChangeSpec := { name := "bitsLetters", fn := fun _ => fun
  | [d1, d2, d3] => { results := [.lit (.bool false)], args := [d1, d2, d3] }
  | _ => none }
def BitsLettersWrongFalsely : Prop := bitsLettersRow.holds Try.pinned (OpenSpec.ofChange bitsLettersWrong)

/-- 'tabardlaw02.BitsPlaces': WHATEVER THE INPUT: true; the input reads as it did. -/
def bitsPlacesSpec : ChangeSpec := { name := "bitsPlaces", fn := fun _ => fun
  | [d1, d2] => { results := [.lit (.bool true)], args := [d1, d2] }
  | _ => none }
def bitsPlacesRow : OpenClaim := { program := "ytpekanolhgcljaa", sum := "49361b7568520981011d26460565f52f4dd1068c7f3a9c1fdcba0d6ba471f6d4", func := "tabard/tabardlaw02.BitsPlaces", spec := "bitsPlaces", apart := false }
def BitsPlacesSaid : Prop := bitsPlacesRow.holds Try.pinned (OpenSpec.ofChange bitsPlacesSpec)

/-- ITS FALSE NEIGHBOUR: 'it returns false'. Refute it at one input. -/
def bitsPlacesWrong : ChangeSpec := { name := "bitsPlaces", fn := fun _ => fun
  | [d1, d2] => { results := [.lit (.bool false)], args := [d1, d2] }
  | _ => none }
def BitsPlacesWrongFalsely : Prop := bitsPlacesRow.holds Try.pinned (OpenSpec.ofChange bitsPlacesWrong)

/-- 'tabardlaw02.BitsBack': WHATEVER THE INPUT: true; the input reads as it did. -/
def bitsBackSpec : ChangeSpec := { name := "bitsBack", fn := fun _ => fun
  | [d1, d2, d3, d4] => { results := [.lit (.bool true)], args := [d1, d2, d3, d4] }
  | _ => none }
def bitsBackRow : OpenClaim := { program := "ytpekanolhgcljaa", sum := "49361b7568520981011d26460565f52f4dd1068c7f3a9c1fdcba0d6ba471f6d4", func := "tabard/tabardlaw02.BitsBack", spec := "bitsBack", apart := false }
def BitsBackSaid : Prop := bitsBackRow.holds Try.pinned (OpenSpec.ofChange bitsBackSpec)

/-- ITS FALSE NEIGHBOUR: 'it returns false'. Refute it at one input. -/
def bitsBackWrong : ChangeSpec := { name := "bitsBack", fn := fun _ => fun
  | [d1, d2, d3, d4] => { results := [.lit (.bool false)], args := [d1, d2, d3, d4] }
  | _ => none }
def BitsBackWrongFalsely : Prop := bitsBackRow.holds Try.pinned (OpenSpec.ofChange bitsBackWrong)

/-- 'tabardlaw02.BitsLaws': WHATEVER THE INPUT: true; the input reads as it did. -/
def bitsLawsSpec : ChangeSpec := { name := "bitsLaws", fn := fun _ => fun
  | [d1, d2, d3, d4] => { results := [.lit (.bool true)], args := [d1, d2, d3, d4] }
  | _ => none }
def bitsLawsRow : OpenClaim := { program := "ytpekanolhgcljaa", sum := "49361b7568520981011d26460565f52f4dd1068c7f3a9c1fdcba0d6ba471f6d4", func := "tabard/tabardlaw02.BitsLaws", spec := "bitsLaws", apart := false }
def BitsLawsSaid : Prop := bitsLawsRow.holds Try.pinned (OpenSpec.ofChange bitsLawsSpec)

/-- ITS FALSE NEIGHBOUR: 'it returns false'. Refute it at one input. -/
def bitsLawsWrong : ChangeSpec := { name := "bitsLaws", fn := fun _ => fun
  | [d1, d2, d3, d4] => { results := [.lit (.bool false)], args := [d1, d2, d3, d4] }
  | _ => none }
def BitsLawsWrongFalsely : Prop := bitsLawsRow.holds Try.pinned (OpenSpec.ofChange bitsLawsWrong)

/- THE SECOND FORM. 'bulk': how many values and letters a reading holds, each counted each time it is reached (what is shared counts as often as it is met; a slice's spare places count too). A statement '..UptoSaid' is the law's where the arguments, and the package variables that the reading takes, are together of bulk at most 1048576: NARROWER than '..Said'. Prove '..Said' where nothing that the law and all that it calls make is longer than what came in: it says more and counts as full. Else prove '..UptoSaid'. A law counts once. -/
mutual
def uptoBulk {H : Type} : DataW H → Nat
  | .lit (.string bytes) => bytes.length + 1
  | .lit _ => 1
  | .nil => 1
  | .ptr d => uptoBulk d + 1
  | .slice elems spare => uptoBulkAll elems + uptoBulkAll spare + 1
  | .agg parts => uptoBulkAll parts + 1
  | .iface _ d => uptoBulk d + 1
  | .map entries => uptoBulkEntries entries + 1
  | .held _ => 1
def uptoBulkAll {H : Type} : List (DataW H) → Nat
  | [] => 0
  | d :: r => uptoBulk d + uptoBulkAll r
def uptoBulkEntries {H : Type} : List (Lit × DataW H) → Nat
  | [] => 0
  | x :: r => uptoBulkEntry x + uptoBulkEntries r
def uptoBulkEntry {H : Type} : Lit × DataW H → Nat
  | (.string bytes, d) => bytes.length + uptoBulk d + 1
  | (_, d) => uptoBulk d + 1
 end
def uptoSmall : (H : Type) → List (DataW H) → Bool := fun _ ds => decide (uptoBulkAll ds ≤ 1048576)
def OpenSpec.upto (s : _root_.Go.ChangeSpec) : _root_.Go.OpenSpec := { _root_.Go.OpenSpec.ofChange s with cond := some uptoSmall }

/-- 'tabardlaw02.BitsLetters', WHERE WHAT IT READS IS OF BULK AT MOST 1048576: true; the input reads as it did. -/
def bitsLettersUptoRow : OpenClaim := { program := "ytpekanolhgcljaa", sum := "49361b7568520981011d26460565f52f4dd1068c7f3a9c1fdcba0d6ba471f6d4", func := "tabard/tabardlaw02.BitsLetters", spec := "bitsLetters", apart := false, narrowed := true }
def BitsLettersUptoSaid : Prop := bitsLettersUptoRow.holds Try.pinned (OpenSpec.upto bitsLettersSpec)

/-- 'tabardlaw02.BitsPlaces', WHERE WHAT IT READS IS OF BULK AT MOST 1048576: true; the input reads as it did. -/
def bitsPlacesUptoRow : OpenClaim := { program := "ytpekanolhgcljaa", sum := "49361b7568520981011d26460565f52f4dd1068c7f3a9c1fdcba0d6ba471f6d4", func := "tabard/tabardlaw02.BitsPlaces", spec := "bitsPlaces", apart := false, narrowed := true }
def BitsPlacesUptoSaid : Prop := bitsPlacesUptoRow.holds Try.pinned (OpenSpec.upto bitsPlacesSpec)

/-- 'tabardlaw02.BitsBack', WHERE WHAT IT READS IS OF BULK AT MOST 1048576: true; the input reads as it did. -/
def bitsBackUptoRow : OpenClaim := { program := "ytpekanolhgcljaa", sum := "49361b7568520981011d26460565f52f4dd1068c7f3a9c1fdcba0d6ba471f6d4", func := "tabard/tabardlaw02.BitsBack", spec := "bitsBack", apart := false, narrowed := true }
def BitsBackUptoSaid : Prop := bitsBackUptoRow.holds Try.pinned (OpenSpec.upto bitsBackSpec)

/-- 'tabardlaw02.BitsLaws', WHERE WHAT IT READS IS OF BULK AT MOST 1048576: true; the input reads as it did. -/
def bitsLawsUptoRow : OpenClaim := { program := "ytpekanolhgcljaa", sum := "49361b7568520981011d26460565f52f4dd1068c7f3a9c1fdcba0d6ba471f6d4", func := "tabard/tabardlaw02.BitsLaws", spec := "bitsLaws", apart := false, narrowed := true }
def BitsLawsUptoSaid : Prop := bitsLawsUptoRow.holds Try.pinned (OpenSpec.upto bitsLawsSpec)

end Rows
end Go.Proofs.Ytpekanolhgcljaa

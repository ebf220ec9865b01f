/-
  No cell of these rows narrows 'for every input' (looked for: loops, veiled, ifaces, maps, wideKeys, modest, calm, conditions, laid).
  DERIVED. THE GIVEN ROWS OF THIS SEAT. 10 by the template 'for every input the law returns true; each argument reads behind the call as it read before'; 0 by the template 'total and deterministic' (their statements: YthlipofajdaijaaTotals.lean).
  GIVEN WITH THE SEED: the statements are not yours to turn. If you find one false, say at which input.
  Laid BY PROGRAM, IN A SANDBOX (cutbox-rows.mjs): the forced cells as the released guide's own fill.sh prints them over the translation 2bc1ce5670ed76a5… (all of the seat's roots in one cut). By AI agents, Wed Nov 11 2026. No macro, syntax, notation, axiom, sorry.
-/
import Derived.Test.YthlipofajdaijaaChecked
import GoSem.Claim
import GoSem.ClaimJoined
import GoSem.ClaimMapViews
import Derived.JoinedTies
import Derived.KernelRfl
namespace Go.Proofs.Ythlipofajdaijaa
/- THE CELL 'sum', in the pinned program and in every row, IS THE sha256 OF THE DUMP (.gsa) THAT YthlipofajdaijaaProg.lean LOADS. Nothing in Lean hashes anything: it is a label: what it is worth is what the hold of that sum in a sandbox is worth. -/
noncomputable def Try.pinned : Pinned := { name := "ythlipofajdaijaa", sum := "2bc1ce5670ed76a5387553885971259d86e8014f6c62451855169435c46fe491", checked := Try.checked }
namespace Rows
def none {H : Type} : Left H := { results := [], args := [] }

/-- 'gavottelaw2.SumsTell': WHATEVER THE INPUT: true; the input reads as it did. -/
def sumsTellSpec : ChangeSpec := { name := "sumsTell", fn := fun _ => fun
  | [d1, d2, d3] => { results := [.lit (.bool true)], args := [d1, d2, d3] }
  | _ => none }
def sumsTellRow : OpenClaim := { program := "ythlipofajdaijaa", sum := "2bc1ce5670ed76a5387553885971259d86e8014f6c62451855169435c46fe491", func := "gavotte/gavottelaw2.SumsTell", spec := "sumsTell", apart := false }
def SumsTellSaid : Prop := sumsTellRow.holds Try.pinned (OpenSpec.ofChange sumsTellSpec)

/-- ITS FALSE NEIGHBOUR: 'it returns false'. Refute it at one input. -/
def sumsTellWrong : ChangeSpec := { name := "sumsTell", fn := fun _ => fun
  | [d1, d2, d3] => { results := [.lit (.bool false)], args := [d1, d2, d3] }
  | _ => none }
def SumsTellWrongFalsely : Prop := sumsTellRow.holds Try.pinned (OpenSpec.ofChange sumsTellWrong)

/-- 'gavottelaw2.SumsLaws': WHATEVER THE INPUT: true; the input reads as it did. -/
def sumsLawsSpec : ChangeSpec := { name := "sumsLaws", fn := fun _ => fun
  | [d1, d2, d3] => { results := [.lit (.bool true)], args := [d1, d2, d3] }
  | _ => none }
def sumsLawsRow : OpenClaim := { program := "ythlipofajdaijaa", sum := "2bc1ce5670ed76a5387553885971259d86e8014f6c62451855169435c46fe491", func := "gavotte/gavottelaw2.SumsLaws", spec := "sumsLaws", apart := false }
def SumsLawsSaid : Prop := sumsLawsRow.holds Try.pinned (OpenSpec.ofChange sumsLawsSpec)

/-- ITS FALSE NEIGHBOUR: 'it returns false'. Refute it at one input. -/
def sumsLawsWrong : ChangeSpec := { name := "sumsLaws", fn := fun _ => fun
  | [d1, d2, d3] => { results := [.lit (.bool false)], args := [d1, d2, d3] }
  | _ => none }
def SumsLawsWrongFalsely : Prop := sumsLawsRow.holds Try.pinned (OpenSpec.ofChange sumsLawsWrong)

/-- 'gavottelaw2.SumsTruth': WHATEVER THE INPUT: true; the input reads as it did. -/
def sumsTruthSpec : ChangeSpec := { name := "sumsTruth", fn := fun _ => fun
  | [d1, d2] => { results := [.lit (.bool true)], args := [d1, d2] }
  | _ => none }
def sumsTruthRow : OpenClaim := { program := "ythlipofajdaijaa", sum := "2bc1ce5670ed76a5387553885971259d86e8014f6c62451855169435c46fe491", func := "gavotte/gavottelaw2.SumsTruth", spec := "sumsTruth", apart := false }
def SumsTruthSaid : Prop := sumsTruthRow.holds Try.pinned (OpenSpec.ofChange sumsTruthSpec)

/-- ITS FALSE NEIGHBOUR: 'it returns false'. Refute it at one input. -/
def sumsTruthWrong : ChangeSpec := { name := "sumsTruth", fn := fun _ => fun
  | [d1, d2] => { results := [.lit (.bool false)], args := [d1, d2] }
  | _ => none }
def SumsTruthWrongFalsely : Prop := sumsTruthRow.holds Try.pinned (OpenSpec.ofChange sumsTruthWrong)

/-- 'gavottelaw2.SumsOrder': WHATEVER THE INPUT: true; the input reads as it did. -/
def sumsOrderSpec : ChangeSpec := { name := "sumsOrder", fn := fun _ => fun
  | [d1, d2, d3] => { results := [.lit (.bool true)], args := [d1, d2, d3] }
  | _ => none }
def sumsOrderRow : OpenClaim := { program := "ythlipofajdaijaa", sum := "2bc1ce5670ed76a5387553885971259d86e8014f6c62451855169435c46fe491", func := "gavotte/gavottelaw2.SumsOrder", spec := "sumsOrder", apart := false }
def SumsOrderSaid : Prop := sumsOrderRow.holds Try.pinned (OpenSpec.ofChange sumsOrderSpec)

/-- ITS FALSE NEIGHBOUR: 'it returns false'. Refute it at one input. -/
def sumsOrderWrong : ChangeSpec := { name := "sumsOrder", fn := fun _ => fun
  | [d1, d2, d3] => { results := [.lit (.bool false)], args := [d1, d2, d3] }
  | _ => none }
def SumsOrderWrongFalsely : Prop := sumsOrderRow.holds Try.pinned (OpenSpec.ofChange sumsOrderWrong)

/-- 'gavottelaw3.ProgTells': WHATEVER THE INPUT: true; the input reads as it did. -/
def progTellsSpec : ChangeSpec := { name := "progTells", fn := fun _ => fun
  | [d1, d2] => { results := [.lit (.bool true)], args := [d1, d2] }
  | _ => none }
def progTellsRow : OpenClaim := { program := "ythlipofajdaijaa", sum := "2bc1ce5670ed76a5387553885971259d86e8014f6c62451855169435c46fe491", func := "gavotte/gavottelaw3.ProgTells", spec := "progTells", unfollowed := true, recurses := true, apart := false }
def ProgTellsSaid : Prop := progTellsRow.holds Try.pinned (OpenSpec.ofChange progTellsSpec)

/-- ITS FALSE NEIGHBOUR: 'it returns false'. Refute it at one input. -/
def progTellsWrong : ChangeSpec := { name := "progTells", fn := fun _ => fun
  | [d1, d2] => { results := [.lit (.bool false)], args := [d1, d2] }
  | _ => none }
def ProgTellsWrongFalsely : Prop := progTellsRow.holds Try.pinned (OpenSpec.ofChange progTellsWrong)

/-- 'gavottelaw3.ProgCopies': WHATEVER THE INPUT: true; the input reads as it did. -/
def progCopiesSpec : ChangeSpec := { name := "progCopies", fn := fun _ => fun
  | [d1, d2] => { results := [.lit (.bool true)], args := [d1, d2] }
  | _ => none }
def progCopiesRow : OpenClaim := { program := "ythlipofajdaijaa", sum := "2bc1ce5670ed76a5387553885971259d86e8014f6c62451855169435c46fe491", func := "gavotte/gavottelaw3.ProgCopies", spec := "progCopies", unfollowed := true, recurses := true, apart := false }
def ProgCopiesSaid : Prop := progCopiesRow.holds Try.pinned (OpenSpec.ofChange progCopiesSpec)

/-- ITS FALSE NEIGHBOUR: 'it returns false'. Refute it at one input. -/
def progCopiesWrong : ChangeSpec := { name := "progCopies", fn := fun _ => fun
  | [d1, d2] => { results := [.lit (.bool false)], args := [d1, d2] }
  | _ => none }
def ProgCopiesWrongFalsely : Prop := progCopiesRow.holds Try.pinned (OpenSpec.ofChange progCopiesWrong)

/-- 'gavottelaw3.ProgLimits': WHATEVER THE INPUT: true; the input reads as it did. -/
def progLimitsSpec : ChangeSpec := { name := "progLimits", fn := fun _ => fun
  | [d1, d2] => { results := [.lit (.bool true)], args := [d1, d2] }
  | _ => none }
def progLimitsRow : OpenClaim := { program := "ythlipofajdaijaa", sum := "2bc1ce5670ed76a5387553885971259d86e8014f6c62451855169435c46fe491", func := "gavotte/gavottelaw3.ProgLimits", spec := "progLimits", unfollowed := true, recurses := true, apart := false }
def ProgLimitsSaid : Prop := progLimitsRow.holds Try.pinned (OpenSpec.ofChange progLimitsSpec)

/-- ITS FALSE NEIGHBOUR: 'it returns false'. Refute it at one input. -/
def progLimitsWrong : ChangeSpec := { name := "progLimits", fn := fun _ => fun
  | [d1, d2] => { results := [.lit (.bool false)], args := [d1, d2] }
  | _ => none }
def ProgLimitsWrongFalsely : Prop := progLimitsRow.holds Try.pinned (OpenSpec.ofChange progLimitsWrong)

/-- 'gavottelaw3.ProgOdd': WHATEVER THE INPUT: true; the input reads as it did. -/
def progOddSpec : ChangeSpec := { name := "progOdd", fn := fun _ => fun
  | [d] => { results := [.lit (.bool true)], args := [d] }
  | _ => none }
def progOddRow : OpenClaim := { program := "ythlipofajdaijaa", sum := "2bc1ce5670ed76a5387553885971259d86e8014f6c62451855169435c46fe491", func := "gavotte/gavottelaw3.ProgOdd", spec := "progOdd", unfollowed := true, recurses := true, apart := false }
def ProgOddSaid : Prop := progOddRow.holds Try.pinned (OpenSpec.ofChange progOddSpec)

/-- ITS FALSE NEIGHBOUR: 'it returns false'. Refute it at one input. -/
def progOddWrong : ChangeSpec := { name := "progOdd", fn := fun _ => fun
  | [d] => { results := [.lit (.bool false)], args := [d] }
  | _ => none }
def ProgOddWrongFalsely : Prop := progOddRow.holds Try.pinned (OpenSpec.ofChange progOddWrong)

/-- 'gavottelaw3.ProgSame': WHATEVER THE INPUT: true; the input reads as it did. -/
def progSameSpec : ChangeSpec := { name := "progSame", fn := fun _ => fun
  | [d1, d2] => { results := [.lit (.bool true)], args := [d1, d2] }
  | _ => none }
def progSameRow : OpenClaim := { program := "ythlipofajdaijaa", sum := "2bc1ce5670ed76a5387553885971259d86e8014f6c62451855169435c46fe491", func := "gavotte/gavottelaw3.ProgSame", spec := "progSame", unfollowed := true, recurses := true, apart := false }
def ProgSameSaid : Prop := progSameRow.holds Try.pinned (OpenSpec.ofChange progSameSpec)

/-- ITS FALSE NEIGHBOUR: 'it returns false'. Refute it at one input. -/
def progSameWrong : ChangeSpec := { name := "progSame", fn := fun _ => fun
  | [d1, d2] => { results := [.lit (.bool false)], args := [d1, d2] }
  | _ => none }
def ProgSameWrongFalsely : Prop := progSameRow.holds Try.pinned (OpenSpec.ofChange progSameWrong)

/-- 'gavottelaw3.ProgNotes': WHATEVER THE INPUT: true; the input reads as it did. -/
def progNotesSpec : ChangeSpec := { name := "progNotes", fn := fun _ => fun
  | [d1, d2] => { results := [.lit (.bool true)], args := [d1, d2] }
  | _ => none }
def progNotesRow : OpenClaim := { program := "ythlipofajdaijaa", sum := "2bc1ce5670ed76a5387553885971259d86e8014f6c62451855169435c46fe491", func := "gavotte/gavottelaw3.ProgNotes", spec := "progNotes", unfollowed := true, recurses := true, apart := false }
def ProgNotesSaid : Prop := progNotesRow.holds Try.pinned (OpenSpec.ofChange progNotesSpec)

/-- ITS FALSE NEIGHBOUR: 'it returns false'. Refute it at one input. -/
def progNotesWrong : ChangeSpec := { name := "progNotes", fn := fun _ => fun
  | [d1, d2] => { results := [.lit (.bool false)], args := [d1, d2] }
  | _ => none }
def ProgNotesWrongFalsely : Prop := progNotesRow.holds Try.pinned (OpenSpec.ofChange progNotesWrong)

/- THE SECOND FORM. 'bulk': how many values and letters a reading holds, each counted each time it is reached (what is shared counts as often as it is met; a slice's spare places count too). A statement '..UptoSaid' is the law's where the arguments, and the package variables that the reading takes, are together of bulk at most 1048576: NARROWER than '..Said'. Prove '..Said' where nothing that the law and all that it calls make is longer than what came in: it says more and counts as full. Else prove '..UptoSaid'. A law counts once. -/
mutual
def uptoBulk {H : Type} : DataW H → Nat
  | .lit (.string bytes) => bytes.length + 1
  | .lit _ => 1
  | .nil => 1
  | .ptr d => uptoBulk d + 1
  | .slice elems spare => uptoBulkAll elems + uptoBulkAll spare + 1
  | .agg parts => uptoBulkAll parts + 1
  | .iface _ d => uptoBulk d + 1
  | .map entries => uptoBulkEntries entries + 1
  | .held _ => 1
def uptoBulkAll {H : Type} : List (DataW H) → Nat
  | [] => 0
  | d :: r => uptoBulk d + uptoBulkAll r
def uptoBulkEntries {H : Type} : List (Lit × DataW H) → Nat
  | [] => 0
  | x :: r => uptoBulkEntry x + uptoBulkEntries r
def uptoBulkEntry {H : Type} : Lit × DataW H → Nat
  | (.string bytes, d) => bytes.length + uptoBulk d + 1
  | (_, d) => uptoBulk d + 1
 end
def uptoSmall : (H : Type) → List (DataW H) → Bool := fun _ ds => decide (uptoBulkAll ds ≤ 1048576)
def OpenSpec.upto (s : _root_.Go.ChangeSpec) : _root_.Go.OpenSpec := { _root_.Go.OpenSpec.ofChange s with cond := some uptoSmall }

/-- 'gavottelaw2.SumsTell', WHERE WHAT IT READS IS OF BULK AT MOST 1048576: true; the input reads as it did. -/
def sumsTellUptoRow : OpenClaim := { program := "ythlipofajdaijaa", sum := "2bc1ce5670ed76a5387553885971259d86e8014f6c62451855169435c46fe491", func := "gavotte/gavottelaw2.SumsTell", spec := "sumsTell", apart := false, narrowed := true }
def SumsTellUptoSaid : Prop := sumsTellUptoRow.holds Try.pinned (OpenSpec.upto sumsTellSpec)

/-- 'gavottelaw2.SumsLaws', WHERE WHAT IT READS IS OF BULK AT MOST 1048576: true; the input reads as it did. -/
def sumsLawsUptoRow : OpenClaim := { program := "ythlipofajdaijaa", sum := "2bc1ce5670ed76a5387553885971259d86e8014f6c62451855169435c46fe491", func := "gavotte/gavottelaw2.SumsLaws", spec := "sumsLaws", apart := false, narrowed := true }
def SumsLawsUptoSaid : Prop := sumsLawsUptoRow.holds Try.pinned (OpenSpec.upto sumsLawsSpec)

/-- 'gavottelaw2.SumsTruth', WHERE WHAT IT READS IS OF BULK AT MOST 1048576: true; the input reads as it did. -/
def sumsTruthUptoRow : OpenClaim := { program := "ythlipofajdaijaa", sum := "2bc1ce5670ed76a5387553885971259d86e8014f6c62451855169435c46fe491", func := "gavotte/gavottelaw2.SumsTruth", spec := "sumsTruth", apart := false, narrowed := true }
def SumsTruthUptoSaid : Prop := sumsTruthUptoRow.holds Try.pinned (OpenSpec.upto sumsTruthSpec)

/-- 'gavottelaw2.SumsOrder', WHERE WHAT IT READS IS OF BULK AT MOST 1048576: true; the input reads as it did. -/
def sumsOrderUptoRow : OpenClaim := { program := "ythlipofajdaijaa", sum := "2bc1ce5670ed76a5387553885971259d86e8014f6c62451855169435c46fe491", func := "gavotte/gavottelaw2.SumsOrder", spec := "sumsOrder", apart := false, narrowed := true }
def SumsOrderUptoSaid : Prop := sumsOrderUptoRow.holds Try.pinned (OpenSpec.upto sumsOrderSpec)

/-- 'gavottelaw3.ProgTells', WHERE WHAT IT READS IS OF BULK AT MOST 1048576: true; the input reads as it did. -/
def progTellsUptoRow : OpenClaim := { program := "ythlipofajdaijaa", sum := "2bc1ce5670ed76a5387553885971259d86e8014f6c62451855169435c46fe491", func := "gavotte/gavottelaw3.ProgTells", spec := "progTells", unfollowed := true, recurses := true, apart := false, narrowed := true }
def ProgTellsUptoSaid : Prop := progTellsUptoRow.holds Try.pinned (OpenSpec.upto progTellsSpec)

/-- 'gavottelaw3.ProgCopies', WHERE WHAT IT READS IS OF BULK AT MOST 1048576: true; the input reads as it did. -/
def progCopiesUptoRow : OpenClaim := { program := "ythlipofajdaijaa", sum := "2bc1ce5670ed76a5387553885971259d86e8014f6c62451855169435c46fe491", func := "gavotte/gavottelaw3.ProgCopies", spec := "progCopies", unfollowed := true, recurses := true, apart := false, narrowed := true }
def ProgCopiesUptoSaid : Prop := progCopiesUptoRow.holds Try.pinned (OpenSpec.upto progCopiesSpec)

/-- 'gavottelaw3.ProgLimits', WHERE WHAT IT READS IS OF BULK AT MOST 1048576: true; the input reads as it did. -/
def progLimitsUptoRow : OpenClaim := { program := "ythlipofajdaijaa", sum := "2bc1ce5670ed76a5387553885971259d86e8014f6c62451855169435c46fe491", func := "gavotte/gavottelaw3.ProgLimits", spec := "progLimits", unfollowed := true, recurses := true, apart := false, narrowed := true }
def ProgLimitsUptoSaid : Prop := progLimitsUptoRow.holds Try.pinned (OpenSpec.upto progLimitsSpec)

/-- 'gavottelaw3.ProgOdd', WHERE WHAT IT READS IS OF BULK AT MOST 1048576: true; the input reads as it did. -/
def progOddUptoRow : OpenClaim := { program := "ythlipofajdaijaa", sum := "2bc1ce5670ed76a5387553885971259d86e8014f6c62451855169435c46fe491", func := "gavotte/gavottelaw3.ProgOdd", spec := "progOdd", unfollowed := true, recurses := true, apart := false, narrowed := true }
def ProgOddUptoSaid : Prop := progOddUptoRow.holds Try.pinned (OpenSpec.upto progOddSpec)

/-- 'gavottelaw3.ProgSame', WHERE WHAT IT READS IS OF BULK AT MOST 1048576: true; the input reads as it did. -/
def progSameUptoRow : OpenClaim := { program := "ythlipofajdaijaa", sum := "2bc1ce5670ed76a5387553885971259d86e8014f6c62451855169435c46fe491", func := "gavotte/gavottelaw3.ProgSame", spec := "progSame", unfollowed := true, recurses := true, apart := false, narrowed := true }
def ProgSameUptoSaid : Prop := progSameUptoRow.holds Try.pinned (OpenSpec.upto progSameSpec)

/-- 'gavottelaw3.ProgNotes', WHERE WHAT IT READS IS OF BULK AT MOST 1048576: true; the input reads as it did. -/
def progNotesUptoRow : OpenClaim := { program := "ythlipofajdaijaa", sum := "2bc1ce5670ed76a5387553885971259d86e8014f6c62451855169435c46fe491", func := "gavotte/gavottelaw3.ProgNotes", spec := "progNotes", unfollowed := true, recurses := true, apart := false, narrowed := true }
def ProgNotesUptoSaid : Prop := progNotesUptoRow.holds Try.pinned (OpenSpec.upto progNotesSpec)

end Rows
end Go.Proofs.Ythlipofajdaijaa

/-
  NARROWER THAN 'FOR EVERY INPUT', by the rows' own cells (each row's printed sentence says how): CodecValues: loops · CodecWrites: loops · CodecBad: loops · CommandSame: loops · CommandWrites: loops.
  DERIVED. THE GIVEN ROWS OF THIS SEAT. 10 by the template 'for every input the law returns true; each argument reads behind the call as it read before'; 0 by the template 'total and deterministic' (their statements: YthncallhccekoaaTotals.lean).
  GIVEN WITH THE SEED: the statements are not yours to turn. If you find one false, say at which input.
  Laid BY PROGRAM, IN A SANDBOX (cutbox-rows.mjs): the forced cells as the released guide's own fill.sh prints them over the translation 9eee659ca10562c2… (all of the seat's roots in one cut). By AI agents, Wed Nov 11 2026. No macro, syntax, notation, axiom, sorry.
-/
import Derived.Test.YthncallhccekoaaChecked
import GoSem.Claim
import GoSem.ClaimJoined
import GoSem.ClaimMapViews
import Derived.JoinedTies
import Derived.KernelRfl
namespace Go.Proofs.Ythncallhccekoaa
/- THE CELL 'sum', in the pinned program and in every row, IS THE sha256 OF THE DUMP (.gsa) THAT YthncallhccekoaaProg.lean LOADS. Nothing in Lean hashes anything: it is a label: what it is worth is what the hold of that sum in a sandbox is worth. -/
noncomputable def Try.pinned : Pinned := { name := "ythncallhccekoaa", sum := "9eee659ca10562c2277913168e9e3b13c99f437840060a5681bbd55d7e01b2be", checked := Try.checked }
namespace Rows
def none {H : Type} : Left H := { results := [], args := [] }

/-- 'gatepostlaw03.CodecReads': WHATEVER THE INPUT: true; the input reads as it did. -/
def codecReadsSpec : ChangeSpec := { name := "codecReads", fn := fun _ => fun
  | [d1, d2] => { results := [.lit (.bool true)], args := [d1, d2] }
  | _ => none }
def codecReadsRow : OpenClaim := { program := "ythncallhccekoaa", sum := "9eee659ca10562c2277913168e9e3b13c99f437840060a5681bbd55d7e01b2be", func := "gatepost/gatepostlaw03.CodecReads", spec := "codecReads", inPlace := ["internal/bytealg.abigen_runtime_cmpstring"], unfollowed := true, recurses := true, apart := false }
def CodecReadsSaid : Prop := codecReadsRow.holds Try.pinned (OpenSpec.ofChange codecReadsSpec)

/-- ITS FALSE NEIGHBOUR: 'it returns false'. Refute it at one input. -/
def codecReadsWrong : ChangeSpec := { name := "codecReads", fn := fun _ => fun
  | [d1, d2] => { results := [.lit (.bool false)], args := [d1, d2] }
  | _ => none }
def CodecReadsWrongFalsely : Prop := codecReadsRow.holds Try.pinned (OpenSpec.ofChange codecReadsWrong)

/-- 'gatepostlaw03.CodecValues': WHATEVER THE INPUT: true; the input reads as it did. -/
def codecValuesSpec : ChangeSpec := { name := "codecValues", fn := fun _ => fun
  | [d1, d2] => { results := [.lit (.bool true)], args := [d1, d2] }
  | _ => none }
def codecValuesRow : OpenClaim := { program := "ythncallhccekoaa", sum := "9eee659ca10562c2277913168e9e3b13c99f437840060a5681bbd55d7e01b2be", func := "gatepost/gatepostlaw03.CodecValues", spec := "codecValues", inPlace := ["internal/bytealg.abigen_runtime_cmpstring"], unfollowed := true, recurses := true, loops := true, apart := false }
def CodecValuesSaid : Prop := codecValuesRow.holds Try.pinned (OpenSpec.ofChange codecValuesSpec)

/-- ITS FALSE NEIGHBOUR: 'it returns false'. Refute it at one input. -/
def codecValuesWrong : ChangeSpec := { name := "codecValues", fn := fun _ => fun
  | [d1, d2] => { results := [.lit (.bool false)], args := [d1, d2] }
  | _ => none }
def CodecValuesWrongFalsely : Prop := codecValuesRow.holds Try.pinned (OpenSpec.ofChange codecValuesWrong)

/-- 'gatepostlaw03.CodecDecodes': WHATEVER THE INPUT: true; the input reads as it did. -/
def codecDecodesSpec : ChangeSpec := { name := "codecDecodes", fn := fun _ => fun
  | [d] => { results := [.lit (.bool true)], args := [d] }
  | _ => none }
def codecDecodesRow : OpenClaim := { program := "ythncallhccekoaa", sum := "9eee659ca10562c2277913168e9e3b13c99f437840060a5681bbd55d7e01b2be", func := "gatepost/gatepostlaw03.CodecDecodes", spec := "codecDecodes", inPlace := ["internal/bytealg.abigen_runtime_cmpstring"], unfollowed := true, recurses := true, apart := false }
def CodecDecodesSaid : Prop := codecDecodesRow.holds Try.pinned (OpenSpec.ofChange codecDecodesSpec)

/-- ITS FALSE NEIGHBOUR: 'it returns false'. Refute it at one input. -/
def codecDecodesWrong : ChangeSpec := { name := "codecDecodes", fn := fun _ => fun
  | [d] => { results := [.lit (.bool false)], args := [d] }
  | _ => none }
def CodecDecodesWrongFalsely : Prop := codecDecodesRow.holds Try.pinned (OpenSpec.ofChange codecDecodesWrong)

/-- 'gatepostlaw03.CodecWrites': WHATEVER THE INPUT: true; the input reads as it did. -/
def codecWritesSpec : ChangeSpec := { name := "codecWrites", fn := fun _ => fun
  | [d] => { results := [.lit (.bool true)], args := [d] }
  | _ => none }
def codecWritesRow : OpenClaim := { program := "ythncallhccekoaa", sum := "9eee659ca10562c2277913168e9e3b13c99f437840060a5681bbd55d7e01b2be", func := "gatepost/gatepostlaw03.CodecWrites", spec := "codecWrites", inPlace := ["internal/bytealg.abigen_runtime_cmpstring"], unfollowed := true, recurses := true, loops := true, apart := false }
def CodecWritesSaid : Prop := codecWritesRow.holds Try.pinned (OpenSpec.ofChange codecWritesSpec)

/-- ITS FALSE NEIGHBOUR: 'it returns false'. Refute it at one input. -/
def codecWritesWrong : ChangeSpec := { name := "codecWrites", fn := fun _ => fun
  | [d] => { results := [.lit (.bool false)], args := [d] }
  | _ => none }
def CodecWritesWrongFalsely : Prop := codecWritesRow.holds Try.pinned (OpenSpec.ofChange codecWritesWrong)

/-- 'gatepostlaw03.CodecBad': WHATEVER THE INPUT: true; the input reads as it did. -/
def codecBadSpec : ChangeSpec := { name := "codecBad", fn := fun _ => fun
  | [d1, d2] => { results := [.lit (.bool true)], args := [d1, d2] }
  | _ => none }
def codecBadRow : OpenClaim := { program := "ythncallhccekoaa", sum := "9eee659ca10562c2277913168e9e3b13c99f437840060a5681bbd55d7e01b2be", func := "gatepost/gatepostlaw03.CodecBad", spec := "codecBad", inPlace := ["internal/bytealg.abigen_runtime_cmpstring"], unfollowed := true, recurses := true, loops := true, apart := false }
def CodecBadSaid : Prop := codecBadRow.holds Try.pinned (OpenSpec.ofChange codecBadSpec)

/-- ITS FALSE NEIGHBOUR: 'it returns false'. Refute it at one input. -/
def codecBadWrong : ChangeSpec := { name := "codecBad", fn := fun _ => fun
  | [d1, d2] => { results := [.lit (.bool false)], args := [d1, d2] }
  | _ => none }
def CodecBadWrongFalsely : Prop := codecBadRow.holds Try.pinned (OpenSpec.ofChange codecBadWrong)

/-- 'gatepostlaw21.CommandSame': WHATEVER THE INPUT: true; the input reads as it did. -/
def commandSameSpec : ChangeSpec := { name := "commandSame", fn := fun _ => fun
  | [d1, d2, d3] => { results := [.lit (.bool true)], args := [d1, d2, d3] }
  | _ => none }
def commandSameRow : OpenClaim := { program := "ythncallhccekoaa", sum := "9eee659ca10562c2277913168e9e3b13c99f437840060a5681bbd55d7e01b2be", func := "gatepost/gatepostlaw21.CommandSame", spec := "commandSame", inPlace := ["internal/bytealg.abigen_runtime_cmpstring"], unfollowed := true, recurses := true, loops := true, apart := false }
def CommandSameSaid : Prop := commandSameRow.holds Try.pinned (OpenSpec.ofChange commandSameSpec)

/-- ITS FALSE NEIGHBOUR: 'it returns false'. Refute it at one input. -/
def commandSameWrong : ChangeSpec := { name := "commandSame", fn := fun _ => fun
  | [d1, d2, d3] => { results := [.lit (.bool false)], args := [d1, d2, d3] }
  | _ => none }
def CommandSameWrongFalsely : Prop := commandSameRow.holds Try.pinned (OpenSpec.ofChange commandSameWrong)

/-- 'gatepostlaw21.CommandReplies': WHATEVER THE INPUT: true; the input reads as it did. -/
def commandRepliesSpec : ChangeSpec := { name := "commandReplies", fn := fun _ => fun
  | [d] => { results := [.lit (.bool true)], args := [d] }
  | _ => none }
def commandRepliesRow : OpenClaim := { program := "ythncallhccekoaa", sum := "9eee659ca10562c2277913168e9e3b13c99f437840060a5681bbd55d7e01b2be", func := "gatepost/gatepostlaw21.CommandReplies", spec := "commandReplies", inPlace := ["internal/bytealg.abigen_runtime_cmpstring"], unfollowed := true, recurses := true, apart := false }
def CommandRepliesSaid : Prop := commandRepliesRow.holds Try.pinned (OpenSpec.ofChange commandRepliesSpec)

/-- ITS FALSE NEIGHBOUR: 'it returns false'. Refute it at one input. -/
def commandRepliesWrong : ChangeSpec := { name := "commandReplies", fn := fun _ => fun
  | [d] => { results := [.lit (.bool false)], args := [d] }
  | _ => none }
def CommandRepliesWrongFalsely : Prop := commandRepliesRow.holds Try.pinned (OpenSpec.ofChange commandRepliesWrong)

/-- 'gatepostlaw21.CommandAnswers': WHATEVER THE INPUT: true; the input reads as it did. -/
def commandAnswersSpec : ChangeSpec := { name := "commandAnswers", fn := fun _ => fun
  | [d] => { results := [.lit (.bool true)], args := [d] }
  | _ => none }
def commandAnswersRow : OpenClaim := { program := "ythncallhccekoaa", sum := "9eee659ca10562c2277913168e9e3b13c99f437840060a5681bbd55d7e01b2be", func := "gatepost/gatepostlaw21.CommandAnswers", spec := "commandAnswers", inPlace := ["internal/bytealg.abigen_runtime_cmpstring"], unfollowed := true, recurses := true, apart := false }
def CommandAnswersSaid : Prop := commandAnswersRow.holds Try.pinned (OpenSpec.ofChange commandAnswersSpec)

/-- ITS FALSE NEIGHBOUR: 'it returns false'. Refute it at one input. -/
def commandAnswersWrong : ChangeSpec := { name := "commandAnswers", fn := fun _ => fun
  | [d] => { results := [.lit (.bool false)], args := [d] }
  | _ => none }
def CommandAnswersWrongFalsely : Prop := commandAnswersRow.holds Try.pinned (OpenSpec.ofChange commandAnswersWrong)

/-- 'gatepostlaw21.CommandWrites': WHATEVER THE INPUT: true; the input reads as it did. -/
def commandWritesSpec : ChangeSpec := { name := "commandWrites", fn := fun _ => fun
  | [d] => { results := [.lit (.bool true)], args := [d] }
  | _ => none }
def commandWritesRow : OpenClaim := { program := "ythncallhccekoaa", sum := "9eee659ca10562c2277913168e9e3b13c99f437840060a5681bbd55d7e01b2be", func := "gatepost/gatepostlaw21.CommandWrites", spec := "commandWrites", inPlace := ["internal/bytealg.abigen_runtime_cmpstring"], unfollowed := true, recurses := true, loops := true, apart := false }
def CommandWritesSaid : Prop := commandWritesRow.holds Try.pinned (OpenSpec.ofChange commandWritesSpec)

/-- ITS FALSE NEIGHBOUR: 'it returns false'. Refute it at one input. -/
def commandWritesWrong : ChangeSpec := { name := "commandWrites", fn := fun _ => fun
  | [d] => { results := [.lit (.bool false)], args := [d] }
  | _ => none }
def CommandWritesWrongFalsely : Prop := commandWritesRow.holds Try.pinned (OpenSpec.ofChange commandWritesWrong)

/-- 'gatepostlaw21.CommandReads': WHATEVER THE INPUT: true; the input reads as it did. -/
def commandReadsSpec : ChangeSpec := { name := "commandReads", fn := fun _ => fun
  | [d] => { results := [.lit (.bool true)], args := [d] }
  | _ => none }
def commandReadsRow : OpenClaim := { program := "ythncallhccekoaa", sum := "9eee659ca10562c2277913168e9e3b13c99f437840060a5681bbd55d7e01b2be", func := "gatepost/gatepostlaw21.CommandReads", spec := "commandReads", inPlace := ["internal/bytealg.abigen_runtime_cmpstring"], unfollowed := true, recurses := true, apart := false }
def CommandReadsSaid : Prop := commandReadsRow.holds Try.pinned (OpenSpec.ofChange commandReadsSpec)

/-- ITS FALSE NEIGHBOUR: 'it returns false'. Refute it at one input. -/
def commandReadsWrong : ChangeSpec := { name := "commandReads", fn := fun _ => fun
  | [d] => { results := [.lit (.bool false)], args := [d] }
  | _ => none }
def CommandReadsWrongFalsely : Prop := commandReadsRow.holds Try.pinned (OpenSpec.ofChange commandReadsWrong)

/- THE SECOND FORM. 'bulk': how many values and letters a reading holds, each counted each time it is reached (what is shared counts as often as it is met; a slice's spare places count too). A statement '..UptoSaid' is the law's where the arguments, and the package variables that the reading takes, are together of bulk at most 1048576: NARROWER than '..Said'. Prove '..Said' where nothing that the law and all that it calls make is longer than what came in: it says more and counts as full. Else prove '..UptoSaid'. A law counts once. -/
mutual
def uptoBulk {H : Type} : DataW H → Nat
  | .lit (.string bytes) => bytes.length + 1
  | .lit _ => 1
  | .nil => 1
  | .ptr d => uptoBulk d + 1
  | .slice elems spare => uptoBulkAll elems + uptoBulkAll spare + 1
  | .agg parts => uptoBulkAll parts + 1
  | .iface _ d => uptoBulk d + 1
  | .map entries => uptoBulkEntries entries + 1
  | .held _ => 1
def uptoBulkAll {H : Type} : List (DataW H) → Nat
  | [] => 0
  | d :: r => uptoBulk d + uptoBulkAll r
def uptoBulkEntries {H : Type} : List (Lit × DataW H) → Nat
  | [] => 0
  | x :: r => uptoBulkEntry x + uptoBulkEntries r
def uptoBulkEntry {H : Type} : Lit × DataW H → Nat
  | (.string bytes, d) => bytes.length + uptoBulk d + 1
  | (_, d) => uptoBulk d + 1
 end
def uptoSmall : (H : Type) → List (DataW H) → Bool := fun _ ds => decide (uptoBulkAll ds ≤ 1048576)
def OpenSpec.upto (s : _root_.Go.ChangeSpec) : _root_.Go.OpenSpec := { _root_.Go.OpenSpec.ofChange s with cond := some uptoSmall }

/-- 'gatepostlaw03.CodecReads', WHERE WHAT IT READS IS OF BULK AT MOST 1048576: true; the input reads as it did. -/
def codecReadsUptoRow : OpenClaim := { program := "ythncallhccekoaa", sum := "9eee659ca10562c2277913168e9e3b13c99f437840060a5681bbd55d7e01b2be", func := "gatepost/gatepostlaw03.CodecReads", spec := "codecReads", inPlace := ["internal/bytealg.abigen_runtime_cmpstring"], unfollowed := true, recurses := true, apart := false, narrowed := true }
def CodecReadsUptoSaid : Prop := codecReadsUptoRow.holds Try.pinned (OpenSpec.upto codecReadsSpec)

/-- 'gatepostlaw03.CodecValues', WHERE WHAT IT READS IS OF BULK AT MOST 1048576: true; the input reads as it did. -/
def codecValuesUptoRow : OpenClaim := { program := "ythncallhccekoaa", sum := "9eee659ca10562c2277913168e9e3b13c99f437840060a5681bbd55d7e01b2be", func := "gatepost/gatepostlaw03.CodecValues", spec := "codecValues", inPlace := ["internal/bytealg.abigen_runtime_cmpstring"], unfollowed := true, recurses := true, loops := true, apart := false, narrowed := true }
def CodecValuesUptoSaid : Prop := codecValuesUptoRow.holds Try.pinned (OpenSpec.upto codecValuesSpec)

/-- 'gatepostlaw03.CodecDecodes', WHERE WHAT IT READS IS OF BULK AT MOST 1048576: true; the input reads as it did. -/
def codecDecodesUptoRow : OpenClaim := { program := "ythncallhccekoaa", sum := "9eee659ca10562c2277913168e9e3b13c99f437840060a5681bbd55d7e01b2be", func := "gatepost/gatepostlaw03.CodecDecodes", spec := "codecDecodes", inPlace := ["internal/bytealg.abigen_runtime_cmpstring"], unfollowed := true, recurses := true, apart := false, narrowed := true }
def CodecDecodesUptoSaid : Prop := codecDecodesUptoRow.holds Try.pinned (OpenSpec.upto codecDecodesSpec)

/-- 'gatepostlaw03.CodecWrites', WHERE WHAT IT READS IS OF BULK AT MOST 1048576: true; the input reads as it did. -/
def codecWritesUptoRow : OpenClaim := { program := "ythncallhccekoaa", sum := "9eee659ca10562c2277913168e9e3b13c99f437840060a5681bbd55d7e01b2be", func := "gatepost/gatepostlaw03.CodecWrites", spec := "codecWrites", inPlace := ["internal/bytealg.abigen_runtime_cmpstring"], unfollowed := true, recurses := true, loops := true, apart := false, narrowed := true }
def CodecWritesUptoSaid : Prop := codecWritesUptoRow.holds Try.pinned (OpenSpec.upto codecWritesSpec)

/-- 'gatepostlaw03.CodecBad', WHERE WHAT IT READS IS OF BULK AT MOST 1048576: true; the input reads as it did. -/
def codecBadUptoRow : OpenClaim := { program := "ythncallhccekoaa", sum := "9eee659ca10562c2277913168e9e3b13c99f437840060a5681bbd55d7e01b2be", func := "gatepost/gatepostlaw03.CodecBad", spec := "codecBad", inPlace := ["internal/bytealg.abigen_runtime_cmpstring"], unfollowed := true, recurses := true, loops := true, apart := false, narrowed := true }
def CodecBadUptoSaid : Prop := codecBadUptoRow.holds Try.pinned (OpenSpec.upto codecBadSpec)

/-- 'gatepostlaw21.CommandSame', WHERE WHAT IT READS IS OF BULK AT MOST 1048576: true; the input reads as it did. -/
def commandSameUptoRow : OpenClaim := { program := "ythncallhccekoaa", sum := "9eee659ca10562c2277913168e9e3b13c99f437840060a5681bbd55d7e01b2be", func := "gatepost/gatepostlaw21.CommandSame", spec := "commandSame", inPlace := ["internal/bytealg.abigen_runtime_cmpstring"], unfollowed := true, recurses := true, loops := true, apart := false, narrowed := true }
def CommandSameUptoSaid : Prop := commandSameUptoRow.holds Try.pinned (OpenSpec.upto commandSameSpec)

/-- 'gatepostlaw21.CommandReplies', WHERE WHAT IT READS IS OF BULK AT MOST 1048576: true; the input reads as it did. -/
def commandRepliesUptoRow : OpenClaim := { program := "ythncallhccekoaa", sum := "9eee659ca10562c2277913168e9e3b13c99f437840060a5681bbd55d7e01b2be", func := "gatepost/gatepostlaw21.CommandReplies", spec := "commandReplies", inPlace := ["internal/bytealg.abigen_runtime_cmpstring"], unfollowed := true, recurses := true, apart := false, narrowed := true }
def CommandRepliesUptoSaid : Prop := commandRepliesUptoRow.holds Try.pinned (OpenSpec.upto commandRepliesSpec)

/-- 'gatepostlaw21.CommandAnswers', WHERE WHAT IT READS IS OF BULK AT MOST 1048576: true; the input reads as it did. -/
def commandAnswersUptoRow : OpenClaim := { program := "ythncallhccekoaa", sum := "9eee659ca10562c2277913168e9e3b13c99f437840060a5681bbd55d7e01b2be", func := "gatepost/gatepostlaw21.CommandAnswers", spec := "commandAnswers", inPlace := ["internal/bytealg.abigen_runtime_cmpstring"], unfollowed := true, recurses := true, apart := false, narrowed := true }
def CommandAnswersUptoSaid : Prop := commandAnswersUptoRow.holds Try.pinned (OpenSpec.upto commandAnswersSpec)

/-- 'gatepostlaw21.CommandWrites', WHERE WHAT IT READS IS OF BULK AT MOST 1048576: true; the input reads as it did. -/
def commandWritesUptoRow : OpenClaim := { program := "ythncallhccekoaa", sum := "9eee659ca10562c2277913168e9e3b13c99f437840060a5681bbd55d7e01b2be", func := "gatepost/gatepostlaw21.CommandWrites", spec := "commandWrites", inPlace := ["internal/bytealg.abigen_runtime_cmpstring"], unfollowed := true, recurses := true, loops := true, apart := false, narrowed := true }
def CommandWritesUptoSaid : Prop := commandWritesUptoRow.holds Try.pinned (OpenSpec.upto commandWritesSpec)

/-- 'gatepostlaw21.CommandReads', WHERE WHAT IT READS IS OF BULK AT MOST 1048576: true; the input reads as it did. -/
def commandReadsUptoRow : OpenClaim := { program := "ythncallhccekoaa", sum := "9eee659ca10562c2277913168e9e3b13c99f437840060a5681bbd55d7e01b2be", func := "gatepost/gatepostlaw21.CommandReads", spec := "commandReads", inPlace := ["internal/bytealg.abigen_runtime_cmpstring"], unfollowed := true, recurses := true, apart := false, narrowed := true }
def CommandReadsUptoSaid : Prop := commandReadsUptoRow.holds Try.pinned (OpenSpec.upto commandReadsSpec)

end Rows
end Go.Proofs.Ythncallhccekoaa

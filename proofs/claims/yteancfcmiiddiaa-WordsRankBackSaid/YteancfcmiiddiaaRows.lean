/-
  No cell of these rows narrows 'for every input' (looked for: loops, veiled, ifaces, maps, wideKeys, modest, calm, conditions, laid).
  DERIVED. THE GIVEN ROWS OF THIS SEAT. 11 by the template 'for every input the law returns true; each argument reads behind the call as it read before'; 0 by the template 'total and deterministic' (their statements: YteancfcmiiddiaaTotals.lean).
  GIVEN WITH THE SEED: the statements are not yours to turn. If you find one false, say at which input.
  Laid BY PROGRAM, IN A SANDBOX (cutbox-rows.mjs): the forced cells as the released guide's own fill.sh prints them over the translation bc342523138c003a… (all of the seat's roots in one cut). By AI agents, Wed Nov 11 2026. No macro, syntax, notation, axiom, sorry.
-/
import Derived.Test.YteancfcmiiddiaaChecked
import GoSem.Claim
import GoSem.ClaimJoined
import GoSem.ClaimMapViews
import Derived.JoinedTies
import Derived.KernelRfl
namespace Go.Proofs.Yteancfcmiiddiaa
/- THE CELL 'sum', in the pinned program and in every row, IS THE sha256 OF THE DUMP (.gsa) THAT YteancfcmiiddiaaProg.lean LOADS. Nothing in Lean hashes anything: it is a label: what it is worth is what the hold of that sum in a sandbox is worth. -/
noncomputable def Try.pinned : Pinned := { name := "yteancfcmiiddiaa", sum := "bc342523138c003a9de0aadf8137a1067476e78b12962eb1ba52abec3fcbc8a9", checked := Try.checked }
namespace Rows
def none {H : Type} : Left H := { results := [], args := [] }

/-- 'weightedlaw04.SymbolsMerge': WHATEVER THE INPUT: true; the input reads as it did. -/
def symbolsMergeSpec : ChangeSpec := { name := "symbolsMerge", fn := fun _ => fun
  | [d1, d2] => { results := [.lit (.bool true)], args := [d1, d2] }
  | _ => none }
def symbolsMergeRow : OpenClaim := { program := "yteancfcmiiddiaa", sum := "bc342523138c003a9de0aadf8137a1067476e78b12962eb1ba52abec3fcbc8a9", func := "weighted/weightedlaw04.SymbolsMerge", spec := "symbolsMerge", inPlace := ["internal/bytealg.IndexByteString"], unfollowed := true, recurses := true, apart := false }
def SymbolsMergeSaid : Prop := symbolsMergeRow.holds Try.pinned (OpenSpec.ofChange symbolsMergeSpec)

/-- ITS FALSE NEIGHBOUR: 'it returns false'. Refute it at one input. -/
def symbolsMergeWrong : ChangeSpec := { name := "symbolsMerge", fn := fun _ => fun
  | [d1, d2] => { results := [.lit (.bool false)], args := [d1, d2] }
  | _ => none }
def SymbolsMergeWrongFalsely : Prop := symbolsMergeRow.holds Try.pinned (OpenSpec.ofChange symbolsMergeWrong)

/-- 'weightedlaw04.SymbolsMergeKeepsNames': WHATEVER THE INPUT: true; the input reads as it did. -/
def symbolsMergeKeepsNamesSpec : ChangeSpec := { name := "symbolsMergeKeepsNames", fn := fun _ => fun
  | [d1, d2] => { results := [.lit (.bool true)], args := [d1, d2] }
  | _ => none }
def symbolsMergeKeepsNamesRow : OpenClaim := { program := "yteancfcmiiddiaa", sum := "bc342523138c003a9de0aadf8137a1067476e78b12962eb1ba52abec3fcbc8a9", func := "weighted/weightedlaw04.SymbolsMergeKeepsNames", spec := "symbolsMergeKeepsNames", inPlace := ["internal/bytealg.IndexByteString"], unfollowed := true, recurses := true, apart := false }
def SymbolsMergeKeepsNamesSaid : Prop := symbolsMergeKeepsNamesRow.holds Try.pinned (OpenSpec.ofChange symbolsMergeKeepsNamesSpec)

/-- ITS FALSE NEIGHBOUR: 'it returns false'. Refute it at one input. -/
def symbolsMergeKeepsNamesWrong : ChangeSpec := { name := "symbolsMergeKeepsNames", fn := fun _ => fun
  | [d1, d2] => { results := [.lit (.bool false)], args := [d1, d2] }
  | _ => none }
def SymbolsMergeKeepsNamesWrongFalsely : Prop := symbolsMergeKeepsNamesRow.holds Try.pinned (OpenSpec.ofChange symbolsMergeKeepsNamesWrong)

/-- 'weightedlaw04.SymbolsName': WHATEVER THE INPUT: true; the input reads as it did. -/
def symbolsNameSpec : ChangeSpec := { name := "symbolsName", fn := fun _ => fun
  | [d1, d2, d3] => { results := [.lit (.bool true)], args := [d1, d2, d3] }
  | _ => none }
def symbolsNameRow : OpenClaim := { program := "yteancfcmiiddiaa", sum := "bc342523138c003a9de0aadf8137a1067476e78b12962eb1ba52abec3fcbc8a9", func := "weighted/weightedlaw04.SymbolsName", spec := "symbolsName", inPlace := ["internal/bytealg.IndexByteString"], unfollowed := true, recurses := true, apart := false }
def SymbolsNameSaid : Prop := symbolsNameRow.holds Try.pinned (OpenSpec.ofChange symbolsNameSpec)

/-- ITS FALSE NEIGHBOUR: 'it returns false'. Refute it at one input. -/
def symbolsNameWrong : ChangeSpec := { name := "symbolsName", fn := fun _ => fun
  | [d1, d2, d3] => { results := [.lit (.bool false)], args := [d1, d2, d3] }
  | _ => none }
def SymbolsNameWrongFalsely : Prop := symbolsNameRow.holds Try.pinned (OpenSpec.ofChange symbolsNameWrong)

/-- 'weightedlaw04.SymbolsFindNames': WHATEVER THE INPUT: true; the input reads as it did. -/
def symbolsFindNamesSpec : ChangeSpec := { name := "symbolsFindNames", fn := fun _ => fun
  | [d1, d2, d3] => { results := [.lit (.bool true)], args := [d1, d2, d3] }
  | _ => none }
def symbolsFindNamesRow : OpenClaim := { program := "yteancfcmiiddiaa", sum := "bc342523138c003a9de0aadf8137a1067476e78b12962eb1ba52abec3fcbc8a9", func := "weighted/weightedlaw04.SymbolsFindNames", spec := "symbolsFindNames", inPlace := ["internal/bytealg.IndexByteString"], unfollowed := true, recurses := true, apart := false }
def SymbolsFindNamesSaid : Prop := symbolsFindNamesRow.holds Try.pinned (OpenSpec.ofChange symbolsFindNamesSpec)

/-- ITS FALSE NEIGHBOUR: 'it returns false'. Refute it at one input. -/
def symbolsFindNamesWrong : ChangeSpec := { name := "symbolsFindNames", fn := fun _ => fun
  | [d1, d2, d3] => { results := [.lit (.bool false)], args := [d1, d2, d3] }
  | _ => none }
def SymbolsFindNamesWrongFalsely : Prop := symbolsFindNamesRow.holds Try.pinned (OpenSpec.ofChange symbolsFindNamesWrong)

/-- 'weightedlaw05.WordsFollow': WHATEVER THE INPUT: true; the input reads as it did. -/
def wordsFollowSpec : ChangeSpec := { name := "wordsFollow", fn := fun _ => fun
  | [d1, d2, d3] => { results := [.lit (.bool true)], args := [d1, d2, d3] }
  | _ => none }
def wordsFollowRow : OpenClaim := { program := "yteancfcmiiddiaa", sum := "bc342523138c003a9de0aadf8137a1067476e78b12962eb1ba52abec3fcbc8a9", func := "weighted/weightedlaw05.WordsFollow", spec := "wordsFollow", apart := false }
def WordsFollowSaid : Prop := wordsFollowRow.holds Try.pinned (OpenSpec.ofChange wordsFollowSpec)

/-- ITS FALSE NEIGHBOUR: 'it returns false'. Refute it at one input. -/
def wordsFollowWrong : ChangeSpec := { name := "wordsFollow", fn := fun _ => fun
  | [d1, d2, d3] => { results := [.lit (.bool false)], args := [d1, d2, d3] }
  | _ => none }
def WordsFollowWrongFalsely : Prop := wordsFollowRow.holds Try.pinned (OpenSpec.ofChange wordsFollowWrong)

/-- 'weightedlaw22.BasisSelects': WHATEVER THE INPUT: true; the input reads as it did. -/
def basisSelectsSpec : ChangeSpec := { name := "basisSelects", fn := fun _ => fun
  | [d1, d2, d3] => { results := [.lit (.bool true)], args := [d1, d2, d3] }
  | _ => none }
def basisSelectsRow : OpenClaim := { program := "yteancfcmiiddiaa", sum := "bc342523138c003a9de0aadf8137a1067476e78b12962eb1ba52abec3fcbc8a9", func := "weighted/weightedlaw22.BasisSelects", spec := "basisSelects", apart := false }
def BasisSelectsSaid : Prop := basisSelectsRow.holds Try.pinned (OpenSpec.ofChange basisSelectsSpec)

/-- ITS FALSE NEIGHBOUR: 'it returns false'. Refute it at one input. -/
def basisSelectsWrong : ChangeSpec := { name := "basisSelects", fn := fun _ => fun
  | [d1, d2, d3] => { results := [.lit (.bool false)], args := [d1, d2, d3] }
  | _ => none }
def BasisSelectsWrongFalsely : Prop := basisSelectsRow.holds Try.pinned (OpenSpec.ofChange basisSelectsWrong)

/-- 'weightedlaw22.BasisFindsCoordinates': WHATEVER THE INPUT: true; the input reads as it did. -/
def basisFindsCoordinatesSpec : ChangeSpec := { name := "basisFindsCoordinates", fn := fun _ => fun
  | [d1, d2, d3, d4] => { results := [.lit (.bool true)], args := [d1, d2, d3, d4] }
  | _ => none }
def basisFindsCoordinatesRow : OpenClaim := { program := "yteancfcmiiddiaa", sum := "bc342523138c003a9de0aadf8137a1067476e78b12962eb1ba52abec3fcbc8a9", func := "weighted/weightedlaw22.BasisFindsCoordinates", spec := "basisFindsCoordinates", apart := false }
def BasisFindsCoordinatesSaid : Prop := basisFindsCoordinatesRow.holds Try.pinned (OpenSpec.ofChange basisFindsCoordinatesSpec)

/-- ITS FALSE NEIGHBOUR: 'it returns false'. Refute it at one input. -/
def basisFindsCoordinatesWrong : ChangeSpec := { name := "basisFindsCoordinates", fn := fun _ => fun
  | [d1, d2, d3, d4] => { results := [.lit (.bool false)], args := [d1, d2, d3, d4] }
  | _ => none }
def BasisFindsCoordinatesWrongFalsely : Prop := basisFindsCoordinatesRow.holds Try.pinned (OpenSpec.ofChange basisFindsCoordinatesWrong)

/-- 'weightedlaw22.BasisCalculates': WHATEVER THE INPUT: true; the input reads as it did. -/
def basisCalculatesSpec : ChangeSpec := { name := "basisCalculates", fn := fun _ => fun
  | [d1, d2] => { results := [.lit (.bool true)], args := [d1, d2] }
  | _ => none }
def basisCalculatesRow : OpenClaim := { program := "yteancfcmiiddiaa", sum := "bc342523138c003a9de0aadf8137a1067476e78b12962eb1ba52abec3fcbc8a9", func := "weighted/weightedlaw22.BasisCalculates", spec := "basisCalculates", apart := false }
def BasisCalculatesSaid : Prop := basisCalculatesRow.holds Try.pinned (OpenSpec.ofChange basisCalculatesSpec)

/-- ITS FALSE NEIGHBOUR: 'it returns false'. Refute it at one input. -/
def basisCalculatesWrong : ChangeSpec := { name := "basisCalculates", fn := fun _ => fun
  | [d1, d2] => { results := [.lit (.bool false)], args := [d1, d2] }
  | _ => none }
def BasisCalculatesWrongFalsely : Prop := basisCalculatesRow.holds Try.pinned (OpenSpec.ofChange basisCalculatesWrong)

/-- 'weightedlaw22.BasisGrows': WHATEVER THE INPUT: true; the input reads as it did. -/
def basisGrowsSpec : ChangeSpec := { name := "basisGrows", fn := fun _ => fun
  | [d1, d2, d3, d4] => { results := [.lit (.bool true)], args := [d1, d2, d3, d4] }
  | _ => none }
def basisGrowsRow : OpenClaim := { program := "yteancfcmiiddiaa", sum := "bc342523138c003a9de0aadf8137a1067476e78b12962eb1ba52abec3fcbc8a9", func := "weighted/weightedlaw22.BasisGrows", spec := "basisGrows", apart := false }
def BasisGrowsSaid : Prop := basisGrowsRow.holds Try.pinned (OpenSpec.ofChange basisGrowsSpec)

/-- ITS FALSE NEIGHBOUR: 'it returns false'. Refute it at one input. -/
def basisGrowsWrong : ChangeSpec := { name := "basisGrows", fn := fun _ => fun
  | [d1, d2, d3, d4] => { results := [.lit (.bool false)], args := [d1, d2, d3, d4] }
  | _ => none }
def BasisGrowsWrongFalsely : Prop := basisGrowsRow.holds Try.pinned (OpenSpec.ofChange basisGrowsWrong)

/-- 'weightedlaw05.WordsHaveRanks': WHATEVER THE INPUT: true; the input reads as it did. -/
def wordsHaveRanksSpec : ChangeSpec := { name := "wordsHaveRanks", fn := fun _ => fun
  | [d1, d2, d3] => { results := [.lit (.bool true)], args := [d1, d2, d3] }
  | _ => none }
def wordsHaveRanksRow : OpenClaim := { program := "yteancfcmiiddiaa", sum := "bc342523138c003a9de0aadf8137a1067476e78b12962eb1ba52abec3fcbc8a9", func := "weighted/weightedlaw05.WordsHaveRanks", spec := "wordsHaveRanks", apart := false }
def WordsHaveRanksSaid : Prop := wordsHaveRanksRow.holds Try.pinned (OpenSpec.ofChange wordsHaveRanksSpec)

/-- ITS FALSE NEIGHBOUR: 'it returns false'. Refute it at one input. -/
def wordsHaveRanksWrong : ChangeSpec := { name := "wordsHaveRanks", fn := fun _ => fun
  | [d1, d2, d3] => { results := [.lit (.bool false)], args := [d1, d2, d3] }
  | _ => none }
def WordsHaveRanksWrongFalsely : Prop := wordsHaveRanksRow.holds Try.pinned (OpenSpec.ofChange wordsHaveRanksWrong)

/-- 'weightedlaw05.WordsRankBack': WHATEVER THE INPUT: true; the input reads as it did. -/
def wordsRankBackSpec : ChangeSpec := { name := "wordsRankBack", fn := fun _ => fun
  | [d1, d2, d3] => { results := [.lit (.bool true)], args := [d1, d2, d3] }
  | _ => none }
def wordsRankBackRow : OpenClaim := { program := "yteancfcmiiddiaa", sum := "bc342523138c003a9de0aadf8137a1067476e78b12962eb1ba52abec3fcbc8a9", func := "weighted/weightedlaw05.WordsRankBack", spec := "wordsRankBack", apart := false }
def WordsRankBackSaid : Prop := wordsRankBackRow.holds Try.pinned (OpenSpec.ofChange wordsRankBackSpec)

/-- ITS FALSE NEIGHBOUR: 'it returns false'. Refute it at one input. -/
def wordsRankBackWrong : ChangeSpec := { name := "wordsRankBack", fn := fun _ => fun
  | [d1, d2, d3] => { results := [.lit (.bool false)], args := [d1, d2, d3] }
  | _ => none }
def WordsRankBackWrongFalsely : Prop := wordsRankBackRow.holds Try.pinned (OpenSpec.ofChange wordsRankBackWrong)

/- THE SECOND FORM. 'bulk': how many values and letters a reading holds, each counted each time it is reached (what is shared counts as often as it is met; a slice's spare places count too). A statement '..UptoSaid' is the law's where the arguments, and the package variables that the reading takes, are together of bulk at most 1048576: NARROWER than '..Said'. Prove '..Said' where nothing that the law and all that it calls make is longer than what came in: it says more and counts as full. Else prove '..UptoSaid'. A law counts once. -/
mutual
def uptoBulk {H : Type} : DataW H → Nat
  | .lit (.string bytes) => bytes.length + 1
  | .lit _ => 1
  | .nil => 1
  | .ptr d => uptoBulk d + 1
  | .slice elems spare => uptoBulkAll elems + uptoBulkAll spare + 1
  | .agg parts => uptoBulkAll parts + 1
  | .iface _ d => uptoBulk d + 1
  | .map entries => uptoBulkEntries entries + 1
  | .held _ => 1
def uptoBulkAll {H : Type} : List (DataW H) → Nat
  | [] => 0
  | d :: r => uptoBulk d + uptoBulkAll r
def uptoBulkEntries {H : Type} : List (Lit × DataW H) → Nat
  | [] => 0
  | x :: r => uptoBulkEntry x + uptoBulkEntries r
def uptoBulkEntry {H : Type} : Lit × DataW H → Nat
  | (.string bytes, d) => bytes.length + uptoBulk d + 1
  | (_, d) => uptoBulk d + 1
 end
def uptoSmall : (H : Type) → List (DataW H) → Bool := fun _ ds => decide (uptoBulkAll ds ≤ 1048576)
def OpenSpec.upto (s : _root_.Go.ChangeSpec) : _root_.Go.OpenSpec := { _root_.Go.OpenSpec.ofChange s with cond := some uptoSmall }

/-- 'weightedlaw04.SymbolsMerge', WHERE WHAT IT READS IS OF BULK AT MOST 1048576: true; the input reads as it did. -/
def symbolsMergeUptoRow : OpenClaim := { program := "yteancfcmiiddiaa", sum := "bc342523138c003a9de0aadf8137a1067476e78b12962eb1ba52abec3fcbc8a9", func := "weighted/weightedlaw04.SymbolsMerge", spec := "symbolsMerge", inPlace := ["internal/bytealg.IndexByteString"], unfollowed := true, recurses := true, apart := false, narrowed := true }
def SymbolsMergeUptoSaid : Prop := symbolsMergeUptoRow.holds Try.pinned (OpenSpec.upto symbolsMergeSpec)

/-- 'weightedlaw04.SymbolsMergeKeepsNames', WHERE WHAT IT READS IS OF BULK AT MOST 1048576: true; the input reads as it did. -/
def symbolsMergeKeepsNamesUptoRow : OpenClaim := { program := "yteancfcmiiddiaa", sum := "bc342523138c003a9de0aadf8137a1067476e78b12962eb1ba52abec3fcbc8a9", func := "weighted/weightedlaw04.SymbolsMergeKeepsNames", spec := "symbolsMergeKeepsNames", inPlace := ["internal/bytealg.IndexByteString"], unfollowed := true, recurses := true, apart := false, narrowed := true }
def SymbolsMergeKeepsNamesUptoSaid : Prop := symbolsMergeKeepsNamesUptoRow.holds Try.pinned (OpenSpec.upto symbolsMergeKeepsNamesSpec)

/-- 'weightedlaw04.SymbolsName', WHERE WHAT IT READS IS OF BULK AT MOST 1048576: true; the input reads as it did. -/
def symbolsNameUptoRow : OpenClaim := { program := "yteancfcmiiddiaa", sum := "bc342523138c003a9de0aadf8137a1067476e78b12962eb1ba52abec3fcbc8a9", func := "weighted/weightedlaw04.SymbolsName", spec := "symbolsName", inPlace := ["internal/bytealg.IndexByteString"], unfollowed := true, recurses := true, apart := false, narrowed := true }
def SymbolsNameUptoSaid : Prop := symbolsNameUptoRow.holds Try.pinned (OpenSpec.upto symbolsNameSpec)

/-- 'weightedlaw04.SymbolsFindNames', WHERE WHAT IT READS IS OF BULK AT MOST 1048576: true; the input reads as it did. -/
def symbolsFindNamesUptoRow : OpenClaim := { program := "yteancfcmiiddiaa", sum := "bc342523138c003a9de0aadf8137a1067476e78b12962eb1ba52abec3fcbc8a9", func := "weighted/weightedlaw04.SymbolsFindNames", spec := "symbolsFindNames", inPlace := ["internal/bytealg.IndexByteString"], unfollowed := true, recurses := true, apart := false, narrowed := true }
def SymbolsFindNamesUptoSaid : Prop := symbolsFindNamesUptoRow.holds Try.pinned (OpenSpec.upto symbolsFindNamesSpec)

/-- 'weightedlaw05.WordsFollow', WHERE WHAT IT READS IS OF BULK AT MOST 1048576: true; the input reads as it did. -/
def wordsFollowUptoRow : OpenClaim := { program := "yteancfcmiiddiaa", sum := "bc342523138c003a9de0aadf8137a1067476e78b12962eb1ba52abec3fcbc8a9", func := "weighted/weightedlaw05.WordsFollow", spec := "wordsFollow", apart := false, narrowed := true }
def WordsFollowUptoSaid : Prop := wordsFollowUptoRow.holds Try.pinned (OpenSpec.upto wordsFollowSpec)

/-- 'weightedlaw22.BasisSelects', WHERE WHAT IT READS IS OF BULK AT MOST 1048576: true; the input reads as it did. -/
def basisSelectsUptoRow : OpenClaim := { program := "yteancfcmiiddiaa", sum := "bc342523138c003a9de0aadf8137a1067476e78b12962eb1ba52abec3fcbc8a9", func := "weighted/weightedlaw22.BasisSelects", spec := "basisSelects", apart := false, narrowed := true }
def BasisSelectsUptoSaid : Prop := basisSelectsUptoRow.holds Try.pinned (OpenSpec.upto basisSelectsSpec)

/-- 'weightedlaw22.BasisFindsCoordinates', WHERE WHAT IT READS IS OF BULK AT MOST 1048576: true; the input reads as it did. -/
def basisFindsCoordinatesUptoRow : OpenClaim := { program := "yteancfcmiiddiaa", sum := "bc342523138c003a9de0aadf8137a1067476e78b12962eb1ba52abec3fcbc8a9", func := "weighted/weightedlaw22.BasisFindsCoordinates", spec := "basisFindsCoordinates", apart := false, narrowed := true }
def BasisFindsCoordinatesUptoSaid : Prop := basisFindsCoordinatesUptoRow.holds Try.pinned (OpenSpec.upto basisFindsCoordinatesSpec)

/-- 'weightedlaw22.BasisCalculates', WHERE WHAT IT READS IS OF BULK AT MOST 1048576: true; the input reads as it did. -/
def basisCalculatesUptoRow : OpenClaim := { program := "yteancfcmiiddiaa", sum := "bc342523138c003a9de0aadf8137a1067476e78b12962eb1ba52abec3fcbc8a9", func := "weighted/weightedlaw22.BasisCalculates", spec := "basisCalculates", apart := false, narrowed := true }
def BasisCalculatesUptoSaid : Prop := basisCalculatesUptoRow.holds Try.pinned (OpenSpec.upto basisCalculatesSpec)

/-- 'weightedlaw22.BasisGrows', WHERE WHAT IT READS IS OF BULK AT MOST 1048576: true; the input reads as it did. -/
def basisGrowsUptoRow : OpenClaim := { program := "yteancfcmiiddiaa", sum := "bc342523138c003a9de0aadf8137a1067476e78b12962eb1ba52abec3fcbc8a9", func := "weighted/weightedlaw22.BasisGrows", spec := "basisGrows", apart := false, narrowed := true }
def BasisGrowsUptoSaid : Prop := basisGrowsUptoRow.holds Try.pinned (OpenSpec.upto basisGrowsSpec)

/-- 'weightedlaw05.WordsHaveRanks', WHERE WHAT IT READS IS OF BULK AT MOST 1048576: true; the input reads as it did. -/
def wordsHaveRanksUptoRow : OpenClaim := { program := "yteancfcmiiddiaa", sum := "bc342523138c003a9de0aadf8137a1067476e78b12962eb1ba52abec3fcbc8a9", func := "weighted/weightedlaw05.WordsHaveRanks", spec := "wordsHaveRanks", apart := false, narrowed := true }
def WordsHaveRanksUptoSaid : Prop := wordsHaveRanksUptoRow.holds Try.pinned (OpenSpec.upto wordsHaveRanksSpec)

/-- 'weightedlaw05.WordsRankBack', WHERE WHAT IT READS IS OF BULK AT MOST 1048576: true; the input reads as it did. -/
def wordsRankBackUptoRow : OpenClaim := { program := "yteancfcmiiddiaa", sum := "bc342523138c003a9de0aadf8137a1067476e78b12962eb1ba52abec3fcbc8a9", func := "weighted/weightedlaw05.WordsRankBack", spec := "wordsRankBack", apart := false, narrowed := true }
def WordsRankBackUptoSaid : Prop := wordsRankBackUptoRow.holds Try.pinned (OpenSpec.upto wordsRankBackSpec)

end Rows
end Go.Proofs.Yteancfcmiiddiaa

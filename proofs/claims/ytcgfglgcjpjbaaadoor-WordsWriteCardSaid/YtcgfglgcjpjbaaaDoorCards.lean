/-
  DERIVED. GIVEN WITH THE SEED: THE CARDS: each row of YtcgfglgcjpjbaaaDoorRows.lean that lists a variable, with what it lists TIED to the program's text (the seventh form; the later family's looks); each row that meets fmt, with fmt's text TOLD by the authors' own Lean function (tested against real Go, not proved from fmt's source: count such statements apart). THE CARD IS WHAT COUNTS. Prove the row's statement (the work); the ties are given (YtcgfglgcjpjbaaaDoorTie.lean); close each card by the builder's one call (the guide's Derived/Test/ToyasCard.lean, 'card_holds'). Laid BY PROGRAM, IN A SANDBOX (cutbox-door.mjs). By AI agents, Wed Nov 11 2026. No macro, syntax, notation, axiom, sorry.
-/
import Derived.Test.YtcgfglgcjpjbaaaDoorRows
import GoSem.ClaimSeven
namespace Go.Proofs.YtcgfglgcjpjbaaaDoor
namespace Rows

/-- THE TIED CARD OF 'weightedlaw05.WordsWrite'. -/
def wordsWriteCard : Claim7 := { stood := { row := wordsWriteRow, standIns := [], harness := (true, "41e41378fb05e8d5a962f13a468b4f0b04b551c9875e2348ef306e6006c1804a"), looks := false }, kinds := [], alts := [], laidByText := true, laidKinds := [.data, .pinned], laidTests := true, laidLooks := .later }
def WordsWriteCardSaid : Prop := Claim7.holds Tryd.pinned (.plain (OpenSpec.ofChange wordsWriteSpec)) wordsWriteCard

/-- THE TIED CARD OF 'weightedlaw05.WordsReadBack'. -/
def wordsReadBackCard : Claim7 := { stood := { row := wordsReadBackRow, standIns := [], harness := (true, "41e41378fb05e8d5a962f13a468b4f0b04b551c9875e2348ef306e6006c1804a"), looks := false }, kinds := [], alts := [], laidByText := true, laidKinds := [.data, .pinned], laidTests := true, laidLooks := .later }
def WordsReadBackCardSaid : Prop := Claim7.holds Tryd.pinned (.plain (OpenSpec.ofChange wordsReadBackSpec)) wordsReadBackCard

/-- THE SECOND FORM's CARD OF 'weightedlaw05.WordsWrite'. -/
def wordsWriteUptoCard : Claim7 := { stood := { row := wordsWriteUptoRow, standIns := [], harness := (true, "41e41378fb05e8d5a962f13a468b4f0b04b551c9875e2348ef306e6006c1804a"), looks := false }, kinds := [], alts := [], laidByText := true, laidKinds := [.data, .pinned], laidTests := true, laidLooks := .later }
def WordsWriteUptoCardSaid : Prop := Claim7.holds Tryd.pinned (.plain (OpenSpec.upto wordsWriteSpec)) wordsWriteUptoCard

/-- THE SECOND FORM's CARD OF 'weightedlaw05.WordsReadBack'. -/
def wordsReadBackUptoCard : Claim7 := { stood := { row := wordsReadBackUptoRow, standIns := [], harness := (true, "41e41378fb05e8d5a962f13a468b4f0b04b551c9875e2348ef306e6006c1804a"), looks := false }, kinds := [], alts := [], laidByText := true, laidKinds := [.data, .pinned], laidTests := true, laidLooks := .later }
def WordsReadBackUptoCardSaid : Prop := Claim7.holds Tryd.pinned (.plain (OpenSpec.upto wordsReadBackSpec)) wordsReadBackUptoCard
end Rows
end Go.Proofs.YtcgfglgcjpjbaaaDoor

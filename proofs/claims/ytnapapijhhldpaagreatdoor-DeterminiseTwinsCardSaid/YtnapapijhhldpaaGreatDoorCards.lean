/-
  DERIVED. GIVEN WITH THE SEED: THE CARDS: each row of YtnapapijhhldpaaGreatDoorRows.lean that lists a variable, with what it lists TIED to the program's text (the seventh form; the later family's looks); each row that meets fmt, with fmt's text TOLD by the authors' own Lean function (tested against real Go, not proved from fmt's source: count such statements apart). THE CARD IS WHAT COUNTS. Prove the row's statement (the work); the ties are given (YtnapapijhhldpaaGreatDoorTie.lean); close each card by the builder's one call (the guide's Derived/Test/ToyasCard.lean, 'card_holds'). Laid BY PROGRAM, IN A SANDBOX (cutbox-door.mjs). By AI agents, Wed Nov 11 2026. No macro, syntax, notation, axiom, sorry.
-/
import Derived.Test.YtnapapijhhldpaaGreatDoorRows
import GoSem.ClaimSeven
namespace Go.Proofs.YtnapapijhhldpaaGreatDoor
namespace Rows

/-- THE TIED CARD OF 'weightedlaw25.DeterminiseTwice'. -/
def determiniseTwiceCard : Claim7 := { stood := { row := determiniseTwiceRow, standIns := [], harness := (true, "70896e20f0f459af8012245d00982389aca5d0391326e25daff07172ed43c39d"), looks := true }, kinds := [], alts := [], laidByText := true, laidKinds := [.data, .data, .data, .data, .sentinel, .sentinel, .pinned], laidTests := true, laidLooks := .later }
def DeterminiseTwiceCardSaid : Prop := Claim7.holds Tryz.pinned (.plain (OpenSpec.ofChange determiniseTwiceSpec)) determiniseTwiceCard

/-- THE TIED CARD OF 'weightedlaw25.DeterminiseKeeps'. -/
def determiniseKeepsCard : Claim7 := { stood := { row := determiniseKeepsRow, standIns := [], harness := (true, "70896e20f0f459af8012245d00982389aca5d0391326e25daff07172ed43c39d"), looks := true }, kinds := [], alts := [], laidByText := true, laidKinds := [.data, .data, .data, .data, .sentinel, .sentinel, .pinned], laidTests := true, laidLooks := .later }
def DeterminiseKeepsCardSaid : Prop := Claim7.holds Tryz.pinned (.plain (OpenSpec.ofChange determiniseKeepsSpec)) determiniseKeepsCard

/-- THE TIED CARD OF 'weightedlaw25.DeterminiseTwins'. -/
def determiniseTwinsCard : Claim7 := { stood := { row := determiniseTwinsRow, standIns := [], harness := (true, "70896e20f0f459af8012245d00982389aca5d0391326e25daff07172ed43c39d"), looks := true }, kinds := [], alts := [], laidByText := true, laidKinds := [.data, .data, .data, .data, .sentinel, .sentinel, .pinned], laidTests := true, laidLooks := .later }
def DeterminiseTwinsCardSaid : Prop := Claim7.holds Tryz.pinned (.plain (OpenSpec.ofChange determiniseTwinsSpec)) determiniseTwinsCard

/-- THE SECOND FORM's CARD OF 'weightedlaw25.DeterminiseTwice'. -/
def determiniseTwiceUptoCard : Claim7 := { stood := { row := determiniseTwiceUptoRow, standIns := [], harness := (true, "70896e20f0f459af8012245d00982389aca5d0391326e25daff07172ed43c39d"), looks := true }, kinds := [], alts := [], laidByText := true, laidKinds := [.data, .data, .data, .data, .sentinel, .sentinel, .pinned], laidTests := true, laidLooks := .later }
def DeterminiseTwiceUptoCardSaid : Prop := Claim7.holds Tryz.pinned (.plain (OpenSpec.upto determiniseTwiceSpec)) determiniseTwiceUptoCard

/-- THE SECOND FORM's CARD OF 'weightedlaw25.DeterminiseKeeps'. -/
def determiniseKeepsUptoCard : Claim7 := { stood := { row := determiniseKeepsUptoRow, standIns := [], harness := (true, "70896e20f0f459af8012245d00982389aca5d0391326e25daff07172ed43c39d"), looks := true }, kinds := [], alts := [], laidByText := true, laidKinds := [.data, .data, .data, .data, .sentinel, .sentinel, .pinned], laidTests := true, laidLooks := .later }
def DeterminiseKeepsUptoCardSaid : Prop := Claim7.holds Tryz.pinned (.plain (OpenSpec.upto determiniseKeepsSpec)) determiniseKeepsUptoCard

/-- THE SECOND FORM's CARD OF 'weightedlaw25.DeterminiseTwins'. -/
def determiniseTwinsUptoCard : Claim7 := { stood := { row := determiniseTwinsUptoRow, standIns := [], harness := (true, "70896e20f0f459af8012245d00982389aca5d0391326e25daff07172ed43c39d"), looks := true }, kinds := [], alts := [], laidByText := true, laidKinds := [.data, .data, .data, .data, .sentinel, .sentinel, .pinned], laidTests := true, laidLooks := .later }
def DeterminiseTwinsUptoCardSaid : Prop := Claim7.holds Tryz.pinned (.plain (OpenSpec.upto determiniseTwinsSpec)) determiniseTwinsUptoCard
end Rows
end Go.Proofs.YtnapapijhhldpaaGreatDoor

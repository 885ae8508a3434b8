/-
  DERIVED. GIVEN WITH THE SEED: THE CARDS: each row of YtjppjhjfogjhaaaGreatDoorRows.lean that lists a variable, with what it lists TIED to the program's text (the seventh form; the later family's looks); each row that meets fmt, with fmt's text TOLD by the authors' own Lean function (tested against real Go, not proved from fmt's source: count such statements apart). THE CARD IS WHAT COUNTS. Prove the row's statement (the work); the ties are given (YtjppjhjfogjhaaaGreatDoorTie.lean); close each card by the builder's one call (the guide's Derived/Test/ToyasCard.lean, 'card_holds'). Laid BY PROGRAM, IN A SANDBOX (cutbox-door.mjs). By AI agents, Wed Nov 11 2026. No macro, syntax, notation, axiom, sorry.
-/
import Derived.Test.YtjppjhjfogjhaaaGreatDoorRows
import GoSem.ClaimSeven
namespace Go.Proofs.YtjppjhjfogjhaaaGreatDoor
namespace Rows

/-- THE TIED CARD OF 'weightedlaw01.RationalRounds'. -/
def rationalRoundsCard : Claim7 := { stood := { row := rationalRoundsRow, standIns := [], harness := (true, "064c4bf97a06b374c09affaa5af404f3fae119702bc8f7bff600b48965a1bb93"), looks := true }, kinds := [], alts := [], laidByText := true, laidKinds := [.data, .data, .data, .data, .sentinel, .sentinel, .pinned], laidTests := true, laidLooks := .later }
def RationalRoundsCardSaid : Prop := Claim7.holds Tryz.pinned (.plain (OpenSpec.ofChange rationalRoundsSpec)) rationalRoundsCard

/-- THE TIED CARD OF 'weightedlaw01.RationalWrites'. -/
def rationalWritesCard : Claim7 := { stood := { row := rationalWritesRow, standIns := [], harness := (true, "064c4bf97a06b374c09affaa5af404f3fae119702bc8f7bff600b48965a1bb93"), looks := true }, kinds := [], alts := [], laidByText := true, laidKinds := [.data, .data, .data, .data, .sentinel, .sentinel, .pinned], laidTests := true, laidLooks := .later }
def RationalWritesCardSaid : Prop := Claim7.holds Tryz.pinned (.plain (OpenSpec.ofChange rationalWritesSpec)) rationalWritesCard

/-- THE TIED CARD OF 'weightedlaw01.RationalReadsBack'. -/
def rationalReadsBackCard : Claim7 := { stood := { row := rationalReadsBackRow, standIns := [], harness := (true, "064c4bf97a06b374c09affaa5af404f3fae119702bc8f7bff600b48965a1bb93"), looks := true }, kinds := [], alts := [], laidByText := true, laidKinds := [.data, .data, .data, .data, .sentinel, .sentinel, .pinned], laidTests := true, laidLooks := .later }
def RationalReadsBackCardSaid : Prop := Claim7.holds Tryz.pinned (.plain (OpenSpec.ofChange rationalReadsBackSpec)) rationalReadsBackCard

/-- THE TIED CARD OF 'weightedlaw01.RationalCalculates'. -/
def rationalCalculatesCard : Claim7 := { stood := { row := rationalCalculatesRow, standIns := [], harness := (true, "064c4bf97a06b374c09affaa5af404f3fae119702bc8f7bff600b48965a1bb93"), looks := true }, kinds := [], alts := [], laidByText := true, laidKinds := [.data, .data, .data, .data, .sentinel, .sentinel, .pinned], laidTests := true, laidLooks := .later }
def RationalCalculatesCardSaid : Prop := Claim7.holds Tryz.pinned (.plain (OpenSpec.ofChange rationalCalculatesSpec)) rationalCalculatesCard

/-- THE TIED CARD OF 'weightedlaw01.RationalRoundsNear'. -/
def rationalRoundsNearCard : Claim7 := { stood := { row := rationalRoundsNearRow, standIns := [], harness := (true, "064c4bf97a06b374c09affaa5af404f3fae119702bc8f7bff600b48965a1bb93"), looks := true }, kinds := [], alts := [], laidByText := true, laidKinds := [.data, .data, .data, .data, .sentinel, .sentinel, .pinned], laidTests := true, laidLooks := .later }
def RationalRoundsNearCardSaid : Prop := Claim7.holds Tryz.pinned (.plain (OpenSpec.ofChange rationalRoundsNearSpec)) rationalRoundsNearCard

/-- THE TIED CARD OF 'weightedlaw01.RationalIsOrdered'. -/
def rationalIsOrderedCard : Claim7 := { stood := { row := rationalIsOrderedRow, standIns := [], harness := (true, "064c4bf97a06b374c09affaa5af404f3fae119702bc8f7bff600b48965a1bb93"), looks := true }, kinds := [], alts := [], laidByText := true, laidKinds := [.data, .data, .data, .data, .sentinel, .sentinel, .pinned], laidTests := true, laidLooks := .later }
def RationalIsOrderedCardSaid : Prop := Claim7.holds Tryz.pinned (.plain (OpenSpec.ofChange rationalIsOrderedSpec)) rationalIsOrderedCard

/-- THE TIED CARD OF 'weightedlaw01.RationalIsAField'. -/
def rationalIsAFieldCard : Claim7 := { stood := { row := rationalIsAFieldRow, standIns := [], harness := (true, "064c4bf97a06b374c09affaa5af404f3fae119702bc8f7bff600b48965a1bb93"), looks := true }, kinds := [], alts := [], laidByText := true, laidKinds := [.data, .data, .data, .data, .sentinel, .sentinel, .pinned], laidTests := true, laidLooks := .later }
def RationalIsAFieldCardSaid : Prop := Claim7.holds Tryz.pinned (.plain (OpenSpec.ofChange rationalIsAFieldSpec)) rationalIsAFieldCard

/-- THE TIED CARD OF 'weightedlaw01.RationalValues'. -/
def rationalValuesCard : Claim7 := { stood := { row := rationalValuesRow, standIns := [], harness := (true, "064c4bf97a06b374c09affaa5af404f3fae119702bc8f7bff600b48965a1bb93"), looks := true }, kinds := [], alts := [], laidByText := true, laidKinds := [.data, .data, .data, .data, .sentinel, .sentinel, .pinned], laidTests := true, laidLooks := .later }
def RationalValuesCardSaid : Prop := Claim7.holds Tryz.pinned (.plain (OpenSpec.ofChange rationalValuesSpec)) rationalValuesCard

/-- THE SECOND FORM's CARD OF 'weightedlaw01.RationalRounds'. -/
def rationalRoundsUptoCard : Claim7 := { stood := { row := rationalRoundsUptoRow, standIns := [], harness := (true, "064c4bf97a06b374c09affaa5af404f3fae119702bc8f7bff600b48965a1bb93"), looks := true }, kinds := [], alts := [], laidByText := true, laidKinds := [.data, .data, .data, .data, .sentinel, .sentinel, .pinned], laidTests := true, laidLooks := .later }
def RationalRoundsUptoCardSaid : Prop := Claim7.holds Tryz.pinned (.plain (OpenSpec.upto rationalRoundsSpec)) rationalRoundsUptoCard

/-- THE SECOND FORM's CARD OF 'weightedlaw01.RationalWrites'. -/
def rationalWritesUptoCard : Claim7 := { stood := { row := rationalWritesUptoRow, standIns := [], harness := (true, "064c4bf97a06b374c09affaa5af404f3fae119702bc8f7bff600b48965a1bb93"), looks := true }, kinds := [], alts := [], laidByText := true, laidKinds := [.data, .data, .data, .data, .sentinel, .sentinel, .pinned], laidTests := true, laidLooks := .later }
def RationalWritesUptoCardSaid : Prop := Claim7.holds Tryz.pinned (.plain (OpenSpec.upto rationalWritesSpec)) rationalWritesUptoCard

/-- THE SECOND FORM's CARD OF 'weightedlaw01.RationalReadsBack'. -/
def rationalReadsBackUptoCard : Claim7 := { stood := { row := rationalReadsBackUptoRow, standIns := [], harness := (true, "064c4bf97a06b374c09affaa5af404f3fae119702bc8f7bff600b48965a1bb93"), looks := true }, kinds := [], alts := [], laidByText := true, laidKinds := [.data, .data, .data, .data, .sentinel, .sentinel, .pinned], laidTests := true, laidLooks := .later }
def RationalReadsBackUptoCardSaid : Prop := Claim7.holds Tryz.pinned (.plain (OpenSpec.upto rationalReadsBackSpec)) rationalReadsBackUptoCard

/-- THE SECOND FORM's CARD OF 'weightedlaw01.RationalCalculates'. -/
def rationalCalculatesUptoCard : Claim7 := { stood := { row := rationalCalculatesUptoRow, standIns := [], harness := (true, "064c4bf97a06b374c09affaa5af404f3fae119702bc8f7bff600b48965a1bb93"), looks := true }, kinds := [], alts := [], laidByText := true, laidKinds := [.data, .data, .data, .data, .sentinel, .sentinel, .pinned], laidTests := true, laidLooks := .later }
def RationalCalculatesUptoCardSaid : Prop := Claim7.holds Tryz.pinned (.plain (OpenSpec.upto rationalCalculatesSpec)) rationalCalculatesUptoCard

/-- THE SECOND FORM's CARD OF 'weightedlaw01.RationalRoundsNear'. -/
def rationalRoundsNearUptoCard : Claim7 := { stood := { row := rationalRoundsNearUptoRow, standIns := [], harness := (true, "064c4bf97a06b374c09affaa5af404f3fae119702bc8f7bff600b48965a1bb93"), looks := true }, kinds := [], alts := [], laidByText := true, laidKinds := [.data, .data, .data, .data, .sentinel, .sentinel, .pinned], laidTests := true, laidLooks := .later }
def RationalRoundsNearUptoCardSaid : Prop := Claim7.holds Tryz.pinned (.plain (OpenSpec.upto rationalRoundsNearSpec)) rationalRoundsNearUptoCard

/-- THE SECOND FORM's CARD OF 'weightedlaw01.RationalIsOrdered'. -/
def rationalIsOrderedUptoCard : Claim7 := { stood := { row := rationalIsOrderedUptoRow, standIns := [], harness := (true, "064c4bf97a06b374c09affaa5af404f3fae119702bc8f7bff600b48965a1bb93"), looks := true }, kinds := [], alts := [], laidByText := true, laidKinds := [.data, .data, .data, .data, .sentinel, .sentinel, .pinned], laidTests := true, laidLooks := .later }
def RationalIsOrderedUptoCardSaid : Prop := Claim7.holds Tryz.pinned (.plain (OpenSpec.upto rationalIsOrderedSpec)) rationalIsOrderedUptoCard

/-- THE SECOND FORM's CARD OF 'weightedlaw01.RationalIsAField'. -/
def rationalIsAFieldUptoCard : Claim7 := { stood := { row := rationalIsAFieldUptoRow, standIns := [], harness := (true, "064c4bf97a06b374c09affaa5af404f3fae119702bc8f7bff600b48965a1bb93"), looks := true }, kinds := [], alts := [], laidByText := true, laidKinds := [.data, .data, .data, .data, .sentinel, .sentinel, .pinned], laidTests := true, laidLooks := .later }
def RationalIsAFieldUptoCardSaid : Prop := Claim7.holds Tryz.pinned (.plain (OpenSpec.upto rationalIsAFieldSpec)) rationalIsAFieldUptoCard

/-- THE SECOND FORM's CARD OF 'weightedlaw01.RationalValues'. -/
def rationalValuesUptoCard : Claim7 := { stood := { row := rationalValuesUptoRow, standIns := [], harness := (true, "064c4bf97a06b374c09affaa5af404f3fae119702bc8f7bff600b48965a1bb93"), looks := true }, kinds := [], alts := [], laidByText := true, laidKinds := [.data, .data, .data, .data, .sentinel, .sentinel, .pinned], laidTests := true, laidLooks := .later }
def RationalValuesUptoCardSaid : Prop := Claim7.holds Tryz.pinned (.plain (OpenSpec.upto rationalValuesSpec)) rationalValuesUptoCard
end Rows
end Go.Proofs.YtjppjhjfogjhaaaGreatDoor

/-
  No cell of these rows narrows 'for every input' (looked for: loops, veiled, ifaces, maps, wideKeys, modest, calm, conditions, laid).
  DERIVED. THE GIVEN ROWS OF THIS SEAT. 4 by the template 'for every input the law returns true; each argument reads behind the call as it read before'; 0 by the template 'total and deterministic' (their statements: YtcoidofchofljaaTotals.lean).
  GIVEN WITH THE SEED: the statements are not yours to turn. If you find one false, say at which input.
  Laid BY PROGRAM, IN A SANDBOX (cutbox-rows.mjs): the forced cells as the released guide's own fill.sh prints them over the translation 84dd1861c7e2f561… (all of the seat's roots in one cut). By AI agents, Wed Nov 11 2026. No macro, syntax, notation, axiom, sorry.
-/
import Derived.Test.YtcoidofchofljaaChecked
import GoSem.Claim
import GoSem.ClaimJoined
import GoSem.ClaimMapViews
import Derived.JoinedTies
import Derived.KernelRfl
namespace Go.Proofs.Ytcoidofchofljaa
/- THE CELL 'sum', in the pinned program and in every row, IS THE sha256 OF THE DUMP (.gsa) THAT YtcoidofchofljaaProg.lean LOADS. Nothing in Lean hashes anything: it is a label: what it is worth is what the hold of that sum in a sandbox is worth. -/
noncomputable def Try.pinned : Pinned := { name := "ytcoidofchofljaa", sum := "84dd1861c7e2f5619fe7471e7ca121e96f45414c80153676468a0135f7260807", checked := Try.checked }
namespace Rows
def none {H : Type} : Left H := { results := [], args := [] }

/-- 'weightedlaw22.BasisSelects': WHATEVER THE INPUT: true; the input reads as it did. -/
def basisSelectsSpec : ChangeSpec := { name := "basisSelects", fn := fun _ => fun
  | [d1, d2, d3] => { results := [.lit (.bool true)], args := [d1, d2, d3] }
  | _ => none }
def basisSelectsRow : OpenClaim := { program := "ytcoidofchofljaa", sum := "84dd1861c7e2f5619fe7471e7ca121e96f45414c80153676468a0135f7260807", func := "weighted/weightedlaw22.BasisSelects", spec := "basisSelects", apart := false }
def BasisSelectsSaid : Prop := basisSelectsRow.holds Try.pinned (OpenSpec.ofChange basisSelectsSpec)

/-- ITS FALSE NEIGHBOUR: 'it returns false'. Refute it at one input. -/
def basisSelectsWrong : ChangeSpec := { name := "basisSelects", fn := fun _ => fun
  | [d1, d2, d3] => { results := [.lit (.bool false)], args := [d1, d2, d3] }
  | _ => none }
def BasisSelectsWrongFalsely : Prop := basisSelectsRow.holds Try.pinned (OpenSpec.ofChange basisSelectsWrong)

/-- 'weightedlaw22.BasisFindsCoordinates': WHATEVER THE INPUT: true; the input reads as it did. -/
def basisFindsCoordinatesSpec : ChangeSpec := { name := "basisFindsCoordinates", fn := fun _ => fun
  | [d1, d2, d3, d4] => { results := [.lit (.bool true)], args := [d1, d2, d3, d4] }
  | _ => none }
def basisFindsCoordinatesRow : OpenClaim := { program := "ytcoidofchofljaa", sum := "84dd1861c7e2f5619fe7471e7ca121e96f45414c80153676468a0135f7260807", func := "weighted/weightedlaw22.BasisFindsCoordinates", spec := "basisFindsCoordinates", apart := false }
def BasisFindsCoordinatesSaid : Prop := basisFindsCoordinatesRow.holds Try.pinned (OpenSpec.ofChange basisFindsCoordinatesSpec)

/-- ITS FALSE NEIGHBOUR: 'it returns false'. Refute it at one input. -/
def basisFindsCoordinatesWrong : ChangeSpec := { name := "basisFindsCoordinates", fn := fun _ => fun
  | [d1, d2, d3, d4] => { results := [.lit (.bool false)], args := [d1, d2, d3, d4] }
  | _ => none }
def BasisFindsCoordinatesWrongFalsely : Prop := basisFindsCoordinatesRow.holds Try.pinned (OpenSpec.ofChange basisFindsCoordinatesWrong)

/-- 'weightedlaw22.BasisCalculates': WHATEVER THE INPUT: true; the input reads as it did. -/
def basisCalculatesSpec : ChangeSpec := { name := "basisCalculates", fn := fun _ => fun
  | [d1, d2] => { results := [.lit (.bool true)], args := [d1, d2] }
  | _ => none }
def basisCalculatesRow : OpenClaim := { program := "ytcoidofchofljaa", sum := "84dd1861c7e2f5619fe7471e7ca121e96f45414c80153676468a0135f7260807", func := "weighted/weightedlaw22.BasisCalculates", spec := "basisCalculates", apart := false }
def BasisCalculatesSaid : Prop := basisCalculatesRow.holds Try.pinned (OpenSpec.ofChange basisCalculatesSpec)

/-- ITS FALSE NEIGHBOUR: 'it returns false'. Refute it at one input. -/
def basisCalculatesWrong : ChangeSpec := { name := "basisCalculates", fn := fun _ => fun
  | [d1, d2] => { results := [.lit (.bool false)], args := [d1, d2] }
  | _ => none }
def BasisCalculatesWrongFalsely : Prop := basisCalculatesRow.holds Try.pinned (OpenSpec.ofChange basisCalculatesWrong)

/-- 'weightedlaw22.BasisGrows': WHATEVER THE INPUT: true; the input reads as it did. -/
def basisGrowsSpec : ChangeSpec := { name := "basisGrows", fn := fun _ => fun
  | [d1, d2, d3, d4] => { results := [.lit (.bool true)], args := [d1, d2, d3, d4] }
  | _ => none }
def basisGrowsRow : OpenClaim := { program := "ytcoidofchofljaa", sum := "84dd1861c7e2f5619fe7471e7ca121e96f45414c80153676468a0135f7260807", func := "weighted/weightedlaw22.BasisGrows", spec := "basisGrows", apart := false }
def BasisGrowsSaid : Prop := basisGrowsRow.holds Try.pinned (OpenSpec.ofChange basisGrowsSpec)

/-- ITS FALSE NEIGHBOUR: 'it returns false'. Refute it at one input. -/
def basisGrowsWrong : ChangeSpec := { name := "basisGrows", fn := fun _ => fun
  | [d1, d2, d3, d4] => { results := [.lit (.bool false)], args := [d1, d2, d3, d4] }
  | _ => none }
def BasisGrowsWrongFalsely : Prop := basisGrowsRow.holds Try.pinned (OpenSpec.ofChange basisGrowsWrong)

/- THE SECOND FORM. 'bulk': how many values and letters a reading holds, each counted each time it is reached (what is shared counts as often as it is met; a slice's spare places count too). A statement '..UptoSaid' is the law's where the arguments, and the package variables that the reading takes, are together of bulk at most 1048576: NARROWER than '..Said'. Prove '..Said' where nothing that the law and all that it calls make is longer than what came in: it says more and counts as full. Else prove '..UptoSaid'. A law counts once. -/
mutual
def uptoBulk {H : Type} : DataW H → Nat
  | .lit (.string bytes) => bytes.length + 1
  | .lit _ => 1
  | .nil => 1
  | .ptr d => uptoBulk d + 1
  | .slice elems spare => uptoBulkAll elems + uptoBulkAll spare + 1
  | .agg parts => uptoBulkAll parts + 1
  | .iface _ d => uptoBulk d + 1
  | .map entries => uptoBulkEntries entries + 1
  | .held _ => 1
def uptoBulkAll {H : Type} : List (DataW H) → Nat
  | [] => 0
  | d :: r => uptoBulk d + uptoBulkAll r
def uptoBulkEntries {H : Type} : List (Lit × DataW H) → Nat
  | [] => 0
  | x :: r => uptoBulkEntry x + uptoBulkEntries r
def uptoBulkEntry {H : Type} : Lit × DataW H → Nat
  | (.string bytes, d) => bytes.length + uptoBulk d + 1
  | (_, d) => uptoBulk d + 1
 end
def uptoSmall : (H : Type) → List (DataW H) → Bool := fun _ ds => decide (uptoBulkAll ds ≤ 1048576)
def OpenSpec.upto (s : _root_.Go.ChangeSpec) : _root_.Go.OpenSpec := { _root_.Go.OpenSpec.ofChange s with cond := some uptoSmall }

/-- 'weightedlaw22.BasisSelects', WHERE WHAT IT READS IS OF BULK AT MOST 1048576: true; the input reads as it did. -/
def basisSelectsUptoRow : OpenClaim := { program := "ytcoidofchofljaa", sum := "84dd1861c7e2f5619fe7471e7ca121e96f45414c80153676468a0135f7260807", func := "weighted/weightedlaw22.BasisSelects", spec := "basisSelects", apart := false, narrowed := true }
def BasisSelectsUptoSaid : Prop := basisSelectsUptoRow.holds Try.pinned (OpenSpec.upto basisSelectsSpec)

/-- 'weightedlaw22.BasisFindsCoordinates', WHERE WHAT IT READS IS OF BULK AT MOST 1048576: true; the input reads as it did. -/
def basisFindsCoordinatesUptoRow : OpenClaim := { program := "ytcoidofchofljaa", sum := "84dd1861c7e2f5619fe7471e7ca121e96f45414c80153676468a0135f7260807", func := "weighted/weightedlaw22.BasisFindsCoordinates", spec := "basisFindsCoordinates", apart := false, narrowed := true }
def BasisFindsCoordinatesUptoSaid : Prop := basisFindsCoordinatesUptoRow.holds Try.pinned (OpenSpec.upto basisFindsCoordinatesSpec)

/-- 'weightedlaw22.BasisCalculates', WHERE WHAT IT READS IS OF BULK AT MOST 1048576: true; the input reads as it did. -/
def basisCalculatesUptoRow : OpenClaim := { program := "ytcoidofchofljaa", sum := "84dd1861c7e2f5619fe7471e7ca121e96f45414c80153676468a0135f7260807", func := "weighted/weightedlaw22.BasisCalculates", spec := "basisCalculates", apart := false, narrowed := true }
def BasisCalculatesUptoSaid : Prop := basisCalculatesUptoRow.holds Try.pinned (OpenSpec.upto basisCalculatesSpec)

/-- 'weightedlaw22.BasisGrows', WHERE WHAT IT READS IS OF BULK AT MOST 1048576: true; the input reads as it did. -/
def basisGrowsUptoRow : OpenClaim := { program := "ytcoidofchofljaa", sum := "84dd1861c7e2f5619fe7471e7ca121e96f45414c80153676468a0135f7260807", func := "weighted/weightedlaw22.BasisGrows", spec := "basisGrows", apart := false, narrowed := true }
def BasisGrowsUptoSaid : Prop := basisGrowsUptoRow.holds Try.pinned (OpenSpec.upto basisGrowsSpec)

end Rows
end Go.Proofs.Ytcoidofchofljaa

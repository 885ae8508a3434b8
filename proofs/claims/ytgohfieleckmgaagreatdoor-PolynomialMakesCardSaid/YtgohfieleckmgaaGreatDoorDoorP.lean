/-
  The listed variables of this seat's rows: a world in which they are laid; that the table of powers of ten is laid. No condition.
-/
import Derived.Test.YtgohfieleckmgaaGreatDoorRows
import Derived.Test.YtgohfieleckmgaaGreatDoorTxtR
import Derived.PinnedBridge
import Derived.Lay
import Derived.Stop.LaidErr
import Derived.Stop.Joined
import Derived.LaidMore
namespace Go.Proofs.YtgohfieleckmgaaGreatDoor
open Go.RowKit Go.ChangeAt

/-- What each row of the seat lists. -/
def laidL : List (String × DataW Unit) := Rows.polynomialCalculatesRow.laid

set_option maxRecDepth 100000 in
theorem laid_shaped (os : Os) : (World.laidAll Tryz.prog os laidL).Shaped Tryz.prog := World.shaped_of_ZipB (by kernel_rfl) (by kernel_rfl)

set_option maxRecDepth 100000 in
theorem laid_wit (os : Os) (args : Array Value) : laidMetH Tryz.prog laidL ((World.laidAll Tryz.prog os laidL).forCall (fun _ _ => 0) ⟨#[], args, []⟩).memory := by
  rw [MakeChecks.laidMetH_plain _ _ _ (by kernel_rfl)]
  exact laidMet_laidAll _ (by kernel_rfl) (by kernel_rfl)

set_option maxRecDepth 100000 in
theorem pow_of_laid {W : World} (h : laidMetH Tryz.prog laidL W) : Pow W := by
  rw [MakeChecks.laidMetH_plain _ _ _ (by kernel_rfl)] at h
  have h2 := h.tail.tail
  exact Lib.tabIs_of_head (rest := laidL.tail.tail.tail) (t := 216) (e := 117) (n := 20) pow_glob (by kernel_rfl) Tryz.underlying216 Tryz.underlying117 (by kernel_rfl) (by kernel_rfl) h2

end Go.Proofs.YtgohfieleckmgaaGreatDoor

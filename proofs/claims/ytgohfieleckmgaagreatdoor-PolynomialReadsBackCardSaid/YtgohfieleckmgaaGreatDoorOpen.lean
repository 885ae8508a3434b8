/-
  How the arguments of a row read in the words of XBase: slices of integers and of strings. No condition.
-/
import Derived.Test.YtgohfieleckmgaaGreatDoorBase
import Derived.ProofKit
import Derived.SliceStrings
import Derived.Deep.Strs
namespace Go.Proofs.YtgohfieleckmgaaGreatDoor
open Go.ChangeShapes Go.WideShapes Go.RowKit

theorem Sl.ofCells {w : World} {a : Addr} {n cap : Nat} {xs : List Value} (hl : xs.length = n) (hn : n ≤ cap) (hm : cap ≤ maxLen) (h : ∀ i x, xs[i]? = some x → w.cell? (a.add i) = some x) : Sl w (some a) n cap xs := by
  refine ⟨hl, hn, hm, fun i x hx => ?_⟩
  have h0 : ∃ y, xs[0]? = some y := by
    have : i < xs.length := (List.getElem?_eq_some_iff.1 hx).1
    exact ⟨xs[0], by simp [show 0 < xs.length by omega]⟩
  obtain ⟨y, hy⟩ := h0
  have hc := h 0 y hy
  have hsp : a.spot = none := by
    cases hs : a.spot with
    | none => rfl
    | some s =>
      rw [show a.add 0 = a by simp [Addr.add]] at hc
      unfold World.cell? at hc
      rw [hs] at hc
      split at hc <;> simp at hc
  obtain ⟨b, off, spot⟩ := a
  simp only at hsp
  subst hsp
  refine ⟨b, off, rfl, ?_⟩
  have := h i x hx
  rwa [Addr.add_lit] at this

section
variable {H : Type} {enc : TypeId × Value → H} {P : Program} {w : World} {base : Nat} {spare : Nat → Bool} {held : Bool}

theorem slStrs {t e : TypeId} {fuel : Nat} {a : Option Addr} {len cap : Nat} {x : DataW H × List MemPlace} (ht : P.underlying t = some (.slice e)) (he : P.underlying e = some .string) (hc : P.cellsOf e = 1)
    (h : DataW.trod enc P w base spare held fuel t (Value.slice a len cap).cells.toList = some x) : ∃ ss : List ByteArray, Sl w a len cap (ss.map .string) ∧ (a = none → cap = 0) := by
  rcases open_strings ht he hc h with ⟨hcs, _⟩ | ⟨y, l, c, ss, hcs, _, hl, hm, hz, _, hcell, _⟩
  · simp [Value.cells] at hcs
    obtain ⟨rfl, rfl, rfl⟩ := hcs
    exact ⟨[], Sl.nil w, fun _ => rfl⟩
  · simp [Value.cells] at hcs
    obtain ⟨rfl, rfl, rfl⟩ := hcs
    have hle : len ≤ ss.length := by rw [hz]; split <;> omega
    refine ⟨ss.take len, Sl.ofCells (by simp; omega) hl hm fun i z hx => ?_, fun h => by cases h⟩
    rw [List.getElem?_map, List.getElem?_take] at hx
    split at hx
    · have hi : i < ss.length := by omega
      rw [List.getElem?_eq_getElem hi] at hx
      simp at hx
      subst hx
      rw [hcell i hi]
      simp [List.getD, hi]
    · cases hx

theorem slInts {t e : TypeId} {fuel : Nat} {a : Option Addr} {len cap : Nat} {x : DataW H × List MemPlace} (ht : P.underlying t = some (.slice e)) (he : P.underlying e = some (.int .i64)) (hc : P.cellsOf e = 1)
    (h : DataW.trod enc P w base spare held fuel t (Value.slice a len cap).cells.toList = some x) :
    ∃ zs : List Int, Sl w a len cap (zs.map (.int .i64)) ∧ (a = none → cap = 0) ∧ ∀ z ∈ zs, -9223372036854775808 ≤ z ∧ z ≤ 9223372036854775807 := by
  rcases open_ints ht he hc h with ⟨hcs, _⟩ | ⟨y, l, c, zs, hcs, _, hl, hm, hz, _, hcell, hwz⟩
  · simp [Value.cells] at hcs
    obtain ⟨rfl, rfl, rfl⟩ := hcs
    exact ⟨[], Sl.nil w, fun _ => rfl, by simp⟩
  · simp [Value.cells] at hcs
    obtain ⟨rfl, rfl, rfl⟩ := hcs
    have hle : len ≤ zs.length := by rw [hz]; split <;> omega
    refine ⟨zs.take len, Sl.ofCells (by simp; omega) hl hm fun i z hx => ?_, fun h => (by cases h), fun z hz' => ?_⟩
    · rw [List.getElem?_map, List.getElem?_take] at hx
      split at hx
      · have hi : i < zs.length := by omega
        rw [List.getElem?_eq_getElem hi] at hx
        simp at hx
        subst hx
        rw [hcell i hi]
        simp [List.getD, hi]
      · cases hx
    · have := hwz z (List.mem_of_mem_take hz')
      simpa [Lit.wf, IntKind.min, IntKind.max, IntKind.bits, IntKind.signed] using this
end
end Go.Proofs.YtgohfieleckmgaaGreatDoor

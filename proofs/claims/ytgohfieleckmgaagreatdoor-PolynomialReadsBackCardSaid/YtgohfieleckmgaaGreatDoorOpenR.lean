/-
  How an argument of type api.Rat reads: a sign and two lists of limbs. No condition.
-/
import Derived.Test.YtgohfieleckmgaaGreatDoorOpen
import Derived.Test.YtgohfieleckmgaaGreatDoorRatX
namespace Go.Proofs.YtgohfieleckmgaaGreatDoor
open Go.ChangeShapes Go.WideShapes Go.RowKit Go.Deep

section
variable {H : Type} {enc : TypeId × Value → H} {P : Program} {w : World} {base : Nat} {spare : Nat → Bool} {held : Bool}

theorem slU32 {t e : TypeId} {fuel : Nat} {cs : List Value} {x : DataW H × List MemPlace} (ht : P.underlying t = some (.slice e)) (he : P.underlying e = some (.int .u32)) (hc : P.cellsOf e = 1)
    (h : DataW.trod enc P w base spare held fuel t cs = some x) :
    ∃ (a : Option Addr) (len cap : Nat) (N : List Nat), cs = [.slice a len cap] ∧ Sl w a len cap (u32s N) ∧ (a = none → cap = 0) ∧ Lim N := by
  rcases open_ints ht he hc h with ⟨hcs, _⟩ | ⟨y, len, cap, zs, hcs, _, hl, hm, hz, _, hcell, hwz⟩
  · exact ⟨none, 0, 0, [], hcs, Sl.nil w, fun _ => rfl, lim_nil⟩
  · have hle : len ≤ zs.length := by rw [hz]; split <;> omega
    have hr : ∀ z ∈ zs, 0 ≤ z ∧ z ≤ 4294967295 := fun z hz' => by
      have := hwz z hz'
      simpa [Lit.wf, IntKind.min, IntKind.max, IntKind.bits, IntKind.signed] using this
    refine ⟨some y, len, cap, (zs.take len).map Int.toNat, hcs, Sl.ofCells (by simp [u32s]; omega) hl hm fun i z hx => ?_, fun h => (by cases h), fun n hn => ?_⟩
    · rw [u32s, List.getElem?_map, List.getElem?_map, List.getElem?_take] at hx
      split at hx
      · have hi : i < zs.length := by omega
        rw [List.getElem?_eq_getElem hi] at hx
        simp at hx
        subst hx
        rw [hcell i hi]
        have := hr zs[i] (List.getElem_mem hi)
        have e : ((zs[i].toNat : Nat) : Int) = zs[i] := Int.toNat_of_nonneg this.1
        simp [List.getD, hi]; omega
      · cases hx
    · obtain ⟨z, hz', rfl⟩ := List.mem_map.1 hn
      have := hr z (List.mem_of_mem_take hz')
      omega
end

theorem openRat {H : Type} {enc : TypeId × Value → H} {w : World} {base : Nat} {spare : Nat → Bool} {held : Bool} {fuel : Nat} {cs : Array Value} {x : DataW H × List MemPlace}
    (h : DataW.trod enc Tryz.prog w base spare held fuel 25 cs.toList = some x) :
    ∃ (neg : Bool) (N D : List Nat) (bo : Option Addr) (m cap2 : Nat) (co : Option Addr) (l cap3 : Nat), cs = #[.bool neg, .slice bo m cap2, .slice co l cap3] ∧ Sl w bo m cap2 (u32s N) ∧ Sl w co l cap3 (u32s D) ∧ Lim N ∧ Lim D ∧
      (bo = none → cap2 = 0) ∧ (co = none → cap3 = 0) := by
  have c1 : Tryz.prog.cellsOf 4 = 1 := by kernel_rfl
  have c2 : Tryz.prog.cellsOf 23 = 1 := by kernel_rfl
  have c3 : Tryz.prog.cellsOf 25 = 3 := by kernel_rfl
  obtain ⟨y0, y1, y2, n, _, hl, h0, h1, h2⟩ := trod_struct3 Tryz.underlying25 h
  simp only [c1, c2] at h0 h1 h2
  rw [c3] at hl
  obtain ⟨u, hu⟩ : ∃ u, cs.toList = u := ⟨_, rfl⟩
  rw [hu] at h0 h1 h2 hl
  match u, hl, hu with
  | [p, q, r], _, hu =>
    obtain ⟨neg, e0, _⟩ := DataW.trod_bool Tryz.underlying4 h0
    obtain ⟨bo, m, cap2, N, e1, s1, z1, l1⟩ := slU32 Tryz.underlying23 Tryz.underlying102 (by kernel_rfl) h1
    obtain ⟨co, l, cap3, D, e2, s2, z2, l2⟩ := slU32 Tryz.underlying23 Tryz.underlying102 (by kernel_rfl) h2
    simp at e0 e1 e2
    subst e0 e1 e2
    refine ⟨neg, N, D, bo, m, cap2, co, l, cap3, ?_, s1, s2, l1, l2, z1, z2⟩
    cases cs
    simpa using hu

end Go.Proofs.YtgohfieleckmgaaGreatDoor

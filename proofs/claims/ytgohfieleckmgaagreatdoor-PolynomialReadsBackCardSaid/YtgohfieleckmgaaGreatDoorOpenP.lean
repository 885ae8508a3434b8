/-
  How an argument of type []api.Monomial reads: monomials whose numbers are of any size. No condition.
-/
import Derived.Test.YtgohfieleckmgaaGreatDoorOpenR
import Derived.Test.YtgohfieleckmgaaGreatDoorPof
import Derived.Deep.Slices
import Derived.Laws.IdiomArrays
namespace Go.Proofs.YtgohfieleckmgaaGreatDoor
open Go.ChangeShapes Go.WideShapes Go.RowKit Go.Deep

/-- A value reads as q, its lists of limbs as long as they are. -/
def RatW (w : World) (v : Value) (q : Rat) : Prop :=
  ∃ (neg : Bool) (N D : List Nat) (ao bo : Option Addr) (n cap m cap' : Nat), v = .agg #[.bool neg, .slice ao n cap, .slice bo m cap'] ∧ Sl w ao n cap (u32s N) ∧ Sl w bo m cap' (u32s D) ∧ Lim N ∧ Lim D ∧ (ao = none → cap = 0) ∧ (bo = none → cap' = 0) ∧ ratOf neg N D = q

theorem RatW.next {w w' : World} {v : Value} {q : Rat} (h : RatW w v q) (hb : Below w.heap.size w w') : RatW w' v q := by
  obtain ⟨neg, N, D, ao, bo, n, cap, m, cap', e, h1, h2, h3⟩ := h
  exact ⟨neg, N, D, ao, bo, n, cap, m, cap', e, h1.next hb, h2.next hb, h3⟩
theorem Pol.nextW {w w' : World} {ao : Option Addr} {n cap : Nat} {l : List Mr} (h : Pol RatW w ao n cap l) (hb : Below w.heap.size w w') : Pol RatW w' ao n cap l := h.stay hb fun _ _ h => h.next hb

theorem spot_none {w : World} {a : Addr} {v : Value} (h : w.cell? a = some v) : a.spot = none := by
  cases hs : a.spot with
  | none => rfl
  | some s =>
    unfold World.cell? at h
    rw [hs] at h
    split at h <;> simp at h

theorem choose_lt {α : Type} [Inhabited α] {n : Nat} {P : Nat → α → Prop} (h : ∀ i, i < n → ∃ x, P i x) : ∃ f : Nat → α, ∀ i, i < n → P i (f i) := by
  classical
  exact ⟨fun i => if hi : i < n then Classical.choose (h i hi) else default, fun i hi => by simp only [hi, dif_pos]; exact Classical.choose_spec (h i hi)⟩

section
variable {H : Type} {enc : TypeId × Value → H} {w : World} {base : Nat} {spare : Nat → Bool} {held : Bool}

theorem openMon {fuel : Nat} {cs : List Value} {x : DataW H × List MemPlace} (h : DataW.trod enc Tryz.prog w base spare held fuel 59 cs = some x) :
    ∃ (m : Mo) (q : Rat), cs = encM m ∧ RatW w (ratM m) q := by
  have c1 : Tryz.prog.cellsOf 3 = 1 := by kernel_rfl
  have c3 : Tryz.prog.cellsOf 57 = 3 := by kernel_rfl
  have c4 : Tryz.prog.cellsOf 25 = 3 := by kernel_rfl
  have c6 : Tryz.prog.cellsOf 59 = 6 := by kernel_rfl
  obtain ⟨y0, y1, n, _, hl, h0, h1⟩ := trod_struct2 Tryz.underlying59 h
  simp only [c3, c4] at h0 h1
  rw [c6] at hl
  match cs, hl with
  | [p, q, r, s, t, u], _ =>
    have h0' : DataW.trod enc Tryz.prog w base spare held n 57 [p, q, r] = some y0 := by simpa using h0
    have h1' : DataW.trod enc Tryz.prog w base spare held n 25 (#[s, t, u] : Array Value).toList = some y1 := by simpa using h1
    obtain ⟨z0, z1, z2, n', _, g0, g1, g2⟩ := trod_array3 Tryz.underlying57 c1 h0'
    obtain ⟨a, e0, _⟩ := DataW.trod_int Tryz.underlying3 g0
    obtain ⟨b, e1, _⟩ := DataW.trod_int Tryz.underlying3 g1
    obtain ⟨c, e2, _⟩ := DataW.trod_int Tryz.underlying3 g2
    obtain ⟨neg, N, D, bo, m, cap2, co, l, cap3, e3, s1, s2, l1, l2, k1, k2⟩ := openRat h1'
    simp at e0 e1 e2 e3
    obtain ⟨rfl, rfl, rfl⟩ := e3
    subst e0 e1 e2
    exact ⟨((a, b, c), neg, (bo, m, cap2), (co, l, cap3)), _, rfl, neg, N, D, bo, co, m, cap2, l, cap3, rfl, s1, s2, l1, l2, k1, k2, rfl⟩

theorem openPol {fuel : Nat} {cs : List Value} {x : DataW H × List MemPlace} (h : DataW.trod enc Tryz.prog w base spare held fuel 22 cs = some x) :
    ∃ (a : Option Addr) (n cap : Nat) (l : List Mr), cs = [.slice a n cap] ∧ Pol RatW w a n cap l := by
  have c6 : Tryz.prog.cellsOf 59 = 6 := by kernel_rfl
  rcases open_slice Tryz.underlying22 h with ⟨hcs, _⟩ | ⟨a, len, cap, m, f, D, Pl, hcs, _, hl, hm, hmm, _, hx⟩
  · exact ⟨none, 0, 0, [], hcs, Pol.nil _ _⟩
  · have hle : len ≤ m := by rw [hmm]; split <;> omega
    rw [c6] at hx
    have hel : ∀ i, i < len → ∃ q : Mr, ∃ b o, some a = some (⟨b, o, none⟩ : Addr) ∧ ∃ x : Mo, Hex w b (o + i * 6) x ∧ x.1 = q.1 ∧ RatW w (ratM x) q.2 := fun i hi => by
      obtain ⟨cs', h1, h2⟩ := hx i (by omega)
      obtain ⟨_, hlen, hat⟩ := World.cells?_some h1
      have h2' : DataW.trod enc Tryz.prog w base spare held f 59 cs' = some (D i, Pl i) := by simpa using h2
      obtain ⟨mo, q, e', hr⟩ := openMon h2'
      subst e'
      obtain ⟨b, o, sp⟩ := a
      have hsp : sp = none := by
        obtain ⟨cs0, g1, g2⟩ := hx 0 (by omega)
        obtain ⟨_, glen, gat⟩ := World.cells?_some g1
        have g0 := gat 0 (by decide)
        rw [List.getElem?_eq_getElem (by omega)] at g0
        have := spot_none g0
        simpa [Addr.add] using this
      subst hsp
      refine ⟨(mo.1, q), b, o, rfl, mo, fun c v hv => ?_, rfl, hr⟩
      have hc : c < 6 := by have := (List.getElem?_eq_some_iff.1 hv).1; rwa [len_enc] at this
      have := hat c hc
      rw [hv] at this
      simpa [Addr.add_lit, Nat.add_assoc] using this
    obtain ⟨F, hF⟩ := choose_lt hel
    refine ⟨some a, len, cap, (List.range len).map F, hcs, by simp, hl, hm, fun e => (by cases e), fun i mm hmm2 => ?_⟩
    rw [List.getElem?_map] at hmm2
    obtain ⟨j, hj, rfl⟩ := Option.map_eq_some_iff.1 hmm2
    obtain ⟨hjl, rfl⟩ := List.getElem?_eq_some_iff.1 hj
    simp only [List.getElem_range]
    exact hF i (by simpa using hjl)
end

end Go.Proofs.YtgohfieleckmgaaGreatDoor

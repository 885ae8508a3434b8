/-
  How arguments of type []api.Rat and [][]api.Rat read: vectors whose numbers are any three cells. No condition.
-/
import Derived.Test.YtcoidofchofljaaOpenR
import Derived.Test.YtcoidofchofljaaMat
import Derived.Deep.Slices
namespace Go.Proofs.Ytcoidofchofljaa
open Go.ChangeShapes Go.WideShapes Go.RowKit Go.Deep

/-- A value reads as q, its lists of limbs as long as they are. -/
def RatW (w : World) (v : Value) (q : Rat) : Prop :=
  ∃ (neg : Bool) (N D : List Nat) (ao bo : Option Addr) (n cap m cap' : Nat), v = .agg #[.bool neg, .slice ao n cap, .slice bo m cap'] ∧ Sl w ao n cap (u32s N) ∧ Sl w bo m cap' (u32s D) ∧ Lim N ∧ Lim D ∧ (ao = none → cap = 0) ∧ (bo = none → cap' = 0) ∧ ratOf neg N D = q

theorem RatW.next {w w' : World} {v : Value} {q : Rat} (h : RatW w v q) (hb : Below w.heap.size w w') : RatW w' v q := by
  obtain ⟨neg, N, D, ao, bo, n, cap, m, cap', e, h1, h2, h3⟩ := h
  exact ⟨neg, N, D, ao, bo, n, cap, m, cap', e, h1.next hb, h2.next hb, h3⟩
theorem Vec.nextW {w w' : World} {ao : Option Addr} {n cap : Nat} {F : V} (h : Vec RatW w ao n cap F) (hb : Below w.heap.size w w') : Vec RatW w' ao n cap F := by
  obtain ⟨h1, h2, h3, h4⟩ := h
  refine ⟨h1, h2, h3, fun i hi => ?_⟩
  obtain ⟨b, o, e, s, xo, xn, xc, yo, yn, yc, ht, hr⟩ := h4 i hi
  exact ⟨b, o, e, s, xo, xn, xc, yo, yn, yc, ht.next hb, hr.next hb⟩

theorem spot_none {w : World} {a : Addr} {v : Value} (h : w.cell? a = some v) : a.spot = none := by
  cases hs : a.spot with
  | none => rfl
  | some s =>
    unfold World.cell? at h
    rw [hs] at h
    split at h <;> simp at h

section
variable {H : Type} {enc : TypeId × Value → H} {w : World} {base : Nat} {spare : Nat → Bool} {held : Bool}

theorem openVec {fuel : Nat} {cs : List Value} {x : DataW H × List MemPlace} (h : DataW.trod enc Try.prog w base spare held fuel 30 cs = some x) :
    ∃ (a : Option Addr) (n cap : Nat) (F : V), cs = [.slice a n cap] ∧ Vec RatW w a n cap F := by
  have c3 : Try.prog.cellsOf 39 = 3 := by kernel_rfl
  rcases open_slice Try.underlying30 h with ⟨hcs, _⟩ | ⟨a, len, cap, m, f, D, Pl, hcs, _, hl, hm, hmm, _, hx⟩
  · exact ⟨none, 0, 0, zeroV, hcs, Vec.nil _ _ _⟩
  · have hle : len ≤ m := by rw [hmm]; split <;> omega
    rw [c3] at hx
    have hel : ∀ i, i < len → ∃ q : Rat, ∃ b o, some a = some (⟨b, o, none⟩ : Addr) ∧ ∃ s xo xn xc yo yn yc, Tri w b (o + i * 3) s xo xn xc yo yn yc ∧ RatW w (.agg #[.bool s, .slice xo xn xc, .slice yo yn yc]) q := fun i hi => by
      obtain ⟨cs', h1, h2⟩ := hx i (by omega)
      obtain ⟨_, hlen, hat⟩ := World.cells?_some h1
      have h2' : DataW.trod enc Try.prog w base spare held f 39 cs'.toArray.toList = some (D i, Pl i) := by simpa using h2
      obtain ⟨neg, N, Dn, bo, m2, cap2, co, l, cap3, e, s1, s2, l1, l2, z1, z2⟩ := openRat h2'
      have e' : cs' = [.bool neg, .slice bo m2 cap2, .slice co l cap3] := by
        have := congrArg Array.toList e
        simpa using this
      subst e'
      have k0 := hat 0 (by decide)
      have k1 := hat 1 (by decide)
      have k2 := hat 2 (by decide)
      obtain ⟨b, o, sp⟩ := a
      have hsp : sp = none := by
        obtain ⟨cs0, g1, g2⟩ := hx 0 (by omega)
        obtain ⟨_, glen, gat⟩ := World.cells?_some g1
        have g0 := gat 0 (by decide)
        rw [List.getElem?_eq_getElem (by omega)] at g0
        have := spot_none g0
        simpa [Addr.add] using this
      subst hsp
      refine ⟨ratOf neg N Dn, b, o, rfl, neg, bo, m2, cap2, co, l, cap3, ⟨?_, ?_, ?_⟩, neg, N, Dn, bo, co, m2, cap2, l, cap3, rfl, s1, s2, l1, l2, z1, z2, rfl⟩
      · simpa [Addr.add_lit, Nat.add_assoc] using k0
      · simpa [Addr.add_lit, Nat.add_assoc] using k1
      · simpa [Addr.add_lit, Nat.add_assoc] using k2
    obtain ⟨F, hF⟩ := choose_lt hel
    exact ⟨some a, len, cap, F, hcs, hl, hm, fun e => (by cases e), hF⟩

theorem openMat {fuel : Nat} {cs : List Value} {x : DataW H × List MemPlace} (h : DataW.trod enc Try.prog w base spare held fuel 23 cs = some x) :
    ∃ (a : Option Addr) (m cap : Nat) (L : Nat → Nat) (F : Nat → V), cs = [.slice a m cap] ∧ Mat RatW w a m cap L F := by
  have c1 : Try.prog.cellsOf 30 = 1 := by kernel_rfl
  rcases open_slice1 Try.underlying23 c1 h with ⟨hcs, _⟩ | ⟨a, len, cap, m, f, W, D, Pl, hcs, _, hl, hm, hmm, _, hx⟩
  · exact ⟨none, 0, 0, fun _ => 0, fun _ => zeroV, hcs, Mat.nil _ _ _ _⟩
  · have hle : len ≤ m := by rw [hmm]; split <;> omega
    have hel : ∀ i, i < len → ∃ q : Nat × V, ∃ b o, some a = some (⟨b, o, none⟩ : Addr) ∧ ∃ ro rc, w.cell? ⟨b, o + i, none⟩ = some (.slice ro q.1 rc) ∧ Vec RatW w ro q.1 rc q.2 := fun i hi => by
      obtain ⟨h1, h2⟩ := hx i (by omega)
      obtain ⟨ro, n, rc, G, e, hv⟩ := openVec h2
      injection e with e
      rw [e] at h1
      obtain ⟨b, o, sp⟩ := a
      have hsp : sp = none := by
        have := spot_none (hx 0 (by omega)).1
        simpa [Addr.add] using this
      subst hsp
      exact ⟨(n, G), b, o, rfl, ro, rc, by simpa [Addr.add_lit] using h1, hv⟩
    obtain ⟨Q, hQ⟩ := choose_lt hel
    exact ⟨some a, len, cap, fun i => (Q i).1, fun i => (Q i).2, hcs, hl, hm, fun e => (by cases e), hQ⟩
end

end Go.Proofs.Ytcoidofchofljaa

/-
  The contracts of the statements' short and light; what both packages return, as one. No condition but sizes.
-/
import Derived.Test.YtcoidofchofljaaOpenV
import Derived.Test.YtcoidofchofljaaRatU
import Derived.Test.YtcoidofchofljaaLwe
import Derived.Test.YtcoidofchofljaaRrv
namespace Go.Proofs.Ytcoidofchofljaa
open Go.RowKit
set_option linter.unusedSimpArgs false
set_option linter.unusedVariables false

/-- The number i of a vector is short. -/
def ShortAt (w : World) (ao : Option Addr) (F : V) (i : Nat) : Prop :=
  (∃ b o, ao = some ⟨b, o, none⟩ ∧ ∃ s xo xn xc yo yn yc, Tri w b (o + i * 3) s xo xn xc yo yn yc ∧ RatV w (.agg #[.bool s, .slice xo xn xc, .slice yo yn yc]) (F i)) ∧ Fit 2 (F i)

theorem Sl.mostN {w : World} {ao : Option Addr} {n cap : Nat} {xs : List Value} (h : Sl w ao n cap xs) : n ≤ 9223372036854775807 := h.bound

set_option maxHeartbeats 2000000 in
theorem short_any (ao : Option Addr) (n cap : Nat) (F : V) (w : World) (h : Vec RatW w ao n cap F) :
    Calls Try.prog 21 #[.slice ao n cap] w fun e w' => ∃ c, e = .returned (.bool c) ∧ (c = true → n ≤ 6 ∧ Vec RatV w ao n cap F ∧ ∀ i, i < n → Fit 2 (F i)) ∧ Below w.heap.size w w' := by
  have hb := h.bound
  by_cases h6 : 6 < n
  · go_enter Try.func21, Try.ntmps21
    go_wp2_with fail
    go_ret
    exact ⟨false, rfl, fun e => (by cases e), Below.refl _ _⟩
  · go_enter Try.func21, Try.ntmps21
    go_wp2_with fail
    go_loopw [3] (fun iv wr => ∃ i : Nat, i ≤ n ∧ iv = .int .i64 i ∧ Hid (∀ j, j < i → ShortAt w ao F j) ∧ Below w.heap.size w wr) (fun i _ => n - (intOf i).toNat)
    case atStart => exact ⟨0, by omega, rfl, hid (fun j hj => by omega), Below.refl _ _⟩
    case round =>
      obtain ⟨i, hi, rfl, hsh, hbel⟩ := hrel
      by_cases hlt : i < n
      · obtain ⟨b, o, eao, s, xo, xn, xc, yo, yn, yc, ⟨t1, t2, t3⟩, hr⟩ := h.2.2.2 i hlt
        obtain ⟨neg, N, D, po, qo, pn, pc, qn, qc, ev, s1, s2, l1, l2, z1, z2, hq⟩ := hr
        simp only [Value.agg.injEq, Array.mk.injEq, List.cons.injEq, Value.bool.injEq, Value.slice.injEq, and_true] at ev
        obtain ⟨rfl, ⟨rfl, rfl, rfl⟩, rfl, rfl, rfl⟩ := ev
        have u1 : wr.cell? ⟨b, o + i * 3, none⟩ = some (.bool s) := ((bcell hbel).1 _ _ (World.block_lt_of_cell? _ _ t1)).trans t1
        have u2 : wr.cell? ⟨b, o + i * 3 + 1, none⟩ = some (.slice xo xn xc) := ((bcell hbel).1 _ _ (World.block_lt_of_cell? _ _ t2)).trans t2
        have u3 : wr.cell? ⟨b, o + i * 3 + 2, none⟩ = some (.slice yo yn yc) := ((bcell hbel).1 _ _ (World.block_lt_of_cell? _ _ t3)).trans t3
        have hat : Hid (xn ≤ 2 → yn ≤ 2 → ShortAt w ao F i) := hid (fun k1 k2 => by
          have e1 : N.length = xn := by have := s1.len; simpa [u32s] using this
          have e2 : D.length = yn := by have := s2.len; simpa [u32s] using this
          refine ⟨⟨b, o, eao, s, xo, xn, xc, yo, yn, yc, ⟨t1, t2, t3⟩, s, N, D, xo, yo, xn, xc, yn, yc, rfl, s1, s2, l1, l2, z1, z2, by omega, by omega, hq⟩, ?_⟩
          rw [← hq]; exact ratOf_fit l1 l2 (by omega) (by omega) (by decide))
        have hxb := s1.bound
        have hyb := s2.bound
        subst eao
        clear t1 t2 t3 s1 s2 l1 l2 z1 z2 hq
        obtain ⟨cc, hcc⟩ : ∃ cc, (decide ((xn : Int) ≤ 2) && decide ((yn : Int) ≤ 2)) = cc := ⟨_, rfl⟩
        have Hcc := hid hcc
        clear hcc
        go_wp2_with fail
        refine (rLight_any s xo yo xn xc yn yc 2 hxb hyb _).mono ?_; rw [Hcc.out]; rintro e w2 ⟨rfl, hb2⟩
        have hbel2 := below_chain hbel hb2
        cases cc with
        | false =>
          go_wp2_with fail
          go_ret
          exact ⟨false, rfl, fun e => (by cases e), hbel2⟩
        | true =>
          have hsh2 : Hid (∀ j, j < i + 1 → ShortAt w (some ⟨b, o, none⟩) F j) := hid (fun j hj => by
            rcases Nat.lt_succ_iff_lt_or_eq.1 hj with h1 | h1
            · exact hsh.out j h1
            · rw [h1]
              have := Hcc.out
              simp only [Bool.and_eq_true, decide_eq_true_eq] at this
              exact hat.out (by omega) (by omega))
          go_wp2_with fail
          go_roundw
          case rel => exact ⟨i + 1, by omega, by go_num, hsh2, hbel2⟩
          case measure => simp [intOf]; omega
      · obtain rfl : i = n := by omega
        go_wp2_with fail
        go_ret
        exact ⟨true, rfl, fun _ => ⟨by omega, ⟨h.1, h.2.1, h.2.2.1, fun j hj => (hsh.out j hj).1⟩, fun j hj => (hsh.out j hj).2⟩, hbel⟩

/-- The vector i of a list is short. -/
def RowAt (w : World) (ao : Option Addr) (L : Nat → Nat) (F : Nat → V) (i : Nat) : Prop :=
  (∃ b o, ao = some ⟨b, o, none⟩ ∧ ∃ ro rc, w.cell? ⟨b, o + i, none⟩ = some (.slice ro (L i) rc) ∧ Vec RatV w ro (L i) rc (F i)) ∧ L i ≤ 6 ∧ ∀ j, j < L i → Fit 2 (F i j)

theorem Vec.low {R : World → Value → Rat → Prop} {w w' : World} {ao : Option Addr} {n cap : Nat} {F : V} : True := trivial

set_option maxHeartbeats 2000000 in
theorem light_any (ao : Option Addr) (m cap : Nat) (L : Nat → Nat) (F : Nat → V) (w : World) (h : Mat RatW w ao m cap L F) :
    Calls Try.prog 20 #[.slice ao m cap] w fun e w' => ∃ c, e = .returned (.bool c) ∧ (c = true → m ≤ 6 ∧ Mat RatV w' ao m cap L F ∧ (∀ i, i < m → L i ≤ 6) ∧ ∀ i, i < m → ∀ j, j < L i → Fit 2 (F i j)) ∧ Below w.heap.size w w' := by
  have hb := h.bound
  by_cases h6 : 6 < m
  · go_enter Try.func20, Try.ntmps20
    go_wp2_with fail
    go_ret
    exact ⟨false, rfl, fun e => (by cases e), Below.refl _ _⟩
  · go_enter Try.func20, Try.ntmps20
    go_wp2_with fail
    go_loopw [3] (fun iv wr => ∃ i : Nat, i ≤ m ∧ iv = .int .i64 i ∧ Hid (∀ j, j < i → RowAt wr ao L F j) ∧ Below w.heap.size w wr) (fun i _ => m - (intOf i).toNat)
    case atStart => exact ⟨0, by omega, rfl, hid (fun j hj => by omega), Below.refl _ _⟩
    case round =>
      obtain ⟨i, hi, rfl, hsh, hbel⟩ := hrel
      by_cases hlt : i < m
      · obtain ⟨b, o, rfl, ro, rc, t1, hv⟩ := h.get hlt
        have u1 : wr.cell? ⟨b, o + i, none⟩ = some (.slice ro (L i) rc) := ((bcell hbel).1 _ _ (World.block_lt_of_cell? _ _ t1)).trans t1
        have hv1 := hv.nextW hbel
        obtain ⟨li, hli⟩ : ∃ li, L i = li := ⟨_, rfl⟩
        have u2 := hid u1
        rw [hli] at u1 hv1
        have Hli := hid hli
        have hvb := hv1.bound
        clear hli t1 hv
        go_wp2_with fail
        refine (short_any ro li rc (F i) _ hv1).mono ?_; rintro e w2 ⟨c, rfl, hc, hb2⟩
        have hbel2 := below_chain hbel hb2
        have Hc := hid hc
        clear hc
        cases c with
        | false =>
          go_wp2_with fail
          go_ret
          exact ⟨false, rfl, fun e => (by cases e), hbel2⟩
        | true =>
          have hsh2 : Hid (∀ j, j < i + 1 → RowAt w2 (some ⟨b, o, none⟩) L F j) := hid (fun j hj => by
            rcases Nat.lt_succ_iff_lt_or_eq.1 hj with h1 | h1
            · obtain ⟨⟨b', o', e', ro', rc', c1, c2⟩, c3, c4⟩ := hsh.out j h1
              exact ⟨⟨b', o', e', ro', rc', ((bcell hb2).1 _ _ (World.block_lt_of_cell? _ _ c1)).trans c1, c2.nextV hb2⟩, c3, c4⟩
            · subst h1
              obtain ⟨k1, k2, k3⟩ := Hc.out rfl
              refine ⟨⟨b, o, rfl, ro, rc, ((bcell hb2).1 _ _ (World.block_lt_of_cell? _ _ u2.out)).trans u2.out, ?_⟩, by rw [Hli.out]; exact k1, by rw [Hli.out]; exact k3⟩
              rw [Hli.out]; exact k2.nextV hb2)
          go_wp2_with fail
          go_roundw
          case rel => exact ⟨i + 1, by omega, by go_num, hsh2, hbel2⟩
          case measure => simp [intOf]; omega
      · obtain rfl : i = m := by omega
        go_wp2_with fail
        go_ret
        exact ⟨true, rfl, fun _ => ⟨by omega, ⟨h.1, h.2.1, h.2.2.1, fun j hj => (hsh.out j hj).1⟩, fun j hj => (hsh.out j hj).2.1, fun j hj => (hsh.out j hj).2.2⟩, hbel⟩

end Go.Proofs.Ytcoidofchofljaa

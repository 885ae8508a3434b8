/-
  The contracts of the reference's Valid, check, Coordinates and Insert. No condition but sizes.
-/
import Derived.Test.YtcoidofchofljaaRrs
import Derived.Test.YtcoidofchofljaaBat
namespace Go.Proofs.Ytcoidofchofljaa
open Go.RowKit
set_option linter.unusedSimpArgs false
set_option linter.unusedVariables false

theorem basisB_of {m : Nat} {L : Nat → Nat} {F : Nat → V} {st : List Row} (h1 : OkL m L) (h2 : rowsK (L 0) F m = some st) : basisB m L F = true := by
  unfold basisB; simp [h1, h2]
theorem basisB_no {m : Nat} {L : Nat → Nat} {F : Nat → V} (h : OkL m L → rowsK (L 0) F m = none) : basisB m L F = false := by
  unfold basisB
  rw [decide_eq_false_iff_not]
  rintro ⟨h1, h2⟩
  rw [h h1] at h2
  cases h2

section
variable (K : Nat) (ao : Option Addr) (m cap : Nat) (L : Nat → Nat) (F : Nat → V)

set_option maxHeartbeats 1000000 in
theorem rValidB_any (w : World) (h : Mat RatV w ao m cap L F) (hm : m ≤ 64) (hL : ∀ i, i < m → L i ≤ 100000) (hK : 1 ≤ K) (hF : ∀ i, i < m → ∀ j, j < L i → Fit K (F i j)) (hbig : lv K m ≤ 500000) :
    Calls Try.prog 15 #[.slice ao m cap] w fun e w' => e = .returned (.bool (basisB m L F)) ∧ Below w.heap.size w w' := by
  have hmb := h.bound
  by_cases hok : OkL m L
  · have hL2 : ∀ i, i < m → L i = L 0 := fun i hi => (hok i hi).2
    have h2 := h.lens (L' := fun _ => L 0) hL2
    have hn : L 0 ≤ 1000 ∨ m = 0 := by
      by_cases h0 : m = 0
      · exact .inr h0
      · exact .inl (by have := (hok 0 (by omega)).1; omega)
    obtain ⟨n, hnL⟩ : ∃ n, (if m = 0 then 0 else L 0) = n := ⟨_, rfl⟩
    have hn1 : n ≤ 1000 := by
      rw [← hnL]; split
      · omega
      · rcases hn with h | h
        · exact h
        · omega
    have h3 : Mat RatV w ao m cap (fun _ => n) F := h2.lens fun i hi => by rw [← hnL, if_neg (by omega)]
    have hF3 : ∀ i, i < m → ∀ j, j < n → Fit K (F i j) := fun i hi j hj => hF i hi j (by rw [hL2 i hi]; rw [← hnL, if_neg (by omega)] at hj; exact hj)
    have hrw : rowsK (L 0) F m = none ↔ rowsK n F m = none := by
      by_cases h0 : m = 0
      · subst h0; simp [rowsK]
      · rw [← hnL, if_neg h0]
    have hsz := hid (sized_any RatV ao m cap L F w h hL)
    rw [okB_true hok] at hsz
    have hrows := hid (fun q => rows_any K ao m cap n F (w.drewN q) (h3.nextV (below_drewNs q)) (by omega) hn1 hK hF3 hbig)
    have Hok := hid hok
    have Hrw := hid hrw
    clear hok hL2 hF hL hF3 hrw hnL hn
    go_enter Try.func15, Try.ntmps15
    go_wp2_with fail
    refine hsz.out.mono ?_; rintro e w1 ⟨rfl, q, rfl⟩
    go_wp2_with fail
    refine (hrows.out q).mono ?_; rintro e w2 (⟨st, v, hr, rfl, _, hb⟩ | ⟨hr, rfl, hb⟩)
    · have Hr := hid hr
      clear hr
      have hbel : Below w.heap.size w w2 := (below_drewNs q).trans hb
      go_wp2_with fail
      go_ret
      refine ⟨retB ?_, hbel⟩
      cases hc : rowsK (L 0) F m with
      | none => rw [Hrw.out.1 hc] at Hr; cases Hr.out
      | some st' => exact (basisB_of Hok.out hc).symm
    · have Hr := hid hr
      clear hr
      have hbel : Below w.heap.size w w2 := (below_drewNs q).trans hb
      go_wp2_with fail
      go_ret
      exact ⟨retB (basisB_no fun _ => Hrw.out.2 Hr.out).symm, hbel⟩
  · have hsz := hid (sized_any RatV ao m cap L F w h hL)
    rw [okB_false hok] at hsz
    have hres := hid (basisB_no (m := m) (L := L) (F := F) fun h => absurd h hok)
    clear hok hF hL
    go_enter Try.func15, Try.ntmps15
    go_wp2_with fail
    refine hsz.out.mono ?_; rintro e w1 ⟨rfl, q, rfl⟩
    go_wp2_with fail
    go_ret
    exact ⟨retB hres.out.symm, below_drewNs q⟩

/-- What check returns. -/
noncomputable def chkI (n : Nat) : Int := if basisB m L F then (if fitsB m L n then 0 else 1) else 4

set_option maxHeartbeats 1000000 in
theorem check_any (bo : Option Addr) (n cap' : Nat) (w : World) (h : Mat RatV w ao m cap L F) (hm : m ≤ 64) (hL : ∀ i, i < m → L i ≤ 100000) (hn : n ≤ 9223372036854775807) (hK : 1 ≤ K) (hF : ∀ i, i < m → ∀ j, j < L i → Fit K (F i j)) (hbig : lv K m ≤ 500000) :
    Calls Try.prog 41 #[.slice ao m cap, .slice bo n cap'] w fun e w' => e = .returned (.int .i64 (chkI m L F n)) ∧ Below w.heap.size w w' := by
  have hval := hid (rValidB_any K ao m cap L F w h hm hL hK hF hbig)
  have h0 : Hid (0 < m → L 0 ≤ 100000 ∧ ∃ b o, ao = some ⟨b, o, none⟩ ∧ ∃ ro rc, w.cell? ⟨b, o, none⟩ = some (.slice ro (L 0) rc)) := hid (fun hm0 => by
    obtain ⟨b, o, e, ro, rc, hc, _⟩ := h.get hm0
    exact ⟨hL 0 hm0, b, o, e, ro, rc, hc⟩)
  clear hL hF
  cases hb : basisB m L F with
  | false =>
    have hres : Hid (chkI m L F n = 4) := hid (by unfold chkI; rw [hb]; rfl)
    rw [hb] at hval
    clear hb
    go_enter Try.func41, Try.ntmps41
    go_wp2_with fail
    refine hval.out.mono ?_; rintro e w1 ⟨rfl, hb1⟩
    go_wp2_with fail
    go_ret
    exact ⟨retI hres.out.symm, hb1⟩
  | true =>
    rw [hb] at hval
    obtain ⟨l, hl⟩ : ∃ l, L 0 = l := ⟨_, rfl⟩
    have hres : Hid (chkI m L F n = if ((1 ≤ n ∧ n ≤ 64) ∧ (m = 0 ∨ n = l)) then 0 else 1) := hid (by unfold chkI fitsB; rw [hb, hl]; simp)
    rw [hl] at h0
    clear hb hl
    by_cases h1 : n < 1
    · have c1 : decide (n < 1) = true := decide_eq_true h1
      have c2 : decide ((n : Int) < 1) = true := decide_eq_true (by omega)
      go_enter Try.func41, Try.ntmps41
      go_wp2_with fail
      refine hval.out.mono ?_; rintro e w1 ⟨rfl, hb1⟩
      go_wp2_with fail
      go_ret
      exact ⟨retI (by rw [hres.out, if_neg (by omega)]), hb1⟩
    · have c1 : decide (n < 1) = false := decide_eq_false h1
      have c2 : decide ((n : Int) < 1) = false := decide_eq_false (by omega)
      by_cases h2 : 64 < n
      · have c3 : decide (64 < n) = true := decide_eq_true h2
        have c4 : decide ((64 : Int) < (n : Int)) = true := decide_eq_true (by omega)
        go_enter Try.func41, Try.ntmps41
        go_wp2_with fail
        refine hval.out.mono ?_; rintro e w1 ⟨rfl, hb1⟩
        go_wp2_with fail
        go_ret
        exact ⟨retI (by rw [hres.out, if_neg (by omega)]), hb1⟩
      · have c3 : decide (64 < n) = false := decide_eq_false h2
        have c4 : decide ((64 : Int) < (n : Int)) = false := decide_eq_false (by omega)
        by_cases h3 : m = 0
        · subst h3
          go_enter Try.func41, Try.ntmps41
          go_wp2_with fail
          refine hval.out.mono ?_; rintro e w1 ⟨rfl, hb1⟩
          go_wp2_with fail
          go_ret
          exact ⟨retI (by rw [hres.out, if_pos ⟨⟨by omega, by omega⟩, .inl (by simp)⟩]), hb1⟩
        · have h3' : 0 < m := by omega
          have c5 : decide (0 < m) = true := decide_eq_true h3'
          have c6 : decide ((0 : Int) < (m : Int)) = true := decide_eq_true (by omega)
          obtain ⟨hl1, b, o, rfl, ro, rc, hc⟩ := h0.out h3'
          by_cases h4 : n = l
          · subst h4
            have c7 : ((n : Int) != (n : Int)) = false := by simp
            go_enter Try.func41, Try.ntmps41
            go_wp2_with fail
            refine hval.out.mono ?_; rintro e w1 ⟨rfl, hb1⟩
            have hc1 : w1.cell? ⟨b, o, none⟩ = some (.slice ro n rc) := ((bcell hb1).1 _ _ (World.block_lt_of_cell? _ _ hc)).trans hc
            go_wp2_with fail
            go_ret
            exact ⟨retI (by rw [hres.out, if_pos ⟨⟨by omega, by omega⟩, .inr (by simp)⟩]), hb1⟩
          · have c7 : ((n : Int) != (l : Int)) = true := by rw [bne_iff_ne]; omega
            go_enter Try.func41, Try.ntmps41
            go_wp2_with fail
            refine hval.out.mono ?_; rintro e w1 ⟨rfl, hb1⟩
            have hc1 : w1.cell? ⟨b, o, none⟩ = some (.slice ro l rc) := ((bcell hb1).1 _ _ (World.block_lt_of_cell? _ _ hc)).trans hc
            go_wp2_with fail
            go_ret
            exact ⟨retI (by rw [hres.out, if_neg (by rintro ⟨_, h | h⟩ <;> omega)]), hb1⟩
end

end Go.Proofs.Ytcoidofchofljaa

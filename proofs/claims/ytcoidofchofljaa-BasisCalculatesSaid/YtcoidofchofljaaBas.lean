/-
  The contracts of basis.space, Valid and fits. No condition but sizes.
-/
import Derived.Test.YtcoidofchofljaaSpd
namespace Go.Proofs.Ytcoidofchofljaa
open Go.RowKit
set_option linter.unusedSimpArgs false
set_option linter.unusedVariables false

/-- The rows of the first k vectors, if these are independent. -/
def rowsK (n : Nat) (F : Nat → V) : Nat → Option (List Row)
  | 0 => some []
  | k + 1 => (rowsK n F k).bind fun st => (addV n st (F k)).map fun r => st ++ [r]
theorem rowsK_some {n : Nat} {F : Nat → V} {k : Nat} {st : List Row} {r : Row} (h : rowsK n F k = some st) (ha : addV n st (F k) = some r) : rowsK n F (k + 1) = some (st ++ [r]) := by
  simp [rowsK, h, ha]
theorem rowsK_none {n : Nat} {F : Nat → V} {k : Nat} {st : List Row} (h : rowsK n F k = some st) (ha : addV n st (F k) = none) : rowsK n F (k + 1) = none := by
  simp [rowsK, h, ha]
theorem rowsK_none_up {n : Nat} {F : Nat → V} {k : Nat} (h : rowsK n F k = none) : ∀ m, k ≤ m → rowsK n F m = none := by
  intro m hm
  induction m with
  | zero => obtain rfl : k = 0 := by omega
            exact h
  | succ m ih =>
    rcases Nat.lt_or_ge k (m + 1) with h' | h'
    · simp [rowsK, ih (by omega)]
    · obtain rfl : k = m + 1 := by omega
      exact h
theorem rowsK_len {n : Nat} {F : Nat → V} : ∀ {k : Nat} {st : List Row}, rowsK n F k = some st → st.length = k := by
  intro k
  induction k with
  | zero => intro st h; simp [rowsK] at h; subst h; rfl
  | succ k ih =>
    intro st h
    simp only [rowsK, Option.bind_eq_some_iff, Option.map_eq_some_iff] at h
    obtain ⟨s, hs, r, hr, rfl⟩ := h
    simp [ih hs]

/-- The vectors have one length, from 1 to 64. -/
def OkL (m : Nat) (L : Nat → Nat) : Prop := ∀ i, i < m → (1 ≤ L i ∧ L i ≤ 64) ∧ L i = L 0

/-- What space returns. -/
def SpOut (K : Nat) (w : World) (m : Nat) (L : Nat → Nat) (F : Nat → V) (e : Ending) (w' : World) : Prop :=
  (∃ P T st, (OkL m L ∧ rowsK (L 0) F m = some st) ∧ e = .returned (.tuple #[.pointer (some ⟨P, 0, none⟩), .bool true]) ∧ Sp w' w.heap.size P T (L 0) st ∧ RFit K (L 0) st ∧ Below w.heap.size w w') ∨
  ((OkL m L → rowsK (L 0) F m = none) ∧ e = .returned (.tuple #[.pointer none, .bool false]) ∧ Below w.heap.size w w')

set_option maxHeartbeats 4000000 in
theorem space_any (K : Nat) (ao : Option Addr) (m cap : Nat) (L : Nat → Nat) (F : Nat → V) (w : World) (h : Mat RatV w ao m cap L F) (hm : m ≤ 1000) (hL : ∀ i, i < m → L i ≤ 100000) (hK : 1 ≤ K) (hF : ∀ i, i < m → ∀ j, j < L i → Fit K (F i j)) (hbig : lv K m ≤ 1000000) :
    Calls Try.prog 28 #[.slice ao m cap] w (SpOut K w m L F) := by
  have HF := hid hF
  have HL := hid hL
  clear hF hL
  have hbig2 : ∀ k, k ≤ m → lv K k ≤ 1000000 := fun k hk => Nat.le_trans (lv_le hk) hbig
  have Hbig := hid hbig2
  clear hbig2
  have h0 : Hid (0 < m → ∃ b o, ao = some ⟨b, o, none⟩ ∧ ∃ ro rc, w.cell? ⟨b, o, none⟩ = some (.slice ro (L 0) rc)) := hid (fun hm0 => by
    obtain ⟨b, o, e, ro, rc, hc, _⟩ := h.get hm0
    exact ⟨b, o, e, ro, rc, hc⟩)
  obtain ⟨n, hn⟩ : ∃ n, L 0 = n := ⟨_, rfl⟩
  have Hn := hid hn
  rw [hn] at h0
  clear hn
  go_enter Try.func28, Try.ntmps28
  go_wp2_with fail
  have hs0 := Sp.start (Nat.le_refl w.heap.size) n
  have hb0 : Below w.heap.size w (w.alloc (.cells #[.slice none 0 0, .slice none 0 0, .slice none 0 0] 52)) := below_alloc _
  go_loopw [11] (fun iv wr => ∃ (k : Nat) (st : List Row) (T : Nat → Prop), k ≤ m ∧ iv = .int .i64 k ∧ Hid (OkL k L) ∧ Hid (rowsK n F k = some st) ∧ Sp wr w.heap.size w.heap.size T n st ∧ Hid (RFit K n st) ∧ Below w.heap.size w wr) (fun i _ => m - (intOf i).toNat)
  case atStart => exact ⟨0, [], _, by omega, rfl, hid (fun i hi => by omega), hid rfl, hs0, hid (RFit.nil K n), hb0⟩
  case round =>
    clear hs0 hb0
    obtain ⟨k, st, T, hk, rfl, hok, hrows, hsp, hfit, hbel⟩ := hrel
    by_cases hlt : k < m
    · obtain ⟨b, o, rfl, ro, rc, hcell, hv⟩ := (h.nextV hbel).get hlt
      obtain ⟨b', o', eb, ro', rc', hcell0⟩ := h0.out (by omega)
      injection eb with eb
      injection eb with eb1 eb2
      subst eb1 eb2
      have hc0 : wr.cell? ⟨b, o, none⟩ = some (.slice ro' n rc') := (World.cell?_of_block (hbel.block b (World.block_lt_of_cell? w _ hcell0))).trans hcell0
      have hlen := rowsK_len hrows.out
      have Hlen := hid hlen
      clear hlen
      obtain ⟨lk, hlk⟩ : ∃ lk, L k = lk := ⟨_, rfl⟩
      have hlk1 := HL.out k hlt
      rw [hlk] at hcell hv hlk1
      have Hlk := hid hlk
      clear hlk
      by_cases hside : 1 ≤ lk ∧ lk ≤ 64
      · have hsd : decide (1 ≤ lk ∧ lk ≤ 64) = true := decide_eq_true hside
        by_cases hln : lk = n
        · subst hln
          have hne : ((lk : Int) != (lk : Int)) = false := by simp
          have hFk := HF.out k hlt
          rw [Hlk.out] at hFk
          have hfk := hid hFk
          clear hFk
          have hbk := Hbig.out k hk
          rw [← Hlen.out] at hbk
          have hst : st.length ≤ 1000 := by rw [Hlen.out]; omega
          have hsz : w.heap.size ≤ wr.heap.size := hbel.size
          cases hadd : addV lk st (F k) with
          | none =>
            have hno := hid (rowsK_none hrows.out hadd)
            have Hadd := hid hadd
            clear hadd
            go_wp2_with fail
            refine (side_any lk (by omega) _).mono ?_; rw [hsd]; rintro e w1 ⟨rfl, rfl⟩
            go_wp2_with fail
            refine (add_no w.heap.size w.heap.size lk K T st (F k) ro rc _ hsp hv (by omega) hK hfk.out hfit.out hst hbk Hadd.out).mono ?_; rintro e w2 ⟨rfl, hb2⟩
            have hbel2 := below_chain hbel hb2
            go_wp2_with fail
            go_ret2
            refine .inr ⟨fun _ => ?_, rfl, hbel2⟩
            rw [Hn.out]
            exact rowsK_none_up hno.out m hlt
          | some r =>
            have hyes := hid (rowsK_some hrows.out hadd)
            have hfit2 := hid (hfit.out.snoc hK hfk.out hadd)
            have Hadd := hid hadd
            clear hadd
            go_wp2_with fail
            refine (side_any lk (by omega) _).mono ?_; rw [hsd]; rintro e w1 ⟨rfl, rfl⟩
            go_wp2_with fail
            refine (add_yes w.heap.size w.heap.size lk K T st (F k) ro rc _ hsp hv (by omega) hK hfk.out hfit.out hst hbk Hadd.out).mono ?_; rintro e w2 ⟨rfl, T', hsp2, _, hfr⟩
            have hbel2 : Below w.heap.size w w2 := hbel.trans (hfr.below (fun b hb => (hsp.range hb).1) hsz)
            have hok2 : Hid (OkL (k + 1) L) := hid (fun i hi => by
              rcases Nat.lt_succ_iff_lt_or_eq.1 hi with h1 | h1
              · exact hok.out i h1
              · rw [h1, Hlk.out, Hn.out]; exact ⟨hside, rfl⟩)
            clear hsp hfr hv
            go_wp2_with fail
            go_roundw
            case rel => exact ⟨k + 1, _, _, by omega, by go_num, hok2, hyes, hsp2, hfit2, hbel2⟩
            case measure => simp [intOf]; omega
        · have hne : ((lk : Int) != (n : Int)) = true := by rw [bne_iff_ne]; omega
          go_wp2_with fail
          refine (side_any lk (by omega) _).mono ?_; rw [hsd]; rintro e w1 ⟨rfl, rfl⟩
          go_wp2_with fail
          go_ret2
          refine .inr ⟨fun hall => ?_, rfl, hbel⟩
          exact absurd ((Hlk.out.symm.trans (hall k hlt).2).trans Hn.out) hln
      · have hsd : decide (1 ≤ lk ∧ lk ≤ 64) = false := decide_eq_false hside
        go_wp2_with fail
        refine (side_any lk (by omega) _).mono ?_; rw [hsd]; rintro e w1 ⟨rfl, rfl⟩
        go_wp2_with fail
        go_ret2
        refine .inr ⟨fun hall => ?_, rfl, hbel⟩
        exact absurd (Hlk.out ▸ (hall k hlt).1) hside
    · obtain rfl : k = m := by omega
      go_wp2_with fail
      go_ret2
      refine .inl ⟨w.heap.size, T, st, ⟨hok.out, ?_⟩, rfl, ?_, ?_, hbel⟩
      · rw [Hn.out]; exact hrows.out
      · rw [Hn.out]; exact hsp
      · rw [Hn.out]; exact hfit.out

/-- Whether the vectors are a basis. -/
noncomputable def basisB (m : Nat) (L : Nat → Nat) (F : Nat → V) : Bool := open Classical in decide (OkL m L ∧ (rowsK (L 0) F m).isSome = true)

theorem Valid_basis (K : Nat) (ao : Option Addr) (m cap : Nat) (L : Nat → Nat) (F : Nat → V) (w : World) (h : Mat RatV w ao m cap L F) (hm : m ≤ 1000) (hL : ∀ i, i < m → L i ≤ 100000) (hK : 1 ≤ K) (hF : ∀ i, i < m → ∀ j, j < L i → Fit K (F i j)) (hbig : lv K m ≤ 1000000) :
    Calls Try.prog 9 #[.slice ao m cap] w fun e w' => e = .returned (.bool (basisB m L F)) ∧ Below w.heap.size w w' := by
  have hsp := hid (space_any K ao m cap L F w h hm hL hK hF hbig)
  obtain ⟨B, hB⟩ : ∃ B, basisB m L F = B := ⟨_, rfl⟩
  have HB := hid hB
  rw [hB]
  clear hB hF hL
  go_enter Try.func9, Try.ntmps9
  go_wp2_with fail
  refine hsp.out.mono ?_; rintro e w1 (⟨P, T, st, hst, rfl, _, _, hb⟩ | ⟨hno, rfl, hb⟩)
  · have Hst := hid hst
    clear hst
    go_wp2_with fail
    go_ret
    refine ⟨retB ?_, hb⟩
    rw [← HB.out]
    unfold basisB
    simp [Hst.out.1, Hst.out.2]
  · have Hno := hid hno
    clear hno
    go_wp2_with fail
    go_ret
    refine ⟨retB ?_, hb⟩
    rw [← HB.out]
    unfold basisB
    rw [eq_comm, decide_eq_false_iff_not]
    rintro ⟨h1, h2⟩
    rw [Hno.out h1] at h2
    cases h2

/-- Whether a vector can be asked of a basis. -/
noncomputable def fitsB (m : Nat) (L : Nat → Nat) (n : Nat) : Bool := decide ((1 ≤ n ∧ n ≤ 64) ∧ (m = 0 ∨ n = L 0))

theorem fits_any (R : World → Value → Rat → Prop) (ao : Option Addr) (m cap : Nat) (L : Nat → Nat) (F : Nat → V) (bo : Option Addr) (n cap' : Nat) (w : World) (h : Mat R w ao m cap L F) (hn : n ≤ 9223372036854775807) (hL : L 0 ≤ 9223372036854775807) :
    Calls Try.prog 29 #[.slice ao m cap, .slice bo n cap'] w fun e w' => e = .returned (.bool (fitsB m L n)) ∧ w = w' := by
  have hm := h.bound
  have h0 : Hid (0 < m → ∃ b o, ao = some ⟨b, o, none⟩ ∧ ∃ ro rc, w.cell? ⟨b, o, none⟩ = some (.slice ro (L 0) rc)) := hid (fun hm0 => by
    obtain ⟨b, o, e, ro, rc, hc, _⟩ := h.get hm0
    exact ⟨b, o, e, ro, rc, hc⟩)
  obtain ⟨l, hl⟩ : ∃ l, L 0 = l := ⟨_, rfl⟩
  have hres : Hid (fitsB m L n = decide ((1 ≤ n ∧ n ≤ 64) ∧ (m = 0 ∨ n = l))) := hid (by unfold fitsB; rw [hl])
  rw [hl] at h0 hL
  clear hl
  by_cases hside : 1 ≤ n ∧ n ≤ 64
  · have hsd : decide (1 ≤ n ∧ n ≤ 64) = true := decide_eq_true hside
    by_cases hm0 : m = 0
    · subst hm0
      go_enter Try.func29, Try.ntmps29
      go_wp2_with fail
      refine (side_any n (by omega) _).mono ?_; rw [hsd]; rintro e w1 ⟨rfl, rfl⟩
      go_wp2_with fail
      go_ret
      exact ⟨retB (by rw [hres.out]; simp [hside]), rfl⟩
    · obtain ⟨b, o, rfl, ro, rc, hc⟩ := h0.out (by omega)
      have hm1 : ((m : Int) == 0) = false := by rw [beq_eq_false_iff_ne]; omega
      have hm2 : 0 < m := by omega
      go_enter Try.func29, Try.ntmps29
      go_wp2_with fail
      refine (side_any n (by omega) _).mono ?_; rw [hsd]; rintro e w1 ⟨rfl, rfl⟩
      go_wp2_with fail
      go_ret
      refine ⟨retB ?_, rfl⟩
      rw [hres.out, Bool.eq_iff_iff]
      simp [hside, hm0]
      try omega
  · have hsd : decide (1 ≤ n ∧ n ≤ 64) = false := decide_eq_false hside
    go_enter Try.func29, Try.ntmps29
    go_wp2_with fail
    refine (side_any n (by omega) _).mono ?_; rw [hsd]; rintro e w1 ⟨rfl, rfl⟩
    go_wp2_with fail
    go_ret
    exact ⟨retB (by rw [hres.out]; exact (decide_eq_false fun h => hside h.1).symm), rfl⟩

end Go.Proofs.Ytcoidofchofljaa

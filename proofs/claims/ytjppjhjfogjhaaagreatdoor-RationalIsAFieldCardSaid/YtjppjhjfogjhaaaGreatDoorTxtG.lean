/-
  The contract of the reference's Format. No condition but sizes.
-/
import Derived.Test.YtjppjhjfogjhaaaGreatDoorTxtF
namespace Go.Proofs.YtjppjhjfogjhaaaGreatDoor
open Go.RowKit Go.Lib
set_option linter.unusedSimpArgs false
set_option linter.unusedVariables false

set_option maxHeartbeats 2000000 in
theorem rFormat_any (q : Rat) (v : Value) (w : World) (h : RatV w v q) (k : Nat) (hq : Fit k q) (hk : k ≤ 16777216) :
    Calls Tryz.prog 21 #[v] w (StrOut w (fmtQ q)) := by
  obtain ⟨s, ao, n, cap, bo, m, cap', rfl⟩ := h.shape
  have hB := Bk.start (Below.refl w.heap.size w) rfl (.bool s) (.slice ao n cap) (.slice bo m cap') 24
  obtain ⟨hq1, hq2⟩ := hq
  have hqn : lim q.num.natAbs ≤ 16777216 := Nat.le_trans hq1 hk
  have hqd : lim q.den ≤ 16777216 := Nat.le_trans hq2 hk
  have hfmt : Hid (fmtQ q = (if decide (q.num < 0) then [45] else []) ++ decDigits q.num.natAbs ++ (if q.den = 1 then [] else 47 :: decDigits q.den)) := hid (by
    unfold fmtQ; by_cases hn : q.num < 0 <;> simp [hn])
  go_enter Tryz.func21, Tryz.ntmps21
  go_wp2_with fail
  refine (rTake_any q _ _ (h.next hB.bel)).mono ?_; rintro e w1 ⟨v1, rfl, C1, hb1⟩
  obtain ⟨rb, ro, rn, rc, so, sn, sc, rfl⟩ := C1.shape
  have hB1 := hB.next hb1
  have c1 := C1.putOther hB1.res (.bool rb) (.slice ro rn rc) (.slice so sn sc)
  have b1 := hB1.put (.bool rb) (.slice ro rn rc) (.slice so sn sc)
  obtain ⟨d0, d1, d2⟩ := hB1.c3
  have f0 := hB1.free 0
  have f1 := hB1.free 1
  have f2 := hB1.free 2
  obtain ⟨hrb, sA, sD, zA, zD⟩ := c1.parts
  rw [← hrb] at hfmt
  have hxn : rn ≤ 16777216 := by rw [← sA.lenU]; exact hqn
  clear hrb C1 c1 hB hB1 h
  go_wp2_with fail
  refine (rdigits_any _ _ _ _ _ sA hxn).mono ?_; rintro e w2 ⟨s1, rfl, hs1, hb2⟩
  have hz1 : s1.size ≤ 600000000 := by rw [Lib.size_eq, hs1]; have := dec_len_le hqn; omega
  have hs1 := hid hs1
  have b2 := b1.next hb2
  have sD2 := sD.next hb2
  obtain ⟨c0, c1, c2⟩ := b2.c3
  have hbel2 := b2.bel
  have hdl := hid sD2.lenU
  clear d0 d1 d2 f0 f1 f2 b1 sD sA hb2
  cases rb with
  | true =>
    rw [if_pos rfl] at hfmt
    by_cases hd1 : q.den = 1
    · rw [if_pos hd1] at hfmt
      unfold denL at hdl sD2
      rw [if_pos hd1] at hdl sD2
      obtain rfl : sn = 0 := by have := hdl.out; simpa using this.symm
      clear hdl hd1
      go_wp2_with fail
      go_ret
      exact ⟨_, rfl, by rw [hfmt.out, List.append_nil]; simp [Go.Joins.data_append, hs1.out], hbel2⟩
    · rw [if_neg hd1] at hfmt
      unfold denL at hdl sD2
      rw [if_neg hd1] at hdl sD2
      have hsn : 1 ≤ sn := by
        rw [← hdl.out]
        have : dig q.den ≠ [] := fun h => q.den_nz (dig_nil.1 h)
        cases h : dig q.den with
        | nil => exact absurd h this
        | cons _ _ => simp
      have hsn2 : sn ≤ 16777216 := by rw [← hdl.out]; exact hqd
      clear hdl hd1
      go_wp2_with fail
      refine (rdigits_any _ _ _ _ _ sD2 hsn2).mono ?_; rintro e w4 ⟨s2, rfl, hs2, hb4⟩
      have hz2 : s2.size ≤ 600000000 := by rw [Lib.size_eq, hs2]; have := dec_len_le hqd; omega
      have hs2 := hid hs2
      have hbel4 := below_chain hbel2 hb4
      clear c0 c1 c2
      go_wp2_with fail
      go_ret
      exact ⟨_, rfl, by rw [hfmt.out]; simp [Go.Joins.data_append, hs1.out, hs2.out], hbel4⟩
  | false =>
    rw [if_neg (by decide)] at hfmt
    by_cases hd1 : q.den = 1
    · rw [if_pos hd1] at hfmt
      unfold denL at hdl sD2
      rw [if_pos hd1] at hdl sD2
      obtain rfl : sn = 0 := by have := hdl.out; simpa using this.symm
      clear hdl hd1
      go_wp2_with fail
      go_ret
      exact ⟨_, rfl, by rw [hfmt.out, List.append_nil]; simp [Go.Joins.data_append, hs1.out], hbel2⟩
    · rw [if_neg hd1] at hfmt
      unfold denL at hdl sD2
      rw [if_neg hd1] at hdl sD2
      have hsn : 1 ≤ sn := by
        rw [← hdl.out]
        have : dig q.den ≠ [] := fun h => q.den_nz (dig_nil.1 h)
        cases h : dig q.den with
        | nil => exact absurd h this
        | cons _ _ => simp
      have hsn2 : sn ≤ 16777216 := by rw [← hdl.out]; exact hqd
      clear hdl hd1
      go_wp2_with fail
      refine (rdigits_any _ _ _ _ _ sD2 hsn2).mono ?_; rintro e w4 ⟨s2, rfl, hs2, hb4⟩
      have hz2 : s2.size ≤ 600000000 := by rw [Lib.size_eq, hs2]; have := dec_len_le hqd; omega
      have hs2 := hid hs2
      have hbel4 := below_chain hbel2 hb4
      clear c0 c1 c2
      go_wp2_with fail
      go_ret
      exact ⟨_, rfl, by rw [hfmt.out]; simp [Go.Joins.data_append, hs1.out, hs2.out], hbel4⟩

end Go.Proofs.YtjppjhjfogjhaaaGreatDoor

/-
  The contract of rational.Format. No condition but sizes.
-/
import Derived.Test.YtjppjhjfogjhaaaGreatDoorTxtD
import Derived.Deep.RegionHeld3
namespace Go.Proofs.YtjppjhjfogjhaaaGreatDoor
open Go.RowKit Go.Lib
set_option linter.unusedSimpArgs false
set_option linter.unusedVariables false

theorem ord_cases1 (d : Nat) : (d = 1 ∧ ord d 1 = 0) ∨ (d ≠ 1 ∧ ord d 1 ≠ 0) := by
  by_cases h : d = 1
  · subst h; exact .inl ⟨rfl, by decide⟩
  · refine .inr ⟨h, ?_⟩
    unfold ord
    rcases Nat.lt_or_ge d 1 with h1 | h1
    · rw [if_pos h1]; decide
    · rw [if_neg (by omega), if_neg (by omega)]; decide

theorem nDigits_le : ∀ (k n : Nat), 1 ≤ k → n < 10 ^ k → nDigits n ≤ k
  | 0, n, h, _ => by omega
  | 1, n, _, h => by rw [nDigits_small (by simpa using h)]; exact Nat.le_refl _
  | k + 2, n, _, h => by
    by_cases h1 : n < 10
    · rw [nDigits_small h1]; omega
    · rw [nDigits_big h1]
      have := nDigits_le (k + 1) (n / 10) (by omega) (by rw [Nat.pow_succ] at h; omega)
      omega

theorem dec_len_le {n m : Nat} (h : lim n ≤ m) : (decDigits n).length ≤ 32 * m + 1 := by
  rw [decDigits_length]
  refine nDigits_le _ _ (by omega) ?_
  have h1 := Nat.lt_of_lt_of_le (lim_lt n) (Nat.pow_le_pow_right (by decide) h)
  rw [show 4294967296 = 2 ^ 32 from rfl, ← Nat.pow_mul] at h1
  exact Nat.lt_of_lt_of_le h1 (Nat.le_trans (Nat.pow_le_pow_left (by decide) _) (Nat.pow_le_pow_right (by decide) (by omega)))

set_option maxHeartbeats 2000000 in
theorem Format_any (q : Rat) (v : Value) (w : World) (h : RatV w v q) (k : Nat) (hq : Fit k q) (hk : k ≤ 16777216) (hp : Pow w) :
    Calls Tryz.prog 20 #[v] w (StrOut w (fmtQ q)) := by
  obtain ⟨s, ao, n, cap, bo, m, cap', rfl⟩ := h.shape
  have hb0 := below_alloc (w := w) (.cells #[.bool s, .slice ao n cap, .slice bo m cap'] 24)
  obtain ⟨hq1, hq2⟩ := hq
  have hqn : lim q.num.natAbs ≤ 16777216 := Nat.le_trans hq1 hk
  have hqd : lim q.den ≤ 16777216 := Nat.le_trans hq2 hk
  have hfmt : Hid (fmtQ q = (if decide (q.num < 0) then [45] else []) ++ decDigits q.num.natAbs ++ (if q.den = 1 then [] else 47 :: decDigits q.den)) := hid (by
    unfold fmtQ; by_cases hn : q.num < 0 <;> simp [hn])
  go_enter Tryz.func20, Tryz.ntmps20
  go_wp2_with fail
  refine (of_any q _ _ (h.next hb0)).mono ?_; rintro e w1 ⟨f1, rfl, F1, hb1⟩
  obtain ⟨xo, xn, xc, yo, yn, yc, rfl⟩ := F1.shape
  obtain ⟨sA, sB, zA, zB, nB⟩ := F1.parts
  have hbel1 := below_chain hb0 hb1
  obtain ⟨t, ht⟩ : ∃ t, decide (q.num < 0) = t := ⟨_, rfl⟩
  rw [ht] at hfmt F1 ⊢
  clear ht
  have hxn : xn ≤ 16777216 := by rw [← sA.lenU]; exact Nat.le_trans hq1 hk
  have hyn : yn ≤ 16777216 := by rw [← sB.lenU]; exact Nat.le_trans hq2 hk
  have hB := Bk.start hbel1 rfl (.bool t) (.slice xo xn xc) (.slice yo yn yc) 52
  have sA1 := sA.next (below_alloc (.cells #[.bool t, .slice xo xn xc, .slice yo yn yc] 52))
  have sB1 := sB.next (below_alloc (.cells #[.bool t, .slice xo xn xc, .slice yo yn yc] 52))
  clear F1 sA sB h hq1 hq2
  go_wp2_with fail
  refine (digits_any _ _ _ _ _ sA1 hxn (hp.next hB.bel)).mono ?_; rintro e w2 ⟨s1, rfl, hs1, hb2⟩
  have hz1 : s1.size ≤ 600000000 := by rw [Lib.size_eq, hs1]; have := dec_len_le hqn; omega
  have hs1 := hid hs1
  have hB2 := hB.next hb2
  have sB2 := sB1.next hb2
  obtain ⟨G, hG⟩ : ∃ G, w1.heap.size = G := ⟨_, rfl⟩
  rw [hG] at hB2 ⊢
  have HG := hid hG
  clear hG hB sB1 sA1
  obtain ⟨c0, c1, c2⟩ := hB2.c3
  obtain ⟨c, hc⟩ : ∃ c, ord q.den 1 = c := ⟨_, rfl⟩
  have hc := hid hc
  have hcs := hid (ord_cases1 q.den)
  have hd := (Below.refl w2.heap.size w2).drew
  have hS0 : C3 G (.bool t) (.slice xo xn xc) (.slice yo yn yc) w2.drew := hB2.drew.c3
  have hKp : ∀ w' w'', C3 G (.bool t) (.slice xo xn xc) (.slice yo yn yc) w' → Below w'.heap.size w' w'' → C3 G (.bool t) (.slice xo xn xc) (.slice yo yn yc) w'' := fun w' w'' h hb => h.next hb
  have hpw := hp.next hB2.bel
  cases t with
  | true =>
    rw [if_pos rfl] at hfmt
    go_wp2_with fail
    refine wp_region_held_drew (S := (fun w' => C3 G (.bool true) (.slice xo xn xc) (.slice yo yn yc) w')) (by kernel_rfl) (hS0) (fun hHeld => ?_)
    refine held_take (i := 0) (d := 14) (v := ?_) rfl rfl (by kernel_rfl) (by kernel_rfl) (by kernel_rfl) (fun _ _ _ h => h) (by rfl) ?_ hHeld ?_
    rotate_left
    · intro w hSw; (try dsimp only at hSw); go_simp; with_reducible rfl
    try simp only [Act.put, List.setIfInBounds_toArray, List.set_cons_zero, List.set_cons_succ]
    refine held_take (i := 1) (d := 15) (v := ?_) rfl rfl (by kernel_rfl) (by kernel_rfl) (by kernel_rfl) (fun _ _ _ h => h) (by rfl) ?_ hHeld ?_
    rotate_left
    · intro w hSw; (try dsimp only at hSw); go_simp; with_reducible rfl
    try simp only [Act.put, List.setIfInBounds_toArray, List.set_cons_zero, List.set_cons_succ]
    refine wpAnyH_ready (rs := [2]) (by kernel_rfl) (by simp) (AllReadyH.cons rfl (fun K hK => ?_) AllReadyH.nil)
    go_simp
    go_at_call 53; refine (one_any _).mono ?_; rintro e wo ⟨rfl, so, hbo⟩
    go_wp2_with fail
    refine hK.out _ _ (hKp _ _ hHeld hbo) (fun hHeld => ?_)
    clear hK K
    try simp only [Act.put, List.setIfInBounds_toArray, List.set_cons_zero, List.set_cons_succ]
    refine wpAnyH_ready (rs := [3]) (by kernel_rfl) (by simp) (AllReadyH.cons rfl (fun K hK => ?_) AllReadyH.nil)
    go_simp
    go_at_call 64; refine (cmp_eq q.den 1 c hc.out ((sB2.next hd).next hbo) so).mono ?_; rintro e w3 ⟨rfl, rfl⟩
    go_wp2_with fail
    refine hK.out _ _ (hHeld) (fun hHeld => ?_)
    clear hK K
    try simp only [Act.put, List.setIfInBounds_toArray, List.set_cons_zero, List.set_cons_succ]
    refine held_take (i := 4) (d := 18) (v := ?_) rfl rfl (by kernel_rfl) (by kernel_rfl) (by kernel_rfl) (fun _ _ _ h => h) (by rfl) ?_ hHeld ?_
    rotate_left
    · intro w hSw; (try dsimp only at hSw); go_simp; with_reducible rfl
    try simp only [Act.put, List.setIfInBounds_toArray, List.set_cons_zero, List.set_cons_succ]
    refine wpAnyH_done (by kernel_rfl) ?_ _
    rcases hcs.out with ⟨h1, h2⟩ | ⟨h1, h2⟩
    · have hc0 : c = 0 := by rw [← hc.out]; exact h2
      subst hc0
      rw [if_pos h1] at hfmt
      clear h1 h2 hcs
      go_wp2_with fail
      go_ret
      exact ⟨_, rfl, by rw [hfmt.out, List.append_nil]; simp [Go.Joins.data_append, hs1.out], hB2.bel.trans (by go_simp; exact (hd.trans (hbo.mono (Nat.le_refl _))).mono hB2.bel.size)⟩
    · have hc0 : c ≠ 0 := by rw [← hc.out]; exact h2
      rw [if_neg h1] at hfmt
      have e1 : (c != 0) = true := by simpa using hc0
      have e2 : (c == 0) = false := by simpa using hc0
      clear h1 h2 hcs hc0
      obtain ⟨k0, k1, k2⟩ := hHeld
      go_wp2_with fail
      refine (digits_any _ _ _ _ _ ((sB2.next hd).next hbo) hyn ((hpw.next hd).next hbo)).mono ?_; rintro e w4 ⟨s2, rfl, hs2, hb4⟩
      have hz2 : s2.size ≤ 600000000 := by rw [Lib.size_eq, hs2]; have := dec_len_le hqd; omega
      have hs2 := hid hs2
      clear k0 k1 k2
      go_wp2_with fail
      go_ret
      exact ⟨_, rfl, by rw [hfmt.out]; simp [Go.Joins.data_append, hs1.out, hs2.out], below_chain (hB2.bel.trans ((hd.trans (hbo.mono (Nat.le_refl _))).mono hB2.bel.size)) hb4⟩
  | false =>
    rw [if_neg (by decide)] at hfmt
    go_wp2_with fail
    refine wp_region_held_drew (S := (fun w' => C3 G (.bool false) (.slice xo xn xc) (.slice yo yn yc) w')) (by kernel_rfl) (hS0) (fun hHeld => ?_)
    refine held_take (i := 0) (d := 14) (v := ?_) rfl rfl (by kernel_rfl) (by kernel_rfl) (by kernel_rfl) (fun _ _ _ h => h) (by rfl) ?_ hHeld ?_
    rotate_left
    · intro w hSw; (try dsimp only at hSw); go_simp; with_reducible rfl
    try simp only [Act.put, List.setIfInBounds_toArray, List.set_cons_zero, List.set_cons_succ]
    refine held_take (i := 1) (d := 15) (v := ?_) rfl rfl (by kernel_rfl) (by kernel_rfl) (by kernel_rfl) (fun _ _ _ h => h) (by rfl) ?_ hHeld ?_
    rotate_left
    · intro w hSw; (try dsimp only at hSw); go_simp; with_reducible rfl
    try simp only [Act.put, List.setIfInBounds_toArray, List.set_cons_zero, List.set_cons_succ]
    refine wpAnyH_ready (rs := [2]) (by kernel_rfl) (by simp) (AllReadyH.cons rfl (fun K hK => ?_) AllReadyH.nil)
    go_simp
    go_at_call 53; refine (one_any _).mono ?_; rintro e wo ⟨rfl, so, hbo⟩
    go_wp2_with fail
    refine hK.out _ _ (hKp _ _ hHeld hbo) (fun hHeld => ?_)
    clear hK K
    try simp only [Act.put, List.setIfInBounds_toArray, List.set_cons_zero, List.set_cons_succ]
    refine wpAnyH_ready (rs := [3]) (by kernel_rfl) (by simp) (AllReadyH.cons rfl (fun K hK => ?_) AllReadyH.nil)
    go_simp
    go_at_call 64; refine (cmp_eq q.den 1 c hc.out ((sB2.next hd).next hbo) so).mono ?_; rintro e w3 ⟨rfl, rfl⟩
    go_wp2_with fail
    refine hK.out _ _ (hHeld) (fun hHeld => ?_)
    clear hK K
    try simp only [Act.put, List.setIfInBounds_toArray, List.set_cons_zero, List.set_cons_succ]
    refine held_take (i := 4) (d := 18) (v := ?_) rfl rfl (by kernel_rfl) (by kernel_rfl) (by kernel_rfl) (fun _ _ _ h => h) (by rfl) ?_ hHeld ?_
    rotate_left
    · intro w hSw; (try dsimp only at hSw); go_simp; with_reducible rfl
    try simp only [Act.put, List.setIfInBounds_toArray, List.set_cons_zero, List.set_cons_succ]
    refine wpAnyH_done (by kernel_rfl) ?_ _
    rcases hcs.out with ⟨h1, h2⟩ | ⟨h1, h2⟩
    · have hc0 : c = 0 := by rw [← hc.out]; exact h2
      subst hc0
      rw [if_pos h1] at hfmt
      clear h1 h2 hcs
      go_wp2_with fail
      go_ret
      exact ⟨_, rfl, by rw [hfmt.out, List.append_nil]; simp [Go.Joins.data_append, hs1.out], hB2.bel.trans (by go_simp; exact (hd.trans (hbo.mono (Nat.le_refl _))).mono hB2.bel.size)⟩
    · have hc0 : c ≠ 0 := by rw [← hc.out]; exact h2
      rw [if_neg h1] at hfmt
      have e1 : (c != 0) = true := by simpa using hc0
      have e2 : (c == 0) = false := by simpa using hc0
      clear h1 h2 hcs hc0
      obtain ⟨k0, k1, k2⟩ := hHeld
      go_wp2_with fail
      refine (digits_any _ _ _ _ _ ((sB2.next hd).next hbo) hyn ((hpw.next hd).next hbo)).mono ?_; rintro e w4 ⟨s2, rfl, hs2, hb4⟩
      have hz2 : s2.size ≤ 600000000 := by rw [Lib.size_eq, hs2]; have := dec_len_le hqd; omega
      have hs2 := hid hs2
      clear k0 k1 k2
      go_wp2_with fail
      go_ret
      exact ⟨_, rfl, by rw [hfmt.out]; simp [Go.Joins.data_append, hs1.out, hs2.out], below_chain (hB2.bel.trans ((hd.trans (hbo.mono (Nat.le_refl _))).mono hB2.bel.size)) hb4⟩

end Go.Proofs.YtjppjhjfogjhaaaGreatDoor

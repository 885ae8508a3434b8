/-
  The contract of the reference's read. No condition but sizes.
-/
import Derived.Test.YtgohfieleckmgaaGreatDoorTxtS
namespace Go.Proofs.YtgohfieleckmgaaGreatDoor
open Go.RowKit Go.Lib
set_option linter.unusedSimpArgs false
set_option linter.unusedVariables false

/-- What read returns. -/
def ReadOut (w : World) (l : List UInt8) (e : Ending) (w' : World) : Prop :=
  ∃ (ao : Option Addr) (n cap : Nat), e = .returned (.tuple #[.slice ao n cap, .bool (okDec l)]) ∧ (okDec l = true → Sl w' ao n cap (u32s (dig (valDec l)))) ∧ (ao = none → cap = 0) ∧ Below w.heap.size w w'

theorem ReadOut.no {w w' : World} {l : List UInt8} (h : okDec l = false) (hb : Below w.heap.size w w') : ReadOut w l (.returned (.tuple #[.slice none 0 0, .bool false])) w' :=
  ⟨none, 0, 0, by rw [h], (fun e => by rw [h] at e; cases e), fun _ => rfl, hb⟩

theorem read_stop {s : ByteArray} {i : Nat} (hi : i < s.size) (h : s[i].toNat < 48 ∨ 57 < s[i].toNat) : okDec s.data.toList = false := by
  have hi' : i < s.data.toList.length := by rw [← Lib.size_eq]; exact hi
  have : (decFrom 0 s.data.toList).isSome = false := by
    cases hc : (decFrom 0 s.data.toList).isSome with
    | false => rfl
    | true =>
      have := (all_dig _ _).1 hc s[i] (by
        have : s[i] = s.data.toList[i] := rfl
        rw [this]; exact List.getElem_mem hi')
      omega
  unfold okDec
  rw [this]; simp

theorem read_go {s : ByteArray} {i x : Nat} (hi : i < s.size) (h1 : 48 ≤ s[i].toNat) (h2 : s[i].toNat ≤ 57) (h : decFrom 0 (s.data.toList.take i) = some x) :
    decFrom 0 (s.data.toList.take (i + 1)) = some (x * 10 + (s[i].toNat - 48)) := by
  have hi' : i < s.data.toList.length := by rw [← Lib.size_eq]; exact hi
  have e : s[i] = s.data.toList[i] := rfl
  rw [e] at h1 h2 ⊢
  exact decFrom_take _ i 0 x _ _ h (List.getElem?_eq_getElem hi') (by unfold digitVal; rw [if_pos ⟨h1, h2⟩])

set_option maxHeartbeats 2000000 in
theorem read_any (s : ByteArray) (hs : s.size ≤ 9223372036854775807) (w : World) :
    Calls Tryz.prog 173 #[.string s] w (ReadOut w s.data.toList) := by
  have hsz := Lib.size_eq s
  by_cases h0 : s.size = 0
  · obtain rfl := empty_of_size h0
    have hr : Hid (okDec (⟨#[]⟩ : ByteArray).data.toList = false) := hid (by decide)
    clear h0 hsz hs
    go_enter Tryz.func173, Tryz.ntmps173
    go_wp2_with fail
    go_ret2
    exact ReadOut.no hr.out (Below.refl _ _)
  · have h1 : 0 < s.size := by omega
    have e0 : s.toList.isEmpty = false := by
      rw [Lib.toList_data]
      cases hc : s.data.toList with
      | nil => rw [hc, List.length_nil] at hsz; omega
      | cons _ _ => rfl
    by_cases h2 : s.size ≤ 2000
    · by_cases h3 : 1 < s.size ∧ s[0] = 48
      · obtain ⟨h3, h4⟩ := h3
        have hr : Hid (okDec s.data.toList = false) := hid (by
          have h5 := byte_head h1 h4
          have h6 : s.data.toList ≠ [48] := fun e => by rw [e] at hsz; simp at hsz; omega
          unfold okDec; rw [decide_eq_false h6, decide_eq_false (not_not_intro h5)]; simp)
        clear hsz h0
        go_enter Tryz.func173, Tryz.ntmps173
        go_wp2_with fail
        go_ret2
        exact ReadOut.no hr.out (Below.refl _ _)
      · have hok : Hid ((decFrom 0 s.data.toList).isSome = true → okDec s.data.toList = true) := hid (fun hsome => by
          unfold okDec
          rw [hsome, decide_eq_true (show s.data.toList.length ≤ 2000 by omega)]
          rw [Lib.toList_data] at e0
          rw [e0]
          by_cases h5 : s.data.toList.head? = some 48
          · have h6 := head_byte h1 h5
            have h7 : s.size = 1 := by
              rcases Nat.lt_or_ge 1 s.size with h | h
              · exact absurd ⟨h, h6⟩ h3
              · omega
            have : s.data.toList = [48] := by
              cases hc : s.data.toList with
              | nil => rw [hc] at h5; cases h5
              | cons a r =>
                rw [hc] at h5 hsz
                simp at h5 hsz
                subst h5
                have : r = [] := List.eq_nil_of_length_eq_zero (by omega)
                rw [this]
            rw [decide_eq_true this]; rfl
          · rw [decide_eq_true h5]; simp)
        have hgd : (decide (1 < s.size) = false ∧ decide ((1 : Int) < (s.size : Int)) = false) ∨ (1 < s.size ∧ ((s[0].toNat : Int) == 48) = false) := by
          rcases Nat.lt_or_ge 1 s.size with h | h
          · refine .inr ⟨h, ?_⟩
            have : s[0].toNat ≠ 48 := fun e => h3 ⟨h, UInt8.toNat_inj.1 e⟩
            simp; omega
          · exact .inl ⟨decide_eq_false (by omega), decide_eq_false (by omega)⟩
        have hN := hsz
        have Hsz := hid hsz
        clear hsz h0 h3 hN
        rcases hgd with ⟨hg1, hg2⟩ | ⟨hg1, hg2⟩
        · go_enter Tryz.func173, Tryz.ntmps173
          go_wp2_with fail
          go_loopw [4, 5] (fun ov iv wr => ∃ (i x : Nat) (oo : Option Addr) (on oc : Nat), i ≤ s.size ∧ iv = .int .i64 i ∧ ov = .slice oo on oc ∧ Sl wr oo on oc (u32s (dig x)) ∧ (oo = none → oc = 0) ∧ Hid (decFrom 0 (s.data.toList.take i) = some x) ∧ Below w.heap.size w wr) (fun _ iv _ => s.size - (RowKit.intOf iv).toNat)
          case atStart => exact ⟨0, 0, none, 0, 0, Nat.zero_le _, rfl, rfl, by rw [dig_zero]; exact Sl.nil w, fun _ => rfl, hid rfl, Below.refl _ _⟩
          case round =>
            obtain ⟨i, x, oo, on, oc, hi, rfl, rfl, sx, hz, hdec, hbel⟩ := hrel
            by_cases hlt : i < s.size
            · by_cases hb1 : s[i].toNat < 48
              · have hr := hid (read_stop hlt (.inl hb1))
                go_wp2_with fail
                go_ret2
                exact ReadOut.no hr.out hbel
              · by_cases hb2 : 57 < s[i].toNat
                · have hr := hid (read_stop hlt (.inr hb2))
                  go_wp2_with fail
                  go_ret2
                  exact ReadOut.no hr.out hbel
                · have hnext := hid (read_go hlt (by omega) (by omega) hdec.out)
                  have hon : on ≤ 2000 := by
                    have := sx.lenD (k := i) (by
                      have h5 := lim_dec hdec.out
                      rw [List.length_take, ← Hsz.out, Nat.min_eq_left hi] at h5
                      exact h5)
                    omega
                  obtain ⟨c, hc⟩ : ∃ c : Nat, s[i].toNat = c := ⟨_, rfl⟩
                  rw [hc] at hb1 hb2 hnext
                  obtain ⟨d, hd⟩ : ∃ d : Nat, c - 48 = d := ⟨_, rfl⟩
                  rw [hd] at hnext
                  have hd9 : d ≤ 9 := by omega
                  have hcd : (c : Int) - 48 = (d : Int) := by omega
                  have hc1 : 48 ≤ c := by omega
                  have hc2 : c ≤ 57 := by omega
                  clear hb1 hb2 hd
                  go_wp2_with fail
                  have hS0 : Below w.heap.size w wr.drew := hbel.drew
                  have hbA : Below wr.heap.size wr (wr.alloc (.cells #[.int .u32 10] 102)).drew := (below_alloc _).drew
                  have HS1 : Below w.heap.size w (wr.alloc (.cells #[.int .u32 10] 102)).drew := below_chain hbel hbA
                  have sx1 := sx.next hbA
                  have s10 := ((one_limb (w := wr) 10 (by decide)).1).next (w' := (wr.alloc (.cells #[.int .u32 10] 102)).drew) (Below.refl _ _).drew
                  rw [← dig_ten] at s10
                  have hwd : IntKind.u8.wrap (d : Int) = (d : Int) := by rw [IntKind.wrap_u8]; omega
                  have hwd2 : IntKind.u64.wrap (d : Int) = (d : Int) := by rw [IntKind.wrap_u64]; omega
                  refine wp_region_held_drew (S := (fun w' => Below w.heap.size w w')) (by kernel_rfl) (hS0) (fun hHeld => ?_)
                  refine held_take (i := 0) (d := 39) (v := ?_) rfl rfl (by kernel_rfl) (by kernel_rfl) (by kernel_rfl) (fun _ _ _ h => h) (by rfl) ?_ hHeld ?_
                  rotate_left
                  · intro w hSw; (try dsimp only at hSw); go_simp; with_reducible rfl
                  try simp only [Act.put, List.setIfInBounds_toArray, List.set_cons_zero, List.set_cons_succ]
                  refine held_take (i := 3) (d := 42) (v := ?_) rfl rfl (by kernel_rfl) (by kernel_rfl) (by kernel_rfl) (fun _ _ _ h => h) (by rfl) ?_ hHeld ?_
                  rotate_left
                  · intro w hSw; (try dsimp only at hSw); go_simp; with_reducible rfl
                  try simp only [Act.put, List.setIfInBounds_toArray, List.set_cons_zero, List.set_cons_succ]
                  refine held_take (i := 4) (d := 43) (v := ?_) rfl rfl (by kernel_rfl) (by kernel_rfl) (by kernel_rfl) (fun _ _ _ h => h) (by rfl) ?_ hHeld ?_
                  rotate_left
                  · intro w hSw; (try dsimp only at hSw); go_simp; with_reducible rfl
                  try simp only [Act.put, List.setIfInBounds_toArray, List.set_cons_zero, List.set_cons_succ]
                  refine held_take (i := 5) (d := 44) (v := ?_) rfl rfl (by kernel_rfl) (by kernel_rfl) (by kernel_rfl) (fun _ _ _ h => h) (by rfl) ?_ hHeld ?_
                  rotate_left
                  · intro w hSw; (try dsimp only at hSw); go_simp; with_reducible rfl
                  try simp only [Act.put, List.setIfInBounds_toArray, List.set_cons_zero, List.set_cons_succ]
                  refine held_take (i := 6) (d := 45) (v := ?_) rfl rfl (by kernel_rfl) (by kernel_rfl) (by kernel_rfl) (fun _ _ _ h => h) (by rfl) ?_ hHeld ?_
                  rotate_left
                  · intro w hSw; (try dsimp only at hSw); go_simp; with_reducible rfl
                  try simp only [Act.put, List.setIfInBounds_toArray, List.set_cons_zero, List.set_cons_succ]
                  refine held_take (i := 7) (d := 46) (v := ?_) rfl rfl (by kernel_rfl) (by kernel_rfl) (by kernel_rfl) (fun _ _ _ h => h) (by rfl) ?_ hHeld ?_
                  rotate_left
                  · intro w hSw; (try dsimp only at hSw); go_simp; with_reducible rfl
                  try simp only [Act.put, List.setIfInBounds_toArray, List.set_cons_zero, List.set_cons_succ]
                  refine wpAnyH_ready (rs := [1]) (by kernel_rfl) (by simp) (AllReadyH.cons rfl (fun K hK => ?_) AllReadyH.nil)
                  go_simp

                  go_wp2_with fail
                  refine hK.out _ _ (HS1) (fun hHeld => ?_)
                  clear hK K
                  try simp only [Act.put, List.setIfInBounds_toArray, List.set_cons_zero, List.set_cons_succ]
                  refine wpAnyH_ready (rs := [2]) (by kernel_rfl) (by simp) (AllReadyH.cons rfl (fun K hK => ?_) AllReadyH.nil)
                  go_simp
                  go_at_call 76; refine (rtimesD x 10 sx1 s10 (by omega) (by decide)).mono ?_; rintro e w2 ⟨po, pn, pc, rfl, sp, hzp, hb2, _⟩; have hpn : pn ≤ 3000 := (by have h1 : lim (x * 10) ≤ on + 1 := Nat.le_trans (lim_mul _ _) (Nat.add_le_add (by rw [lim, sx.lenU]; exact Nat.le_refl _) (lim_small (by decide))); rw [lim, sp.lenU] at h1; omega)
                  go_wp2_with fail
                  refine hK.out _ _ (below_chain hHeld hb2) (fun hHeld => ?_)
                  clear hK K
                  try simp only [Act.put, List.setIfInBounds_toArray, List.set_cons_zero, List.set_cons_succ]
                  refine wpAnyH_ready (rs := [8]) (by kernel_rfl) (by simp) (AllReadyH.cons rfl (fun K hK => ?_) AllReadyH.nil)
                  go_simp
                  go_at_call 106; refine (natural_any d (by omega) _).mono ?_; rintro e w3 ⟨qo, qn, qc, rfl, sq, hzq, hb3, _⟩; have hqn : qn ≤ 1 := (by have h1 := lim_small (a := d) (by omega); rw [lim, sq.lenU] at h1; exact h1)
                  go_wp2_with fail
                  refine hK.out _ _ (below_chain hHeld hb3) (fun hHeld => ?_)
                  clear hK K
                  try simp only [Act.put, List.setIfInBounds_toArray, List.set_cons_zero, List.set_cons_succ]
                  refine wpAnyH_ready (rs := [9]) (by kernel_rfl) (by simp) (AllReadyH.cons rfl (fun K hK => ?_) AllReadyH.nil)
                  go_simp
                  go_at_call 79; refine (rplusD (x * 10) d (sp.next hb3) sq (by omega) (by omega)).mono ?_; rintro e w4 ⟨uo, un, uc, rfl, su, hzu, hb4, _⟩
                  go_wp2_with fail
                  refine hK.out _ _ (below_chain hHeld hb4) (fun hHeld => ?_)
                  clear hK K
                  try simp only [Act.put, List.setIfInBounds_toArray, List.set_cons_zero, List.set_cons_succ]
                  refine held_take (i := 10) (d := 4) (v := ?_) rfl rfl (by kernel_rfl) (by kernel_rfl) (by kernel_rfl) (fun _ _ _ h => h) (by rfl) ?_ hHeld ?_
                  rotate_left
                  · intro w hSw; (try dsimp only at hSw); go_simp; with_reducible rfl
                  try simp only [Act.put, List.setIfInBounds_toArray, List.set_cons_zero, List.set_cons_succ]
                  refine wpAnyH_done (by kernel_rfl) ?_ _
                  go_wp2_with fail
                  go_roundw
                  case rel => exact ⟨i + 1, x * 10 + d, uo, un, uc, by omega, by go_num, rfl, su, hzu, hnext, hHeld⟩
                  case measure => simp [RowKit.intOf]; omega
            · obtain rfl : i = s.size := by omega
              have hfin := hdec.out
              rw [List.take_of_length_le (by rw [← Hsz.out]; exact Nat.le_refl _)] at hfin
              have hr := hid (hok.out (by rw [hfin]; rfl))
              have hv : Hid (valDec s.data.toList = x) := hid (by unfold valDec; rw [hfin]; rfl)
              clear hfin hdec
              go_wp2_with fail
              go_ret2
              exact ⟨_, _, _, by rw [hr.out]; rfl, fun _ => by rw [hv.out]; exact sx, hz, hbel⟩
        · go_enter Tryz.func173, Tryz.ntmps173
          go_wp2_with fail
          go_loopw [4, 5] (fun ov iv wr => ∃ (i x : Nat) (oo : Option Addr) (on oc : Nat), i ≤ s.size ∧ iv = .int .i64 i ∧ ov = .slice oo on oc ∧ Sl wr oo on oc (u32s (dig x)) ∧ (oo = none → oc = 0) ∧ Hid (decFrom 0 (s.data.toList.take i) = some x) ∧ Below w.heap.size w wr) (fun _ iv _ => s.size - (RowKit.intOf iv).toNat)
          case atStart => exact ⟨0, 0, none, 0, 0, Nat.zero_le _, rfl, rfl, by rw [dig_zero]; exact Sl.nil w, fun _ => rfl, hid rfl, Below.refl _ _⟩
          case round =>
            obtain ⟨i, x, oo, on, oc, hi, rfl, rfl, sx, hz, hdec, hbel⟩ := hrel
            by_cases hlt : i < s.size
            · by_cases hb1 : s[i].toNat < 48
              · have hr := hid (read_stop hlt (.inl hb1))
                go_wp2_with fail
                go_ret2
                exact ReadOut.no hr.out hbel
              · by_cases hb2 : 57 < s[i].toNat
                · have hr := hid (read_stop hlt (.inr hb2))
                  go_wp2_with fail
                  go_ret2
                  exact ReadOut.no hr.out hbel
                · have hnext := hid (read_go hlt (by omega) (by omega) hdec.out)
                  have hon : on ≤ 2000 := by
                    have := sx.lenD (k := i) (by
                      have h5 := lim_dec hdec.out
                      rw [List.length_take, ← Hsz.out, Nat.min_eq_left hi] at h5
                      exact h5)
                    omega
                  obtain ⟨c, hc⟩ : ∃ c : Nat, s[i].toNat = c := ⟨_, rfl⟩
                  rw [hc] at hb1 hb2 hnext
                  obtain ⟨d, hd⟩ : ∃ d : Nat, c - 48 = d := ⟨_, rfl⟩
                  rw [hd] at hnext
                  have hd9 : d ≤ 9 := by omega
                  have hcd : (c : Int) - 48 = (d : Int) := by omega
                  have hc1 : 48 ≤ c := by omega
                  have hc2 : c ≤ 57 := by omega
                  clear hb1 hb2 hd
                  go_wp2_with fail
                  have hS0 : Below w.heap.size w wr.drew := hbel.drew
                  have hbA : Below wr.heap.size wr (wr.alloc (.cells #[.int .u32 10] 102)).drew := (below_alloc _).drew
                  have HS1 : Below w.heap.size w (wr.alloc (.cells #[.int .u32 10] 102)).drew := below_chain hbel hbA
                  have sx1 := sx.next hbA
                  have s10 := ((one_limb (w := wr) 10 (by decide)).1).next (w' := (wr.alloc (.cells #[.int .u32 10] 102)).drew) (Below.refl _ _).drew
                  rw [← dig_ten] at s10
                  have hwd : IntKind.u8.wrap (d : Int) = (d : Int) := by rw [IntKind.wrap_u8]; omega
                  have hwd2 : IntKind.u64.wrap (d : Int) = (d : Int) := by rw [IntKind.wrap_u64]; omega
                  refine wp_region_held_drew (S := (fun w' => Below w.heap.size w w')) (by kernel_rfl) (hS0) (fun hHeld => ?_)
                  refine held_take (i := 0) (d := 39) (v := ?_) rfl rfl (by kernel_rfl) (by kernel_rfl) (by kernel_rfl) (fun _ _ _ h => h) (by rfl) ?_ hHeld ?_
                  rotate_left
                  · intro w hSw; (try dsimp only at hSw); go_simp; with_reducible rfl
                  try simp only [Act.put, List.setIfInBounds_toArray, List.set_cons_zero, List.set_cons_succ]
                  refine held_take (i := 3) (d := 42) (v := ?_) rfl rfl (by kernel_rfl) (by kernel_rfl) (by kernel_rfl) (fun _ _ _ h => h) (by rfl) ?_ hHeld ?_
                  rotate_left
                  · intro w hSw; (try dsimp only at hSw); go_simp; with_reducible rfl
                  try simp only [Act.put, List.setIfInBounds_toArray, List.set_cons_zero, List.set_cons_succ]
                  refine held_take (i := 4) (d := 43) (v := ?_) rfl rfl (by kernel_rfl) (by kernel_rfl) (by kernel_rfl) (fun _ _ _ h => h) (by rfl) ?_ hHeld ?_
                  rotate_left
                  · intro w hSw; (try dsimp only at hSw); go_simp; with_reducible rfl
                  try simp only [Act.put, List.setIfInBounds_toArray, List.set_cons_zero, List.set_cons_succ]
                  refine held_take (i := 5) (d := 44) (v := ?_) rfl rfl (by kernel_rfl) (by kernel_rfl) (by kernel_rfl) (fun _ _ _ h => h) (by rfl) ?_ hHeld ?_
                  rotate_left
                  · intro w hSw; (try dsimp only at hSw); go_simp; with_reducible rfl
                  try simp only [Act.put, List.setIfInBounds_toArray, List.set_cons_zero, List.set_cons_succ]
                  refine held_take (i := 6) (d := 45) (v := ?_) rfl rfl (by kernel_rfl) (by kernel_rfl) (by kernel_rfl) (fun _ _ _ h => h) (by rfl) ?_ hHeld ?_
                  rotate_left
                  · intro w hSw; (try dsimp only at hSw); go_simp; with_reducible rfl
                  try simp only [Act.put, List.setIfInBounds_toArray, List.set_cons_zero, List.set_cons_succ]
                  refine held_take (i := 7) (d := 46) (v := ?_) rfl rfl (by kernel_rfl) (by kernel_rfl) (by kernel_rfl) (fun _ _ _ h => h) (by rfl) ?_ hHeld ?_
                  rotate_left
                  · intro w hSw; (try dsimp only at hSw); go_simp; with_reducible rfl
                  try simp only [Act.put, List.setIfInBounds_toArray, List.set_cons_zero, List.set_cons_succ]
                  refine wpAnyH_ready (rs := [1]) (by kernel_rfl) (by simp) (AllReadyH.cons rfl (fun K hK => ?_) AllReadyH.nil)
                  go_simp

                  go_wp2_with fail
                  refine hK.out _ _ (HS1) (fun hHeld => ?_)
                  clear hK K
                  try simp only [Act.put, List.setIfInBounds_toArray, List.set_cons_zero, List.set_cons_succ]
                  refine wpAnyH_ready (rs := [2]) (by kernel_rfl) (by simp) (AllReadyH.cons rfl (fun K hK => ?_) AllReadyH.nil)
                  go_simp
                  go_at_call 76; refine (rtimesD x 10 sx1 s10 (by omega) (by decide)).mono ?_; rintro e w2 ⟨po, pn, pc, rfl, sp, hzp, hb2, _⟩; have hpn : pn ≤ 3000 := (by have h1 : lim (x * 10) ≤ on + 1 := Nat.le_trans (lim_mul _ _) (Nat.add_le_add (by rw [lim, sx.lenU]; exact Nat.le_refl _) (lim_small (by decide))); rw [lim, sp.lenU] at h1; omega)
                  go_wp2_with fail
                  refine hK.out _ _ (below_chain hHeld hb2) (fun hHeld => ?_)
                  clear hK K
                  try simp only [Act.put, List.setIfInBounds_toArray, List.set_cons_zero, List.set_cons_succ]
                  refine wpAnyH_ready (rs := [8]) (by kernel_rfl) (by simp) (AllReadyH.cons rfl (fun K hK => ?_) AllReadyH.nil)
                  go_simp
                  go_at_call 106; refine (natural_any d (by omega) _).mono ?_; rintro e w3 ⟨qo, qn, qc, rfl, sq, hzq, hb3, _⟩; have hqn : qn ≤ 1 := (by have h1 := lim_small (a := d) (by omega); rw [lim, sq.lenU] at h1; exact h1)
                  go_wp2_with fail
                  refine hK.out _ _ (below_chain hHeld hb3) (fun hHeld => ?_)
                  clear hK K
                  try simp only [Act.put, List.setIfInBounds_toArray, List.set_cons_zero, List.set_cons_succ]
                  refine wpAnyH_ready (rs := [9]) (by kernel_rfl) (by simp) (AllReadyH.cons rfl (fun K hK => ?_) AllReadyH.nil)
                  go_simp
                  go_at_call 79; refine (rplusD (x * 10) d (sp.next hb3) sq (by omega) (by omega)).mono ?_; rintro e w4 ⟨uo, un, uc, rfl, su, hzu, hb4, _⟩
                  go_wp2_with fail
                  refine hK.out _ _ (below_chain hHeld hb4) (fun hHeld => ?_)
                  clear hK K
                  try simp only [Act.put, List.setIfInBounds_toArray, List.set_cons_zero, List.set_cons_succ]
                  refine held_take (i := 10) (d := 4) (v := ?_) rfl rfl (by kernel_rfl) (by kernel_rfl) (by kernel_rfl) (fun _ _ _ h => h) (by rfl) ?_ hHeld ?_
                  rotate_left
                  · intro w hSw; (try dsimp only at hSw); go_simp; with_reducible rfl
                  try simp only [Act.put, List.setIfInBounds_toArray, List.set_cons_zero, List.set_cons_succ]
                  refine wpAnyH_done (by kernel_rfl) ?_ _
                  go_wp2_with fail
                  go_roundw
                  case rel => exact ⟨i + 1, x * 10 + d, uo, un, uc, by omega, by go_num, rfl, su, hzu, hnext, hHeld⟩
                  case measure => simp [RowKit.intOf]; omega
            · obtain rfl : i = s.size := by omega
              have hfin := hdec.out
              rw [List.take_of_length_le (by rw [← Hsz.out]; exact Nat.le_refl _)] at hfin
              have hr := hid (hok.out (by rw [hfin]; rfl))
              have hv : Hid (valDec s.data.toList = x) := hid (by unfold valDec; rw [hfin]; rfl)
              clear hfin hdec
              go_wp2_with fail
              go_ret2
              exact ⟨_, _, _, by rw [hr.out]; rfl, fun _ => by rw [hv.out]; exact sx, hz, hbel⟩
    · have hr : Hid (okDec s.data.toList = false) := hid (by unfold okDec; rw [decide_eq_false (show ¬ s.data.toList.length ≤ 2000 by omega)]; simp)
      have h2' : decide (s.size ≤ 2000) = false := decide_eq_false h2
      clear hsz h0
      go_enter Tryz.func173, Tryz.ntmps173
      go_wp2_with fail
      go_ret2
      exact ReadOut.no hr.out (Below.refl _ _)

end Go.Proofs.YtgohfieleckmgaaGreatDoor

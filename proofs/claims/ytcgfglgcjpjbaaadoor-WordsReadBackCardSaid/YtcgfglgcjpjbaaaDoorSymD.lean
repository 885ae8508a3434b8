/-
  Contracts: symbols.Valid, weightedref04.Valid. No condition but sizes.
-/
import Derived.Test.YtcgfglgcjpjbaaaDoorSymC
namespace Go.Proofs.YtcgfglgcjpjbaaaDoor
open Go.RowKit

/-- The first k names are names, none like one before it. -/
def okUpto (T : List ByteArray) (k : Nat) : Bool := (List.range k).all fun i => match T[i]? with | some x => named x && decide (findN (T.take i) x = 0) | none => true

theorem okUpto_succ {T : List ByteArray} {k : Nat} {x : ByteArray} (h : T[k]? = some x) : okUpto T (k + 1) = (okUpto T k && (named x && decide (findN (T.take k) x = 0))) := by
  simp only [okUpto, List.range_succ, List.all_append, List.all_cons, List.all_nil, Bool.and_true, h]

theorem okUpto_mono {T : List ByteArray} {k n : Nat} (h : k ≤ n) (hf : okUpto T k = false) : okUpto T n = false := by
  simp only [okUpto, List.all_eq_false] at hf ⊢
  obtain ⟨i, hi, h'⟩ := hf
  exact ⟨i, by have := List.mem_range.1 hi; exact List.mem_range.2 (by omega), h'⟩

/-- P4.1. -/
def valid (T : List ByteArray) : Bool := decide (1 ≤ T.length) && decide (T.length ≤ 32) && okUpto T T.length

set_option maxHeartbeats 400000 in
theorem ValidT_any (T : List ByteArray) (ao : Option Addr) (n cap : Nat) (w : World) (h : Sl w ao n cap (T.map .string)) :
    Calls Tryd.prog 18 #[.slice ao n cap] w fun e w' => e = .returned (.bool (valid T)) ∧ Below w.heap.size w w' := by
  have hb := h.bound
  have hle := h.le
  have hl := hid h.lenMap
  go_enter Tryd.func18, Tryd.ntmps18
  go_wp2_with fail
  go_loopw [7] (fun i wr => ∃ k : Nat, k ≤ n ∧ i = .int .i64 k ∧ Hid (okUpto T k = true) ∧ Below w.heap.size w wr) (fun i _ => n - (intOf i).toNat)
  case atStart => exact ⟨0, by omega, rfl, by simp [Hid, okUpto], Below.refl _ _⟩
  case round =>
    obtain ⟨k, hk, rfl, hok, hbel⟩ := hrel
    have hr := h.next hbel
    by_cases hlt : k < n
    · obtain ⟨x, hx', b, off, rfl, hcell⟩ := hr.get hlt
      have hx := hid hx'; clear hx'
      go_wp2_with fail
      refine (Named_any x _).mono ?_; rintro e w1 ⟨rfl, hb1⟩
      have hr1 := hr.next hb1
      cases hn : named x with
      | false =>
        go_wp2_with fail
        go_ret
        refine ⟨retB ?_, hbel.trans (hb1.mono hbel.size)⟩
        have hf : okUpto T (k + 1) = false := by rw [okUpto_succ hx.out]; simp [hn]
        have := okUpto_mono (n := T.length) (by rw [hl.out]; omega) hf
        simp [valid, this]
      | true =>
        go_wp2_with fail
        refine (contains_any _ _ _ _ _ _ (hr1.takeMap (Nat.le_of_lt hlt))).mono ?_; rintro e w2 ⟨rfl, rfl⟩
        cases hf : decide (0 < findN (T.take k) x) with
        | true =>
          go_wp2_with fail
          go_ret
          refine ⟨retB ?_, hbel.trans (hb1.mono hbel.size)⟩
          have hf : okUpto T (k + 1) = false := by
            rw [okUpto_succ hx.out]
            have := of_decide_eq_true hf
            simp only [Bool.and_eq_false_iff, decide_eq_false_iff_not]
            right; right; omega
          have := okUpto_mono (n := T.length) (by rw [hl.out]; omega) hf
          simp [valid, this]
        | false =>
          go_wp2_with fail
          go_roundw
          case rel =>
            refine ⟨k + 1, by omega, by go_num, ?_, hbel.trans (hb1.mono hbel.size)⟩
            have := of_decide_eq_false hf
            show okUpto T (k + 1) = true
            rw [okUpto_succ hx.out, hok.out, hn]
            simp; omega
          case measure => simp [intOf]; omega
    · obtain rfl : n = k := by omega
      have hfin : Hid (valid T = (decide (1 ≤ n) && decide (n ≤ 32))) := hid (by
        unfold valid; rw [hl.out, hok.out]; simp)
      by_cases h1 : 1 ≤ n
      · by_cases h2 : n ≤ 32
        · go_wp2_with fail
          go_ret
          exact ⟨retB (by rw [hfin.out, Bool.eq_iff_iff]; simp; try omega), hbel⟩
        · go_wp2_with fail
          go_ret
          exact ⟨retB (by rw [hfin.out, Bool.eq_iff_iff]; simp; try omega), hbel⟩
      · go_wp2_with fail
        go_ret
        exact ⟨retB (by rw [hfin.out, Bool.eq_iff_iff]; simp; try omega), hbel⟩


set_option maxHeartbeats 400000 in
theorem rValidT_any (T : List ByteArray) (ao : Option Addr) (n cap : Nat) (w : World) (h : Sl w ao n cap (T.map .string)) (hs : ∀ x ∈ T, x.size ≤ 140737488355328) :
    Calls Tryd.prog 12 #[.slice ao n cap] w fun e w' => e = .returned (.bool (valid T)) ∧ Below w.heap.size w w' := by
  have hb := h.bound
  have hle := h.le
  have hl := hid h.lenMap
  by_cases h1 : 1 ≤ n
  · by_cases h2 : n ≤ 32
    · have hfin : Hid (valid T = okUpto T n) := hid (by unfold valid; rw [hl.out]; simp [h1, h2])
      go_enter Tryd.func12, Tryd.ntmps12
      go_wp2_with fail
      go_loopw [3] (fun i wr => ∃ k : Nat, k ≤ n ∧ i = .int .i64 k ∧ Hid (okUpto T k = true) ∧ Below w.heap.size w wr) (fun i _ => n - (intOf i).toNat)
      case atStart => exact ⟨0, by omega, rfl, by simp [Hid, okUpto], Below.refl _ _⟩
      case round =>
        obtain ⟨k, hk, rfl, hok, hbel⟩ := hrel
        have hr := h.next hbel
        by_cases hlt : k < n
        · obtain ⟨x, hx', b, off, rfl, hcell⟩ := hr.get hlt
          have hxs := hs x (List.mem_of_getElem? hx')
          have hx := hid hx'; clear hx'
          cases hn : named x with
          | false =>
            go_wp2_with fail
            go_quiet ((go_at_call 27; exact quiet_eq ((rnamed_any _ _ hxs))))
            go_wp2_with fail
            go_ret
            refine ⟨retB ?_, below_drewN hbel _⟩
            have hf : okUpto T (k + 1) = false := by rw [okUpto_succ hx.out]; simp [hn]
            rw [hfin.out, okUpto_mono (by omega) hf]
          | true =>
            go_wp2_with fail
            cases hf : decide (0 < findN (T.take k) x) with
            | true =>
              have hf0 := of_decide_eq_true hf
              go_quiet ((first | (go_at_call 27; exact quiet_eq ((rnamed_any _ _ hxs))) | (go_at_call 28; exact quiet_eq (find_any _ _ _ _ _ _ ((hr.drewN _).takeMap (Nat.le_of_lt hlt))))))
              go_wp2_with fail
              go_ret
              refine ⟨retB ?_, below_drewN hbel _⟩
              have hf : okUpto T (k + 1) = false := by
                rw [okUpto_succ hx.out]
                simp only [Bool.and_eq_false_iff, decide_eq_false_iff_not]
                right; right; omega
              rw [hfin.out, okUpto_mono (by omega) hf]
            | false =>
              have hf0 : findN (T.take k) x ≤ 0 := by have := of_decide_eq_false hf; omega
              go_quiet ((first | (go_at_call 27; exact quiet_eq ((rnamed_any _ _ hxs))) | (go_at_call 28; exact quiet_eq (find_any _ _ _ _ _ _ ((hr.drewN _).takeMap (Nat.le_of_lt hlt))))))
              go_wp2_with fail
              go_roundw
              case rel =>
                refine ⟨k + 1, by omega, by go_num, ?_, below_drewN hbel _⟩
                show okUpto T (k + 1) = true
                rw [okUpto_succ hx.out, hok.out, hn]
                simp; omega
              case measure => simp [intOf]; omega
        · go_wp2_with fail
          go_ret
          refine ⟨retB ?_, hbel⟩
          obtain rfl : n = k := by omega
          rw [hfin.out, hok.out]
    · go_enter Tryd.func12, Tryd.ntmps12
      go_wp2_with fail
      go_ret
      exact ⟨retB (by simp [valid, hl.out, h2]), Below.refl _ _⟩
  · go_enter Tryd.func12, Tryd.ntmps12
    go_wp2_with fail
    go_ret
    exact ⟨retB (by simp [valid, hl.out, h1]), Below.refl _ _⟩

end Go.Proofs.YtcgfglgcjpjbaaaDoor

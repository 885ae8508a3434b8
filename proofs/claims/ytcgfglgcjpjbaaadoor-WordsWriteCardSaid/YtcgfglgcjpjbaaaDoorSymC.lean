/-
  Contracts: weightedref04.named, find, slices.Index, Contains over strings, weightedref04.Valid, symbols.Valid. No condition but sizes.
-/
import Derived.Test.YtcgfglgcjpjbaaaDoorSymB
import Derived.Deep.QuietTactic
import Derived.BigQuiet
namespace Go.Proofs.YtcgfglgcjpjbaaaDoor
open Go.RowKit

theorem get_data (s : ByteArray) (k : Nat) (h : k < s.size) : s.data.toList[k]? = some s[k] := by
  rw [Array.getElem?_toList]; exact Array.getElem?_eq_getElem (xs := s.data) h

theorem rnamed_any (s : ByteArray) (w : World) (hs : s.size ≤ 140737488355328) :
    Calls Tryd.prog 27 #[.string s] w fun e w' => e = .returned (.bool (named s)) ∧ w = w' := by
  have hz : s.toList.isEmpty = decide (s.size = 0) := by
    rw [ByteArray.toList_eq]; show s.data.toList.isEmpty = decide (s.data.size = 0); rw [← Array.length_toList]; cases s.data.toList <;> simp
  by_cases h0 : s.size = 0
  · go_enter Tryd.func27, Tryd.ntmps27
    go_wp2_with fail
    go_ret
    exact ⟨retB (by simp [named, hz, h0]), rfl⟩
  · by_cases h1 : s.size ≤ 24
    · cases h2 : s.toList == [48] with
      | true =>
        go_enter Tryd.func27, Tryd.ntmps27
        go_wp2_with fail
        go_ret
        exact ⟨retB (by simp [named, h2]), rfl⟩
      | false =>
        cases h3 : s.toList == [49] with
        | true =>
          go_enter Tryd.func27, Tryd.ntmps27
          go_wp2_with fail
          go_ret
          exact ⟨retB (by simp [named, h3]), rfl⟩
        | false =>
          have hfin : Hid (named s = s.data.toList.all inner) := hid (by simp [named, hz, h0, h1, h2, h3])
          clear hz
          go_enter Tryd.func27, Tryd.ntmps27
          go_wp2_with fail
          go_loop [3] (fun i => ∃ k : Nat, k ≤ s.size ∧ i = .int .i64 k ∧ Hid ((s.data.toList.take k).all inner = true)) (fun i => s.size - (intOf i).toNat)
          case atStart => exact ⟨0, by omega, rfl, by simp [Hid]⟩
          case round =>
            obtain ⟨k, hk, rfl, hall⟩ := hrel
            by_cases hlt : k < s.size
            · have hget := hid (get_data s k hlt)
              go_wp2_with fail
              refine (Inner_any _ _).mono ?_; rintro e w' ⟨rfl, rfl⟩
              cases hi : inner s[k] with
              | true =>
                go_wp2_with fail
                go_round
                case rel => exact ⟨k + 1, by omega, by go_num, all_take_snoc hget.out hall.out hi⟩
                case measure => simp [intOf]; omega
              | false =>
                go_wp2_with fail
                go_ret
                exact ⟨retB (by rw [hfin.out, any_of_get hget.out hi]), rfl⟩
            · go_wp2_with fail
              go_ret
              refine ⟨retB ?_, rfl⟩
              have := hall.out
              rw [List.take_of_length_le (by rw [Array.length_toList]; show s.size ≤ k; omega)] at this
              rw [hfin.out, this]
    · go_enter Tryd.func27, Tryd.ntmps27
      go_wp2_with fail
      go_ret
      exact ⟨retB (by simp [named, h1]), rfl⟩

/-- The place of a string in a list, or the list's length. -/
def place (l : List ByteArray) (s : ByteArray) : Nat := l.findIdx (fun x => x.toList == s.toList)

theorem place_le (l : List ByteArray) (s : ByteArray) : place l s ≤ l.length := List.findIdx_le_length

theorem place_none {l : List ByteArray} {s : ByteArray} (h : l.all (fun x => !(x.toList == s.toList)) = true) : place l s = l.length := by
  unfold place
  rw [List.findIdx_eq_length]
  intro x hx
  have := (List.all_eq_true.1 h) x hx
  simpa using this

theorem place_some {l : List ByteArray} {s x : ByteArray} {k : Nat} (h : l[k]? = some x) (ha : (l.take k).all (fun x => !(x.toList == s.toList)) = true) (hx : (x.toList == s.toList) = true) : place l s = k := by
  obtain ⟨hk, rfl⟩ := List.getElem?_eq_some_iff.1 h
  unfold place
  rw [List.findIdx_eq hk]
  refine ⟨hx, fun j hj => ?_⟩
  have := (List.all_eq_true.1 ha) l[j] (by rw [List.mem_take_iff_getElem]; exact ⟨j, by omega, rfl⟩)
  simpa using this

/-- weightedref04.find: from 1 on, or 0. -/
def findN (l : List ByteArray) (s : ByteArray) : Nat := if place l s < l.length then place l s + 1 else 0

theorem find_any (ss : List ByteArray) (s : ByteArray) (ao : Option Addr) (n cap : Nat) (w : World) (h : Sl w ao n cap (ss.map .string)) :
    Calls Tryd.prog 28 #[.slice ao n cap, .string s] w fun e w' => e = .returned (.int .i64 (findN ss s)) ∧ w = w' := by
  have hb := h.bound
  have hl := hid h.lenMap
  go_enter Tryd.func28, Tryd.ntmps28
  go_wp2_with fail
  go_loop [5] (fun i => ∃ k : Nat, k ≤ n ∧ i = .int .i64 k ∧ Hid ((ss.take k).all (fun x => !(x.toList == s.toList)) = true)) (fun i => n - (intOf i).toNat)
  case atStart => exact ⟨0, by omega, rfl, by simp [Hid]⟩
  case round =>
    obtain ⟨k, hk, rfl, hall⟩ := hrel
    by_cases hlt : k < n
    · obtain ⟨x, hx', b, off, rfl, hcell⟩ := h.get hlt
      have hx := hid hx'; clear hx'
      cases hi : x.toList == s.toList with
      | true =>
        go_wp2_with fail
        go_ret
        exact ⟨retI (by simp only [findN, place_some hx.out hall.out hi, if_pos (show k < ss.length by rw [hl.out]; exact hlt)]; omega), rfl⟩
      | false =>
        go_wp2_with fail
        go_round
        case rel => exact ⟨k + 1, by omega, by go_num, all_take_snoc hx.out hall.out (by simp [hi])⟩
        case measure => simp [intOf]; omega
    · go_wp2_with fail
      go_ret
      refine ⟨retI ?_, rfl⟩
      have := hall.out
      rw [List.take_of_length_le (by rw [hl.out]; omega)] at this
      simp [findN, place_none this]

theorem index_any (ss : List ByteArray) (s : ByteArray) (ao : Option Addr) (n cap : Nat) (w : World) (h : Sl w ao n cap (ss.map .string)) :
    Calls Tryd.prog 43 #[.slice ao n cap, .string s] w fun e w' => e = .returned (.int .i64 ((findN ss s : Int) - 1)) ∧ w = w' := by
  have hb := h.bound
  have hl := hid h.lenMap
  go_enter Tryd.func43, Tryd.ntmps43
  go_wp2_with fail
  go_loop [8] (fun i => ∃ k : Nat, k ≤ n ∧ i = .int .i64 k ∧ Hid ((ss.take k).all (fun x => !(x.toList == s.toList)) = true)) (fun i => n - (intOf i).toNat)
  case atStart => exact ⟨0, by omega, rfl, by simp [Hid]⟩
  case round =>
    obtain ⟨k, hk, rfl, hall⟩ := hrel
    by_cases hlt : k < n
    · obtain ⟨x, hx', b, off, rfl, hcell⟩ := h.get hlt
      have hx := hid hx'; clear hx'
      cases hi : s.toList == x.toList with
      | true =>
        go_wp2_with fail
        go_ret
        exact ⟨retI (by simp only [findN, place_some hx.out hall.out (by simpa using (beq_iff_eq.1 hi).symm), if_pos (show k < ss.length by rw [hl.out]; exact hlt)]; omega), rfl⟩
      | false =>
        go_wp2_with fail
        go_round
        case rel => exact ⟨k + 1, by omega, by go_num, all_take_snoc hx.out hall.out (by simpa using fun e => (beq_eq_false_iff_ne.1 hi) e.symm)⟩
        case measure => simp [intOf]; omega
    · go_wp2_with fail
      go_ret
      refine ⟨retI ?_, rfl⟩
      have := hall.out
      rw [List.take_of_length_le (by rw [hl.out]; omega)] at this
      simp [findN, place_none this]

theorem contains_any (ss : List ByteArray) (s : ByteArray) (ao : Option Addr) (n cap : Nat) (w : World) (h : Sl w ao n cap (ss.map .string)) :
    Calls Tryd.prog 37 #[.slice ao n cap, .string s] w fun e w' => e = .returned (.bool (decide (0 < findN ss s))) ∧ w = w' := by
  go_enter Tryd.func37, Tryd.ntmps37
  go_wp2_with fail
  refine (index_any ss s _ _ _ _ h).mono ?_; rintro e w' ⟨rfl, rfl⟩
  go_wp2_with fail
  go_ret
  exact ⟨retB (by simp only [decide_eq_decide]; omega), rfl⟩

end Go.Proofs.YtcgfglgcjpjbaaaDoor

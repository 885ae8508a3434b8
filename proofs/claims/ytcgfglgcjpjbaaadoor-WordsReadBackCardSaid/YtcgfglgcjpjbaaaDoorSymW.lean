/-
  Contracts of layer 4 that a seat of layer 5 wants: Strings, Find of both packages; plain facts about tables. No condition but sizes.
-/
import Derived.Test.YtcgfglgcjpjbaaaDoorSymD
import Derived.Deep.RegionHeld3
namespace Go.Proofs.YtcgfglgcjpjbaaaDoor
open Go.RowKit

/-- At most 40 strings of at most 40 bytes. -/
def fewStrings (T : List ByteArray) : Bool := decide (T.length ≤ 40) && T.all (fun s => decide (s.size ≤ 40))

theorem Strings_any (T : List ByteArray) (ao : Option Addr) (n cap : Nat) (w : World) (h : Sl w ao n cap (T.map .string)) :
    Calls Tryd.prog 5 #[.slice ao n cap] w fun e w' => e = .returned (.bool (fewStrings T)) ∧ w = w' := by
  have hb := h.bound
  have hl := hid h.lenMap
  by_cases h1 : n ≤ 40
  · have hfin : Hid (fewStrings T = T.all (fun s => decide (s.size ≤ 40))) := hid (by unfold fewStrings; rw [hl.out]; simp [h1])
    go_enter Tryd.func5, Tryd.ntmps5
    go_wp2_with fail
    go_loop [3] (fun i => ∃ k : Nat, k ≤ n ∧ i = .int .i64 k ∧ Hid ((T.take k).all (fun s => decide (s.size ≤ 40)) = true)) (fun i => n - (intOf i).toNat)
    case atStart => exact ⟨0, by omega, rfl, by simp [Hid]⟩
    case round =>
      obtain ⟨k, hk, rfl, hall⟩ := hrel
      by_cases hlt : k < n
      · obtain ⟨x, hx', b, off, rfl, hcell⟩ := h.get hlt
        have hx := hid hx'; clear hx'
        by_cases hi : x.size ≤ 40
        · go_wp2_with fail
          go_round
          case rel => exact ⟨k + 1, by omega, by go_num, all_take_snoc hx.out hall.out (by simp [hi])⟩
          case measure => simp [intOf]; omega
        · go_wp2_with fail
          go_ret
          exact ⟨retB (by rw [hfin.out, any_of_get hx.out (by simp [hi])]), rfl⟩
      · go_wp2_with fail
        go_ret
        refine ⟨retB ?_, rfl⟩
        have := hall.out
        rw [List.take_of_length_le (by rw [hl.out]; omega)] at this
        rw [hfin.out, this]
  · go_enter Tryd.func5, Tryd.ntmps5
    go_wp2_with fail
    go_ret
    exact ⟨retB (by simp [fewStrings, hl.out, h1]), rfl⟩

theorem valid_len {T : List ByteArray} (h : valid T = true) : T.length ≤ 32 := by
  simp only [valid, Bool.and_eq_true, decide_eq_true_eq] at h; omega

theorem few_sizes {T : List ByteArray} (h : fewStrings T = true) : ∀ x ∈ T, x.size ≤ 140737488355328 := by
  intro x hx
  simp only [fewStrings, Bool.and_eq_true, List.all_eq_true, decide_eq_true_eq] at h
  have := h.2 x hx
  omega

/-- P4.2. -/
def nameS (T : List ByteArray) (k : Int) : ByteArray :=
  if valid T = true ∧ 0 ≤ k ∧ k ≤ T.length then (if k = 0 then ⟨#[45]⟩ else T.getD (k.toNat - 1) ⟨#[]⟩) else ⟨#[]⟩
def findS (T : List ByteArray) (s : ByteArray) : Nat := if valid T = true then findN T s else 0

theorem retS {a b : ByteArray} (h : a = b) : Ending.returned (.string a) = .returned (.string b) := by rw [h]

theorem findN_le (T : List ByteArray) (s : ByteArray) : findN T s ≤ T.length := by
  have := place_le T s
  unfold findN; split <;> omega

theorem Find_any (T : List ByteArray) (s : ByteArray) (ao : Option Addr) (n cap : Nat) (w : World) (h : Sl w ao n cap (T.map .string)) :
    Calls Tryd.prog 23 #[.slice ao n cap, .string s] w fun e w' => e = .returned (.int .i64 (findS T s)) ∧ Below w.heap.size w w' := by
  have hb := h.bound
  have hl := hid h.lenMap
  go_enter Tryd.func23, Tryd.ntmps23
  go_wp2_with fail
  refine (ValidT_any T _ _ _ _ h).mono ?_; rintro e w1 ⟨rfl, hb1⟩
  cases hv : valid T with
  | false =>
    go_wp2_with fail
    go_ret
    exact ⟨retI (by simp [findS, hv]), hb1⟩
  | true =>
    go_wp2_with fail
    refine (index_any T s _ _ _ _ (h.next hb1)).mono ?_; rintro e w2 ⟨rfl, rfl⟩
    have hf : findN T s ≤ n := by rw [← hl.out]; exact findN_le T s
    go_wp2_with fail
    go_ret
    exact ⟨retI (by simp only [findS, hv, if_true]), hb1⟩

theorem rFind_any (T : List ByteArray) (s : ByteArray) (ao : Option Addr) (n cap : Nat) (w : World) (h : Sl w ao n cap (T.map .string)) (hs : ∀ x ∈ T, x.size ≤ 140737488355328) :
    Calls Tryd.prog 25 #[.slice ao n cap, .string s] w fun e w' => e = .returned (.int .i64 (findS T s)) ∧ Below w.heap.size w w' := by
  go_enter Tryd.func25, Tryd.ntmps25
  go_wp2_with fail
  refine (rValidT_any T _ _ _ _ h hs).mono ?_; rintro e w1 ⟨rfl, hb1⟩
  cases hv : valid T with
  | false =>
    go_wp2_with fail
    go_ret
    exact ⟨retI (by simp [findS, hv]), hb1⟩
  | true =>
    go_wp2_with fail
    refine (find_any T s _ _ _ _ (h.next hb1)).mono ?_; rintro e w2 ⟨rfl, rfl⟩
    go_wp2_with fail
    go_ret
    exact ⟨retI (by simp only [findS, hv, if_true]), hb1⟩

theorem ok_at {T : List ByteArray} {j : Nat} {x : ByteArray} (h : okUpto T T.length = true) (hx : T[j]? = some x) : findN (T.take j) x = 0 := by
  have hj := (List.getElem?_eq_some_iff.1 hx).1
  simp only [okUpto, List.all_eq_true] at h
  have := h j (List.mem_range.2 hj)
  rw [hx] at this
  simp only [Bool.and_eq_true, decide_eq_true_eq] at this
  exact this.2

theorem findN_zero {l : List ByteArray} {s : ByteArray} (h : findN l s = 0) : l.all (fun x => !(x.toList == s.toList)) = true := by
  have hp : place l s = l.length := by
    have := place_le l s
    unfold findN at h
    split at h <;> omega
  unfold place at hp
  rw [List.findIdx_eq_length] at hp
  rw [List.all_eq_true]
  intro y hy; rw [hp y hy]; rfl

theorem find_at {T : List ByteArray} {j : Nat} {x : ByteArray} (h : okUpto T T.length = true) (hx : T[j]? = some x) : findN T x = j + 1 := by
  have hj := (List.getElem?_eq_some_iff.1 hx).1
  have := place_some hx (findN_zero (ok_at h hx)) (by simp)
  unfold findN; rw [this, if_pos hj]

theorem valid_ok {T : List ByteArray} (h : valid T = true) : okUpto T T.length = true := by
  simp only [valid, Bool.and_eq_true] at h; exact h.2

theorem nameS_at {T : List ByteArray} {j : Nat} {x : ByteArray} (hv : valid T = true) (hx : T[j]? = some x) : nameS T ((j : Int) + 1) = x := by
  have hj := (List.getElem?_eq_some_iff.1 hx).1
  rw [nameS, if_pos ⟨hv, by omega, by omega⟩, if_neg (by omega), show ((j : Int) + 1).toNat - 1 = j by omega, List.getD, hx]; rfl

theorem find_name {T : List ByteArray} (hv : valid T = true) {k : Int} (h1 : 1 ≤ k) (h2 : k ≤ T.length) : (findS T (nameS T k) : Int) = k := by
  obtain ⟨j, rfl⟩ : ∃ j : Nat, k = j + 1 := ⟨(k - 1).toNat, by omega⟩
  have hj : j < T.length := by omega
  rw [nameS_at hv (List.getElem?_eq_getElem hj), findS, if_pos hv, find_at (valid_ok hv) (List.getElem?_eq_getElem hj)]
  omega

theorem valid_len1 {T : List ByteArray} (h : valid T = true) : 1 ≤ T.length := by
  simp only [valid, Bool.and_eq_true, decide_eq_true_eq] at h; omega


theorem named_facts {s : ByteArray} (h : named s = true) : 1 ≤ s.size ∧ s.size ≤ 24 ∧ ∀ c ∈ s.data.toList, inner c = true := by
  simp only [named, Bool.and_eq_true, decide_eq_true_eq, List.all_eq_true] at h
  refine ⟨?_, h.1.1.1.2, h.2⟩
  have h0 := h.1.1.1.1
  rcases Nat.eq_zero_or_pos s.size with e | e
  · have : s = ByteArray.empty := ByteArray.size_eq_zero_iff.1 e
    subst this
    simp at h0
  · exact e
theorem valid_named {T : List ByteArray} (h : valid T = true) : ∀ x ∈ T, named x = true := by
  intro x hx
  obtain ⟨j, hj⟩ := List.getElem?_of_mem hx
  have hl := (List.getElem?_eq_some_iff.1 hj).1
  have h := valid_ok h
  simp only [okUpto, List.all_eq_true] at h
  have := h j (List.mem_range.2 hl)
  rw [hj] at this
  simp only [Bool.and_eq_true] at this
  exact this.1

end Go.Proofs.YtcgfglgcjpjbaaaDoor

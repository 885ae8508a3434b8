/-
  Words: plain facts, and the contracts of Valid of both packages and of Alphabet. No condition.
-/
import Derived.Test.YtcgfglgcjpjbaaaDoorProg
import Derived.Test.YtcgfglgcjpjbaaaDoorNat
namespace Go.Proofs.YtcgfglgcjpjbaaaDoor
open Go.RowKit
set_option linter.unusedSimpArgs false
set_option linter.unusedVariables false

/-- Numbers as values. -/
def i64s (l : List Int) : List Value := l.map (Value.int .i64)
theorem i64s_one (l : List Int) : ∀ u ∈ i64s l, u.oneCell' = true := one_ints .i64 l

section
variable {w : World} {ao : Option Addr} {n cap : Nat} {l : List Int}
theorem Sl.i64 (h : Sl w ao n cap (i64s l)) {k : Nat} (hk : k < n) : ∃ x, l[k]? = some x ∧ ∃ b off, ao = some ⟨b, off, none⟩ ∧ w.cell? ⟨b, off + k, none⟩ = some (.int .i64 x) := h.get hk
theorem Sl.lenI (h : Sl w ao n cap (i64s l)) : l.length = n := h.lenMap
end

/-- A word over s symbols. -/
def okW (l : List Int) (s : Int) : Bool := decide (1 ≤ s ∧ s ≤ 32 ∧ l.length ≤ 256 ∧ ∀ x ∈ l, 1 ≤ x ∧ x ≤ s)

theorem okW_false {l : List Int} {s x : Int} {k : Nat} (h : l[k]? = some x) (hx : ¬ (1 ≤ x ∧ x ≤ s)) : okW l s = false := by
  unfold okW
  rw [decide_eq_false_iff_not]
  rintro ⟨_, _, _, h4⟩
  exact hx (h4 x (List.mem_of_getElem? h))

theorem okW_all {l : List Int} {s : Int} (h : ∀ x ∈ l, 1 ≤ x ∧ x ≤ s) : okW l s = (decide (1 ≤ s) && decide (s ≤ 32) && decide (l.length ≤ 256)) := by
  unfold okW
  rw [Bool.eq_iff_iff]
  simp only [decide_eq_true_eq, Bool.and_eq_true]
  exact ⟨fun ⟨a, b, c, _⟩ => ⟨⟨a, b⟩, c⟩, fun ⟨⟨a, b⟩, c⟩ => ⟨a, b, c, h⟩⟩

theorem take_all {l : List Int} {k : Nat} {x s : Int} (h : ∀ y ∈ l.take k, 1 ≤ y ∧ y ≤ s) (hx : l[k]? = some x) (h1 : 1 ≤ x) (h2 : x ≤ s) : ∀ y ∈ l.take (k + 1), 1 ≤ y ∧ y ≤ s := by
  intro y hy
  rw [take_snoc hx, List.mem_append] at hy
  rcases hy with hy | hy
  · exact h y hy
  · simp at hy; subst hy; exact ⟨h1, h2⟩

set_option maxHeartbeats 1000000 in
theorem wValid_any (l : List Int) (s : Int) (ao : Option Addr) (n cap : Nat) (w : World) (h : Sl w ao n cap (i64s l)) :
    Calls Tryd.prog 19 #[.slice ao n cap, .int .i64 s] w fun e w' => e = .returned (.bool (okW l s)) ∧ w = w' := by
  have hb := h.bound
  have hn := hid h.lenI
  go_enter Tryd.func19, Tryd.ntmps19
  go_wp2_with fail
  go_loop [6, 9] (fun _ i => ∃ k : Nat, k ≤ n ∧ i = .int .i64 k ∧ Hid (∀ y ∈ l.take k, 1 ≤ y ∧ y ≤ s)) (fun _ i => n - (intOf i).toNat)
  case atStart => exact ⟨0, Nat.zero_le _, rfl, hid (by simp)⟩
  case round =>
    obtain ⟨k, hk, rfl, hs⟩ := hrel
    by_cases hlt : k < n
    · obtain ⟨x, hx', b, off, rfl, hcell⟩ := h.i64 hlt
      have hx := hid hx'; clear hx'
      by_cases h1 : 1 ≤ x
      · have h1' : decide (x < 1) = false := decide_eq_false (by omega)
        by_cases h2 : x ≤ s
        · have h2' : decide (s < x) = false := decide_eq_false (by omega)
          go_wp2_with fail
          go_round
          case rel => exact ⟨k + 1, by omega, by go_num, hid (take_all hs.out hx.out h1 h2)⟩
          case measure => simp [intOf]; omega
        · have h2' : decide (s < x) = true := decide_eq_true (by omega)
          go_wp2_with fail
          go_ret
          exact ⟨retB (okW_false hx.out (by omega)).symm, rfl⟩
      · have h1' : decide (x < 1) = true := decide_eq_true (by omega)
        go_wp2_with fail
        go_ret
        exact ⟨retB (okW_false hx.out (by omega)).symm, rfl⟩
    · obtain rfl : k = n := by omega
      have hall := okW_all (s := s) (l := l) (by have := hs.out; rwa [List.take_of_length_le (by rw [hn.out]; omega)] at this)
      rw [hn.out] at hall
      have Hall := hid hall
      clear hall
      by_cases c1 : 1 ≤ s
      · have c1' : decide (1 ≤ s) = true := decide_eq_true c1
        by_cases c2 : s ≤ 32
        · have c2' : decide (s ≤ 32) = true := decide_eq_true c2
          go_wp2_with fail
          go_ret
          exact ⟨retB (by rw [Hall.out, c1', c2']; simp; try omega), rfl⟩
        · have c2' : decide (s ≤ 32) = false := decide_eq_false c2
          go_wp2_with fail
          go_ret
          exact ⟨retB (by rw [Hall.out, c1', c2']; simp), rfl⟩
      · have c1' : decide (1 ≤ s) = false := decide_eq_false c1
        go_wp2_with fail
        go_ret
        exact ⟨retB (by rw [Hall.out, c1']; simp), rfl⟩

theorem alphabet_any (s : Int) (w : World) : Calls Tryd.prog 41 #[.int .i64 s] w fun e w' => e = .returned (.bool (decide (1 ≤ s) && decide (s ≤ 32))) ∧ w = w' := by
  by_cases c1 : 1 ≤ s
  · have c1' : decide (1 ≤ s) = true := decide_eq_true c1
    go_enter Tryd.func41, Tryd.ntmps41
    go_wp2_with fail
    go_ret
    exact ⟨retB (by simp [c1']), rfl⟩
  · have c1' : decide (1 ≤ s) = false := decide_eq_false c1
    go_enter Tryd.func41, Tryd.ntmps41
    go_wp2_with fail
    go_ret
    exact ⟨retB (by simp [c1']), rfl⟩

set_option maxHeartbeats 1000000 in
theorem rwValid_any (l : List Int) (s : Int) (ao : Option Addr) (n cap : Nat) (w : World) (h : Sl w ao n cap (i64s l)) :
    Calls Tryd.prog 21 #[.slice ao n cap, .int .i64 s] w fun e w' => e = .returned (.bool (okW l s)) ∧ w = w' := by
  have hb := h.bound
  have hn := hid h.lenI
  by_cases c : 1 ≤ s ∧ s ≤ 32 ∧ n ≤ 256
  · obtain ⟨c1, c2, c3⟩ := c
    have ca : (decide (1 ≤ s) && decide (s ≤ 32)) = true := by simp [c1, c2]
    have cg : decide (256 < n) = false := decide_eq_false (by omega)
    have Ca := hid ca
    clear ca
    go_enter Tryd.func21, Tryd.ntmps21
    go_wp2_with fail
    refine (alphabet_any s _).mono ?_; rintro e w1 ⟨rfl, rfl⟩
    rw [Ca.out]
    go_wp2_with fail
    go_loop [5] (fun i => ∃ k : Nat, k ≤ n ∧ i = .int .i64 k ∧ Hid (∀ y ∈ l.take k, 1 ≤ y ∧ y ≤ s)) (fun i => n - (intOf i).toNat)
    case atStart => exact ⟨0, Nat.zero_le _, rfl, hid (by simp)⟩
    case round =>
      obtain ⟨k, hk, rfl, hs⟩ := hrel
      by_cases hlt : k < n
      · obtain ⟨x, hx', b, off, rfl, hcell⟩ := h.i64 hlt
        have hx := hid hx'; clear hx'
        by_cases h1 : 1 ≤ x
        · have h1' : decide (x < 1) = false := decide_eq_false (by omega)
          by_cases h2 : x ≤ s
          · have h2' : decide (s < x) = false := decide_eq_false (by omega)
            go_wp2_with fail
            go_round
            case rel => exact ⟨k + 1, by omega, by go_num, hid (take_all hs.out hx.out h1 h2)⟩
            case measure => simp [intOf]; omega
          · have h2' : decide (s < x) = true := decide_eq_true (by omega)
            go_wp2_with fail
            go_ret
            exact ⟨retB (okW_false hx.out (by omega)).symm, rfl⟩
        · have h1' : decide (x < 1) = true := decide_eq_true (by omega)
          go_wp2_with fail
          go_ret
          exact ⟨retB (okW_false hx.out (by omega)).symm, rfl⟩
      · obtain rfl : k = n := by omega
        have hall := okW_all (s := s) (l := l) (by have := hs.out; rwa [List.take_of_length_le (by rw [hn.out]; omega)] at this)
        rw [hn.out] at hall
        have Hall : Hid (okW l s = true) := hid (by rw [hall]; simp [c1, c2, c3])
        clear hall
        go_wp2_with fail
        go_ret
        exact ⟨retB Hall.out.symm, rfl⟩
  · have hf : Hid (okW l s = false) := hid (by unfold okW; rw [decide_eq_false_iff_not]; rintro ⟨a, b, d, _⟩; exact c ⟨a, b, by rw [hn.out] at d; exact d⟩)
    by_cases c2 : 1 ≤ s ∧ s ≤ 32
    · have ca : (decide (1 ≤ s) && decide (s ≤ 32)) = true := by simp [c2]
      have cg : decide (256 < n) = true := decide_eq_true (by omega)
      have cg' : decide ((256 : Int) < (n : Int)) = true := decide_eq_true (by omega)
      have Ca := hid ca
      clear ca c
      go_enter Tryd.func21, Tryd.ntmps21
      go_wp2_with fail
      refine (alphabet_any s _).mono ?_; rintro e w1 ⟨rfl, rfl⟩
      rw [Ca.out]
      go_wp2_with fail
      go_ret
      exact ⟨retB hf.out.symm, rfl⟩
    · have ca : (decide (1 ≤ s) && decide (s ≤ 32)) = false := by simp; omega
      have Ca := hid ca
      clear ca c c2
      go_enter Tryd.func21, Tryd.ntmps21
      go_wp2_with fail
      refine (alphabet_any s _).mono ?_; rintro e w1 ⟨rfl, rfl⟩
      rw [Ca.out]
      go_wp2_with fail
      go_ret
      exact ⟨retB hf.out.symm, rfl⟩

end Go.Proofs.YtcgfglgcjpjbaaaDoor

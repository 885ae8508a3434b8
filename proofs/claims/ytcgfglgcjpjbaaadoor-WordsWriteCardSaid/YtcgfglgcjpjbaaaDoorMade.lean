/-
  The contracts of made.Mod and made.Word.
-/
import Derived.Test.YtcgfglgcjpjbaaaDoorWrdC
namespace Go.Proofs.YtcgfglgcjpjbaaaDoor
open Go.RowKit
set_option linter.unusedSimpArgs false
set_option linter.unusedVariables false

theorem tmod_facts (k n : Int) (h1 : 1 ≤ n) : (-n < Int.tmod k n ∧ Int.tmod k n < n) ∧ (k % n = if Int.tmod k n < 0 then Int.tmod k n + n else Int.tmod k n) := by
  have a := Int.emod_nonneg k (show n ≠ 0 by omega)
  have b := Int.emod_lt_of_pos k (show 0 < n by omega)
  have c := Int.tmod_eq_emod (a := k) (b := n)
  have hn : (n.natAbs : Int) = n := by omega
  by_cases h : 0 ≤ k ∨ n ∣ k
  · rw [if_pos h] at c
    refine ⟨by omega, ?_⟩
    rw [if_neg (by omega)]; omega
  · rw [if_neg h, hn] at c
    have : k % n ≠ 0 := fun e => h (.inr (Int.dvd_of_emod_eq_zero e))
    refine ⟨by omega, ?_⟩
    rw [if_pos (by omega)]; omega

theorem mod_any (k n : Int) (h1 : 1 ≤ n) (h2 : n ≤ 32) (w : World) :
    Calls Tryd.prog 29 #[.int .i64 k, .int .i64 n] w fun e w' => e = .returned (.int .i64 (k % n)) ∧ w = w' := by
  obtain ⟨⟨b1, b2⟩, hk⟩ := tmod_facts k n h1
  obtain ⟨r, hr⟩ : ∃ r, Int.tmod k n = r := ⟨_, rfl⟩
  rw [hr] at b1 b2 hk
  have hwr : IntKind.i64.wrap (Int.tmod k n) = r := by rw [hr, IntKind.wrap_i64]; omega
  rw [hk]
  clear hk
  go_enter Tryd.func29, Tryd.ntmps29
  by_cases hneg : r < 0
  · rw [if_pos hneg]
    go_wp2_with fail
    go_ret
    exact ⟨rfl, rfl⟩
  · rw [if_neg hneg]
    go_wp2_with fail
    go_ret
    exact ⟨rfl, rfl⟩

/-- A made word. -/
def wordM (l : List Int) (s : Int) (m : Nat) : List Int := (l.take m).map fun x => 1 + x % s

theorem wordM_mem {l : List Int} {s : Int} {m : Nat} (hs : 1 ≤ s) : ∀ x ∈ wordM l s m, 1 ≤ x ∧ x ≤ s := by
  intro x hx
  obtain ⟨y, _, rfl⟩ := List.mem_map.1 hx
  have a := Int.emod_nonneg y (show s ≠ 0 by omega)
  have b := Int.emod_lt_of_pos y (show 0 < s by omega)
  omega
theorem wordM_len (l : List Int) (s : Int) (m : Nat) : (wordM l s m).length ≤ m := by unfold wordM; simp; omega
theorem wordM_snoc {l : List Int} {s x : Int} {k : Nat} (h : l[k]? = some x) : wordM l s (k + 1) = wordM l s k ++ [1 + x % s] := by
  unfold wordM; rw [take_snoc h]; simp

set_option maxHeartbeats 2000000 in
theorem word_any (l : List Int) (s : Int) (h1 : 1 ≤ s) (h2 : s ≤ 32) (most : Nat) (hm : most ≤ 100) (ao : Option Addr) (n cap : Nat) (w : World) (h : Sl w ao n cap (i64s l)) :
    Calls Tryd.prog 13 #[.slice ao n cap, .int .i64 s, .int .i64 most] w (IntsRes w (wordM l s most)) := by
  have hb := h.bound
  have hn := hid h.lenI
  go_enter Tryd.func13, Tryd.ntmps13
  go_wp2_with fail
  go_loopw [7, 8] (fun o i wr => ∃ (k : Nat) (oo : Option Addr) (oc : Nat), k ≤ n ∧ k ≤ most ∧ i = .int .i64 k ∧ o = .slice oo k oc ∧ (oo = none → oc = 0) ∧ wr.ownsRow w.heap.size 3 1 (.slice oo k oc) k (i64s (wordM l s k)) ∧ Below w.heap.size w wr) (fun _ i _ => n - (intOf i).toNat)
  case atStart => exact ⟨0, none, 0, Nat.zero_le _, Nat.zero_le _, rfl, rfl, fun _ => rfl, World.ownsRow_nil _ _ _ _, Below.refl _ _⟩
  case round =>
    obtain ⟨k, oo, oc, hkn, hkm, rfl, rfl, hz, hown, hbel⟩ := hrel
    by_cases hlt : k < n
    · by_cases hlm : k < most
      · obtain ⟨x, hx', bb, off, rfl, hcell⟩ := (h.next hbel).i64 hlt
        obtain ⟨r, hr⟩ : ∃ r, x % s = r := ⟨_, rfl⟩
        have hr1 : 0 ≤ r := by rw [← hr]; exact Int.emod_nonneg x (by omega)
        have hr2 : r < s := by rw [← hr]; exact Int.emod_lt_of_pos x (by omega)
        have hst : Hid (wordM l s (k + 1) = wordM l s k ++ [1 + r]) := hid (by rw [wordM_snoc hx', hr])
        have Hr := hid hr
        clear hr hx'
        have hlit : Sl (wr.alloc (.cells #[.int .i64 (1 + r)] 3)) (some ⟨wr.heap.size, 0, none⟩) 1 1 (i64s [1 + r]) := Sl.lit wr [.int .i64 (1 + r)] 3 (by simp [maxLen])
        go_wp2_with fail
        refine (mod_any x s h1 h2 _).mono ?_; rintro e w1 ⟨rfl, rfl⟩
        rw [Hr.out]
        go_wp2_with (at_builtin; go_loud (refine wp_app rfl (.tmp 20) (.tmp 28) 23 rfl 3 _ 8 Tryd.underlying23 Tryd.infoI64 rfl w.heap.size _ k _ rfl (hown.alloc _) _ 1 1 _ rfl hlit (fun h => by cases h) (i64s_one _) (by omega) (by omega) (by have := hbel.size; simp only [World.size_alloc]; omega) ?_))
        intro v' w2 hown2 hg2 hb2
        have hbel2 : Below w.heap.size w w2 := (hbel.alloc hbel.size _).trans hb2
        obtain ⟨no, nc, rfl, hsl, hnz⟩ := ownsZ hown2
        have hown3 : w2.ownsRow w.heap.size 3 1 (.slice no (k + 1) nc) (k + 1) (i64s (wordM l s (k + 1))) := by rw [hst.out]; simpa [i64s] using hown2
        clear hown2 hsl
        go_wp2_with fail
        go_roundw
        case rel => exact ⟨k + 1, no, nc, by omega, by omega, by go_num, rfl, hnz, hown3, hbel2⟩
        case measure => simp [intOf]; omega
      · obtain rfl : k = most := by omega
        go_wp2_with fail
        go_ret
        obtain ⟨no, nc, e, hsl, hnz⟩ := ownsZ hown
        cases e
        exact ⟨_, _, _, rfl, hsl, hz, hbel⟩
    · obtain rfl : k = n := by omega
      have hfin : wordM l s k = wordM l s most := by
        unfold wordM
        rw [List.take_of_length_le (by rw [hn.out]; omega), List.take_of_length_le (by rw [hn.out]; omega)]
      rw [hfin] at hown
      clear hfin
      go_wp2_with fail
      go_ret
      obtain ⟨no, nc, e, hsl, hnz⟩ := ownsZ hown
      cases e
      exact ⟨_, _, _, rfl, hsl, hz, hbel⟩

end Go.Proofs.YtcgfglgcjpjbaaaDoor

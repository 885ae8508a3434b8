/-
  The contracts of the reference's SameLists, of the statements' sum, of side and fits. No condition but sizes.
-/
import Derived.Test.YtcoidofchofljaaMatA
namespace Go.Proofs.Ytcoidofchofljaa
open Go.RowKit
set_option linter.unusedSimpArgs false
set_option linter.unusedVariables false

/-- One cell. -/
abbrev E1 (B o : Nat) (x : Value) (w : World) : Prop := w.cell? ⟨B, o, none⟩ = some x
theorem E1.next {B o : Nat} {x : Value} {w w' : World} (h : E1 B o x w) (hb : Below w.heap.size w w') : E1 B o x w' :=
  ((bcell hb).1 _ _ (World.block_lt_of_cell? w _ h)).trans h

set_option maxHeartbeats 2000000 in
theorem sameM_any (m : Nat) (L : Nat → Nat) (F G : Nat → V) (hFG : ∀ i, i < m → ∀ j, j < L i → F i j = G i j) (ao : Option Addr) (cap : Nat) (bo : Option Addr) (cap' : Nat) (w : World) (h : Mat RatC w ao m cap L F) (h' : Mat RatC w bo m cap' L G) :
    Calls Try.prog 19 #[.slice ao m cap, .slice bo m cap'] w fun e w' => e = .returned (.bool true) ∧ Below w.heap.size w w' := by
  have hb := h.bound
  have HFG := hid hFG
  clear hFG
  have hnn : ((m : Int) != m) = false := by simp
  go_enter Try.func19, Try.ntmps19
  go_wp2_with fail
  go_loopw [5] (fun iv wr => ∃ k : Nat, k ≤ m ∧ iv = .int .i64 k ∧ Below w.heap.size w wr) (fun i _ => m - (intOf i).toNat)
  case atStart => exact ⟨0, by omega, rfl, Below.refl _ _⟩
  case round =>
    obtain ⟨k, hk, rfl, hbel⟩ := hrel
    by_cases hlt : k < m
    · obtain ⟨b, o, rfl, ro, rc, t1, hv⟩ := (h.nextC hbel).get hlt
      obtain ⟨b', o', rfl, ro', rc', u1, hv'⟩ := (h'.nextC hbel).get hlt
      have hd := (Below.refl wr.heap.size wr).drew
      obtain ⟨lk, hlk⟩ : ∃ lk, L k = lk := ⟨_, rfl⟩
      have hfg := HFG.out k hlt
      rw [hlk] at t1 u1 hv hv' hfg
      have hFG := hid hfg
      clear hlk hfg
      have e1 : E1 b (o + k) (.slice ro lk rc) wr := t1
      have e2 : E1 b' (o' + k) (.slice ro' lk rc') wr := u1
      have hS0 : E1 b (o + k) (.slice ro lk rc) wr.drew ∧ E1 b' (o' + k) (.slice ro' lk rc') wr.drew := ⟨e1.next hd, e2.next hd⟩
      have hK : ∀ w' w'', (E1 b (o + k) (.slice ro lk rc) w' ∧ E1 b' (o' + k) (.slice ro' lk rc') w') → Below w'.heap.size w' w'' → (E1 b (o + k) (.slice ro lk rc) w'' ∧ E1 b' (o' + k) (.slice ro' lk rc') w'') := fun w' w'' h hb => ⟨h.1.next hb, h.2.next hb⟩
      clear e1 e2 t1 u1
      go_wp2_with fail
      go_region_held3 (fun w' => E1 b (o + k) (.slice ro lk rc) w' ∧ E1 b' (o' + k) (.slice ro' lk rc') w')
        (repeat (first | with_reducible assumption | with_reducible refine hK _ _ ?_ hb2))
        (first | (go_at_call 12; refine (sameV_any lk (F k) (G k) hFG.out _ _ _ _ _ (hv.nextC hd) (hv'.nextC hd)).mono ?_; rintro e w2 ⟨rfl, hb2⟩))
      have hbel2 : Below w.heap.size w w2 := below_chain (below_chain hbel hd) hb2
      go_wp2_with fail
      go_roundw
      case rel => exact ⟨k + 1, by omega, by go_num, hbel2⟩
      case measure => simp [intOf]; omega
    · obtain rfl : k = m := by omega
      go_wp2_with fail
      go_ret
      exact ⟨rfl, hbel⟩

theorem side_any (n : Nat) (hn : n ≤ 9223372036854775807) (w : World) :
    Calls Try.prog 26 #[.int .i64 n] w fun e w' => e = .returned (.bool (decide (1 ≤ n ∧ n ≤ 64))) ∧ w = w' := by
  by_cases h1 : 1 ≤ n
  · have hr : Hid (decide (1 ≤ n ∧ n ≤ 64) = decide ((n : Int) ≤ 64)) := hid (by rw [decide_eq_decide]; omega)
    have c1 : decide (1 ≤ n) = true := decide_eq_true h1
    have c2 : decide ((1 : Int) ≤ (n : Int)) = true := decide_eq_true (by omega)
    go_enter Try.func26, Try.ntmps26
    go_wp2_with fail
    go_ret
    exact ⟨retB (by rw [hr.out]), rfl⟩
  · have hr : Hid (decide (1 ≤ n ∧ n ≤ 64) = false) := hid (decide_eq_false (by omega))
    have c1 : decide (1 ≤ n) = false := decide_eq_false h1
    have c2 : decide ((1 : Int) ≤ (n : Int)) = false := decide_eq_false (by omega)
    go_enter Try.func26, Try.ntmps26
    go_wp2_with fail
    go_ret
    exact ⟨retB (by rw [hr.out]), rfl⟩

end Go.Proofs.Ytcoidofchofljaa

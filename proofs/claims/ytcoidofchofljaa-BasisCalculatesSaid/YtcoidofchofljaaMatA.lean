/-
  The contracts of the reference's copied, of the statements' vectors, of Same for lists. No condition but sizes.
-/
import Derived.Test.YtcoidofchofljaaMat
namespace Go.Proofs.Ytcoidofchofljaa
open Go.RowKit
set_option linter.unusedSimpArgs false
set_option linter.unusedVariables false

set_option maxHeartbeats 2000000 in
theorem rcopied_any (ao : Option Addr) (m cap : Nat) (L : Nat → Nat) (F : Nat → V) (w : World) (h : Mat RatV w ao m cap L F) (hm : m ≤ 100000) (hL : ∀ i, i < m → L i ≤ 100000) :
    Calls Try.prog 45 #[.slice ao m cap] w (MatOut w m L F) := by
  go_enter Try.func45, Try.ntmps45
  go_wp2_with fail
  go_loopw [3, 4] (fun ov iv wr => ∃ k : Nat, k ≤ m ∧ iv = .int .i64 k ∧ MOwn wr w.heap.size ov k L F ∧ Below w.heap.size w wr) (fun _ i _ => m - (intOf i).toNat)
  case atStart => exact ⟨0, by omega, rfl, MOwn.nil _ _ _ _, Below.refl _ _⟩
  case round =>
    obtain ⟨k, hk, rfl, hown, hbel⟩ := hrel
    by_cases hlt : k < m
    · obtain ⟨b, o, rfl, ro, rc, hcell, hv⟩ := (h.nextV hbel).get hlt
      have hlk := hL k hlt
      obtain ⟨lk, hlk2⟩ : ∃ lk, L k = lk := ⟨_, rfl⟩
      rw [hlk2] at hcell hv hlk
      have Hlk := hid hlk2
      clear hlk2
      go_wp2_with fail
      refine (take_any _ lk _ (F k) _ hv hlk).mono ?_; rintro e w2 ⟨v2, rfl, hown2, hb2⟩
      have hbel2 := below_chain hbel hb2
      obtain ⟨so, sc, rfl, hvec⟩ := hown2.vec
      have hownA := hown.next hb2
      have hownB := hownA.next (below_alloc (.cells #[.slice so lk sc] 30))
      have hvecB := hvec.nextC (below_alloc (.cells #[.slice so lk sc] 30))
      have hcl : (w2.alloc (.cells #[.slice so lk sc] 30)).cell? ⟨w2.heap.size, 0, none⟩ = some (.slice so lk sc) := by simp [go_sem]
      clear hown hown2 hownA hvec
      go_wp2_with (at_builtin; go_loud (refine wp_appM rfl (.tmp 11) (.tmp 17) rfl w.heap.size _ k L F rfl hownB w2.heap.size 1 rfl so lk sc hcl (F k) hvecB (by omega) (by have := hbel2.size; simp only [World.size_alloc]; omega) ?_))
      intro v' w4 hown4 hg4 hb4 _
      have hbel4 : Below w.heap.size w w4 := (hbel2.alloc hbel2.size _).trans hb4
      have hown5 : MOwn w4 w.heap.size v' (k + 1) L F := hown4.congr (fun i hi => by
        unfold updN; by_cases hik : i = k
        · rw [if_pos hik, hik]; exact Hlk.out.symm
        · rw [if_neg hik]) (fun i hi j hj => by
        unfold updF; by_cases hik : i = k
        · rw [if_pos hik, hik]
        · rw [if_neg hik])
      clear hown4
      go_wp2_with fail
      go_roundw
      case rel => exact ⟨k + 1, by omega, by go_num, hown5, hbel4⟩
      case measure => simp [intOf]; omega
    · obtain rfl : k = m := by omega
      go_wp2_with fail
      go_ret
      exact ⟨_, rfl, hown, hbel⟩

/-- The made vectors. -/
def madeF (raw : List Int) (k : Nat) : Nat → V := fun i j => numQ (raw.getD (i * k + j) 0)

set_option maxHeartbeats 4000000 in
theorem vectors_any (n k : Nat) (hn : n ≤ 100) (hk : k ≤ 100) (raw : List Int) (hraw : ∀ x ∈ raw, -9223372036854775808 ≤ x ∧ x ≤ 9223372036854775807) (ao : Option Addr) (r cap : Nat) (w : World) (h : Sl w ao r cap (raw.map (.int .i64))) :
    Calls Try.prog 7 #[.int .i64 n, .int .i64 k, .slice ao r cap] w (MatOut w n (fun _ => k) (madeF raw k)) := by
  have hr := h.bound
  have HR : Hid (∀ i, -9223372036854775808 ≤ raw.getD i 0 ∧ raw.getD i 0 ≤ 9223372036854775807) := hid (fun i => by
    rw [List.getD_eq_getElem?_getD]
    cases hx : raw[i]? with
    | none => simp
    | some x => exact hraw x (List.mem_of_getElem? hx))
  clear hraw
  go_enter Try.func7, Try.ntmps7
  go_wp2_with fail
  go_loopw [7, 8] (fun ov iv wr => ∃ i : Nat, i ≤ n ∧ iv = .int .i64 i ∧ MOwn wr w.heap.size ov i (fun _ => k) (madeF raw k) ∧ Below w.heap.size w wr) (fun _ i _ => n - (intOf i).toNat)
  case atStart => exact ⟨0, by omega, rfl, MOwn.nil _ _ _ _, Below.refl _ _⟩
  case round =>
    obtain ⟨i, hi, rfl, hown, hbel⟩ := hrel
    by_cases hlt : i < n
    · obtain ⟨p, hp⟩ : ∃ p, i * k = p := ⟨_, rfl⟩
      have hp2 : p ≤ 10000 := by rw [← hp]; exact Nat.mul_le_mul (show i ≤ 100 by omega) hk
      have hpi : (i : Int) * (k : Int) = (p : Int) := by rw [← hp]; simp
      have hw1 : IntKind.i64.wrap ((i : Int) * (k : Int)) = (p : Int) := by rw [hpi, IntKind.wrap_i64]; omega
      have Hp := hid hp
      clear hp
      rename World => W0
      go_wp2_with fail
      go_loopw [9, 10] (fun ov jv wr2 => ∃ j : Nat, j ≤ k ∧ jv = .int .i64 j ∧ VOwn wr2 W0.heap.size ov j (madeF raw k i) ∧ Below W0.heap.size W0 wr2) (fun _ j _ => k - (intOf j).toNat)
      case atStart => exact ⟨0, by omega, rfl, VOwn.nil _ _ _, Below.refl _ _⟩
      case round =>
        obtain ⟨j, hj, rfl, hv, hbel2⟩ := hrel
        have hbel3 := below_chain hbel hbel2
        by_cases hjk : j < k
        · have hw2 : IntKind.i64.wrap ((p : Int) + (j : Int)) = ((p + j : Nat) : Int) := by rw [IntKind.wrap_i64]; omega
          obtain ⟨x, hx⟩ : ∃ x, raw.getD (p + j) 0 = x := ⟨_, rfl⟩
          obtain ⟨x1, x2⟩ := HR.out (p + j)
          rw [hx] at x1 x2
          have hval : Hid (madeF raw k i j = numQ x) := hid (by unfold madeF; rw [Hp.out, hx])
          have hat := at_any' raw (p + j) (by omega) _ _ _ wr (h.next hbel3)
          rw [hx] at hat
          have Hat := hid hat
          clear hx hat
          go_wp2_with fail
          refine Hat.out.mono ?_; rintro e w2 ⟨rfl, rfl⟩
          go_wp2_with fail
          refine (number_any x x1 x2 _).mono ?_; rintro e w2 ⟨v2, rfl, C2, hb2⟩
          rw [← hval.out] at C2
          have hbelA := below_chain hbel2 hb2
          have hv2 := hv.next hb2
          obtain ⟨rb, ro, rn, rc, so, sn, sc, rfl⟩ := C2.shape
          have C3' := C2.next (below_alloc (.cells #[.bool rb, .slice ro rn rc, .slice so sn sc] 39))
          have hv3 := hv2.next (below_alloc (.cells #[.bool rb, .slice ro rn rc, .slice so sn sc] 39))
          have hc3 : C3 w2.heap.size (.bool rb) (.slice ro rn rc) (.slice so sn sc) (w2.alloc (.cells #[.bool rb, .slice ro rn rc, .slice so sn sc] 39)) := ⟨by simp [go_sem], by simp [go_sem], by simp [go_sem]⟩
          clear hv hv2 C2 Hat
          go_wp2_with (at_builtin; go_loud (refine wp_appV rfl (.tmp 21) (.tmp 30) rfl W0.heap.size _ j (madeF raw k i) rfl hv3 w2.heap.size 1 rfl rb ro rn rc so sn sc hc3 (madeF raw k i j) C3' (by omega) (by have := hbelA.size; simp only [World.size_alloc]; omega) ?_))
          intro v' w4 hv4 hg4 hb4 _
          have hbelB : Below W0.heap.size W0 w4 := (hbelA.alloc hbelA.size _).trans hb4
          have hv5 : VOwn w4 W0.heap.size v' (j + 1) (madeF raw k i) := hv4.congr (fun a ha => by
            by_cases haj : a = j
            · subst haj; rw [updV_at]
            · rw [updV_ne _ _ haj])
          clear hv4
          go_wp2_with fail
          go_roundw
          case rel => exact ⟨j + 1, by omega, by go_num, hv5, hbelB⟩
          case measure => simp [intOf]; omega
        · obtain rfl : j = k := by omega
          obtain ⟨so, sc, rfl, hvec⟩ := hv.vec
          have hownA := hown.next hbel2
          have hownB := hownA.next (below_alloc (.cells #[.slice so j sc] 30))
          have hvecB := hvec.nextC (below_alloc (.cells #[.slice so j sc] 30))
          have hcl : (wr.alloc (.cells #[.slice so j sc] 30)).cell? ⟨wr.heap.size, 0, none⟩ = some (.slice so j sc) := by simp [go_sem]
          clear hown hownA hv hvec
          go_wp2_with (at_builtin; go_loud (refine wp_appM rfl (.tmp 32) (.tmp 34) rfl w.heap.size _ i (fun _ => j) (madeF raw j) rfl hownB wr.heap.size 1 rfl so j sc hcl (madeF raw j i) hvecB (by omega) (by have := hbel3.size; simp only [World.size_alloc]; omega) ?_))
          intro v' w4 hown4 hg4 hb4 _
          have hbel4 : Below w.heap.size w w4 := (hbel3.alloc hbel3.size _).trans hb4
          have hown5 : MOwn w4 w.heap.size v' (i + 1) (fun _ => j) (madeF raw j) := hown4.congr (fun a ha => by
            unfold updN; split <;> rfl) (fun a ha b hb => by
            unfold updF; by_cases hai : a = i
            · rw [if_pos hai, hai]
            · rw [if_neg hai])
          clear hown4
          go_wp2_with fail
          go_roundw
          case rel => exact ⟨i + 1, by omega, by go_num, hown5, hbel4⟩
          case measure => simp [intOf]; omega
    · obtain rfl : i = n := by omega
      go_wp2_with fail
      go_ret
      exact ⟨_, rfl, hown, hbel⟩

end Go.Proofs.Ytcoidofchofljaa

/-
  The contracts of rational.proper and rational.Valid. No condition but sizes.
-/
import Derived.Test.YteancfcmiiddiaaLimL
import Derived.Deep.RegionHeld3
namespace Go.Proofs.Yteancfcmiiddiaa
open Go.RowKit

theorem proper_iff {l : List Nat} : strip l = l ↔ l = [] ∨ l.getLastD 1 ≠ 0 := by
  induction l with
  | nil => simp [strip]
  | cons x l ih =>
    cases l with
    | nil => simp [strip]
    | cons y l =>
      have : (x :: y :: l).getLastD 1 = (y :: l).getLastD 1 := by simp [List.getLastD]
      rw [this]
      rw [strip]
      by_cases h : strip (y :: l) = y :: l
      · rw [if_neg (by rw [h]; simp), h]
        have := ih.1 h
        simp only [reduceCtorEq, false_or] at this
        exact ⟨fun _ => .inr this, fun _ => rfl⟩
      · have h2 : ¬ (y :: l).getLastD 1 ≠ 0 := fun h2 => h (ih.2 (.inr h2))
        constructor
        · intro h3
          exfalso
          split at h3
          · cases h3
          · injection h3 with _ h3; exact h h3
        · intro h3; exact absurd (h3.resolve_left (by simp)) h2

def proper (l : List Nat) : Bool := decide (strip l = l)

theorem proper_any (l : List Nat) (ao : Option Addr) (n cap : Nat) (w : World) (h : Sl w ao n cap (u32s l)) :
    Calls Try.prog 165 #[.slice ao n cap] w fun e w' => e = .returned (.bool (proper l)) ∧ w = w' := by
  have hl := h.lenU
  cases n with
  | zero =>
    obtain rfl : l = [] := List.eq_nil_of_length_eq_zero hl
    have : proper [] = true := rfl
    rw [this]
    go_enter Try.func165, Try.ntmps165
    go_wp2_with fail
    go_ret
    exact ⟨rfl, rfl⟩
  | succ k =>
    obtain ⟨y, hy, b, off, rfl, hcell⟩ := h.u32 (show k < k + 1 by omega)
    have hbd := h.bound
    have hp : proper l = decide (y ≠ 0) := by
      unfold proper
      rw [decide_eq_decide, proper_iff]
      have hne : l ≠ [] := by rintro rfl; simp at hl
      have : l.getLastD 1 = y := by
        rw [List.getLastD_eq_getLast?, List.getLast?_eq_getElem?, show l.length - 1 = k by omega, hy]; rfl
      rw [this]
      simp [hne]
    have hz : decide ((y : Int) ≠ 0) = decide (y ≠ 0) := by rw [decide_eq_decide]; omega
    have hl := hid hl
    have hy := hid hy
    rw [hp, ← hz]
    go_enter Try.func165, Try.ntmps165
    go_wp2_with fail
    go_ret
    refine ⟨retB ?_, rfl⟩
    have h0 : ((k : Int) + 1 == 0) = false := by simp; omega
    rw [h0, Bool.false_or, bne]
    rw [show ((y : Int) == 0) = decide (y = 0) from by rw [Bool.eq_iff_iff]; simp]
    by_cases hy0 : y = 0
    · simp [hy0]
    · simp [hy0]

/-- The lists of a number in its only representation. -/
def ratOk (neg : Bool) (N D : List Nat) : Bool :=
  proper N && proper D && (if N = [] then !neg && decide (D = []) else if D = [] then true else decide (val D ≠ 1) && decide (Nat.gcd (val N) (val D) = 1))

theorem below_chain {a b c : World} (h : Below a.heap.size a b) (h' : Below b.heap.size b c) : Below a.heap.size a c := h.trans (h'.mono h.size)

theorem proper_dig {l : List Nat} (h : Lim l) (hp : proper l = true) : l = dig (val l) := (dig_val h (of_decide_eq_true hp)).symm

section
variable {P : Program} {ops : Array Oper} {Q : Exit → Act → World → Prop} {md : Region.Mode} {S : World → Prop}
theorem held_take {i d : Nat} {oi : Oper} {v : Value} {fuel : Nat} {listed : Array Bool} {a : Act} {w : World} (hi : ops[i]? = some oi) (hd : oi.dst = some d)
    (hs : Region.noSelect ops = true) (hf : Region.free md ops listed i = true) (hr : (Region.ready md ops listed).contains i = true)
    (hQ : ∀ c a w, Q (.panic c) (a.put oi.dst v) w → Q (.panic c) a w) (hw : Region.wanted oi (yielded ops a.tmps) = true) (hy : ∀ w, S w → (execOp a.eval oi).run P w = .ok (.value v) w) (hS : S w)
    (h : wpAnyH P md ops Q S fuel (listed.setIfInBounds i true) (a.put (some d) v) w) : wpAnyH P md ops Q S (fuel + 1) listed a w :=
  wpAnyH_take hi hs hf hr hQ (.inl ⟨hw, hy⟩) hS (by rw [hd]; exact h)
/-- An operation that its guard passes over. -/
theorem held_skip {i d : Nat} {oi : Oper} {fuel : Nat} {listed : Array Bool} {a : Act} {w : World} (hi : ops[i]? = some oi) (hd : oi.dst = some d)
    (hs : Region.noSelect ops = true) (hf : Region.free md ops listed i = true) (hr : (Region.ready md ops listed).contains i = true)
    (hQ : ∀ c a w, Q (.panic c) (a.put oi.dst undef) w → Q (.panic c) a w) (hw : Region.wanted oi (yielded ops a.tmps) = false) (hS : S w)
    (h : wpAnyH P md ops Q S fuel (listed.setIfInBounds i true) (a.put (some d) undef) w) : wpAnyH P md ops Q S (fuel + 1) listed a w :=
  wpAnyH_take hi hs hf hr hQ (.inr ⟨hw, rfl⟩) hS (by rw [hd]; exact h)
end

set_option linter.unusedSimpArgs false in
set_option maxHeartbeats 1000000 in
theorem Valid_any (neg : Bool) (N D : List Nat) (hN : Lim N) (hD : Lim D) (ao bo : Option Addr) (n m cap cap' : Nat) (w : World) (h : Sl w ao n cap (u32s N)) (h' : Sl w bo m cap' (u32s D)) (hza : ao = none → cap = 0) (hzb : bo = none → cap' = 0) (hn : n ≤ 17179869184) (hm : m ≤ 17179869184) :
    Calls Try.prog 152 #[.agg #[.bool neg, .slice ao n cap, .slice bo m cap']] w fun e w' => e = .returned (.bool (ratOk neg N D)) ∧ Below w.heap.size w w' := by
  have hnl := h.lenU
  have hml := h'.lenU
  have hnl := hid hnl; have hml := hid hml
  have s1 := fun o => h.next (below_alloc (w := w) o)
  have s1' := fun o => h'.next (below_alloc (w := w) o)
  go_enter Try.func152, Try.ntmps152
  go_wp2_with fail
  refine (proper_any N _ _ _ _ (s1 _)).mono ?_; rintro e w1 ⟨rfl, rfl⟩
  cases hp : proper N with
  | false =>
    go_wp2_with fail
    go_ret
    exact ⟨retB (by simp [ratOk, hp]), below_alloc _⟩
  | true =>
    go_wp2_with fail
    refine (proper_any D _ _ _ _ (s1' _)).mono ?_; rintro e w1 ⟨rfl, rfl⟩
    cases hp' : proper D with
    | false =>
      go_wp2_with fail
      go_ret
      exact ⟨retB (by simp [ratOk, hp']), below_alloc _⟩
    | true =>
      have hr : ratOk neg N D = (if N = [] then !neg && decide (D = []) else if D = [] then true else decide (val D ≠ 1) && decide (Nat.gcd (val N) (val D) = 1)) := by simp [ratOk, hp, hp']
      have hr := hid hr
      have eN := hid (proper_dig hN hp)
      have eD := hid (proper_dig hD hp')
      clear hp hp'
      cases n with
      | zero =>
        obtain rfl : N = [] := List.eq_nil_of_length_eq_zero hnl.out
        cases neg with
        | true =>
          go_wp2_with fail
          go_ret
          exact ⟨retB (by rw [hr.out]; simp), below_alloc _⟩
        | false =>
          go_wp2_with fail
          go_ret
          refine ⟨retB ?_, below_alloc _⟩
          rw [hr.out]
          have := hml.out
          cases m with
          | zero => simp [List.eq_nil_of_length_eq_zero this]
          | succ m =>
            have hD0 : D ≠ [] := by rintro rfl; simp at this
            simp [hD0]
            omega
      | succ n =>
        have hN0 : N ≠ [] := by rintro rfl; have := hnl.out; simp at this
        cases m with
        | zero =>
          obtain rfl : D = [] := List.eq_nil_of_length_eq_zero hml.out
          go_wp2_with fail
          go_ret
          exact ⟨retB (by rw [hr.out]; simp [hN0]), below_alloc _⟩
        | succ m =>
          have hD0 : D ≠ [] := by rintro rfl; have := hml.out; simp at this
          have hA : Sl w ao (n + 1) cap (u32s (dig (val N))) := by rw [← eN.out]; exact h
          have hB : Sl w bo (m + 1) cap' (u32s (dig (val D))) := by rw [← eD.out]; exact h'
          have hr := hr.out
          rw [if_neg hN0, if_neg hD0] at hr
          clear eN eD hnl hml s1 s1' h h' hN hD hN0 hD0
          obtain ⟨a, ha⟩ : ∃ a, val N = a := ⟨_, rfl⟩
          obtain ⟨b, hb⟩ : ∃ b, val D = b := ⟨_, rfl⟩
          rw [ha, hb] at hr
          rw [ha] at hA; rw [hb] at hB
          have hb0 : b ≠ 0 := by
            rintro rfl
            have h1 := hB.lenU
            rw [dig_zero] at h1
            simp at h1
          clear ha hb
          have hr := hid hr
          go_wp2_with fail
          have c1 : (w.alloc (.cells #[.bool neg, .slice ao (n + 1) cap, .slice bo (m + 1) cap'] 54)).cell? ⟨w.heap.size, 1, none⟩ = some (.slice ao (n + 1) cap) := by rw [World.cell?_alloc_at _ _ _ _ rfl]; rfl
          have c2 : (w.alloc (.cells #[.bool neg, .slice ao (n + 1) cap, .slice bo (m + 1) cap'] 54)).cell? ⟨w.heap.size, 2, none⟩ = some (.slice bo (m + 1) cap') := by rw [World.cell?_alloc_at _ _ _ _ rfl]; rfl
          have hW : Below w.heap.size w (w.alloc (.cells #[.bool neg, .slice ao (n + 1) cap, .slice bo (m + 1) cap'] 54)) := below_alloc _
          generalize w.alloc (.cells #[.bool neg, .slice ao (n + 1) cap, .slice bo (m + 1) cap'] 54) = W at *
          have hA := hA.next hW
          have hB := hB.next hW
          have hS : ∀ w', (w'.cell? ⟨w.heap.size, 1, none⟩ = some (.slice ao (n + 1) cap) ∧ w'.cell? ⟨w.heap.size, 2, none⟩ = some (.slice bo (m + 1) cap') ∧ Below W.heap.size W w') → Sl w' ao (n + 1) cap (u32s (dig a)) ∧ Sl w' bo (m + 1) cap' (u32s (dig b)) := fun w' h => ⟨hA.next h.2.2, hB.next h.2.2⟩
          have hK' : ∀ w' w'', (w'.cell? ⟨w.heap.size, 1, none⟩ = some (.slice ao (n + 1) cap) ∧ w'.cell? ⟨w.heap.size, 2, none⟩ = some (.slice bo (m + 1) cap') ∧ Below W.heap.size W w') → Below w'.heap.size w' w'' → (w''.cell? ⟨w.heap.size, 1, none⟩ = some (.slice ao (n + 1) cap) ∧ w''.cell? ⟨w.heap.size, 2, none⟩ = some (.slice bo (m + 1) cap') ∧ Below W.heap.size W w'') := fun w' w'' h hb => ⟨cell_later hb h.1, cell_later hb h.2.1, below_chain h.2.2 hb⟩
          have one1 : ∀ (g : Nat) (x : Int), ord g 1 = x → ∀ (w' : World) (go : Option Addr) (gn gc : Nat) (oo : Option Addr) (on oc : Nat), Sl w' go gn gc (u32s (dig g)) → Sl w' oo on oc (u32s (dig 1)) →
              Calls Try.prog 153 #[.slice go gn gc, .slice oo on oc] w' fun e w'' => e = .returned (.int .i64 x) ∧ w' = w'' := by
            intro g x hx w' go gn gc oo on oc h1 h2
            have := cmpD g 1 h1 h2
            rwa [hx] at this
          by_cases hb1 : b = 1
          · have ho := one1 b 0 (by rw [hb1]; rfl)
            refine wp_region_held_drew (S := (fun w' => w'.cell? ⟨w.heap.size, 1, none⟩ = some (.slice ao (n + 1) cap) ∧ w'.cell? ⟨w.heap.size, 2, none⟩ = some (.slice bo (m + 1) cap') ∧ Below W.heap.size W w')) (by kernel_rfl) ⟨c1, c2, (Below.refl _ W).drew⟩ (fun hHeld => ?_)
            refine held_take (i := 0) (d := 33) (v := ?_) rfl rfl (by kernel_rfl) (by kernel_rfl) (by kernel_rfl) (fun _ _ _ h => h) (by rfl) ?_ hHeld ?_
            rotate_left
            · intro w hSw; (try dsimp only at hSw); go_simp; with_reducible rfl
            try simp only [Act.put, List.setIfInBounds_toArray, List.set_cons_zero, List.set_cons_succ]
            refine held_take (i := 1) (d := 34) (v := ?_) rfl rfl (by kernel_rfl) (by kernel_rfl) (by kernel_rfl) (fun _ _ _ h => h) (by rfl) ?_ hHeld ?_
            rotate_left
            · intro w hSw; (try dsimp only at hSw); go_simp; with_reducible rfl
            try simp only [Act.put, List.setIfInBounds_toArray, List.set_cons_zero, List.set_cons_succ]
            refine wpAnyH_ready (rs := [2]) (by kernel_rfl) (by simp) (AllReadyH.cons rfl (fun K hK => ?_) AllReadyH.nil)
            go_simp
            go_at_call 134; refine (one_any _).mono ?_; rintro e wo ⟨rfl, so, hbo⟩
            go_wp2_with fail
            refine hK.out _ _ (hK' _ _ hHeld hbo) (fun hHeld => ?_)
            clear hK K
            try simp only [Act.put, List.setIfInBounds_toArray, List.set_cons_zero, List.set_cons_succ]
            refine wpAnyH_ready (rs := [3]) (by kernel_rfl) (by simp) (AllReadyH.cons rfl (fun K hK => ?_) AllReadyH.nil)
            go_simp
            go_at_call 153; refine (ho _ _ _ _ _ _ _ (hS _ hHeld).2 so).mono ?_; rintro e w' ⟨rfl, rfl⟩
            go_wp2_with fail
            refine hK.out _ _ (hHeld) (fun hHeld => ?_)
            clear hK K
            try simp only [Act.put, List.setIfInBounds_toArray, List.set_cons_zero, List.set_cons_succ]
            refine held_take (i := 4) (d := 37) (v := ?_) rfl rfl (by kernel_rfl) (by kernel_rfl) (by kernel_rfl) (fun _ _ _ h => h) (by rfl) ?_ hHeld ?_
            rotate_left
            · intro w hSw; (try dsimp only at hSw); go_simp; with_reducible rfl
            try simp only [Act.put, List.setIfInBounds_toArray, List.set_cons_zero, List.set_cons_succ]
            refine held_take (i := 5) (d := 38) (v := ?_) rfl rfl (by kernel_rfl) (by kernel_rfl) (by kernel_rfl) (fun _ _ _ h => h) (by rfl) ?_ hHeld ?_
            rotate_left
            · intro w hSw; (try dsimp only at hSw); go_simp; with_reducible rfl
            try simp only [Act.put, List.setIfInBounds_toArray, List.set_cons_zero, List.set_cons_succ]
            refine held_skip (i := 6) (d := 39) rfl rfl (by kernel_rfl) (by kernel_rfl) (by kernel_rfl) (fun _ _ _ h => h) (by rfl) hHeld ?_
            try simp only [Act.put, List.setIfInBounds_toArray, List.set_cons_zero, List.set_cons_succ]
            refine held_skip (i := 7) (d := 40) rfl rfl (by kernel_rfl) (by kernel_rfl) (by kernel_rfl) (fun _ _ _ h => h) (by rfl) hHeld ?_
            try simp only [Act.put, List.setIfInBounds_toArray, List.set_cons_zero, List.set_cons_succ]
            refine held_skip (i := 8) (d := 41) rfl rfl (by kernel_rfl) (by kernel_rfl) (by kernel_rfl) (fun _ _ _ h => h) (by rfl) hHeld ?_
            try simp only [Act.put, List.setIfInBounds_toArray, List.set_cons_zero, List.set_cons_succ]
            refine held_skip (i := 9) (d := 42) rfl rfl (by kernel_rfl) (by kernel_rfl) (by kernel_rfl) (fun _ _ _ h => h) (by rfl) hHeld ?_
            try simp only [Act.put, List.setIfInBounds_toArray, List.set_cons_zero, List.set_cons_succ]
            refine held_skip (i := 10) (d := 43) rfl rfl (by kernel_rfl) (by kernel_rfl) (by kernel_rfl) (fun _ _ _ h => h) (by rfl) hHeld ?_
            try simp only [Act.put, List.setIfInBounds_toArray, List.set_cons_zero, List.set_cons_succ]
            refine held_skip (i := 11) (d := 44) rfl rfl (by kernel_rfl) (by kernel_rfl) (by kernel_rfl) (fun _ _ _ h => h) (by rfl) hHeld ?_
            try simp only [Act.put, List.setIfInBounds_toArray, List.set_cons_zero, List.set_cons_succ]
            refine held_skip (i := 12) (d := 45) rfl rfl (by kernel_rfl) (by kernel_rfl) (by kernel_rfl) (fun _ _ _ h => h) (by rfl) hHeld ?_
            try simp only [Act.put, List.setIfInBounds_toArray, List.set_cons_zero, List.set_cons_succ]
            refine held_skip (i := 13) (d := 46) rfl rfl (by kernel_rfl) (by kernel_rfl) (by kernel_rfl) (fun _ _ _ h => h) (by rfl) hHeld ?_
            try simp only [Act.put, List.setIfInBounds_toArray, List.set_cons_zero, List.set_cons_succ]
            refine held_take (i := 14) (d := 47) (v := ?_) rfl rfl (by kernel_rfl) (by kernel_rfl) (by kernel_rfl) (fun _ _ _ h => h) (by rfl) ?_ hHeld ?_
            rotate_left
            · intro w hSw; (try dsimp only at hSw); go_simp; with_reducible rfl
            try simp only [Act.put, List.setIfInBounds_toArray, List.set_cons_zero, List.set_cons_succ]
            refine held_take (i := 15) (d := 2) (v := ?_) rfl rfl (by kernel_rfl) (by kernel_rfl) (by kernel_rfl) (fun _ _ _ h => h) (by rfl) ?_ hHeld ?_
            rotate_left
            · intro w hSw; (try dsimp only at hSw); go_simp; with_reducible rfl
            try simp only [Act.put, List.setIfInBounds_toArray, List.set_cons_zero, List.set_cons_succ]
            refine wpAnyH_done (by kernel_rfl) ?_ _
            go_wp2_with fail
            go_ret
            exact ⟨retB (by rw [hr.out]; simp [hb1]), below_chain hW (below_chain ((Below.refl _ W).drew) hbo)⟩
          · have ho := one1 b 1 (by unfold ord; rw [if_neg (by omega), if_neg hb1])
            obtain ⟨x, hx, hg1⟩ : ∃ x : Int, ord (Nat.gcd a b) 1 = x ∧ ((x == 0) = decide (Nat.gcd a b = 1)) := by
              have hg0 : Nat.gcd a b ≠ 0 := fun h => hb0 (Nat.gcd_eq_zero_iff.1 h).2
              refine ⟨_, rfl, ?_⟩
              unfold ord
              rw [if_neg (by omega)]
              by_cases h : Nat.gcd a b = 1
              · rw [if_pos h]; simp [h]
              · rw [if_neg h]; simp [h]
            have hg := one1 (Nat.gcd a b) x hx
            have hb1 : decide (b ≠ 1) = true := by simp [hb1]
            have hr : Hid (ratOk neg N D = (x == 0)) := hid (by rw [hr.out, hb1, hg1]; simp)
            clear hx hg1 hb1 one1
            go_region_held3 (fun w' => w'.cell? ⟨w.heap.size, 1, none⟩ = some (.slice ao (n + 1) cap) ∧ w'.cell? ⟨w.heap.size, 2, none⟩ = some (.slice bo (m + 1) cap') ∧ Below W.heap.size W w')
              (first | assumption | exact ⟨c1, c2, (Below.refl _ W).drew⟩ | exact hK' _ _ (by assumption) hbo2 | exact hK' _ _ (by assumption) hbg | exact hK' W.drew _ ⟨c1, c2, (Below.refl _ W).drew⟩ hbo)
              (first
                | (go_at_call 156; refine (gcd_any a b _ _ _ _ _ _ _ (hS wo (by assumption)).1 (hS wo (by assumption)).2 hza hzb hn hm).mono ?_; rintro e wg ⟨go, gn, gc, rfl, sg, hzg, hbg⟩)
                | (go_at_call 134; have := sg; refine (one_any wg).mono ?_; rintro e wo2 ⟨rfl, so2, hbo2⟩)
                | (go_at_call 134; refine (one_any _).mono ?_; rintro e wo ⟨rfl, so, hbo⟩)
                | (go_at_call 153; refine (hg _ _ _ _ _ _ _ (sg.next hbo2) so2).mono ?_; rintro e w' ⟨rfl, rfl⟩)
                | (go_at_call 153; refine (ho _ _ _ _ _ _ _ (hS wo (by assumption)).2 so).mono ?_; rintro e w' ⟨rfl, rfl⟩))
            go_wp2_with fail
            go_ret
            exact ⟨retB (by rw [hr.out]), below_chain hW (below_chain ((Below.refl _ W).drew) (below_chain hbo (below_chain hbg hbo2)))⟩

end Go.Proofs.Yteancfcmiiddiaa

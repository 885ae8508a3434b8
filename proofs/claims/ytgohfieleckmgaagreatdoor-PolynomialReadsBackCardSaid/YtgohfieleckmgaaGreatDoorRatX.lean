/-
  Joined out of XRatA, XRatB, XRatC, XRatD, XRatE.
-/
import Derived.Test.YtgohfieleckmgaaGreatDoorLimZ
import Derived.Deep.RegionHeld3
import Derived.Test.YtgohfieleckmgaaGreatDoorRatM

/-
  The contracts of rational.proper and rational.Valid. No condition but sizes.
-/
namespace Go.Proofs.YtgohfieleckmgaaGreatDoor
open Go.RowKit

theorem proper_iff {l : List Nat} : strip l = l ↔ l = [] ∨ l.getLastD 1 ≠ 0 := by
  induction l with
  | nil => simp [strip]
  | cons x l ih =>
    cases l with
    | nil => simp [strip]
    | cons y l =>
      have : (x :: y :: l).getLastD 1 = (y :: l).getLastD 1 := by simp [List.getLastD]
      rw [this]
      rw [strip]
      by_cases h : strip (y :: l) = y :: l
      · rw [if_neg (by rw [h]; simp), h]
        have := ih.1 h
        simp only [reduceCtorEq, false_or] at this
        exact ⟨fun _ => .inr this, fun _ => rfl⟩
      · have h2 : ¬ (y :: l).getLastD 1 ≠ 0 := fun h2 => h (ih.2 (.inr h2))
        constructor
        · intro h3
          exfalso
          split at h3
          · cases h3
          · injection h3 with _ h3; exact h h3
        · intro h3; exact absurd (h3.resolve_left (by simp)) h2

def proper (l : List Nat) : Bool := decide (strip l = l)

theorem proper_any (l : List Nat) (ao : Option Addr) (n cap : Nat) (w : World) (h : Sl w ao n cap (u32s l)) :
    Calls Tryz.prog 125 #[.slice ao n cap] w fun e w' => e = .returned (.bool (proper l)) ∧ w = w' := by
  have hl := h.lenU
  cases n with
  | zero =>
    obtain rfl : l = [] := List.eq_nil_of_length_eq_zero hl
    have : proper [] = true := rfl
    rw [this]
    go_enter Tryz.func125, Tryz.ntmps125
    go_wp2_with fail
    go_ret
    exact ⟨rfl, rfl⟩
  | succ k =>
    obtain ⟨y, hy, b, off, rfl, hcell⟩ := h.u32 (show k < k + 1 by omega)
    have hbd := h.bound
    have hp : proper l = decide (y ≠ 0) := by
      unfold proper
      rw [decide_eq_decide, proper_iff]
      have hne : l ≠ [] := by rintro rfl; simp at hl
      have : l.getLastD 1 = y := by
        rw [List.getLastD_eq_getLast?, List.getLast?_eq_getElem?, show l.length - 1 = k by omega, hy]; rfl
      rw [this]
      simp [hne]
    have hz : decide ((y : Int) ≠ 0) = decide (y ≠ 0) := by rw [decide_eq_decide]; omega
    have hl := hid hl
    have hy := hid hy
    rw [hp, ← hz]
    go_enter Tryz.func125, Tryz.ntmps125
    go_wp2_with fail
    go_ret
    refine ⟨retB ?_, rfl⟩
    have h0 : ((k : Int) + 1 == 0) = false := by simp; omega
    rw [h0, Bool.false_or, bne]
    rw [show ((y : Int) == 0) = decide (y = 0) from by rw [Bool.eq_iff_iff]; simp]
    by_cases hy0 : y = 0
    · simp [hy0]
    · simp [hy0]

/-- The lists of a number in its only representation. -/
def ratOk (neg : Bool) (N D : List Nat) : Bool :=
  proper N && proper D && (if N = [] then !neg && decide (D = []) else if D = [] then true else decide (val D ≠ 1) && decide (Nat.gcd (val N) (val D) = 1))

theorem below_chain {a b c : World} (h : Below a.heap.size a b) (h' : Below b.heap.size b c) : Below a.heap.size a c := h.trans (h'.mono h.size)

theorem proper_dig {l : List Nat} (h : Lim l) (hp : proper l = true) : l = dig (val l) := (dig_val h (of_decide_eq_true hp)).symm

section
variable {P : Program} {ops : Array Oper} {Q : Exit → Act → World → Prop} {md : Region.Mode} {S : World → Prop}
theorem held_take {i d : Nat} {oi : Oper} {v : Value} {fuel : Nat} {listed : Array Bool} {a : Act} {w : World} (hi : ops[i]? = some oi) (hd : oi.dst = some d)
    (hs : Region.noSelect ops = true) (hf : Region.free md ops listed i = true) (hr : (Region.ready md ops listed).contains i = true)
    (hQ : ∀ c a w, Q (.panic c) (a.put oi.dst v) w → Q (.panic c) a w) (hw : Region.wanted oi (yielded ops a.tmps) = true) (hy : ∀ w, S w → (execOp a.eval oi).run P w = .ok (.value v) w) (hS : S w)
    (h : wpAnyH P md ops Q S fuel (listed.setIfInBounds i true) (a.put (some d) v) w) : wpAnyH P md ops Q S (fuel + 1) listed a w :=
  wpAnyH_take hi hs hf hr hQ (.inl ⟨hw, hy⟩) hS (by rw [hd]; exact h)
/-- An operation that its guard passes over. -/
theorem held_skip {i d : Nat} {oi : Oper} {fuel : Nat} {listed : Array Bool} {a : Act} {w : World} (hi : ops[i]? = some oi) (hd : oi.dst = some d)
    (hs : Region.noSelect ops = true) (hf : Region.free md ops listed i = true) (hr : (Region.ready md ops listed).contains i = true)
    (hQ : ∀ c a w, Q (.panic c) (a.put oi.dst undef) w → Q (.panic c) a w) (hw : Region.wanted oi (yielded ops a.tmps) = false) (hS : S w)
    (h : wpAnyH P md ops Q S fuel (listed.setIfInBounds i true) (a.put (some d) undef) w) : wpAnyH P md ops Q S (fuel + 1) listed a w :=
  wpAnyH_take hi hs hf hr hQ (.inr ⟨hw, rfl⟩) hS (by rw [hd]; exact h)
end

set_option linter.unusedSimpArgs false in
set_option maxHeartbeats 1000000 in
theorem Valid_any (neg : Bool) (N D : List Nat) (hN : Lim N) (hD : Lim D) (ao bo : Option Addr) (n m cap cap' : Nat) (w : World) (h : Sl w ao n cap (u32s N)) (h' : Sl w bo m cap' (u32s D)) (hza : ao = none → cap = 0) (hzb : bo = none → cap' = 0) (hn : n ≤ 17179869184) (hm : m ≤ 17179869184) :
    Calls Tryz.prog 93 #[.agg #[.bool neg, .slice ao n cap, .slice bo m cap']] w fun e w' => e = .returned (.bool (ratOk neg N D)) ∧ Below w.heap.size w w' := by
  have hnl := h.lenU
  have hml := h'.lenU
  have hnl := hid hnl; have hml := hid hml
  have s1 := fun o => h.next (below_alloc (w := w) o)
  have s1' := fun o => h'.next (below_alloc (w := w) o)
  go_enter Tryz.func93, Tryz.ntmps93
  go_wp2_with fail
  refine (proper_any N _ _ _ _ (s1 _)).mono ?_; rintro e w1 ⟨rfl, rfl⟩
  cases hp : proper N with
  | false =>
    go_wp2_with fail
    go_ret
    exact ⟨retB (by simp [ratOk, hp]), below_alloc _⟩
  | true =>
    go_wp2_with fail
    refine (proper_any D _ _ _ _ (s1' _)).mono ?_; rintro e w1 ⟨rfl, rfl⟩
    cases hp' : proper D with
    | false =>
      go_wp2_with fail
      go_ret
      exact ⟨retB (by simp [ratOk, hp']), below_alloc _⟩
    | true =>
      have hr : ratOk neg N D = (if N = [] then !neg && decide (D = []) else if D = [] then true else decide (val D ≠ 1) && decide (Nat.gcd (val N) (val D) = 1)) := by simp [ratOk, hp, hp']
      have hr := hid hr
      have eN := hid (proper_dig hN hp)
      have eD := hid (proper_dig hD hp')
      clear hp hp'
      cases n with
      | zero =>
        obtain rfl : N = [] := List.eq_nil_of_length_eq_zero hnl.out
        cases neg with
        | true =>
          go_wp2_with fail
          go_ret
          exact ⟨retB (by rw [hr.out]; simp), below_alloc _⟩
        | false =>
          go_wp2_with fail
          go_ret
          refine ⟨retB ?_, below_alloc _⟩
          rw [hr.out]
          have := hml.out
          cases m with
          | zero => simp [List.eq_nil_of_length_eq_zero this]
          | succ m =>
            have hD0 : D ≠ [] := by rintro rfl; simp at this
            simp [hD0]
            omega
      | succ n =>
        have hN0 : N ≠ [] := by rintro rfl; have := hnl.out; simp at this
        cases m with
        | zero =>
          obtain rfl : D = [] := List.eq_nil_of_length_eq_zero hml.out
          go_wp2_with fail
          go_ret
          exact ⟨retB (by rw [hr.out]; simp [hN0]), below_alloc _⟩
        | succ m =>
          have hD0 : D ≠ [] := by rintro rfl; have := hml.out; simp at this
          have hA : Sl w ao (n + 1) cap (u32s (dig (val N))) := by rw [← eN.out]; exact h
          have hB : Sl w bo (m + 1) cap' (u32s (dig (val D))) := by rw [← eD.out]; exact h'
          have hr := hr.out
          rw [if_neg hN0, if_neg hD0] at hr
          clear eN eD hnl hml s1 s1' h h' hN hD hN0 hD0
          obtain ⟨a, ha⟩ : ∃ a, val N = a := ⟨_, rfl⟩
          obtain ⟨b, hb⟩ : ∃ b, val D = b := ⟨_, rfl⟩
          rw [ha, hb] at hr
          rw [ha] at hA; rw [hb] at hB
          have hb0 : b ≠ 0 := by
            rintro rfl
            have h1 := hB.lenU
            rw [dig_zero] at h1
            simp at h1
          clear ha hb
          have hr := hid hr
          go_wp2_with fail
          have c1 : (w.alloc (.cells #[.bool neg, .slice ao (n + 1) cap, .slice bo (m + 1) cap'] 25)).cell? ⟨w.heap.size, 1, none⟩ = some (.slice ao (n + 1) cap) := by rw [World.cell?_alloc_at _ _ _ _ rfl]; rfl
          have c2 : (w.alloc (.cells #[.bool neg, .slice ao (n + 1) cap, .slice bo (m + 1) cap'] 25)).cell? ⟨w.heap.size, 2, none⟩ = some (.slice bo (m + 1) cap') := by rw [World.cell?_alloc_at _ _ _ _ rfl]; rfl
          have hW : Below w.heap.size w (w.alloc (.cells #[.bool neg, .slice ao (n + 1) cap, .slice bo (m + 1) cap'] 25)) := below_alloc _
          generalize w.alloc (.cells #[.bool neg, .slice ao (n + 1) cap, .slice bo (m + 1) cap'] 25) = W at *
          have hA := hA.next hW
          have hB := hB.next hW
          have hS : ∀ w', (w'.cell? ⟨w.heap.size, 1, none⟩ = some (.slice ao (n + 1) cap) ∧ w'.cell? ⟨w.heap.size, 2, none⟩ = some (.slice bo (m + 1) cap') ∧ Below W.heap.size W w') → Sl w' ao (n + 1) cap (u32s (dig a)) ∧ Sl w' bo (m + 1) cap' (u32s (dig b)) := fun w' h => ⟨hA.next h.2.2, hB.next h.2.2⟩
          have hK' : ∀ w' w'', (w'.cell? ⟨w.heap.size, 1, none⟩ = some (.slice ao (n + 1) cap) ∧ w'.cell? ⟨w.heap.size, 2, none⟩ = some (.slice bo (m + 1) cap') ∧ Below W.heap.size W w') → Below w'.heap.size w' w'' → (w''.cell? ⟨w.heap.size, 1, none⟩ = some (.slice ao (n + 1) cap) ∧ w''.cell? ⟨w.heap.size, 2, none⟩ = some (.slice bo (m + 1) cap') ∧ Below W.heap.size W w'') := fun w' w'' h hb => ⟨cell_later hb h.1, cell_later hb h.2.1, below_chain h.2.2 hb⟩
          have one1 : ∀ (g : Nat) (x : Int), ord g 1 = x → ∀ (w' : World) (go : Option Addr) (gn gc : Nat) (oo : Option Addr) (on oc : Nat), Sl w' go gn gc (u32s (dig g)) → Sl w' oo on oc (u32s (dig 1)) →
              Calls Tryz.prog 126 #[.slice go gn gc, .slice oo on oc] w' fun e w'' => e = .returned (.int .i64 x) ∧ w' = w'' := by
            intro g x hx w' go gn gc oo on oc h1 h2
            have := cmpD g 1 h1 h2
            rwa [hx] at this
          by_cases hb1 : b = 1
          · have ho := one1 b 0 (by rw [hb1]; rfl)
            refine wp_region_held_drew (S := (fun w' => w'.cell? ⟨w.heap.size, 1, none⟩ = some (.slice ao (n + 1) cap) ∧ w'.cell? ⟨w.heap.size, 2, none⟩ = some (.slice bo (m + 1) cap') ∧ Below W.heap.size W w')) (by kernel_rfl) ⟨c1, c2, (Below.refl _ W).drew⟩ (fun hHeld => ?_)
            refine held_take (i := 0) (d := 33) (v := ?_) rfl rfl (by kernel_rfl) (by kernel_rfl) (by kernel_rfl) (fun _ _ _ h => h) (by rfl) ?_ hHeld ?_
            rotate_left
            · intro w hSw; (try dsimp only at hSw); go_simp; with_reducible rfl
            try simp only [Act.put, List.setIfInBounds_toArray, List.set_cons_zero, List.set_cons_succ]
            refine held_take (i := 1) (d := 34) (v := ?_) rfl rfl (by kernel_rfl) (by kernel_rfl) (by kernel_rfl) (fun _ _ _ h => h) (by rfl) ?_ hHeld ?_
            rotate_left
            · intro w hSw; (try dsimp only at hSw); go_simp; with_reducible rfl
            try simp only [Act.put, List.setIfInBounds_toArray, List.set_cons_zero, List.set_cons_succ]
            refine wpAnyH_ready (rs := [2]) (by kernel_rfl) (by simp) (AllReadyH.cons rfl (fun K hK => ?_) AllReadyH.nil)
            go_simp
            go_at_call 127; refine (one_any _).mono ?_; rintro e wo ⟨rfl, so, hbo⟩
            go_wp2_with fail
            refine hK.out _ _ (hK' _ _ hHeld hbo) (fun hHeld => ?_)
            clear hK K
            try simp only [Act.put, List.setIfInBounds_toArray, List.set_cons_zero, List.set_cons_succ]
            refine wpAnyH_ready (rs := [3]) (by kernel_rfl) (by simp) (AllReadyH.cons rfl (fun K hK => ?_) AllReadyH.nil)
            go_simp
            go_at_call 126; refine (ho _ _ _ _ _ _ _ (hS _ hHeld).2 so).mono ?_; rintro e w' ⟨rfl, rfl⟩
            go_wp2_with fail
            refine hK.out _ _ (hHeld) (fun hHeld => ?_)
            clear hK K
            try simp only [Act.put, List.setIfInBounds_toArray, List.set_cons_zero, List.set_cons_succ]
            refine held_take (i := 4) (d := 37) (v := ?_) rfl rfl (by kernel_rfl) (by kernel_rfl) (by kernel_rfl) (fun _ _ _ h => h) (by rfl) ?_ hHeld ?_
            rotate_left
            · intro w hSw; (try dsimp only at hSw); go_simp; with_reducible rfl
            try simp only [Act.put, List.setIfInBounds_toArray, List.set_cons_zero, List.set_cons_succ]
            refine held_take (i := 5) (d := 38) (v := ?_) rfl rfl (by kernel_rfl) (by kernel_rfl) (by kernel_rfl) (fun _ _ _ h => h) (by rfl) ?_ hHeld ?_
            rotate_left
            · intro w hSw; (try dsimp only at hSw); go_simp; with_reducible rfl
            try simp only [Act.put, List.setIfInBounds_toArray, List.set_cons_zero, List.set_cons_succ]
            refine held_skip (i := 6) (d := 39) rfl rfl (by kernel_rfl) (by kernel_rfl) (by kernel_rfl) (fun _ _ _ h => h) (by rfl) hHeld ?_
            try simp only [Act.put, List.setIfInBounds_toArray, List.set_cons_zero, List.set_cons_succ]
            refine held_skip (i := 7) (d := 40) rfl rfl (by kernel_rfl) (by kernel_rfl) (by kernel_rfl) (fun _ _ _ h => h) (by rfl) hHeld ?_
            try simp only [Act.put, List.setIfInBounds_toArray, List.set_cons_zero, List.set_cons_succ]
            refine held_skip (i := 8) (d := 41) rfl rfl (by kernel_rfl) (by kernel_rfl) (by kernel_rfl) (fun _ _ _ h => h) (by rfl) hHeld ?_
            try simp only [Act.put, List.setIfInBounds_toArray, List.set_cons_zero, List.set_cons_succ]
            refine held_skip (i := 9) (d := 42) rfl rfl (by kernel_rfl) (by kernel_rfl) (by kernel_rfl) (fun _ _ _ h => h) (by rfl) hHeld ?_
            try simp only [Act.put, List.setIfInBounds_toArray, List.set_cons_zero, List.set_cons_succ]
            refine held_skip (i := 10) (d := 43) rfl rfl (by kernel_rfl) (by kernel_rfl) (by kernel_rfl) (fun _ _ _ h => h) (by rfl) hHeld ?_
            try simp only [Act.put, List.setIfInBounds_toArray, List.set_cons_zero, List.set_cons_succ]
            refine held_skip (i := 11) (d := 44) rfl rfl (by kernel_rfl) (by kernel_rfl) (by kernel_rfl) (fun _ _ _ h => h) (by rfl) hHeld ?_
            try simp only [Act.put, List.setIfInBounds_toArray, List.set_cons_zero, List.set_cons_succ]
            refine held_skip (i := 12) (d := 45) rfl rfl (by kernel_rfl) (by kernel_rfl) (by kernel_rfl) (fun _ _ _ h => h) (by rfl) hHeld ?_
            try simp only [Act.put, List.setIfInBounds_toArray, List.set_cons_zero, List.set_cons_succ]
            refine held_skip (i := 13) (d := 46) rfl rfl (by kernel_rfl) (by kernel_rfl) (by kernel_rfl) (fun _ _ _ h => h) (by rfl) hHeld ?_
            try simp only [Act.put, List.setIfInBounds_toArray, List.set_cons_zero, List.set_cons_succ]
            refine held_take (i := 14) (d := 47) (v := ?_) rfl rfl (by kernel_rfl) (by kernel_rfl) (by kernel_rfl) (fun _ _ _ h => h) (by rfl) ?_ hHeld ?_
            rotate_left
            · intro w hSw; (try dsimp only at hSw); go_simp; with_reducible rfl
            try simp only [Act.put, List.setIfInBounds_toArray, List.set_cons_zero, List.set_cons_succ]
            refine held_take (i := 15) (d := 2) (v := ?_) rfl rfl (by kernel_rfl) (by kernel_rfl) (by kernel_rfl) (fun _ _ _ h => h) (by rfl) ?_ hHeld ?_
            rotate_left
            · intro w hSw; (try dsimp only at hSw); go_simp; with_reducible rfl
            try simp only [Act.put, List.setIfInBounds_toArray, List.set_cons_zero, List.set_cons_succ]
            refine wpAnyH_done (by kernel_rfl) ?_ _
            go_wp2_with fail
            go_ret
            exact ⟨retB (by rw [hr.out]; simp [hb1]), below_chain hW (below_chain ((Below.refl _ W).drew) hbo)⟩
          · have ho := one1 b 1 (by unfold ord; rw [if_neg (by omega), if_neg hb1])
            obtain ⟨x, hx, hg1⟩ : ∃ x : Int, ord (Nat.gcd a b) 1 = x ∧ ((x == 0) = decide (Nat.gcd a b = 1)) := by
              have hg0 : Nat.gcd a b ≠ 0 := fun h => hb0 (Nat.gcd_eq_zero_iff.1 h).2
              refine ⟨_, rfl, ?_⟩
              unfold ord
              rw [if_neg (by omega)]
              by_cases h : Nat.gcd a b = 1
              · rw [if_pos h]; simp [h]
              · rw [if_neg h]; simp [h]
            have hg := one1 (Nat.gcd a b) x hx
            have hb1 : decide (b ≠ 1) = true := by simp [hb1]
            have hr : Hid (ratOk neg N D = (x == 0)) := hid (by rw [hr.out, hb1, hg1]; simp)
            clear hx hg1 hb1 one1
            go_region_held3 (fun w' => w'.cell? ⟨w.heap.size, 1, none⟩ = some (.slice ao (n + 1) cap) ∧ w'.cell? ⟨w.heap.size, 2, none⟩ = some (.slice bo (m + 1) cap') ∧ Below W.heap.size W w')
              (first | assumption | exact ⟨c1, c2, (Below.refl _ W).drew⟩ | exact hK' _ _ (by assumption) hbo2 | exact hK' _ _ (by assumption) hbg | exact hK' W.drew _ ⟨c1, c2, (Below.refl _ W).drew⟩ hbo)
              (first
                | (go_at_call 128; refine (gcd_any a b _ _ _ _ _ _ _ (hS wo (by assumption)).1 (hS wo (by assumption)).2 hza hzb hn hm).mono ?_; rintro e wg ⟨go, gn, gc, rfl, sg, hzg, hbg⟩)
                | (go_at_call 127; have := sg; refine (one_any wg).mono ?_; rintro e wo2 ⟨rfl, so2, hbo2⟩)
                | (go_at_call 127; refine (one_any _).mono ?_; rintro e wo ⟨rfl, so, hbo⟩)
                | (go_at_call 126; refine (hg _ _ _ _ _ _ _ (sg.next hbo2) so2).mono ?_; rintro e w' ⟨rfl, rfl⟩)
                | (go_at_call 126; refine (ho _ _ _ _ _ _ _ (hS wo (by assumption)).2 so).mono ?_; rintro e w' ⟨rfl, rfl⟩))
            go_wp2_with fail
            go_ret
            exact ⟨retB (by rw [hr.out]), below_chain hW (below_chain ((Below.refl _ W).drew) (below_chain hbo (below_chain hbg hbo2)))⟩

end Go.Proofs.YtgohfieleckmgaaGreatDoor

/-
  Values that read as rationals; the contract of rational.of. No condition but sizes.
-/
namespace Go.Proofs.YtgohfieleckmgaaGreatDoor
open Go.RowKit
set_option linter.unusedSimpArgs false
set_option linter.unusedVariables false

/-- The rational that lists say: 0 where they are no number's only representation. -/
def ratOf (neg : Bool) (N D : List Nat) : Rat := if ratOk neg N D then mkRat (sgn neg (val N)) (if D = [] then 1 else val D) else 0

/-- Value v reads as q. -/
def RatV (w : World) (v : Value) (q : Rat) : Prop :=
  ∃ (neg : Bool) (N D : List Nat) (ao bo : Option Addr) (n cap m cap' : Nat), v = .agg #[.bool neg, .slice ao n cap, .slice bo m cap'] ∧ Sl w ao n cap (u32s N) ∧ Sl w bo m cap' (u32s D) ∧ Lim N ∧ Lim D ∧
    (ao = none → cap = 0) ∧ (bo = none → cap' = 0) ∧ n ≤ 17179869184 ∧ m ≤ 17179869184 ∧ ratOf neg N D = q

theorem RatV.next {w w' : World} {v : Value} {q : Rat} (h : RatV w v q) (hb : Below w.heap.size w w') : RatV w' v q := by
  obtain ⟨neg, N, D, ao, bo, n, cap, m, cap', e, h1, h2, h3⟩ := h
  exact ⟨neg, N, D, ao, bo, n, cap, m, cap', e, h1.next hb, h2.next hb, h3⟩

/-- Value v is a fraction of numbers, the denominator not 0. -/
def FrV (w : World) (v : Value) (neg : Bool) (a b : Nat) : Prop :=
  ∃ (ao bo : Option Addr) (n cap m cap' : Nat), v = .agg #[.bool neg, .slice ao n cap, .slice bo m cap'] ∧ Sl w ao n cap (u32s (dig a)) ∧ Sl w bo m cap' (u32s (dig b)) ∧
    (ao = none → cap = 0) ∧ (bo = none → cap' = 0) ∧ b ≠ 0

theorem FrV.next {w w' : World} {v : Value} {neg : Bool} {a b : Nat} (h : FrV w v neg a b) (hb : Below w.heap.size w w') : FrV w' v neg a b := by
  obtain ⟨ao, bo, n, cap, m, cap', e, h1, h2, h3⟩ := h
  exact ⟨ao, bo, n, cap, m, cap', e, h1.next hb, h2.next hb, h3⟩

/-- What a valid number's lists are. -/
theorem ratOk_facts {neg : Bool} {N D : List Nat} (hN : Lim N) (hD : Lim D) (h : ratOk neg N D = true) :
    N = dig (ratOf neg N D).num.natAbs ∧ neg = decide ((ratOf neg N D).num < 0) ∧ (if D = [] then (ratOf neg N D).den = 1 else D = dig (ratOf neg N D).den) := by
  have hq : ratOf neg N D = mkRat (sgn neg (val N)) (if D = [] then 1 else val D) := by rw [ratOf, if_pos h]
  unfold ratOk at h
  simp only [Bool.and_eq_true] at h
  obtain ⟨⟨h1, h2⟩, h3⟩ := h
  have eN := proper_dig hN h1
  have eD := proper_dig hD h2
  by_cases hN0 : N = []
  · rw [if_pos hN0] at h3
    simp only [Bool.and_eq_true, Bool.not_eq_true', decide_eq_true_eq] at h3
    obtain ⟨rfl, rfl⟩ := h3
    subst hN0
    rw [if_pos rfl] at hq
    have : ratOf false [] [] = 0 := by rw [hq]; rfl
    rw [this]
    exact ⟨dig_zero.symm, rfl, rfl⟩
  · have hv : val N ≠ 0 := by intro h0; rw [h0, dig_zero] at eN; exact hN0 eN
    rw [if_neg hN0] at h3
    by_cases hD0 : D = []
    · rw [if_pos hD0] at hq ⊢
      have hq2 : ratOf neg N D = ⟨sgn neg (val N), 1, by decide, by simp⟩ := by rw [hq, Rat.mk_eq_mkRat]
      rw [hq2]
      refine ⟨?_, ?_, rfl⟩
      · dsimp only; rw [sgn_abs]; exact eN
      · dsimp only; rw [sgn_neg neg hv]
    · rw [if_neg hD0] at h3 hq ⊢
      simp only [Bool.and_eq_true, decide_eq_true_eq] at h3
      have hd : val D ≠ 0 := by intro h0; rw [h0, dig_zero] at eD; exact hD0 eD
      have hq2 : ratOf neg N D = ⟨sgn neg (val N), val D, hd, by rw [sgn_abs]; exact h3.2⟩ := by rw [hq, Rat.mk_eq_mkRat]
      rw [hq2]
      refine ⟨?_, ?_, eD⟩
      · dsimp only; rw [sgn_abs]; exact eN
      · dsimp only; rw [sgn_neg neg hv]

/-- The denominator's list. -/
def denL (q : Rat) : List Nat := if q.den = 1 then [] else dig q.den

/-- Value v is q's only representation. -/
def RatC (w : World) (v : Value) (q : Rat) : Prop :=
  ∃ (ao bo : Option Addr) (n cap m cap' : Nat), v = .agg #[.bool (decide (q.num < 0)), .slice ao n cap, .slice bo m cap'] ∧ Sl w ao n cap (u32s (dig q.num.natAbs)) ∧ Sl w bo m cap' (u32s (denL q)) ∧
    (ao = none → cap = 0) ∧ (bo = none → cap' = 0)

theorem RatC.next {w w' : World} {v : Value} {q : Rat} (h : RatC w v q) (hb : Below w.heap.size w w') : RatC w' v q := by
  obtain ⟨ao, bo, n, cap, m, cap', e, h1, h2, h3⟩ := h
  exact ⟨ao, bo, n, cap, m, cap', e, h1.next hb, h2.next hb, h3⟩

theorem lim_denL (q : Rat) : Lim (denL q) := by
  unfold denL
  split
  · exact lim_nil
  · exact lim_dig _

theorem canon_ok (q : Rat) : ratOk (decide (q.num < 0)) (dig q.num.natAbs) (denL q) = true ∧ ratOf (decide (q.num < 0)) (dig q.num.natAbs) (denL q) = q := by
  have h1 : ratOk (decide (q.num < 0)) (dig q.num.natAbs) (denL q) = true := by
    unfold ratOk
    have hp : ∀ n, proper (dig n) = true := fun n => decide_eq_true (strip_dig n)
    have hpd : proper (denL q) = true := by
      unfold denL; split
      · rfl
      · exact hp _
    rw [hp, hpd]
    by_cases h0 : q.num = 0
    · have hq : q = 0 := Rat.num_eq_zero.1 h0
      subst hq
      rw [show (0 : Rat).num = 0 from rfl, show Int.natAbs 0 = 0 from rfl, dig_zero, show denL 0 = [] from rfl]; rfl
    · have hn : dig q.num.natAbs ≠ [] := fun h => h0 (Int.natAbs_eq_zero.1 (dig_nil.1 h))
      rw [if_neg hn]
      unfold denL
      by_cases hd : q.den = 1
      · rw [if_pos hd, if_pos rfl]; rfl
      · rw [if_neg hd, if_neg (fun h => q.den_nz (dig_nil.1 h)), val_dig, val_dig, decide_eq_true hd, decide_eq_true q.reduced]; rfl
  refine ⟨h1, ?_⟩
  rw [ratOf, if_pos h1, val_dig, sgn_num]
  have h2 : (if denL q = [] then 1 else val (denL q)) = q.den := by
    unfold denL
    by_cases hd : q.den = 1
    · rw [if_pos hd, if_pos rfl, hd]
    · rw [if_neg hd, if_neg (fun h => q.den_nz (dig_nil.1 h)), val_dig]
  rw [h2]
  exact Rat.mkRat_self q

theorem denL_len {q : Rat} {k : Nat} (h : Fit k q) : (denL q).length ≤ k := by
  unfold denL; split
  · exact Nat.zero_le _
  · exact h.2

theorem RatC.toV {w : World} {v : Value} {q : Rat} {k : Nat} (h : RatC w v q) (hf : Fit k q) (hk : k ≤ 17179869184) : RatV w v q := by
  obtain ⟨ao, bo, n, cap, m, cap', rfl, h1, h2, hz, hz'⟩ := h
  refine ⟨_, _, _, ao, bo, n, cap, m, cap', rfl, h1, h2, lim_dig _, lim_denL q, hz, hz', ?_, ?_, (canon_ok q).2⟩
  · rw [← h1.lenU]; exact Nat.le_trans hf.1 hk
  · rw [← h2.lenU]; exact Nat.le_trans (denL_len hf) hk

/-- A rational comes back in its only representation. -/
def RatOut (w : World) (q : Rat) (e : Ending) (w' : World) : Prop := ∃ v, e = .returned v ∧ RatC w' v q ∧ Below w.heap.size w w'

/-- Three cells of a result are stored. -/
theorem cell_set3 {w : World} {G B i : Nat} (h : G ≠ B) (x y z : Value) : (((w.setCell ⟨G, 0, none⟩ x).setCell ⟨G, 1, none⟩ y).setCell ⟨G, 2, none⟩ z).cell? ⟨B, i, none⟩ = w.cell? ⟨B, i, none⟩ := by
  have hne : ∀ j, (⟨G, j, none⟩ : Addr) ≠ ⟨B, i, none⟩ := by intro j e; injection e with e; exact h e
  rw [World.cell?_setCell_other (h := hne 2), World.cell?_setCell_other (h := hne 1), World.cell?_setCell_other (h := hne 0)]

theorem below_set3 {w w' : World} {B G : Nat} (h : Below B w w') (hG : B ≤ G) (x y z : Value) : Below B w (((w'.setCell ⟨G, 0, none⟩ x).setCell ⟨G, 1, none⟩ y).setCell ⟨G, 2, none⟩ z) :=
  ((h.setCell hG _).setCell hG _).setCell hG _

theorem Sl.set3 {w : World} {ao : Option Addr} {n cap G : Nat} {xs : List Value} (h : Sl w ao n cap xs) (hO : Off G ao n) (x y z : Value) : Sl (((w.setCell ⟨G, 0, none⟩ x).setCell ⟨G, 1, none⟩ y).setCell ⟨G, 2, none⟩ z) ao n cap xs :=
  ((h.setCell hO _ _).setCell hO _ _).setCell hO _ _

set_option maxHeartbeats 1000000 in
theorem of_any (q : Rat) (v : Value) (w : World) (h : RatV w v q) :
    Calls Tryz.prog 100 #[v] w fun e w' => ∃ v', e = .returned v' ∧ FrV w' v' (decide (q.num < 0)) q.num.natAbs q.den ∧ Below w.heap.size w w' := by
  obtain ⟨neg, N, D, ao, bo, n, cap, m, cap', rfl, sN, sD, hN, hD, hza, hzb, hn, hm, hq⟩ := h
  have hV := fun W (hb : Below w.heap.size w W) => Valid_any neg N D hN hD ao bo n m cap cap' W (sN.next hb) (sD.next hb) hza hzb hn hm
  have HV := hid hV; clear hV
  have hq := hid hq
  cases hok : ratOk neg N D with
  | false =>
    rw [hok] at HV
    go_enter Tryz.func100, Tryz.ntmps100
    go_wp2_with fail
    refine (HV.out _ (((Below.refl _ _).alloc (Nat.le_refl _) _).alloc (by simp) _)).mono ?_; rintro e w1 ⟨rfl, hb1⟩
    obtain ⟨hc, hf⟩ := bcell hb1
    have hz : w.heap.size + 1 < w1.heap.size := by have := hb1.size; simp at this; omega
    go_wp2_with fail
    refine (one_any _).mono ?_; rintro e w2 ⟨rfl, s2, hb2⟩
    obtain ⟨hc2, hf2⟩ := bcell hb2
    have hz2 : w.heap.size + 1 < w2.heap.size := by have := hb2.size; omega
    go_wp2_with fail
    have hq0 : q = 0 := by rw [← hq.out, ratOf, hok]; rfl
    refine bodyPost_ret (v := .agg #[.bool false, .slice none 0 0, .slice (some ⟨w1.heap.size, 0, none⟩) 1 1]) (by simp [results, Tryz.results100, go_sem, hc, hc2, hz, hz2]) rfl ?_
    subst hq0
    have hbel : Below w.heap.size w w2 := (((Below.refl _ _).alloc (Nat.le_refl _) _).alloc (by simp) _).trans ((hb1.mono (by simp; omega)).trans (hb2.mono (by omega)))
    refine ⟨_, rfl, ⟨none, _, 0, 0, 1, 1, rfl, ?_, ?_, fun _ => rfl, (fun h => by cases h), (by decide)⟩, ((hbel.setCell (by simp) _).setCell (by simp) _).setCell (by simp) _⟩
    · rw [show (0 : Rat).num.natAbs = 0 from rfl, dig_zero]; exact Sl.nil _
    · rw [show (0 : Rat).den = 1 from rfl]
      have hO : Off (w.heap.size + 1) (some ⟨w1.heap.size, 0, none⟩) 1 := Off.fresh (B := w1.heap.size) (by rintro a h; injection h with h; subst h; exact Nat.le_refl _) (by omega)
      exact ((s2.setCell hO _ _).setCell hO _ _).setCell hO _ _
  | true =>
    rw [hok] at HV
    have hfa := ratOk_facts hN hD hok
    rw [hq.out] at hfa
    obtain ⟨hN', hneg, hD'⟩ := hfa
    rw [hN'] at sN
    have hml := hid sD.lenU
    subst hneg
    obtain ⟨neg, hneg⟩ : ∃ b, decide (q.num < 0) = b := ⟨_, rfl⟩
    rw [hneg] at HV ⊢
    clear hq hok hneg hN' hN
    cases m with
    | zero =>
      obtain rfl : D = [] := List.eq_nil_of_length_eq_zero hml.out
      rw [if_pos rfl] at hD'
      rw [hD']
      clear hD' hml
      go_enter Tryz.func100, Tryz.ntmps100
      go_wp2_with fail
      refine (HV.out _ (((Below.refl _ _).alloc (Nat.le_refl _) _).alloc (by simp) _)).mono ?_; rintro e w1 ⟨rfl, hb1⟩
      obtain ⟨hc, hf⟩ := bcell hb1
      have hz : w.heap.size + 1 < w1.heap.size := by have := hb1.size; simp at this; omega
      go_wp2_with fail
      have c0 : w1.cell? ⟨w.heap.size, 0, none⟩ = some (.bool neg) := by rw [hc _ _ (by simp; omega)]; simp [go_sem]
      have c1 : w1.cell? ⟨w.heap.size, 1, none⟩ = some (.slice ao n cap) := by rw [hc _ _ (by simp; omega)]; simp [go_sem]
      have d0 : w1.cell? ⟨w.heap.size + 1, 0, none⟩ = some (.bool false) := by rw [hc _ _ (by simp)]; simp [go_sem]
      have d1 : w1.cell? ⟨w.heap.size + 1, 1, none⟩ = some (.slice none 0 0) := by rw [hc _ _ (by simp)]; simp [go_sem]
      have d2 : w1.cell? ⟨w.heap.size + 1, 2, none⟩ = some (.slice none 0 0) := by rw [hc _ _ (by simp)]; simp [go_sem]
      have fr : ∀ i, w1.frozen? ⟨w.heap.size + 1, i, none⟩ = false := fun i => by rw [hf _ _ (by simp)]; simp [go_sem]
      have Fr := hid fr
      clear fr
      have hb01 : Below w.heap.size w w1 := (((Below.refl _ _).alloc (Nat.le_refl _) _).alloc (by simp) _).trans (hb1.mono (by simp; omega))
      have hK' : ∀ w' w'', (w'.cell? ⟨w.heap.size, 0, none⟩ = some (.bool neg) ∧ w'.cell? ⟨w.heap.size, 1, none⟩ = some (.slice ao n cap) ∧ Below w.heap.size w w') → Below w'.heap.size w' w'' → (w''.cell? ⟨w.heap.size, 0, none⟩ = some (.bool neg) ∧ w''.cell? ⟨w.heap.size, 1, none⟩ = some (.slice ao n cap) ∧ Below w.heap.size w w'') :=
        fun w' w'' h hb => ⟨cell_later hb h.1, cell_later hb h.2.1, below_chain h.2.2 hb⟩
      have hSt : ∀ w' (x y z : Value), (w'.cell? ⟨w.heap.size, 0, none⟩ = some (.bool neg) ∧ w'.cell? ⟨w.heap.size, 1, none⟩ = some (.slice ao n cap) ∧ Below w.heap.size w w') →
          (((w'.setCell ⟨w.heap.size + 1, 0, none⟩ x).setCell ⟨w.heap.size + 1, 1, none⟩ y).setCell ⟨w.heap.size + 1, 2, none⟩ z).cell? ⟨w.heap.size, 0, none⟩ = some (.bool neg) ∧ (((w'.setCell ⟨w.heap.size + 1, 0, none⟩ x).setCell ⟨w.heap.size + 1, 1, none⟩ y).setCell ⟨w.heap.size + 1, 2, none⟩ z).cell? ⟨w.heap.size, 1, none⟩ = some (.slice ao n cap) ∧
          Below w.heap.size w (((w'.setCell ⟨w.heap.size + 1, 0, none⟩ x).setCell ⟨w.heap.size + 1, 1, none⟩ y).setCell ⟨w.heap.size + 1, 2, none⟩ z) :=
        fun w' x y z h => ⟨(cell_set3 (by omega) x y z).trans h.1, (cell_set3 (by omega) x y z).trans h.2.1, below_set3 h.2.2 (by omega) x y z⟩
      go_region_held3 (fun w' => w'.cell? ⟨w.heap.size, 0, none⟩ = some (.bool neg) ∧ w'.cell? ⟨w.heap.size, 1, none⟩ = some (.slice ao n cap) ∧ Below w.heap.size w w')
        (first | assumption | exact ⟨c0, c1, hb01.drew⟩ | exact hK' _ _ (by assumption) hbo | exact hSt _ _ _ _ (by assumption) | exact hK' w1.drew _ ⟨c0, c1, hb01.drew⟩ hbo)
        ((go_at_call 127; refine (one_any _).mono ?_; rintro e wo ⟨rfl, so, hbo⟩; have e0 := cell_later hbo d0; have e1 := cell_later hbo d1; have e2 := cell_later hbo d2; have g0 := (hbo.frozen (p := ⟨w.heap.size + 1, 0, none⟩) hz).trans (Fr.out 0); have g1 := (hbo.frozen (p := ⟨w.heap.size + 1, 1, none⟩) hz).trans (Fr.out 1); have g2 := (hbo.frozen (p := ⟨w.heap.size + 1, 2, none⟩) hz).trans (Fr.out 2)))
      go_wp2_with fail
      refine bodyPost_ret (v := .agg #[.bool neg, .slice ao n cap, .slice (some ⟨w1.heap.size, 0, none⟩) 1 1]) (by simp [results, Tryz.results100, go_sem, e0, e1, e2]) rfl ?_
      have hbel : Below w.heap.size w wo := hb01.drew.trans (hbo.mono (show w.heap.size ≤ w1.heap.size by omega))
      have hO : Off (w.heap.size + 1) (some ⟨w1.heap.size, 0, none⟩) 1 := Off.fresh (B := w1.heap.size) (by rintro a h; injection h with h; subst h; exact Nat.le_refl _) hz
      exact ⟨_, rfl, ⟨ao, _, n, cap, 1, 1, rfl, (sN.next hbel).set3 (Off.old sN (by omega)) _ _ _, so.set3 hO _ _ _, hza, (fun h => by cases h), by decide⟩, below_set3 hbel (by omega) _ _ _⟩
    | succ m =>
      have hD0 : D ≠ [] := by rintro rfl; have := hml.out; simp at this
      rw [if_neg hD0] at hD'
      rw [hD'] at sD
      clear hD' hD0 hml hD
      go_enter Tryz.func100, Tryz.ntmps100
      go_wp2_with fail
      refine (HV.out _ (((Below.refl _ _).alloc (Nat.le_refl _) _).alloc (by simp) _)).mono ?_; rintro e w1 ⟨rfl, hb1⟩
      obtain ⟨hc, hf⟩ := bcell hb1
      have hz : w.heap.size + 1 < w1.heap.size := by have := hb1.size; simp at this; omega
      have hb01 : Below w.heap.size w w1 := (((Below.refl _ _).alloc (Nat.le_refl _) _).alloc (by simp) _).trans (hb1.mono (by simp; omega))
      go_wp2_with fail
      refine bodyPost_ret (v := .agg #[.bool neg, .slice ao n cap, .slice bo (m + 1) cap']) (by simp [results, Tryz.results100, go_sem, hc]) rfl ?_
      exact ⟨_, rfl, ⟨ao, bo, n, cap, m + 1, cap', rfl, (sN.next hb01).set3 (Off.old sN (by omega)) _ _ _, (sD.next hb01).set3 (Off.old sD (by omega)) _ _ _, hza, hzb, q.den_nz⟩, below_set3 hb01 (by omega) _ _ _⟩

end Go.Proofs.YtgohfieleckmgaaGreatDoor

/-
  The contract of fraction.rat. Its conditions: the denominator is not 0; sizes.
-/
namespace Go.Proofs.YtgohfieleckmgaaGreatDoor
open Go.RowKit
set_option linter.unusedSimpArgs false
set_option linter.unusedVariables false

/-- Behind a boxed argument of three cells and the three cells of a result. -/
structure Two (w : World) (x y z r0 r1 r2 : Value) (w' : World) : Prop where
  c0 : w'.cell? ⟨w.heap.size, 0, none⟩ = some x
  c1 : w'.cell? ⟨w.heap.size, 1, none⟩ = some y
  c2 : w'.cell? ⟨w.heap.size, 2, none⟩ = some z
  d0 : w'.cell? ⟨w.heap.size + 1, 0, none⟩ = some r0
  d1 : w'.cell? ⟨w.heap.size + 1, 1, none⟩ = some r1
  d2 : w'.cell? ⟨w.heap.size + 1, 2, none⟩ = some r2
  g0 : w'.frozen? ⟨w.heap.size + 1, 0, none⟩ = false
  g1 : w'.frozen? ⟨w.heap.size + 1, 1, none⟩ = false
  g2 : w'.frozen? ⟨w.heap.size + 1, 2, none⟩ = false
  hz : w.heap.size + 1 < w'.heap.size
  bel : Below w.heap.size w w'
  far : ∀ i v, w'.cell? ⟨w.heap.size + 1, i, none⟩ = some v → v = r0 ∨ v = r1 ∨ v = r2

theorem Two.start (w : World) (x y z r0 r1 r2 : Value) (T1 T2 : TypeId) : Two w x y z r0 r1 r2 ((w.alloc (.cells #[x, y, z] T1)).alloc (.cells #[r0, r1, r2] T2)) := by
  refine ⟨?_, ?_, ?_, ?_, ?_, ?_, ?_, ?_, ?_, by simp, ((Below.refl _ _).alloc (Nat.le_refl _) _).alloc (by simp) _, ?_⟩
  case refine_10 =>
    intro i v hv
    rw [World.cell?_alloc_at _ _ _ _ (by simp)] at hv
    match i, hv with
    | 0, hv => exact .inl (by simpa using hv.symm)
    | 1, hv => exact .inr (.inl (by simpa using hv.symm))
    | 2, hv => exact .inr (.inr (by simpa using hv.symm))
    | i + 3, hv => simp at hv
  all_goals simp [go_sem]

theorem Two.next {w : World} {x y z r0 r1 r2 : Value} {w' w'' : World} (h : Two w x y z r0 r1 r2 w') (hb : Below w'.heap.size w' w'') : Two w x y z r0 r1 r2 w'' := by
  have hz := h.hz
  have hs := hb.size
  exact ⟨cell_later hb h.c0, cell_later hb h.c1, cell_later hb h.c2, cell_later hb h.d0, cell_later hb h.d1, cell_later hb h.d2, (hb.frozen (p := ⟨w.heap.size + 1, 0, none⟩) hz).trans h.g0, (hb.frozen (p := ⟨w.heap.size + 1, 1, none⟩) hz).trans h.g1,
    (hb.frozen (p := ⟨w.heap.size + 1, 2, none⟩) hz).trans h.g2, by omega, below_chain h.bel hb, fun i v hv => h.far i v (by rw [← hb.cell (p := ⟨w.heap.size + 1, i, none⟩) hz]; exact hv)⟩

theorem ownsSlz {w : World} {base : Nat} {e : TypeId} {v : Value} {n : Nat} {xs : List Value} (h : w.ownsRow base e 1 v n xs) : ∃ ao cap, v = .slice ao n cap ∧ Sl w ao n cap xs ∧ (ao = none → cap = 0) := by
  obtain ⟨ao, cap, rfl, hs⟩ := ownsSl h
  refine ⟨ao, cap, rfl, hs, ?_⟩
  rintro rfl
  rcases h.2 with ⟨hv, _⟩ | ⟨g, c, cur, hv, _⟩
  · injection hv
  · injection hv with e1; cases e1

theorem cmp_eq {w : World} {ao bo : Option Addr} {n m cap cap' : Nat} (a b : Nat) (x : Int) (hx : ord a b = x) (hA : Sl w ao n cap (u32s (dig a))) (hB : Sl w bo m cap' (u32s (dig b))) :
    Calls Tryz.prog 126 #[.slice ao n cap, .slice bo m cap'] w fun e w' => e = .returned (.int .i64 x) ∧ w = w' := by
  have := cmpD a b hA hB
  rwa [hx] at this

theorem ord_one {g : Nat} (h0 : g ≠ 0) (h1 : g ≠ 1) : ord g 1 = 1 := by unfold ord; rw [if_neg (by omega), if_neg h1]

theorem ratC_of {w : World} {neg : Bool} {a b : Nat} (ha : a ≠ 0) (hb : b ≠ 0) {ao bo : Option Addr} {n cap m cap' : Nat} (h1 : Sl w ao n cap (u32s (dig (a / Nat.gcd a b)))) (h2 : Sl w bo m cap' (u32s (if b / Nat.gcd a b = 1 then [] else dig (b / Nat.gcd a b))))
    (hz : ao = none → cap = 0) (hz' : bo = none → cap' = 0) : RatC w (.agg #[.bool neg, .slice ao n cap, .slice bo m cap']) (mkRat (sgn neg a) b) := by
  obtain ⟨e1, e2, e3⟩ := mk_reduce neg ha hb
  refine ⟨ao, bo, n, cap, m, cap', by rw [e3], by rw [e1]; exact h1, ?_, hz, hz'⟩
  unfold denL
  rw [e2]; exact h2

theorem Two.off {w : World} {x y z : Value} {b0 : Bool} {a1 a2 : Option Addr} {n1 n2 k1 k2 : Nat} {w' : World} (h : Two w x y z (.bool b0) (.slice a1 n1 k1) (.slice a2 n2 k2) w') {ao : Option Addr} {n cap : Nat} {l : List Nat} (s : Sl w' ao n cap (u32s l)) : Off (w.heap.size + 1) ao n := by
  rintro a rfl hn e
  have hl := s.lenU
  obtain ⟨x, _, b, off, e2, hc⟩ := s.u32 (show 0 < n by omega)
  obtain rfl := Option.some.inj e2
  simp only at e
  subst e
  rcases h.far _ _ hc with h1 | h1 | h1 <;> cases h1

theorem ratC_zero (w : World) : RatC w (.agg #[.bool false, .slice none 0 0, .slice none 0 0]) 0 :=
  ⟨none, none, 0, 0, 0, 0, rfl, by rw [show (0 : Rat).num.natAbs = 0 from rfl, dig_zero]; exact Sl.nil _, Sl.nil _, fun _ => rfl, fun _ => rfl⟩

/-- The result is stored. -/
theorem Two.out {w : World} {x y z : Value} {b0 : Bool} {a1 a2 : Option Addr} {n1 n2 k1 k2 : Nat} {W : World} (h : Two w x y z (.bool b0) (.slice a1 n1 k1) (.slice a2 n2 k2) W) {neg : Bool} {a b : Nat} (ha : a ≠ 0) (hb : b ≠ 0) {ao bo : Option Addr} {n cap m cap' : Nat}
    (s1 : Sl W ao n cap (u32s (dig (a / Nat.gcd a b)))) (s2 : Sl W bo m cap' (u32s (if b / Nat.gcd a b = 1 then [] else dig (b / Nat.gcd a b)))) (hz : ao = none → cap = 0) (hz' : bo = none → cap' = 0) :
    RatOut w (mkRat (sgn neg a) b) (.returned (.agg #[.bool neg, .slice ao n cap, .slice bo m cap'])) (((W.setCell ⟨w.heap.size + 1, 0, none⟩ (.bool neg)).setCell ⟨w.heap.size + 1, 1, none⟩ (.slice ao n cap)).setCell ⟨w.heap.size + 1, 2, none⟩ (.slice bo m cap')) :=
  ⟨_, rfl, ratC_of ha hb (s1.set3 (h.off s1) _ _ _) (s2.set3 (by
    split at s2
    · have := s2.len; simp [u32s] at this; subst this; intro _ _ h; exact absurd rfl h
    · exact h.off s2) _ _ _) hz hz', below_set3 h.bel (by omega) _ _ _⟩

set_option maxHeartbeats 2000000 in
theorem rat_any (neg : Bool) (a b : Nat) (v : Value) (w : World) (h : FrV w v neg a b) (ha : lim a ≤ 17179869184) (hb : lim b ≤ 17179869184) :
    Calls Tryz.prog 102 #[v] w (RatOut w (mkRat (sgn neg a) b)) := by
  obtain ⟨ao, bo, n, cap, m, cap', rfl, sN, sD, hza, hzb, hb0⟩ := h
  have hn : n ≤ 17179869184 := by rw [← sN.lenU]; exact ha
  have hm : m ≤ 17179869184 := by rw [← sD.lenU]; exact hb
  have hnl := hid sN.lenU
  by_cases ha0 : a = 0
  · subst ha0
    have : n = 0 := by have := hnl.out; rw [dig_zero] at this; exact this.symm
    subst this
    have h0 : mkRat (sgn neg 0) b = 0 := by cases neg <;> simp [sgn]
    rw [h0]
    clear h0
    go_enter Tryz.func102, Tryz.ntmps102
    go_wp2_with fail
    refine bodyPost_ret (v := .agg #[.bool false, .slice none 0 0, .slice none 0 0]) (by simp [results, Tryz.results102, go_sem]) rfl ?_
    exact ⟨_, rfl, ratC_zero _, ((Below.refl _ _).alloc (Nat.le_refl _) _).alloc (by simp) _⟩
  · have hn0 : 1 ≤ n := by
      have := hnl.out
      cases n with
      | zero => exact absurd (List.eq_nil_of_length_eq_zero this) (fun h => ha0 (dig_nil.1 h))
      | succ n => omega
    go_enter Tryz.func102, Tryz.ntmps102
    go_wp2_with fail
    have ht := Two.start w (.bool neg) (.slice ao n cap) (.slice bo m cap') (.bool false) (.slice none 0 0) (.slice none 0 0) 110 25
    generalize (w.alloc (Obj.cells #[Value.bool neg, Value.slice ao n cap, Value.slice bo m cap'] 110)).alloc (Obj.cells #[Value.bool false, Value.slice none 0 0, Value.slice none 0 0] 25) = W at *
    have hK' : ∀ w' w'', (w'.cell? ⟨w.heap.size, 1, none⟩ = some (.slice ao n cap) ∧ w'.cell? ⟨w.heap.size, 2, none⟩ = some (.slice bo m cap') ∧ Two w (.bool neg) (.slice ao n cap) (.slice bo m cap') (.bool false) (.slice none 0 0) (.slice none 0 0) w') → Below w'.heap.size w' w'' →
        (w''.cell? ⟨w.heap.size, 1, none⟩ = some (.slice ao n cap) ∧ w''.cell? ⟨w.heap.size, 2, none⟩ = some (.slice bo m cap') ∧ Two w (.bool neg) (.slice ao n cap) (.slice bo m cap') (.bool false) (.slice none 0 0) (.slice none 0 0) w'') :=
      fun w' w'' h hb => have t := h.2.2.next hb; ⟨t.c1, t.c2, t⟩
    have ht1 := ht.next (Below.refl _ W).drew
    go_region_held3 (fun w' => w'.cell? ⟨w.heap.size, 1, none⟩ = some (.slice ao n cap) ∧ w'.cell? ⟨w.heap.size, 2, none⟩ = some (.slice bo m cap') ∧ Two w (.bool neg) (.slice ao n cap) (.slice bo m cap') (.bool false) (.slice none 0 0) (.slice none 0 0) w')
      (first | assumption | exact ⟨ht1.c1, ht1.c2, ht1⟩ | exact hK' _ _ (by assumption) hba | exact hK' _ _ (by assumption) hbb | exact hK' W.drew _ ⟨ht1.c1, ht1.c2, ht1⟩ hba)
      (first
        | (go_at_call_of 134 (Value.slice ao n cap); refine (cloneU_any (dig a) ao n cap _ (sN.next ht1.bel) (by omega)).mono ?_; rintro e wa ⟨va, rfl, owna, hba⟩)
        | (go_at_call_of 134 (Value.slice bo m cap'); refine (cloneU_any (dig b) bo m cap' _ (sD.next (below_chain ht1.bel hba)) (by omega)).mono ?_; rintro e wb ⟨vb, rfl, ownb, hbb⟩))
    have hWb : Below W.heap.size W wb := below_chain (Below.refl _ W).drew (below_chain hba hbb)
    have tb := ht.next hWb
    obtain ⟨ao2, cap2, rfl, sa, hz2⟩ := ownsSlz owna
    obtain ⟨bo2, cap3, rfl, sb, hz3⟩ := ownsSlz ownb
    have sa := sa.next hbb
    clear owna ownb
    obtain ⟨G, hG⟩ : ∃ G, Nat.gcd a b = G := ⟨_, rfl⟩
    have hG0 : G ≠ 0 := by rw [← hG]; exact fun h => ha0 (Nat.gcd_eq_zero_iff.1 h).1
    have hGl : lim G ≤ 17179869184 := Nat.le_trans (lim_mono (by rw [← hG]; exact Nat.gcd_le_left _ (Nat.pos_of_ne_zero ha0))) ha
    have HG := hid hG; clear hG
    go_wp2_with fail
    refine (gcd_any a b _ _ _ _ _ _ _ sa sb hz2 hz3 hn hm).mono ?_; rintro e w3 ⟨go, gn, gc, rfl, sg, hzg, hb3⟩
    rw [HG.out] at sg
    have hAl : lim (a / G) ≤ 17179869184 := Nat.le_trans (lim_mono (Nat.div_le_self _ _)) ha
    have hBl : lim (b / G) ≤ 17179869184 := Nat.le_trans (lim_mono (Nat.div_le_self _ _)) hb
    have hB0 : b / G ≠ 0 := by
      have h1 := Nat.div_mul_cancel (Nat.gcd_dvd_right a b)
      rw [HG.out] at h1
      intro h; rw [h] at h1; omega
    have sa3 := sa.next hb3
    have sb3 := sb.next hb3
    have ht3 := (ht.next hWb).next hb3
    by_cases hG1 : G = 1
    · subst hG1
      go_wp2_with fail
      refine (one_any _).mono ?_; rintro e w4 ⟨rfl, s4, hb4⟩
      have ht4 := ht3.next hb4
      go_wp2_with fail
      refine (cmp_eq 1 1 0 rfl (sg.next hb4) s4).mono ?_; rintro e w4' ⟨rfl, rfl⟩
      go_wp2_with fail
      refine (one_any _).mono ?_; rintro e w5 ⟨rfl, s5, hb5⟩
      have ht5 := ht4.next hb5
      have sb5 := (sb3.next hb4).next hb5
      have sa5 := (sa3.next hb4).next hb5
      have fin := fun (bo' : Option Addr) (m' c' : Nat) (s2 : Sl w5 bo' m' c' (u32s (if b / Nat.gcd a b = 1 then [] else dig (b / Nat.gcd a b)))) (hz' : bo' = none → c' = 0) => ht5.out (neg := neg) ha0 hb0 (by rw [HG.out, Nat.div_one]; exact sa5) s2 hz2 hz'
      have Fin := hid fin; clear fin
      by_cases hB1 : b = 1
      · subst hB1
        obtain ⟨c0, c1, c2, d0, d1, d2, g0, g1, g2, hz, hbel, _⟩ := ht5
        go_wp2_with fail
        refine (cmp_eq 1 1 0 rfl sb5 s5).mono ?_; rintro e w5' ⟨rfl, rfl⟩
        go_wp2_with fail
        refine bodyPost_ret (v := .agg #[.bool neg, .slice ao2 n cap2, .slice none 0 0]) (by simp [results, Tryz.results102, go_sem, d0, d1, d2]) rfl ?_
        exact Fin.out none 0 0 (by rw [HG.out]; exact Sl.nil _) (fun _ => rfl)
      · obtain ⟨c0, c1, c2, d0, d1, d2, g0, g1, g2, hz, hbel, _⟩ := ht5
        go_wp2_with fail
        refine (cmp_eq b 1 1 (ord_one hb0 hB1) sb5 s5).mono ?_; rintro e w5' ⟨rfl, rfl⟩
        go_wp2_with fail
        refine bodyPost_ret (v := .agg #[.bool neg, .slice ao2 n cap2, .slice bo2 m cap3]) (by simp [results, Tryz.results102, go_sem, d0, d1, d2]) rfl ?_
        exact Fin.out bo2 m cap3 (by rw [HG.out, Nat.div_one, if_neg hB1]; exact sb5) hz3
    · have hgn : gn ≤ 17179869184 := by rw [← sg.lenU]; exact hGl
      go_wp2_with fail
      refine (one_any _).mono ?_; rintro e w4 ⟨rfl, s4, hb4⟩
      have ht4 := ht3.next hb4
      go_wp2_with fail
      refine (cmp_eq G 1 1 (ord_one hG0 hG1) (sg.next hb4) s4).mono ?_; rintro e w4' ⟨rfl, rfl⟩
      go_wp2_with fail
      refine (over_any a G hG0 _ _ _ _ _ _ _ (sa3.next hb4) (sg.next hb4) hn hgn).mono ?_; rintro e w5 ⟨qo, qn, qc, ro, rn, rc, rfl, sq, sr, hzq, hzr, hb5⟩
      go_wp2_with fail
      refine (over_any b G hG0 _ _ _ _ _ _ _ ((sb3.next hb4).next hb5) ((sg.next hb4).next hb5) hm hgn).mono ?_; rintro e w6 ⟨po, pn, pc, ro', rn', rc', rfl, sp, sr', hzp, hzr', hb6⟩
      go_wp2_with fail
      refine (one_any _).mono ?_; rintro e w7 ⟨rfl, s7, hb7⟩
      have ht7 := ((ht4.next hb5).next hb6).next hb7
      have sq7 := (sq.next hb6).next hb7
      have sp7 := sp.next hb7
      have fin := fun (bo' : Option Addr) (m' c' : Nat) (s2 : Sl w7 bo' m' c' (u32s (if b / Nat.gcd a b = 1 then [] else dig (b / Nat.gcd a b)))) (hz' : bo' = none → c' = 0) => ht7.out (neg := neg) ha0 hb0 (by rw [HG.out]; exact sq7) s2 hzq hz'
      have Fin := hid fin; clear fin
      obtain ⟨B, hB⟩ : ∃ B, b / G = B := ⟨_, rfl⟩
      rw [hB] at sp7 hB0
      have HB := hid hB; clear hB
      by_cases hB1 : B = 1
      · subst hB1
        obtain ⟨c0, c1, c2, d0, d1, d2, g0, g1, g2, hz, hbel, _⟩ := ht7
        go_wp2_with fail
        refine (cmp_eq 1 1 0 rfl sp7 s7).mono ?_; rintro e w5' ⟨rfl, rfl⟩
        go_wp2_with fail
        refine bodyPost_ret (v := .agg #[.bool neg, .slice qo qn qc, .slice none 0 0]) (by simp [results, Tryz.results102, go_sem, d0, d1, d2]) rfl ?_
        exact Fin.out none 0 0 (by rw [HG.out, HB.out]; exact Sl.nil _) (fun _ => rfl)
      · obtain ⟨c0, c1, c2, d0, d1, d2, g0, g1, g2, hz, hbel, _⟩ := ht7
        go_wp2_with fail
        refine (cmp_eq B 1 1 (ord_one hB0 hB1) sp7 s7).mono ?_; rintro e w5' ⟨rfl, rfl⟩
        go_wp2_with fail
        refine bodyPost_ret (v := .agg #[.bool neg, .slice qo qn qc, .slice po pn pc]) (by simp [results, Tryz.results102, go_sem, d0, d1, d2]) rfl ?_
        exact Fin.out po pn pc (by rw [HG.out, HB.out, if_neg hB1]; exact sp7) hzp

end Go.Proofs.YtgohfieleckmgaaGreatDoor

/-
  The contract of fraction.plus and negative. Conditions: the denominators are not 0; sizes.
-/
namespace Go.Proofs.YtgohfieleckmgaaGreatDoor
open Go.RowKit
set_option linter.unusedSimpArgs false
set_option linter.unusedVariables false

/-- The three cells of a result in block G. -/
structure Res (w : World) (G : Nat) (b0 : Bool) (a1 : Option Addr) (n1 k1 : Nat) (a2 : Option Addr) (n2 k2 : Nat) (w' : World) : Prop where
  d0 : w'.cell? ⟨G, 0, none⟩ = some (.bool b0)
  d1 : w'.cell? ⟨G, 1, none⟩ = some (.slice a1 n1 k1)
  d2 : w'.cell? ⟨G, 2, none⟩ = some (.slice a2 n2 k2)
  g0 : w'.frozen? ⟨G, 0, none⟩ = false
  g1 : w'.frozen? ⟨G, 1, none⟩ = false
  g2 : w'.frozen? ⟨G, 2, none⟩ = false
  hz : G < w'.heap.size
  hG : w.heap.size ≤ G
  bel : Below w.heap.size w w'
  far : ∀ i v, w'.cell? ⟨G, i, none⟩ = some v → v = .bool b0 ∨ v = .slice a1 n1 k1 ∨ v = .slice a2 n2 k2

theorem Res.start {w W : World} (hb : Below w.heap.size w W) (b0 : Bool) (a1 : Option Addr) (n1 k1 : Nat) (a2 : Option Addr) (n2 k2 : Nat) (T : TypeId) : Res w W.heap.size b0 a1 n1 k1 a2 n2 k2 (W.alloc (.cells #[.bool b0, .slice a1 n1 k1, .slice a2 n2 k2] T)) := by
  refine ⟨?_, ?_, ?_, ?_, ?_, ?_, by simp, hb.size, hb.alloc hb.size _, ?_⟩
  case refine_7 =>
    intro i v hv
    rw [World.cell?_alloc_at _ _ _ _ rfl] at hv
    match i, hv with
    | 0, hv => exact .inl (by simpa using hv.symm)
    | 1, hv => exact .inr (.inl (by simpa using hv.symm))
    | 2, hv => exact .inr (.inr (by simpa using hv.symm))
    | i + 3, hv => simp at hv
  all_goals simp [go_sem]

section
variable {w : World} {G : Nat} {b0 : Bool} {a1 a2 : Option Addr} {n1 n2 k1 k2 : Nat} {w' w'' : World}
theorem Res.next (h : Res w G b0 a1 n1 k1 a2 n2 k2 w') (hb : Below w'.heap.size w' w'') : Res w G b0 a1 n1 k1 a2 n2 k2 w'' := by
  have hz := h.hz
  have hs := hb.size
  exact ⟨cell_later hb h.d0, cell_later hb h.d1, cell_later hb h.d2, (hb.frozen (p := ⟨G, 0, none⟩) hz).trans h.g0, (hb.frozen (p := ⟨G, 1, none⟩) hz).trans h.g1,
    (hb.frozen (p := ⟨G, 2, none⟩) hz).trans h.g2, by omega, h.hG, below_chain h.bel hb, fun i v hv => h.far i v (by rw [← hb.cell (p := ⟨G, i, none⟩) hz]; exact hv)⟩

theorem Res.off (h : Res w G b0 a1 n1 k1 a2 n2 k2 w') {ao : Option Addr} {n cap : Nat} {l : List Nat} (s : Sl w' ao n cap (u32s l)) : Off G ao n := by
  rintro a rfl hn e
  have hl := s.lenU
  obtain ⟨x, _, b, off, e2, hc⟩ := s.u32 (show 0 < n by omega)
  obtain rfl := Option.some.inj e2
  simp only at e
  subst e
  rcases h.far _ _ hc with h1 | h1 | h1 <;> cases h1

/-- A fraction comes back. -/
def FrOut (w : World) (neg : Bool) (a b : Nat) (e : Ending) (w' : World) : Prop := ∃ v, e = .returned v ∧ FrV w' v neg a b ∧ Below w.heap.size w w'

theorem Res.fr (h : Res w G b0 a1 n1 k1 a2 n2 k2 w') {neg : Bool} {a b : Nat} {ao bo : Option Addr} {n cap m cap' : Nat} (s1 : Sl w' ao n cap (u32s (dig a))) (s2 : Sl w' bo m cap' (u32s (dig b))) (hz : ao = none → cap = 0) (hz' : bo = none → cap' = 0) (hb : b ≠ 0) :
    FrOut w neg a b (.returned (.agg #[.bool neg, .slice ao n cap, .slice bo m cap'])) (((w'.setCell ⟨G, 0, none⟩ (.bool neg)).setCell ⟨G, 1, none⟩ (.slice ao n cap)).setCell ⟨G, 2, none⟩ (.slice bo m cap')) :=
  ⟨_, rfl, ⟨ao, bo, n, cap, m, cap', rfl, s1.set3 (h.off s1) _ _ _, s2.set3 (h.off s2) _ _ _, hz, hz', hb⟩, below_set3 h.bel h.hG _ _ _⟩
end

/-- A boxed argument of three cells. -/
structure Box (B : Nat) (x y z : Value) (w' : World) : Prop where
  c0 : w'.cell? ⟨B, 0, none⟩ = some x
  c1 : w'.cell? ⟨B, 1, none⟩ = some y
  c2 : w'.cell? ⟨B, 2, none⟩ = some z

theorem Box.start (W : World) (x y z : Value) (T : TypeId) : Box W.heap.size x y z (W.alloc (.cells #[x, y, z] T)) := ⟨by simp [go_sem], by simp [go_sem], by simp [go_sem]⟩
theorem Box.next {B : Nat} {x y z : Value} {w' w'' : World} (h : Box B x y z w') (hb : Below w'.heap.size w' w'') : Box B x y z w'' := ⟨cell_later hb h.c0, cell_later hb h.c1, cell_later hb h.c2⟩

set_option maxHeartbeats 1000000 in
theorem negative_any (neg : Bool) (a b : Nat) (v : Value) (w : World) (h : FrV w v neg a b) :
    Calls Tryz.prog 105 #[v] w (FrOut w (!neg) a b) := by
  obtain ⟨ao, bo, n, cap, m, cap', rfl, sN, sD, hza, hzb, hb0⟩ := h
  go_enter Tryz.func105, Tryz.ntmps105
  go_wp2_with fail
  refine bodyPost_ret (v := .agg #[.bool !neg, .slice ao n cap, .slice bo m cap']) (by simp [results, Tryz.results105, go_sem]) rfl ?_
  have hb := ((Below.refl w.heap.size w).alloc (Nat.le_refl _) (.cells #[.bool neg, .slice ao n cap, .slice bo m cap'] 110)).alloc (by simp) (.cells #[.bool !neg, .slice ao n cap, .slice bo m cap'] 110)
  exact ⟨_, rfl, ⟨ao, bo, n, cap, m, cap', rfl, sN.next hb, sD.next hb, hza, hzb, hb0⟩, hb⟩

/-- The sum of two fractions. -/
def SumOut (w : World) (s : Bool) (a b : Nat) (t : Bool) (c d : Nat) (e : Ending) (w' : World) : Prop :=
  ∃ u A, FrOut w u A (b * d) e w' ∧ sgn u A = sgn s a * d + sgn t c * b ∧ A ≤ a * d + c * b

set_option maxHeartbeats 4000000 in
theorem fplus_any (s : Bool) (a b : Nat) (t : Bool) (c d : Nat) (v v2 : Value) (w : World) (h : FrV w v s a b) (h' : FrV w v2 t c d) (ha : lim a ≤ 8589934592) (hb : lim b ≤ 8589934592) (hc : lim c ≤ 8589934592) (hd : lim d ≤ 8589934592) :
    Calls Tryz.prog 103 #[v, v2] w (SumOut w s a b t c d) := by
  obtain ⟨ao, bo, n, cap, m, cap', rfl, sA, sB, hza, hzb, hb0⟩ := h
  obtain ⟨co, eo, n2, cap2, m2, cap3, rfl, sC, sD, hzc, hzd, hd0⟩ := h'
  have hn : n ≤ 8589934592 := by rw [← sA.lenU]; exact ha
  have hm : m ≤ 8589934592 := by rw [← sB.lenU]; exact hb
  have hn2 : n2 ≤ 8589934592 := by rw [← sC.lenU]; exact hc
  have hm2 : m2 ≤ 8589934592 := by rw [← sD.lenU]; exact hd
  have hlx : lim (a * d) ≤ 17179869184 := Nat.le_trans (lim_mul _ _) (by omega)
  have hly : lim (c * b) ≤ 17179869184 := Nat.le_trans (lim_mul _ _) (by omega)
  obtain ⟨X, hX⟩ : ∃ X, a * d = X := ⟨_, rfl⟩
  obtain ⟨Y, hY⟩ : ∃ Y, c * b = Y := ⟨_, rfl⟩
  obtain ⟨Z, hZ⟩ : ∃ Z, b * d = Z := ⟨_, rfl⟩
  have hZ0 : Z ≠ 0 := by rw [← hZ]; exact Nat.mul_ne_zero hb0 hd0
  rw [hX] at hlx; rw [hY] at hly
  have hsX : Hid (sgn s a * d = sgn s X) := hid (by rw [← hX]; cases s <;> simp [sgn, Int.neg_mul])
  have hsY : Hid (sgn t c * b = sgn t Y) := hid (by rw [← hY]; cases t <;> simp [sgn, Int.neg_mul])
  have HX := hid hX; have HY := hid hY; have HZ := hid hZ
  clear hX hY hZ
  have tX := fun (w' : World) (h : Below w.heap.size w w') => (by have := timesD a d (sA.next h) (sD.next h) (by omega) (by omega); rwa [HX.out] at this : Calls Tryz.prog 101 #[.slice ao n cap, .slice eo m2 cap3] w' (NumOut w' X))
  have tY := fun (w' : World) (h : Below w.heap.size w w') => (by have := timesD c b (sC.next h) (sB.next h) (by omega) (by omega); rwa [HY.out] at this : Calls Tryz.prog 101 #[.slice co n2 cap2, .slice bo m cap'] w' (NumOut w' Y))
  have tZ := fun (w' : World) (h : Below w.heap.size w w') => (by have := timesD b d (sB.next h) (sD.next h) (by omega) (by omega); rwa [HZ.out] at this : Calls Tryz.prog 101 #[.slice bo m cap', .slice eo m2 cap3] w' (NumOut w' Z))
  have TX := hid tX; have TY := hid tY; have TZ := hid tZ
  clear tX tY tZ
  have hr := Res.start (((Below.refl w.heap.size w).alloc (Nat.le_refl _) (.cells #[.bool s, .slice ao n cap, .slice bo m cap'] 110)).alloc (by simp) (.cells #[.bool t, .slice co n2 cap2, .slice eo m2 cap3] 110)) false none 0 0 none 0 0 110
  have hx1 : Box w.heap.size (.bool s) (.slice ao n cap) (.slice bo m cap') (((w.alloc (.cells #[.bool s, .slice ao n cap, .slice bo m cap'] 110)).alloc (.cells #[.bool t, .slice co n2 cap2, .slice eo m2 cap3] 110)).alloc (.cells #[.bool false, .slice none 0 0, .slice none 0 0] 110)) := ⟨by simp [go_sem], by simp [go_sem], by simp [go_sem]⟩
  have hx2 : Box (w.heap.size + 1) (.bool t) (.slice co n2 cap2) (.slice eo m2 cap3) (((w.alloc (.cells #[.bool s, .slice ao n cap, .slice bo m cap'] 110)).alloc (.cells #[.bool t, .slice co n2 cap2, .slice eo m2 cap3] 110)).alloc (.cells #[.bool false, .slice none 0 0, .slice none 0 0] 110)) := ⟨by simp [go_sem], by simp [go_sem], by simp [go_sem]⟩
  simp only [World.size_alloc] at hr
  go_enter Tryz.func103, Tryz.ntmps103
  go_wp2_with fail
  generalize (((w.alloc (.cells #[.bool s, .slice ao n cap, .slice bo m cap'] 110)).alloc (.cells #[.bool t, .slice co n2 cap2, .slice eo m2 cap3] 110)).alloc (.cells #[.bool false, .slice none 0 0, .slice none 0 0] 110)) = W at *
  have hK : ∀ w' w'', (w'.cell? ⟨w.heap.size, 1, none⟩ = some (.slice ao n cap) ∧ w'.cell? ⟨w.heap.size, 2, none⟩ = some (.slice bo m cap') ∧ w'.cell? ⟨w.heap.size + 1, 1, none⟩ = some (.slice co n2 cap2) ∧ w'.cell? ⟨w.heap.size + 1, 2, none⟩ = some (.slice eo m2 cap3) ∧ Box w.heap.size (.bool s) (.slice ao n cap) (.slice bo m cap') w' ∧ Box (w.heap.size + 1) (.bool t) (.slice co n2 cap2) (.slice eo m2 cap3) w' ∧ Res w (w.heap.size + 1 + 1) false none 0 0 none 0 0 w') → Below w'.heap.size w' w'' → (w''.cell? ⟨w.heap.size, 1, none⟩ = some (.slice ao n cap) ∧ w''.cell? ⟨w.heap.size, 2, none⟩ = some (.slice bo m cap') ∧ w''.cell? ⟨w.heap.size + 1, 1, none⟩ = some (.slice co n2 cap2) ∧ w''.cell? ⟨w.heap.size + 1, 2, none⟩ = some (.slice eo m2 cap3) ∧ Box w.heap.size (.bool s) (.slice ao n cap) (.slice bo m cap') w'' ∧ Box (w.heap.size + 1) (.bool t) (.slice co n2 cap2) (.slice eo m2 cap3) w'' ∧ Res w (w.heap.size + 1 + 1) false none 0 0 none 0 0 w'') :=
    fun w' w'' h hb => have t1 := h.2.2.2.2.1.next hb; have t2 := h.2.2.2.2.2.1.next hb; ⟨t1.c1, t1.c2, t2.c1, t2.c2, t1, t2, h.2.2.2.2.2.2.next hb⟩
  have h0 : (W.cell? ⟨w.heap.size, 1, none⟩ = some (.slice ao n cap) ∧ W.cell? ⟨w.heap.size, 2, none⟩ = some (.slice bo m cap') ∧ W.cell? ⟨w.heap.size + 1, 1, none⟩ = some (.slice co n2 cap2) ∧ W.cell? ⟨w.heap.size + 1, 2, none⟩ = some (.slice eo m2 cap3) ∧ Box w.heap.size (.bool s) (.slice ao n cap) (.slice bo m cap') W ∧ Box (w.heap.size + 1) (.bool t) (.slice co n2 cap2) (.slice eo m2 cap3) W ∧ Res w (w.heap.size + 1 + 1) false none 0 0 none 0 0 W) := ⟨hx1.c1, hx1.c2, hx2.c1, hx2.c2, hx1, hx2, hr⟩
  have h1 := hK W W.drew h0 (Below.refl _ W).drew
  go_region_held3 (fun w' => (w'.cell? ⟨w.heap.size, 1, none⟩ = some (.slice ao n cap) ∧ w'.cell? ⟨w.heap.size, 2, none⟩ = some (.slice bo m cap') ∧ w'.cell? ⟨w.heap.size + 1, 1, none⟩ = some (.slice co n2 cap2) ∧ w'.cell? ⟨w.heap.size + 1, 2, none⟩ = some (.slice eo m2 cap3) ∧ Box w.heap.size (.bool s) (.slice ao n cap) (.slice bo m cap') w' ∧ Box (w.heap.size + 1) (.bool t) (.slice co n2 cap2) (.slice eo m2 cap3) w' ∧ Res w (w.heap.size + 1 + 1) false none 0 0 none 0 0 w'))
    (first | assumption | exact hK _ _ (by assumption) hbX | exact hK _ _ (by assumption) hbY | exact hK _ _ (by assumption) hbZ | exact hK W.drew _ h1 hbX)
    (first
      | (go_at_call_of 101 (Value.slice ao n cap); refine (TX.out _ h1.2.2.2.2.2.2.bel).mono ?_; rintro e wx ⟨xo, xn, xc, rfl, sX, hzX, hbX, _⟩; have h2 := hK _ wx h1 hbX)
      | (go_at_call_of 101 (Value.slice co n2 cap2); refine (TY.out _ h2.2.2.2.2.2.2.bel).mono ?_; rintro e wy ⟨yo, yn, yc, rfl, sY, hzY, hbY, _⟩; have h3 := hK _ wy h2 hbY)
      | (go_at_call 101; refine (TZ.out _ h3.2.2.2.2.2.2.bel).mono ?_; rintro e wz ⟨zo, zn, zc, rfl, sZ, hzZ, hbZ, _⟩; have h4 := hK _ wz h3 hbZ))
  obtain ⟨hx1z, hx2z, hrz⟩ := h4.2.2.2.2
  have sXz := (sX.next hbY).next hbZ
  have sYz := sY.next hbZ
  have sZz := sZ
  have hxn : xn ≤ 17179869184 := by rw [← sX.lenU]; exact hlx
  have hyn : yn ≤ 17179869184 := by rw [← sY.lenU]; exact hly
  obtain ⟨c0, _, _⟩ := hx1z
  obtain ⟨b0, _, _⟩ := hx2z
  clear h0 h1 h2 h3 h4 hK hx1 hx2 hr
  by_cases hst : s = t
  · subst hst
    have hss : (s == s) = true := by simp
    go_wp2_with fail
    have hK' : ∀ w' w'', (w'.cell? ⟨w.heap.size, 0, none⟩ = some (.bool s) ∧ Below w.heap.size w w') → Below w'.heap.size w' w'' → (w''.cell? ⟨w.heap.size, 0, none⟩ = some (.bool s) ∧ Below w.heap.size w w'') := fun w' w'' h hb => ⟨cell_later hb h.1, below_chain h.2 hb⟩
    have hSt : ∀ w' (x y z : Value), (w'.cell? ⟨w.heap.size, 0, none⟩ = some (.bool s) ∧ Below w.heap.size w w') → ((((w'.setCell ⟨w.heap.size + 1 + 1, 0, none⟩ x).setCell ⟨w.heap.size + 1 + 1, 1, none⟩ y).setCell ⟨w.heap.size + 1 + 1, 2, none⟩ z).cell? ⟨w.heap.size, 0, none⟩ = some (.bool s) ∧ Below w.heap.size w (((w'.setCell ⟨w.heap.size + 1 + 1, 0, none⟩ x).setCell ⟨w.heap.size + 1 + 1, 1, none⟩ y).setCell ⟨w.heap.size + 1 + 1, 2, none⟩ z)) := fun w' x y z h => ⟨(cell_set3 (by omega) x y z).trans h.1, below_set3 h.2 (by omega) x y z⟩
    have hrd := hrz.next (Below.refl _ wz).drew
    have hbase : (wz.drew.cell? ⟨w.heap.size, 0, none⟩ = some (.bool s) ∧ Below w.heap.size w wz.drew) := ⟨cell_later (Below.refl _ wz).drew c0, hrd.bel⟩
    go_region_held3 (fun w' => (w'.cell? ⟨w.heap.size, 0, none⟩ = some (.bool s) ∧ Below w.heap.size w w'))
      (first | assumption | exact hbase | exact hK' _ _ (by assumption) hbp | exact hSt _ _ _ _ (by assumption) | exact hSt _ _ _ _ (hK' _ _ hbase hbp) | exact hK' wz.drew _ hbase hbp)
      ((go_at_call 136; refine (plusD X Y (sXz.next (Below.refl _ wz).drew) (sYz.next (Below.refl _ wz).drew) (by omega) (by omega)).mono ?_; rintro e wp ⟨po, pn, pc, rfl, sP, hzp, hbp, _⟩; have hrp := hrd.next hbp; obtain ⟨d0, d1, d2, g0, g1, g2, _, _, _, _⟩ := hrd.next hbp))
    go_wp2_with fail
    refine bodyPost_ret (v := .agg #[.bool s, .slice po pn pc, .slice zo zn zc]) (by simp [results, Tryz.results103, go_sem, d0, d1, d2]) rfl ?_
    have fr := hrp.fr (neg := s) sP ((sZz.next (Below.refl _ wz).drew).next hbp) hzp hzZ hZ0
    rw [← HZ.out] at fr
    exact ⟨s, X + Y, fr, by rw [hsX.out, hsY.out]; cases s <;> simp [sgn] <;> omega, by rw [HX.out, HY.out]; exact Nat.le_refl _⟩
  · have hss : (s == t) = false := by simpa using hst
    go_wp2_with fail
    refine (cmpD X Y sXz sYz).mono ?_; rintro e wz' ⟨rfl, rfl⟩
    by_cases hge : Y ≤ X
    · have hd : decide (0 ≤ ord X Y) = true := by
        rw [decide_eq_true_eq]; unfold ord; rw [if_neg (by omega)]; split <;> decide
      go_wp2_with fail
      have hK' : ∀ w' w'', (w'.cell? ⟨w.heap.size, 0, none⟩ = some (.bool s) ∧ Below w.heap.size w w') → Below w'.heap.size w' w'' → (w''.cell? ⟨w.heap.size, 0, none⟩ = some (.bool s) ∧ Below w.heap.size w w'') := fun w' w'' h hb => ⟨cell_later hb h.1, below_chain h.2 hb⟩
      have hSt : ∀ w' (x y z : Value), (w'.cell? ⟨w.heap.size, 0, none⟩ = some (.bool s) ∧ Below w.heap.size w w') → ((((w'.setCell ⟨w.heap.size + 1 + 1, 0, none⟩ x).setCell ⟨w.heap.size + 1 + 1, 1, none⟩ y).setCell ⟨w.heap.size + 1 + 1, 2, none⟩ z).cell? ⟨w.heap.size, 0, none⟩ = some (.bool s) ∧ Below w.heap.size w (((w'.setCell ⟨w.heap.size + 1 + 1, 0, none⟩ x).setCell ⟨w.heap.size + 1 + 1, 1, none⟩ y).setCell ⟨w.heap.size + 1 + 1, 2, none⟩ z)) := fun w' x y z h => ⟨(cell_set3 (by omega) x y z).trans h.1, below_set3 h.2 (by omega) x y z⟩
      have hrd := hrz.next (Below.refl _ wz).drew
      have hbase : (wz.drew.cell? ⟨w.heap.size, 0, none⟩ = some (.bool s) ∧ Below w.heap.size w wz.drew) := ⟨cell_later (Below.refl _ wz).drew c0, hrd.bel⟩
      go_region_held3 (fun w' => (w'.cell? ⟨w.heap.size, 0, none⟩ = some (.bool s) ∧ Below w.heap.size w w'))
        (first | assumption | exact hbase | exact hK' _ _ (by assumption) hbp | exact hSt _ _ _ _ (by assumption) | exact hSt _ _ _ _ (hK' _ _ hbase hbp) | exact hK' wz.drew _ hbase hbp)
        ((go_at_call 137; refine (minusD X Y hge (sXz.next (Below.refl _ wz).drew) (sYz.next (Below.refl _ wz).drew) (by omega) (by omega)).mono ?_; rintro e wp ⟨po, pn, pc, rfl, sP, hzp, hbp, _⟩; have hrp := hrd.next hbp; obtain ⟨d0, d1, d2, g0, g1, g2, _, _, _, _⟩ := hrd.next hbp))
      go_wp2_with fail
      refine bodyPost_ret (v := .agg #[.bool s, .slice po pn pc, .slice zo zn zc]) (by simp [results, Tryz.results103, go_sem, d0, d1, d2]) rfl ?_
      have fr := hrp.fr (neg := s) sP ((sZz.next (Below.refl _ wz).drew).next hbp) hzp hzZ hZ0
      rw [← HZ.out] at fr
      exact ⟨s, X - Y, fr, by rw [hsX.out, hsY.out]; revert hst; cases s <;> cases t <;> simp [sgn] <;> omega, by rw [HX.out, HY.out]; omega⟩
    · have hd : decide (0 ≤ ord X Y) = false := by
        rw [decide_eq_false_iff_not]; unfold ord; rw [if_pos (by omega)]; decide
      go_wp2_with fail
      have hK' : ∀ w' w'', (w'.cell? ⟨w.heap.size + 1, 0, none⟩ = some (.bool t) ∧ Below w.heap.size w w') → Below w'.heap.size w' w'' → (w''.cell? ⟨w.heap.size + 1, 0, none⟩ = some (.bool t) ∧ Below w.heap.size w w'') := fun w' w'' h hb => ⟨cell_later hb h.1, below_chain h.2 hb⟩
      have hSt : ∀ w' (x y z : Value), (w'.cell? ⟨w.heap.size + 1, 0, none⟩ = some (.bool t) ∧ Below w.heap.size w w') → ((((w'.setCell ⟨w.heap.size + 1 + 1, 0, none⟩ x).setCell ⟨w.heap.size + 1 + 1, 1, none⟩ y).setCell ⟨w.heap.size + 1 + 1, 2, none⟩ z).cell? ⟨w.heap.size + 1, 0, none⟩ = some (.bool t) ∧ Below w.heap.size w (((w'.setCell ⟨w.heap.size + 1 + 1, 0, none⟩ x).setCell ⟨w.heap.size + 1 + 1, 1, none⟩ y).setCell ⟨w.heap.size + 1 + 1, 2, none⟩ z)) := fun w' x y z h => ⟨(cell_set3 (by omega) x y z).trans h.1, below_set3 h.2 (by omega) x y z⟩
      have hrd := hrz.next (Below.refl _ wz).drew
      have hbase : (wz.drew.cell? ⟨w.heap.size + 1, 0, none⟩ = some (.bool t) ∧ Below w.heap.size w wz.drew) := ⟨cell_later (Below.refl _ wz).drew b0, hrd.bel⟩
      go_region_held3 (fun w' => (w'.cell? ⟨w.heap.size + 1, 0, none⟩ = some (.bool t) ∧ Below w.heap.size w w'))
        (first | assumption | exact hbase | exact hK' _ _ (by assumption) hbp | exact hSt _ _ _ _ (by assumption) | exact hSt _ _ _ _ (hK' _ _ hbase hbp) | exact hK' wz.drew _ hbase hbp)
        ((go_at_call 137; refine (minusD Y X (by omega) (sYz.next (Below.refl _ wz).drew) (sXz.next (Below.refl _ wz).drew) (by omega) (by omega)).mono ?_; rintro e wp ⟨po, pn, pc, rfl, sP, hzp, hbp, _⟩; have hrp := hrd.next hbp; obtain ⟨d0, d1, d2, g0, g1, g2, _, _, _, _⟩ := hrd.next hbp))
      go_wp2_with fail
      refine bodyPost_ret (v := .agg #[.bool t, .slice po pn pc, .slice zo zn zc]) (by simp [results, Tryz.results103, go_sem, d0, d1, d2]) rfl ?_
      have fr := hrp.fr (neg := t) sP ((sZz.next (Below.refl _ wz).drew).next hbp) hzp hzZ hZ0
      rw [← HZ.out] at fr
      exact ⟨t, Y - X, fr, by rw [hsX.out, hsY.out]; revert hst; cases s <;> cases t <;> simp [sgn] <;> omega, by rw [HX.out, HY.out]; omega⟩

end Go.Proofs.YtgohfieleckmgaaGreatDoor

/-
  The contracts of rational.Add and Sub. No condition but sizes.
-/
namespace Go.Proofs.YtgohfieleckmgaaGreatDoor
open Go.RowKit
set_option linter.unusedSimpArgs false
set_option linter.unusedVariables false

theorem RatV.shape {w : World} {v : Value} {q : Rat} (h : RatV w v q) : ∃ (s : Bool) (ao : Option Addr) (n cap : Nat) (bo : Option Addr) (m cap' : Nat), v = .agg #[.bool s, .slice ao n cap, .slice bo m cap'] := by
  obtain ⟨neg, N, D, ao, bo, n, cap, m, cap', rfl, _⟩ := h
  exact ⟨_, _, _, _, _, _, _, rfl⟩

theorem RatC.shape {w : World} {v : Value} {q : Rat} (h : RatC w v q) : ∃ (s : Bool) (ao : Option Addr) (n cap : Nat) (bo : Option Addr) (m cap' : Nat), v = .agg #[.bool s, .slice ao n cap, .slice bo m cap'] := by
  obtain ⟨ao, bo, n, cap, m, cap', rfl, _⟩ := h
  exact ⟨_, _, _, _, _, _, _, rfl⟩

section
variable {w : World} {G : Nat} {b0 : Bool} {a1 a2 : Option Addr} {n1 n2 k1 k2 : Nat} {w' w'' : World}
theorem Res.rc (h : Res w G b0 a1 n1 k1 a2 n2 k2 w') {q : Rat} {neg : Bool} {ao bo : Option Addr} {n cap m cap' : Nat} (C : RatC w' (.agg #[.bool neg, .slice ao n cap, .slice bo m cap']) q) :
    RatOut w q (.returned (.agg #[.bool neg, .slice ao n cap, .slice bo m cap'])) (((w'.setCell ⟨G, 0, none⟩ (.bool neg)).setCell ⟨G, 1, none⟩ (.slice ao n cap)).setCell ⟨G, 2, none⟩ (.slice bo m cap')) := by
  obtain ⟨ao', bo', n', cap1, m', cap2, hv, s1, s2, hz, hz'⟩ := C
  injection hv with hv
  injection hv with hv
  injection hv with e1 hv
  injection hv with e2 hv
  injection hv with e3 _
  injection e2 with e4 e5 e6
  injection e3 with e7 e8 e9
  subst e4 e5 e6 e7 e8 e9
  exact ⟨_, rfl, ⟨ao, bo, n, cap, m, cap', by rw [e1], s1.set3 (h.off s1) _ _ _, s2.set3 (h.off s2) _ _ _, hz, hz'⟩, below_set3 h.bel h.hG _ _ _⟩
end

set_option maxHeartbeats 4000000 in
theorem Add_any (q r : Rat) (v v2 : Value) (w : World) (h : RatV w v q) (h' : RatV w v2 r) (k : Nat) (hq : Fit k q) (hr' : Fit k r) (hk : k ≤ 4294967296) :
    Calls Tryz.prog 61 #[v, v2] w (RatOut w (q + r)) := by
  obtain ⟨s, ao, n, cap, bo, m, cap', rfl⟩ := h.shape
  obtain ⟨t, co, n2, cap2, eo, m2, cap3, rfl⟩ := h'.shape
  have hr := Res.start (((Below.refl w.heap.size w).alloc (Nat.le_refl _) (.cells #[.bool s, .slice ao n cap, .slice bo m cap'] 25)).alloc (by simp) (.cells #[.bool t, .slice co n2 cap2, .slice eo m2 cap3] 25)) false none 0 0 none 0 0 25
  have h0 : ((((w.alloc (.cells #[.bool s, .slice ao n cap, .slice bo m cap'] 25)).alloc (.cells #[.bool t, .slice co n2 cap2, .slice eo m2 cap3] 25)).alloc (.cells #[.bool false, .slice none 0 0, .slice none 0 0] 25)).cell? ⟨w.heap.size, 0, none⟩ = some (.bool s) ∧ (((w.alloc (.cells #[.bool s, .slice ao n cap, .slice bo m cap'] 25)).alloc (.cells #[.bool t, .slice co n2 cap2, .slice eo m2 cap3] 25)).alloc (.cells #[.bool false, .slice none 0 0, .slice none 0 0] 25)).cell? ⟨w.heap.size, 1, none⟩ = some (.slice ao n cap) ∧ (((w.alloc (.cells #[.bool s, .slice ao n cap, .slice bo m cap'] 25)).alloc (.cells #[.bool t, .slice co n2 cap2, .slice eo m2 cap3] 25)).alloc (.cells #[.bool false, .slice none 0 0, .slice none 0 0] 25)).cell? ⟨w.heap.size, 2, none⟩ = some (.slice bo m cap') ∧ (((w.alloc (.cells #[.bool s, .slice ao n cap, .slice bo m cap'] 25)).alloc (.cells #[.bool t, .slice co n2 cap2, .slice eo m2 cap3] 25)).alloc (.cells #[.bool false, .slice none 0 0, .slice none 0 0] 25)).cell? ⟨w.heap.size + 1, 0, none⟩ = some (.bool t) ∧ (((w.alloc (.cells #[.bool s, .slice ao n cap, .slice bo m cap'] 25)).alloc (.cells #[.bool t, .slice co n2 cap2, .slice eo m2 cap3] 25)).alloc (.cells #[.bool false, .slice none 0 0, .slice none 0 0] 25)).cell? ⟨w.heap.size + 1, 1, none⟩ = some (.slice co n2 cap2) ∧ (((w.alloc (.cells #[.bool s, .slice ao n cap, .slice bo m cap'] 25)).alloc (.cells #[.bool t, .slice co n2 cap2, .slice eo m2 cap3] 25)).alloc (.cells #[.bool false, .slice none 0 0, .slice none 0 0] 25)).cell? ⟨w.heap.size + 1, 2, none⟩ = some (.slice eo m2 cap3) ∧ Below w.heap.size w (((w.alloc (.cells #[.bool s, .slice ao n cap, .slice bo m cap'] 25)).alloc (.cells #[.bool t, .slice co n2 cap2, .slice eo m2 cap3] 25)).alloc (.cells #[.bool false, .slice none 0 0, .slice none 0 0] 25))) := ⟨by simp [go_sem], by simp [go_sem], by simp [go_sem], by simp [go_sem], by simp [go_sem], by simp [go_sem], hr.bel⟩
  simp only [World.size_alloc] at hr
  go_enter Tryz.func61, Tryz.ntmps61
  go_wp2_with fail
  generalize ((w.alloc (.cells #[.bool s, .slice ao n cap, .slice bo m cap'] 25)).alloc (.cells #[.bool t, .slice co n2 cap2, .slice eo m2 cap3] 25)).alloc (.cells #[.bool false, .slice none 0 0, .slice none 0 0] 25) = W at *
  have hK : ∀ w' w'', (w'.cell? ⟨w.heap.size, 0, none⟩ = some (.bool s) ∧ w'.cell? ⟨w.heap.size, 1, none⟩ = some (.slice ao n cap) ∧ w'.cell? ⟨w.heap.size, 2, none⟩ = some (.slice bo m cap') ∧ w'.cell? ⟨w.heap.size + 1, 0, none⟩ = some (.bool t) ∧ w'.cell? ⟨w.heap.size + 1, 1, none⟩ = some (.slice co n2 cap2) ∧ w'.cell? ⟨w.heap.size + 1, 2, none⟩ = some (.slice eo m2 cap3) ∧ Below w.heap.size w w') → Below w'.heap.size w' w'' → (w''.cell? ⟨w.heap.size, 0, none⟩ = some (.bool s) ∧ w''.cell? ⟨w.heap.size, 1, none⟩ = some (.slice ao n cap) ∧ w''.cell? ⟨w.heap.size, 2, none⟩ = some (.slice bo m cap') ∧ w''.cell? ⟨w.heap.size + 1, 0, none⟩ = some (.bool t) ∧ w''.cell? ⟨w.heap.size + 1, 1, none⟩ = some (.slice co n2 cap2) ∧ w''.cell? ⟨w.heap.size + 1, 2, none⟩ = some (.slice eo m2 cap3) ∧ Below w.heap.size w w'') := fun w' w'' h hb => ⟨cell_later hb h.1, cell_later hb h.2.1, cell_later hb h.2.2.1, cell_later hb h.2.2.2.1, cell_later hb h.2.2.2.2.1, cell_later hb h.2.2.2.2.2.1, below_chain h.2.2.2.2.2.2 hb⟩
  have hSt : ∀ w' (x y z : Value), (w'.cell? ⟨w.heap.size, 0, none⟩ = some (.bool s) ∧ w'.cell? ⟨w.heap.size, 1, none⟩ = some (.slice ao n cap) ∧ w'.cell? ⟨w.heap.size, 2, none⟩ = some (.slice bo m cap') ∧ w'.cell? ⟨w.heap.size + 1, 0, none⟩ = some (.bool t) ∧ w'.cell? ⟨w.heap.size + 1, 1, none⟩ = some (.slice co n2 cap2) ∧ w'.cell? ⟨w.heap.size + 1, 2, none⟩ = some (.slice eo m2 cap3) ∧ Below w.heap.size w w') → ((((w'.setCell ⟨w.heap.size + 1 + 1, 0, none⟩ x).setCell ⟨w.heap.size + 1 + 1, 1, none⟩ y).setCell ⟨w.heap.size + 1 + 1, 2, none⟩ z).cell? ⟨w.heap.size, 0, none⟩ = some (.bool s) ∧ (((w'.setCell ⟨w.heap.size + 1 + 1, 0, none⟩ x).setCell ⟨w.heap.size + 1 + 1, 1, none⟩ y).setCell ⟨w.heap.size + 1 + 1, 2, none⟩ z).cell? ⟨w.heap.size, 1, none⟩ = some (.slice ao n cap) ∧ (((w'.setCell ⟨w.heap.size + 1 + 1, 0, none⟩ x).setCell ⟨w.heap.size + 1 + 1, 1, none⟩ y).setCell ⟨w.heap.size + 1 + 1, 2, none⟩ z).cell? ⟨w.heap.size, 2, none⟩ = some (.slice bo m cap') ∧ (((w'.setCell ⟨w.heap.size + 1 + 1, 0, none⟩ x).setCell ⟨w.heap.size + 1 + 1, 1, none⟩ y).setCell ⟨w.heap.size + 1 + 1, 2, none⟩ z).cell? ⟨w.heap.size + 1, 0, none⟩ = some (.bool t) ∧ (((w'.setCell ⟨w.heap.size + 1 + 1, 0, none⟩ x).setCell ⟨w.heap.size + 1 + 1, 1, none⟩ y).setCell ⟨w.heap.size + 1 + 1, 2, none⟩ z).cell? ⟨w.heap.size + 1, 1, none⟩ = some (.slice co n2 cap2) ∧ (((w'.setCell ⟨w.heap.size + 1 + 1, 0, none⟩ x).setCell ⟨w.heap.size + 1 + 1, 1, none⟩ y).setCell ⟨w.heap.size + 1 + 1, 2, none⟩ z).cell? ⟨w.heap.size + 1, 2, none⟩ = some (.slice eo m2 cap3) ∧ Below w.heap.size w (((w'.setCell ⟨w.heap.size + 1 + 1, 0, none⟩ x).setCell ⟨w.heap.size + 1 + 1, 1, none⟩ y).setCell ⟨w.heap.size + 1 + 1, 2, none⟩ z)) := fun w' x y z h =>
    ⟨(cell_set3 (by omega) x y z).trans h.1, (cell_set3 (by omega) x y z).trans h.2.1, (cell_set3 (by omega) x y z).trans h.2.2.1, (cell_set3 (by omega) x y z).trans h.2.2.2.1, (cell_set3 (by omega) x y z).trans h.2.2.2.2.1, (cell_set3 (by omega) x y z).trans h.2.2.2.2.2.1, below_set3 h.2.2.2.2.2.2 (by omega) x y z⟩
  have h1 := hK W W.drew h0 (Below.refl _ W).drew
  have hr1 := hr.next (Below.refl _ W).drew
  have hA' : ∀ A : Nat, A ≤ q.num.natAbs * r.den + r.num.natAbs * q.den → lim A ≤ 17179869184 := fun A h => Nat.le_trans (lim_mono h) (Nat.le_trans (lim_add (k := k + k) (Nat.le_trans (lim_mul _ _) (Nat.add_le_add hq.1 hr'.2)) (Nat.le_trans (lim_mul _ _) (Nat.add_le_add hr'.1 hq.2))) (by omega))
  have hB' : lim (q.den * r.den) ≤ 17179869184 := Nat.le_trans (lim_mul _ _) (Nat.le_trans (Nat.add_le_add hq.2 hr'.2) (by omega))
  obtain ⟨hq1, hq2⟩ := hq
  obtain ⟨hr1', hr2''⟩ := hr'
  go_region_held3 (fun w' => (w'.cell? ⟨w.heap.size, 0, none⟩ = some (.bool s) ∧ w'.cell? ⟨w.heap.size, 1, none⟩ = some (.slice ao n cap) ∧ w'.cell? ⟨w.heap.size, 2, none⟩ = some (.slice bo m cap') ∧ w'.cell? ⟨w.heap.size + 1, 0, none⟩ = some (.bool t) ∧ w'.cell? ⟨w.heap.size + 1, 1, none⟩ = some (.slice co n2 cap2) ∧ w'.cell? ⟨w.heap.size + 1, 2, none⟩ = some (.slice eo m2 cap3) ∧ Below w.heap.size w w'))
    (first | assumption | exact hK _ _ (by assumption) hb1 | exact hK _ _ (by assumption) hb2 | exact hK _ _ (by assumption) hb3 | exact hK _ _ (by assumption) hb4 | exact hSt _ _ _ _ (by assumption) | exact hSt _ _ _ _ (hK _ _ h4 hb4))
    (first
      | (go_at_call_of 100 (Value.agg #[Value.bool s, Value.slice ao n cap, Value.slice bo m cap']); refine (of_any q _ _ (h.next h1.2.2.2.2.2.2)).mono ?_; rintro e w1 ⟨f1, rfl, F1, hb1⟩; have h2 := hK _ w1 h1 hb1; have hr2 := hr1.next hb1)
      | (go_at_call_of 100 (Value.agg #[Value.bool t, Value.slice co n2 cap2, Value.slice eo m2 cap3]); refine (of_any r _ _ (h'.next h2.2.2.2.2.2.2)).mono ?_; rintro e w2 ⟨f2, rfl, F2, hb2⟩; have h3 := hK _ w2 h2 hb2; have hr3' := hr2.next hb2)
      | (go_at_call 103; refine (fplus_any _ _ _ _ _ _ _ _ _ (F1.next hb2) F2 (by omega) (by omega) (by omega) (by omega)).mono ?_; rintro e w3 ⟨u, A, ⟨f3, rfl, F3, hb3⟩, hsum, hA⟩; have Hsum := hid hsum; clear hsum; have h4 := hK _ w3 h3 hb3; have hr3 := hr3'.next hb3)
      | (go_at_call 102; refine (rat_any _ _ _ _ _ F3 (hA' _ hA) hB').mono ?_; rintro e w4 ⟨v4, rfl, C4, hb4⟩; obtain ⟨rb, ro, rn, rc, so, sn, sc, rfl⟩ := C4.shape; have hr4 := hr3.next hb4; obtain ⟨d0, d1, d2, g0, g1, g2, _, _, _, _⟩ := hr3.next hb4))
  go_wp2_with fail
  refine bodyPost_ret (v := .agg #[.bool rb, .slice ro rn rc, .slice so sn sc]) (by simp [results, Tryz.results61, go_sem, d0, d1, d2]) rfl ?_
  have := hr4.rc C4
  rw [Hsum.out] at this
  rw [sgn_num, sgn_num, ← Rat.add_def'] at this
  exact this

set_option maxHeartbeats 4000000 in
theorem Sub_any (q r : Rat) (v v2 : Value) (w : World) (h : RatV w v q) (h' : RatV w v2 r) (k : Nat) (hq : Fit k q) (hr' : Fit k r) (hk : k ≤ 4294967296) :
    Calls Tryz.prog 66 #[v, v2] w (RatOut w (q - r)) := by
  obtain ⟨s, ao, n, cap, bo, m, cap', rfl⟩ := h.shape
  obtain ⟨t, co, n2, cap2, eo, m2, cap3, rfl⟩ := h'.shape
  have hr := Res.start (((Below.refl w.heap.size w).alloc (Nat.le_refl _) (.cells #[.bool s, .slice ao n cap, .slice bo m cap'] 25)).alloc (by simp) (.cells #[.bool t, .slice co n2 cap2, .slice eo m2 cap3] 25)) false none 0 0 none 0 0 25
  have h0 : ((((w.alloc (.cells #[.bool s, .slice ao n cap, .slice bo m cap'] 25)).alloc (.cells #[.bool t, .slice co n2 cap2, .slice eo m2 cap3] 25)).alloc (.cells #[.bool false, .slice none 0 0, .slice none 0 0] 25)).cell? ⟨w.heap.size, 0, none⟩ = some (.bool s) ∧ (((w.alloc (.cells #[.bool s, .slice ao n cap, .slice bo m cap'] 25)).alloc (.cells #[.bool t, .slice co n2 cap2, .slice eo m2 cap3] 25)).alloc (.cells #[.bool false, .slice none 0 0, .slice none 0 0] 25)).cell? ⟨w.heap.size, 1, none⟩ = some (.slice ao n cap) ∧ (((w.alloc (.cells #[.bool s, .slice ao n cap, .slice bo m cap'] 25)).alloc (.cells #[.bool t, .slice co n2 cap2, .slice eo m2 cap3] 25)).alloc (.cells #[.bool false, .slice none 0 0, .slice none 0 0] 25)).cell? ⟨w.heap.size, 2, none⟩ = some (.slice bo m cap') ∧ (((w.alloc (.cells #[.bool s, .slice ao n cap, .slice bo m cap'] 25)).alloc (.cells #[.bool t, .slice co n2 cap2, .slice eo m2 cap3] 25)).alloc (.cells #[.bool false, .slice none 0 0, .slice none 0 0] 25)).cell? ⟨w.heap.size + 1, 0, none⟩ = some (.bool t) ∧ (((w.alloc (.cells #[.bool s, .slice ao n cap, .slice bo m cap'] 25)).alloc (.cells #[.bool t, .slice co n2 cap2, .slice eo m2 cap3] 25)).alloc (.cells #[.bool false, .slice none 0 0, .slice none 0 0] 25)).cell? ⟨w.heap.size + 1, 1, none⟩ = some (.slice co n2 cap2) ∧ (((w.alloc (.cells #[.bool s, .slice ao n cap, .slice bo m cap'] 25)).alloc (.cells #[.bool t, .slice co n2 cap2, .slice eo m2 cap3] 25)).alloc (.cells #[.bool false, .slice none 0 0, .slice none 0 0] 25)).cell? ⟨w.heap.size + 1, 2, none⟩ = some (.slice eo m2 cap3) ∧ Below w.heap.size w (((w.alloc (.cells #[.bool s, .slice ao n cap, .slice bo m cap'] 25)).alloc (.cells #[.bool t, .slice co n2 cap2, .slice eo m2 cap3] 25)).alloc (.cells #[.bool false, .slice none 0 0, .slice none 0 0] 25))) := ⟨by simp [go_sem], by simp [go_sem], by simp [go_sem], by simp [go_sem], by simp [go_sem], by simp [go_sem], hr.bel⟩
  simp only [World.size_alloc] at hr
  go_enter Tryz.func66, Tryz.ntmps66
  go_wp2_with fail
  generalize ((w.alloc (.cells #[.bool s, .slice ao n cap, .slice bo m cap'] 25)).alloc (.cells #[.bool t, .slice co n2 cap2, .slice eo m2 cap3] 25)).alloc (.cells #[.bool false, .slice none 0 0, .slice none 0 0] 25) = W at *
  have hK : ∀ w' w'', (w'.cell? ⟨w.heap.size, 0, none⟩ = some (.bool s) ∧ w'.cell? ⟨w.heap.size, 1, none⟩ = some (.slice ao n cap) ∧ w'.cell? ⟨w.heap.size, 2, none⟩ = some (.slice bo m cap') ∧ w'.cell? ⟨w.heap.size + 1, 0, none⟩ = some (.bool t) ∧ w'.cell? ⟨w.heap.size + 1, 1, none⟩ = some (.slice co n2 cap2) ∧ w'.cell? ⟨w.heap.size + 1, 2, none⟩ = some (.slice eo m2 cap3) ∧ Below w.heap.size w w') → Below w'.heap.size w' w'' → (w''.cell? ⟨w.heap.size, 0, none⟩ = some (.bool s) ∧ w''.cell? ⟨w.heap.size, 1, none⟩ = some (.slice ao n cap) ∧ w''.cell? ⟨w.heap.size, 2, none⟩ = some (.slice bo m cap') ∧ w''.cell? ⟨w.heap.size + 1, 0, none⟩ = some (.bool t) ∧ w''.cell? ⟨w.heap.size + 1, 1, none⟩ = some (.slice co n2 cap2) ∧ w''.cell? ⟨w.heap.size + 1, 2, none⟩ = some (.slice eo m2 cap3) ∧ Below w.heap.size w w'') := fun w' w'' h hb => ⟨cell_later hb h.1, cell_later hb h.2.1, cell_later hb h.2.2.1, cell_later hb h.2.2.2.1, cell_later hb h.2.2.2.2.1, cell_later hb h.2.2.2.2.2.1, below_chain h.2.2.2.2.2.2 hb⟩
  have hSt : ∀ w' (x y z : Value), (w'.cell? ⟨w.heap.size, 0, none⟩ = some (.bool s) ∧ w'.cell? ⟨w.heap.size, 1, none⟩ = some (.slice ao n cap) ∧ w'.cell? ⟨w.heap.size, 2, none⟩ = some (.slice bo m cap') ∧ w'.cell? ⟨w.heap.size + 1, 0, none⟩ = some (.bool t) ∧ w'.cell? ⟨w.heap.size + 1, 1, none⟩ = some (.slice co n2 cap2) ∧ w'.cell? ⟨w.heap.size + 1, 2, none⟩ = some (.slice eo m2 cap3) ∧ Below w.heap.size w w') → ((((w'.setCell ⟨w.heap.size + 1 + 1, 0, none⟩ x).setCell ⟨w.heap.size + 1 + 1, 1, none⟩ y).setCell ⟨w.heap.size + 1 + 1, 2, none⟩ z).cell? ⟨w.heap.size, 0, none⟩ = some (.bool s) ∧ (((w'.setCell ⟨w.heap.size + 1 + 1, 0, none⟩ x).setCell ⟨w.heap.size + 1 + 1, 1, none⟩ y).setCell ⟨w.heap.size + 1 + 1, 2, none⟩ z).cell? ⟨w.heap.size, 1, none⟩ = some (.slice ao n cap) ∧ (((w'.setCell ⟨w.heap.size + 1 + 1, 0, none⟩ x).setCell ⟨w.heap.size + 1 + 1, 1, none⟩ y).setCell ⟨w.heap.size + 1 + 1, 2, none⟩ z).cell? ⟨w.heap.size, 2, none⟩ = some (.slice bo m cap') ∧ (((w'.setCell ⟨w.heap.size + 1 + 1, 0, none⟩ x).setCell ⟨w.heap.size + 1 + 1, 1, none⟩ y).setCell ⟨w.heap.size + 1 + 1, 2, none⟩ z).cell? ⟨w.heap.size + 1, 0, none⟩ = some (.bool t) ∧ (((w'.setCell ⟨w.heap.size + 1 + 1, 0, none⟩ x).setCell ⟨w.heap.size + 1 + 1, 1, none⟩ y).setCell ⟨w.heap.size + 1 + 1, 2, none⟩ z).cell? ⟨w.heap.size + 1, 1, none⟩ = some (.slice co n2 cap2) ∧ (((w'.setCell ⟨w.heap.size + 1 + 1, 0, none⟩ x).setCell ⟨w.heap.size + 1 + 1, 1, none⟩ y).setCell ⟨w.heap.size + 1 + 1, 2, none⟩ z).cell? ⟨w.heap.size + 1, 2, none⟩ = some (.slice eo m2 cap3) ∧ Below w.heap.size w (((w'.setCell ⟨w.heap.size + 1 + 1, 0, none⟩ x).setCell ⟨w.heap.size + 1 + 1, 1, none⟩ y).setCell ⟨w.heap.size + 1 + 1, 2, none⟩ z)) := fun w' x y z h =>
    ⟨(cell_set3 (by omega) x y z).trans h.1, (cell_set3 (by omega) x y z).trans h.2.1, (cell_set3 (by omega) x y z).trans h.2.2.1, (cell_set3 (by omega) x y z).trans h.2.2.2.1, (cell_set3 (by omega) x y z).trans h.2.2.2.2.1, (cell_set3 (by omega) x y z).trans h.2.2.2.2.2.1, below_set3 h.2.2.2.2.2.2 (by omega) x y z⟩
  have h1 := hK W W.drew h0 (Below.refl _ W).drew
  have hr1 := hr.next (Below.refl _ W).drew
  have hA' : ∀ A : Nat, A ≤ q.num.natAbs * r.den + r.num.natAbs * q.den → lim A ≤ 17179869184 := fun A h => Nat.le_trans (lim_mono h) (Nat.le_trans (lim_add (k := k + k) (Nat.le_trans (lim_mul _ _) (Nat.add_le_add hq.1 hr'.2)) (Nat.le_trans (lim_mul _ _) (Nat.add_le_add hr'.1 hq.2))) (by omega))
  have hB' : lim (q.den * r.den) ≤ 17179869184 := Nat.le_trans (lim_mul _ _) (Nat.le_trans (Nat.add_le_add hq.2 hr'.2) (by omega))
  obtain ⟨hq1, hq2⟩ := hq
  obtain ⟨hr1', hr2''⟩ := hr'
  go_region_held3 (fun w' => (w'.cell? ⟨w.heap.size, 0, none⟩ = some (.bool s) ∧ w'.cell? ⟨w.heap.size, 1, none⟩ = some (.slice ao n cap) ∧ w'.cell? ⟨w.heap.size, 2, none⟩ = some (.slice bo m cap') ∧ w'.cell? ⟨w.heap.size + 1, 0, none⟩ = some (.bool t) ∧ w'.cell? ⟨w.heap.size + 1, 1, none⟩ = some (.slice co n2 cap2) ∧ w'.cell? ⟨w.heap.size + 1, 2, none⟩ = some (.slice eo m2 cap3) ∧ Below w.heap.size w w'))
    (first | assumption | exact hK _ _ (by assumption) hb1 | exact hK _ _ (by assumption) hb2 | exact hK _ _ (by assumption) hbn | exact hK _ _ (by assumption) hb3 | exact hK _ _ (by assumption) hb4 | exact hSt _ _ _ _ (by assumption) | exact hSt _ _ _ _ (hK _ _ h4 hb4))
    (first
      | (go_at_call_of 100 (Value.agg #[Value.bool s, Value.slice ao n cap, Value.slice bo m cap']); refine (of_any q _ _ (h.next h1.2.2.2.2.2.2)).mono ?_; rintro e w1 ⟨f1, rfl, F1, hb1⟩; have h2 := hK _ w1 h1 hb1; have hr2 := hr1.next hb1)
      | (go_at_call_of 100 (Value.agg #[Value.bool t, Value.slice co n2 cap2, Value.slice eo m2 cap3]); refine (of_any r _ _ (h'.next h2.2.2.2.2.2.2)).mono ?_; rintro e w2 ⟨f2, rfl, F2, hb2⟩; have h3' := hK _ w2 h2 hb2; have hr2' := hr2.next hb2)
      | (go_at_call 105; refine (negative_any _ _ _ _ _ F2).mono ?_; rintro e wn ⟨f2', rfl, F2', hbn⟩; have h3 := hK _ wn h3' hbn; have hr3' := hr2'.next hbn)
      | (go_at_call 103; refine (fplus_any _ _ _ _ _ _ _ _ _ ((F1.next hb2).next hbn) F2' (by omega) (by omega) (by omega) (by omega)).mono ?_; rintro e w3 ⟨u, A, ⟨f3, rfl, F3, hb3⟩, hsum, hA⟩; have Hsum := hid hsum; clear hsum; have h4 := hK _ w3 h3 hb3; have hr3 := hr3'.next hb3)
      | (go_at_call 102; refine (rat_any _ _ _ _ _ F3 (hA' _ hA) hB').mono ?_; rintro e w4 ⟨v4, rfl, C4, hb4⟩; obtain ⟨rb, ro, rn, rc, so, sn, sc, rfl⟩ := C4.shape; have hr4 := hr3.next hb4; obtain ⟨d0, d1, d2, g0, g1, g2, _, _, _, _⟩ := hr3.next hb4))
  go_wp2_with fail
  refine bodyPost_ret (v := .agg #[.bool rb, .slice ro rn rc, .slice so sn sc]) (by simp [results, Tryz.results66, go_sem, d0, d1, d2]) rfl ?_
  have := hr4.rc C4
  rw [Hsum.out] at this
  rw [sgn_not, sgn_num, sgn_num, Int.neg_mul, ← Int.sub_eq_add_neg, ← Rat.sub_def'] at this
  exact this

end Go.Proofs.YtgohfieleckmgaaGreatDoor

/-
  A drawn region whose loads are taken first though its last operations (the late ones) write the cells that they read. No program, no condition.
-/
import Derived.OrdersHeld
import Derived.Deep.RegionLaw
import Derived.WalkKit
namespace Go.Proofs.YtgohfieleckmgaaGreatDoor
set_option linter.unusedSimpArgs false
set_option linter.unusedVariables false

section
variable {P : Program} {ops : Array Oper} {Q : Exit → Act → World → Prop} {md : Region.Mode} {S : World → Prop} {late : List Nat}

/-- Whatever order is picked from here on; S holds behind every operation but the late ones. -/
def wpAnyD (P : Program) (md : Region.Mode) (ops : Array Oper) (Q : Exit → Act → World → Prop) (S : World → Prop) (late : List Nat) : Nat → Array Bool → Act → World → Prop
  | 0, listed, a, w => Region.ready md ops listed = [] ∧ Q .normal a w
  | fuel + 1, listed, a, w =>
    (Region.ready md ops listed = [] → Q .normal a w) ∧
    ∀ i ∈ Region.ready md ops listed, wpOp P ops Q i (fun a' w' => (i ∉ late → S w') ∧ wpAnyD P md ops Q S late fuel (listed.setIfInBounds i true) a' w') a w

theorem wpAny_of_D : ∀ (fuel : Nat) (listed : Array Bool) (a : Act) (w : World), wpAnyD P md ops Q S late fuel listed a w → wpAny P md ops Q fuel listed a w
  | 0, _, _, _, h => h
  | fuel + 1, _, _, _, h => ⟨h.1, fun i hi => wpOp_mono (fun a' w' h' => wpAny_of_D fuel _ a' w' h'.2) (h.2 i hi)⟩

/-- The operations that wait for i. -/
def depsOf (md : Region.Mode) (ops : Array Oper) (i : Nat) : List Nat :=
  (List.range ops.size).foldl (fun acc j => match ops[j]? with
    | some o => if o.after.any (fun e => Region.binds md e && (e.on == i || acc.contains e.on)) then j :: acc else acc
    | none => acc) []

/-- All late operations wait for i, and none that waits for it has come up. -/
def lateOk (md : Region.Mode) (ops : Array Oper) (listed : Array Bool) (late : List Nat) (i : Nat) : Bool :=
  (depsOf md ops i).all (fun j => !listed.getD j false && ((ops[j]?).map fun o => o.after.any (fun e => Region.binds md e && (e.on == i || (depsOf md ops i).contains e.on))).getD false) && late.all (fun j => (depsOf md ops i).contains j)

theorem lateOk_spec {listed : Array Bool} {i : Nat} (h : lateOk md ops listed late i = true) : ∃ D : List Nat, (∀ j ∈ late, j ∈ D) ∧ (∀ j ∈ D, listed.getD j false = false) ∧
    ∀ j ∈ D, ∃ o, ops[j]? = some o ∧ ∃ e ∈ o.after, Region.binds md e = true ∧ (e.on = i ∨ e.on ∈ D) := by
  unfold lateOk at h
  simp only [Bool.and_eq_true, List.all_eq_true, List.contains_eq_mem, decide_eq_true_eq, Bool.not_eq_true'] at h
  refine ⟨depsOf md ops i, h.2, fun j hj => (h.1 j hj).1, fun j hj => ?_⟩
  have h1 := (h.1 j hj).2
  cases ho : ops[j]? with
  | none => rw [ho] at h1; cases h1
  | some o =>
    rw [ho] at h1
    simp only [Option.map_some, Option.getD_some] at h1
    obtain ⟨e, he, hb⟩ := Array.any_eq_true'.1 h1
    simp only [Bool.and_eq_true, Bool.or_eq_true, beq_iff_eq, List.contains_eq_mem, decide_eq_true_eq] at hb
    exact ⟨o, rfl, e, he, hb.1, hb.2⟩

theorem wpAnyD_first {i : Nat} {oi : Oper} {v : Value} (hi : ops[i]? = some oi) (hsel : ∀ (j : Nat) (o : Oper) cs b, ops[j]? = some o → o.op ≠ .select cs b)
    (hQ : ∀ c a w, Q (.panic c) (a.put oi.dst v) w → Q (.panic c) a w) {D : List Nat} (hLD : ∀ j ∈ late, j ∈ D) (hD : ∀ j ∈ D, ∃ o, ops[j]? = some o ∧ ∃ e ∈ o.after, Region.binds md e = true ∧ (e.on = i ∨ e.on ∈ D)) :
    ∀ (fuel : Nat) (listed : Array Bool) (a : Act) (w : World),
      (∀ j oj, ops[j]? = some oj → j ≠ i → listed.getD j true = false → (∀ e ∈ oj.after, Region.binds md e = true → e.on ≠ i) → oi.apart ops oj = true) →
      (∀ j ∈ D, listed.getD j false = false) →
      i ∈ Region.ready md ops listed → YieldsIf P ops S oi v a → S w →
      wpAnyD P md ops Q S late fuel (listed.setIfInBounds i true) (a.put oi.dst v) w → wpAnyD P md ops Q S late (fuel + 1) listed a w := by
  intro fuel
  induction fuel with
  | zero =>
    intro listed a w _ _ hr hy hS H
    refine ⟨fun h => (by rw [h] at hr; cases hr), fun j hj => ?_⟩
    by_cases hji : j = i
    · subst hji; exact hy.wpOp hi hS ⟨fun _ => hS, H⟩
    · have := ready_mono hj hji
      rw [H.1] at this
      cases this
  | succ fuel ih =>
    intro listed a w hfree hun hr hy hS H
    refine ⟨fun h => (by rw [h] at hr; cases hr), fun j hj => ?_⟩
    by_cases hji : j = i
    · subst hji; exact hy.wpOp hi hS ⟨fun _ => hS, H⟩
    · have h1 := H.2 j (ready_mono hj hji)
      obtain ⟨hjun, oj, hoj, hall⟩ := mem_ready.1 hj
      have hi0 : listed.getD i false = false := by
        have h0 := (mem_ready.1 hr).1
        rcases Nat.lt_or_ge i listed.size with h' | h'
        · simpa [h'] using h0
        · simp [Array.getElem?_eq_none h']
      have hnot : ∀ e ∈ oj.after, Region.binds md e = true → e.on ≠ i := fun e he hb heq => by
        have h1 := hall e he hb
        rw [heq, hi0] at h1
        cases h1
      have hjD : j ∉ D := fun hm => by
        obtain ⟨o', ho', e, he, hb, hon⟩ := hD j hm
        rw [hoj] at ho'
        injection ho' with ho'
        subst ho'
        have h2 := hall e he hb
        rcases hon with hon | hon
        · rw [hon, hi0] at h2; cases h2
        · rw [hun _ hon] at h2; cases h2
      have h2 := wpOp_putIf hoj (hfree j oj hoj hji hjun hnot) (fun cs b => hsel i oi cs b hi) (fun cs b => hsel j oj cs b hoj) hQ hy h1
      have hfree' : ∀ k ok, ops[k]? = some ok → k ≠ i → (listed.setIfInBounds j true).getD k true = false →
          (∀ e ∈ ok.after, Region.binds md e = true → e.on ≠ i) → oi.apart ops ok = true := fun k ok hk hki hun' hno => by
        refine hfree k ok hk hki ?_ hno
        by_cases hjk : j = k
        · subst hjk; exact hjun
        · rw [getD_set_ne true hjk] at hun'; exact hun'
      have hun2 : ∀ k ∈ D, (listed.setIfInBounds j true).getD k false = false := fun k hk => by
        rw [getD_set_ne false (fun e => hjD (by rw [e]; exact hk))]; exact hun k hk
      refine wpOp_mono (fun a' w' h3 => ?_) h2
      have hS' : S w' := h3.2.1 fun hl => hjD (hLD j hl)
      refine ⟨fun _ => hS', ih (listed.setIfInBounds j true) a' w' hfree' hun2 (ready_mono hr (Ne.symm hji)) h3.1 hS' ?_⟩
      rw [Array.setIfInBounds_comm _ _ hji]
      exact h3.2.2

/-- Take number i first. -/
theorem wpAnyD_take {i : Nat} {oi : Oper} {v : Value} {fuel : Nat} {listed : Array Bool} {a : Act} {w : World} (hi : ops[i]? = some oi)
    (hs : Region.noSelect ops = true) (hf : Region.free md ops listed i = true) (hr : (Region.ready md ops listed).contains i = true) (hl : lateOk md ops listed late i = true)
    (hQ : ∀ c a w, Q (.panic c) (a.put oi.dst v) w → Q (.panic c) a w) (hy : YieldsIf P ops S oi v a) (hS : S w)
    (h : wpAnyD P md ops Q S late fuel (listed.setIfInBounds i true) (a.put oi.dst v) w) : wpAnyD P md ops Q S late (fuel + 1) listed a w := by
  obtain ⟨D, h1, h2, h3⟩ := lateOk_spec hl
  exact wpAnyD_first hi (Region.noSelect_spec hs) hQ h1 h3 fuel listed a w (Region.free_spec hi hf) h2 (by simpa using hr) hy hS h

/-- The only one that may come up. -/
theorem wpAnyD_one {i : Nat} {o : Oper} {fuel : Nat} {listed : Array Bool} {a : Act} {w : World} (hr : Region.ready md ops listed = [i]) (ho : ops[i]? = some o)
    (h : ∀ K' : Act → World → Prop, (∀ a' w', ((i ∉ late → S w') ∧ wpAnyD P md ops Q S late fuel (listed.setIfInBounds i true) a' w') → K' a' w') → if Region.wanted o (yielded ops a.tmps) = true then Oper.wp P o a w K' Q else K' (a.put o.dst undef) w) :
    wpAnyD P md ops Q S late (fuel + 1) listed a w := by
  refine ⟨fun h0 => (by rw [hr] at h0; cases h0), fun j hj => ?_⟩
  rw [hr, List.mem_singleton] at hj
  subst hj
  have := h _ (fun _ _ h => h)
  unfold wpOp
  rw [ho]
  show if Region.wanted o (yielded ops a.tmps) = true then _ else _
  split
  · rename_i hw; rw [if_pos hw] at this; exact .inl this
  · rename_i hw; rw [if_neg hw] at this; exact this

/-- One of two may come up. -/
theorem wpAnyD_two {i j : Nat} {o o' : Oper} {fuel : Nat} {listed : Array Bool} {a : Act} {w : World} (hr : Region.ready md ops listed = [i, j]) (ho : ops[i]? = some o) (ho' : ops[j]? = some o')
    (h : ∀ K' : Act → World → Prop, (∀ a' w', ((i ∉ late → S w') ∧ wpAnyD P md ops Q S late fuel (listed.setIfInBounds i true) a' w') → K' a' w') → if Region.wanted o (yielded ops a.tmps) = true then Oper.wp P o a w K' Q else K' (a.put o.dst undef) w)
    (h' : ∀ K' : Act → World → Prop, (∀ a' w', ((j ∉ late → S w') ∧ wpAnyD P md ops Q S late fuel (listed.setIfInBounds j true) a' w') → K' a' w') → if Region.wanted o' (yielded ops a.tmps) = true then Oper.wp P o' a w K' Q else K' (a.put o'.dst undef) w) :
    wpAnyD P md ops Q S late (fuel + 1) listed a w := by
  refine ⟨fun h0 => (by rw [hr] at h0; cases h0), fun k hk => ?_⟩
  rw [hr] at hk
  simp only [List.mem_cons, List.not_mem_nil, or_false] at hk
  rcases hk with rfl | rfl
  · have := h _ (fun _ _ h => h)
    unfold wpOp
    rw [ho]
    show if Region.wanted o (yielded ops a.tmps) = true then _ else _
    split
    · rename_i hw; rw [if_pos hw] at this; exact .inl this
    · rename_i hw; rw [if_neg hw] at this; exact this
  · have := h' _ (fun _ _ h => h)
    unfold wpOp
    rw [ho']
    show if Region.wanted o' (yielded ops a.tmps) = true then _ else _
    split
    · rename_i hw; rw [if_pos hw] at this; exact .inl this
    · rename_i hw; rw [if_neg hw] at this; exact this

theorem wpAnyD_done {listed : Array Bool} {a : Act} {w : World} (hr : Region.ready md ops listed = []) (h : Q .normal a w) : ∀ fuel, wpAnyD P md ops Q S late fuel listed a w
  | 0 => ⟨hr, h⟩
  | _ + 1 => ⟨fun _ => h, by rw [hr]; simp⟩

theorem wp_region_D (S : World → Prop) (late : List Nat) {id : Nat} {a : Act} {w : World} (hm : P.follows .mixedOrders = true)
    (h : wpAnyD P .any ops Q S late ops.size (Array.replicate ops.size false) a w.drew) : (Code.region id ops true).wp P Q a w :=
  wp_region_any hm (wpAny_of_D _ _ _ _ h)
end

end Go.Proofs.YtgohfieleckmgaaGreatDoor

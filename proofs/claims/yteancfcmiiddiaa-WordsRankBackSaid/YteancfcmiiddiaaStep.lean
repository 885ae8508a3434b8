/-
  append as a step of a region that draws, elements of any number of cells; the contracts of the reference's den and Take. No condition but sizes.
-/
import Derived.Test.YteancfcmiiddiaaRefH
import Derived.Test.YteancfcmiiddiaaApp
namespace Go.Proofs.Yteancfcmiiddiaa
open Go.RowKit
set_option linter.unusedSimpArgs false
set_option linter.unusedVariables false

/-- 'append(v, x...)' where the call owns v, as an operation. -/
theorem op_append {P : Program} {w : World} {o : Oper} {a : Act} {K : Act → World → Prop} {Q : Exit → Act → World → Prop} (s x : Operand) (t : TypeId)
    (ho : o.op = .call { callee := .builtin .append, args := #[s, x], argTypes := #[t, t] }) (e : TypeId) (z : Value) (size bytes : Nat) (ht : P.underlying t = some (.slice e))
    (hinfo : (P.info? e).map (fun i => (i.zero, i.size, i.bytes)) = some (some z, size, bytes)) (hzs : z.cells.size = size) (hsz : 0 < size)
    (base : Nat) (v : Value) (n : Nat) (xs : List Value) (hs : a.eval s = v) (hown : w.ownsRow base e size v n xs)
    (ao : Option Addr) (m c : Nat) (news : List Value) (hx : a.eval x = .slice ao m c) (hl : news.length = m * size) (hc : ∀ ad, ao = some ad → ∀ j u, news[j]? = some u → w.cell? (ad.add j) = some u)
    (hz : ao = none → m = 0 ∧ c = 0) (h1 : ∀ u ∈ news, u.oneCell' = true)
    (hroom : (n + m) * bytes ≤ 140737488355328) (hml : n + m ≤ 9223372036854775807) (hbase : base ≤ w.heap.size)
    (h : ∀ v' w', w'.ownsRow base e size v' (n + m) (xs ++ news) → w.grownBy w' v.ownBlock → Below base w w' → K (a.put o.dst v') w') : o.wp P a w K Q := by
  obtain ⟨i, hi, hz0, hsz', hby⟩ := info_parts hinfo
  cases ao with
  | none =>
    obtain ⟨rfl, rfl⟩ := hz rfl
    obtain rfl : news = [] := List.eq_nil_of_length_eq_zero (by simpa using hl)
    have hrun := run_append_owned_none (P := P) (w := w) base t o.type e i size ht hi v n xs hown
    unfold Oper.wp
    simp [execOp, ho, resolve, invoke, builtin, hs, hx, hrun, Result.andThen]
    exact h v w (by simpa using hown) (World.grownBy.refl _ _) (Below.refl _ _)
  | some ad =>
    refine wp_append_own w s x t ho base e i z size bytes ht hi hz0 hsz' hby hzs hsz v n xs hs hown ad m c news hx hl (hc ad rfl) h1 (by unfold maxLen; omega) hroom hbase ?_
    intro v' w' ho' hg _
    exact h v' w' ho' hg ((Below.refl _ _).grown hg hbase (fun k hk => (hown.lt k hk).1))

/-- The same as a step of a region that draws. -/
theorem step_app {P : Program} {w : World} {ops : Array Oper} {o : Oper} {a : Act} {K : Act → World → Prop} {Q : Exit → Act → World → Prop} {E : Prop} (hgd : o.guard = none) (s x : Operand) (t : TypeId)
    (ho : o.op = .call { callee := .builtin .append, args := #[s, x], argTypes := #[t, t] }) (e : TypeId) (z : Value) (size bytes : Nat) (ht : P.underlying t = some (.slice e))
    (hinfo : (P.info? e).map (fun i => (i.zero, i.size, i.bytes)) = some (some z, size, bytes)) (hzs : z.cells.size = size) (hsz : 0 < size)
    (base : Nat) (v : Value) (n : Nat) (xs : List Value) (hs : a.eval s = v) (hown : w.ownsRow base e size v n xs)
    (ao : Option Addr) (m c : Nat) (news : List Value) (hx : a.eval x = .slice ao m c) (hl : news.length = m * size) (hc : ∀ ad, ao = some ad → ∀ j u, news[j]? = some u → w.cell? (ad.add j) = some u)
    (hz : ao = none → m = 0 ∧ c = 0) (h1 : ∀ u ∈ news, u.oneCell' = true)
    (hroom : (n + m) * bytes ≤ 140737488355328) (hml : n + m ≤ 9223372036854775807) (hbase : base ≤ w.heap.size)
    (h : ∀ v' w', w'.ownsRow base e size v' (n + m) (xs ++ news) → w.grownBy w' v.ownBlock → Below base w w' → K (a.put o.dst v') w') :
    if Region.wanted o (yielded ops a.tmps) = true then Oper.wp P o a w K Q else E := by
  have hw : Region.wanted o (yielded ops a.tmps) = true := by simp [Region.wanted, hgd]
  rw [if_pos hw]
  exact op_append s x t ho e z size bytes ht hinfo hzs hsz base v n xs hs hown ao m c news hx hl hc hz h1 hroom hml hbase h

/-- What the one-cell slice of limbs gives 'append'. -/
theorem Sl.app {w : World} {ao : Option Addr} {n cap : Nat} {xs : List Value} (h : Sl w ao n cap xs) (hz : ao = none → cap = 0) : xs.length = n * 1 ∧ (∀ ad, ao = some ad → ∀ j u, xs[j]? = some u → w.cell? (ad.add j) = some u) ∧ (ao = none → n = 0 ∧ cap = 0) :=
  ⟨by rw [h.len, Nat.mul_one], fun ad e => by subst e; exact h.cells, fun e => by subst e; exact ⟨h.none_zero.1, hz rfl⟩⟩

/-- The denominator's limbs. -/
theorem den_any (q : Rat) (v : Value) (w : World) (h : RatC w v q) : Calls Try.prog 109 #[v] w (NumRes w q.den) := by
  obtain ⟨ao, bo, n, cap, m, cap', rfl, h1, h2, hz, hz'⟩ := h
  have hl := h2.lenU
  have hb0 := below_alloc (w := w) (.cells #[.bool (decide (q.num < 0)), .slice ao n cap, .slice bo m cap'] 54)
  unfold denL at hl h2
  generalize decide (q.num < 0) = s at *
  by_cases hd : q.den = 1
  · rw [if_pos hd] at hl
    obtain rfl : m = 0 := by simpa using hl.symm
    rw [hd]
    clear h2 hl hd
    go_enter Try.func109, Try.ntmps109
    go_wp2_with fail
    go_ret
    refine ⟨_, _, _, rfl, ?_, (fun h => by cases h), below_chain hb0 (below_alloc _)⟩
    have h1 : dig 1 = [1] := by rw [dig_pos (by decide), dig_zero]
    rw [h1]
    have := (one_limb (w := w.alloc (.cells #[.bool s, .slice ao n cap, .slice bo 0 cap'] 54)) 1 (by decide)).1
    simpa using this
  · rw [if_neg hd] at hl h2
    have hm : 1 ≤ m := by
      cases m with
      | zero => exact absurd (List.eq_nil_of_length_eq_zero hl) (fun h => q.den_nz (dig_nil.1 h))
      | succ m => omega
    clear hl
    go_enter Try.func109, Try.ntmps109
    go_wp2_with fail
    go_ret
    exact ⟨_, _, _, rfl, h2.next hb0, hz', hb0⟩

end Go.Proofs.Yteancfcmiiddiaa

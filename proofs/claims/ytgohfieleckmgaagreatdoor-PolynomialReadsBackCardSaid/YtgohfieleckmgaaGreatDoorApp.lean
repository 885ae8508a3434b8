/-
  append and make on rows of the call's own, sizes as they come. No condition.
-/
import Derived.Test.YtgohfieleckmgaaGreatDoorBase
namespace Go.Proofs.YtgohfieleckmgaaGreatDoor
open Go.RowKit

/-- 'append(v, x...)' where the call owns v (one cell an element). -/
theorem wp_app {P : Program} {w : World} {ops : Array Oper} {rest : List Oper} {o : Oper} {a : Act} {Q : Exit → Act → World → Prop} (hgd : o.guard = none) (s x : Operand) (t : TypeId)
    (ho : o.op = .call { callee := .builtin .append, args := #[s, x], argTypes := #[t, t] }) (e : TypeId) (z : Value) (bytes : Nat) (ht : P.underlying t = some (.slice e))
    (hinfo : (P.info? e).map (fun i => (i.zero, i.size, i.bytes)) = some (some z, 1, bytes)) (hzs : z.cells.size = 1)
    (base : Nat) (v : Value) (n : Nat) (xs : List Value) (hs : a.eval s = v) (hown : w.ownsRow base e 1 v n xs)
    (ao : Option Addr) (m c : Nat) (news : List Value) (hx : a.eval x = .slice ao m c) (hsl : Sl w ao m c news) (hcz : ao = none → c = 0) (h1 : ∀ u ∈ news, u.oneCell' = true)
    (hroom : (n + m) * bytes ≤ 140737488355328) (hml : n + m ≤ 9223372036854775807) (hbase : base ≤ w.heap.size)
    (h : ∀ v' w', w'.ownsRow base e 1 v' (n + m) (xs ++ news) → w.grownBy w' v.ownBlock → Below base w w' → wpList P ops Q rest (a.put o.dst v') w') : wpList P ops Q (o :: rest) a w := by
  obtain ⟨i, hi, hz, hsz, hby⟩ := info_parts hinfo
  cases ao with
  | none =>
    obtain ⟨rfl, rfl⟩ := hsl.none_zero
    obtain rfl := hcz rfl
    refine wpList_append_own_none hgd s x t ho base e i 1 ht hi v n xs hs hown hx ?_
    exact h v w (by simpa using hown) (World.grownBy.refl _ _) (Below.refl _ _)
  | some ad =>
    refine wpList_append_own _ hgd s x t ho base e i z 1 bytes ht hi hz hsz hby hzs (by decide) v n xs hs hown ad m c news hx (by rw [hsl.len]; simp) hsl.cells h1 (by unfold maxLen; omega) hroom hbase ?_
    intro v' w' ho' hg _
    exact h v' w' ho' hg ((Below.refl _ _).grown hg hbase (fun k hk => (hown.lt k hk).1))

/-- 'make([]T, n)': a new row of zeros (one cell an element). -/
theorem wp_make {P : Program} {w : World} {ops : Array Oper} {rest : List Oper} {o : Oper} {a : Act} {Q : Exit → Act → World → Prop} (hgd : o.guard = none) (l c : Operand) (t : TypeId)
    (ho : o.op = Op.makeSlice t l c) (e : TypeId) (z : Value) (bytes : Nat) (ht : P.underlying t = some (.slice e))
    (hinfo : (P.info? e).map (fun i => (i.zero, i.size, i.bytes)) = some (some z, 1, bytes)) (hzs : z.cells = #[z])
    (kl kc : IntKind) (L C : Int) (n : Nat) (hl : a.eval l = .int kl L) (hc : a.eval c = .int kc C) (hL : L = (n : Int)) (hC : C = (n : Int))
    (hroom : bytes * n ≤ 281474976710656) (hml : n ≤ 9223372036854775807)
    (h : ∀ w', w'.ownsRow w.heap.size e 1 (.slice (some ⟨w.heap.size, 0, none⟩) n n) n (List.replicate n z) → w.grownBy w' none → Below w.heap.size w w' → wpList P ops Q rest (a.put o.dst (.slice (some ⟨w.heap.size, 0, none⟩) n n)) w') : wpList P ops Q (o :: rest) a w := by
  obtain ⟨i, hi, hz, hsz, hby⟩ := info_parts hinfo
  refine wpList_make_full w hgd l c t ho w.heap.size e i z 1 ht hi hz hsz kl kc L C n hl hc hL hC (by rw [hby]; exact hroom) (by unfold maxLen; omega) (Nat.le_refl _) ?_
  intro w' ho' hg
  rw [hzs, Nat.mul_one, toList_madeCells_one] at ho'
  exact h w' ho' hg ((Below.refl _ _).grown hg (Nat.le_refl _) (fun k hk => by cases hk))

end Go.Proofs.YtgohfieleckmgaaGreatDoor

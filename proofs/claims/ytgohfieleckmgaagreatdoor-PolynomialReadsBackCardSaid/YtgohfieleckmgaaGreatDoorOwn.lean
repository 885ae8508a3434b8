/-
  A row of the call's own all of whose cells, the spare ones too, are of a given sort, so that nothing of another sort lies in its block: plain facts and 'append'. No condition but sizes.
-/
import Derived.Test.YtgohfieleckmgaaGreatDoorRatX
import Derived.Test.YtgohfieleckmgaaGreatDoorApp
namespace Go.Proofs.YtgohfieleckmgaaGreatDoor
open Go.RowKit
set_option linter.unusedSimpArgs false
set_option linter.unusedVariables false

/-- The slice v owns its block from 'base' on; each cell of the block is of the sort K. -/
def Own (K : Value → Prop) (w : World) (base : Nat) (e : TypeId) (size : Nat) (v : Value) (n : Nat) (xs : List Value) : Prop :=
  w.ownsRow base e size v n xs ∧ ∀ g, v.ownBlock = some g → ∀ cur t fr, w.heap[g]? = some (.cells cur t fr) → ∀ c ∈ cur, K c

section
variable {K : Value → Prop} {w w' : World} {base : Nat} {e : TypeId} {size : Nat} {v : Value} {n : Nat} {xs : List Value}
theorem Own.nil (K : Value → Prop) (w : World) (base : Nat) (e : TypeId) (size : Nat) : Own K w base e size (.slice none 0 0) 0 [] :=
  ⟨World.ownsRow_nil _ _ _ _, fun g h => by cases h⟩

/-- Another block is written, or a new one is made. -/
theorem Own.same (h : Own K w base e size v n xs) (hb : ∀ g, v.ownBlock = some g → w'.heap[g]? = w.heap[g]?) : Own K w' base e size v n xs := by
  obtain ⟨⟨h1, h2⟩, hk⟩ := h
  refine ⟨⟨h1, ?_⟩, fun g hg cur t fr hh => hk g hg cur t fr (by rw [← hb g hg]; exact hh)⟩
  rcases h2 with h2 | ⟨g, cap, cur, rfl, hg, hh, r⟩
  · exact .inl h2
  · exact .inr ⟨g, cap, cur, rfl, hg, (hb g rfl).trans hh, r⟩
theorem Own.lt (h : Own K w base e size v n xs) {g : Nat} (hg : v.ownBlock = some g) : base ≤ g ∧ g < w.heap.size := h.1.lt g hg
theorem Own.below (h : Own K w base e size v n xs) (hb : Below w.heap.size w w') : Own K w' base e size v n xs := h.same fun g hg => hb.block g (h.lt hg).2
theorem Own.new (h : Own K w base e size v n xs) (o : Obj) : Own K (w.alloc o) base e size v n xs := h.below (below_alloc o)
theorem Own.put (h : Own K w base e size v n xs) {p : Addr} (hp : ∀ g, v.ownBlock = some g → g ≠ p.block) (u : Value) : Own K (w.setCell p u) base e size v n xs :=
  h.same fun g hg => Below.heap_setCell w p u g (hp g hg)

/-- A cell of another sort does not lie in the row's block. -/
theorem Own.off (h : Own K w base e size v n xs) {b o : Nat} {c : Value} (hc : w.cell? ⟨b, o, none⟩ = some c) (hK : ¬ K c) : ∀ g, v.ownBlock = some g → b ≠ g := by
  rintro g hg rfl
  obtain ⟨⟨_, h2⟩, hk⟩ := h
  rcases h2 with ⟨rfl, _⟩ | ⟨g', cap, cur, rfl, _, hh, _⟩
  · cases hg
  · simp only [Value.ownBlock, Option.some.injEq] at hg
    subst hg
    rw [cell_of_row w g' o cur e (0, 0) hh] at hc
    exact hK (hk g' rfl cur e (0, 0) hh c (Array.mem_of_getElem? hc))

/-- 'append' of at least one element. -/
theorem Own.append {P : Program} (t ty : TypeId) (i : TypeInfo) (z : Value) (bytes : Nat) (ht : P.underlying t = some (.slice e)) (hi : P.info? e = some i) (hz : i.zero = some z)
    (hsize : i.size = size) (hby : i.bytes = bytes) (hzs : z.cells.size = size) (hsz : 0 < size) (hzK : ∀ c ∈ z.cells, K c) (h : Own K w base e size v n xs)
    (a : Addr) (m c : Nat) (news : List Value) (hl : news.length = m * size) (hnews : ∀ j u, news[j]? = some u → w.cell? (a.add j) = some u) (h1 : ∀ u ∈ news, u.oneCell' = true) (hnK : ∀ u ∈ news, K u)
    (hm : 0 < m) (h63 : n + m ≤ maxLen) (hbytes : (n + m) * bytes ≤ 140737488355328) (hbase : base ≤ w.heap.size) :
    ∃ v' w', (Builtin.append_ #[t, t] ty #[v, .slice (some a) m c]).run P w = .ok v' w' ∧ Own K w' base e size v' (n + m) (xs ++ news) ∧ w.grownBy w' v.ownBlock ∧ (v'.ownBlock = v.ownBlock ∨ v'.ownBlock = some w.heap.size) := by
  obtain ⟨v', w', hr, hown, hg, _⟩ := run_append_own (P := P) w base t ty e i z size bytes ht hi hz hsize hby hzs hsz v n xs h.1 a m c news hl hnews h1 h63 hbytes hbase
  subst hsize
  have hsmall : n + m ≤ 9223372036854775807 := by simp only [maxLen] at h63; omega
  have zK : ∀ k, ∀ u ∈ Builtin.zeroCells z.cells k, K u := by
    intro k u hu
    simp only [Builtin.zeroCells, Array.mem_map, Array.mem_range] at hu
    obtain ⟨j, hj, rfl⟩ := hu
    have hj2 : j % z.cells.size < z.cells.size := Nat.mod_lt _ (by omega)
    rw [getElem!_pos z.cells _ hj2]
    exact hzK _ (Array.getElem_mem hj2)
  obtain ⟨⟨g1, g2⟩, hk⟩ := h
  rcases g2 with ⟨rfl, rfl⟩ | ⟨g, cap, cur, rfl, hbg, hh, hnc, hcm, hcs, htake⟩
  · have hr2 := run_append_nil (P := P) w t ty e i z ht hi hz a m c news hl hnews hm (by omega) (by have hb := hbytes; rw [hby]; simp only [Nat.zero_add] at hb; omega)
    rw [hr] at hr2
    injection hr2 with e1 e2
    subst e1 e2
    refine ⟨_, _, hr, ⟨hown, ?_⟩, hg, .inr rfl⟩
    intro g' hg' cur' t' fr' hh'
    simp only [Value.ownBlock, Option.some.injEq] at hg'
    subst hg'
    rw [show (w.drew.alloc (.cells (news.toArray ++ Builtin.zeroCells z.cells (grownCap w m 0 e - m)) e)).heap[w.heap.size]? = some _ from heap_alloc_new w.drew _] at hh'
    injection hh' with hh'
    injection hh' with e1 _ _
    subst e1
    intro u hu
    rw [Array.mem_append] at hu
    rcases hu with hu | hu
    · exact hnK u (by simpa using hu)
    · exact zK _ u hu
  · have curK := hk g rfl cur e (0, 0) hh
    by_cases hroom : n + m ≤ cap
    · have hfit : n * i.size + news.length ≤ cur.size := by rw [hl, hcs, ← Nat.add_mul]; exact Nat.mul_le_mul_right _ hroom
      have hr2 := run_append_room (P := P) w t ty e i ht hi g n cap cur hh a m c news hl hnews h1 hroom hfit
      rw [hr] at hr2
      injection hr2 with e1 e2
      subst e1 e2
      refine ⟨_, _, hr, ⟨hown, ?_⟩, hg, .inl rfl⟩
      intro g' hg' cur' t' fr' hh'
      simp only [Value.ownBlock, Option.some.injEq] at hg'
      subst hg'
      rw [setRow_heap w g cur _ e _ hh] at hh'
      injection hh' with hh'
      injection hh' with e1 _ _
      subst e1
      intro u hu
      simp only [List.mem_toArray, List.mem_append] at hu
      rcases hu with (hu | hu) | hu
      · exact curK u (by simpa using List.mem_of_mem_take hu)
      · exact hnK u hu
      · exact curK u (by simpa using List.mem_of_mem_drop hu)
    · have holds : ∀ j u, xs[j]? = some u → w.cell? ((⟨g, 0, none⟩ : Addr).add j) = some u := World.ownsRow.cells (v := .slice (some ⟨g, 0, none⟩) n cap) ⟨g1, .inr ⟨g, cap, cur, rfl, hbg, hh, hnc, hcm, hcs, htake⟩⟩ (g := g) rfl
      have hr2 := run_append_grow (P := P) w t ty e i z ht hi hz ⟨g, 0, none⟩ n cap xs g1 holds a m c news hl hnews (by omega) (by omega) (growslice_fits (by omega) (by rw [hby]; exact hbytes))
      rw [hr] at hr2
      injection hr2 with e1 e2
      subst e1 e2
      refine ⟨_, _, hr, ⟨hown, ?_⟩, hg, .inr rfl⟩
      intro g' hg' cur' t' fr' hh'
      simp only [Value.ownBlock, Option.some.injEq] at hg'
      subst hg'
      rw [show (w.drew.alloc (.cells (xs.toArray ++ news.toArray ++ Builtin.zeroCells z.cells (grownCap w (n + m) cap e - (n + m))) e)).heap[w.heap.size]? = some _ from heap_alloc_new w.drew _] at hh'
      injection hh' with hh'
      injection hh' with e1 _ _
      subst e1
      intro u hu
      simp only [Array.mem_append, List.mem_toArray] at hu
      rcases hu with (hu | hu) | hu
      · rw [← htake] at hu
        exact curK u (by simpa using List.mem_of_mem_take hu)
      · exact hnK u hu
      · exact zK _ u hu
end

/-- As an operation of the walk. -/
theorem wp_own {P : Program} {w : World} {ops : Array Oper} {rest : List Oper} {o : Oper} {a : Act} {Q : Exit → Act → World → Prop} (hgd : o.guard = none) (s x : Operand) (t : TypeId)
    (ho : o.op = .call { callee := .builtin .append, args := #[s, x], argTypes := #[t, t] }) (K : Value → Prop) (e : TypeId) (z : Value) (size bytes : Nat) (ht : P.underlying t = some (.slice e))
    (hinfo : (P.info? e).map (fun i => (i.zero, i.size, i.bytes)) = some (some z, size, bytes)) (hzs : z.cells.size = size) (hsz : 0 < size) (hzK : ∀ c ∈ z.cells, K c)
    (base : Nat) (v : Value) (n : Nat) (xs : List Value) (hs : a.eval s = v) (hown : Own K w base e size v n xs)
    (ad : Addr) (m c : Nat) (news : List Value) (hx : a.eval x = .slice (some ad) m c) (hl : news.length = m * size) (hnews : ∀ j u, news[j]? = some u → w.cell? (ad.add j) = some u) (h1 : ∀ u ∈ news, u.oneCell' = true) (hnK : ∀ u ∈ news, K u)
    (hm : 0 < m) (hroom : (n + m) * bytes ≤ 140737488355328) (hml : n + m ≤ 9223372036854775807) (hbase : base ≤ w.heap.size)
    (h : ∀ v' w', Own K w' base e size v' (n + m) (xs ++ news) → w.grownBy w' v.ownBlock → Below base w w' → (v'.ownBlock = v.ownBlock ∨ v'.ownBlock = some w.heap.size) → wpList P ops Q rest (a.put o.dst v') w') : wpList P ops Q (o :: rest) a w := by
  obtain ⟨i, hi, hz0, hsz', hby⟩ := info_parts hinfo
  obtain ⟨v', w', hr, h2, h3, h4⟩ := hown.append (P := P) t o.type i z bytes ht hi hz0 hsz' hby hzs hsz hzK ad m c news hl hnews h1 hnK hm (by unfold maxLen; omega) hroom hbase
  refine wpList_plain hgd fun K' hK => ?_
  unfold Oper.wp execOp
  simp only [ho, resolve, invoke, builtin, Sem.run_bind, Sem.run_pure, Result.andThen_ok, List.map_toArray, List.map_cons, List.map_nil, hs, hx, hr]
  exact hK _ _ (h v' w' h2 h3 ((Below.refl _ _).grown h3 hbase (fun k hk => (hown.1.lt k hk).1)) h4)

section
variable {w w' : World} {row : Option Nat}
/-- A slice stays where its cells do not lie in the row that is written. -/
theorem Sl.grown {ao : Option Addr} {n cap : Nat} {xs : List Value} (h : Sl w ao n cap xs) (hg : w.grownBy w' row) (hoff : ∀ (i : Nat) (x : Value) (b o : Nat), xs[i]? = some x → w.cell? ⟨b, o, none⟩ = some x → some b ≠ row) : Sl w' ao n cap xs :=
  ⟨h.len, h.le, h.most, fun i x hx => by
    obtain ⟨b, off, e, hc⟩ := h.at_ i x hx
    exact ⟨b, off, e, hg.cell hc (hoff i x b _ hx hc)⟩⟩

/-- Limbs stay where a row of another sort is written. -/
theorem Sl.grownU {K : Value → Prop} {base : Nat} {e : TypeId} {size : Nat} {v : Value} {k : Nat} {ys : List Value} {ao : Option Addr} {n cap : Nat} {l : List Nat} (h : Sl w ao n cap (u32s l)) (hown : Own K w base e size v k ys) (hK : ∀ x : Nat, ¬ K (.int .u32 (x : Int)))
    (hg : w.grownBy w' v.ownBlock) : Sl w' ao n cap (u32s l) :=
  h.grown hg fun i x b o hx hc hr => by
    obtain ⟨y, _, rfl⟩ := List.mem_map.1 (List.mem_of_getElem? hx)
    exact hown.off hc (hK y) b hr.symm rfl
theorem RatC.grownU {K : Value → Prop} {base : Nat} {e : TypeId} {size : Nat} {v : Value} {k : Nat} {ys : List Value} {q : Rat} {u : Value} (h : RatC w u q) (hown : Own K w base e size v k ys) (hK : ∀ x : Nat, ¬ K (.int .u32 (x : Int))) (hg : w.grownBy w' v.ownBlock) : RatC w' u q := by
  obtain ⟨ao, bo, n, cap, m, cap', rfl, h1, h2, hz, hz'⟩ := h
  exact ⟨ao, bo, n, cap, m, cap', rfl, h1.grownU hown hK hg, h2.grownU hown hK hg, hz, hz'⟩
theorem RatV.grownU {K : Value → Prop} {base : Nat} {e : TypeId} {size : Nat} {v : Value} {k : Nat} {ys : List Value} {q : Rat} {u : Value} (h : RatV w u q) (hown : Own K w base e size v k ys) (hK : ∀ x : Nat, ¬ K (.int .u32 (x : Int))) (hg : w.grownBy w' v.ownBlock) : RatV w' u q := by
  obtain ⟨neg, N, D, ao, bo, n, cap, m, cap', e, h1, h2, h3⟩ := h
  exact ⟨neg, N, D, ao, bo, n, cap, m, cap', e, h1.grownU hown hK hg, h2.grownU hown hK hg, h3⟩
end

/-- Ints. -/
def IsI64 (v : Value) : Prop := ∃ z, v = .int .i64 z
theorem isI64_u32 (x : Nat) : ¬ IsI64 (.int .u32 (x : Int)) := by rintro ⟨z, h⟩; injection h with h; cases h
theorem isI64_i64s (l : List Int) : ∀ u ∈ l.map (Value.int .i64), IsI64 u := by intro u hu; obtain ⟨z, _, rfl⟩ := List.mem_map.1 hu; exact ⟨z, rfl⟩

/-- A row of the call's own is written from its start on. -/
theorem own_setCells {base : Nat} {e : TypeId} {g n cap : Nat} (ys : List Value) : ∀ (o : Nat) (w : World) (xs : List Value), w.ownsRow base e 1 (.slice (some ⟨g, 0, none⟩) n cap) n xs → o + ys.length ≤ n →
    (w.setCells g o ys).ownsRow base e 1 (.slice (some ⟨g, 0, none⟩) n cap) n (xs.take o ++ (ys ++ xs.drop (o + ys.length))) ∧ (base ≤ g → ∀ B, B ≤ g → Below B w (w.setCells g o ys)) := by
  induction ys with
  | nil =>
    intro o w xs h hl
    refine ⟨?_, fun _ B _ => Below.refl _ _⟩
    show w.ownsRow base e 1 (.slice (some ⟨g, 0, none⟩) n cap) n _
    simpa using h
  | cons y ys ih =>
    intro o w xs h hl
    simp only [List.length_cons] at hl
    have h1 := (h.stored o y).1
    obtain ⟨k1, k2⟩ := ih (o + 1) _ _ h1 (by omega)
    have hx : xs.length = n := by have := h.1; simpa using this
    refine ⟨?_, fun hb B hB => ?_⟩
    · have e1 : (xs.set o y).take (o + 1) ++ (ys ++ (xs.set o y).drop (o + 1 + ys.length)) = xs.take o ++ (y :: ys ++ xs.drop (o + (y :: ys).length)) := by
        have hs : (xs.set o y)[o]? = some y := by rw [List.getElem?_set_self]; omega
        rw [take_snoc hs, List.take_set_of_le (by omega), List.drop_set_of_lt (by omega)]
        simp only [List.length_cons, List.append_assoc, List.cons_append, List.nil_append]
        rw [show o + 1 + ys.length = o + (ys.length + 1) by omega]
      rw [e1] at k1
      exact k1
    · have := k2 hb B hB
      exact ((Below.refl B w).setCell (p := ⟨g, o, none⟩) hB y).trans this

end Go.Proofs.YtgohfieleckmgaaGreatDoor

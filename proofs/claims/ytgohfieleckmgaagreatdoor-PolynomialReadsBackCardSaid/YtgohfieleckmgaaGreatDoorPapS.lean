/-
  Joined out of XPap, XCon.
-/
import Derived.Test.YtgohfieleckmgaaGreatDoorPol
import Derived.Deep.Slices
import Derived.Laws.OwnMore
import Derived.Shelf.Spec.SlicesGrow
import Derived.Test.YtgohfieleckmgaaGreatDoorPoa

/-
  append of a list of monomials that is read, of whatever length. No condition but sizes.
-/
namespace Go.Proofs.YtgohfieleckmgaaGreatDoor
open Go.RowKit Go.Deep
set_option linter.unusedSimpArgs false
set_option linter.unusedVariables false

/-- What lies there, one by one. -/
theorem Pol.mps {w : World} {ao : Option Addr} {n cap : Nat} {l : List Mr} (h : Pol RatC w ao n cap l) : ∃ ys : List Mp, ys.length = n ∧ rdP ys = l ∧ (∀ b o, ao = some ⟨b, o, none⟩ → ∀ (i : Nat) (y : Mp), ys[i]? = some y → Hex w b (o + i * 6) y.1) ∧ ∀ y ∈ ys, RatC w (ratM y.1) y.2 := by
  have hel : ∀ i, i < n → ∃ y : Mp, ∃ m, l[i]? = some m ∧ (y.1.1, y.2) = m ∧ ∃ b o, ao = some ⟨b, o, none⟩ ∧ Hex w b (o + i * 6) y.1 ∧ RatC w (ratM y.1) y.2 := fun i hi => by
    obtain ⟨m, hm, b, o, e, x, hx, he, hr⟩ := h.get hi
    exact ⟨(x, m.2), m, hm, by rw [he], b, o, e, hx, hr⟩
  obtain ⟨Y, hY⟩ := choose_lt hel
  have hg : ∀ (i : Nat) (y : Mp), ((List.range n).map Y)[i]? = some y → i < n ∧ y = Y i := fun i y hy => by
    rw [List.getElem?_map] at hy
    obtain ⟨j, hj, rfl⟩ := Option.map_eq_some_iff.1 hy
    obtain ⟨hj1, hj2⟩ := List.getElem?_eq_some_iff.1 hj
    rw [List.length_range] at hj1
    rw [List.getElem_range] at hj2
    subst hj2
    exact ⟨hj1, rfl⟩
  refine ⟨(List.range n).map Y, by simp, ?_, fun b o e i y hy => ?_, fun y hy => ?_⟩
  · apply List.ext_getElem?
    intro i
    unfold rdP
    rw [List.map_map, List.getElem?_map]
    by_cases hi : i < n
    · obtain ⟨m, hm, e, _⟩ := hY i hi
      rw [List.getElem?_range hi, hm, ← e]; rfl
    · rw [List.getElem?_eq_none (by simp; omega), List.getElem?_eq_none (by rw [h.1]; omega)]; rfl
  · obtain ⟨hi, rfl⟩ := hg i y hy
    obtain ⟨m, hm, e2, b', o', e3, hx, hr⟩ := hY i hi
    rw [e] at e3
    injection e3 with e3
    injection e3 with e4 e5
    subst e4 e5
    exact hx
  · obtain ⟨i, hi0⟩ := List.getElem?_of_mem hy
    obtain ⟨hi, e0⟩ := hg i y hi0
    obtain ⟨m, hm, e2, b', o', e3, hx, hr⟩ := hY i hi
    rw [e0]; exact hr

theorem setRow_same {w : World} {g : Nat} {cur : Array Value} {e : TypeId} {new : Array Value} (hg : w.heap[g]? = some (.cells cur e (0, 0))) (hn : new = cur) : ∀ k : Nat, (w.setRow g new).heap[k]? = w.heap[k]? := by
  intro k
  subst hn
  by_cases hk : k = g
  · subst hk
    rw [setRow_heap w k new _ e _ hg, hg]
  · unfold World.setRow
    simp [Array.getElem?_modify, Ne.symm hk]

/-- 'append' of a list that is read. -/
theorem POwn.appendPol {w : World} {base n : Nat} {v : Value} {ps : List Mp} (h : POwn w base v n ps) (ty : TypeId) (ao : Option Addr) (m c : Nat) (l : List Mr) (hl : Pol RatC w ao m c l) (hn : n ≤ 1000000000) (hm2 : m ≤ 1000000000) (hbase : base ≤ w.heap.size) :
    ∃ v' w' ys, (Builtin.append_ #[22, 22] ty #[v, .slice ao m c]).run Tryz.prog w = .ok v' w' ∧ rdP ys = l ∧ POwn w' base v' (n + m) (ps ++ ys) ∧ w.grownBy w' v.ownBlock ∧ Below base w w' ∧ (v'.ownBlock = v.ownBlock ∨ v'.ownBlock = some w.heap.size) := by
  obtain ⟨i, hi, hz0, hsz, hby⟩ := info_parts Tryz.infoMon
  obtain ⟨ys, y1, y2, y3, y4⟩ := hl.mps
  cases ao with
  | none =>
    obtain rfl := hl.2.2.2.1 rfl
    obtain rfl : m = 0 := by have := hl.2.1; omega
    obtain rfl := List.eq_nil_of_length_eq_zero y1
    have hrun := run_append_owned_none (P := Tryz.prog) (w := w) base 22 ty 59 i 6 Tryz.underlying22 hi v n _ h.1.1
    exact ⟨v, w, [], hrun, y2, by rw [List.append_nil]; exact h, World.grownBy.refl _ _, Below.refl _ _, .inl rfl⟩
  | some ad =>
    by_cases h0 : 0 < m
    · obtain ⟨b, o, rfl⟩ : ∃ b o, ad = ⟨b, o, none⟩ := by
        obtain ⟨_, _, b, o, e, _⟩ := hl.get h0
        exact ⟨b, o, Option.some.inj e⟩
      obtain ⟨v', w', hrun, h1, h2, h3, h4⟩ := h.append ty b o m c ys y1 h0 (y3 b o rfl) y4 hn hm2 hbase
      exact ⟨v', w', ys, hrun, y2, h1, h2, h3, h4⟩
    · obtain rfl : m = 0 := by omega
      obtain rfl := List.eq_nil_of_length_eq_zero y1
      obtain ⟨hown, e2, e3⟩ := h
      rcases hown.1.2 with ⟨rfl, rfl⟩ | ⟨g, cap, cur, rfl, hb, hg, hnc, hcm, hcs, htake⟩
      · obtain rfl := List.eq_nil_of_length_eq_zero e2
        obtain ⟨v', w', hrun, k1, k2, k3⟩ := run_append_own (P := Tryz.prog) (w := w) base 22 ty 59 i _ 6 80 Tryz.underlying22 hi hz0 hsz hby rfl (by decide) _ _ _ hown.1 ad 0 c [] rfl (fun j u hu => by simp at hu) (fun u hu => by cases hu) (by simp [maxLen]) (by decide) hbase
        obtain rfl := k3.2 ⟨rfl, rfl⟩
        exact ⟨_, w', [], hrun, y2, POwn.nil _ _, k2, (Below.refl _ _).grown k2 hbase (fun k hk => by cases hk), .inl rfl⟩
      · have hrun := run_append_room (P := Tryz.prog) (w := w) 22 ty 59 i Tryz.underlying22 hi g n cap cur hg ad 0 c [] (by simp) (fun j u hu => by simp at hu) (fun u hu => by cases hu) (by omega) (by
          rw [hsz, List.length_nil, hcs]; exact Nat.mul_le_mul_right _ hnc)
        have hsame := setRow_same (new := (cur.toList.take (n * i.size) ++ [] ++ cur.toList.drop (n * i.size + ([] : List Value).length)).toArray) hg (by simp)
        have hgr : w.grownBy (w.setRow g (cur.toList.take (n * i.size) ++ [] ++ cur.toList.drop (n * i.size + ([] : List Value).length)).toArray) (some g) := by
          have hsz2 : (w.setRow g (cur.toList.take (n * i.size) ++ [] ++ cur.toList.drop (n * i.size + ([] : List Value).length)).toArray).heap.size = w.heap.size := by
            unfold World.setRow; simp
          refine ⟨?_, ?_, ?_, Nat.le_of_eq hsz2.symm, fun k _ _ => hsame k⟩ <;> rfl
        refine ⟨_, _, [], hrun, y2, ?_, hgr, (Below.refl _ _).grown hgr hbase (fun k hk => by cases hk; exact hb), .inl rfl⟩
        have e5 : POwn (w.setRow g (cur.toList.take (n * i.size) ++ [] ++ cur.toList.drop (n * i.size + ([] : List Value).length)).toArray) base (.slice (some ⟨g, 0, none⟩) n cap) n ps := ⟨hown.same fun g' _ => hsame g', e2, fun p hp => (e3 p hp).grownU hown isMon_u32 hgr⟩
        have e6 : ps ++ [] = ps := List.append_nil _
        rw [List.append_nil] at e5 ⊢
        rw [e6]
        exact e5

/-- As an operation. -/
theorem op_appPol {w : World} {o : Oper} {a : Act} {K : Act → World → Prop} {Q : Exit → Act → World → Prop} (s x : Operand)
    (ho : o.op = .call { callee := .builtin .append, args := #[s, x], argTypes := #[22, 22] })
    (base : Nat) (v : Value) (n : Nat) (ps : List Mp) (hs : a.eval s = v) (hown : POwn w base v n ps) (ao : Option Addr) (m c : Nat) (l : List Mr) (hx : a.eval x = .slice ao m c) (hl : Pol RatC w ao m c l) (hn : n ≤ 1000000000) (hm2 : m ≤ 1000000000) (hbase : base ≤ w.heap.size)
    (h : ∀ v' w' ys, rdP ys = l → POwn w' base v' (n + m) (ps ++ ys) → w.grownBy w' v.ownBlock → Below base w w' → (v'.ownBlock = v.ownBlock ∨ v'.ownBlock = some w.heap.size) → K (a.put o.dst v') w') : Oper.wp Tryz.prog o a w K Q := by
  obtain ⟨v', w', ys, hrun, h1, h2, h3, h4, h5⟩ := hown.appendPol o.type ao m c l hl hn hm2 hbase
  unfold Oper.wp execOp
  simp only [ho, resolve, invoke, builtin, Sem.run_bind, Sem.run_pure, Result.andThen_ok, List.map_toArray, List.map_cons, List.map_nil, hs, hx, hrun]
  exact h v' w' ys h1 h2 h3 h4 h5
theorem wp_appPol {w : World} {ops : Array Oper} {rest : List Oper} {o : Oper} {a : Act} {Q : Exit → Act → World → Prop} (hgd : o.guard = none) (s x : Operand)
    (ho : o.op = .call { callee := .builtin .append, args := #[s, x], argTypes := #[22, 22] })
    (base : Nat) (v : Value) (n : Nat) (ps : List Mp) (hs : a.eval s = v) (hown : POwn w base v n ps) (ao : Option Addr) (m c : Nat) (l : List Mr) (hx : a.eval x = .slice ao m c) (hl : Pol RatC w ao m c l) (hn : n ≤ 1000000000) (hm2 : m ≤ 1000000000) (hbase : base ≤ w.heap.size)
    (h : ∀ v' w' ys, rdP ys = l → POwn w' base v' (n + m) (ps ++ ys) → w.grownBy w' v.ownBlock → Below base w w' → (v'.ownBlock = v.ownBlock ∨ v'.ownBlock = some w.heap.size) → wpList Tryz.prog ops Q rest (a.put o.dst v') w') : wpList Tryz.prog ops Q (o :: rest) a w :=
  wpList_plain hgd fun _ hK => op_appPol s x ho base v n ps hs hown ao m c l hx hl hn hm2 hbase fun v' w' ys h1 h2 h3 h4 h5 => hK _ _ (h v' w' ys h1 h2 h3 h4 h5)
/-- A part from k on. -/
theorem Pol.drop {R : World → Value → Rat → Prop} {w : World} {b o n cap : Nat} {l : List Mr} (h : Pol R w (some ⟨b, o, none⟩) n cap l) {k : Nat} (hk : k ≤ n) : Pol R w (some ⟨b, o + k * 6, none⟩) (n - k) (cap - k) (l.drop k) := by
  obtain ⟨h0, h1, h2, h3, h4⟩ := h
  refine ⟨by rw [List.length_drop]; omega, by omega, by omega, fun e => (by cases e), fun i m hm => ?_⟩
  rw [List.getElem?_drop] at hm
  obtain ⟨b', o', e, x, hx, he, hr⟩ := h4 _ m hm
  simp only [Option.some.injEq, Addr.mk.injEq, and_true] at e
  obtain ⟨rfl, rfl⟩ := e
  exact ⟨b, o + k * 6, rfl, x, by rw [show o + k * 6 + i * 6 = o + (k + i) * 6 by omega]; exact hx, he, hr⟩
theorem Pol.empty {w : World} {R : World → Value → Rat → Prop} (ad : Addr) (cap : Nat) (h : cap ≤ maxLen) : Pol R w (some ad) 0 cap [] := ⟨rfl, Nat.zero_le _, h, fun e => (by cases e), fun i m hm => by simp at hm⟩
end Go.Proofs.YtgohfieleckmgaaGreatDoor

/-
  The contract of slices.Concat at two lists of monomials. No condition but sizes.
-/
namespace Go.Proofs.YtgohfieleckmgaaGreatDoor
open Go.Shelf Go.RowKit
set_option linter.unusedSimpArgs false
set_option linter.unusedVariables false

def Tryz.laysGrow_ren : Go.Shelf.Ren := ⟨fun | 4 => 97 | n => n, fun | 22 => 22 | 25 => 59 | 3 => 3 | 4 => 4 | 9 => 9 | 20 => 20 | 0 => 0 | n => n, fun | n => n⟩

theorem Tryz.laysGrow : Go.Proofs.Lays8.n4 Tryz.prog Tryz.laysGrow_ren := {
  mixed := by kernel_rfl
  f4 := ⟨Tryz.f97.name, by decide, Tryz.func97.trans (congrArg some (by kernel_rfl))⟩
  t0 := Tryz.underlying0
  a0 := Tryz.isAgg0
  z0 := Tryz.sizeOf0
  v0 := Tryz.zeroValue0
  t3 := Tryz.underlying3
  a3 := Tryz.isAgg3
  z3 := Tryz.sizeOf3
  v3 := Tryz.zeroValue3
  t4 := Tryz.underlying4
  a4 := Tryz.isAgg4
  z4 := Tryz.sizeOf4
  v4 := Tryz.zeroValue4
  t9 := Tryz.underlying9
  a9 := Tryz.isAgg9
  z9 := Tryz.sizeOf9
  v9 := Tryz.zeroValue9
  t20 := Tryz.underlying20
  a20 := Tryz.isAgg20
  z20 := Tryz.sizeOf20
  v20 := Tryz.zeroValue20
  t22 := Tryz.underlying22
  a22 := Tryz.isAgg22
  z22 := Tryz.sizeOf22
  v22 := Tryz.zeroValue22 }

theorem zeroK {K : Value → Prop} (z : Value) (h0 : 0 < z.cells.size) (hz : ∀ c ∈ z.cells, K c) (k : Nat) : ∀ u ∈ Builtin.zeroCells z.cells k, K u := by
  intro u hu
  simp only [Builtin.zeroCells, Array.mem_map, Array.mem_range] at hu
  obtain ⟨j, hj, rfl⟩ := hu
  have hj2 : j % z.cells.size < z.cells.size := Nat.mod_lt _ h0
  rw [getElem!_pos z.cells _ hj2]
  exact hz _ (Array.getElem_mem hj2)
theorem isMon_zc (k : Nat) : ∀ u ∈ Builtin.zeroCells (Value.agg #[.int .i64 0, .int .i64 0, .int .i64 0, .bool false, .slice none 0 0, .slice none 0 0]).cells k, IsMon u :=
  zeroK _ (by decide) isMon_zero k
theorem zc_size (k : Nat) : (Builtin.zeroCells (Value.agg #[.int .i64 0, .int .i64 0, .int .i64 0, .bool false, .slice none 0 0, .slice none 0 0]).cells k).size = k * 6 := by
  simp [Builtin.zeroCells, Value.cells]

theorem grow_any (n : Nat) (hn : n ≤ 1000000000) (w : World) : Calls Tryz.prog 97 #[.slice none 0 0, .int .i64 n] w fun e w' => ∃ v, e = .returned v ∧ POwn w' w.heap.size v 0 [] ∧ Below w.heap.size w w' := by
  by_cases h0 : n = 0
  · subst h0
    have hcon := Any8.slices_Grow_room Tryz.laysGrow none 0 0 0 w (by decide) (by decide) (by decide) (by decide)
    change Calls Tryz.prog 97 _ _ _ at hcon
    exact hcon.mono fun e w' ⟨he, hw⟩ => ⟨_, he, POwn.nil _ _, by rw [hw]; exact Below.refl _ _⟩
  · obtain ⟨i, hi, hz0, hsz, hby⟩ := info_parts Tryz.infoMon
    have hcon := Any8.slices_Grow_grow Tryz.laysGrow i _ hi hz0 (by rw [hsz]; decide) none 0 0 n [] w (by decide) (by omega) (by rw [hby]; omega) (by omega) (by simp) (fun _ => rfl) (fun a h => by cases h)
    change Calls Tryz.prog 97 _ _ _ at hcon
    refine hcon.mono ?_
    rintro e w' ⟨he, rfl⟩
    simp only [Nat.zero_add, Nat.sub_zero] at he ⊢
    have hge := grownCap_ge w n 0 59
    have hle := grownCap_le_maxLen w n 0 59 (by unfold maxLen; omega)
    change Ending at e
    obtain ⟨cap, hcap⟩ : ∃ cap, grownCap w n 0 59 = cap := ⟨_, rfl⟩
    have hcap' := hcap
    change grownCap w n 0 (Tryz.laysGrow_ren.t 25) = cap at hcap'
    rw [hcap] at hge hle
    rw [hcap'] at he ⊢
    have hheap := heap_alloc_new w.drew (.cells (([] : List Value).toArray ++ Builtin.zeroCells (Value.agg #[.int .i64 0, .int .i64 0, .int .i64 0, .bool false, .slice none 0 0, .slice none 0 0]).cells n ++ Builtin.zeroCells (Value.agg #[.int .i64 0, .int .i64 0, .int .i64 0, .bool false, .slice none 0 0, .slice none 0 0]).cells (cap - n)) 59)
    refine ⟨_, he, ⟨⟨⟨rfl, .inr ⟨w.heap.size, cap, _, rfl, Nat.le_refl _, hheap, Nat.zero_le _, hle, ?_, rfl⟩⟩, ?_⟩, rfl, fun p hp => by cases hp⟩, ((Below.refl _ _).drew).alloc (Nat.le_refl _) _⟩
    · simp only [Array.size_append, zc_size, List.size_toArray, List.length_nil]
      omega
    · intro g hg cur t fr hh c hc
      simp only [Value.ownBlock, Option.some.injEq] at hg
      subst hg
      have hh2 := hheap.symm.trans hh
      injection hh2 with hh2
      injection hh2 with e1 _ _
      subst e1
      simp only [Array.mem_append] at hc
      rcases hc with (hc | hc) | hc
      · simp at hc
      · exact isMon_zc _ c hc
      · exact isMon_zc _ c hc

set_option maxRecDepth 10000 in
set_option maxHeartbeats 4000000 in
theorem concat_any (G : Nat) (ao : Option Addr) (n cap : Nat) (l : List Mr) (bo : Option Addr) (m cap' : Nat) (l' : List Mr) (w : World) (h : Pol RatC w ao n cap l) (h' : Pol RatC w bo m cap' l') (g0 : w.cell? ⟨G, 0, none⟩ = some (.slice ao n cap)) (g1 : w.cell? ⟨G, 1, none⟩ = some (.slice bo m cap')) (hn : n ≤ 400000000) (hm : m ≤ 400000000) :
    Calls Tryz.prog 52 #[.slice (some ⟨G, 0, none⟩) 2 2] w fun e w' => ∃ v, e = .returned v ∧ ∃ ps, POwn w' w.heap.size v (n + m) ps ∧ rdP ps = l ++ l' ∧ Below w.heap.size w w' := by
  have hgrow := hid (grow_any (n + m) (by omega) w)
  have hpush : ((n + m : Nat) : Int) = (n : Int) + (m : Int) := by omega
  rw [hpush] at hgrow
  clear hpush
  go_enter Tryz.func52, Tryz.ntmps52
  go_wp2_with fail
  go_loopw [11, 3] (fun iv sv wr => ∃ k s : Int, (k = 0 ∨ k = 1 ∨ k = 2) ∧ iv = .int .i64 k ∧ sv = .int .i64 s ∧ Hid ((k = 0 → s = 0) ∧ (k = 1 → s = n) ∧ (k = 2 → s = n + m)) ∧ w = wr) (fun i _ _ => (2 - intOf i).toNat)
  case atStart => exact ⟨0, 0, .inl rfl, rfl, rfl, hid ⟨fun _ => rfl, fun h => by omega, fun h => by omega⟩, rfl⟩
  case round =>
    obtain ⟨k, s, hk, rfl, rfl, Hs, rfl⟩ := hrel
    rcases hk with rfl | rfl | rfl
    · have hs : 0 = s := (Hs.out.1 rfl).symm
      subst hs
      clear Hs
      go_wp2_with fail
      go_roundw
      case rel => exact ⟨1, n, .inr (.inl rfl), by go_num, by go_num, hid ⟨fun h => by omega, fun _ => rfl, fun h => by omega⟩, by trivial⟩
      case measure => simp [intOf]
    · have hs : (n : Int) = s := (Hs.out.2.1 rfl).symm
      subst hs
      clear Hs
      go_wp2_with fail
      go_roundw
      case rel => exact ⟨2, n + m, .inr (.inr rfl), by go_num, by go_num, hid ⟨fun h => by omega, fun h => by omega, fun _ => rfl⟩, by trivial⟩
      case measure => simp [intOf]
    · have hs : (n : Int) + m = s := (Hs.out.2.2 rfl).symm
      subst hs
      clear Hs
      go_wp2_with fail
      refine hgrow.out.mono ?_; rintro e w1 ⟨v1, rfl, hown, hb1⟩
      go_wp2_with fail
      go_loopw [27, 6] (fun iv vv wr => ∃ (k : Int) (v : Value) (ps : List Mp), (k = 0 ∨ k = 1 ∨ k = 2) ∧ iv = .int .i64 k ∧ v = vv ∧ POwn wr w.heap.size v ps.length ps ∧ Hid ((k = 0 → ps = []) ∧ (k = 1 → rdP ps = l) ∧ (k = 2 → rdP ps = l ++ l')) ∧ Below w.heap.size w wr) (fun i _ _ => (2 - intOf i).toNat)
      case atStart => exact ⟨0, v1, [], .inl rfl, rfl, rfl, hown, hid ⟨fun _ => rfl, fun h => by omega, fun h => by omega⟩, hb1⟩
      case round =>
        clear hown hb1
        obtain ⟨k, v, ps, hk, rfl, rfl, hown, Hs, hbel⟩ := hrel
        have c0 := ((bcell hbel).1 _ _ (World.block_lt_of_cell? _ _ g0)).trans g0
        have c1 := ((bcell hbel).1 _ _ (World.block_lt_of_cell? _ _ g1)).trans g1
        rcases hk with rfl | rfl | rfl
        · obtain rfl := Hs.out.1 rfl
          clear Hs
          have hl := h.nextC hbel
          go_wp2_with (at_builtin; go_loud (refine wp_appPol rfl (.tmp 31) (.tmp 32) rfl w.heap.size _ 0 [] rfl hown ao n cap l rfl hl (by decide) (by omega) hbel.size ?_))
          intro v' w2 ys hy hown2 hg2 hb2 _
          have hb3 := hbel.trans hb2
          have hlen := hown2.2.1
          have hown3 : POwn w2 w.heap.size v' ys.length ys := by
            have h0 := hown2
            have hl2 := hlen
            try simp only [List.nil_append, Nat.zero_add] at h0
            try simp only [List.nil_append, Nat.zero_add] at hl2
            rw [hl2]; exact h0
          clear hown2 hg2 hlen c0 c1
          go_wp2_with fail
          go_roundw
          case rel => exact ⟨1, v', ys, .inr (.inl rfl), by go_num, rfl, hown3, hid ⟨fun h => by omega, fun _ => hy, fun h => by omega⟩, hb3⟩
          case measure => simp [intOf]
        · have hy0 := hid (Hs.out.2.1 rfl)
          clear Hs
          have hl := h'.nextC hbel
          have hlen0 : Hid (ps.length = n) := hid (by
            have := congrArg List.length hy0.out
            rw [rdP, List.length_map, h.1] at this; exact this)
          go_wp2_with (at_builtin; go_loud (refine wp_appPol rfl (.tmp 31) (.tmp 32) rfl w.heap.size _ ps.length ps rfl hown bo m cap' l' rfl hl (by rw [hlen0.out]; omega) (by omega) hbel.size ?_))
          intro v' w2 ys hy hown2 hg2 hb2 _
          have hb3 := hbel.trans hb2
          have hlen := hown2.2.1
          have hown3 : POwn w2 w.heap.size v' (ps ++ ys).length (ps ++ ys) := by
            rw [hlen]; exact hown2
          have hrd : Hid (rdP (ps ++ ys) = l ++ l') := hid (by unfold rdP at *; rw [List.map_append, hy0.out, hy])
          clear hown2 hg2 hlen c0 c1 hlen0
          go_wp2_with fail
          go_roundw
          case rel => exact ⟨2, v', ps ++ ys, .inr (.inr rfl), by go_num, rfl, hown3, hid ⟨fun h => by omega, fun h => by omega, fun _ => hrd.out⟩, hb3⟩
          case measure => simp [intOf]
        · have hy0 := hid (Hs.out.2.2 rfl)
          have hlen0 : Hid (ps.length = n + m) := hid (by
            have := congrArg List.length hy0.out
            rw [rdP, List.length_map, List.length_append, h.1, h'.1] at this; exact this)
          clear Hs
          go_wp2_with fail
          go_ret
          exact ⟨_, rfl, ps, by rw [← hlen0.out]; exact hown, hy0.out, hbel⟩
end Go.Proofs.YtgohfieleckmgaaGreatDoor

/-
  Slices of rational numbers that the call owns: made, written, appended to. No condition but sizes.
-/
import Derived.Test.YtcoidofchofljaaVec
namespace Go.Proofs.Ytcoidofchofljaa
open Go.RowKit
set_option linter.unusedSimpArgs false
set_option linter.unusedVariables false

/-- A cell of a rational. -/
def IsRat (v : Value) : Prop := (∃ b, v = .bool b) ∨ ∃ a n c, v = .slice a n c
theorem isRat_u32 (x : Nat) : ¬ IsRat (.int .u32 (x : Int)) := by rintro (⟨b, h⟩ | ⟨a, n, c, h⟩) <;> cases h
theorem isRat_b (b : Bool) : IsRat (.bool b) := .inl ⟨b, rfl⟩
theorem isRat_s (a : Option Addr) (n c : Nat) : IsRat (.slice a n c) := .inr ⟨a, n, c, rfl⟩

/-- A cell of a row of the call's own is written. -/
theorem Own.stored {K : Value → Prop} {w : World} {base : Nat} {e : TypeId} {size : Nat} {g n cap : Nat} {xs : List Value} (h : Own K w base e size (.slice (some ⟨g, 0, none⟩) n cap) n xs) (j : Nat) (u : Value) (hu : K u) :
    Own K (w.setCell ⟨g, j, none⟩ u) base e size (.slice (some ⟨g, 0, none⟩) n cap) n (xs.set j u) := by
  refine ⟨(h.1.stored j u).1, ?_⟩
  intro g' hg' cur t fr hh c hc
  simp only [Value.ownBlock, Option.some.injEq] at hg'
  subst hg'
  rcases h.1.2 with ⟨h', _⟩ | ⟨g', cap', cur0, h', hb, hg, _⟩
  · simp at h'
  · simp only [Value.slice.injEq, Option.some.injEq, Addr.mk.injEq, and_true, true_and] at h'
    obtain ⟨rfl, rfl⟩ := h'
    rw [heap_setCell_same w g j cur0 e u hg] at hh
    injection hh with hh
    injection hh with e1 _ _
    subst e1
    rw [Array.mem_def, Array.toList_setIfInBounds] at hc
    rcases List.mem_or_eq_of_mem_set hc with hc | rfl
    · exact h.2 g rfl cur0 e (0, 0) hg c (Array.mem_def.2 hc)
    · exact hu

/-- The element i of a row of cells reads as q. -/
def ElC (w : World) (xs : List Value) (i : Nat) (q : Rat) : Prop :=
  ∃ s xo xn xc yo yn yc, xs[i * 3]? = some (.bool s) ∧ xs[i * 3 + 1]? = some (.slice xo xn xc) ∧ xs[i * 3 + 2]? = some (.slice yo yn yc) ∧ RatC w (.agg #[.bool s, .slice xo xn xc, .slice yo yn yc]) q

/-- A slice of rationals of the call's own. -/
def VOwn (w : World) (base : Nat) (v : Value) (n : Nat) (F : V) : Prop := ∃ xs, Own IsRat w base 39 3 v n xs ∧ ∀ i, i < n → ElC w xs i (F i)

section
variable {w w' : World} {base n : Nat} {v : Value} {F : V}

theorem VOwn.next (h : VOwn w base v n F) (hb : Below w.heap.size w w') : VOwn w' base v n F := by
  obtain ⟨xs, h1, h2⟩ := h
  refine ⟨xs, h1.below hb, fun i hi => ?_⟩
  obtain ⟨s, xo, xn, xc, yo, yn, yc, a, b, c, r⟩ := h2 i hi
  exact ⟨s, xo, xn, xc, yo, yn, yc, a, b, c, r.next hb⟩

theorem VOwn.nil (w : World) (base : Nat) (F : V) : VOwn w base (.slice none 0 0) 0 F := ⟨[], Own.nil _ _ _ _ _, fun i hi => by omega⟩

theorem VOwn.mono {base' : Nat} (h : VOwn w base v n F) (hb : base' ≤ base) : VOwn w base' v n F := by
  obtain ⟨xs, h1, h2⟩ := h
  exact ⟨xs, ⟨ownsRow_mono h1.1 hb, h1.2⟩, h2⟩

theorem VOwn.congr {G : V} (h : VOwn w base v n F) (he : ∀ i, i < n → F i = G i) : VOwn w base v n G := by
  obtain ⟨xs, h1, h2⟩ := h
  exact ⟨xs, h1, fun i hi => by rw [← he i hi]; exact h2 i hi⟩

/-- To be read. -/
theorem VOwn.vec (h : VOwn w base v n F) : ∃ ao cap, v = .slice ao n cap ∧ Vec RatC w ao n cap F := by
  obtain ⟨xs, ⟨h1, _⟩, h2⟩ := h
  have hc := h1
  rcases h1.2 with ⟨rfl, rfl⟩ | ⟨g, cap, cur, rfl, hb, hg, hnc, hcm, hcs, htake⟩
  · exact ⟨none, 0, rfl, Vec.nil _ _ _⟩
  · refine ⟨_, cap, rfl, hnc, hcm, fun h => by (cases h), fun i hi => ?_⟩
    obtain ⟨s, xo, xn, xc, yo, yn, yc, a, b, c, r⟩ := h2 i hi
    refine ⟨g, 0, rfl, s, xo, xn, xc, yo, yn, yc, ⟨?_, ?_, ?_⟩, r⟩
    · rw [Nat.zero_add, hc.cellAt _ (by omega)]; exact a
    · rw [Nat.zero_add, hc.cellAt _ (by omega)]; exact b
    · rw [Nat.zero_add, hc.cellAt _ (by omega)]; exact c

/-- As made: its block begins at 0. -/
theorem VOwn.place (h : VOwn w base v n F) (hn : 0 < n) : ∃ g cap, v = .slice (some ⟨g, 0, none⟩) n cap ∧ base ≤ g ∧ g < w.heap.size := by
  obtain ⟨xs, h1, _⟩ := h
  rcases h1.1.2 with ⟨rfl, rfl⟩ | ⟨g, cap, cur, rfl, hb, hg, _⟩
  · omega
  · exact ⟨g, cap, rfl, hb, (h1.1.lt g rfl).2⟩

def updV (F : V) (k : Nat) (q : Rat) : V := fun i => if i = k then q else F i
theorem updV_at (F : V) (k : Nat) (q : Rat) : updV F k q k = q := if_pos rfl
theorem updV_ne (F : V) {k i : Nat} (q : Rat) (h : i ≠ k) : updV F k q i = F i := if_neg h

/-- A rational in memory is not in a row of rationals. -/
theorem RatC.stored3 {xs : List Value} {g cap : Nat} {u : Value} {q : Rat} (h : RatC w u q) (ho : Own IsRat w base 39 3 (.slice (some ⟨g, 0, none⟩) n cap) n xs) (k : Nat) (s : Bool) (xo : Option Addr) (xn xc : Nat) (yo : Option Addr) (yn yc : Nat) :
    RatC (((w.setCell ⟨g, k, none⟩ (.bool s)).setCell ⟨g, k + 1, none⟩ (.slice xo xn xc)).setCell ⟨g, k + 2, none⟩ (.slice yo yn yc)) u q := by
  have o1 := ho.stored k _ (isRat_b s)
  have o2 := o1.stored (k + 1) _ (isRat_s xo xn xc)
  have r1 := h.grownU ho isRat_u32 (ho.1.stored k (.bool s)).2
  have r2 := r1.grownU o1 isRat_u32 (o1.1.stored (k + 1) (.slice xo xn xc)).2
  exact r2.grownU o2 isRat_u32 (o2.1.stored (k + 2) (.slice yo yn yc)).2

/-- The element k is written. -/
theorem VOwn.set {g cap : Nat} (h : VOwn w base (.slice (some ⟨g, 0, none⟩) n cap) n F) {k : Nat} (hk : k < n) {s : Bool} {xo : Option Addr} {xn xc : Nat} {yo : Option Addr} {yn yc : Nat} {q : Rat} (hr : RatC w (.agg #[.bool s, .slice xo xn xc, .slice yo yn yc]) q) :
    VOwn (((w.setCell ⟨g, k * 3, none⟩ (.bool s)).setCell ⟨g, k * 3 + 1, none⟩ (.slice xo xn xc)).setCell ⟨g, k * 3 + 2, none⟩ (.slice yo yn yc)) base (.slice (some ⟨g, 0, none⟩) n cap) n (updV F k q) := by
  obtain ⟨xs, ho, hE⟩ := h
  have hl : xs.length = n * 3 := ho.1.1
  have o1 := ho.stored (k * 3) _ (isRat_b s)
  have o2 := o1.stored (k * 3 + 1) _ (isRat_s xo xn xc)
  have o3 := o2.stored (k * 3 + 2) _ (isRat_s yo yn yc)
  refine ⟨_, o3, fun i hi => ?_⟩
  by_cases hik : i = k
  · subst hik
    rw [updV_at]
    refine ⟨s, xo, xn, xc, yo, yn, yc, ?_, ?_, ?_, hr.stored3 ho _ _ _ _ _ _ _ _⟩
    · rw [List.getElem?_set_ne (by omega), List.getElem?_set_ne (by omega), List.getElem?_set_self (by omega)]
    · rw [List.getElem?_set_ne (by omega), List.getElem?_set_self (by simp; omega)]
    · rw [List.getElem?_set_self (by simp; omega)]
  · rw [updV_ne _ _ hik]
    obtain ⟨s', xo', xn', xc', yo', yn', yc', a, b, c, r⟩ := hE i hi
    refine ⟨s', xo', xn', xc', yo', yn', yc', ?_, ?_, ?_, r.stored3 ho _ _ _ _ _ _ _ _⟩
    · rw [List.getElem?_set_ne (by omega), List.getElem?_set_ne (by omega), List.getElem?_set_ne (by omega)]; exact a
    · rw [List.getElem?_set_ne (by omega), List.getElem?_set_ne (by omega), List.getElem?_set_ne (by omega)]; exact b
    · rw [List.getElem?_set_ne (by omega), List.getElem?_set_ne (by omega), List.getElem?_set_ne (by omega)]; exact c
end

/-- Another's vector stays where a row of rationals is written that lies elsewhere. -/
theorem below_stored3 {B : Nat} {w : World} {g : Nat} (hg : B ≤ g) (k : Nat) (x y z : Value) : Below B w (((w.setCell ⟨g, k, none⟩ x).setCell ⟨g, k + 1, none⟩ y).setCell ⟨g, k + 2, none⟩ z) :=
  (((Below.refl B w).setCell (p := ⟨g, k, none⟩) hg x).setCell (p := ⟨g, k + 1, none⟩) hg y).setCell (p := ⟨g, k + 2, none⟩) hg z

theorem Try.infoRat : (Try.prog.info? 39).map (fun i => (i.zero, i.size, i.bytes)) = some (some (.agg #[.bool false, .slice none 0 0, .slice none 0 0]), 3, 56) := by kernel_rfl

def zRat : Array Value := #[.bool false, .slice none 0 0, .slice none 0 0]
theorem made_at (n i r : Nat) (hi : i < n) (hr : r < 3) : (madeCells zRat (n * 3)).toList[i * 3 + r]? = zRat[r]? := by
  rw [Array.getElem?_toList]
  have h1 : i * 3 + r < n * 3 := by omega
  have h2 : (i * 3 + r) % 3 = r := by omega
  have h3 : zRat.size = 3 := rfl
  simp [madeCells, h1, h2, h3]
  rcases r with _ | _ | _ | r
  · rfl
  · rfl
  · rfl
  · omega
theorem made_mem (k : Nat) : ∀ c ∈ (madeCells zRat k).toList, IsRat c := by
  intro c hc
  have h3 : zRat.size = 3 := rfl
  simp only [madeCells, Array.toList_map, List.mem_map] at hc
  obtain ⟨j, _, rfl⟩ := hc
  have hj : j % zRat.size = 0 ∨ j % zRat.size = 1 ∨ j % zRat.size = 2 := by rw [h3]; omega
  rcases hj with h | h | h <;> rw [h]
  · exact isRat_b false
  · exact isRat_s none 0 0
  · exact isRat_s none 0 0

/-- 'make([]api.Rat, n)'. -/
theorem wp_makeV {w : World} {ops : Array Oper} {rest : List Oper} {o : Oper} {a : Act} {Q : Exit → Act → World → Prop} (hgd : o.guard = none) (l c : Operand)
    (ho : o.op = Op.makeSlice 30 l c) (kl kc : IntKind) (L C : Int) (n : Nat) (hl : a.eval l = .int kl L) (hc : a.eval c = .int kc C) (hL : L = (n : Int)) (hC : C = (n : Int)) (hn : n ≤ 1000000000)
    (h : ∀ w', VOwn w' w.heap.size (.slice (some ⟨w.heap.size, 0, none⟩) n n) n zeroV → Below w.heap.size w w' → wpList Try.prog ops Q rest (a.put o.dst (.slice (some ⟨w.heap.size, 0, none⟩) n n)) w') : wpList Try.prog ops Q (o :: rest) a w := by
  obtain ⟨i, hi, hz, hsz, hby⟩ := info_parts Try.infoRat
  refine wpList_make_full w hgd l c 30 ho w.heap.size 39 i _ 3 Try.underlying30 hi hz hsz kl kc L C n hl hc hL hC (by rw [hby]; omega) (by unfold maxLen; omega) (Nat.le_refl _) ?_
  intro w' ho' hg
  have hb : Below w.heap.size w w' := (Below.refl _ _).grown hg (Nat.le_refl _) (fun k hk => by cases hk)
  have hzc : (Value.agg #[.bool false, .slice none 0 0, .slice none 0 0]).cells = zRat := by rfl
  rw [hzc] at ho'
  refine h w' ⟨_, ⟨ho', ?_⟩, fun i hi => ⟨false, none, 0, 0, none, 0, 0, ?_, ?_, ?_, ratC_zero w'⟩⟩ hb
  · intro g' hg' cur t fr hh c hc
    simp only [Value.ownBlock, Option.some.injEq] at hg'
    subst hg'
    rcases ho'.2 with ⟨h', _⟩ | ⟨g', cap', cur0, h', hb', hg0, _, _, hcs, htake⟩
    · simp at h'
    · simp only [Value.slice.injEq, Option.some.injEq, Addr.mk.injEq, and_true, true_and] at h'
      obtain ⟨rfl, rfl⟩ := h'
      rw [hg0] at hh
      injection hh with hh
      injection hh with e1 _ _
      subst e1
      rw [List.take_of_length_le (by rw [Array.length_toList, hcs]; exact Nat.le_refl _)] at htake
      exact made_mem _ c (by rw [← htake]; exact Array.mem_def.1 hc)
  · exact made_at n i 0 hi (by decide)
  · exact made_at n i 1 hi (by decide)
  · exact made_at n i 2 hi (by decide)

/-- 'append' of one rational, as an operation. -/
theorem op_appV {w : World} {o : Oper} {a : Act} {K : Act → World → Prop} {Q : Exit → Act → World → Prop} (s x : Operand)
    (ho : o.op = .call { callee := .builtin .append, args := #[s, x], argTypes := #[30, 30] })
    (base : Nat) (v : Value) (n : Nat) (F : V) (hs : a.eval s = v) (hown : VOwn w base v n F) (B c : Nat) (hx : a.eval x = .slice (some ⟨B, 0, none⟩) 1 c)
    (s0 : Bool) (xo : Option Addr) (xn xc : Nat) (yo : Option Addr) (yn yc : Nat) (ht : C3 B (.bool s0) (.slice xo xn xc) (.slice yo yn yc) w) (q : Rat) (hr : RatC w (.agg #[.bool s0, .slice xo xn xc, .slice yo yn yc]) q)
    (hn : n ≤ 1000000) (hbase : base ≤ w.heap.size)
    (h : ∀ v' w', VOwn w' base v' (n + 1) (updV F n q) → w.grownBy w' v.ownBlock → Below base w w' → (v'.ownBlock = v.ownBlock ∨ v'.ownBlock = some w.heap.size) → K (a.put o.dst v') w') : Oper.wp Try.prog o a w K Q := by
  obtain ⟨xs, hxs, hE⟩ := hown
  have hl : xs.length = n * 3 := hxs.1.1
  obtain ⟨i, hi, hz0, hsz, hby⟩ := info_parts Try.infoRat
  obtain ⟨v', w', hrun, h1, h2, h4⟩ := hxs.append (P := Try.prog) 30 o.type i _ 56 Try.underlying30 hi hz0 hsz hby rfl (by decide)
    (by
      intro c hc
      have hc : c = .bool false ∨ c = .slice none 0 0 := by simpa [Value.cells] using hc
      rcases hc with rfl | rfl
      · exact isRat_b _
      · exact isRat_s _ _ _)
    ⟨B, 0, none⟩ 1 c [.bool s0, .slice xo xn xc, .slice yo yn yc] rfl
    (by
      intro j u hu
      obtain ⟨t0, t1, t2⟩ := ht
      rw [Addr.add_lit, Nat.zero_add]
      rcases j with _ | _ | _ | j
      · simp at hu; subst hu; exact t0
      · simp at hu; subst hu; exact t1
      · simp at hu; subst hu; exact t2
      · simp at hu)
    (by intro u hu; simp at hu; rcases hu with rfl | rfl | rfl <;> rfl)
    (by
      intro u hu; simp at hu; rcases hu with rfl | rfl | rfl
      · exact isRat_b _
      · exact isRat_s _ _ _
      · exact isRat_s _ _ _)
    (by decide) (by unfold maxLen; omega) (by omega) hbase
  have h3 : Below base w w' := (Below.refl _ _).grown h2 hbase (fun k hk => (hxs.1.lt k hk).1)
  unfold Oper.wp execOp
  simp only [ho, resolve, invoke, builtin, Sem.run_bind, Sem.run_pure, Result.andThen_ok, List.map_toArray, List.map_cons, List.map_nil, hs, hx, hrun]
  refine h v' w' ⟨_, h1, fun i hi => ?_⟩ h2 h3 h4
  by_cases hin : i = n
  · subst hin
    rw [updV_at]
    refine ⟨s0, xo, xn, xc, yo, yn, yc, ?_, ?_, ?_, hr.grownU hxs isRat_u32 h2⟩
    · rw [List.getElem?_append_right (by omega), hl, Nat.sub_self]; rfl
    · rw [List.getElem?_append_right (by omega), hl, show i * 3 + 1 - i * 3 = 1 by omega]; rfl
    · rw [List.getElem?_append_right (by omega), hl, show i * 3 + 2 - i * 3 = 2 by omega]; rfl
  · rw [updV_ne _ _ hin]
    obtain ⟨s', xo', xn', xc', yo', yn', yc', a1, a2, a3, r⟩ := hE i (by omega)
    refine ⟨s', xo', xn', xc', yo', yn', yc', ?_, ?_, ?_, r.grownU hxs isRat_u32 h2⟩
    · rw [List.getElem?_append_left (by omega)]; exact a1
    · rw [List.getElem?_append_left (by omega)]; exact a2
    · rw [List.getElem?_append_left (by omega)]; exact a3

/-- 'append' of one rational in a row of operations. -/
theorem wp_appV {w : World} {ops : Array Oper} {rest : List Oper} {o : Oper} {a : Act} {Q : Exit → Act → World → Prop} (hgd : o.guard = none) (s x : Operand)
    (ho : o.op = .call { callee := .builtin .append, args := #[s, x], argTypes := #[30, 30] })
    (base : Nat) (v : Value) (n : Nat) (F : V) (hs : a.eval s = v) (hown : VOwn w base v n F) (B c : Nat) (hx : a.eval x = .slice (some ⟨B, 0, none⟩) 1 c)
    (s0 : Bool) (xo : Option Addr) (xn xc : Nat) (yo : Option Addr) (yn yc : Nat) (ht : C3 B (.bool s0) (.slice xo xn xc) (.slice yo yn yc) w) (q : Rat) (hr : RatC w (.agg #[.bool s0, .slice xo xn xc, .slice yo yn yc]) q)
    (hn : n ≤ 1000000) (hbase : base ≤ w.heap.size)
    (h : ∀ v' w', VOwn w' base v' (n + 1) (updV F n q) → w.grownBy w' v.ownBlock → Below base w w' → (v'.ownBlock = v.ownBlock ∨ v'.ownBlock = some w.heap.size) → wpList Try.prog ops Q rest (a.put o.dst v') w') : wpList Try.prog ops Q (o :: rest) a w :=
  wpList_plain hgd fun _ hK => op_appV s x ho base v n F hs hown B c hx s0 xo xn xc yo yn yc ht q hr hn hbase fun v' w' h1 h2 h3 h4 => hK _ _ (h v' w' h1 h2 h3 h4)

/-- 'append' of one rational in a drawn region. -/
theorem step_appV {w : World} {ops : Array Oper} {o : Oper} {a : Act} {K : Act → World → Prop} {Q : Exit → Act → World → Prop} {E : Prop} (hgd : o.guard = none) (s x : Operand)
    (ho : o.op = .call { callee := .builtin .append, args := #[s, x], argTypes := #[30, 30] })
    (base : Nat) (v : Value) (n : Nat) (F : V) (hs : a.eval s = v) (hown : VOwn w base v n F) (B c : Nat) (hx : a.eval x = .slice (some ⟨B, 0, none⟩) 1 c)
    (s0 : Bool) (xo : Option Addr) (xn xc : Nat) (yo : Option Addr) (yn yc : Nat) (ht : C3 B (.bool s0) (.slice xo xn xc) (.slice yo yn yc) w) (q : Rat) (hr : RatC w (.agg #[.bool s0, .slice xo xn xc, .slice yo yn yc]) q)
    (hn : n ≤ 1000000) (hbase : base ≤ w.heap.size)
    (h : ∀ v' w', VOwn w' base v' (n + 1) (updV F n q) → w.grownBy w' v.ownBlock → Below base w w' → (v'.ownBlock = v.ownBlock ∨ v'.ownBlock = some w.heap.size) → K (a.put o.dst v') w') :
    if Region.wanted o (yielded ops a.tmps) = true then Oper.wp Try.prog o a w K Q else E := by
  have hw : Region.wanted o (yielded ops a.tmps) = true := by simp [Region.wanted, hgd]
  rw [if_pos hw]
  exact op_appV s x ho base v n F hs hown B c hx s0 xo xn xc yo yn yc ht q hr hn hbase h

/-- A list of rationals, read and each its only representation. -/
def VecOut (w : World) (n : Nat) (F : V) (e : Ending) (w' : World) : Prop :=
  ∃ v, e = .returned v ∧ VOwn w' w.heap.size v n F ∧ Below w.heap.size w w'

end Go.Proofs.Ytcoidofchofljaa

/-
  A drawn region that holds several chains 'load a field, make a row of one element, append, store the field' in whatever order: one invariant. No program, no condition but sizes.
-/
import Derived.Test.YtcoidofchofljaaMat
import Derived.Orders
namespace Go.Proofs.Ytcoidofchofljaa
open Go.RowKit
set_option linter.unusedSimpArgs false
set_option linter.unusedVariables false

/-- Blocks outside T stand as they stood. -/
structure Fr (T : Nat → Prop) (w w' : World) : Prop where
  os : w'.os = w.os
  tape : w'.tape = w.tape
  output : w'.output = w.output
  size : w.heap.size ≤ w'.heap.size
  block : ∀ k, k < w.heap.size → ¬ T k → w'.heap[k]? = w.heap[k]?

section
variable {T T' : Nat → Prop} {a b c : World}
theorem Fr.refl (T : Nat → Prop) (w : World) : Fr T w w := ⟨rfl, rfl, rfl, Nat.le_refl _, fun _ _ _ => rfl⟩
theorem Fr.trans (h : Fr T a b) (k : Fr T b c) : Fr T a c :=
  ⟨k.os.trans h.os, k.tape.trans h.tape, k.output.trans h.output, Nat.le_trans h.size k.size, fun i hi hT => (k.block i (Nat.lt_of_lt_of_le hi h.size) hT).trans (h.block i hi hT)⟩
theorem Fr.mono (h : Fr T a b) (hT : ∀ k, k < a.heap.size → T k → T' k) : Fr T' a b := ⟨h.os, h.tape, h.output, h.size, fun i hi hn => h.block i hi fun ht => hn (hT i hi ht)⟩
/-- What is written behind may lie in blocks that were not there before. -/
theorem Fr.trans' (h : Fr T a b) (k : Fr T' b c) (hT : ∀ j, j < a.heap.size → T' j → T j) : Fr T a c :=
  ⟨k.os.trans h.os, k.tape.trans h.tape, k.output.trans h.output, Nat.le_trans h.size k.size, fun i hi hn => (k.block i (Nat.lt_of_lt_of_le hi h.size) fun ht => hn (hT i hi ht)).trans (h.block i hi hn)⟩
theorem below_fr (h : Below a.heap.size a b) (T : Nat → Prop) : Fr T a b := ⟨h.os, h.tape, h.output, h.size, fun i hi _ => h.block i hi⟩
theorem grown_fr {row : Option Nat} (h : a.grownBy b row) (hT : ∀ g, row = some g → T g) : Fr T a b :=
  ⟨h.os, h.tape, h.output, h.size, fun i hi hn => h.block i hi fun e => hn (hT i e.symm)⟩
theorem Fr.below {B : Nat} (h : Fr T a b) (hT : ∀ k, T k → B ≤ k) (hB : B ≤ a.heap.size) : Below B a b :=
  ⟨h.os, h.tape, h.output, h.size, fun i hi => h.block i (Nat.lt_of_lt_of_le hi hB) fun ht => absurd (hT i ht) (Nat.not_le_of_lt hi)⟩
theorem Fr.set (w : World) {p : Addr} (hp : T p.block) (v : Value) : Fr T w (w.setCell p v) :=
  ⟨rfl, rfl, rfl, by simp, fun i hi hn => Below.heap_setCell w p v i (fun e => hn (e ▸ hp))⟩
theorem Fr.cell (h : Fr T a b) {g o : Nat} {v : Value} (hc : a.cell? ⟨g, o, none⟩ = some v) (hg : ¬ T g) : b.cell? ⟨g, o, none⟩ = some v :=
  (World.cell?_of_block (a := ⟨g, o, none⟩) (h.block g (World.block_lt_of_cell? _ _ hc) hg)).trans hc
end

theorem Own.fr {K : Value → Prop} {w w' : World} {base : Nat} {e : TypeId} {size : Nat} {v : Value} {n : Nat} {xs : List Value} {T : Nat → Prop} (h : Own K w base e size v n xs) (hf : Fr T w w') (hv : ∀ g, v.ownBlock = some g → ¬ T g) : Own K w' base e size v n xs :=
  h.same fun g hg => hf.block g (h.lt hg).2 (hv g hg)

/-! ### The invariant of a drawn region -/

theorem wpAny_inv {P : Program} {md : Region.Mode} {ops : Array Oper} {Q : Exit → Act → World → Prop} (I : Array Bool → Act → World → Prop)
    (hd : ∀ l a w, I l a w → Region.ready md ops l = [] → Q .normal a w)
    (hs : ∀ l a w, I l a w → ∀ i ∈ Region.ready md ops l, wpOp P ops Q i (fun a' w' => I (l.setIfInBounds i true) a' w') a w) :
    ∀ (fuel : Nat) (l : Array Bool) (a : Act) (w : World), I l a w → l.toList.countP (fun b => !b) ≤ fuel → wpAny P md ops Q fuel l a w := by
  have hpos : ∀ (l : Array Bool) (i : Nat), i ∈ Region.ready md ops l → l.toList[i]? = some false := by
    intro l i hi
    have h0 := (mem_ready.1 hi).1
    rcases Nat.lt_or_ge i l.size with h | h
    · simp [h] at h0; simp [h, h0]
    · simp [Array.getElem?_eq_none h] at h0
  intro fuel
  induction fuel with
  | zero =>
    intro l a w h hc
    have hr : Region.ready md ops l = [] := by
      cases hr : Region.ready md ops l with
      | nil => rfl
      | cons i rs =>
        have h1 := hpos l i (by rw [hr]; exact List.mem_cons_self)
        have h2 : 0 < l.toList.countP (fun b => !b) := List.countP_pos_iff.2 ⟨false, List.mem_of_getElem? h1, rfl⟩
        omega
    exact ⟨hr, hd l a w h hr⟩
  | succ fuel ih =>
    intro l a w h hc
    refine ⟨hd l a w h, fun i hi => wpOp_mono (fun a' w' h' => ih _ a' w' h' ?_) (hs l a w h i hi)⟩
    obtain ⟨hlt, h1⟩ := List.getElem?_eq_some_iff.1 (hpos l i hi)
    rw [Array.toList_setIfInBounds, List.countP_set hlt, h1]
    have h2 : 0 < l.toList.countP (fun b => !b) := List.countP_pos_iff.2 ⟨false, by rw [← h1]; exact List.getElem_mem hlt, rfl⟩
    simp only [Bool.not_false, Bool.not_true, if_true, Bool.false_eq_true, if_false]
    omega

/-! ### Chains -/

theorem wpOp_run {P : Program} {ops : Array Oper} {Q : Exit → Act → World → Prop} {K : Act → World → Prop} {i : Nat} {o : Oper} {a : Act} {w w1 : World} {v : Value} (hi : ops[i]? = some o) (hg : o.guard = none)
    (hr : (execOp a.eval o).run P w = .ok (.value v) w1) (h : K (a.put o.dst v) w1) : wpOp P ops Q i K a w := by
  unfold wpOp
  have hw : Region.wanted o (yielded ops a.tmps) = true := by simp [Region.wanted, hg]
  simp only [hi, hw, if_true]
  refine .inl ?_
  unfold Oper.wp
  rw [hr]
  exact h
theorem wpOp_skip {P : Program} {ops : Array Oper} {Q : Exit → Act → World → Prop} {K : Act → World → Prop} {i : Nat} {o : Oper} {a : Act} {w w1 : World} (hi : ops[i]? = some o) (hg : o.guard = none)
    (hr : (execOp a.eval o).run P w = .ok .skip w1) (h : K (a.put o.dst undef) w1) : wpOp P ops Q i K a w := by
  unfold wpOp
  have hw : Region.wanted o (yielded ops a.tmps) = true := by simp [Region.wanted, hg]
  simp only [hi, hw, if_true]
  refine .inl ?_
  unfold Oper.wp
  rw [hr]
  exact h

theorem eval_same {a : Act} {t : Tmp} {v : Value} (h : t < a.tmps.size) : (a.put (some t) v).eval (.tmp t) = v := by
  simp [Act.eval, Act.put, h]
theorem eval_ne {a : Act} {t s : Tmp} {v : Value} (h : t ≠ s) : (a.put (some s) v).eval (.tmp t) = a.eval (.tmp t) :=
  Act.eval_put fun d hd he => h (by injection hd with hd; injection he with he; rw [he, hd])

/-- Two frames that differ in some slots alone. -/
structure Ag (ds : List Tmp) (A a : Act) : Prop where
  size : a.tmps.size = A.tmps.size
  defers : a.defers = A.defers
  at_ : ∀ t, t ∉ ds → a.tmps[t]? = A.tmps[t]?
theorem Ag.eval {ds : List Tmp} {A a : Act} (h : Ag ds A a) {t : Tmp} (ht : t ∉ ds) : a.eval (.tmp t) = A.eval (.tmp t) := by
  have := h.at_ t ht
  simp only [Act.eval, Array.getD_eq_getD_getElem?, this]
theorem Ag.put {ds : List Tmp} {A a : Act} (h : Ag ds A a) {t : Tmp} (ht : t ∈ ds) (v : Value) : Ag ds A (a.put (some t) v) :=
  ⟨by simp [Act.put, h.size], h.defers, fun s hs => by
    have hne : t ≠ s := fun e => hs (e ▸ ht)
    simp only [Act.put, Array.getElem?_setIfInBounds_ne hne]
    exact h.at_ s hs⟩

theorem puts_at {a : Act} : ∀ (ds : List Tmp) (b : Act) (t : Tmp), b.tmps.size = a.tmps.size → (ds.foldl (fun b t => b.put (some t) (a.eval (.tmp t))) b).tmps[t]? = if t ∈ ds then a.tmps[t]? else b.tmps[t]? := by
  intro ds
  induction ds with
  | nil => intro b t _; simp
  | cons s ds ih =>
    intro b t hb
    rw [List.foldl_cons, ih _ t (by simpa [Act.put] using hb)]
    by_cases ht : t ∈ ds
    · rw [if_pos ht, if_pos (List.mem_cons_of_mem _ ht)]
    · rw [if_neg ht]
      by_cases hs : t = s
      · subst hs
        rw [if_pos List.mem_cons_self]
        simp only [Act.put, Act.eval]
        rcases Nat.lt_or_ge t a.tmps.size with h | h
        · simp [h, hb]
        · rw [Array.getElem?_setIfInBounds_self, if_neg (by omega), Array.getElem?_eq_none h]
      · rw [if_neg (by simp [hs, ht])]
        simp only [Act.put, Array.getElem?_setIfInBounds_ne (Ne.symm hs)]
/-- The frame written out. -/
theorem Ag.form {ds : List Tmp} {A a : Act} (h : Ag ds A a) : a = ds.foldl (fun b t => b.put (some t) (a.eval (.tmp t))) A := by
  have hd : ∀ (ds : List Tmp) (b : Act), (ds.foldl (fun b t => b.put (some t) (a.eval (.tmp t))) b).defers = b.defers := by
    intro ds
    induction ds with
    | nil => intro b; rfl
    | cons s ds ih => intro b; rw [List.foldl_cons, ih]; rfl
  have ht : a.tmps = (ds.foldl (fun b t => b.put (some t) (a.eval (.tmp t))) A).tmps := by
    apply Array.ext_getElem?
    intro t
    rw [puts_at ds A t h.size.symm]
    split
    · rfl
    · exact h.at_ t ‹_›
  cases a with
  | mk x y =>
    have hde := hd ds A
    have h2 := h.defers
    generalize hX : (ds.foldl (fun b t => b.put (some t) (Act.eval ⟨x, y⟩ (.tmp t))) A) = X at *
    cases X with
    | mk u v =>
      simp only at ht hde h2
      rw [ht, h2, ← hde]

/-- A chain: load a field of the block P, make a row of one element, append, store the field. -/
structure Chn where
  il : Nat
  ib : Nat
  ia : Nat
  is : Nat
  tl : Tmp
  tb : Tmp
  ta : Tmp
  ts : TypeId
  te : TypeId
  z : Value
  bytes : Nat
  K : Value → Prop
  v0 : Value
  item : Value
  n : Nat
  xs : List Value

/-- An operation that yields a value whatever the world. -/
structure Pur where
  j : Nat
  t : Tmp
  v : Value

/-- The operation o waits for number j. -/
def waits (o : Oper) (j : Nat) : Bool := o.after.any fun e => Region.binds .any e && e.on == j
theorem waits_spec {o : Oper} {j : Nat} (h : waits o j = true) : ∃ e ∈ o.after, Region.binds .any e = true ∧ e.on = j := by
  obtain ⟨e, he, hb⟩ := Array.any_eq_true'.1 h
  simp only [Bool.and_eq_true, beq_iff_eq] at hb
  exact ⟨e, he, hb⟩

/-- The values of those that the operation o waits for are known. -/
def Known (pu : List Pur) (o : Oper) (a : Act) : Prop := ∀ u ∈ pu, waits o u.j = true → a.eval (.tmp u.t) = u.v

def PurOk (Pg : Program) (ops : Array Oper) (ds : List Tmp) (A : Act) (pu : List Pur) (u : Pur) : Prop :=
  ∃ o, ops[u.j]? = some o ∧ o.dst = some u.t ∧ o.guard = none ∧ u.t ∈ ds ∧ u.t < A.tmps.size ∧ ∀ (o' : Oper), o'.op = o.op → ∀ (a : Act) (w : World), Ag ds A a → Known pu o a → (execOp a.eval o').run Pg w = .ok (.value u.v) w

/-- What its operations are. -/
structure ChnOk (Pg : Program) (ops : Array Oper) (P f : Nat) (ds : List Tmp) (A : Act) (pu : List Pur) (d : Chn) : Prop where
  ml : d.tl ∈ ds
  mb : d.tb ∈ ds
  ma : d.ta ∈ ds
  lt : ∀ t ∈ [d.tl, d.tb, d.ta], t < A.tmps.size
  nt : d.tl ≠ d.tb ∧ d.tl ≠ d.ta ∧ d.tb ≠ d.ta
  ni : d.il ≠ d.ib ∧ d.il ≠ d.ia ∧ d.il ≠ d.is ∧ d.ib ≠ d.ia ∧ d.ib ≠ d.is ∧ d.ia ≠ d.is
  load : ∃ o, ops[d.il]? = some o ∧ o.dst = some d.tl ∧ o.guard = none ∧ ∀ (o' : Oper), o'.op = o.op → ∀ (a : Act) (w : World) (v : Value), Ag ds A a → w.cell? ⟨P, f, none⟩ = some v → (execOp a.eval o').run Pg w = .ok (.value v) w
  build : ∃ o, ops[d.ib]? = some o ∧ o.dst = some d.tb ∧ o.guard = none ∧ ∀ (o' : Oper), o'.op = o.op → ∀ (a : Act) (w : World), Ag ds A a → (execOp a.eval o').run Pg w = .ok (.value (.slice (some ⟨w.heap.size, 0, none⟩) 1 1)) (w.alloc (.cells #[d.item] d.te))
  app : ∃ o, ops[d.ia]? = some o ∧ o.dst = some d.ta ∧ o.guard = none ∧ waits o d.il = true ∧ waits o d.ib = true ∧
    o.op = .call { callee := .builtin .append, args := #[.tmp d.tl, .tmp d.tb], argTypes := #[d.ts, d.ts] }
  store : ∃ o, ops[d.is]? = some o ∧ o.dst = none ∧ o.guard = none ∧ waits o d.ia = true ∧
    ∀ (o' : Oper), o'.op = o.op → ∀ (a : Act) (w : World) (v u : Value), Ag ds A a → Known pu o a → w.cell? ⟨P, f, none⟩ = some u → w.frozen? ⟨P, f, none⟩ = false → IsSl v → a.eval (.tmp d.ta) = v → (execOp a.eval o').run Pg w = .ok .skip (w.setCell ⟨P, f, none⟩ v)
  und : Pg.underlying d.ts = some (.slice d.te)
  info : (Pg.info? d.te).map (fun i => (i.zero, i.size, i.bytes)) = some (some d.z, 1, d.bytes)
  zs : d.z.cells.size = 1
  zK : ∀ c ∈ d.z.cells, d.K c
  item1 : d.item.oneCell' = true
  itemK : d.K d.item
  room : (d.n + 1) * d.bytes ≤ 140737488355328
  roomN : d.n + 1 ≤ maxLen

/-- How far a chain is. -/
structure Ch (d : Chn) (base : Nat) (l : Array Bool) (a : Act) (T : Nat → Prop) (w : World) : Prop where
  tm : l.getD d.is true = true → l.getD d.ia true = true
  td : l.getD d.ia true = true → l.getD d.il true = true ∧ l.getD d.ib true = true
  ld : l.getD d.il true = true → a.eval (.tmp d.tl) = d.v0
  bd : l.getD d.ib true = true → l.getD d.ia true = false → ∃ B, a.eval (.tmp d.tb) = .slice (some ⟨B, 0, none⟩) 1 1 ∧ w.cell? ⟨B, 0, none⟩ = some d.item ∧ T B
  o0 : l.getD d.ia true = false → Own d.K w base d.te 1 d.v0 d.n d.xs ∧ ∀ g, d.v0.ownBlock = some g → T g
  o1 : l.getD d.ia true = true → Own d.K w base d.te 1 (a.eval (.tmp d.ta)) (d.n + 1) (d.xs ++ [d.item]) ∧ ∀ g, (a.eval (.tmp d.ta)).ownBlock = some g → T g

theorem Ch.keep {d : Chn} {base : Nat} {l l' : Array Bool} {a a' : Act} {T : Nat → Prop} {w w' : World} (h : Ch d base l a T w) (hl : ∀ x ∈ [d.il, d.ib, d.ia, d.is], l'.getD x true = l.getD x true)
    (ha : ∀ t ∈ [d.tl, d.tb, d.ta], a'.eval (.tmp t) = a.eval (.tmp t)) (hw : ∀ b, T b → w'.heap[b]? = w.heap[b]?) : Ch d base l' a' T w' := by
  have e1 := hl d.il (by simp)
  have e2 := hl d.ib (by simp)
  have e3 := hl d.ia (by simp)
  have e4 := hl d.is (by simp)
  have f1 := ha d.tl (by simp)
  have f2 := ha d.tb (by simp)
  have f3 := ha d.ta (by simp)
  refine ⟨by rw [e4, e3]; exact h.tm, by rw [e1, e2, e3]; exact h.td, by rw [e1, f1]; exact h.ld, ?_, ?_, ?_⟩
  · rw [e2, e3, f2]
    intro x1 x2
    obtain ⟨B, b1, b2, b3⟩ := h.bd x1 x2
    exact ⟨B, b1, (World.cell?_of_block (a := ⟨B, 0, none⟩) (hw B b3)).trans b2, b3⟩
  · rw [e3]; intro x
    obtain ⟨o1, o2⟩ := h.o0 x
    exact ⟨o1.same fun g hg => hw g (o2 g hg), o2⟩
  · rw [e3, f3]; intro x
    obtain ⟨o1, o2⟩ := h.o1 x
    exact ⟨o1.same fun g hg => hw g (o2 g hg), o2⟩

def cur (d : Chn) (l : Array Bool) (a : Act) : Value := if l.getD d.is true then a.eval (.tmp d.ta) else d.v0

/-- How far the region is. -/
structure Inv3 (ops : Array Oper) (P lo tsp base : Nat) (ds : List Tmp) (A : Act) (W : World) (pu : List Pur) (C : Fin 3 → Chn) (l : Array Bool) (a : Act) (w : World) : Prop where
  sz : l.size = ops.size
  rest : ∀ j, j < ops.size → l.getD j true = false → (∃ c, j = (C c).il ∨ j = (C c).ib ∨ j = (C c).ia ∨ j = (C c).is) ∨ ∃ u ∈ pu, j = u.j
  pur : ∀ u ∈ pu, l.getD u.j true = true → a.eval (.tmp u.t) = u.v
  ag : Ag ds A a
  ch : ∃ T : Fin 3 → Nat → Prop, (∀ c, Ch (C c) base l a (T c) w) ∧ (∀ c d, c ≠ d → ∀ b, T c b → ¬ T d b) ∧ (∀ c b, T c b → b ≠ P ∧ base ≤ b ∧ b < w.heap.size ∧ (b < W.heap.size → (C c).v0.ownBlock = some b))
  own : Own IsSl w lo tsp 3 (.slice (some ⟨P, 0, none⟩) 1 1) 1 [cur (C 0) l a, cur (C 1) l a, cur (C 2) l a]
  fr : Fr (fun b => b = P ∨ ∃ c, (C c).v0.ownBlock = some b) W w

/-- Chains that share no number of an operation and no slot. -/
structure Apart3 (pu : List Pur) (C : Fin 3 → Chn) : Prop where
  pi : ∀ c, ∀ u ∈ pu, u.j ∉ [(C c).il, (C c).ib, (C c).ia, (C c).is]
  pt : ∀ c, ∀ u ∈ pu, u.t ∉ [(C c).tl, (C c).tb, (C c).ta]
  pj : ∀ u ∈ pu, ∀ u' ∈ pu, u.j = u'.j → u = u'
  ps : ∀ u ∈ pu, ∀ u' ∈ pu, u.t = u'.t → u = u'
  i : ∀ c d, c ≠ d → ∀ x ∈ [(C c).il, (C c).ib, (C c).ia, (C c).is], x ∉ [(C d).il, (C d).ib, (C d).ia, (C d).is]
  t : ∀ c d, c ≠ d → ∀ x ∈ [(C c).tl, (C c).tb, (C c).ta], x ∉ [(C d).tl, (C d).tb, (C d).ta]

theorem getD_at {l : Array Bool} {i : Nat} : (l.setIfInBounds i true).getD i true = true := by
  rcases Nat.lt_or_ge i l.size with h | h
  · simp [h]
  · simp [Array.getElem?_eq_none h]

theorem Inv3.step {ops : Array Oper} {P lo tsp base : Nat} {ds : List Tmp} {A : Act} {W : World} {pu : List Pur} {C : Fin 3 → Chn} {l : Array Bool} {a a' : Act} {w w' : World} (hap : Apart3 pu C) (h : Inv3 ops P lo tsp base ds A W pu C l a w)
    (T : Fin 3 → Nat → Prop) (t1 : ∀ c, Ch (C c) base l a (T c) w) (t2 : ∀ c d, c ≠ d → ∀ b, T c b → ¬ T d b) (t3 : ∀ c b, T c b → b ≠ P ∧ base ≤ b ∧ b < w.heap.size ∧ (b < W.heap.size → (C c).v0.ownBlock = some b))
    (hPs : P < w.heap.size) (hbase : base ≤ w.heap.size)
    (c : Fin 3) {i : Nat} (hi : i ∈ [(C c).il, (C c).ib, (C c).ia, (C c).is]) (ha : Ag ds A a') (he : ∀ t, t ∉ [(C c).tl, (C c).tb, (C c).ta] → a'.eval (.tmp t) = a.eval (.tmp t)) (hf : Fr (fun b => b = P ∨ T c b) w w')
    (T' : Nat → Prop) (hc : Ch (C c) base (l.setIfInBounds i true) a' T' w') (hT : ∀ b, T' b → b < w'.heap.size ∧ (T c b ∨ w.heap.size ≤ b))
    (ho : Own IsSl w' lo tsp 3 (.slice (some ⟨P, 0, none⟩) 1 1) 1 [cur (C 0) (l.setIfInBounds i true) a', cur (C 1) (l.setIfInBounds i true) a', cur (C 2) (l.setIfInBounds i true) a']) :
    Inv3 ops P lo tsp base ds A W pu C (l.setIfInBounds i true) a' w' := by
  refine ⟨by simp [h.sz], fun j hj hl => ?_, fun u hu hl => ?_, ha, ⟨fun d b => if d = c then T' b else T d b, fun d => ?_, fun d d' hd b hb hb' => ?_, fun d b hb => ?_⟩, ho, h.fr.trans' hf fun j hj hTj => ?_⟩
  · refine h.rest j hj ?_
    by_cases hji : i = j
    · subst hji; rw [getD_at] at hl; cases hl
    · rw [getD_set_ne true hji] at hl; exact hl
  · rw [he _ (hap.pt c u hu)]
    refine h.pur u hu ?_
    rw [getD_set_ne true (fun e => hap.pi c u hu (by rw [← e]; exact hi))] at hl
    exact hl
  · by_cases hdc : d = c
    · subst hdc
      simp only [if_true]
      exact hc
    · simp only [if_neg hdc]
      refine (t1 d).keep (fun x hx => getD_set_ne true fun e => ?_) (fun t ht => he t fun hm => hap.t d c hdc t ht hm) fun b hb => ?_
      · exact hap.i c d (Ne.symm hdc) i hi (e ▸ hx)
      · obtain ⟨k1, k2, k3, k4⟩ := t3 d b hb
        exact hf.block b k3 fun hn => hn.elim k1 fun hn => t2 d c hdc b hb hn
  · simp only at hb hb'
    by_cases hdc : d = c
    · subst hdc
      rw [if_pos rfl] at hb
      rw [if_neg (Ne.symm hd)] at hb'
      rcases (hT b hb).2 with k | k
      · exact t2 _ _ hd b k hb'
      · have := (t3 d' b hb').2.2.1; omega
    · rw [if_neg hdc] at hb
      by_cases hdc' : d' = c
      · subst hdc'
        rw [if_pos rfl] at hb'
        rcases (hT b hb').2 with k | k
        · exact t2 _ _ hd b hb k
        · have := (t3 d b hb).2.2.1; omega
      · rw [if_neg hdc'] at hb'
        exact t2 _ _ hd b hb hb'
  · simp only at hb
    by_cases hdc : d = c
    · subst hdc
      rw [if_pos rfl] at hb
      obtain ⟨k1, k2⟩ := hT b hb
      have hs := h.fr.size
      rcases k2 with k | k
      · obtain ⟨m1, m2, m3, m4⟩ := t3 d b k
        exact ⟨m1, m2, k1, m4⟩
      · exact ⟨by omega, by omega, k1, fun hlt => by omega⟩
    · rw [if_neg hdc] at hb
      obtain ⟨m1, m2, m3, m4⟩ := t3 d b hb
      exact ⟨m1, m2, Nat.lt_of_lt_of_le m3 hf.size, m4⟩
  · rcases hTj with rfl | hTj
    · exact .inl rfl
    · exact .inr ⟨c, (t3 c j hTj).2.2.2 hj⟩

theorem Inv3.pstep {ops : Array Oper} {P lo tsp base : Nat} {ds : List Tmp} {A : Act} {W : World} {pu : List Pur} {C : Fin 3 → Chn} {l : Array Bool} {a : Act} {w : World} (hap : Apart3 pu C) (h : Inv3 ops P lo tsp base ds A W pu C l a w)
    (u : Pur) (hu : u ∈ pu) (ht : u.t ∈ ds) (hlt : u.t < a.tmps.size) : Inv3 ops P lo tsp base ds A W pu C (l.setIfInBounds u.j true) (a.put (some u.t) u.v) w := by
  obtain ⟨T, t1, t2, t3⟩ := h.ch
  have ev : ∀ c, ∀ t ∈ [(C c).tl, (C c).tb, (C c).ta], (a.put (some u.t) u.v).eval (.tmp t) = a.eval (.tmp t) := fun c t htc => eval_ne fun e => hap.pt c u hu (e ▸ htc)
  have fl : ∀ c, ∀ x ∈ [(C c).il, (C c).ib, (C c).ia, (C c).is], (l.setIfInBounds u.j true).getD x true = l.getD x true := fun c x hx => getD_set_ne true fun e => hap.pi c u hu (e ▸ hx)
  have hcur : ∀ c, cur (C c) (l.setIfInBounds u.j true) (a.put (some u.t) u.v) = cur (C c) l a := fun c => by
    unfold cur; rw [fl c _ (by simp), ev c _ (by simp)]
  refine ⟨by simp [h.sz], fun j hj hl => ?_, fun u' hu' hl => ?_, h.ag.put ht _, ⟨T, fun d => (t1 d).keep (fl d) (ev d) fun _ _ => rfl, t2, t3⟩, ?_, h.fr⟩
  · refine h.rest j hj ?_
    by_cases hji : u.j = j
    · subst hji; rw [getD_at] at hl; cases hl
    · rw [getD_set_ne true hji] at hl; exact hl
  · by_cases hjj : u.j = u'.j
    · obtain rfl := hap.pj u hu u' hu' hjj
      exact eval_same hlt
    · rw [getD_set_ne true hjj] at hl
      rw [eval_ne (fun e => hjj (by rw [hap.ps u hu u' hu' e.symm]))]
      exact h.pur u' hu' hl
  · rw [hcur, hcur, hcur]; exact h.own

theorem Own.cells3 {w : World} {lo tsp P : Nat} {x y z : Value} (h : Own IsSl w lo tsp 3 (.slice (some ⟨P, 0, none⟩) 1 1) 1 [x, y, z]) (c : Fin 3) : w.cell? ⟨P, c, none⟩ = [x, y, z][c.val]? ∧ w.frozen? ⟨P, c, none⟩ = false :=
  ⟨h.1.cellAt _ (by omega), h.1.frozenAt _⟩

theorem Own.isSl {K : Value → Prop} {w : World} {base : Nat} {e : TypeId} {size : Nat} {v : Value} {n : Nat} {xs : List Value} (h : Own K w base e size v n xs) : IsSl v := by
  rcases h.1.2 with ⟨rfl, _⟩ | ⟨g, cap, cur, rfl, _⟩
  · exact ⟨_, _, _, rfl⟩
  · exact ⟨_, _, _, rfl⟩

/-- Each operation waits for those ahead of it alone. -/
def aheadB (ops : Array Oper) : Bool := (List.range ops.size).all fun i => match ops[i]? with | some o => o.after.all (fun e => !Region.binds .any e || decide (e.on < i)) | none => true

theorem all_listed {ops : Array Oper} {l : Array Bool} (hs : l.size = ops.size) (ha : aheadB ops = true) (hr : Region.ready .any ops l = []) : ∀ i, i < ops.size → l.getD i true = true := by
  intro i
  induction i using Nat.strongRecOn with
  | ind i ih =>
    intro hi
    cases hl : l.getD i true with
    | true => rfl
    | false =>
      have hm : i ∈ Region.ready .any ops l := by
        rw [mem_ready]
        refine ⟨hl, ops[i], by simp [hi], fun e he hbn => ?_⟩
        unfold aheadB at ha
        rw [List.all_eq_true] at ha
        have h1 := ha i (List.mem_range.2 hi)
        simp only [Array.getElem?_eq_getElem hi, Array.all_eq_true_iff_forall_mem] at h1
        have h2 : e.on < i := by
          have h1e := h1 e he
          rw [hbn] at h1e
          simpa using h1e
        have h3 := ih e.on h2 (by omega)
        have hlt : e.on < l.size := by omega
        simpa [hlt] using h3
      rw [hr] at hm
      cases hm

theorem listed_of {l : Array Bool} {i : Nat} (h : l.getD i false = true) : l.getD i true = true := by
  rcases Nat.lt_or_ge i l.size with h' | h'
  · simpa [h'] using h
  · simp [Array.getElem?_eq_none h'] at h

set_option maxHeartbeats 2000000 in
theorem three_chains {Pg : Program} {ops : Array Oper} {Q : Exit → Act → World → Prop} {P lo tsp base : Nat} {ds : List Tmp} {A : Act} {W : World} {pu : List Pur} {C : Fin 3 → Chn} (hap : Apart3 pu C) (hok : ∀ c : Fin 3, ChnOk Pg ops P c ds A pu (C c)) (hpu : ∀ u ∈ pu, PurOk Pg ops ds A pu u)
    (hbase : base ≤ W.heap.size) (hP : P < W.heap.size) (hah : aheadB ops = true)
    (hQ : ∀ a w, Ag ds A a → (∀ c, Own (C c).K w base (C c).te 1 (a.eval (.tmp (C c).ta)) ((C c).n + 1) ((C c).xs ++ [(C c).item])) →
      (∀ c d, c ≠ d → ∀ g, (a.eval (.tmp (C c).ta)).ownBlock = some g → (a.eval (.tmp (C d).ta)).ownBlock ≠ some g) → (∀ c g, (a.eval (.tmp (C c).ta)).ownBlock = some g → g ≠ P ∧ (g < W.heap.size → (C c).v0.ownBlock = some g)) →
      Own IsSl w lo tsp 3 (.slice (some ⟨P, 0, none⟩) 1 1) 1 [a.eval (.tmp (C 0).ta), a.eval (.tmp (C 1).ta), a.eval (.tmp (C 2).ta)] → Fr (fun b => b = P ∨ ∃ c, (C c).v0.ownBlock = some b) W w → Q .normal a w) :
    ∀ (fuel : Nat) (l : Array Bool) (a : Act) (w : World), Inv3 ops P lo tsp base ds A W pu C l a w → l.toList.countP (fun b => !b) ≤ fuel → wpAny Pg .any ops Q fuel l a w := by
  refine wpAny_inv (Inv3 ops P lo tsp base ds A W pu C) ?_ ?_
  · intro l a w h hr
    have hl := all_listed h.sz hah hr
    have hin : ∀ c, (C c).ia < ops.size ∧ (C c).is < ops.size := fun c => by
      obtain ⟨_, k1, _⟩ := (hok c).app
      obtain ⟨_, k2, _⟩ := (hok c).store
      exact ⟨(Array.getElem?_eq_some_iff.1 k1).1, (Array.getElem?_eq_some_iff.1 k2).1⟩
    obtain ⟨T, t1, t2, t3⟩ := h.ch
    have hcur : ∀ c, cur (C c) l a = a.eval (.tmp (C c).ta) := fun c => by unfold cur; rw [hl _ (hin c).2]; rfl
    have ho := h.own
    rw [hcur, hcur, hcur] at ho
    refine hQ a w h.ag (fun c => ((t1 c).o1 (hl _ (hin c).1)).1) (fun c d hcd g hg hg' => ?_) (fun c g hg => ?_) ho h.fr
    · exact t2 c d hcd g (((t1 c).o1 (hl _ (hin c).1)).2 g hg) (((t1 d).o1 (hl _ (hin d).1)).2 g hg')
    · obtain ⟨m1, _, _, m4⟩ := t3 c g (((t1 c).o1 (hl _ (hin c).1)).2 g hg)
      exact ⟨m1, m4⟩
  · intro l a w h i hi
    obtain ⟨hun, o, ho, hdep⟩ := mem_ready.1 hi
    obtain ⟨T, t1, t2, t3⟩ := h.ch
    have hPs : P < w.heap.size := Nat.lt_of_lt_of_le hP h.fr.size
    have hbs : base ≤ w.heap.size := Nat.le_trans hbase h.fr.size
    have hcell : ∀ c : Fin 3, w.cell? ⟨P, c, none⟩ = some (cur (C c) l a) ∧ w.frozen? ⟨P, c, none⟩ = false := fun c => by
      obtain ⟨x1, x2⟩ := h.own.cells3 c
      refine ⟨x1.trans ?_, x2⟩
      match c with
      | 0 => rfl
      | 1 => rfl
      | 2 => rfl
    have hkn : Known pu o a := fun u hu hwt => h.pur u hu (by
      obtain ⟨e, he, hb, hon⟩ := waits_spec hwt
      have := hdep e he hb
      rw [hon] at this
      exact listed_of this)
    rcases h.rest i (Array.getElem?_eq_some_iff.1 ho).1 hun with ⟨c, hc⟩ | ⟨u, hu, rfl⟩
    case inr =>
      obtain ⟨o', ho', du, gu, tu, su, ru⟩ := hpu u hu
      rw [ho] at ho'
      injection ho' with ho'
      subst ho'
      refine wpOp_run ho gu (ru _ rfl a w h.ag hkn) ?_
      rw [du]
      exact h.pstep hap u hu tu (by rw [h.ag.size]; exact su)
    obtain ⟨n1, n2, n3, n4, n5, n6⟩ := (hok c).ni
    obtain ⟨p1, p2, p3⟩ := (hok c).nt
    have hk := t1 c
    have curs : ∀ (a' : Act) (j : Nat), j ∈ [(C c).il, (C c).ib, (C c).ia, (C c).is] → (∀ t, t ∉ [(C c).tl, (C c).tb, (C c).ta] → a'.eval (.tmp t) = a.eval (.tmp t)) → ∀ d, d ≠ c → cur (C d) (l.setIfInBounds j true) a' = cur (C d) l a := fun a' j hj he d hd => by
      unfold cur
      rw [getD_set_ne true (fun e => hap.i c d (Ne.symm hd) j hj (by rw [e]; simp)), he _ (hap.t d c hd _ (by simp))]
    have owns : ∀ (a' : Act) (j : Nat) (w' : World), j ∈ [(C c).il, (C c).ib, (C c).ia, (C c).is] → (∀ t, t ∉ [(C c).tl, (C c).tb, (C c).ta] → a'.eval (.tmp t) = a.eval (.tmp t)) → cur (C c) (l.setIfInBounds j true) a' = cur (C c) l a → w'.heap[P]? = w.heap[P]? →
        Own IsSl w' lo tsp 3 (.slice (some ⟨P, 0, none⟩) 1 1) 1 [cur (C 0) (l.setIfInBounds j true) a', cur (C 1) (l.setIfInBounds j true) a', cur (C 2) (l.setIfInBounds j true) a'] := fun a' j w' hj he hcc hw => by
      have e : ∀ d, cur (C d) (l.setIfInBounds j true) a' = cur (C d) l a := fun d => by
        by_cases hd : d = c
        · subst hd; exact hcc
        · exact curs a' j hj he d hd
      rw [e, e, e]
      exact h.own.same fun g hg => by
        simp only [Value.ownBlock, Option.some.injEq] at hg
        subst hg; exact hw
    have hne : ∀ (t : Tmp) (s : Tmp) (v : Value), s ∈ [(C c).tl, (C c).tb, (C c).ta] → t ∉ [(C c).tl, (C c).tb, (C c).ta] → (a.put (some s) v).eval (.tmp t) = a.eval (.tmp t) := fun t s v hs ht => eval_ne fun e => ht (e ▸ hs)
    have hsz : ∀ t ∈ [(C c).tl, (C c).tb, (C c).ta], t < a.tmps.size := fun t ht => by rw [h.ag.size]; exact (hok c).lt t ht
    rcases hc with rfl | rfl | rfl | rfl
    · have fa : l.getD (C c).ia true = false := by
        cases hf : l.getD (C c).ia true with
        | false => rfl
        | true => rw [(hk.td hf).1] at hun; cases hun
      have fs : l.getD (C c).is true = false := by
        cases hf : l.getD (C c).is true with
        | false => rfl
        | true => rw [hk.tm hf] at fa; cases fa
      have hcv : cur (C c) l a = (C c).v0 := by unfold cur; rw [fs]; rfl
      have hl1 := (hcell c).1
      rw [hcv] at hl1
      obtain ⟨ol, hol, dl, gl, hload⟩ := (hok c).load
      refine wpOp_run hol gl (hload _ rfl a w _ h.ag hl1) ?_
      rw [dl]
      refine h.step hap T t1 t2 t3 hPs hbs c (i := (C c).il) (by simp) (h.ag.put (hok c).ml _) (fun t ht => hne t _ _ (by simp) ht) (Fr.refl _ _) (T c) ?_ (fun b hb => ⟨(t3 c b hb).2.2.1, .inl hb⟩) (owns _ _ _ (by simp) (fun t ht => hne t _ _ (by simp) ht) ?_ rfl)
      · refine ⟨?_, ?_, ?_, ?_, ?_, ?_⟩
        · rw [getD_set_ne true n3, getD_set_ne true n2]; exact hk.tm
        · rw [getD_set_ne true n2, fa]; intro e; cases e
        · intro _; exact eval_same (hsz _ (by simp))
        · rw [getD_set_ne true n1, getD_set_ne true n2, eval_ne (Ne.symm p1)]; exact hk.bd
        · rw [getD_set_ne true n2]; exact hk.o0
        · rw [getD_set_ne true n2, fa]; intro e; cases e
      · unfold cur; rw [getD_set_ne true n3, fs]; rfl
    · have fa : l.getD (C c).ia true = false := by
        cases hf : l.getD (C c).ia true with
        | false => rfl
        | true => rw [(hk.td hf).2] at hun; cases hun
      have fs : l.getD (C c).is true = false := by
        cases hf : l.getD (C c).is true with
        | false => rfl
        | true => rw [hk.tm hf] at fa; cases fa
      obtain ⟨ob, hob, db, gb, hbuild⟩ := (hok c).build
      refine wpOp_run hob gb (hbuild _ rfl a w h.ag) ?_
      rw [db]
      have hb := below_alloc (w := w) (.cells #[(C c).item] (C c).te)
      refine h.step hap T t1 t2 t3 hPs hbs c (i := (C c).ib) (by simp) (h.ag.put (hok c).mb _) (fun t ht => hne t _ _ (by simp) ht) (below_fr hb _) (fun b => T c b ∨ b = w.heap.size) ?_ (fun b hb' => ?_) (owns _ _ _ (by simp) (fun t ht => hne t _ _ (by simp) ht) ?_ (hb.block P hPs))
      · refine ⟨?_, ?_, ?_, ?_, ?_, ?_⟩
        · rw [getD_set_ne true n5, getD_set_ne true n4]; exact hk.tm
        · rw [getD_set_ne true n4, fa]; intro e; cases e
        · rw [getD_set_ne true (Ne.symm n1), eval_ne p1]; exact hk.ld
        · intro _ _
          exact ⟨w.heap.size, eval_same (hsz _ (by simp)), World.cell?_alloc_at _ _ _ _ rfl, .inr rfl⟩
        · intro _
          obtain ⟨k1, k2⟩ := hk.o0 fa
          exact ⟨k1.new _, fun g hg => .inl (k2 g hg)⟩
        · rw [getD_set_ne true n4, fa]; intro e; cases e
      · rcases hb' with hb' | rfl
        · exact ⟨Nat.lt_of_lt_of_le (t3 c b hb').2.2.1 hb.size, .inl hb'⟩
        · exact ⟨by simp, .inr (Nat.le_refl _)⟩
      · unfold cur; rw [getD_set_ne true n5, fs]; rfl
    · obtain ⟨oa, hoa, da, ga, el, eb, opa⟩ := (hok c).app
      have hil : l.getD (C c).il true = true := by
        obtain ⟨e, he, hb, hon⟩ := waits_spec el
        rw [hoa] at ho
        injection ho with ho
        subst ho
        have := hdep e he hb
        rw [hon] at this
        exact listed_of this
      have hib : l.getD (C c).ib true = true := by
        obtain ⟨e, he, hb, hon⟩ := waits_spec eb
        rw [hoa] at ho
        injection ho with ho
        subst ho
        have := hdep e he hb
        rw [hon] at this
        exact listed_of this
      have fs : l.getD (C c).is true = false := by
        cases hf : l.getD (C c).is true with
        | false => rfl
        | true => rw [hk.tm hf] at hun; cases hun
      obtain ⟨o1, o2⟩ := hk.o0 hun
      obtain ⟨B, b1, b2, b3⟩ := hk.bd hib hun
      have e1 := hk.ld hil
      obtain ⟨ti, hti, hz0, hszz, hby⟩ := info_parts (hok c).info
      obtain ⟨v', w', hrun, q1, q2, q3⟩ := o1.append (P := Pg) (C c).ts oa.type ti (C c).z (C c).bytes (hok c).und hti hz0 hszz hby (hok c).zs (by decide) (hok c).zK ⟨B, 0, none⟩ 1 1 [(C c).item] rfl
        (by
          intro j u hu
          rw [Addr.add_lit, Nat.zero_add]
          rcases j with _ | j
          · simp at hu; subst hu; exact b2
          · simp at hu)
        (by intro u hu; rw [List.mem_singleton] at hu; subst hu; exact (hok c).item1)
        (by intro u hu; rw [List.mem_singleton] at hu; subst hu; exact (hok c).itemK)
        (by decide) (hok c).roomN (hok c).room hbs
      have hx : (execOp a.eval oa).run Pg w = .ok (.value v') w' := by
        unfold execOp
        simp only [opa, resolve, invoke, builtin, Sem.run_bind, Sem.run_pure, Result.andThen_ok, List.map_toArray, List.map_cons, List.map_nil, e1, b1, hrun]
      refine wpOp_run hoa ga hx ?_
      rw [da]
      have hfr : Fr (fun b => b = P ∨ T c b) w w' := grown_fr q2 fun g hg => .inr (o2 g hg)
      have hPw : w'.heap[P]? = w.heap[P]? := q2.block P hPs fun e => by
        have := (t3 c P (o2 P e.symm)).1
        exact this rfl
      refine h.step hap T t1 t2 t3 hPs hbs c (i := (C c).ia) (by simp) (h.ag.put (hok c).ma _) (fun t ht => hne t _ _ (by simp) ht) hfr (fun b => v'.ownBlock = some b) ?_ (fun b hb' => ⟨(q1.lt hb').2, ?_⟩) (owns _ _ _ (by simp) (fun t ht => hne t _ _ (by simp) ht) ?_ hPw)
      · refine ⟨?_, ?_, ?_, ?_, ?_, ?_⟩
        · rw [getD_set_ne true n6, fs]; intro e; cases e
        · intro _; rw [getD_set_ne true (Ne.symm n2), getD_set_ne true (Ne.symm n4)]; exact ⟨hil, hib⟩
        · rw [getD_set_ne true (Ne.symm n2), eval_ne p2]; exact hk.ld
        · rw [getD_at]; intro _ e; cases e
        · rw [getD_at]; intro e; cases e
        · intro _; rw [eval_same (hsz _ (by simp))]; exact ⟨q1, fun g hg => hg⟩
      · rcases q3 with q3 | q3
        · exact .inl (o2 b (q3 ▸ hb'))
        · rw [q3] at hb'; injection hb' with hb'; exact .inr (by omega)
      · unfold cur; rw [getD_set_ne true n6, fs]; rfl
    · obtain ⟨os, hos, dss, gs, es, hstore⟩ := (hok c).store
      have hia : l.getD (C c).ia true = true := by
        obtain ⟨e, he, hb, hon⟩ := waits_spec es
        rw [hos] at ho
        injection ho with ho
        subst ho
        have := hdep e he hb
        rw [hon] at this
        exact listed_of this
      obtain ⟨o1, o2⟩ := hk.o1 hia
      obtain ⟨hc1, hc2⟩ := hcell c
      refine wpOp_skip hos gs (hstore _ rfl a w _ _ h.ag (by rw [hos] at ho; injection ho with ho; subst ho; exact hkn) hc1 hc2 o1.isSl rfl) ?_
      rw [dss]
      have hev : ∀ x, (a.put none undef).eval x = a.eval x := fun _ => rfl
      have hst := h.own.stored c.val (a.eval (.tmp (C c).ta)) o1.isSl
      have hfr : Fr (fun b => b = P ∨ T c b) w (w.setCell ⟨P, c, none⟩ (a.eval (.tmp (C c).ta))) := Fr.set w (p := ⟨P, c, none⟩) (.inl rfl) _
      refine h.step hap T t1 t2 t3 hPs hbs c (i := (C c).is) (by simp) (a' := a) h.ag (fun _ _ => rfl) hfr (T c) ?_ (fun b hb' => ⟨by simpa using (t3 c b hb').2.2.1, .inl hb'⟩) ?_
      · have hb0 : ∀ b, T c b → (w.setCell ⟨P, c, none⟩ (a.eval (.tmp (C c).ta))).heap[b]? = w.heap[b]? := fun b hb => Below.heap_setCell w ⟨P, c, none⟩ _ b (t3 c b hb).1
        refine ⟨?_, ?_, ?_, ?_, ?_, ?_⟩
        · intro _; rw [getD_set_ne true (Ne.symm n6)]; exact hia
        · rw [getD_set_ne true (Ne.symm n6), getD_set_ne true (Ne.symm n3), getD_set_ne true (Ne.symm n5)]; exact hk.td
        · rw [getD_set_ne true (Ne.symm n3)]; exact hk.ld
        · rw [getD_set_ne true (Ne.symm n6), hia]; intro _ e; cases e
        · rw [getD_set_ne true (Ne.symm n6), hia]; intro e; cases e
        · intro _; exact ⟨o1.same fun g hg => hb0 g (o2 g hg), o2⟩
      · have ecc : cur (C c) (l.setIfInBounds (C c).is true) a = a.eval (.tmp (C c).ta) := by unfold cur; rw [getD_at]; rfl
        have eo := curs a (C c).is (by simp) (fun _ _ => rfl)
        match c, hst, ecc, eo with
        | 0, hst, ecc, eo => rw [ecc, eo 1 (by decide), eo 2 (by decide)]; exact hst
        | 1, hst, ecc, eo => rw [ecc, eo 0 (by decide), eo 2 (by decide)]; exact hst
        | 2, hst, ecc, eo => rw [ecc, eo 0 (by decide), eo 1 (by decide)]; exact hst

def three (c0 c1 c2 : Chn) : Fin 3 → Chn
  | 0 => c0
  | 1 => c1
  | 2 => c2
def Chn.idx (c : Chn) : List Nat := [c.il, c.ib, c.ia, c.is]
def Chn.tmps (c : Chn) : List Tmp := [c.tl, c.tb, c.ta]

theorem Chn.idx_or {c : Chn} {j : Nat} (h : j ∈ c.idx) : j = c.il ∨ j = c.ib ∨ j = c.ia ∨ j = c.is := by
  simpa only [Chn.idx, List.mem_cons, List.not_mem_nil, or_false] using h

theorem three_apart {pu : List Pur} {c0 c1 c2 : Chn} (p0 : ∀ u ∈ pu, u.j ∉ c0.idx ∧ u.j ∉ c1.idx ∧ u.j ∉ c2.idx) (q0 : ∀ u ∈ pu, u.t ∉ c0.tmps ∧ u.t ∉ c1.tmps ∧ u.t ∉ c2.tmps) (pj : ∀ u ∈ pu, ∀ u' ∈ pu, u.j = u'.j → u = u') (ps : ∀ u ∈ pu, ∀ u' ∈ pu, u.t = u'.t → u = u') (h01 : ∀ x ∈ c0.idx, x ∉ c1.idx) (h02 : ∀ x ∈ c0.idx, x ∉ c2.idx) (h12 : ∀ x ∈ c1.idx, x ∉ c2.idx) (k01 : ∀ x ∈ c0.tmps, x ∉ c1.tmps) (k02 : ∀ x ∈ c0.tmps, x ∉ c2.tmps) (k12 : ∀ x ∈ c1.tmps, x ∉ c2.tmps) : Apart3 pu (three c0 c1 c2) := by
  refine ⟨fun c u hu => match c with
    | 0 => (p0 u hu).1
    | 1 => (p0 u hu).2.1
    | 2 => (p0 u hu).2.2, fun c u hu => match c with
    | 0 => (q0 u hu).1
    | 1 => (q0 u hu).2.1
    | 2 => (q0 u hu).2.2, pj, ps, fun c d hcd x hx hx' => ?_, fun c d hcd x hx hx' => ?_⟩
  · match c, d, hcd, hx, hx' with
    | 0, 0, hcd, hx, hx' => exact hcd rfl
    | 1, 1, hcd, hx, hx' => exact hcd rfl
    | 2, 2, hcd, hx, hx' => exact hcd rfl
    | 0, 1, _, hx, hx' => exact h01 x hx hx'
    | 0, 2, _, hx, hx' => exact h02 x hx hx'
    | 1, 2, _, hx, hx' => exact h12 x hx hx'
    | 1, 0, _, hx, hx' => exact h01 x hx' hx
    | 2, 0, _, hx, hx' => exact h02 x hx' hx
    | 2, 1, _, hx, hx' => exact h12 x hx' hx
  · match c, d, hcd, hx, hx' with
    | 0, 0, hcd, hx, hx' => exact hcd rfl
    | 1, 1, hcd, hx, hx' => exact hcd rfl
    | 2, 2, hcd, hx, hx' => exact hcd rfl
    | 0, 1, _, hx, hx' => exact k01 x hx hx'
    | 0, 2, _, hx, hx' => exact k02 x hx hx'
    | 1, 2, _, hx, hx' => exact k12 x hx hx'
    | 1, 0, _, hx, hx' => exact k01 x hx' hx
    | 2, 0, _, hx, hx' => exact k02 x hx' hx
    | 2, 1, _, hx, hx' => exact k12 x hx' hx

theorem three_start {Pg : Program} {ops : Array Oper} {Q : Exit → Act → World → Prop} {P lo tsp : Nat} {ds : List Tmp} {A : Act} {W : World} {l : Array Bool} {fuel : Nat} (pu : List Pur) (c0 c1 c2 : Chn) (hap : Apart3 pu (three c0 c1 c2)) (hpu : ∀ u ∈ pu, PurOk Pg ops ds A pu u) (hup : ∀ u ∈ pu, l.getD u.j true = false)
    (k0 : ChnOk Pg ops P 0 ds A pu c0) (k1 : ChnOk Pg ops P 1 ds A pu c1) (k2 : ChnOk Pg ops P 2 ds A pu c2)
    (hah : aheadB ops = true) (hsz : l.size = ops.size) (hrest : ∀ j, j < ops.size → l.getD j true = false → (j ∈ c0.idx ∨ j ∈ c1.idx ∨ j ∈ c2.idx) ∨ ∃ u ∈ pu, j = u.j) (hu0 : ∀ x ∈ c0.idx, l.getD x true = false) (hu1 : ∀ x ∈ c1.idx, l.getD x true = false) (hu2 : ∀ x ∈ c2.idx, l.getD x true = false)
    (hfuel : l.toList.countP (fun b => !b) ≤ fuel) (hlo : lo ≤ W.heap.size)
    (hP : Own IsSl W lo tsp 3 (.slice (some ⟨P, 0, none⟩) 1 1) 1 [c0.v0, c1.v0, c2.v0]) (o0 : Own c0.K W lo c0.te 1 c0.v0 c0.n c0.xs) (o1 : Own c1.K W lo c1.te 1 c1.v0 c1.n c1.xs) (o2 : Own c2.K W lo c2.te 1 c2.v0 c2.n c2.xs)
    (n0 : ∀ g, c0.v0.ownBlock = some g → g ≠ P ∧ c1.v0.ownBlock ≠ some g ∧ c2.v0.ownBlock ≠ some g) (n1 : ∀ g, c1.v0.ownBlock = some g → g ≠ P ∧ c2.v0.ownBlock ≠ some g) (n2 : ∀ g, c2.v0.ownBlock = some g → g ≠ P)
    (hQ : ∀ a w, Ag ds A a → Own c0.K w lo c0.te 1 (a.eval (.tmp c0.ta)) (c0.n + 1) (c0.xs ++ [c0.item]) → Own c1.K w lo c1.te 1 (a.eval (.tmp c1.ta)) (c1.n + 1) (c1.xs ++ [c1.item]) → Own c2.K w lo c2.te 1 (a.eval (.tmp c2.ta)) (c2.n + 1) (c2.xs ++ [c2.item]) →
      (∀ g, (a.eval (.tmp c0.ta)).ownBlock = some g → g ≠ P ∧ (a.eval (.tmp c1.ta)).ownBlock ≠ some g ∧ (a.eval (.tmp c2.ta)).ownBlock ≠ some g) → (∀ g, (a.eval (.tmp c1.ta)).ownBlock = some g → g ≠ P ∧ (a.eval (.tmp c2.ta)).ownBlock ≠ some g) → (∀ g, (a.eval (.tmp c2.ta)).ownBlock = some g → g ≠ P) →
      (∀ g, ((a.eval (.tmp c0.ta)).ownBlock = some g ∨ (a.eval (.tmp c1.ta)).ownBlock = some g ∨ (a.eval (.tmp c2.ta)).ownBlock = some g) → g < W.heap.size → c0.v0.ownBlock = some g ∨ c1.v0.ownBlock = some g ∨ c2.v0.ownBlock = some g) →
      Own IsSl w lo tsp 3 (.slice (some ⟨P, 0, none⟩) 1 1) 1 [a.eval (.tmp c0.ta), a.eval (.tmp c1.ta), a.eval (.tmp c2.ta)] → Fr (fun b => b = P ∨ c0.v0.ownBlock = some b ∨ c1.v0.ownBlock = some b ∨ c2.v0.ownBlock = some b) W w → Q .normal a w) :
    wpAny Pg .any ops Q fuel l A W := by
  have hok : ∀ c : Fin 3, ChnOk Pg ops P c ds A pu (three c0 c1 c2 c) := fun c => match c with
    | 0 => k0
    | 1 => k1
    | 2 => k2
  have hun : ∀ c, ∀ x ∈ (three c0 c1 c2 c).idx, l.getD x true = false := fun c => match c with
    | 0 => hu0
    | 1 => hu1
    | 2 => hu2
  have hown : ∀ c, Own (three c0 c1 c2 c).K W lo (three c0 c1 c2 c).te 1 (three c0 c1 c2 c).v0 (three c0 c1 c2 c).n (three c0 c1 c2 c).xs := fun c => match c with
    | 0 => o0
    | 1 => o1
    | 2 => o2
  have hPl : P < W.heap.size := (hP.lt rfl).2
  have hnP : ∀ c g, (three c0 c1 c2 c).v0.ownBlock = some g → g ≠ P := fun c => match c with
    | 0 => fun g hg => (n0 g hg).1
    | 1 => fun g hg => (n1 g hg).1
    | 2 => n2
  refine three_chains (lo := lo) (tsp := tsp) (base := lo) hap hok hpu hlo hPl hah ?_ fuel l A W ?_ hfuel
  · intro a w ha hO hd hn hP' hf
    refine hQ a w ha (hO 0) (hO 1) (hO 2) (fun g hg => ⟨(hn 0 g hg).1, hd 0 1 (by decide) g hg, hd 0 2 (by decide) g hg⟩) (fun g hg => ⟨(hn 1 g hg).1, hd 1 2 (by decide) g hg⟩) (fun g hg => (hn 2 g hg).1) ?_ hP' (hf.mono fun k _ hk => ?_)
    · rintro g (hg | hg | hg) hlt
      · exact .inl ((hn 0 g hg).2 hlt)
      · exact .inr (.inl ((hn 1 g hg).2 hlt))
      · exact .inr (.inr ((hn 2 g hg).2 hlt))
    · rcases hk with hk | ⟨c, hk⟩
      · exact .inl hk
      · match c, hk with
        | 0, hk => exact .inr (.inl hk)
        | 1, hk => exact .inr (.inr (.inl hk))
        | 2, hk => exact .inr (.inr (.inr hk))
  · refine ⟨hsz, fun j hj hl => ?_, fun u hu hl => (by rw [hup u hu] at hl; cases hl), ⟨rfl, rfl, fun _ _ => rfl⟩, ⟨fun c b => (three c0 c1 c2 c).v0.ownBlock = some b, fun c => ?_, fun c d hcd b hb hb' => ?_, fun c b hb => ?_⟩, ?_, Fr.refl _ _⟩
    · rcases hrest j hj hl with (h | h | h) | h
      · exact .inl ⟨0, Chn.idx_or h⟩
      · exact .inl ⟨1, Chn.idx_or h⟩
      · exact .inl ⟨2, Chn.idx_or h⟩
      · exact .inr h
    · have h1 := hun c (three c0 c1 c2 c).il (by simp [Chn.idx])
      have h2 := hun c (three c0 c1 c2 c).ib (by simp [Chn.idx])
      have h3 := hun c (three c0 c1 c2 c).ia (by simp [Chn.idx])
      have h4 := hun c (three c0 c1 c2 c).is (by simp [Chn.idx])
      refine ⟨?_, ?_, ?_, ?_, ?_, ?_⟩
      · rw [h4]; intro e; cases e
      · rw [h3]; intro e; cases e
      · rw [h1]; intro e; cases e
      · rw [h2]; intro e; cases e
      · intro _; exact ⟨hown c, fun g hg => hg⟩
      · rw [h3]; intro e; cases e
    · match c, d, hcd, hb, hb' with
      | 0, 0, hcd, _, _ => exact hcd rfl
      | 1, 1, hcd, _, _ => exact hcd rfl
      | 2, 2, hcd, _, _ => exact hcd rfl
      | 0, 1, _, hb, hb' => exact (n0 b hb).2.1 hb'
      | 0, 2, _, hb, hb' => exact (n0 b hb).2.2 hb'
      | 1, 2, _, hb, hb' => exact (n1 b hb).2 hb'
      | 1, 0, _, hb, hb' => exact (n0 b hb').2.1 hb
      | 2, 0, _, hb, hb' => exact (n0 b hb').2.2 hb
      | 2, 1, _, hb, hb' => exact (n1 b hb').2 hb
    · obtain ⟨l1, l2⟩ := (hown c).lt hb
      exact ⟨hnP c b hb, l1, l2, fun _ => hb⟩
    · have hcur : ∀ c, cur (three c0 c1 c2 c) l A = (three c0 c1 c2 c).v0 := fun c => by
        unfold cur; rw [hun c (three c0 c1 c2 c).is (by simp [Chn.idx])]; rfl
      rw [hcur, hcur, hcur]
      exact hP

end Go.Proofs.Ytcoidofchofljaa

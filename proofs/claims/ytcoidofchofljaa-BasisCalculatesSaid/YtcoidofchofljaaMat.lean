/-
  Lists of vectors in memory: read (Mat), and the call's own (MOwn). No condition but sizes.
-/
import Derived.Test.YtcoidofchofljaaVecC
namespace Go.Proofs.Ytcoidofchofljaa
open Go.RowKit
set_option linter.unusedSimpArgs false
set_option linter.unusedVariables false

def IsSl (v : Value) : Prop := ∃ a n c, v = .slice a n c
theorem isSl_s (a : Option Addr) (n c : Nat) : IsSl (.slice a n c) := ⟨a, n, c, rfl⟩
theorem isSl_u32 (x : Nat) : ¬ IsSl (.int .u32 (x : Int)) := by rintro ⟨a, n, c, h⟩; cases h
theorem isSl_b (b : Bool) : ¬ IsSl (.bool b) := by rintro ⟨a, n, c, h⟩; cases h

/-- A vector stays where a row of slices is written. -/
theorem Vec.grownC {K : Value → Prop} {w w' : World} {base : Nat} {e : TypeId} {size : Nat} {v : Value} {k : Nat} {ys : List Value} {ao : Option Addr} {n cap : Nat} {F : V} (h : Vec RatC w ao n cap F) (hown : Own K w base e size v k ys) (hK : ∀ x : Nat, ¬ K (.int .u32 (x : Int))) (hB : ∀ b, ¬ K (.bool b))
    (hg : w.grownBy w' v.ownBlock) : Vec RatC w' ao n cap F := by
  obtain ⟨h1, h2, h3, h4⟩ := h
  refine ⟨h1, h2, h3, fun i hi => ?_⟩
  obtain ⟨b, o, e, s, xo, xn, xc, yo, yn, yc, ⟨t1, t2, t3⟩, hr⟩ := h4 i hi
  have hne : some b ≠ v.ownBlock := fun e => hown.off t1 (hB s) b e.symm rfl
  exact ⟨b, o, e, s, xo, xn, xc, yo, yn, yc, ⟨hg.cell t1 hne, hg.cell t2 hne, hg.cell t3 hne⟩, hr.grownU hown hK hg⟩
theorem Vec.grownV {K : Value → Prop} {w w' : World} {base : Nat} {e : TypeId} {size : Nat} {v : Value} {k : Nat} {ys : List Value} {ao : Option Addr} {n cap : Nat} {F : V} (h : Vec RatV w ao n cap F) (hown : Own K w base e size v k ys) (hK : ∀ x : Nat, ¬ K (.int .u32 (x : Int))) (hB : ∀ b, ¬ K (.bool b))
    (hg : w.grownBy w' v.ownBlock) : Vec RatV w' ao n cap F := by
  obtain ⟨h1, h2, h3, h4⟩ := h
  refine ⟨h1, h2, h3, fun i hi => ?_⟩
  obtain ⟨b, o, e, s, xo, xn, xc, yo, yn, yc, ⟨t1, t2, t3⟩, hr⟩ := h4 i hi
  have hne : some b ≠ v.ownBlock := fun e => hown.off t1 (hB s) b e.symm rfl
  exact ⟨b, o, e, s, xo, xn, xc, yo, yn, yc, ⟨hg.cell t1 hne, hg.cell t2 hne, hg.cell t3 hne⟩, hr.grownU hown hK hg⟩

/-- A list of vectors: the i-th has L i numbers, F i. -/
def Mat (R : World → Value → Rat → Prop) (w : World) (ao : Option Addr) (m cap : Nat) (L : Nat → Nat) (F : Nat → V) : Prop :=
  m ≤ cap ∧ cap ≤ maxLen ∧ (ao = none → cap = 0) ∧ ∀ i, i < m → ∃ b o, ao = some ⟨b, o, none⟩ ∧ ∃ ro rc, w.cell? ⟨b, o + i, none⟩ = some (.slice ro (L i) rc) ∧ Vec R w ro (L i) rc (F i)

section
variable {w w' : World} {ao : Option Addr} {m cap : Nat} {L : Nat → Nat} {F : Nat → V}
theorem Mat.nextC (h : Mat RatC w ao m cap L F) (hb : Below w.heap.size w w') : Mat RatC w' ao m cap L F := by
  obtain ⟨h1, h2, h3, h4⟩ := h
  refine ⟨h1, h2, h3, fun i hi => ?_⟩
  obtain ⟨b, o, e, ro, rc, hc, hv⟩ := h4 i hi
  exact ⟨b, o, e, ro, rc, ((bcell hb).1 _ _ (World.block_lt_of_cell? w _ hc)).trans hc, hv.nextC hb⟩
theorem Mat.nextV (h : Mat RatV w ao m cap L F) (hb : Below w.heap.size w w') : Mat RatV w' ao m cap L F := by
  obtain ⟨h1, h2, h3, h4⟩ := h
  refine ⟨h1, h2, h3, fun i hi => ?_⟩
  obtain ⟨b, o, e, ro, rc, hc, hv⟩ := h4 i hi
  exact ⟨b, o, e, ro, rc, ((bcell hb).1 _ _ (World.block_lt_of_cell? w _ hc)).trans hc, hv.nextV hb⟩
theorem Mat.get {R : World → Value → Rat → Prop} (h : Mat R w ao m cap L F) {i : Nat} (hi : i < m) : ∃ b o, ao = some ⟨b, o, none⟩ ∧ ∃ ro rc, w.cell? ⟨b, o + i, none⟩ = some (.slice ro (L i) rc) ∧ Vec R w ro (L i) rc (F i) := h.2.2.2 i hi
theorem Mat.bound {R : World → Value → Rat → Prop} (h : Mat R w ao m cap L F) : m ≤ 9223372036854775807 := by
  have := h.1; have := h.2.1; unfold maxLen at *; omega
theorem Mat.nil (R : World → Value → Rat → Prop) (w : World) (L : Nat → Nat) (F : Nat → V) : Mat R w none 0 0 L F := ⟨Nat.le_refl _, by simp [maxLen], fun _ => rfl, fun i h => by omega⟩
theorem Mat.toV {k : Nat} (h : Mat RatC w ao m cap L F) (hf : ∀ i, i < m → ∀ j, j < L i → Fit k (F i j)) (hk : k ≤ 17179869184) : Mat RatV w ao m cap L F := by
  obtain ⟨h1, h2, h3, h4⟩ := h
  refine ⟨h1, h2, h3, fun i hi => ?_⟩
  obtain ⟨b, o, e, ro, rc, hc, hv⟩ := h4 i hi
  exact ⟨b, o, e, ro, rc, hc, hv.toV (hf i hi) hk⟩
theorem Mat.take {R : World → Value → Rat → Prop} (h : Mat R w ao m cap L F) {k : Nat} (hk : k ≤ m) : Mat R w ao k cap L F :=
  ⟨Nat.le_trans hk h.1, h.2.1, h.2.2.1, fun i hi => h.2.2.2 i (by omega)⟩
end

/-- A list of vectors of the call's own. -/
def MOwn (w : World) (base : Nat) (v : Value) (m : Nat) (L : Nat → Nat) (F : Nat → V) : Prop :=
  ∃ xs, Own IsSl w base 30 1 v m xs ∧ ∀ i, i < m → ∃ ro rc, xs[i]? = some (.slice ro (L i) rc) ∧ Vec RatC w ro (L i) rc (F i)

section
variable {w w' : World} {base m : Nat} {v : Value} {L : Nat → Nat} {F : Nat → V}
theorem MOwn.next (h : MOwn w base v m L F) (hb : Below w.heap.size w w') : MOwn w' base v m L F := by
  obtain ⟨xs, h1, h2⟩ := h
  refine ⟨xs, h1.below hb, fun i hi => ?_⟩
  obtain ⟨ro, rc, hx, hv⟩ := h2 i hi
  exact ⟨ro, rc, hx, hv.nextC hb⟩
theorem MOwn.nil (w : World) (base : Nat) (L : Nat → Nat) (F : Nat → V) : MOwn w base (.slice none 0 0) 0 L F := ⟨[], Own.nil _ _ _ _ _, fun i hi => by omega⟩
theorem MOwn.mono {base' : Nat} (h : MOwn w base v m L F) (hb : base' ≤ base) : MOwn w base' v m L F := by
  obtain ⟨xs, h1, h2⟩ := h
  exact ⟨xs, ⟨ownsRow_mono h1.1 hb, h1.2⟩, h2⟩
theorem MOwn.congr {L' : Nat → Nat} {G : Nat → V} (h : MOwn w base v m L F) (hl : ∀ i, i < m → L i = L' i) (he : ∀ i, i < m → ∀ j, j < L i → F i j = G i j) : MOwn w base v m L' G := by
  obtain ⟨xs, h1, h2⟩ := h
  refine ⟨xs, h1, fun i hi => ?_⟩
  obtain ⟨ro, rc, hx, hv⟩ := h2 i hi
  rw [← hl i hi]
  exact ⟨ro, rc, hx, hv.congr (he i hi)⟩
/-- To be read. -/
theorem MOwn.mat (h : MOwn w base v m L F) : ∃ ao cap, v = .slice ao m cap ∧ Mat RatC w ao m cap L F := by
  obtain ⟨xs, ⟨h1, _⟩, h2⟩ := h
  have hc := h1
  rcases h1.2 with ⟨rfl, rfl⟩ | ⟨g, cap, cur, rfl, hb, hg, hnc, hcm, hcs, htake⟩
  · exact ⟨none, 0, rfl, Mat.nil _ _ _ _⟩
  · refine ⟨_, cap, rfl, hnc, hcm, fun h => by (cases h), fun i hi => ?_⟩
    obtain ⟨ro, rc, hx, hv⟩ := h2 i hi
    exact ⟨g, 0, rfl, ro, rc, by rw [Nat.zero_add, hc.cellAt _ (by omega)]; exact hx, hv⟩
end

theorem Try.infoVec : (Try.prog.info? 30).map (fun i => (i.zero, i.size, i.bytes)) = some (some (.slice none 0 0), 1, 24) := by kernel_rfl

def updN (L : Nat → Nat) (k q : Nat) : Nat → Nat := fun i => if i = k then q else L i
def updF (F : Nat → V) (k : Nat) (G : V) : Nat → V := fun i => if i = k then G else F i

/-- 'append' of one vector, as an operation. -/
theorem op_appM {w : World} {o : Oper} {a : Act} {K : Act → World → Prop} {Q : Exit → Act → World → Prop} (s x : Operand)
    (ho : o.op = .call { callee := .builtin .append, args := #[s, x], argTypes := #[23, 23] })
    (base : Nat) (v : Value) (m : Nat) (L : Nat → Nat) (F : Nat → V) (hs : a.eval s = v) (hown : MOwn w base v m L F) (B c : Nat) (hx : a.eval x = .slice (some ⟨B, 0, none⟩) 1 c)
    (ro : Option Addr) (rn rc : Nat) (ht : w.cell? ⟨B, 0, none⟩ = some (.slice ro rn rc)) (G : V) (hG : Vec RatC w ro rn rc G)
    (hn : m ≤ 1000000) (hbase : base ≤ w.heap.size)
    (h : ∀ v' w', MOwn w' base v' (m + 1) (updN L m rn) (updF F m G) → w.grownBy w' v.ownBlock → Below base w w' → (v'.ownBlock = v.ownBlock ∨ v'.ownBlock = some w.heap.size) → K (a.put o.dst v') w') : Oper.wp Try.prog o a w K Q := by
  obtain ⟨xs, hxs, hE⟩ := hown
  have hl : xs.length = m := by have := hxs.1.1; omega
  obtain ⟨i, hi, hz0, hsz, hby⟩ := info_parts Try.infoVec
  obtain ⟨v', w', hrun, h1, h2, h4⟩ := hxs.append (P := Try.prog) 23 o.type i _ 24 Try.underlying23 hi hz0 hsz hby rfl (by decide)
    (by
      intro c hc
      have hc : c = .slice none 0 0 := by simpa [Value.cells] using hc
      rw [hc]; exact isSl_s _ _ _)
    ⟨B, 0, none⟩ 1 c [.slice ro rn rc] rfl
    (by
      intro j u hu
      rw [Addr.add_lit, Nat.zero_add]
      rcases j with _ | j
      · simp at hu; subst hu; exact ht
      · simp at hu)
    (by intro u hu; simp at hu; subst hu; rfl)
    (by intro u hu; simp at hu; subst hu; exact isSl_s _ _ _)
    (by decide) (by unfold maxLen; omega) (by omega) hbase
  have h3 : Below base w w' := (Below.refl _ _).grown h2 hbase (fun k hk => (hxs.1.lt k hk).1)
  unfold Oper.wp execOp
  simp only [ho, resolve, invoke, builtin, Sem.run_bind, Sem.run_pure, Result.andThen_ok, List.map_toArray, List.map_cons, List.map_nil, hs, hx, hrun]
  refine h v' w' ⟨_, h1, fun i hi => ?_⟩ h2 h3 h4
  by_cases him : i = m
  · subst him
    unfold updN updF
    rw [if_pos rfl, if_pos rfl]
    exact ⟨ro, rc, by rw [List.getElem?_append_right (by omega), hl, Nat.sub_self]; rfl, hG.grownC hxs isSl_u32 isSl_b h2⟩
  · unfold updN updF
    rw [if_neg him, if_neg him]
    obtain ⟨ro', rc', hx', hv⟩ := hE i (by omega)
    exact ⟨ro', rc', by rw [List.getElem?_append_left (by omega)]; exact hx', hv.grownC hxs isSl_u32 isSl_b h2⟩

theorem wp_appM {w : World} {ops : Array Oper} {rest : List Oper} {o : Oper} {a : Act} {Q : Exit → Act → World → Prop} (hgd : o.guard = none) (s x : Operand)
    (ho : o.op = .call { callee := .builtin .append, args := #[s, x], argTypes := #[23, 23] })
    (base : Nat) (v : Value) (m : Nat) (L : Nat → Nat) (F : Nat → V) (hs : a.eval s = v) (hown : MOwn w base v m L F) (B c : Nat) (hx : a.eval x = .slice (some ⟨B, 0, none⟩) 1 c)
    (ro : Option Addr) (rn rc : Nat) (ht : w.cell? ⟨B, 0, none⟩ = some (.slice ro rn rc)) (G : V) (hG : Vec RatC w ro rn rc G)
    (hn : m ≤ 1000000) (hbase : base ≤ w.heap.size)
    (h : ∀ v' w', MOwn w' base v' (m + 1) (updN L m rn) (updF F m G) → w.grownBy w' v.ownBlock → Below base w w' → (v'.ownBlock = v.ownBlock ∨ v'.ownBlock = some w.heap.size) → wpList Try.prog ops Q rest (a.put o.dst v') w') : wpList Try.prog ops Q (o :: rest) a w :=
  wpList_plain hgd fun _ hK => op_appM s x ho base v m L F hs hown B c hx ro rn rc ht G hG hn hbase fun v' w' h1 h2 h3 h4 => hK _ _ (h v' w' h1 h2 h3 h4)

/-- A list of vectors, new. -/
def MatOut (w : World) (m : Nat) (L : Nat → Nat) (F : Nat → V) (e : Ending) (w' : World) : Prop :=
  ∃ v, e = .returned v ∧ MOwn w' w.heap.size v m L F ∧ Below w.heap.size w w'

end Go.Proofs.Ytcoidofchofljaa

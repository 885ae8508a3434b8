/-
  The reference's rows in memory: lists of pairs of vectors, read and of the call's own; a pair's variable. No condition but sizes.
-/
import Derived.Test.YtcoidofchofljaaSpl
import Derived.Test.YtcoidofchofljaaRgn
namespace Go.Proofs.Ytcoidofchofljaa
open Go.RowKit
set_option linter.unusedSimpArgs false
set_option linter.unusedVariables false

/-- A list of rows: the i-th has n and nc numbers. -/
def RMat (w : World) (ao : Option Addr) (m cap n nc : Nat) (RV RC : Nat → V) : Prop :=
  m ≤ cap ∧ cap ≤ maxLen ∧ ∀ i, i < m → ∃ b o, ao = some ⟨b, o, none⟩ ∧ ∃ ro rc so sc, w.cell? ⟨b, o + i * 2, none⟩ = some (.slice ro n rc) ∧ w.cell? ⟨b, o + i * 2 + 1, none⟩ = some (.slice so nc sc) ∧ Vec RatC w ro n rc (RV i) ∧ Vec RatC w so nc sc (RC i)

section
variable {w w' : World} {ao : Option Addr} {m cap n nc : Nat} {RV RC : Nat → V}
theorem RMat.next (h : RMat w ao m cap n nc RV RC) (hb : Below w.heap.size w w') : RMat w' ao m cap n nc RV RC := by
  obtain ⟨h1, h2, h4⟩ := h
  refine ⟨h1, h2, fun i hi => ?_⟩
  obtain ⟨b, o, e, ro, rc, so, sc, c1, c2, v1, v2⟩ := h4 i hi
  have hlt := World.block_lt_of_cell? w _ c1
  exact ⟨b, o, e, ro, rc, so, sc, ((bcell hb).1 _ _ hlt).trans c1, ((bcell hb).1 _ _ hlt).trans c2, v1.nextC hb, v2.nextC hb⟩
theorem RMat.get (h : RMat w ao m cap n nc RV RC) {i : Nat} (hi : i < m) : ∃ b o, ao = some ⟨b, o, none⟩ ∧ ∃ ro rc so sc, w.cell? ⟨b, o + i * 2, none⟩ = some (.slice ro n rc) ∧ w.cell? ⟨b, o + i * 2 + 1, none⟩ = some (.slice so nc sc) ∧ Vec RatC w ro n rc (RV i) ∧ Vec RatC w so nc sc (RC i) := h.2.2 i hi
theorem RMat.bound (h : RMat w ao m cap n nc RV RC) : m ≤ 9223372036854775807 := by
  have := h.1; have := h.2.1; unfold maxLen at *; omega
theorem RMat.nil (w : World) (n nc : Nat) (RV RC : Nat → V) : RMat w none 0 0 n nc RV RC := ⟨Nat.le_refl _, by simp [maxLen], fun i h => by omega⟩
end

/-- Rows of the call's own. -/
def ROwn (w : World) (base : Nat) (v : Value) (m n nc : Nat) (RV RC : Nat → V) : Prop :=
  ∃ xs, Own IsSl w base 69 2 v m xs ∧ ∀ i, i < m → ∃ ro rc so sc, xs[i * 2]? = some (.slice ro n rc) ∧ xs[i * 2 + 1]? = some (.slice so nc sc) ∧ Vec RatC w ro n rc (RV i) ∧ Vec RatC w so nc sc (RC i)

section
variable {w w' : World} {base m n nc : Nat} {v : Value} {RV RC : Nat → V}
theorem ROwn.next (h : ROwn w base v m n nc RV RC) (hb : Below w.heap.size w w') : ROwn w' base v m n nc RV RC := by
  obtain ⟨xs, h1, h2⟩ := h
  refine ⟨xs, h1.below hb, fun i hi => ?_⟩
  obtain ⟨ro, rc, so, sc, x1, x2, v1, v2⟩ := h2 i hi
  exact ⟨ro, rc, so, sc, x1, x2, v1.nextC hb, v2.nextC hb⟩
theorem ROwn.nil (w : World) (base n nc : Nat) (RV RC : Nat → V) : ROwn w base (.slice none 0 0) 0 n nc RV RC := ⟨[], Own.nil _ _ _ _ _, fun i hi => by omega⟩
theorem ROwn.mono {base' : Nat} (h : ROwn w base v m n nc RV RC) (hb : base' ≤ base) : ROwn w base' v m n nc RV RC := by
  obtain ⟨xs, h1, h2⟩ := h
  exact ⟨xs, ⟨ownsRow_mono h1.1 hb, h1.2⟩, h2⟩
theorem ROwn.congr {RV' RC' : Nat → V} (h : ROwn w base v m n nc RV RC) (e1 : ∀ i, i < m → ∀ j, j < n → RV i j = RV' i j) (e2 : ∀ i, i < m → ∀ j, j < nc → RC i j = RC' i j) : ROwn w base v m n nc RV' RC' := by
  obtain ⟨xs, h1, h2⟩ := h
  refine ⟨xs, h1, fun i hi => ?_⟩
  obtain ⟨ro, rc, so, sc, x1, x2, v1, v2⟩ := h2 i hi
  exact ⟨ro, rc, so, sc, x1, x2, v1.congr (e1 i hi), v2.congr (e2 i hi)⟩
theorem ROwn.mat (h : ROwn w base v m n nc RV RC) : ∃ ao cap, v = .slice ao m cap ∧ RMat w ao m cap n nc RV RC := by
  obtain ⟨xs, ⟨h1, _⟩, h2⟩ := h
  have hc := h1
  rcases h1.2 with ⟨rfl, rfl⟩ | ⟨g, cap, cur, rfl, hb, hg, hnc, hcm, hcs, htake⟩
  · exact ⟨none, 0, rfl, RMat.nil _ _ _ _ _⟩
  · refine ⟨_, cap, rfl, hnc, hcm, fun i hi => ?_⟩
    obtain ⟨ro, rc, so, sc, x1, x2, v1, v2⟩ := h2 i hi
    exact ⟨g, 0, rfl, ro, rc, so, sc, by rw [Nat.zero_add, hc.cellAt _ (by omega)]; exact x1, by rw [Nat.zero_add, hc.cellAt _ (by omega)]; exact x2, v1, v2⟩
end

theorem Try.infoRow : (Try.prog.info? 69).map (fun i => (i.zero, i.size, i.bytes)) = some (some (.agg #[.slice none 0 0, .slice none 0 0]), 2, 48) := by kernel_rfl

/-- Two cells. -/
abbrev C2 (B : Nat) (x y : Value) (w : World) : Prop := w.cell? ⟨B, 0, none⟩ = some x ∧ w.cell? ⟨B, 1, none⟩ = some y
theorem C2.next {B : Nat} {x y : Value} {w w' : World} (h : C2 B x y w) (hb : Below w.heap.size w w') : C2 B x y w' := ⟨cell_later hb h.1, cell_later hb h.2⟩

/-- 'append' of one row, as an operation. -/
theorem op_appR {w : World} {o : Oper} {a : Act} {K : Act → World → Prop} {Q : Exit → Act → World → Prop} (s x : Operand)
    (ho : o.op = .call { callee := .builtin .append, args := #[s, x], argTypes := #[60, 60] })
    (base : Nat) (v : Value) (m n nc : Nat) (RV RC : Nat → V) (hs : a.eval s = v) (hown : ROwn w base v m n nc RV RC) (B c : Nat) (hx : a.eval x = .slice (some ⟨B, 0, none⟩) 1 c)
    (ro : Option Addr) (rc : Nat) (so : Option Addr) (sc : Nat) (ht : C2 B (.slice ro n rc) (.slice so nc sc) w) (G H : V) (hG : Vec RatC w ro n rc G) (hH : Vec RatC w so nc sc H)
    (hn : m ≤ 1000000) (hbase : base ≤ w.heap.size)
    (h : ∀ v' w', ROwn w' base v' (m + 1) n nc (updF RV m G) (updF RC m H) → w.grownBy w' v.ownBlock → Below base w w' → (v'.ownBlock = v.ownBlock ∨ v'.ownBlock = some w.heap.size) → K (a.put o.dst v') w') : Oper.wp Try.prog o a w K Q := by
  obtain ⟨xs, hxs, hE⟩ := hown
  have hl : xs.length = m * 2 := hxs.1.1
  obtain ⟨i, hi, hz0, hsz, hby⟩ := info_parts Try.infoRow
  obtain ⟨v', w', hrun, h1, h2, h4⟩ := hxs.append (P := Try.prog) 60 o.type i _ 48 Try.underlying60 hi hz0 hsz hby rfl (by decide)
    (by
      intro c hc
      have hc : c = .slice none 0 0 := by simpa [Value.cells] using hc
      rw [hc]; exact isSl_s _ _ _)
    ⟨B, 0, none⟩ 1 c [.slice ro n rc, .slice so nc sc] rfl
    (by
      intro j u hu
      obtain ⟨t0, t1⟩ := ht
      rw [Addr.add_lit, Nat.zero_add]
      rcases j with _ | _ | j
      · simp at hu; subst hu; exact t0
      · simp at hu; subst hu; exact t1
      · simp at hu)
    (by intro u hu; simp at hu; rcases hu with rfl | rfl <;> rfl)
    (by intro u hu; simp at hu; rcases hu with rfl | rfl <;> exact isSl_s _ _ _)
    (by decide) (by unfold maxLen; omega) (by omega) hbase
  have h3 : Below base w w' := (Below.refl _ _).grown h2 hbase (fun k hk => (hxs.1.lt k hk).1)
  unfold Oper.wp execOp
  simp only [ho, resolve, invoke, builtin, Sem.run_bind, Sem.run_pure, Result.andThen_ok, List.map_toArray, List.map_cons, List.map_nil, hs, hx, hrun]
  refine h v' w' ⟨_, h1, fun i hi => ?_⟩ h2 h3 h4
  by_cases him : i = m
  · subst him
    unfold updF
    rw [if_pos rfl, if_pos rfl]
    exact ⟨ro, rc, so, sc, by rw [List.getElem?_append_right (by omega), hl, Nat.sub_self]; rfl, by rw [List.getElem?_append_right (by omega), hl, show i * 2 + 1 - i * 2 = 1 by omega]; rfl, hG.grownC hxs isSl_u32 isSl_b h2, hH.grownC hxs isSl_u32 isSl_b h2⟩
  · unfold updF
    rw [if_neg him, if_neg him]
    obtain ⟨ro', rc', so', sc', x1, x2, v1, v2⟩ := hE i (by omega)
    exact ⟨ro', rc', so', sc', by rw [List.getElem?_append_left (by omega)]; exact x1, by rw [List.getElem?_append_left (by omega)]; exact x2, v1.grownC hxs isSl_u32 isSl_b h2, v2.grownC hxs isSl_u32 isSl_b h2⟩

theorem wp_appR {w : World} {ops : Array Oper} {rest : List Oper} {o : Oper} {a : Act} {Q : Exit → Act → World → Prop} (hgd : o.guard = none) (s x : Operand)
    (ho : o.op = .call { callee := .builtin .append, args := #[s, x], argTypes := #[60, 60] })
    (base : Nat) (v : Value) (m n nc : Nat) (RV RC : Nat → V) (hs : a.eval s = v) (hown : ROwn w base v m n nc RV RC) (B c : Nat) (hx : a.eval x = .slice (some ⟨B, 0, none⟩) 1 c)
    (ro : Option Addr) (rc : Nat) (so : Option Addr) (sc : Nat) (ht : C2 B (.slice ro n rc) (.slice so nc sc) w) (G H : V) (hG : Vec RatC w ro n rc G) (hH : Vec RatC w so nc sc H)
    (hn : m ≤ 1000000) (hbase : base ≤ w.heap.size)
    (h : ∀ v' w', ROwn w' base v' (m + 1) n nc (updF RV m G) (updF RC m H) → w.grownBy w' v.ownBlock → Below base w w' → (v'.ownBlock = v.ownBlock ∨ v'.ownBlock = some w.heap.size) → wpList Try.prog ops Q rest (a.put o.dst v') w') : wpList Try.prog ops Q (o :: rest) a w :=
  wpList_plain hgd fun _ hK => op_appR s x ho base v m n nc RV RC hs hown B c hx ro rc so sc ht G H hG hH hn hbase fun v' w' h1 h2 h3 h4 => hK _ _ (h v' w' h1 h2 h3 h4)

/-- A variable of two slices, known whole. -/
structure B2 (w : World) (G : Nat) (x y : Value) (w' : World) : Prop where
  heap : ∃ T, w'.heap[G]? = some (.cells #[x, y] T (0, 0))
  ge : w.heap.size ≤ G
  bel : Below w.heap.size w w'

section
variable {w w' w'' : World} {G g : Nat} {x y : Value}
theorem B2.lt (h : B2 w G x y w') : G < w'.heap.size := by
  obtain ⟨T, hT⟩ := h.heap
  exact (Array.getElem?_eq_some_iff.1 hT).1
theorem B2.cell (h : B2 w G x y w') (i : Nat) : w'.cell? ⟨G, i, none⟩ = #[x, y][i]? := by
  obtain ⟨T, hT⟩ := h.heap
  exact cell_of_row w' G i _ T (0, 0) hT
theorem B2.c2 (h : B2 w G x y w') : C2 G x y w' := ⟨by rw [h.cell]; rfl, by rw [h.cell]; rfl⟩
theorem B2.free (h : B2 w G x y w') (i : Nat) : w'.frozen? ⟨G, i, none⟩ = false := by
  obtain ⟨T, hT⟩ := h.heap
  exact frozen_of_row w' G i _ T hT
theorem B2.next (h : B2 w G x y w') (hb : Below w'.heap.size w' w'') : B2 w G x y w'' :=
  ⟨by obtain ⟨T, hT⟩ := h.heap; exact ⟨T, by rw [hb.block G h.lt]; exact hT⟩, h.ge, below_chain h.bel hb⟩
theorem B2.start (hb : Below w.heap.size w w') (hG : G = w'.heap.size) (x y : Value) (T : TypeId) : B2 w G x y (w'.alloc (.cells #[x, y] T)) := by
  subst hG
  exact ⟨⟨T, heap_alloc_new w' _⟩, hb.size, hb.alloc hb.size _⟩
theorem B2.put (h : B2 w G x y w') (x' y' : Value) : B2 w G x' y' ((w'.setCell ⟨G, 0, none⟩ x').setCell ⟨G, 1, none⟩ y') := by
  obtain ⟨T, hT⟩ := h.heap
  refine ⟨⟨T, ?_⟩, h.ge, (h.bel.setCell (p := ⟨G, 0, none⟩) h.ge x').setCell (p := ⟨G, 1, none⟩) h.ge y'⟩
  exact heap_setCell_same _ G 1 _ T y' (heap_setCell_same w' G 0 _ T x' hT)
/-- A vector stays where such a variable is written. -/
theorem B2.vec {x1 x2 : Value} {ao : Option Addr} {n cap : Nat} {F : V} (h : B2 w G x y w') (hx : IsSl x) (hy : IsSl y) (v : Vec RatC w' ao n cap F) : Vec RatC ((w'.setCell ⟨G, 0, none⟩ x1).setCell ⟨G, 1, none⟩ x2) ao n cap F := by
  have hw : w'.grownBy ((w'.setCell ⟨G, 0, none⟩ x1).setCell ⟨G, 1, none⟩ x2) (some G) :=
    ⟨rfl, rfl, rfl, by simp, fun k hk hne => by rw [Below.heap_setCell _ _ _ _ (show k ≠ G from fun e => hne (by rw [e])), Below.heap_setCell _ _ _ _ (show k ≠ G from fun e => hne (by rw [e]))]⟩
  obtain ⟨T, hT⟩ := h.heap
  have hown : Own IsSl w' G T 1 (.slice (some ⟨G, 0, none⟩) 2 2) 2 [x, y] := by
    refine ⟨⟨rfl, .inr ⟨G, 2, #[x, y], rfl, Nat.le_refl _, hT, Nat.le_refl _, by simp [maxLen], rfl, rfl⟩⟩, ?_⟩
    intro g hg cur t fr hh c hc
    simp only [Value.ownBlock, Option.some.injEq] at hg
    subst hg
    rw [hT] at hh
    injection hh with hh
    injection hh with e1 _ _
    subst e1
    simp at hc
    rcases hc with rfl | rfl
    · exact hx
    · exact hy
  exact v.grownC hown isSl_u32 isSl_b hw
end

end Go.Proofs.Ytcoidofchofljaa

/-
  A space of vectors in memory: its rows, their multipliers, their places; what stands when its blocks are written. No condition but sizes.
-/
import Derived.Test.YtcoidofchofljaaRgn
import Derived.Test.YtcoidofchofljaaSpl
namespace Go.Proofs.Ytcoidofchofljaa
open Go.RowKit
set_option linter.unusedSimpArgs false
set_option linter.unusedVariables false

def zRow : Row := ⟨zeroV, zeroV, 0⟩
def rv (st : List Row) (k : Nat) : V := (st.getD k zRow).v
def rcf (st : List Row) (k : Nat) : V := (st.getD k zRow).c
def rpl (st : List Row) (k : Nat) : Nat := (st.getD k zRow).pl

theorem getD_snoc_lt {α : Type} {l : List α} {x d : α} {k : Nat} (h : k < l.length) : (l ++ [x]).getD k d = l.getD k d := by
  rw [List.getD_eq_getElem?_getD, List.getD_eq_getElem?_getD, List.getElem?_append_left h]
theorem getD_snoc_at {α : Type} {l : List α} {x d : α} : (l ++ [x]).getD l.length d = x := by
  rw [List.getD_eq_getElem?_getD, List.getElem?_append_right (Nat.le_refl _), Nat.sub_self]; rfl

theorem redN_red (st : List Row) (F : V) : ∀ k, k ≤ st.length → redN (rv st) (rcf st) (rpl st) F k = red (st.take k) F := by
  intro k
  induction k with
  | zero => intro _; rfl
  | succ k ih =>
    intro hk
    have hx : st[k]? = some st[k] := List.getElem?_eq_getElem (by omega)
    rw [take_snoc hx, red_snoc, ← ih (by omega)]
    show redStep _ _ = redStep _ _
    have e : (⟨rv st k, rcf st k, rpl st k⟩ : Row) = st[k] := by
      unfold rv rcf rpl
      rw [List.getD_eq_getElem?_getD, hx]; rfl
    rw [e]
theorem redN_all (st : List Row) (F : V) : redN (rv st) (rcf st) (rpl st) F st.length = red st F := by
  rw [redN_red st F _ (Nat.le_refl _), List.take_length]

/-- The rows' sizes. -/
structure RFit (K n : Nat) (st : List Row) : Prop where
  v : ∀ k, k < st.length → ∀ i, i < n → Fit (lv K k) (rv st k i)
  c : ∀ k, k < st.length → ∀ i, Fit (lv K k) (rcf st k i)
  p : ∀ k, k < st.length → rpl st k < n
  z : ∀ k, k < st.length → ∀ i, k < i → rcf st k i = 0
theorem RFit.nil (K n : Nat) : RFit K n [] := ⟨fun k h => by simp at h, fun k h => by simp at h, fun k h => by simp at h, fun k h => by simp at h⟩

theorem RFit.red {K n : Nat} {st : List Row} (h : RFit K n st) (hK : 1 ≤ K) {F : V} (hF : ∀ i, i < n → Fit K (F i)) : (∀ i, i < n → Fit (lv K st.length) ((red st F).1 i)) ∧ ∀ i, Fit (lv K st.length) ((red st F).2 i) := by
  rw [← redN_all]
  exact redN_fit hK hF h.v h.c h.p _ (Nat.le_refl _)

theorem lv_pos {K i : Nat} (h : 1 ≤ K) : 1 ≤ lv K i := Nat.le_trans h (lv_le (i := 0) (Nat.zero_le i))

theorem RFit.snoc {K n : Nat} {st : List Row} {r : Row} (h : RFit K n st) (hK : 1 ≤ K) {F : V} (hF : ∀ i, i < n → Fit K (F i)) (ha : addV n st F = some r) : RFit K n (st ++ [r]) := by
  obtain ⟨p, hp, rfl⟩ := addV_some ha
  obtain ⟨f1, f2⟩ := h.red hK hF
  have hl : ∀ k, k < (st ++ [rowOf st.length (Proofs.Ytcoidofchofljaa.red st F) p]).length → k < st.length ∨ k = st.length := fun k hk => by simp at hk; omega
  refine ⟨fun k hk i hi => ?_, fun k hk i => ?_, fun k hk => ?_, fun k hk i hi => ?_⟩
  · rcases hl k hk with hk | rfl
    · unfold rv; rw [getD_snoc_lt hk]; exact h.v k hk i hi
    · unfold rv; rw [getD_snoc_at]; exact f1 i hi
  · rcases hl k hk with hk | rfl
    · unfold rcf; rw [getD_snoc_lt hk]; exact h.c k hk i
    · unfold rcf; rw [getD_snoc_at]
      show Fit _ (if i < st.length then - (Proofs.Ytcoidofchofljaa.red st F).2 i else if i = st.length then 1 else 0)
      split
      · exact fit_neg (f2 i)
      · split
        · exact fit_one (lv_pos hK)
        · exact fit_zero (lv_pos hK)
  · rcases hl k hk with hk | rfl
    · unfold rpl; rw [getD_snoc_lt hk]; exact h.p k hk
    · unfold rpl; rw [getD_snoc_at]; exact (leadOf_some hp).1
  · rcases hl k hk with hk | rfl
    · unfold rcf; rw [getD_snoc_lt hk]; exact h.z k hk i hi
    · unfold rcf; rw [getD_snoc_at]
      show (if i < st.length then - (Proofs.Ytcoidofchofljaa.red st F).2 i else if i = st.length then 1 else 0) = (0 : Rat)
      rw [if_neg (by omega), if_neg (by omega)]

/-! ### What stands when rows of slices and of integers are written -/

/-- The blocks T hold slices and integers alone. -/
def Srt (T : Nat → Prop) (w : World) : Prop := ∀ b o c, w.cell? ⟨b, o, none⟩ = some c → ¬ IsSl c → ¬ IsI64 c → ¬ T b

theorem not_sl_bool (b : Bool) : ¬ IsSl (.bool b) := by rintro ⟨a, n, c, h⟩; cases h
theorem not_i64_bool (b : Bool) : ¬ IsI64 (.bool b) := by rintro ⟨z, h⟩; cases h

section
variable {T : Nat → Prop} {w w' : World}
theorem Sl.frU {ao : Option Addr} {n cap : Nat} {l : List Nat} (h : Sl w ao n cap (u32s l)) (hs : Srt T w) (hf : Fr T w w') : Sl w' ao n cap (u32s l) :=
  ⟨h.len, h.le, h.most, fun i x hx => by
    obtain ⟨b, off, e, hc⟩ := h.at_ i x hx
    obtain ⟨y, _, rfl⟩ := List.mem_map.1 (List.mem_of_getElem? hx)
    exact ⟨b, off, e, hf.cell hc (hs _ _ _ hc (isSl_u32 y) (isI64_u32 y))⟩⟩
theorem RatC.fr {u : Value} {q : Rat} (h : RatC w u q) (hs : Srt T w) (hf : Fr T w w') : RatC w' u q := by
  obtain ⟨ao, bo, n, cap, m, cap', e, h1, h2, h3⟩ := h
  exact ⟨ao, bo, n, cap, m, cap', e, h1.frU hs hf, h2.frU hs hf, h3⟩
theorem RatV.fr {u : Value} {q : Rat} (h : RatV w u q) (hs : Srt T w) (hf : Fr T w w') : RatV w' u q := by
  obtain ⟨neg, N, D, ao, bo, n, cap, m, cap', e, h1, h2, h3⟩ := h
  exact ⟨neg, N, D, ao, bo, n, cap, m, cap', e, h1.frU hs hf, h2.frU hs hf, h3⟩
theorem Vec.frC {ao : Option Addr} {n cap : Nat} {F : V} (h : Vec RatC w ao n cap F) (hs : Srt T w) (hf : Fr T w w') : Vec RatC w' ao n cap F := by
  obtain ⟨h1, h2, h3, h4⟩ := h
  refine ⟨h1, h2, h3, fun i hi => ?_⟩
  obtain ⟨b, o, e, s, xo, xn, xc, yo, yn, yc, ⟨t1, t2, t3⟩, hr⟩ := h4 i hi
  have hne := hs _ _ _ t1 (not_sl_bool s) (not_i64_bool s)
  exact ⟨b, o, e, s, xo, xn, xc, yo, yn, yc, ⟨hf.cell t1 hne, hf.cell t2 hne, hf.cell t3 hne⟩, hr.fr hs hf⟩
theorem Vec.frV {ao : Option Addr} {n cap : Nat} {F : V} (h : Vec RatV w ao n cap F) (hs : Srt T w) (hf : Fr T w w') : Vec RatV w' ao n cap F := by
  obtain ⟨h1, h2, h3, h4⟩ := h
  refine ⟨h1, h2, h3, fun i hi => ?_⟩
  obtain ⟨b, o, e, s, xo, xn, xc, yo, yn, yc, ⟨t1, t2, t3⟩, hr⟩ := h4 i hi
  have hne := hs _ _ _ t1 (not_sl_bool s) (not_i64_bool s)
  exact ⟨b, o, e, s, xo, xn, xc, yo, yn, yc, ⟨hf.cell t1 hne, hf.cell t2 hne, hf.cell t3 hne⟩, hr.fr hs hf⟩
theorem MOwn.fr {base m : Nat} {v : Value} {L : Nat → Nat} {F : Nat → V} (h : MOwn w base v m L F) (hs : Srt T w) (hf : Fr T w w') (hv : ∀ g, v.ownBlock = some g → ¬ T g) : MOwn w' base v m L F := by
  obtain ⟨xs, h1, h2⟩ := h
  refine ⟨xs, h1.fr hf hv, fun i hi => ?_⟩
  obtain ⟨ro, rc, hx, hq⟩ := h2 i hi
  exact ⟨ro, rc, hx, hq.frC hs hf⟩
end

/-- The cells of an owned row's block are of its sort. -/
theorem Own.srt {K : Value → Prop} {w : World} {base : Nat} {e : TypeId} {size : Nat} {v : Value} {n : Nat} {xs : List Value} (h : Own K w base e size v n xs) {b o : Nat} {c : Value} (hc : w.cell? ⟨b, o, none⟩ = some c) (hK : ¬ K c) : v.ownBlock ≠ some b := fun e => h.off hc hK b e rfl

/-- The space at P has these rows; T are its blocks. -/
def Sp (w : World) (lo P : Nat) (T : Nat → Prop) (n : Nat) (st : List Row) : Prop :=
  ∃ vr vb vp, Own IsSl w lo 52 3 (.slice (some ⟨P, 0, none⟩) 1 1) 1 [vr, vb, vp] ∧
    MOwn w lo vr st.length (fun _ => n) (rv st) ∧ MOwn w lo vb st.length (fun i => i + 1) (rcf st) ∧ Own IsI64 w lo 3 1 vp st.length ((List.range st.length).map fun i => Value.int .i64 (rpl st i)) ∧
    (∀ b, T b ↔ b = P ∨ vr.ownBlock = some b ∨ vb.ownBlock = some b ∨ vp.ownBlock = some b) ∧
    (∀ g, vr.ownBlock = some g → g ≠ P ∧ vb.ownBlock ≠ some g ∧ vp.ownBlock ≠ some g) ∧ (∀ g, vb.ownBlock = some g → g ≠ P ∧ vp.ownBlock ≠ some g) ∧ (∀ g, vp.ownBlock = some g → g ≠ P)

section
variable {w w' : World} {lo P n : Nat} {T : Nat → Prop} {st : List Row}
theorem Sp.next (h : Sp w lo P T n st) (hb : Below w.heap.size w w') : Sp w' lo P T n st := by
  obtain ⟨vr, vb, vp, h1, h2, h3, h4, h5⟩ := h
  exact ⟨vr, vb, vp, h1.below hb, h2.next hb, h3.next hb, h4.below hb, h5⟩
theorem Sp.range (h : Sp w lo P T n st) {b : Nat} (hb : T b) : lo ≤ b ∧ b < w.heap.size := by
  obtain ⟨vr, vb, vp, h1, ⟨_, h2, _⟩, ⟨_, h3, _⟩, h4, h5, _⟩ := h
  rcases (h5 b).1 hb with rfl | k | k | k
  · exact h1.lt rfl
  · exact h2.lt k
  · exact h3.lt k
  · exact h4.lt k
theorem Sp.srt (h : Sp w lo P T n st) : Srt T w := by
  obtain ⟨vr, vb, vp, h1, ⟨_, h2, _⟩, ⟨_, h3, _⟩, h4, h5, _⟩ := h
  intro b o c hc k1 k2 hT
  rcases (h5 b).1 hT with rfl | k | k | k
  · exact h1.srt hc k1 rfl
  · exact h2.srt hc k1 k
  · exact h3.srt hc k1 k
  · exact h4.srt hc k2 k
theorem Sp.atP (h : Sp w lo P T n st) : T P := by
  obtain ⟨_, _, _, _, _, _, _, h5, _⟩ := h
  exact (h5 P).2 (.inl rfl)
end

/-- '&span.Space{}'. -/
theorem Sp.start {w : World} {lo : Nat} (hlo : lo ≤ w.heap.size) (n : Nat) : Sp (w.alloc (.cells #[.slice none 0 0, .slice none 0 0, .slice none 0 0] 52)) lo w.heap.size (fun b => b = w.heap.size) n [] := by
  refine ⟨.slice none 0 0, .slice none 0 0, .slice none 0 0, ⟨⟨rfl, .inr ⟨w.heap.size, 1, #[.slice none 0 0, .slice none 0 0, .slice none 0 0], rfl, hlo, heap_alloc_new w _, Nat.le_refl _, by simp [maxLen], rfl, rfl⟩⟩, ?_⟩, MOwn.nil _ _ _ _, MOwn.nil _ _ _ _, Own.nil _ _ _ _ _, fun b => ?_, fun g h => (by cases h), fun g h => (by cases h), fun g h => (by cases h)⟩
  · intro g hg cur t fr hh c hc
    simp only [Value.ownBlock, Option.some.injEq] at hg
    subst hg
    rw [heap_alloc_new w _] at hh
    injection hh with hh
    injection hh with e1 _ _
    subst e1
    simp at hc
    subst hc
    exact isSl_s _ _ _
  · simp [Value.ownBlock]

end Go.Proofs.Ytcoidofchofljaa

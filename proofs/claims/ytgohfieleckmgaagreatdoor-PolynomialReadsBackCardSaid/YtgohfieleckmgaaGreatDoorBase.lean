/-
  Base words of this seat's walks, proved over any program: slices that read as a list ('Sl'), their life under 'Below', owned rows, small list lemmas. No condition.
-/
import Derived.WalkKit
import Derived.WalkSpells
import Derived.WalkLawsBesides
import Derived.WalkSmall
import Derived.Deep.QuietTactic
import Derived.Laws.AppendOwnNone
namespace Go.Proofs.YtgohfieleckmgaaGreatDoor
open Go.RowKit

theorem hid {p : Prop} (h : p) : Hid p := h

/-- The slice at 'ao', of length n and capacity cap, of one-cell elements, reads xs. -/
structure Sl (w : World) (ao : Option Addr) (n cap : Nat) (xs : List Value) : Prop where
  len : xs.length = n
  le : n ≤ cap
  most : cap ≤ maxLen
  at_ : ∀ i x, xs[i]? = some x → ∃ b off, ao = some ⟨b, off, none⟩ ∧ w.cell? ⟨b, off + i, none⟩ = some x

theorem Sl.below {w w' : World} {ao : Option Addr} {n cap : Nat} {xs : List Value} (h : Sl w ao n cap xs) {B : Nat} (hb : Below B w w') (hB : w.heap.size ≤ B) : Sl w' ao n cap xs :=
  ⟨h.len, h.le, h.most, fun i x hx => by
    obtain ⟨b, off, e, hc⟩ := h.at_ i x hx
    refine ⟨b, off, e, ?_⟩
    have hlt := World.block_lt_of_cell? w _ hc
    rw [hb.cell (p := ⟨b, off + i, none⟩) (Nat.lt_of_lt_of_le hlt hB)]
    exact hc⟩

theorem Sl.next {w w' : World} {ao : Option Addr} {n cap : Nat} {xs : List Value} (h : Sl w ao n cap xs) (hb : Below w.heap.size w w') : Sl w' ao n cap xs := h.below hb (Nat.le_refl _)

theorem Sl.nil (w : World) : Sl w none 0 0 [] := ⟨rfl, Nat.le_refl _, by simp [maxLen], fun i x h => by simp at h⟩

/-- Element k of a slice of strings. -/
theorem Sl.get {w : World} {ao : Option Addr} {n cap : Nat} {α : Type} {f : α → Value} {xs : List α} (h : Sl w ao n cap (xs.map f)) {k : Nat} (hk : k < n) :
    ∃ x, xs[k]? = some x ∧ ∃ b off, ao = some ⟨b, off, none⟩ ∧ w.cell? ⟨b, off + k, none⟩ = some (f x) := by
  have hl := h.len
  simp only [List.length_map] at hl
  have hk' : k < xs.length := by omega
  refine ⟨xs[k], by simp [hk'], ?_⟩
  exact h.at_ k (f xs[k]) (by simp [hk'])

/-- The first k elements: 'a[:k]'. -/
theorem Sl.take {w : World} {ao : Option Addr} {n cap : Nat} {xs : List Value} (h : Sl w ao n cap xs) {k : Nat} (hk : k ≤ n) : Sl w ao k cap (xs.take k) :=
  ⟨by simp [h.len]; omega, by have := h.le; omega, h.most, fun i x hx => by
    rw [List.getElem?_take] at hx
    split at hx
    · exact h.at_ i x hx
    · cases hx⟩

theorem Sl.takeMap {w : World} {ao : Option Addr} {n cap : Nat} {α : Type} {f : α → Value} {xs : List α} (h : Sl w ao n cap (xs.map f)) {k : Nat} (hk : k ≤ n) : Sl w ao k cap ((xs.take k).map f) := by
  rw [List.map_take]; exact h.take hk

theorem Sl.lenMap {w : World} {ao : Option Addr} {n cap : Nat} {α : Type} {f : α → Value} {xs : List α} (h : Sl w ao n cap (xs.map f)) : xs.length = n := by
  have := h.len; simpa using this

theorem Sl.bound {w : World} {ao : Option Addr} {n cap : Nat} {xs : List Value} (h : Sl w ao n cap xs) : n ≤ 9223372036854775807 := by
  have h1 := h.le; have h2 := h.most; simp only [maxLen] at h2; omega

theorem drop_cons {α : Type} {l : List α} {k : Nat} {x : α} (h : l[k]? = some x) : l.drop k = x :: l.drop (k + 1) := by
  obtain ⟨hk, rfl⟩ := List.getElem?_eq_some_iff.1 h
  exact List.drop_eq_getElem_cons hk

theorem take_snoc {α : Type} {l : List α} {k : Nat} {x : α} (h : l[k]? = some x) : l.take (k + 1) = l.take k ++ [x] := by
  obtain ⟨hk, rfl⟩ := List.getElem?_eq_some_iff.1 h
  rw [List.take_succ_eq_append_getElem hk]

theorem retI {k : IntKind} {a b : Int} (h : a = b) : Ending.returned (.int k a) = .returned (.int k b) := by rw [h]
theorem retB {a b : Bool} (h : a = b) : Ending.returned (.bool a) = .returned (.bool b) := by rw [h]

/-- What a call owns reads as a slice. -/
theorem ownsSl {w : World} {base : Nat} {e : TypeId} {v : Value} {n : Nat} {xs : List Value} (h : w.ownsRow base e 1 v n xs) : ∃ ao cap, v = .slice ao n cap ∧ Sl w ao n cap xs := by
  obtain ⟨h1, h2⟩ := h
  rcases h2 with ⟨rfl, rfl⟩ | ⟨g, cap, cur, rfl, hg, hh, hn, hm, hcs, ht⟩
  · have : xs = [] := List.eq_nil_of_length_eq_zero (by simpa using h1)
    subst this
    exact ⟨none, 0, rfl, Sl.nil w⟩
  · refine ⟨some ⟨g, 0, none⟩, cap, rfl, by simpa using h1, hn, hm, fun i x hx => ⟨g, 0, rfl, ?_⟩⟩
    rw [cell_of_row w g (0 + i) cur e (0, 0) hh]
    rw [← ht, List.getElem?_take] at hx
    split at hx
    · simpa using hx
    · cases hx

theorem ownsRow_below {w w' : World} {base : Nat} {e : TypeId} {size : Nat} {v : Value} {n : Nat} {xs : List Value} (h : w.ownsRow base e size v n xs) {B : Nat} (hb : Below B w w') (hB : w.heap.size ≤ B) : w'.ownsRow base e size v n xs := by
  refine ⟨h.1, ?_⟩
  rcases h.2 with hn | ⟨g, cap, cur, rfl, hg, hh, r⟩
  · exact Or.inl hn
  · refine Or.inr ⟨g, cap, cur, rfl, hg, ?_, r⟩
    have hlt := (Array.getElem?_eq_some_iff.1 hh).1
    rw [hb.block g (Nat.lt_of_lt_of_le hlt hB)]
    exact hh

theorem ownsRow_mono {w : World} {base base' : Nat} {e : TypeId} {size : Nat} {v : Value} {n : Nat} {xs : List Value} (h : w.ownsRow base e size v n xs) (hb : base' ≤ base) : w.ownsRow base' e size v n xs := by
  refine ⟨h.1, ?_⟩
  rcases h.2 with hn | ⟨g, cap, cur, rfl, hg, r⟩
  · exact Or.inl hn
  · exact Or.inr ⟨g, cap, cur, rfl, by omega, r⟩

/-- Cells and marks of older blocks stand. -/
theorem bcell {W w1 : World} (hb : Below W.heap.size W w1) : (∀ b o, b < W.heap.size → w1.cell? ⟨b, o, none⟩ = W.cell? ⟨b, o, none⟩) ∧ (∀ b o, b < W.heap.size → w1.frozen? ⟨b, o, none⟩ = W.frozen? ⟨b, o, none⟩) :=
  ⟨fun b o h => hb.cell (p := ⟨b, o, none⟩) h, fun b o h => hb.frozen (p := ⟨b, o, none⟩) h⟩

theorem quiet_eq {P : Program} {f : FuncId} {args : Array Value} {w : World} {n : Nat} {v : Value}
    (h : Calls P f args (w.drewN n) fun e w' => e = .returned v ∧ w.drewN n = w') : Calls P f args (w.drewN n) fun e w'' => e = .returned v ∧ ∃ m, w'' = w.drewN m :=
  h.mono fun _ _ ⟨he, hm⟩ => ⟨he, n, hm.symm⟩

theorem Sl.drewN {w : World} {ao : Option Addr} {n cap : Nat} {xs : List Value} (h : Sl w ao n cap xs) (k : Nat) : Sl (w.drewN k) ao n cap xs :=
  ⟨h.len, h.le, h.most, fun i x hx => by
    obtain ⟨b, off, e, hc⟩ := h.at_ i x hx
    exact ⟨b, off, e, by simpa using hc⟩⟩

theorem Sl.cells {w : World} {ad : Addr} {n cap : Nat} {xs : List Value} (h : Sl w (some ad) n cap xs) : ∀ j u, xs[j]? = some u → w.cell? (ad.add j) = some u := by
  intro j u hu
  obtain ⟨b, off, e, hc⟩ := h.at_ j u hu
  obtain rfl := Option.some.inj e
  rw [Addr.add_lit]
  exact hc

theorem Sl.none_zero {w : World} {n cap : Nat} {xs : List Value} (h : Sl w none n cap xs) : n = 0 ∧ xs = [] := by
  cases xs with
  | nil => exact ⟨by have := h.len; simpa using this.symm, rfl⟩
  | cons x T' => obtain ⟨_, _, he, _⟩ := h.at_ 0 x rfl; cases he

/-- A new row of a literal. -/
theorem Sl.lit (w : World) (xs : List Value) (e : TypeId) (hm : xs.length ≤ maxLen) : Sl (w.alloc (.cells xs.toArray e)) (some ⟨w.heap.size, 0, none⟩) xs.length xs.length xs :=
  ⟨rfl, Nat.le_refl _, hm, fun i x hx => ⟨w.heap.size, 0, rfl, by
    rw [World.cell?_alloc_at _ _ _ _ rfl]; simpa using hx⟩⟩

theorem below_alloc {w : World} (o : Obj) : Below w.heap.size w (w.alloc o) := (Below.refl _ _).alloc (Nat.le_refl _) o

/-- 'append(v, x...)' where the call owns v (one cell an element). -/
theorem wp_app1 {P : Program} {w : World} {ops : Array Oper} {rest : List Oper} {o : Oper} {a : Act} {Q : Exit → Act → World → Prop} (hgd : o.guard = none) (s x : Operand) (t : TypeId)
    (ho : o.op = .call { callee := .builtin .append, args := #[s, x], argTypes := #[t, t] }) (e : TypeId) (z : Value) (bytes : Nat) (ht : P.underlying t = some (.slice e))
    (hinfo : (P.info? e).map (fun i => (i.zero, i.size, i.bytes)) = some (some z, 1, bytes)) (hzs : z.cells.size = 1)
    (base : Nat) (v : Value) (n : Nat) (xs : List Value) (hs : a.eval s = v) (hown : w.ownsRow base e 1 v n xs)
    (ao : Option Addr) (m c : Nat) (news : List Value) (hx : a.eval x = .slice ao m c) (hsl : Sl w ao m c news) (hcz : ao = none → c = 0) (h1 : ∀ u ∈ news, u.oneCell' = true)
    (hroom : n + m ≤ 4294967296) (hbytes : bytes ≤ 1000) (hbase : base ≤ w.heap.size)
    (h : ∀ v' w', w'.ownsRow base e 1 v' (n + m) (xs ++ news) → w.grownBy w' v.ownBlock → Below base w w' → wpList P ops Q rest (a.put o.dst v') w') : wpList P ops Q (o :: rest) a w := by
  obtain ⟨i, hi, hz, hsz, hby⟩ := info_parts hinfo
  cases ao with
  | none =>
    obtain ⟨rfl, rfl⟩ := hsl.none_zero
    obtain rfl := hcz rfl
    refine wpList_append_own_none hgd s x t ho base e i 1 ht hi v n xs hs hown hx ?_
    exact h v w (by simpa using hown) (World.grownBy.refl _ _) (Below.refl _ _)
  | some ad =>
    refine wpList_append_own _ hgd s x t ho base e i z 1 bytes ht hi hz hsz hby hzs (by decide) v n xs hs hown ad m c news hx (by rw [hsl.len]; simp) hsl.cells h1 (by unfold maxLen; omega) ?_ hbase ?_
    · calc (n + m) * bytes ≤ 4294967296 * 1000 := Nat.mul_le_mul hroom hbytes
        _ ≤ 140737488355328 := by decide
    · intro v' w' ho' hg _
      exact h v' w' ho' hg ((Below.refl _ _).grown hg hbase (fun k hk => (hown.lt k hk).1))

theorem one_strs (T : List ByteArray) : ∀ u ∈ T.map Value.string, u.oneCell' = true := by
  intro u hu; obtain ⟨_, _, rfl⟩ := List.mem_map.1 hu; rfl
theorem one_ints (k : IntKind) (T : List Int) : ∀ u ∈ T.map (Value.int k), u.oneCell' = true := by
  intro u hu; obtain ⟨_, _, rfl⟩ := List.mem_map.1 hu; rfl

/-- Two owned rows of different elements are two. -/
theorem own_ne {w : World} {b1 b2 : Nat} {e1 e2 : TypeId} {s1 s2 : Nat} {v1 v2 : Value} {n1 n2 : Nat} {x1 x2 : List Value} (h1 : w.ownsRow b1 e1 s1 v1 n1 x1) (h2 : w.ownsRow b2 e2 s2 v2 n2 x2) (he : e1 ≠ e2) :
    v1.ownBlock = none ∨ v1.ownBlock ≠ v2.ownBlock := by
  rcases h1.2 with ⟨rfl, _⟩ | ⟨g1, c1, cur1, rfl, _, hh1, _⟩
  · exact Or.inl rfl
  · refine Or.inr fun hb => ?_
    rcases h2.2 with ⟨rfl, _⟩ | ⟨g2, c2, cur2, rfl, _, hh2, _⟩
    · cases hb
    · simp only [Value.ownBlock, Option.some.injEq] at hb
      subst hb
      rw [hh1] at hh2
      injection hh2 with hh2
      injection hh2 with _ hh2 _
      exact he hh2

/-- '[]byte(s)': a new row with the bytes of s. -/
theorem bytes_of {P : Program} (w : World) (src dst e : TypeId) (s : ByteArray) (hs : P.underlying src = some .string) (hd : P.underlying dst = some (.slice e)) (he : P.underlying e = some (.int .u8)) (hz : s.size ≤ maxLen) :
    ∃ cap W1, (convert src dst (.string s)).run P w = .ok (.slice (some ⟨w.heap.size, 0, none⟩) s.size cap) W1 ∧ Below w.heap.size w W1 ∧ Sl W1 (some ⟨w.heap.size, 0, none⟩) s.size cap (s.data.toList.map fun c => .int .u8 c.toNat) := by
  refine ⟨_, _, run_bytes_of_string (P := P) w src dst e s hs hd he, (((Below.refl _ _).drew).alloc (Nat.le_refl _) _), by rw [List.length_map, Array.length_toList]; rfl, grownCap_ge _ _ _ _, grownCap_le_maxLen _ _ _ _ hz, fun i x hx => ⟨w.heap.size, 0, rfl, ?_⟩⟩
  have hh : (w.drew.alloc (.cells (bytesRow s (grownCap w s.size 0 e)) e ((bytesRow s (grownCap w s.size 0 e)).size, (bytesRow s (grownCap w s.size 0 e)).size + 1))).heap[w.heap.size]? = some _ := heap_alloc_new w.drew _
  rw [cell_of_row _ w.heap.size (0 + i) _ e _ hh]
  rw [Nat.zero_add]
  rw [List.getElem?_map, Array.getElem?_toList] at hx
  cases hc : s.data[i]? with
  | none => rw [hc] at hx; cases hx
  | some c =>
    rw [hc] at hx
    obtain rfl := Option.some.inj hx
    obtain ⟨hi, rfl⟩ := Array.getElem?_eq_some_iff.1 hc
    exact bytesRow_at s _ i hi

end Go.Proofs.YtgohfieleckmgaaGreatDoor

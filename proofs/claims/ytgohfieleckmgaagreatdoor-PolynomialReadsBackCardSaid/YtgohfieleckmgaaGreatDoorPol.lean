/-
  Lists of monomials in memory: read (Pol, PolC), and the call's own (POwn). No condition but sizes.
-/
import Derived.Test.YtgohfieleckmgaaGreatDoorPlyS
import Derived.Test.YtgohfieleckmgaaGreatDoorRatY
import Derived.Test.YtgohfieleckmgaaGreatDoorRefY
import Derived.Test.YtgohfieleckmgaaGreatDoorOwn
namespace Go.Proofs.YtgohfieleckmgaaGreatDoor
open Go.RowKit
set_option linter.unusedSimpArgs false
set_option linter.unusedVariables false

/-- A monomial as it lies in memory: exponents, a sign, two lists of limbs. -/
abbrev Mo := Xp × Bool × (Option Addr × Nat × Nat) × (Option Addr × Nat × Nat)
def encM (m : Mo) : List Value := [.int .i64 m.1.1, .int .i64 m.1.2.1, .int .i64 m.1.2.2, .bool m.2.1, .slice m.2.2.1.1 m.2.2.1.2.1 m.2.2.1.2.2, .slice m.2.2.2.1 m.2.2.2.2.1 m.2.2.2.2.2]
def ratM (m : Mo) : Value := .agg #[.bool m.2.1, .slice m.2.2.1.1 m.2.2.1.2.1 m.2.2.1.2.2, .slice m.2.2.2.1 m.2.2.2.2.1 m.2.2.2.2.2]

/-- A cell of a monomial. -/
def IsMon (v : Value) : Prop := (∃ z, v = .int .i64 z) ∨ (∃ b, v = .bool b) ∨ ∃ a n c, v = .slice a n c
theorem isMon_u32 (x : Nat) : ¬ IsMon (.int .u32 (x : Int)) := by rintro (⟨z, h⟩ | ⟨b, h⟩ | ⟨a, n, c, h⟩) <;> cases h
theorem isMon_enc (m : Mo) : ∀ u ∈ encM m, IsMon u := by
  intro u hu
  simp only [encM, List.mem_cons, List.not_mem_nil, or_false] at hu
  rcases hu with rfl | rfl | rfl | rfl | rfl | rfl
  · exact .inl ⟨_, rfl⟩
  · exact .inl ⟨_, rfl⟩
  · exact .inl ⟨_, rfl⟩
  · exact .inr (.inl ⟨_, rfl⟩)
  · exact .inr (.inr ⟨_, _, _, rfl⟩)
  · exact .inr (.inr ⟨_, _, _, rfl⟩)
theorem one_enc (m : Mo) : ∀ u ∈ encM m, u.oneCell' = true := by
  intro u hu
  simp only [encM, List.mem_cons, List.not_mem_nil, or_false] at hu
  rcases hu with rfl | rfl | rfl | rfl | rfl | rfl <;> rfl
theorem len_enc (m : Mo) : (encM m).length = 6 := rfl

/-- Six cells from offset o on. -/
def Hex (w : World) (b o : Nat) (m : Mo) : Prop := ∀ c v, (encM m)[c]? = some v → w.cell? ⟨b, o + c, none⟩ = some v
theorem Hex.cells {w : World} {b o : Nat} {m : Mo} (h : Hex w b o m) : w.cell? ⟨b, o, none⟩ = some (.int .i64 m.1.1) ∧ w.cell? ⟨b, o + 1, none⟩ = some (.int .i64 m.1.2.1) ∧ w.cell? ⟨b, o + 2, none⟩ = some (.int .i64 m.1.2.2) ∧
    w.cell? ⟨b, o + 3, none⟩ = some (.bool m.2.1) ∧ w.cell? ⟨b, o + 4, none⟩ = some (.slice m.2.2.1.1 m.2.2.1.2.1 m.2.2.1.2.2) ∧ w.cell? ⟨b, o + 5, none⟩ = some (.slice m.2.2.2.1 m.2.2.2.2.1 m.2.2.2.2.2) :=
  ⟨h 0 _ rfl, h 1 _ rfl, h 2 _ rfl, h 3 _ rfl, h 4 _ rfl, h 5 _ rfl⟩
theorem Hex.of {w : World} {b o : Nat} {m : Mo} (h0 : w.cell? ⟨b, o, none⟩ = some (.int .i64 m.1.1)) (h1 : w.cell? ⟨b, o + 1, none⟩ = some (.int .i64 m.1.2.1)) (h2 : w.cell? ⟨b, o + 2, none⟩ = some (.int .i64 m.1.2.2))
    (h3 : w.cell? ⟨b, o + 3, none⟩ = some (.bool m.2.1)) (h4 : w.cell? ⟨b, o + 4, none⟩ = some (.slice m.2.2.1.1 m.2.2.1.2.1 m.2.2.1.2.2)) (h5 : w.cell? ⟨b, o + 5, none⟩ = some (.slice m.2.2.2.1 m.2.2.2.2.1 m.2.2.2.2.2)) : Hex w b o m := by
  intro c v hv
  rcases c with _ | _ | _ | _ | _ | _ | c
  · obtain rfl := Option.some.inj hv; exact h0
  · obtain rfl := Option.some.inj hv; exact h1
  · obtain rfl := Option.some.inj hv; exact h2
  · obtain rfl := Option.some.inj hv; exact h3
  · obtain rfl := Option.some.inj hv; exact h4
  · obtain rfl := Option.some.inj hv; exact h5
  · simp [encM] at hv
theorem Hex.lt {w : World} {b o : Nat} {m : Mo} (h : Hex w b o m) : b < w.heap.size := World.block_lt_of_cell? w _ (h 0 _ rfl)
theorem Hex.below {w w' : World} {b o B : Nat} {m : Mo} (h : Hex w b o m) (hb : Below B w w') (hB : b < B) : Hex w' b o m := fun c v hv => by
  rw [hb.cell (p := ⟨b, o + c, none⟩) hB]; exact h c v hv
theorem Hex.next {w w' : World} {b o : Nat} {m : Mo} (h : Hex w b o m) (hb : Below w.heap.size w w') : Hex w' b o m := h.below hb h.lt
/-- A monomial's new variable. -/
theorem Hex.fresh (w : World) (m : Mo) (t : TypeId) : Hex (w.alloc (.cells (encM m).toArray t)) w.heap.size 0 m := fun c v hv => by
  rw [World.cell?_alloc_at _ _ _ _ rfl]; simpa using hv

/-- A slice of monomials that reads as l. -/
def Pol (R : World → Value → Rat → Prop) (w : World) (ao : Option Addr) (n cap : Nat) (l : List Mr) : Prop :=
  l.length = n ∧ n ≤ cap ∧ cap ≤ maxLen ∧ (ao = none → cap = 0) ∧ ∀ (i : Nat) (m : Mr), l[i]? = some m → ∃ b o, ao = some ⟨b, o, none⟩ ∧ ∃ x : Mo, Hex w b (o + i * 6) x ∧ x.1 = m.1 ∧ R w (ratM x) m.2

section
variable {R : World → Value → Rat → Prop} {w w' : World} {ao : Option Addr} {n cap : Nat} {l : List Mr}
theorem Pol.stay (h : Pol R w ao n cap l) (hb : Below w.heap.size w w') (hR : ∀ v q, R w v q → R w' v q) : Pol R w' ao n cap l := by
  obtain ⟨h0, h1, h2, h3, h4⟩ := h
  refine ⟨h0, h1, h2, h3, fun i m hm => ?_⟩
  obtain ⟨b, o, e, x, hx, he, hr⟩ := h4 i m hm
  exact ⟨b, o, e, x, hx.next hb, he, hR _ _ hr⟩
theorem Pol.nextV (h : Pol RatV w ao n cap l) (hb : Below w.heap.size w w') : Pol RatV w' ao n cap l := h.stay hb fun _ _ h => h.next hb
theorem Pol.nextC (h : Pol RatC w ao n cap l) (hb : Below w.heap.size w w') : Pol RatC w' ao n cap l := h.stay hb fun _ _ h => h.next hb
theorem Pol.nil (R : World → Value → Rat → Prop) (w : World) : Pol R w none 0 0 [] := ⟨rfl, Nat.le_refl _, by simp [maxLen], fun _ => rfl, fun i m h => by simp at h⟩
theorem Pol.bound (h : Pol R w ao n cap l) : n ≤ 9223372036854775807 := by
  have := h.2.1; have := h.2.2.1; unfold maxLen at *; omega
theorem Pol.get (h : Pol R w ao n cap l) {i : Nat} (hi : i < n) : ∃ m, l[i]? = some m ∧ ∃ b o, ao = some ⟨b, o, none⟩ ∧ ∃ x : Mo, Hex w b (o + i * 6) x ∧ x.1 = m.1 ∧ R w (ratM x) m.2 := by
  have hl : i < l.length := by rw [h.1]; exact hi
  exact ⟨_, List.getElem?_eq_getElem hl, h.2.2.2.2 i _ (List.getElem?_eq_getElem hl)⟩
/-- The element i, its parts one by one. -/
theorem Pol.at_ (h : Pol R w ao n cap l) {i : Nat} (hi : i < n) : ∃ b o x y z s xo xn xc yo yn yc q, l[i]? = some ((x, y, z), q) ∧ ao = some ⟨b, o, none⟩ ∧ Hex w b (o + i * 6) ((x, y, z), s, (xo, xn, xc), (yo, yn, yc)) ∧ R w (.agg #[.bool s, .slice xo xn xc, .slice yo yn yc]) q := by
  obtain ⟨⟨e, q⟩, hm, b, o, ea, ⟨⟨x, y, z⟩, s, ⟨xo, xn, xc⟩, yo, yn, yc⟩, hx, he, hr⟩ := h.get hi
  simp only at he
  subst he
  exact ⟨b, o, x, y, z, s, xo, xn, xc, yo, yn, yc, q, hm, ea, hx, hr⟩
theorem Pol.len (h : Pol R w ao n cap l) : l.length = n := h.1
theorem Pol.toV {k : Nat} (h : Pol RatC w ao n cap l) (hf : ∀ m ∈ l, Fit k m.2) (hk : k ≤ 17179869184) : Pol RatV w ao n cap l := by
  obtain ⟨h0, h1, h2, h3, h4⟩ := h
  refine ⟨h0, h1, h2, h3, fun i m hm => ?_⟩
  obtain ⟨b, o, e, x, hx, he, hr⟩ := h4 i m hm
  exact ⟨b, o, e, x, hx, he, hr.toV (hf m (List.mem_of_getElem? hm)) hk⟩
theorem Pol.take (h : Pol R w ao n cap l) {k : Nat} (hk : k ≤ n) : Pol R w ao k cap (l.take k) := by
  obtain ⟨h0, h1, h2, h3, h4⟩ := h
  refine ⟨by rw [List.length_take]; omega, Nat.le_trans hk h1, h2, h3, fun i m hm => ?_⟩
  rw [List.getElem?_take] at hm
  split at hm
  · exact h4 i m hm
  · cases hm
end

/-- A rational that is not 0 lies there in its only representation. -/
theorem RatV.toC {w : World} {v : Value} {q : Rat} (h : RatV w v q) (hq : q ≠ 0) : RatC w v q := by
  obtain ⟨neg, N, D, ao, bo, n, cap, m, cap', rfl, sN, sD, hN, hD, hza, hzb, hn, hm, rfl⟩ := h
  have hok : ratOk neg N D = true := by
    cases hb : ratOk neg N D with
    | true => rfl
    | false => unfold ratOf at hq; rw [hb] at hq; exact absurd rfl hq
  obtain ⟨f1, f2, f3⟩ := ratOk_facts hN hD hok
  refine ⟨ao, bo, n, cap, m, cap', ?_, ?_, ?_, hza, hzb⟩
  · rw [← f2]
  · rw [← f1]; exact sN
  · unfold denL
    have hd : ∀ k : Nat, dig k = [] → k = 0 := fun k => dig_nil.1
    by_cases hD0 : D = []
    · rw [if_pos hD0] at f3
      rw [if_pos f3, ← hD0]; exact sD
    · rw [if_neg hD0] at f3
      have : ¬ (ratOf neg N D).den = 1 := fun e => by
        have hk := hok
        unfold ratOk at hk
        have hN0 : N ≠ [] := fun e0 => by
          apply hq
          have h1 := f1.symm.trans e0
          exact Rat.num_eq_zero.1 (Int.natAbs_eq_zero.1 (hd _ h1))
        rw [if_neg hN0, if_neg hD0] at hk
        simp only [Bool.and_eq_true, decide_eq_true_eq] at hk
        have h1 : val D ≠ 1 := hk.2.1
        apply h1
        rw [f3, val_dig, e]
      rw [if_neg this, ← f3]; exact sD

/-- The polynomial P, each coefficient in its only representation. -/
def PolC (w : World) (ao : Option Addr) (cap : Nat) (P : Pl) : Prop := Pol RatC w ao (lst P).length cap ((lst P).map toM)
theorem PolC.next {w w' : World} {ao : Option Addr} {cap : Nat} {P : Pl} (h : PolC w ao cap P) (hb : Below w.heap.size w w') : PolC w' ao cap P := Pol.nextC h hb
theorem PolC.congr {w : World} {ao : Option Addr} {cap : Nat} {P Q : Pl} (h : PolC w ao cap P) (he : EqP P Q) : PolC w ao cap Q := by
  unfold PolC at *; rw [← lst_congr he]; exact h
/-- An argument that reads as P: the zero polynomial where it is none. -/
def PolV (w : World) (v : Value) (P : Pl) : Prop := ∃ ao n cap l, v = .slice ao n cap ∧ Pol RatV w ao n cap l ∧ EqP (polOf l) P
theorem PolV.next {w w' : World} {v : Value} {P : Pl} (h : PolV w v P) (hb : Below w.heap.size w w') : PolV w' v P := by
  obtain ⟨ao, n, cap, l, e, hl, hp⟩ := h
  exact ⟨ao, n, cap, l, e, hl.nextV hb, hp⟩
theorem PolV.congr {w : World} {v : Value} {P Q : Pl} (h : PolV w v P) (he : EqP P Q) : PolV w v Q := by
  obtain ⟨ao, n, cap, l, e, hl, hp⟩ := h
  exact ⟨ao, n, cap, l, e, hl, hp.trans he⟩
theorem PolC.toV {w : World} {ao : Option Addr} {cap k : Nat} {P : Pl} (h : PolC w ao cap P) (hf : FitP k P) (hk : k ≤ 17179869184) : PolV w (.slice ao (lst P).length cap) P :=
  ⟨ao, _, cap, _, rfl, Pol.toV h (fun m hm => by obtain ⟨x, hx, rfl⟩ := List.mem_map.1 hm; exact hf.mem hx) hk, polOf_of P⟩
/-- A polynomial comes back. -/
def PolOut (w : World) (P : Pl) (e : Ending) (w' : World) : Prop := ∃ ao cap, e = .returned (.slice ao (lst P).length cap) ∧ PolC w' ao cap P ∧ Below w.heap.size w w'
theorem PolOut.congr {w w' : World} {P Q : Pl} {e : Ending} (h : PolOut w P e w') (he : EqP P Q) : PolOut w Q e w' := by
  obtain ⟨ao, cap, e1, e2, e3⟩ := h
  exact ⟨ao, cap, by rw [← lst_congr he]; exact e1, e2.congr he, e3⟩
/-- The element i of a polynomial. -/
theorem PolC.at_ {w : World} {ao : Option Addr} {cap : Nat} {P : Pl} (h : PolC w ao cap P) {i : Nat} (hi : i < (lst P).length) :
    ∃ b o e q s xo xn xc yo yn yc, (lst P)[i]? = some (e, q) ∧ ao = some ⟨b, o, none⟩ ∧ Hex w b (o + i * 6) (exI e, s, (xo, xn, xc), (yo, yn, yc)) ∧ RatC w (.agg #[.bool s, .slice xo xn xc, .slice yo yn yc]) q := by
  obtain ⟨b, o, x, y, z, s, xo, xn, xc, yo, yn, yc, q, hm, ea, hx, hr⟩ := Pol.at_ h hi
  rw [List.getElem?_map] at hm
  obtain ⟨⟨e, q'⟩, hl, he⟩ := Option.map_eq_some_iff.1 hm
  simp only [toM, Prod.mk.injEq] at he
  obtain ⟨he, rfl⟩ := he
  exact ⟨b, o, e, q', s, xo, xn, xc, yo, yn, yc, hl, ea, by rw [he]; exact hx, hr⟩

/-! ### The call's own -/
/-- A monomial as it lies in memory, with the number that its coefficient reads as. -/
abbrev Mp := Mo × Rat
def encP (p : Mp) : List Value := encM p.1
/-- How a list of them reads. -/
def rdP (ps : List Mp) : List Mr := ps.map fun p => (p.1.1, p.2)
/-- A slice of monomials of the call's own. -/
def POwn (w : World) (base : Nat) (v : Value) (n : Nat) (ps : List Mp) : Prop :=
  Own IsMon w base 59 6 v n (ps.flatMap encP) ∧ ps.length = n ∧ ∀ p ∈ ps, RatC w (ratM p.1) p.2

theorem len_flat : ∀ ps : List Mp, (ps.flatMap encP).length = ps.length * 6
  | [] => rfl
  | x :: ps => by rw [List.flatMap_cons, List.length_append, len_flat ps, encP, len_enc, List.length_cons]; omega
theorem get_flat : ∀ (ps : List Mp) (i c : Nat) (x : Mp), ps[i]? = some x → c < 6 → (ps.flatMap encP)[i * 6 + c]? = (encM x.1)[c]?
  | [], i, c, x, h, _ => by simp at h
  | y :: ps, i, c, x, h, hc => by
    rw [List.flatMap_cons, encP]
    rcases i with _ | i
    · simp only [List.getElem?_cons_zero, Option.some.injEq] at h
      subst h
      rw [List.getElem?_append_left (by rw [len_enc]; omega)]
      congr 1; omega
    · rw [List.getElem?_append_right (by rw [len_enc]; omega), len_enc, show (i + 1) * 6 + c - 6 = i * 6 + c by omega]
      exact get_flat ps i c x (by simpa using h) hc
theorem mem_flat {ps : List Mp} {u : Value} (h : u ∈ ps.flatMap encP) : IsMon u ∧ u.oneCell' = true := by
  obtain ⟨y, _, hu⟩ := List.mem_flatMap.1 h
  exact ⟨isMon_enc _ u hu, one_enc _ u hu⟩

section
variable {w w' : World} {base n : Nat} {v : Value} {ps : List Mp}
theorem POwn.next (h : POwn w base v n ps) (hb : Below w.heap.size w w') : POwn w' base v n ps := by
  obtain ⟨h1, h2, h3⟩ := h
  exact ⟨h1.below hb, h2, fun p hp => (h3 p hp).next hb⟩
theorem POwn.nil (w : World) (base : Nat) : POwn w base (.slice none 0 0) 0 [] := ⟨Own.nil _ _ _ _ _, rfl, fun p h => by cases h⟩
theorem POwn.mono {base' : Nat} (h : POwn w base v n ps) (hb : base' ≤ base) : POwn w base' v n ps := ⟨⟨ownsRow_mono h.1.1 hb, h.1.2⟩, h.2⟩
/-- To be read. -/
theorem POwn.pol (h : POwn w base v n ps) : ∃ ao cap, v = .slice ao n cap ∧ Pol RatC w ao n cap (rdP ps) := by
  obtain ⟨⟨h1, _⟩, h2, h3⟩ := h
  have hc := h1
  rcases h1.2 with ⟨rfl, hx⟩ | ⟨g, cap, cur, rfl, hb, hg, hnc, hcm, hcs, htake⟩
  · subst hx
    obtain rfl := List.eq_nil_of_length_eq_zero h2
    exact ⟨none, 0, rfl, Pol.nil _ _⟩
  · refine ⟨_, cap, rfl, by rw [rdP, List.length_map]; exact h2, hnc, hcm, fun h => by (cases h), fun i m hm => ?_⟩
    rw [rdP, List.getElem?_map] at hm
    obtain ⟨p, hp, rfl⟩ := Option.map_eq_some_iff.1 hm
    have hi : i < n := by rw [← h2]; exact (List.getElem?_eq_some_iff.1 hp).1
    refine ⟨g, 0, rfl, p.1, fun c u hu => ?_, rfl, h3 p (List.mem_of_getElem? hp)⟩
    have hc6 : c < 6 := by
      have := (List.getElem?_eq_some_iff.1 hu).1; rw [len_enc] at this; exact this
    rw [Nat.zero_add, hc.cellAt _ (by omega), get_flat ps i c _ hp hc6]
    exact hu
/-- Other blocks are written. -/
theorem POwn.kept {row : Option Nat} (h : POwn w base v n ps) (hg : w.grownBy w' row) (hv : ∀ g, v.ownBlock = some g → some g ≠ row) (hR : ∀ u q, RatC w u q → RatC w' u q) : POwn w' base v n ps := by
  obtain ⟨h1, h2, h3⟩ := h
  exact ⟨h1.same fun g hgb => hg.block g (h1.lt hgb).2 (hv g hgb), h2, fun p hp => hR _ _ (h3 p hp)⟩
end

theorem Tryz.infoMon : (Tryz.prog.info? 59).map (fun i => (i.zero, i.size, i.bytes)) = some (some (.agg #[.int .i64 0, .int .i64 0, .int .i64 0, .bool false, .slice none 0 0, .slice none 0 0]), 6, 80) := by kernel_rfl

theorem isMon_zero : ∀ c ∈ (Value.agg #[.int .i64 0, .int .i64 0, .int .i64 0, .bool false, .slice none 0 0, .slice none 0 0]).cells, IsMon c := by
  intro c hc
  have hc : c ∈ encM ((0, 0, 0), false, (none, 0, 0), (none, 0, 0)) := by simpa [Value.cells, encM] using hc
  exact isMon_enc _ c hc

/-- 'append' of monomials that lie in memory, as a run. -/
theorem POwn.append {w : World} {base n : Nat} {v : Value} {ps : List Mp} (h : POwn w base v n ps) (ty : TypeId) (b o m c : Nat) (ys : List Mp) (hm : ys.length = m) (h0 : 0 < m)
    (hcell : ∀ (i : Nat) (y : Mp), ys[i]? = some y → Hex w b (o + i * 6) y.1) (hr : ∀ y ∈ ys, RatC w (ratM y.1) y.2) (hn : n ≤ 1000000000) (hm2 : m ≤ 1000000000) (hbase : base ≤ w.heap.size) :
    ∃ v' w', (Builtin.append_ #[22, 22] ty #[v, .slice (some ⟨b, o, none⟩) m c]).run Tryz.prog w = .ok v' w' ∧ POwn w' base v' (n + m) (ps ++ ys) ∧ w.grownBy w' v.ownBlock ∧ Below base w w' ∧ (v'.ownBlock = v.ownBlock ∨ v'.ownBlock = some w.heap.size) := by
  obtain ⟨hown, h2, h3⟩ := h
  obtain ⟨i, hi, hz0, hsz, hby⟩ := info_parts Tryz.infoMon
  obtain ⟨v', w', hrun, k1, k2, k4⟩ := hown.append (P := Tryz.prog) 22 ty i _ 80 Tryz.underlying22 hi hz0 hsz hby rfl (by decide) isMon_zero
    ⟨b, o, none⟩ m c (ys.flatMap encP) (by rw [len_flat, hm])
    (by
      intro j u hu
      rw [Addr.add_lit]
      have hj : j < ys.length * 6 := by rw [← len_flat]; exact (List.getElem?_eq_some_iff.1 hu).1
      have hj2 : j / 6 < ys.length := by omega
      have hy : ys[j / 6]? = some ys[j / 6] := List.getElem?_eq_getElem hj2
      have := hcell (j / 6) _ hy (j % 6) u (by rw [← get_flat ys (j / 6) (j % 6) _ hy (by omega), show j / 6 * 6 + j % 6 = j by omega]; exact hu)
      rw [show o + j = o + j / 6 * 6 + j % 6 by omega]
      exact this)
    (fun u hu => (mem_flat hu).2) (fun u hu => (mem_flat hu).1)
    h0 (by unfold maxLen; omega) (by omega) hbase
  refine ⟨v', w', hrun, ⟨by rw [List.flatMap_append]; exact k1, by rw [List.length_append]; omega, ?_⟩, k2, (Below.refl _ _).grown k2 hbase (fun k hk => (hown.1.lt k hk).1), k4⟩
  intro p hp
  rcases List.mem_append.1 hp with hp | hp
  · exact (h3 p hp).grownU hown isMon_u32 k2
  · exact (hr p hp).grownU hown isMon_u32 k2
theorem hex_one {w : World} {b o : Nat} {y : Mp} (h : Hex w b o y.1) : ∀ (i : Nat) (z : Mp), [y][i]? = some z → Hex w b (o + i * 6) z.1 := by
  intro i z hz
  rcases i with _ | i
  · simp only [List.getElem?_cons_zero, Option.some.injEq] at hz
    subst hz; simpa using h
  · simp at hz

/-- 'append' as an operation. -/
theorem op_appP {w : World} {o : Oper} {a : Act} {K : Act → World → Prop} {Q : Exit → Act → World → Prop} (s x : Operand)
    (ho : o.op = .call { callee := .builtin .append, args := #[s, x], argTypes := #[22, 22] })
    (base : Nat) (v : Value) (n : Nat) (ps : List Mp) (hs : a.eval s = v) (hown : POwn w base v n ps) (b off m c : Nat) (hx : a.eval x = .slice (some ⟨b, off, none⟩) m c) (ys : List Mp) (hm : ys.length = m) (h0 : 0 < m)
    (hcell : ∀ (i : Nat) (y : Mp), ys[i]? = some y → Hex w b (off + i * 6) y.1) (hr : ∀ y ∈ ys, RatC w (ratM y.1) y.2) (hn : n ≤ 1000000000) (hm2 : m ≤ 1000000000) (hbase : base ≤ w.heap.size)
    (h : ∀ v' w', POwn w' base v' (n + m) (ps ++ ys) → w.grownBy w' v.ownBlock → Below base w w' → (v'.ownBlock = v.ownBlock ∨ v'.ownBlock = some w.heap.size) → K (a.put o.dst v') w') : Oper.wp Tryz.prog o a w K Q := by
  obtain ⟨v', w', hrun, h1, h2, h3, h4⟩ := hown.append o.type b off m c ys hm h0 hcell hr hn hm2 hbase
  unfold Oper.wp execOp
  simp only [ho, resolve, invoke, builtin, Sem.run_bind, Sem.run_pure, Result.andThen_ok, List.map_toArray, List.map_cons, List.map_nil, hs, hx, hrun]
  exact h v' w' h1 h2 h3 h4
theorem wp_appP {w : World} {ops : Array Oper} {rest : List Oper} {o : Oper} {a : Act} {Q : Exit → Act → World → Prop} (hgd : o.guard = none) (s x : Operand)
    (ho : o.op = .call { callee := .builtin .append, args := #[s, x], argTypes := #[22, 22] })
    (base : Nat) (v : Value) (n : Nat) (ps : List Mp) (hs : a.eval s = v) (hown : POwn w base v n ps) (b off m c : Nat) (hx : a.eval x = .slice (some ⟨b, off, none⟩) m c) (ys : List Mp) (hm : ys.length = m) (h0 : 0 < m)
    (hcell : ∀ (i : Nat) (y : Mp), ys[i]? = some y → Hex w b (off + i * 6) y.1) (hr : ∀ y ∈ ys, RatC w (ratM y.1) y.2) (hn : n ≤ 1000000000) (hm2 : m ≤ 1000000000) (hbase : base ≤ w.heap.size)
    (h : ∀ v' w', POwn w' base v' (n + m) (ps ++ ys) → w.grownBy w' v.ownBlock → Below base w w' → (v'.ownBlock = v.ownBlock ∨ v'.ownBlock = some w.heap.size) → wpList Tryz.prog ops Q rest (a.put o.dst v') w') : wpList Tryz.prog ops Q (o :: rest) a w :=
  wpList_plain hgd fun _ hK => op_appP s x ho base v n ps hs hown b off m c hx ys hm h0 hcell hr hn hm2 hbase fun v' w' h1 h2 h3 h4 => hK _ _ (h v' w' h1 h2 h3 h4)
/-- .. of nothing. -/
theorem wp_appP0 {w : World} {ops : Array Oper} {rest : List Oper} {o : Oper} {a : Act} {Q : Exit → Act → World → Prop} (hgd : o.guard = none) (s x : Operand)
    (ho : o.op = .call { callee := .builtin .append, args := #[s, x], argTypes := #[22, 22] })
    (base : Nat) (v : Value) (n : Nat) (ps : List Mp) (hs : a.eval s = v) (hown : POwn w base v n ps) (hx : a.eval x = .slice none 0 0)
    (h : wpList Tryz.prog ops Q rest (a.put o.dst v) w) : wpList Tryz.prog ops Q (o :: rest) a w := by
  obtain ⟨i, hi, _⟩ := info_parts Tryz.infoMon
  exact wpList_append_own_none hgd s x 22 ho base 59 i 6 Tryz.underlying22 hi v n _ hs hown.1.1 hx h
end Go.Proofs.YtgohfieleckmgaaGreatDoor

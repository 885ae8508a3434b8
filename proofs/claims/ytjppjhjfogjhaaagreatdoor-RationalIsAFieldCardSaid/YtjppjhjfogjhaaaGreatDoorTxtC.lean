/-
  The contract of limbs.digits. No condition but sizes.
-/
import Derived.Test.YtjppjhjfogjhaaaGreatDoorTxtB
import Derived.Test.YtjppjhjfogjhaaaGreatDoorOwn
import Derived.Deep.LoopGhost
namespace Go.Proofs.YtjppjhjfogjhaaaGreatDoor
open Go.RowKit Go.Lib Go.Sort
set_option linter.unusedSimpArgs false
set_option linter.unusedVariables false

theorem Tryz.infoStr : (Tryz.prog.info? 9).map (fun i => (i.zero, i.size, i.bytes)) = some (some (.string ByteArray.empty), 1, 16) := by kernel_rfl

/-- Strings. -/
def IsStr (v : Value) : Prop := ∃ s, v = .string s
theorem isStr_u32 (x : Nat) : ¬ IsStr (.int .u32 (x : Int)) := by rintro ⟨s, h⟩; cases h

theorem strs_cells (Xs : List ByteArray) : Xs.map Value.string = (Xs.map (·.data.toList)).map encStr := Go.Joins.strings_enc Xs

/-- slices.Reverse of a row of strings that the call owns. -/
theorem reverse_ownS (base : Nat) (v : Value) (n : Nat) (l : List ByteArray) (w : World) (h : w.ownsRow base 9 1 v n (l.map .string)) (hbig : n ≤ 9223372036854775807) :
    Calls Tryz.prog 96 #[v] w fun e w' => e = .returned (.tuple #[]) ∧ w'.ownsRow base 9 1 v n (l.reverse.map .string) ∧ Below base w w' := by
  have hl : l.length = n := by have := h.1; simpa using this
  rcases h.2 with ⟨rfl, h0⟩ | ⟨g, cap, cur, rfl, hb, _⟩
  · subst h0
    obtain rfl : l = [] := List.eq_nil_of_length_eq_zero hl
    refine (Tryz.slices_Reverse_string_empty none 0 w).mono ?_
    rintro e w' ⟨rfl, rfl⟩
    exact ⟨rfl, h, Below.refl _ _⟩
  · refine (Tryz.slices_Reverse_string_cells g 0 n cap (fun i => l.getD i ByteArray.empty) w hbig ?_ ?_).mono ?_
    · intro j hj
      rw [Nat.zero_add, h.cellAt j (by omega)]
      simp [List.getD, show j < l.length by omega]
    · intro j hj
      exact h.frozenAt _
    · rintro e w' ⟨rfl, q, rfl⟩
      have hq : (w.drewN q).ownsRow base 9 1 (.slice (some ⟨g, 0, none⟩) n cap) n (l.map .string) := ownsRow_below h (B := (w.heap.size)) ⟨rfl, rfl, rfl, Nat.le_refl _, fun _ _ => rfl⟩ (Nat.le_refl _)
      have e0 : (Lib.strsOf (fun i => l.getD i ByteArray.empty) n).reverse.map encStr = l.reverse.map .string := by
        rw [strs_cells, List.map_reverse, List.map_reverse]
        congr 2
        unfold Lib.strsOf
        apply List.ext_getElem
        · simp [hl]
        · intro i h1 h2
          simp at h1 h2
          simp [List.getD, ← hl, show l.length - 1 - i < l.length by omega]
      rw [e0]
      obtain ⟨k1, k2⟩ := own_setCells (l.reverse.map .string) 0 _ _ hq (by simp; omega)
      have e1 : (l.map Value.string).take 0 ++ (l.reverse.map Value.string ++ (l.map Value.string).drop (0 + (l.reverse.map Value.string).length)) = l.reverse.map Value.string := by
        have : (l.map Value.string).drop (0 + (l.reverse.map Value.string).length) = [] := List.drop_of_length_le (by simp)
        rw [this]; simp
      rw [e1] at k1
      exact ⟨rfl, k1, Below.trans (b := w.drewN q) ⟨rfl, rfl, rfl, Nat.le_refl _, fun _ _ => rfl⟩ (k2 hb base hb)⟩

/-- The bytes of texts, one behind the other. -/
def catS (P : List ByteArray) : List UInt8 := (P.map (·.data.toList)).flatten
theorem catS_rev (P : List ByteArray) (s : ByteArray) : catS (P ++ [s]).reverse = s.data.toList ++ catS P.reverse := by simp [catS]
theorem join_cat (P : List ByteArray) : Lib.join (P.map (·.data.toList)) [] = catS P := by
  unfold catS
  induction P with
  | nil => rfl
  | cons p P ih =>
    rw [List.map_cons, Lib.join_cons]
    simp [Lib.joinTail, Function.comp_def]

/-- One round of digits. -/
theorem digits_step {x a : Nat} {P : List ByteArray} (h : decFrom x (catS P.reverse) = some a) (s : ByteArray) (hs : s.data.toList = pad9 (x % 1000000000)) :
    decFrom (x / 1000000000) (catS (P ++ [s]).reverse) = some a := by
  rw [catS_rev, hs, decFrom_append _ _ _ _ (pad9_val (Nat.mod_lt _ (by decide)) _)]
  rw [show x / 1000000000 * 1000000000 + x % 1000000000 = x by omega]
  exact h

theorem cat_len (P : List ByteArray) (h : ∀ p ∈ P, p.size = 9) : (catS P).length = 9 * P.length := by
  induction P with
  | nil => rfl
  | cons p P ih =>
    have h1 := ih (fun q hq => h q (List.mem_cons_of_mem _ hq))
    have h2 := h p (by simp)
    rw [Lib.size_eq] at h2
    unfold catS at h1 ⊢
    simp only [List.map_cons, List.flatten_cons, List.length_append, List.length_cons]
    omega

set_option maxHeartbeats 1000000 in
theorem digits_any (a : Nat) (ao : Option Addr) (n cap : Nat) (w : World) (hA : Sl w ao n cap (u32s (dig a))) (hn : n ≤ 16777216) (hp : Pow w) :
    Calls Tryz.prog 63 #[.slice ao n cap] w (StrOut w (decDigits a)) := by
  have hl := hA.lenU
  have hlt : a < 2 ^ (32 * n) := by
    have := dig_lt a
    rw [hl] at this
    rwa [show 4294967296 = 2 ^ 32 from rfl, ← Nat.pow_mul] at this
  have Hlt := hid hlt
  clear hlt hl
  go_enter Tryz.func63, Tryz.ntmps63
  go_wp2_with fail
  go_loopg [0, 3] a (fun x av pv wr => ∃ (xo : Option Addr) (xn xc : Nat) (P : List ByteArray), av = .slice xo xn xc ∧ Sl wr xo xn xc (u32s (dig x)) ∧ xn ≤ n ∧ Hid (decFrom x (catS P.reverse) = some a) ∧ Hid (x * 2 ^ P.length ≤ a) ∧ Hid (∀ p ∈ P, p.size = 9) ∧ P.length ≤ 32 * n ∧
      Own IsStr wr w.heap.size 9 1 pv P.length (P.map .string) ∧ Below w.heap.size w wr)
  case atStart => exact ⟨ao, n, cap, [], rfl, hA, Nat.le_refl _, hid rfl, hid (by simp), hid (by simp), by simp, Own.nil _ _ _ _ _, Below.refl _ _⟩
  case round =>
    obtain ⟨xo, xn, xc, P, rfl, sx, hxn, hdec, hpow, h9, hPn, hown, hbel⟩ := hrel
    have hxl := sx.lenU
    by_cases hg : gk = 0
    · subst hg
      rw [dig_zero] at hxl
      obtain rfl : xn = 0 := by simpa using hxl.symm
      clear hxl
      go_wp2_with fail
      refine (reverse_ownS _ _ _ _ _ hown.1 (by omega)).mono ?_; rintro e w1 ⟨rfl, hown1, hb1⟩
      have hbel1 := hbel.trans hb1
      have h9r : ∀ p ∈ P.reverse, p.size = 9 := fun p hp => h9.out p (by simpa using hp)
      have hjl : (catS P.reverse).length ≤ 140737488355328 := by rw [cat_len _ h9r, List.length_reverse]; omega
      have hd : Hid ((if trimLeftB (catS P.reverse) 48 = [] then [48] else trimLeftB (catS P.reverse) 48) = decDigits a) := hid (trim_digits _ _ hdec.out)
      have hJ : Calls Tryz.prog 98 #[u3, .string ⟨#[]⟩] w1 fun e w' => e = .returned (.string ⟨(catS P.reverse).toArray⟩) ∧ Below w1.heap.size w1 w' := by
        rcases Go.Joins.ownsRow_forms hown1 with ⟨rfl, h0⟩ | ⟨g, cap', rfl⟩
        · have hP : P = [] := List.eq_nil_of_length_eq_zero h0
          subst hP
          refine (Tryz.strings_Join_none none 0 ⟨#[]⟩ w1).mono ?_
          rintro e w' ⟨rfl, rfl⟩
          exact ⟨rfl, Below.refl _ _⟩
        · obtain ⟨ao', cap'', hv, sv⟩ := ownsSl hown1
          injection hv with _ _ hv
          subst hv
          have := Tryz.strings_Join g 0 cap' P.reverse ⟨#[]⟩ w1 (fun j x hx => by
            rw [Nat.zero_add, hown1.cellAt j (by have := (List.getElem?_eq_some_iff.1 hx).1; simpa using this)]
            rw [List.getElem?_map, hx]; rfl) (hown1.lt g rfl).2 (by rw [List.length_reverse]; omega) (by rw [List.length_reverse]; exact sv.le) (by show (Lib.join (P.reverse.map (·.data.toList)) []).length ≤ _; rw [join_cat]; exact hjl)
          rw [List.length_reverse] at this
          refine this.mono ?_
          rintro e w' ⟨rfl, hb⟩
          refine ⟨?_, hb⟩
          show Ending.returned (.string ⟨(Lib.join (P.reverse.map (·.data.toList)) []).toArray⟩) = _
          rw [join_cat]
      clear hown hown1 hdec h9 h9r
      go_wp2_with fail
      refine hJ.mono ?_; rintro e w2 ⟨rfl, hb2⟩
      go_wp2_with fail
      refine (Tryz.strings_TrimLeft_one _ 48 (by decide) _).mono ?_; rintro e w3 ⟨rfl, rfl⟩
      generalize catS P.reverse = J at *
      have hbel2 := below_chain hbel1 hb2
      by_cases hT : trimLeftB J 48 = []
      · rw [if_pos hT] at hd
        rw [show (⟨J.toArray⟩ : ByteArray).data.toList = J from rfl, hT]
        clear hT
        go_wp2_with fail
        go_ret
        exact ⟨_, rfl, hd.out, hbel2⟩
      · rw [if_neg hT] at hd
        rw [show (⟨J.toArray⟩ : ByteArray).data.toList = J from rfl]
        generalize trimLeftB J 48 = T at *
        have e1 : T.isEmpty = false := by
          cases T with
          | nil => exact absurd rfl hT
          | cons _ _ => rfl
        clear hT
        go_wp2_with fail
        go_ret
        exact ⟨_, rfl, hd.out, hbel2⟩
    · have hx1 : 1 ≤ xn := by
        rw [← hxl]
        have : dig gk ≠ [] := fun h => hg (dig_nil.1 h)
        cases h : dig gk with
        | nil => exact absurd h this
        | cons _ _ => simp
      have Hxl := hid hxl; clear hxl
      have hg0 := hid hg; clear hg
      go_wp2_with fail
      refine (smallD gk 1000000000 (by decide) (by decide) sx (by omega)).mono ?_; rintro e w1 ⟨yo, yn, yc, rfl, sy, hzy, hb1⟩
      have hr : gk % 1000000000 < 1000000000 := Nat.mod_lt _ (by decide)
      obtain ⟨r, hr'⟩ : ∃ r, gk % 1000000000 = r := ⟨_, rfl⟩
      rw [hr'] at hr ⊢
      have Hr := hid hr'; clear hr'
      have hbel1 := below_chain hbel hb1
      go_wp2_with fail
      refine (itoa_any _ (1000000000 + r) (by omega) (by omega) _ (hp.next hbel1)).mono ?_; rintro e w2 ⟨s, rfl, hs, hb2⟩
      have hs10 : s.size = 10 := by rw [Lib.size_eq, hs]; exact dec_len_bill hr
      have hpd : (s.extract 1 s.size).data.toList = pad9 r := by
        rw [Lib.extract_data, hs, hs10, List.take_of_length_le (by rw [List.length_drop, dec_len_bill hr]; omega), List.drop_one]
        rfl
      have hp9 : (s.extract 1 s.size).size = 9 := by rw [Lib.size_eq, hpd]; exact pad9_len hr
      have hdec' : Hid (decFrom (gk / 1000000000) (catS (P ++ [s.extract 1 s.size]).reverse) = some a) := hid (digits_step hdec.out _ (by rw [Hr.out]; exact hpd))
      have h9' : Hid (∀ p ∈ P ++ [s.extract 1 s.size], p.size = 9) := hid (fun p hp => by
        rcases List.mem_append.1 hp with h | h
        · exact h9.out p h
        · simp at h; rw [h]; exact hp9)
      have hpow' : Hid (gk / 1000000000 * 2 ^ (P ++ [s.extract 1 s.size]).length ≤ a) := hid (by
        rw [List.length_append, List.length_singleton, Nat.pow_succ]
        have h1 : gk / 1000000000 * (2 ^ P.length * 2) ≤ gk * 2 ^ P.length := by
          rw [Nat.mul_comm (2 ^ P.length), ← Nat.mul_assoc]
          exact Nat.mul_le_mul_right _ (by omega)
        exact Nat.le_trans h1 hpow.out)
      have hPn' : P.length + 1 ≤ 32 * n := by
        have h1 : 2 ^ P.length < 2 ^ (32 * n) := Nat.lt_of_le_of_lt (Nat.le_trans (by
          have : 1 ≤ gk := by have := hg0.out; omega
          calc 2 ^ P.length = 1 * 2 ^ P.length := (Nat.one_mul _).symm
            _ ≤ gk * 2 ^ P.length := Nat.mul_le_mul_right _ this) hpow.out) Hlt.out
        exact (Nat.pow_lt_pow_iff_right (by decide)).1 h1
      have hyn : yn ≤ n := by
        have := sy.lenD (k := xn) (Nat.lt_of_le_of_lt (Nat.div_le_self _ _) (by rw [← Hxl.out]; exact dig_lt gk))
        omega
      have hs1 : 1 ≤ s.size := by omega
      have hbel2 := below_chain hbel1 hb2
      have hown2 := (hown.below hb1).below hb2
      have sy2 := sy.next hb2
      clear hs hpd hp9 hs10 hdec hpow h9 hr
      have hW : w.heap.size ≤ (w2.alloc (.cells #[.string (s.extract 1 s.size)] 9)).heap.size := by
        have := hbel2.size
        rw [World.size_alloc]; omega
      have hlit := Sl.lit w2 [.string (s.extract 1 s.size)] 9 (by simp [maxLen])
      go_wp2_with (at_builtin; go_loud (refine wp_own rfl (.tmp 15) (.tmp 21) 96 rfl IsStr 9 _ 1 16 Tryz.underlying96 Tryz.infoStr rfl (by decide) (by intro c hc; simp [Value.cells] at hc; subst hc; exact ⟨_, rfl⟩) w.heap.size _ P.length _ rfl (hown2.new _) _ 1 1 _ rfl rfl hlit.cells (by intro u hu; simp at hu; subst hu; rfl) (by intro u hu; simp at hu; subst hu; exact ⟨_, rfl⟩) (by decide) (by omega) (by omega) hW ?_))
      intro v' w3 hown3 hg3 hb3 _
      have hbel3 : Below w.heap.size w w3 := (hbel2.alloc hbel2.size _).trans hb3
      have sy3 := (sy2.next (below_alloc _)).grownU (hown2.new _) isStr_u32 hg3
      go_wp2_with fail
      have hm : gk / 1000000000 < gk := Nat.div_lt_self (by have := hg0.out; omega) (by decide)
      go_roundg (gk / 1000000000)
      case measure => exact hm
      case rel => exact ⟨yo, yn, yc, P ++ [s.extract 1 s.size], rfl, sy3, hyn, hdec', hpow', h9', by simpa using hPn', by simpa using hown3, hbel3⟩

end Go.Proofs.YtjppjhjfogjhaaaGreatDoor

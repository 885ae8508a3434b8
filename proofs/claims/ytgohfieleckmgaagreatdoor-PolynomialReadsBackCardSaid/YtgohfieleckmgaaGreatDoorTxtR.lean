/-
  Joined out of XTxtA, XTxtB, XTxtC, XTxtD, XTxtE.
-/
import Derived.Test.YtgohfieleckmgaaGreatDoorShl
import Derived.Test.YtgohfieleckmgaaGreatDoorDec
import Derived.Test.YtgohfieleckmgaaGreatDoorRatU
import Derived.Lib.SmallJoins
import Derived.Test.YtgohfieleckmgaaGreatDoorOwn
import Derived.Deep.LoopGhost
import Derived.Deep.RegionHeld3

/-
  The table of powers of ten; the contracts of strconv.Itoa and Atoi at digits, strings.Cut at a slash, strings.Trim at digits. No condition but sizes.
-/
namespace Go.Proofs.YtgohfieleckmgaaGreatDoor
open Go.RowKit Go.Lib Go.Sort
set_option linter.unusedSimpArgs false
set_option linter.unusedVariables false

/-- The table of the powers of ten is laid. -/
def Pow (w : World) : Prop := Lib.TabIs Tryz.prog w "internal/strconv.uint64pow10" .u64 Lib.pow10Tab
theorem pow_glob : Tryz.prog.globalNamed "internal/strconv.uint64pow10" = some 3 := by kernel_rfl
theorem Pow.next {w w' : World} (h : Pow w) (hb : Below w.heap.size w w') : Pow w' := Go.Joins.tab_stays pow_glob h hb (Nat.le_refl _)

theorem below_grow (w : World) (k : Nat) (os : Array Obj) : Below w.heap.size w (Go.Sort.grow (w.drewN k) os) := by
  refine ⟨rfl, rfl, rfl, ?_, fun j hj => ?_⟩
  · simp
  · show (w.heap ++ os)[j]? = w.heap[j]?
    rw [Array.getElem?_append, if_pos hj]

/-- A string comes back. -/
def StrOut (w : World) (l : List UInt8) (e : Ending) (w' : World) : Prop := ∃ s : ByteArray, e = .returned (.string s) ∧ s.data.toList = l ∧ Below w.heap.size w w'

theorem itoa_any (N : Int) (n : Nat) (hN : N = (n : Int)) (hn : n ≤ 9223372036854775807) (w : World) (hp : Pow w) : Calls Tryz.prog 122 #[.int .i64 N] w (StrOut w (decDigits n)) := by
  subst hN
  refine (Tryz.strconv_Itoa (n : Int) (by omega) (by omega) w hp).mono ?_
  rintro e w' ⟨rfl, k, os, rfl⟩
  refine ⟨_, rfl, ?_, below_grow w k os⟩
  show Lib.itoa (n : Int) = _
  unfold Lib.itoa
  rw [if_neg (by omega), Int.toNat_natCast]

/-- The bytes of a numeral of at most 18 digits. -/
theorem atoi_any (s : ByteArray) (hl : s.size ≤ 18) (h0 : s.data.toList ≠ []) (n : Nat) (h : decFrom 0 s.data.toList = some n) (w : World) :
    Calls Tryz.prog 145 #[.string s] w fun e w' => e = .returned (.tuple #[.int .i64 (n : Int), .nilIface]) ∧ Below w.heap.size w w' := by
  have hd : Lib.atoi s.data.toList = some (n : Int) := by
    cases hc : s.data.toList with
    | nil => exact absurd hc h0
    | cons b r =>
      rw [hc] at h
      have hb := ((all_dig (b :: r) 0).1 (by rw [h]; rfl)) b (by simp)
      have e1 : (b == 45) = false := by simp; intro e; subst e; simp at hb
      have e2 : (b == 43) = false := by simp; intro e; subst e; simp at hb
      simp only [Lib.atoi]
      rw [e1, e2]
      simp [decNat, h]
  refine (Tryz.strconv_Atoi s (n : Int) hl hd w).mono ?_
  rintro e w' ⟨rfl, t, rfl⟩
  exact ⟨rfl, Go.Joins.below_bytesWorld _ _ _ _ (Nat.le_refl _)⟩

/-! ### strings.Cut at a slash -/
theorem index_cases (l : List UInt8) (c : UInt8) : (c ∈ l ∧ indexByte l c = ((l.takeWhile (· ≠ c)).length : Int)) ∨ (c ∉ l ∧ indexByte l c = -1) := by
  induction l with
  | nil => exact .inr ⟨by simp, rfl⟩
  | cons b l ih =>
    unfold indexByte
    by_cases hb : b = c
    · subst hb; exact .inl ⟨by simp, by simp [List.takeWhile_cons]⟩
    · have hb' : (b == c) = false := by simpa using hb
      rw [hb']
      rcases ih with ⟨h1, h2⟩ | ⟨h1, h2⟩
      · refine .inl ⟨by simp [h1], ?_⟩
        have : (indexByte l c == -1) = false := by rw [h2]; simp
        rw [this, h2]
        simp [List.takeWhile_cons, hb]
      · refine .inr ⟨by simp [h1]; exact fun e => hb e.symm, ?_⟩
        rw [h2]; rfl

theorem takeWhile_take (l : List UInt8) (c : UInt8) : l.take (l.takeWhile (· ≠ c)).length = l.takeWhile (· ≠ c) := by
  induction l with
  | nil => rfl
  | cons b l ih =>
    by_cases hb : b = c
    · subst hb; simp [List.takeWhile_cons]
    · simp only [List.takeWhile_cons, ne_eq, hb, not_false_eq_true, decide_true, if_true, List.length_cons, List.take_succ_cons]
      congr 1
theorem dropWhile_drop' (l : List UInt8) (c : UInt8) : l.drop (l.takeWhile (· ≠ c)).length = l.dropWhile (· ≠ c) := by
  induction l with
  | nil => rfl
  | cons b l ih =>
    by_cases hb : b = c
    · subst hb; simp [List.takeWhile_cons, List.dropWhile_cons]
    · simp only [List.takeWhile_cons, List.dropWhile_cons, ne_eq, hb, not_false_eq_true, decide_true, if_true, List.length_cons, List.drop_succ_cons]
      exact ih
theorem takeWhile_lt {l : List UInt8} {c : UInt8} (h : c ∈ l) : (l.takeWhile (· ≠ c)).length < l.length := by
  induction l with
  | nil => simp at h
  | cons b l ih =>
    by_cases hb : b = c
    · subst hb; simp [List.takeWhile_cons]
    · simp only [List.takeWhile_cons, ne_eq, hb, not_false_eq_true, decide_true, if_true, List.length_cons]
      have := ih (by simpa [show ¬ c = b from fun e => hb e.symm] using h)
      simp only [ne_eq] at this
      omega

/-- What Cut gives at a slash. -/
def CutOut (w : World) (l : List UInt8) (e : Ending) (w' : World) : Prop :=
  ∃ a b : ByteArray, e = .returned (.tuple #[.string a, .string b, .bool (decide ((47 : UInt8) ∈ l))]) ∧ a.data.toList = (cutSl l).1 ∧ ((47 : UInt8) ∈ l → b.data.toList = (cutSl l).2) ∧ Below w.heap.size w w'

theorem lcut_any (s : ByteArray) (hs : s.size ≤ 9223372036854775807) (w : World) : Calls Tryz.prog 168 #[.string s, .string ⟨#[47]⟩] w (CutOut w s.data.toList) := by
  have hsz := Lib.size_eq s
  rcases index_cases s.data.toList 47 with ⟨h1, h2⟩ | ⟨h1, h2⟩
  · have hlt := takeWhile_lt h1
    have ht := takeWhile_take s.data.toList 47
    have hd := dropWhile_drop' s.data.toList 47
    have hcut : Hid (cutSl s.data.toList = (s.data.toList.take (s.data.toList.takeWhile (· ≠ 47)).length, s.data.toList.drop ((s.data.toList.takeWhile (· ≠ 47)).length + 1))) := hid (by
      unfold cutSl
      rw [if_pos h1, ht, ← List.drop_drop, hd, List.drop_one])
    obtain ⟨k, hk⟩ : ∃ k, (s.data.toList.takeWhile (· ≠ 47)).length = k := ⟨_, rfl⟩
    rw [hk] at h2 hcut hlt
    have H1 := hid h1
    have H2 := hid h2
    have hks : k + 1 ≤ s.size := by omega
    have hks' : k ≤ s.size := by omega
    clear h1 h2 ht hd hk hsz hlt
    go_enter Tryz.func168, Tryz.ntmps168
    go_wp2_with fail
    refine (Tryz.stringslite_Index_one s 47 w).mono ?_; rintro e w1 ⟨rfl, rfl⟩
    rw [H2.out]
    go_wp2_with fail
    go_quiet (fail)
    go_wp2_with fail
    go_ret3
    refine ⟨s.extract 0 k, s.extract (k + 1) s.size, ?_, ?_, fun _ => ?_, below_drewNs nq⟩
    · rw [show decide ((47 : UInt8) ∈ s.data.toList) = true from decide_eq_true H1.out]; rfl
    · rw [Lib.extract_data, hcut.out]; simp
    · rw [Lib.extract_data, hcut.out, List.take_of_length_le (by rw [List.length_drop, Lib.size_eq]; omega)]
  · have H1 := hid h1
    have H2 := hid h2
    clear h1 h2
    go_enter Tryz.func168, Tryz.ntmps168
    go_wp2_with fail
    refine (Tryz.stringslite_Index_one s 47 w).mono ?_; rintro e w1 ⟨rfl, rfl⟩
    rw [H2.out]
    go_wp2_with fail
    go_ret3
    refine ⟨s, ⟨#[]⟩, ?_, ?_, fun h => absurd h H1.out, Below.refl _ _⟩
    · rw [show decide ((47 : UInt8) ∈ s.data.toList) = false from decide_eq_false H1.out]; rfl
    · unfold cutSl; rw [if_neg H1.out]

theorem cut_any (s : ByteArray) (hs : s.size ≤ 9223372036854775807) (w : World) : Calls Tryz.prog 141 #[.string s, .string ⟨#[47]⟩] w (CutOut w s.data.toList) := by
  have hl := lcut_any s hs w
  generalize s.data.toList = l at *
  go_enter Tryz.func141, Tryz.ntmps141
  go_wp2_with fail
  refine hl.mono ?_; rintro e w1 ⟨a, b, rfl, h1, h2, hb⟩
  have h1 := hid h1; have h2 := hid h2
  obtain ⟨c, hc⟩ : ∃ c, decide ((47 : UInt8) ∈ l) = c := ⟨_, rfl⟩
  rw [hc]
  have HC := hid hc
  clear hc
  go_wp2_with fail
  go_ret3
  exact ⟨a, b, by rw [HC.out]; rfl, h1.out, h2.out, hb⟩

/-! ### Digits -/
theorem trimS_nil {l cs : List UInt8} : (trimS l cs = []) ↔ ∀ b ∈ l, cs.contains b = true := by
  have dw : ∀ (p : UInt8 → Bool) (l : List UInt8), l.dropWhile p = [] ↔ ∀ b ∈ l, p b = true := by
    intro p l
    induction l with
    | nil => simp
    | cons a l ih =>
      by_cases h : p a = true
      · simp [List.dropWhile_cons, h, ih]
      · simp [List.dropWhile_cons, h]
  unfold trimS trimLeftS trimRightS
  rw [dw]
  constructor
  · intro h b hb
    have hr : ∀ x ∈ l.reverse.dropWhile (cs.contains ·), cs.contains x = true := fun x hx => h x (by simpa using hx)
    have h0 : l.reverse.dropWhile (cs.contains ·) = [] := by
      cases hc : l.reverse.dropWhile (cs.contains ·) with
      | nil => rfl
      | cons x t =>
        exfalso
        have h1 := List.head?_dropWhile_not (cs.contains ·) l.reverse
        rw [hc] at h1
        have h2 := hr x (by rw [hc]; simp)
        simp at h1
        simp at h2
        exact h1 h2
    exact (dw _ _).1 h0 b (by simpa using hb)
  · intro h b hb
    have : l.reverse.dropWhile (cs.contains ·) = [] := (dw _ _).2 (fun x hx => h x (by simpa using hx))
    rw [this] at hb
    simp at hb

/-- The ten digits. -/
def digitSet : ByteArray := ⟨#[48, 49, 50, 51, 52, 53, 54, 55, 56, 57]⟩

theorem digitSet_mem (b : UInt8) : digitSet.data.toList.contains b = true ↔ 48 ≤ b.toNat ∧ b.toNat ≤ 57 := by
  have key : ∀ n : Fin 256, (digitSet.data.toList.contains (UInt8.ofNat n.val) = true ↔ 48 ≤ (UInt8.ofNat n.val).toNat ∧ (UInt8.ofNat n.val).toNat ≤ 57) := by decide +kernel
  have := key ⟨b.toNat, b.toNat_lt⟩
  simpa using this

theorem trimD_any (s : ByteArray) (h0 : 0 < s.size) (hs : s.size ≤ 9223372036854775807) (w : World) :
    Calls Tryz.prog 169 #[.string s, .string ⟨#[48, 49, 50, 51, 52, 53, 54, 55, 56, 57]⟩] w fun e w' => (∃ t : ByteArray, e = .returned (.string t) ∧ t.toList.isEmpty = (decFrom 0 s.data.toList).isSome) ∧ Below w.heap.size w w' := by
  refine (Any.strings_Trim_set Tryz.lays160 (fun _ => by kernel_rfl) (by kernel_rfl) s digitSet w (by decide) h0 hs (by decide) ?_).mono ?_
  · intro j b hj
    have := (digitSet_mem b).1 (by simpa using List.mem_of_getElem? hj)
    omega
  · rintro e w' ⟨rfl, q, rfl⟩
    refine ⟨⟨_, rfl, ?_⟩, ((((Below.refl _ _).alloc (Nat.le_refl _) _).alloc (by simp) _)).trans (by go_simp; exact below_drewNs _)⟩
    rw [Lib.toList_data]
    show (trimS s.data.toList digitSet.data.toList).isEmpty = _
    rw [Bool.eq_iff_iff, List.isEmpty_iff, trimS_nil, all_dig]
    exact forall_congr' fun b => imp_congr_right fun _ => digitSet_mem b

end Go.Proofs.YtgohfieleckmgaaGreatDoor

/-
  The contract of rational.decimal. No condition but sizes.
-/
namespace Go.Proofs.YtgohfieleckmgaaGreatDoor
open Go.RowKit Go.Lib Go.Sort
set_option linter.unusedSimpArgs false
set_option linter.unusedVariables false

theorem empty_of_size {s : ByteArray} (h : s.size = 0) : s = ⟨#[]⟩ := by
  cases s with
  | mk d => simp [ByteArray.size] at h; rw [h]

theorem head_byte {s : ByteArray} (h : 0 < s.size) {c : UInt8} (hc : s.data.toList.head? = some c) : s[0] = c := by
  have h' : 0 < s.data.toList.length := by rw [← Lib.size_eq]; exact h
  rw [List.head?_eq_getElem?, List.getElem?_eq_getElem h'] at hc
  exact Option.some.inj hc
theorem byte_head {s : ByteArray} (h : 0 < s.size) {c : UInt8} (hc : s[0] = c) : s.data.toList.head? = some c := by
  have h' : 0 < s.data.toList.length := by rw [← Lib.size_eq]; exact h
  rw [List.head?_eq_getElem?, List.getElem?_eq_getElem h']
  exact congrArg some hc

theorem decimal_any (s : ByteArray) (hs : s.size ≤ 9223372036854775807) (w : World) :
    Calls Tryz.prog 142 #[.string s] w fun e w' => e = .returned (.bool (okDec s.data.toList)) ∧ Below w.heap.size w w' := by
  have hsz := Lib.size_eq s
  by_cases h0 : s.size = 0
  · obtain rfl := empty_of_size h0
    have hr : Hid (okDec (⟨#[]⟩ : ByteArray).data.toList = false) := hid (by decide)
    clear h0 hsz hs
    go_enter Tryz.func142, Tryz.ntmps142
    go_wp2_with fail
    go_ret
    exact ⟨retB hr.out.symm, Below.refl _ _⟩
  · have h1 : 0 < s.size := by omega
    have e0 : s.toList.isEmpty = false := by
      rw [Lib.toList_data]
      cases hc : s.data.toList with
      | nil => rw [hc, List.length_nil] at hsz; omega
      | cons _ _ => rfl
    by_cases h2 : s.size ≤ 2000
    · by_cases h3 : s.data.toList = [48]
      · have hr : Hid (okDec [48] = true) := hid (by decide)
        obtain rfl : s = ⟨#[48]⟩ := by cases s with | mk d => cases d with | mk l => simp at h3; subst h3; rfl
        clear h3 h0 h1 e0 h2 hsz hs
        go_enter Tryz.func142, Tryz.ntmps142
        go_wp2_with fail
        refine (trimD_any ⟨#[48]⟩ (by decide) (by decide) _).mono ?_; rintro e w1 ⟨⟨t, rfl, ht⟩, hb⟩
        have ht : t.toList.isEmpty = true := by rw [ht]; decide
        go_wp2_with fail
        go_ret
        exact ⟨retB hr.out.symm, hb⟩
      · have e3 : (s.toList == [48]) = false := by rw [Lib.toList_data]; simpa using h3
        by_cases h4 : s.data.toList.head? = some 48
        · have hr : Hid (okDec s.data.toList = false) := hid (by unfold okDec; rw [decide_eq_false h3, decide_eq_false (not_not_intro h4)]; simp)
          have e4 : s[0] = 48 := head_byte h1 h4
          clear hsz h0 h3 h4
          go_enter Tryz.func142, Tryz.ntmps142
          go_wp2_with fail
          go_ret
          exact ⟨retB hr.out.symm, Below.refl _ _⟩
        · have hr : Hid (okDec s.data.toList = (decFrom 0 s.data.toList).isSome) := hid (by
            unfold okDec
            rw [decide_eq_true h4, decide_eq_true (show s.data.toList.length ≤ 2000 by omega)]
            rw [Lib.toList_data] at e0
            rw [e0]; simp)
          have hne : s[0] ≠ 48 := fun e => h4 (byte_head h1 e)
          have hT := trimD_any s h1 hs w
          have e4 : ((s[0].toNat : Int) == 48) = false := by
            have : s[0].toNat ≠ 48 := fun e => hne (UInt8.toNat_inj.1 e)
            simp; omega
          have e5 : ((s[0].toNat : Int) != 48) = true := by rw [bne, e4]; rfl
          have e0' : (!s.toList.isEmpty) = true := by rw [e0]; rfl
          clear hsz h0 h3 h4 hne
          go_enter Tryz.func142, Tryz.ntmps142
          go_wp2_with fail
          refine hT.mono ?_; rintro e w1 ⟨⟨t, rfl, ht⟩, hb⟩
          obtain ⟨c, hc⟩ : ∃ c, (decFrom 0 s.data.toList).isSome = c := ⟨_, rfl⟩
          rw [hc] at ht
          have HC := hid hc
          clear hc
          go_wp2_with fail
          go_ret
          refine ⟨?_, hb⟩
          rw [hr.out, HC.out]; rfl
    · have hr : Hid (okDec s.data.toList = false) := hid (by unfold okDec; rw [decide_eq_false (show ¬ s.data.toList.length ≤ 2000 by omega)]; simp)
      have h2' : decide (s.size ≤ 2000) = false := decide_eq_false h2
      clear hsz h0
      go_enter Tryz.func142, Tryz.ntmps142
      go_wp2_with fail
      go_ret
      exact ⟨retB hr.out.symm, Below.refl _ _⟩

end Go.Proofs.YtgohfieleckmgaaGreatDoor

/-
  The contract of limbs.digits. No condition but sizes.
-/
namespace Go.Proofs.YtgohfieleckmgaaGreatDoor
open Go.RowKit Go.Lib Go.Sort
set_option linter.unusedSimpArgs false
set_option linter.unusedVariables false

theorem Tryz.infoStr : (Tryz.prog.info? 9).map (fun i => (i.zero, i.size, i.bytes)) = some (some (.string ByteArray.empty), 1, 16) := by kernel_rfl

/-- Strings. -/
def IsStr (v : Value) : Prop := ∃ s, v = .string s
theorem isStr_u32 (x : Nat) : ¬ IsStr (.int .u32 (x : Int)) := by rintro ⟨s, h⟩; cases h

theorem strs_cells (Xs : List ByteArray) : Xs.map Value.string = (Xs.map (·.data.toList)).map encStr := Go.Joins.strings_enc Xs

/-- slices.Reverse of a row of strings that the call owns. -/
theorem reverse_ownS (base : Nat) (v : Value) (n : Nat) (l : List ByteArray) (w : World) (h : w.ownsRow base 9 1 v n (l.map .string)) (hbig : n ≤ 9223372036854775807) :
    Calls Tryz.prog 174 #[v] w fun e w' => e = .returned (.tuple #[]) ∧ w'.ownsRow base 9 1 v n (l.reverse.map .string) ∧ Below base w w' := by
  have hl : l.length = n := by have := h.1; simpa using this
  rcases h.2 with ⟨rfl, h0⟩ | ⟨g, cap, cur, rfl, hb, _⟩
  · subst h0
    obtain rfl : l = [] := List.eq_nil_of_length_eq_zero hl
    refine (Tryz.slices_Reverse_string_empty none 0 w).mono ?_
    rintro e w' ⟨rfl, rfl⟩
    exact ⟨rfl, h, Below.refl _ _⟩
  · refine (Tryz.slices_Reverse_string_cells g 0 n cap (fun i => l.getD i ByteArray.empty) w hbig ?_ ?_).mono ?_
    · intro j hj
      rw [Nat.zero_add, h.cellAt j (by omega)]
      simp [List.getD, show j < l.length by omega]
    · intro j hj
      exact h.frozenAt _
    · rintro e w' ⟨rfl, q, rfl⟩
      have hq : (w.drewN q).ownsRow base 9 1 (.slice (some ⟨g, 0, none⟩) n cap) n (l.map .string) := ownsRow_below h (B := (w.heap.size)) ⟨rfl, rfl, rfl, Nat.le_refl _, fun _ _ => rfl⟩ (Nat.le_refl _)
      have e0 : (Lib.strsOf (fun i => l.getD i ByteArray.empty) n).reverse.map encStr = l.reverse.map .string := by
        rw [strs_cells, List.map_reverse, List.map_reverse]
        congr 2
        unfold Lib.strsOf
        apply List.ext_getElem
        · simp [hl]
        · intro i h1 h2
          simp at h1 h2
          simp [List.getD, ← hl, show l.length - 1 - i < l.length by omega]
      rw [e0]
      obtain ⟨k1, k2⟩ := own_setCells (l.reverse.map .string) 0 _ _ hq (by simp; omega)
      have e1 : (l.map Value.string).take 0 ++ (l.reverse.map Value.string ++ (l.map Value.string).drop (0 + (l.reverse.map Value.string).length)) = l.reverse.map Value.string := by
        have : (l.map Value.string).drop (0 + (l.reverse.map Value.string).length) = [] := List.drop_of_length_le (by simp)
        rw [this]; simp
      rw [e1] at k1
      exact ⟨rfl, k1, Below.trans (b := w.drewN q) ⟨rfl, rfl, rfl, Nat.le_refl _, fun _ _ => rfl⟩ (k2 hb base hb)⟩

/-- The bytes of texts, one behind the other. -/
def catS (P : List ByteArray) : List UInt8 := (P.map (·.data.toList)).flatten
theorem catS_rev (P : List ByteArray) (s : ByteArray) : catS (P ++ [s]).reverse = s.data.toList ++ catS P.reverse := by simp [catS]
theorem join_cat (P : List ByteArray) : Lib.join (P.map (·.data.toList)) [] = catS P := by
  unfold catS
  induction P with
  | nil => rfl
  | cons p P ih =>
    rw [List.map_cons, Lib.join_cons]
    simp [Lib.joinTail, Function.comp_def]

/-- One round of digits. -/
theorem digits_step {x a : Nat} {P : List ByteArray} (h : decFrom x (catS P.reverse) = some a) (s : ByteArray) (hs : s.data.toList = pad9 (x % 1000000000)) :
    decFrom (x / 1000000000) (catS (P ++ [s]).reverse) = some a := by
  rw [catS_rev, hs, decFrom_append _ _ _ _ (pad9_val (Nat.mod_lt _ (by decide)) _)]
  rw [show x / 1000000000 * 1000000000 + x % 1000000000 = x by omega]
  exact h

theorem cat_len (P : List ByteArray) (h : ∀ p ∈ P, p.size = 9) : (catS P).length = 9 * P.length := by
  induction P with
  | nil => rfl
  | cons p P ih =>
    have h1 := ih (fun q hq => h q (List.mem_cons_of_mem _ hq))
    have h2 := h p (by simp)
    rw [Lib.size_eq] at h2
    unfold catS at h1 ⊢
    simp only [List.map_cons, List.flatten_cons, List.length_append, List.length_cons]
    omega

set_option maxHeartbeats 1000000 in
theorem digits_any (a : Nat) (ao : Option Addr) (n cap : Nat) (w : World) (hA : Sl w ao n cap (u32s (dig a))) (hn : n ≤ 16777216) (hp : Pow w) :
    Calls Tryz.prog 148 #[.slice ao n cap] w (StrOut w (decDigits a)) := by
  have hl := hA.lenU
  have hlt : a < 2 ^ (32 * n) := by
    have := dig_lt a
    rw [hl] at this
    rwa [show 4294967296 = 2 ^ 32 from rfl, ← Nat.pow_mul] at this
  have Hlt := hid hlt
  clear hlt hl
  go_enter Tryz.func148, Tryz.ntmps148
  go_wp2_with fail
  go_loopg [0, 3] a (fun x av pv wr => ∃ (xo : Option Addr) (xn xc : Nat) (P : List ByteArray), av = .slice xo xn xc ∧ Sl wr xo xn xc (u32s (dig x)) ∧ xn ≤ n ∧ Hid (decFrom x (catS P.reverse) = some a) ∧ Hid (x * 2 ^ P.length ≤ a) ∧ Hid (∀ p ∈ P, p.size = 9) ∧ P.length ≤ 32 * n ∧
      Own IsStr wr w.heap.size 9 1 pv P.length (P.map .string) ∧ Below w.heap.size w wr)
  case atStart => exact ⟨ao, n, cap, [], rfl, hA, Nat.le_refl _, hid rfl, hid (by simp), hid (by simp), by simp, Own.nil _ _ _ _ _, Below.refl _ _⟩
  case round =>
    obtain ⟨xo, xn, xc, P, rfl, sx, hxn, hdec, hpow, h9, hPn, hown, hbel⟩ := hrel
    have hxl := sx.lenU
    by_cases hg : gk = 0
    · subst hg
      rw [dig_zero] at hxl
      obtain rfl : xn = 0 := by simpa using hxl.symm
      clear hxl
      go_wp2_with fail
      refine (reverse_ownS _ _ _ _ _ hown.1 (by omega)).mono ?_; rintro e w1 ⟨rfl, hown1, hb1⟩
      have hbel1 := hbel.trans hb1
      have h9r : ∀ p ∈ P.reverse, p.size = 9 := fun p hp => h9.out p (by simpa using hp)
      have hjl : (catS P.reverse).length ≤ 140737488355328 := by rw [cat_len _ h9r, List.length_reverse]; omega
      have hd : Hid ((if trimLeftB (catS P.reverse) 48 = [] then [48] else trimLeftB (catS P.reverse) 48) = decDigits a) := hid (trim_digits _ _ hdec.out)
      have hJ : Calls Tryz.prog 123 #[u3, .string ⟨#[]⟩] w1 fun e w' => e = .returned (.string ⟨(catS P.reverse).toArray⟩) ∧ Below w1.heap.size w1 w' := by
        rcases Go.Joins.ownsRow_forms hown1 with ⟨rfl, h0⟩ | ⟨g, cap', rfl⟩
        · have hP : P = [] := List.eq_nil_of_length_eq_zero h0
          subst hP
          refine (Tryz.strings_Join_none none 0 ⟨#[]⟩ w1).mono ?_
          rintro e w' ⟨rfl, rfl⟩
          exact ⟨rfl, Below.refl _ _⟩
        · obtain ⟨ao', cap'', hv, sv⟩ := ownsSl hown1
          injection hv with _ _ hv
          subst hv
          have := Tryz.strings_Join g 0 cap' P.reverse ⟨#[]⟩ w1 (fun j x hx => by
            rw [Nat.zero_add, hown1.cellAt j (by have := (List.getElem?_eq_some_iff.1 hx).1; simpa using this)]
            rw [List.getElem?_map, hx]; rfl) (hown1.lt g rfl).2 (by rw [List.length_reverse]; omega) (by rw [List.length_reverse]; exact sv.le) (by show (Lib.join (P.reverse.map (·.data.toList)) []).length ≤ _; rw [join_cat]; exact hjl)
          rw [List.length_reverse] at this
          refine this.mono ?_
          rintro e w' ⟨rfl, hb⟩
          refine ⟨?_, hb⟩
          show Ending.returned (.string ⟨(Lib.join (P.reverse.map (·.data.toList)) []).toArray⟩) = _
          rw [join_cat]
      clear hown hown1 hdec h9 h9r
      go_wp2_with fail
      refine hJ.mono ?_; rintro e w2 ⟨rfl, hb2⟩
      go_wp2_with fail
      refine (Tryz.strings_TrimLeft_one _ 48 (by decide) _).mono ?_; rintro e w3 ⟨rfl, rfl⟩
      generalize catS P.reverse = J at *
      have hbel2 := below_chain hbel1 hb2
      by_cases hT : trimLeftB J 48 = []
      · rw [if_pos hT] at hd
        rw [show (⟨J.toArray⟩ : ByteArray).data.toList = J from rfl, hT]
        clear hT
        go_wp2_with fail
        go_ret
        exact ⟨_, rfl, hd.out, hbel2⟩
      · rw [if_neg hT] at hd
        rw [show (⟨J.toArray⟩ : ByteArray).data.toList = J from rfl]
        generalize trimLeftB J 48 = T at *
        have e1 : T.isEmpty = false := by
          cases T with
          | nil => exact absurd rfl hT
          | cons _ _ => rfl
        clear hT
        go_wp2_with fail
        go_ret
        exact ⟨_, rfl, hd.out, hbel2⟩
    · have hx1 : 1 ≤ xn := by
        rw [← hxl]
        have : dig gk ≠ [] := fun h => hg (dig_nil.1 h)
        cases h : dig gk with
        | nil => exact absurd h this
        | cons _ _ => simp
      have Hxl := hid hxl; clear hxl
      have hg0 := hid hg; clear hg
      go_wp2_with fail
      refine (smallD gk 1000000000 (by decide) (by decide) sx (by omega)).mono ?_; rintro e w1 ⟨yo, yn, yc, rfl, sy, hzy, hb1⟩
      have hr : gk % 1000000000 < 1000000000 := Nat.mod_lt _ (by decide)
      obtain ⟨r, hr'⟩ : ∃ r, gk % 1000000000 = r := ⟨_, rfl⟩
      rw [hr'] at hr ⊢
      have Hr := hid hr'; clear hr'
      have hbel1 := below_chain hbel hb1
      go_wp2_with fail
      refine (itoa_any _ (1000000000 + r) (by omega) (by omega) _ (hp.next hbel1)).mono ?_; rintro e w2 ⟨s, rfl, hs, hb2⟩
      have hs10 : s.size = 10 := by rw [Lib.size_eq, hs]; exact dec_len_bill hr
      have hpd : (s.extract 1 s.size).data.toList = pad9 r := by
        rw [Lib.extract_data, hs, hs10, List.take_of_length_le (by rw [List.length_drop, dec_len_bill hr]; omega), List.drop_one]
        rfl
      have hp9 : (s.extract 1 s.size).size = 9 := by rw [Lib.size_eq, hpd]; exact pad9_len hr
      have hdec' : Hid (decFrom (gk / 1000000000) (catS (P ++ [s.extract 1 s.size]).reverse) = some a) := hid (digits_step hdec.out _ (by rw [Hr.out]; exact hpd))
      have h9' : Hid (∀ p ∈ P ++ [s.extract 1 s.size], p.size = 9) := hid (fun p hp => by
        rcases List.mem_append.1 hp with h | h
        · exact h9.out p h
        · simp at h; rw [h]; exact hp9)
      have hpow' : Hid (gk / 1000000000 * 2 ^ (P ++ [s.extract 1 s.size]).length ≤ a) := hid (by
        rw [List.length_append, List.length_singleton, Nat.pow_succ]
        have h1 : gk / 1000000000 * (2 ^ P.length * 2) ≤ gk * 2 ^ P.length := by
          rw [Nat.mul_comm (2 ^ P.length), ← Nat.mul_assoc]
          exact Nat.mul_le_mul_right _ (by omega)
        exact Nat.le_trans h1 hpow.out)
      have hPn' : P.length + 1 ≤ 32 * n := by
        have h1 : 2 ^ P.length < 2 ^ (32 * n) := Nat.lt_of_le_of_lt (Nat.le_trans (by
          have : 1 ≤ gk := by have := hg0.out; omega
          calc 2 ^ P.length = 1 * 2 ^ P.length := (Nat.one_mul _).symm
            _ ≤ gk * 2 ^ P.length := Nat.mul_le_mul_right _ this) hpow.out) Hlt.out
        exact (Nat.pow_lt_pow_iff_right (by decide)).1 h1
      have hyn : yn ≤ n := by
        have := sy.lenD (k := xn) (Nat.lt_of_le_of_lt (Nat.div_le_self _ _) (by rw [← Hxl.out]; exact dig_lt gk))
        omega
      have hs1 : 1 ≤ s.size := by omega
      have hbel2 := below_chain hbel1 hb2
      have hown2 := (hown.below hb1).below hb2
      have sy2 := sy.next hb2
      clear hs hpd hp9 hs10 hdec hpow h9 hr
      have hW : w.heap.size ≤ (w2.alloc (.cells #[.string (s.extract 1 s.size)] 9)).heap.size := by
        have := hbel2.size
        rw [World.size_alloc]; omega
      have hlit := Sl.lit w2 [.string (s.extract 1 s.size)] 9 (by simp [maxLen])
      go_wp2_with (at_builtin; go_loud (refine wp_own rfl (.tmp 15) (.tmp 21) 125 rfl IsStr 9 _ 1 16 Tryz.underlying125 Tryz.infoStr rfl (by decide) (by intro c hc; simp [Value.cells] at hc; subst hc; exact ⟨_, rfl⟩) w.heap.size _ P.length _ rfl (hown2.new _) _ 1 1 _ rfl rfl hlit.cells (by intro u hu; simp at hu; subst hu; rfl) (by intro u hu; simp at hu; subst hu; exact ⟨_, rfl⟩) (by decide) (by omega) (by omega) hW ?_))
      intro v' w3 hown3 hg3 hb3 _
      have hbel3 : Below w.heap.size w w3 := (hbel2.alloc hbel2.size _).trans hb3
      have sy3 := (sy2.next (below_alloc _)).grownU (hown2.new _) isStr_u32 hg3
      go_wp2_with fail
      have hm : gk / 1000000000 < gk := Nat.div_lt_self (by have := hg0.out; omega) (by decide)
      go_roundg (gk / 1000000000)
      case measure => exact hm
      case rel => exact ⟨yo, yn, yc, P ++ [s.extract 1 s.size], rfl, sy3, hyn, hdec', hpow', h9', by simpa using hPn', by simpa using hown3, hbel3⟩

end Go.Proofs.YtgohfieleckmgaaGreatDoor

/-
  The contract of rational.number. Its condition: the text holds digits alone, at most 2000.
-/
namespace Go.Proofs.YtgohfieleckmgaaGreatDoor
open Go.RowKit Go.Lib Go.Sort
set_option linter.unusedSimpArgs false
set_option linter.unusedVariables false

theorem decFrom_split (l : List UInt8) (k x N : Nat) (hk : k ≤ l.length) (h : decFrom x l = some N) :
    ∃ v, decFrom 0 (l.take k) = some v ∧ v < 10 ^ k ∧ decFrom (x * 10 ^ k + v) (l.drop k) = some N := by
  obtain ⟨m, hm⟩ := decFrom_prefix l x N h k
  have hall : (decFrom 0 (l.take k)).isSome = true := (all_dig _ _).2 ((all_dig _ x).1 (by rw [hm]; rfl))
  obtain ⟨v, hv⟩ := Option.isSome_iff_exists.1 hall
  have h2 := decFrom_shift _ x v hv
  rw [List.length_take, Nat.min_eq_left hk] at h2
  refine ⟨v, hv, ?_, ?_⟩
  · have := decFrom_lt _ _ _ hv
    rw [List.length_take, Nat.min_eq_left hk] at this
    simpa using this
  · rw [← List.take_append_drop k l, decFrom_append _ _ _ _ h2] at h
    exact h

theorem decFrom_ge {l : List UInt8} {x N : Nat} (h : decFrom x l = some N) : x ≤ N := by
  obtain ⟨v, hv⟩ := Option.isSome_iff_exists.1 (show (decFrom 0 l).isSome = true from (all_dig _ _).2 ((all_dig _ x).1 (by rw [h]; rfl)))
  have := decFrom_shift _ x v hv
  rw [h] at this
  injection this with this
  have hp : 1 ≤ 10 ^ l.length := Nat.one_le_pow _ _ (by decide)
  rw [this]
  exact Nat.le_trans (Nat.le_mul_of_pos_right x hp) (Nat.le_add_right _ _)

theorem lim_dec {l : List UInt8} {N : Nat} (h : decFrom 0 l = some N) : N < 4294967296 ^ l.length := by
  have := decFrom_lt _ _ _ h
  simp only [Nat.zero_add, Nat.one_mul] at this
  exact Nat.lt_of_lt_of_le this (Nat.pow_le_pow_left (by decide) _)

set_option maxHeartbeats 1000000 in
theorem numberD_any (s : ByteArray) (N : Nat) (hs : s.size ≤ 2000) (h : decFrom 0 s.data.toList = some N) (w : World) :
    Calls Tryz.prog 143 #[.string s] w (NumRes w N) := by
  have hN := hid (lim_dec h)
  have hsz := hid (Lib.size_eq s)
  go_enter Tryz.func143, Tryz.ntmps143
  go_wp2_with fail
  go_loopg [0, 3] s.size (fun k sv ov wr => ∃ (t : ByteArray) (x : Nat) (oo : Option Addr) (on oc : Nat), sv = .string t ∧ k ≤ s.size ∧ Hid (t.size = k) ∧ ov = .slice oo on oc ∧ Sl wr oo on oc (u32s (dig x)) ∧ (oo = none → oc = 0) ∧ Hid (decFrom x t.data.toList = some N) ∧ Hid (x = 0 ∨ k % 9 = 0) ∧ Below w.heap.size w wr)
  case atStart => exact ⟨s, 0, none, 0, 0, rfl, Nat.le_refl _, hid rfl, rfl, by rw [dig_zero]; exact Sl.nil w, fun _ => rfl, hid h, hid (.inl rfl), Below.refl _ _⟩
  case round =>
    obtain ⟨t, x, oo, on, oc, rfl, hks, htk, rfl, sx, hz, hdec, h9, hbel⟩ := hrel
    have hxN : x ≤ N := decFrom_ge hdec.out
    have hon : on ≤ 2000 := by
      have := sx.lenD (k := s.data.toList.length) (Nat.lt_of_le_of_lt hxN hN.out)
      rw [← hsz.out] at this; omega
    clear hxN
    obtain ⟨tk, htk'⟩ : ∃ k, t.size = k := ⟨_, rfl⟩
    obtain rfl : tk = gk := by rw [← htk', htk.out]
    by_cases hg : tk = 0
    · subst hg
      have hx : x = N := by
        have := hdec.out
        rw [show t.data.toList = [] from List.eq_nil_of_length_eq_zero (by rw [← Lib.size_eq]; exact htk')] at this
        simpa [decFrom] using this
      subst hx
      go_wp2_with fail
      go_ret
      exact ⟨_, _, _, rfl, sx, hz, hbel⟩
    · have hsub : t.data.toList.length = tk := by rw [← Lib.size_eq]; exact htk'
      obtain ⟨m, hm⟩ : ∃ m, (tk - 1) % 9 + 1 = m := ⟨_, rfl⟩
      have hm1 : 1 ≤ m ∧ m ≤ 9 ∧ m ≤ tk := by omega
      obtain ⟨hm1, hm2, hm3⟩ := hm1
      obtain ⟨v, hv, hvl, hrest⟩ := decFrom_split _ m x N (by omega) hdec.out
      have hv9 : v < 1000000000 := Nat.lt_of_lt_of_le hvl (Nat.le_trans (Nat.pow_le_pow_right (by decide) hm2) (by decide))
      have hx' : x * 10 ^ m + v = x * 1000000000 + v := by
        rcases h9.out with h0 | h0
        · rw [h0]; simp
        · have : m = 9 := by omega
          rw [this]
      rw [hx'] at hrest
      have hd1 : (t.extract 0 m).data.toList = t.data.toList.take m := by rw [Lib.extract_data]; simp
      have hd2 : (t.extract m t.size).data.toList = t.data.toList.drop m := by rw [Lib.extract_data, List.take_of_length_le (by rw [List.length_drop, Lib.size_eq]; omega)]
      have hA := atoi_any (t.extract 0 m) (by rw [Lib.size_eq, hd1, List.length_take]; omega) (by rw [hd1]; intro e; have := congrArg List.length e; rw [List.length_take, List.length_nil] at this; omega) v (by rw [hd1]; exact hv)
      have hdec' : Hid (decFrom (x * 1000000000 + v) (t.extract m t.size).data.toList = some N) := hid (by rw [hd2]; exact hrest)
      have hsz' : Hid ((t.extract m t.size).size = tk - m) := hid (by rw [Lib.size_eq, hd2, List.length_drop]; omega)
      have h9' : Hid (x * 1000000000 + v = 0 ∨ (tk - m) % 9 = 0) := hid (.inr (by omega))
      have hmI : ((tk : Int) - 1) % 9 + 1 = m := by omega
      have HA := hid hA
      have HM := hid hm
      rw [htk'] at hsz' hdec'
      clear hx' hrest hd1 hd2 hA hm hv hvl hsub hdec h9 hg
      go_wp2_with fail
      refine (HA.out _).mono ?_; rintro e w1 ⟨rfl, hb1⟩
      have hbel1 := below_chain hbel hb1
      have s10 := (one_limb (w := w1) 1000000000 (by decide)).1
      have h10 : Hid ([1000000000] = dig 1000000000) := hid (by rw [dig_pos (by decide), show 1000000000 / 4294967296 = 0 from rfl, dig_zero])
      rw [h10.out] at s10
      have sx1 := (sx.next hb1).next (below_alloc (.cells #[.int .u32 ((1000000000 : Nat) : Int)] 102))
      have hbel2 : Below w.heap.size w (w1.alloc (.cells #[.int .u32 ((1000000000 : Nat) : Int)] 102)) := hbel1.alloc hbel1.size _
      simp only [Int.cast_ofNat_Int] at s10 sx1 hbel2
      go_wp2_with fail
      refine (timesD x 1000000000 sx1 s10 (by omega) (by decide)).mono ?_; rintro e w2 ⟨po, pn, pc, rfl, sp, hzp, hb2, _⟩
      have hbel3 := below_chain hbel2 hb2
      have hpn : pn ≤ 3000 := by
        have h1 : lim (x * 1000000000) ≤ on + 1 := Nat.le_trans (lim_mul _ _) (Nat.add_le_add (by rw [lim, sx.lenU]; exact Nat.le_refl _) (lim_small (by decide)))
        rw [lim, sp.lenU] at h1
        omega
      clear s10 h10 sx1 hbel2
      obtain ⟨s6, hl6, hv6⟩ := one_limb (w := w2) v (by omega)
      have hv6 := hid hv6
      have hvw : IntKind.u32.wrap (v : Int) = (v : Int) := by
        rw [IntKind.wrap_u32]; omega
      go_wp2_with fail
      refine (clean_any [v] _ _ _ _ s6).mono ?_; rintro e w3 ⟨⟨k6, rfl, hk6, hs6⟩, rfl⟩
      have s7 := takeU s6 hk6 hs6
      rw [strip_eq hl6, hv6.out] at s7
      have Hs6 := hid hs6; clear hs6 s6
      have b6 : Below w2.heap.size w2 (w2.alloc (.cells #[.int .u32 (v : Int)] 102)) := below_alloc _
      go_wp2_with fail
      refine (plusD (x * 1000000000) v (sp.next b6) s7 (by omega) (by omega)).mono ?_; rintro e w4 ⟨qo, qn, qc, rfl, sq, hzq, hb4, _⟩
      have hbel4 := below_chain (below_chain hbel3 b6) hb4
      go_wp2_with fail
      have hlt : tk - m < tk := by omega
      go_roundg (tk - m)
      case measure => exact hlt
      case rel => exact ⟨_, _, qo, qn, qc, rfl, by omega, hsz', rfl, sq, hzq, hdec', h9', hbel4⟩

end Go.Proofs.YtgohfieleckmgaaGreatDoor

/-
  The contract of rational.Format. No condition but sizes.
-/
namespace Go.Proofs.YtgohfieleckmgaaGreatDoor
open Go.RowKit Go.Lib
set_option linter.unusedSimpArgs false
set_option linter.unusedVariables false

theorem ord_cases1 (d : Nat) : (d = 1 ∧ ord d 1 = 0) ∨ (d ≠ 1 ∧ ord d 1 ≠ 0) := by
  by_cases h : d = 1
  · subst h; exact .inl ⟨rfl, by decide⟩
  · refine .inr ⟨h, ?_⟩
    unfold ord
    rcases Nat.lt_or_ge d 1 with h1 | h1
    · rw [if_pos h1]; decide
    · rw [if_neg (by omega), if_neg (by omega)]; decide

theorem nDigits_le : ∀ (k n : Nat), 1 ≤ k → n < 10 ^ k → nDigits n ≤ k
  | 0, n, h, _ => by omega
  | 1, n, _, h => by rw [nDigits_small (by simpa using h)]; exact Nat.le_refl _
  | k + 2, n, _, h => by
    by_cases h1 : n < 10
    · rw [nDigits_small h1]; omega
    · rw [nDigits_big h1]
      have := nDigits_le (k + 1) (n / 10) (by omega) (by rw [Nat.pow_succ] at h; omega)
      omega

theorem dec_len_le {n m : Nat} (h : lim n ≤ m) : (decDigits n).length ≤ 32 * m + 1 := by
  rw [decDigits_length]
  refine nDigits_le _ _ (by omega) ?_
  have h1 := Nat.lt_of_lt_of_le (lim_lt n) (Nat.pow_le_pow_right (by decide) h)
  rw [show 4294967296 = 2 ^ 32 from rfl, ← Nat.pow_mul] at h1
  exact Nat.lt_of_lt_of_le h1 (Nat.le_trans (Nat.pow_le_pow_left (by decide) _) (Nat.pow_le_pow_right (by decide) (by omega)))

set_option maxHeartbeats 2000000 in
theorem Format_any (q : Rat) (v : Value) (w : World) (h : RatV w v q) (k : Nat) (hq : Fit k q) (hk : k ≤ 16777216) (hp : Pow w) :
    Calls Tryz.prog 121 #[v] w (StrOut w (fmtQ q)) := by
  obtain ⟨s, ao, n, cap, bo, m, cap', rfl⟩ := h.shape
  have hb0 := below_alloc (w := w) (.cells #[.bool s, .slice ao n cap, .slice bo m cap'] 25)
  obtain ⟨hq1, hq2⟩ := hq
  have hqn : lim q.num.natAbs ≤ 16777216 := Nat.le_trans hq1 hk
  have hqd : lim q.den ≤ 16777216 := Nat.le_trans hq2 hk
  have hfmt : Hid (fmtQ q = (if decide (q.num < 0) then [45] else []) ++ decDigits q.num.natAbs ++ (if q.den = 1 then [] else 47 :: decDigits q.den)) := hid (by
    unfold fmtQ; by_cases hn : q.num < 0 <;> simp [hn])
  go_enter Tryz.func121, Tryz.ntmps121
  go_wp2_with fail
  refine (of_any q _ _ (h.next hb0)).mono ?_; rintro e w1 ⟨f1, rfl, F1, hb1⟩
  obtain ⟨xo, xn, xc, yo, yn, yc, rfl⟩ := F1.shape
  obtain ⟨sA, sB, zA, zB, nB⟩ := F1.parts
  have hbel1 := below_chain hb0 hb1
  obtain ⟨t, ht⟩ : ∃ t, decide (q.num < 0) = t := ⟨_, rfl⟩
  rw [ht] at hfmt F1 ⊢
  clear ht
  have hxn : xn ≤ 16777216 := by rw [← sA.lenU]; exact Nat.le_trans hq1 hk
  have hyn : yn ≤ 16777216 := by rw [← sB.lenU]; exact Nat.le_trans hq2 hk
  have hB := Bk.start hbel1 rfl (.bool t) (.slice xo xn xc) (.slice yo yn yc) 110
  have sA1 := sA.next (below_alloc (.cells #[.bool t, .slice xo xn xc, .slice yo yn yc] 110))
  have sB1 := sB.next (below_alloc (.cells #[.bool t, .slice xo xn xc, .slice yo yn yc] 110))
  clear F1 sA sB h hq1 hq2
  go_wp2_with fail
  refine (digits_any _ _ _ _ _ sA1 hxn (hp.next hB.bel)).mono ?_; rintro e w2 ⟨s1, rfl, hs1, hb2⟩
  have hz1 : s1.size ≤ 600000000 := by rw [Lib.size_eq, hs1]; have := dec_len_le hqn; omega
  have hs1 := hid hs1
  have hB2 := hB.next hb2
  have sB2 := sB1.next hb2
  obtain ⟨G, hG⟩ : ∃ G, w1.heap.size = G := ⟨_, rfl⟩
  rw [hG] at hB2 ⊢
  have HG := hid hG
  clear hG hB sB1 sA1
  obtain ⟨c0, c1, c2⟩ := hB2.c3
  obtain ⟨c, hc⟩ : ∃ c, ord q.den 1 = c := ⟨_, rfl⟩
  have hc := hid hc
  have hcs := hid (ord_cases1 q.den)
  have hd := (Below.refl w2.heap.size w2).drew
  have hS0 : C3 G (.bool t) (.slice xo xn xc) (.slice yo yn yc) w2.drew := hB2.drew.c3
  have hKp : ∀ w' w'', C3 G (.bool t) (.slice xo xn xc) (.slice yo yn yc) w' → Below w'.heap.size w' w'' → C3 G (.bool t) (.slice xo xn xc) (.slice yo yn yc) w'' := fun w' w'' h hb => h.next hb
  have hpw := hp.next hB2.bel
  cases t with
  | true =>
    rw [if_pos rfl] at hfmt
    go_wp2_with fail
    refine wp_region_held_drew (S := (fun w' => C3 G (.bool true) (.slice xo xn xc) (.slice yo yn yc) w')) (by kernel_rfl) (hS0) (fun hHeld => ?_)
    refine held_take (i := 0) (d := 14) (v := ?_) rfl rfl (by kernel_rfl) (by kernel_rfl) (by kernel_rfl) (fun _ _ _ h => h) (by rfl) ?_ hHeld ?_
    rotate_left
    · intro w hSw; (try dsimp only at hSw); go_simp; with_reducible rfl
    try simp only [Act.put, List.setIfInBounds_toArray, List.set_cons_zero, List.set_cons_succ]
    refine held_take (i := 1) (d := 15) (v := ?_) rfl rfl (by kernel_rfl) (by kernel_rfl) (by kernel_rfl) (fun _ _ _ h => h) (by rfl) ?_ hHeld ?_
    rotate_left
    · intro w hSw; (try dsimp only at hSw); go_simp; with_reducible rfl
    try simp only [Act.put, List.setIfInBounds_toArray, List.set_cons_zero, List.set_cons_succ]
    refine wpAnyH_ready (rs := [2]) (by kernel_rfl) (by simp) (AllReadyH.cons rfl (fun K hK => ?_) AllReadyH.nil)
    go_simp
    go_at_call 127; refine (one_any _).mono ?_; rintro e wo ⟨rfl, so, hbo⟩
    go_wp2_with fail
    refine hK.out _ _ (hKp _ _ hHeld hbo) (fun hHeld => ?_)
    clear hK K
    try simp only [Act.put, List.setIfInBounds_toArray, List.set_cons_zero, List.set_cons_succ]
    refine wpAnyH_ready (rs := [3]) (by kernel_rfl) (by simp) (AllReadyH.cons rfl (fun K hK => ?_) AllReadyH.nil)
    go_simp
    go_at_call 126; refine (cmp_eq q.den 1 c hc.out ((sB2.next hd).next hbo) so).mono ?_; rintro e w3 ⟨rfl, rfl⟩
    go_wp2_with fail
    refine hK.out _ _ (hHeld) (fun hHeld => ?_)
    clear hK K
    try simp only [Act.put, List.setIfInBounds_toArray, List.set_cons_zero, List.set_cons_succ]
    refine held_take (i := 4) (d := 18) (v := ?_) rfl rfl (by kernel_rfl) (by kernel_rfl) (by kernel_rfl) (fun _ _ _ h => h) (by rfl) ?_ hHeld ?_
    rotate_left
    · intro w hSw; (try dsimp only at hSw); go_simp; with_reducible rfl
    try simp only [Act.put, List.setIfInBounds_toArray, List.set_cons_zero, List.set_cons_succ]
    refine wpAnyH_done (by kernel_rfl) ?_ _
    rcases hcs.out with ⟨h1, h2⟩ | ⟨h1, h2⟩
    · have hc0 : c = 0 := by rw [← hc.out]; exact h2
      subst hc0
      rw [if_pos h1] at hfmt
      clear h1 h2 hcs
      go_wp2_with fail
      go_ret
      exact ⟨_, rfl, by rw [hfmt.out, List.append_nil]; simp [Go.Joins.data_append, hs1.out], hB2.bel.trans (by go_simp; exact (hd.trans (hbo.mono (Nat.le_refl _))).mono hB2.bel.size)⟩
    · have hc0 : c ≠ 0 := by rw [← hc.out]; exact h2
      rw [if_neg h1] at hfmt
      have e1 : (c != 0) = true := by simpa using hc0
      have e2 : (c == 0) = false := by simpa using hc0
      clear h1 h2 hcs hc0
      obtain ⟨k0, k1, k2⟩ := hHeld
      go_wp2_with fail
      refine (digits_any _ _ _ _ _ ((sB2.next hd).next hbo) hyn ((hpw.next hd).next hbo)).mono ?_; rintro e w4 ⟨s2, rfl, hs2, hb4⟩
      have hz2 : s2.size ≤ 600000000 := by rw [Lib.size_eq, hs2]; have := dec_len_le hqd; omega
      have hs2 := hid hs2
      clear k0 k1 k2
      go_wp2_with fail
      go_ret
      exact ⟨_, rfl, by rw [hfmt.out]; simp [Go.Joins.data_append, hs1.out, hs2.out], below_chain (hB2.bel.trans ((hd.trans (hbo.mono (Nat.le_refl _))).mono hB2.bel.size)) hb4⟩
  | false =>
    rw [if_neg (by decide)] at hfmt
    go_wp2_with fail
    refine wp_region_held_drew (S := (fun w' => C3 G (.bool false) (.slice xo xn xc) (.slice yo yn yc) w')) (by kernel_rfl) (hS0) (fun hHeld => ?_)
    refine held_take (i := 0) (d := 14) (v := ?_) rfl rfl (by kernel_rfl) (by kernel_rfl) (by kernel_rfl) (fun _ _ _ h => h) (by rfl) ?_ hHeld ?_
    rotate_left
    · intro w hSw; (try dsimp only at hSw); go_simp; with_reducible rfl
    try simp only [Act.put, List.setIfInBounds_toArray, List.set_cons_zero, List.set_cons_succ]
    refine held_take (i := 1) (d := 15) (v := ?_) rfl rfl (by kernel_rfl) (by kernel_rfl) (by kernel_rfl) (fun _ _ _ h => h) (by rfl) ?_ hHeld ?_
    rotate_left
    · intro w hSw; (try dsimp only at hSw); go_simp; with_reducible rfl
    try simp only [Act.put, List.setIfInBounds_toArray, List.set_cons_zero, List.set_cons_succ]
    refine wpAnyH_ready (rs := [2]) (by kernel_rfl) (by simp) (AllReadyH.cons rfl (fun K hK => ?_) AllReadyH.nil)
    go_simp
    go_at_call 127; refine (one_any _).mono ?_; rintro e wo ⟨rfl, so, hbo⟩
    go_wp2_with fail
    refine hK.out _ _ (hKp _ _ hHeld hbo) (fun hHeld => ?_)
    clear hK K
    try simp only [Act.put, List.setIfInBounds_toArray, List.set_cons_zero, List.set_cons_succ]
    refine wpAnyH_ready (rs := [3]) (by kernel_rfl) (by simp) (AllReadyH.cons rfl (fun K hK => ?_) AllReadyH.nil)
    go_simp
    go_at_call 126; refine (cmp_eq q.den 1 c hc.out ((sB2.next hd).next hbo) so).mono ?_; rintro e w3 ⟨rfl, rfl⟩
    go_wp2_with fail
    refine hK.out _ _ (hHeld) (fun hHeld => ?_)
    clear hK K
    try simp only [Act.put, List.setIfInBounds_toArray, List.set_cons_zero, List.set_cons_succ]
    refine held_take (i := 4) (d := 18) (v := ?_) rfl rfl (by kernel_rfl) (by kernel_rfl) (by kernel_rfl) (fun _ _ _ h => h) (by rfl) ?_ hHeld ?_
    rotate_left
    · intro w hSw; (try dsimp only at hSw); go_simp; with_reducible rfl
    try simp only [Act.put, List.setIfInBounds_toArray, List.set_cons_zero, List.set_cons_succ]
    refine wpAnyH_done (by kernel_rfl) ?_ _
    rcases hcs.out with ⟨h1, h2⟩ | ⟨h1, h2⟩
    · have hc0 : c = 0 := by rw [← hc.out]; exact h2
      subst hc0
      rw [if_pos h1] at hfmt
      clear h1 h2 hcs
      go_wp2_with fail
      go_ret
      exact ⟨_, rfl, by rw [hfmt.out, List.append_nil]; simp [Go.Joins.data_append, hs1.out], hB2.bel.trans (by go_simp; exact (hd.trans (hbo.mono (Nat.le_refl _))).mono hB2.bel.size)⟩
    · have hc0 : c ≠ 0 := by rw [← hc.out]; exact h2
      rw [if_neg h1] at hfmt
      have e1 : (c != 0) = true := by simpa using hc0
      have e2 : (c == 0) = false := by simpa using hc0
      clear h1 h2 hcs hc0
      obtain ⟨k0, k1, k2⟩ := hHeld
      go_wp2_with fail
      refine (digits_any _ _ _ _ _ ((sB2.next hd).next hbo) hyn ((hpw.next hd).next hbo)).mono ?_; rintro e w4 ⟨s2, rfl, hs2, hb4⟩
      have hz2 : s2.size ≤ 600000000 := by rw [Lib.size_eq, hs2]; have := dec_len_le hqd; omega
      have hs2 := hid hs2
      clear k0 k1 k2
      go_wp2_with fail
      go_ret
      exact ⟨_, rfl, by rw [hfmt.out]; simp [Go.Joins.data_append, hs1.out, hs2.out], below_chain (hB2.bel.trans ((hd.trans (hbo.mono (Nat.le_refl _))).mono hB2.bel.size)) hb4⟩

end Go.Proofs.YtgohfieleckmgaaGreatDoor

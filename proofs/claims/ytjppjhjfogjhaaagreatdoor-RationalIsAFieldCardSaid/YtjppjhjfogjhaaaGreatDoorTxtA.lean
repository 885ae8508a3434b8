/-
  The table of powers of ten; the contracts of strconv.Itoa and Atoi at digits, strings.Cut at a slash, strings.Trim at digits. No condition but sizes.
-/
import Derived.Test.YtjppjhjfogjhaaaGreatDoorShl
import Derived.Test.YtjppjhjfogjhaaaGreatDoorDec
import Derived.Test.YtjppjhjfogjhaaaGreatDoorRatU
import Derived.Lib.SmallJoins
namespace Go.Proofs.YtjppjhjfogjhaaaGreatDoor
open Go.RowKit Go.Lib Go.Sort
set_option linter.unusedSimpArgs false
set_option linter.unusedVariables false

/-- The table of the powers of ten is laid. -/
def Pow (w : World) : Prop := Lib.TabIs Tryz.prog w "internal/strconv.uint64pow10" .u64 Lib.pow10Tab
theorem pow_glob : Tryz.prog.globalNamed "internal/strconv.uint64pow10" = some 5 := by kernel_rfl
theorem Pow.next {w w' : World} (h : Pow w) (hb : Below w.heap.size w w') : Pow w' := Go.Joins.tab_stays pow_glob h hb (Nat.le_refl _)

theorem below_grow (w : World) (k : Nat) (os : Array Obj) : Below w.heap.size w (Go.Sort.grow (w.drewN k) os) := by
  refine ⟨rfl, rfl, rfl, ?_, fun j hj => ?_⟩
  · simp
  · show (w.heap ++ os)[j]? = w.heap[j]?
    rw [Array.getElem?_append, if_pos hj]

/-- A string comes back. -/
def StrOut (w : World) (l : List UInt8) (e : Ending) (w' : World) : Prop := ∃ s : ByteArray, e = .returned (.string s) ∧ s.data.toList = l ∧ Below w.heap.size w w'

theorem itoa_any (N : Int) (n : Nat) (hN : N = (n : Int)) (hn : n ≤ 9223372036854775807) (w : World) (hp : Pow w) : Calls Tryz.prog 95 #[.int .i64 N] w (StrOut w (decDigits n)) := by
  subst hN
  refine (Tryz.strconv_Itoa (n : Int) (by omega) (by omega) w hp).mono ?_
  rintro e w' ⟨rfl, k, os, rfl⟩
  refine ⟨_, rfl, ?_, below_grow w k os⟩
  show Lib.itoa (n : Int) = _
  unfold Lib.itoa
  rw [if_neg (by omega), Int.toNat_natCast]

/-- The bytes of a numeral of at most 18 digits. -/
theorem atoi_any (s : ByteArray) (hl : s.size ≤ 18) (h0 : s.data.toList ≠ []) (n : Nat) (h : decFrom 0 s.data.toList = some n) (w : World) :
    Calls Tryz.prog 94 #[.string s] w fun e w' => e = .returned (.tuple #[.int .i64 (n : Int), .nilIface]) ∧ Below w.heap.size w w' := by
  have hd : Lib.atoi s.data.toList = some (n : Int) := by
    cases hc : s.data.toList with
    | nil => exact absurd hc h0
    | cons b r =>
      rw [hc] at h
      have hb := ((all_dig (b :: r) 0).1 (by rw [h]; rfl)) b (by simp)
      have e1 : (b == 45) = false := by simp; intro e; subst e; simp at hb
      have e2 : (b == 43) = false := by simp; intro e; subst e; simp at hb
      simp only [Lib.atoi]
      rw [e1, e2]
      simp [decNat, h]
  refine (Tryz.strconv_Atoi s (n : Int) hl hd w).mono ?_
  rintro e w' ⟨rfl, t, rfl⟩
  exact ⟨rfl, Go.Joins.below_bytesWorld _ _ _ _ (Nat.le_refl _)⟩

/-! ### strings.Cut at a slash -/
theorem index_cases (l : List UInt8) (c : UInt8) : (c ∈ l ∧ indexByte l c = ((l.takeWhile (· ≠ c)).length : Int)) ∨ (c ∉ l ∧ indexByte l c = -1) := by
  induction l with
  | nil => exact .inr ⟨by simp, rfl⟩
  | cons b l ih =>
    unfold indexByte
    by_cases hb : b = c
    · subst hb; exact .inl ⟨by simp, by simp [List.takeWhile_cons]⟩
    · have hb' : (b == c) = false := by simpa using hb
      rw [hb']
      rcases ih with ⟨h1, h2⟩ | ⟨h1, h2⟩
      · refine .inl ⟨by simp [h1], ?_⟩
        have : (indexByte l c == -1) = false := by rw [h2]; simp
        rw [this, h2]
        simp [List.takeWhile_cons, hb]
      · refine .inr ⟨by simp [h1]; exact fun e => hb e.symm, ?_⟩
        rw [h2]; rfl

theorem takeWhile_take (l : List UInt8) (c : UInt8) : l.take (l.takeWhile (· ≠ c)).length = l.takeWhile (· ≠ c) := by
  induction l with
  | nil => rfl
  | cons b l ih =>
    by_cases hb : b = c
    · subst hb; simp [List.takeWhile_cons]
    · simp only [List.takeWhile_cons, ne_eq, hb, not_false_eq_true, decide_true, if_true, List.length_cons, List.take_succ_cons]
      congr 1
theorem dropWhile_drop' (l : List UInt8) (c : UInt8) : l.drop (l.takeWhile (· ≠ c)).length = l.dropWhile (· ≠ c) := by
  induction l with
  | nil => rfl
  | cons b l ih =>
    by_cases hb : b = c
    · subst hb; simp [List.takeWhile_cons, List.dropWhile_cons]
    · simp only [List.takeWhile_cons, List.dropWhile_cons, ne_eq, hb, not_false_eq_true, decide_true, if_true, List.length_cons, List.drop_succ_cons]
      exact ih
theorem takeWhile_lt {l : List UInt8} {c : UInt8} (h : c ∈ l) : (l.takeWhile (· ≠ c)).length < l.length := by
  induction l with
  | nil => simp at h
  | cons b l ih =>
    by_cases hb : b = c
    · subst hb; simp [List.takeWhile_cons]
    · simp only [List.takeWhile_cons, ne_eq, hb, not_false_eq_true, decide_true, if_true, List.length_cons]
      have := ih (by simpa [show ¬ c = b from fun e => hb e.symm] using h)
      simp only [ne_eq] at this
      omega

/-- What Cut gives at a slash. -/
def CutOut (w : World) (l : List UInt8) (e : Ending) (w' : World) : Prop :=
  ∃ a b : ByteArray, e = .returned (.tuple #[.string a, .string b, .bool (decide ((47 : UInt8) ∈ l))]) ∧ a.data.toList = (cutSl l).1 ∧ ((47 : UInt8) ∈ l → b.data.toList = (cutSl l).2) ∧ Below w.heap.size w w'

theorem lcut_any (s : ByteArray) (hs : s.size ≤ 9223372036854775807) (w : World) : Calls Tryz.prog 92 #[.string s, .string ⟨#[47]⟩] w (CutOut w s.data.toList) := by
  have hsz := Lib.size_eq s
  rcases index_cases s.data.toList 47 with ⟨h1, h2⟩ | ⟨h1, h2⟩
  · have hlt := takeWhile_lt h1
    have ht := takeWhile_take s.data.toList 47
    have hd := dropWhile_drop' s.data.toList 47
    have hcut : Hid (cutSl s.data.toList = (s.data.toList.take (s.data.toList.takeWhile (· ≠ 47)).length, s.data.toList.drop ((s.data.toList.takeWhile (· ≠ 47)).length + 1))) := hid (by
      unfold cutSl
      rw [if_pos h1, ht, ← List.drop_drop, hd, List.drop_one])
    obtain ⟨k, hk⟩ : ∃ k, (s.data.toList.takeWhile (· ≠ 47)).length = k := ⟨_, rfl⟩
    rw [hk] at h2 hcut hlt
    have H1 := hid h1
    have H2 := hid h2
    have hks : k + 1 ≤ s.size := by omega
    have hks' : k ≤ s.size := by omega
    clear h1 h2 ht hd hk hsz hlt
    go_enter Tryz.func92, Tryz.ntmps92
    go_wp2_with fail
    refine (Tryz.stringslite_Index_one s 47 w).mono ?_; rintro e w1 ⟨rfl, rfl⟩
    rw [H2.out]
    go_wp2_with fail
    go_quiet (fail)
    go_wp2_with fail
    go_ret3
    refine ⟨s.extract 0 k, s.extract (k + 1) s.size, ?_, ?_, fun _ => ?_, below_drewNs nq⟩
    · rw [show decide ((47 : UInt8) ∈ s.data.toList) = true from decide_eq_true H1.out]; rfl
    · rw [Lib.extract_data, hcut.out]; simp
    · rw [Lib.extract_data, hcut.out, List.take_of_length_le (by rw [List.length_drop, Lib.size_eq]; omega)]
  · have H1 := hid h1
    have H2 := hid h2
    clear h1 h2
    go_enter Tryz.func92, Tryz.ntmps92
    go_wp2_with fail
    refine (Tryz.stringslite_Index_one s 47 w).mono ?_; rintro e w1 ⟨rfl, rfl⟩
    rw [H2.out]
    go_wp2_with fail
    go_ret3
    refine ⟨s, ⟨#[]⟩, ?_, ?_, fun h => absurd h H1.out, Below.refl _ _⟩
    · rw [show decide ((47 : UInt8) ∈ s.data.toList) = false from decide_eq_false H1.out]; rfl
    · unfold cutSl; rw [if_neg H1.out]

theorem cut_any (s : ByteArray) (hs : s.size ≤ 9223372036854775807) (w : World) : Calls Tryz.prog 58 #[.string s, .string ⟨#[47]⟩] w (CutOut w s.data.toList) := by
  have hl := lcut_any s hs w
  generalize s.data.toList = l at *
  go_enter Tryz.func58, Tryz.ntmps58
  go_wp2_with fail
  refine hl.mono ?_; rintro e w1 ⟨a, b, rfl, h1, h2, hb⟩
  have h1 := hid h1; have h2 := hid h2
  obtain ⟨c, hc⟩ : ∃ c, decide ((47 : UInt8) ∈ l) = c := ⟨_, rfl⟩
  rw [hc]
  have HC := hid hc
  clear hc
  go_wp2_with fail
  go_ret3
  exact ⟨a, b, by rw [HC.out]; rfl, h1.out, h2.out, hb⟩

/-! ### Digits -/
theorem trimS_nil {l cs : List UInt8} : (trimS l cs = []) ↔ ∀ b ∈ l, cs.contains b = true := by
  have dw : ∀ (p : UInt8 → Bool) (l : List UInt8), l.dropWhile p = [] ↔ ∀ b ∈ l, p b = true := by
    intro p l
    induction l with
    | nil => simp
    | cons a l ih =>
      by_cases h : p a = true
      · simp [List.dropWhile_cons, h, ih]
      · simp [List.dropWhile_cons, h]
  unfold trimS trimLeftS trimRightS
  rw [dw]
  constructor
  · intro h b hb
    have hr : ∀ x ∈ l.reverse.dropWhile (cs.contains ·), cs.contains x = true := fun x hx => h x (by simpa using hx)
    have h0 : l.reverse.dropWhile (cs.contains ·) = [] := by
      cases hc : l.reverse.dropWhile (cs.contains ·) with
      | nil => rfl
      | cons x t =>
        exfalso
        have h1 := List.head?_dropWhile_not (cs.contains ·) l.reverse
        rw [hc] at h1
        have h2 := hr x (by rw [hc]; simp)
        simp at h1
        simp at h2
        exact h1 h2
    exact (dw _ _).1 h0 b (by simpa using hb)
  · intro h b hb
    have : l.reverse.dropWhile (cs.contains ·) = [] := (dw _ _).2 (fun x hx => h x (by simpa using hx))
    rw [this] at hb
    simp at hb

/-- The ten digits. -/
def digitSet : ByteArray := ⟨#[48, 49, 50, 51, 52, 53, 54, 55, 56, 57]⟩

theorem digitSet_mem (b : UInt8) : digitSet.data.toList.contains b = true ↔ 48 ≤ b.toNat ∧ b.toNat ≤ 57 := by
  have key : ∀ n : Fin 256, (digitSet.data.toList.contains (UInt8.ofNat n.val) = true ↔ 48 ≤ (UInt8.ofNat n.val).toNat ∧ (UInt8.ofNat n.val).toNat ≤ 57) := by decide +kernel
  have := key ⟨b.toNat, b.toNat_lt⟩
  simpa using this

theorem trimD_any (s : ByteArray) (h0 : 0 < s.size) (hs : s.size ≤ 9223372036854775807) (w : World) :
    Calls Tryz.prog 93 #[.string s, .string ⟨#[48, 49, 50, 51, 52, 53, 54, 55, 56, 57]⟩] w fun e w' => (∃ t : ByteArray, e = .returned (.string t) ∧ t.toList.isEmpty = (decFrom 0 s.data.toList).isSome) ∧ Below w.heap.size w w' := by
  refine (Any.strings_Trim_set Tryz.lays160 (fun _ => by kernel_rfl) (by kernel_rfl) s digitSet w (by decide) h0 hs (by decide) ?_).mono ?_
  · intro j b hj
    have := (digitSet_mem b).1 (by simpa using List.mem_of_getElem? hj)
    omega
  · rintro e w' ⟨rfl, q, rfl⟩
    refine ⟨⟨_, rfl, ?_⟩, ((((Below.refl _ _).alloc (Nat.le_refl _) _).alloc (by simp) _)).trans (by go_simp; exact below_drewNs _)⟩
    rw [Lib.toList_data]
    show (trimS s.data.toList digitSet.data.toList).isEmpty = _
    rw [Bool.eq_iff_iff, List.isEmpty_iff, trimS_nil, all_dig]
    exact forall_congr' fun b => imp_congr_right fun _ => digitSet_mem b

end Go.Proofs.YtjppjhjfogjhaaaGreatDoor

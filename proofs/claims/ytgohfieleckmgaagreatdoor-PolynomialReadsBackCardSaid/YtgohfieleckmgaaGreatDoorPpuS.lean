/-
  Joined out of XPpt, XPpu, XPpv, XPpw.
-/
import Derived.Test.YtgohfieleckmgaaGreatDoorPplS
import Derived.Test.YtgohfieleckmgaaGreatDoorPrwS
import Derived.Test.YtgohfieleckmgaaGreatDoorTxtJ
import Derived.Deep.DeepCutAuto
import Derived.Test.YtgohfieleckmgaaGreatDoorPwrS
import Derived.Test.YtgohfieleckmgaaGreatDoorPut
import Derived.Test.YtgohfieleckmgaaGreatDoorPrf
import Derived.Test.YtgohfieleckmgaaGreatDoorOpenP
import Derived.Test.YtgohfieleckmgaaGreatDoorPlkS

/-
  The reference's reading of a monomial, step by step: plain facts. No condition, no program.
-/
namespace Go.Proofs.YtgohfieleckmgaaGreatDoor
open Go.RowKit Go.Lib
set_option linter.unusedSimpArgs false
set_option linter.unusedVariables false

/-- Reading what is left of a monomial's text. -/
def refG (l : List UInt8) (first : Bool) (m : Ex × Rat) : Option (Ex × Rat) := refF (spl 42 l) first m
theorem refG_nil (first : Bool) (m : Ex × Rat) : refG [] first m = if first then none else some m := by
  unfold refG
  rw [show spl 42 [] = [[]] from rfl, refF]
theorem refG_last {l : List UInt8} (h : l ≠ []) (hno : 42 ∉ l) (first : Bool) (m : Ex × Rat) : refG l first m = match refPow l with
    | some (i, k) => some (bump m.1 i k, m.2)
    | none => if first && parseOk l then some (m.1, parseQ l) else none := by
  unfold refG
  rw [spl_plain hno, refF_cons h]
  cases refPow l with
  | none => simp only [refF]; rfl
  | some v => rfl
theorem refF_pair (a : List UInt8) (ps : List (List UInt8)) (hps : ps ≠ []) (first : Bool) (m : Ex × Rat) : refF (a :: ps) first m = match refPow a with
    | some (i, k) => refF ps false (bump m.1 i k, m.2)
    | none => if first && parseOk a then refF ps false (m.1, parseQ a) else none := by
  cases ps with
  | nil => exact absurd rfl hps
  | cons p ps =>
    cases a with
    | nil =>
      rw [refF]
      · cases refPow [] <;> rfl
      · first | (intro _ h; cases h) | (intro h; cases h)
    | cons x r => rw [refF_cons (by simp)]; cases refPow (x :: r) <;> rfl
theorem refG_step {l : List UInt8} {k : Nat} (h : l[k]? = some 42) (hno : 42 ∉ l.take k) (first : Bool) (m : Ex × Rat) : refG l first m = match refPow (l.take k) with
    | some (i, n) => refG (l.drop (k + 1)) false (bump m.1 i n, m.2)
    | none => if first && parseOk (l.take k) then refG (l.drop (k + 1)) false (m.1, parseQ (l.take k)) else none := by
  have e : l = l.take k ++ 42 :: l.drop (k + 1) := by
    conv => lhs; rw [← List.take_append_drop k l, drop_cons h]
  unfold refG
  conv => lhs; rw [e]
  rw [spl_cut hno, refF_pair _ _ (spl_ne _ _)]
/-- What a part of a monomial's text is, in the words of the reference: how its condition runs. -/
theorem refPow_one {c : UInt8} : refPow [c] = if 97 ≤ c.toNat ∧ c.toNat < 100 then some (c.toNat - 97, 1) else none := rfl
theorem refPow_lt {l : List UInt8} {i k : Nat} (h : refPow l = some (i, k)) : i < 3 := by
  unfold refPow at h
  split at h
  · split at h
    · simp only [Option.some.injEq, Prod.mk.injEq] at h; omega
    · cases h
  · split at h
    · simp only [Option.some.injEq, Prod.mk.injEq] at h; omega
    · cases h
  · cases h
theorem emptyS_no {t : ByteArray} (h : t.size ≠ 0) : t.toList.isEmpty = false := by
  rw [Lib.toList_data]
  cases hc : t.data.toList with
  | nil => rw [Lib.size_eq, hc] at h; simp at h
  | cons => rfl
theorem emptyS_yes {t : ByteArray} (h : t.size = 0) : t.toList.isEmpty = true := by
  rw [Lib.toList_data, List.isEmpty_iff]
  exact List.eq_nil_of_length_eq_zero (by rw [← Lib.size_eq]; exact h)
end Go.Proofs.YtgohfieleckmgaaGreatDoor

/-
  The reference's parse of a monomial, as it runs. No condition but sizes.
-/
namespace Go.Proofs.YtgohfieleckmgaaGreatDoor
open Go.RowKit Go.Lib
set_option linter.unusedSimpArgs false
set_option linter.unusedVariables false

theorem data_nil {p : ByteArray} (h : p.size = 0) : p.data.toList = [] := List.eq_nil_of_length_eq_zero (by rw [← Lib.size_eq]; exact h)
theorem data_one {p : ByteArray} (h : p.size = 1) : p.data.toList = [p[0]] := by
  have hl : p.data.toList.length = 1 := by rw [← Lib.size_eq]; exact h
  have h0 : p.data.toList[0]? = some p[0] := List.getElem?_eq_getElem (by omega)
  match hm : p.data.toList, hl with
  | [x], _ =>
    rw [hm] at h0
    simpa using h0
theorem data_three {p : ByteArray} (h : p.size = 3) : p.data.toList = [p[0], p[1], p[2]] := by
  have hl : p.data.toList.length = 3 := by rw [← Lib.size_eq]; exact h
  have h0 : p.data.toList[0]? = some p[0] := List.getElem?_eq_getElem (by omega)
  have h1 : p.data.toList[1]? = some p[1] := List.getElem?_eq_getElem (by omega)
  have h2 : p.data.toList[2]? = some p[2] := List.getElem?_eq_getElem (by omega)
  match hm : p.data.toList, hl with
  | [x, y, z], _ =>
    rw [hm] at h0 h1 h2
    simp at h0 h1 h2
    rw [h0, h1, h2]
theorem refPow_zero {p : ByteArray} (h : p.size = 0) : refPow p.data.toList = none := by rw [data_nil h]; rfl
theorem refPow_of1 {p : ByteArray} (h : p.size = 1) : refPow p.data.toList = if 97 ≤ p[0].toNat ∧ p[0].toNat < 100 then some (p[0].toNat - 97, 1) else none := by rw [data_one h]; rfl
theorem u8_is {a : UInt8} {n : Nat} (hn : n < 256) : a = UInt8.ofNat n ↔ a.toNat = n := by
  constructor
  · intro h; rw [h]; simp; omega
  · intro h; apply UInt8.toNat_inj.1; rw [h]; simp; omega
theorem refPow_of3 {p : ByteArray} (h : p.size = 3) : refPow p.data.toList = if 97 ≤ p[0].toNat ∧ p[0].toNat < 100 ∧ p[1].toNat = 94 ∧ 50 ≤ p[2].toNat ∧ p[2].toNat ≤ 53 then some (p[0].toNat - 97, p[2].toNat - 48) else none := by
  rw [data_three h]
  have e : (p[1] = 94) ↔ (p[1].toNat = 94) := u8_is (n := 94) (by decide)
  show (if 97 ≤ p[0].toNat ∧ p[0].toNat < 100 ∧ p[1] = 94 ∧ 50 ≤ p[2].toNat ∧ p[2].toNat ≤ 53 then _ else _) = _
  by_cases hall : 97 ≤ p[0].toNat ∧ p[0].toNat < 100 ∧ p[1].toNat = 94 ∧ 50 ≤ p[2].toNat ∧ p[2].toNat ≤ 53
  · rw [if_pos hall, if_pos ⟨hall.1, hall.2.1, e.2 hall.2.2.1, hall.2.2.2⟩]
  · rw [if_neg hall, if_neg fun h => hall ⟨h.1, h.2.1, e.1 h.2.2.1, h.2.2.2⟩]
theorem refPow_else {p : ByteArray} (h1 : p.size ≠ 1) (h3 : p.size ≠ 3) : refPow p.data.toList = none := by
  have e := Lib.size_eq p
  unfold refPow
  split
  · rename_i hh; rw [hh] at e; exact absurd e h1
  · rename_i hh; rw [hh] at e; exact absurd e h3
  · rfl
theorem refPow_byte {p : ByteArray} (h0 : 0 < p.size) (h : p[0].toNat < 97 ∨ 100 ≤ p[0].toNat) : refPow p.data.toList = none := by
  by_cases h1 : p.size = 1
  · rw [refPow_of1 h1, if_neg (by omega)]
  · by_cases h3 : p.size = 3
    · rw [refPow_of3 h3, if_neg (by omega)]
    · exact refPow_else h1 h3
/-- What a parameter's text says about its bytes. -/
theorem refPow_yes {p : ByteArray} {i k : Nat} (h : refPow p.data.toList = some (i, k)) : ∃ h0 : 0 < p.size, p[0].toNat = 97 + i ∧ i < 3 ∧ k ≤ 5 ∧ ((p.size = 1 ∧ k = 1) ∨ ∃ h3 : p.size = 3, p[2].toNat = 48 + k) := by
  by_cases h0 : p.size = 0
  · rw [refPow_zero h0] at h; cases h
  · refine ⟨by omega, ?_⟩
    by_cases h1 : p.size = 1
    · rw [refPow_of1 h1] at h
      split at h
      · simp only [Option.some.injEq, Prod.mk.injEq] at h
        exact ⟨by omega, by omega, by omega, .inl ⟨h1, h.2.symm⟩⟩
      · cases h
    · by_cases h3 : p.size = 3
      · rw [refPow_of3 h3] at h
        split at h
        · simp only [Option.some.injEq, Prod.mk.injEq] at h
          exact ⟨by omega, by omega, by omega, .inr ⟨h3, by omega⟩⟩
        · cases h
      · rw [refPow_else h1 h3] at h; cases h

/-- A part of a monomial's text. -/
def PartAt (tl : List UInt8) (p : ByteArray) : Prop := 42 ∉ p.data.toList ∧ (p.data.toList = tl ∨ (tl[p.size]? = some 42 ∧ p.data.toList = tl.take p.size))
/-- What parse answers. -/
def RfO (l : List UInt8) (w : World) (e : Ending) (w' : World) : Prop := ∃ (E : Ex) (s : Bool) (xo : Option Addr) (xn xc : Nat) (yo : Option Addr) (yn yc : Nat) (q : Rat) (ok : Bool),
  e = .returned (.tuple #[.agg #[.int .i64 E.1, .int .i64 E.2.1, .int .i64 E.2.2, .bool s, .slice xo xn xc, .slice yo yn yc], .bool ok]) ∧ RatC w' (.agg #[.bool s, .slice xo xn xc, .slice yo yn yc]) q ∧ Below w.heap.size w w' ∧
  ((ok = true ∧ refM l = some (E, q)) ∨ (ok = false ∧ refM l = none))
def M0 : Mo := ((0, 0, 0), false, (none, 0, 0), (none, 0, 0))
/-- What lies in memory while parse runs: m at G, the result's place at w.heap.size. -/
def RfM (w : World) (G : Nat) (E : Ex) (q : Rat) (wr : World) : Prop := ∃ (s : Bool) (xo : Option Addr) (xn xc : Nat) (yo : Option Addr) (yn yc : Nat),
  B6 G (((E.1 : Int), (E.2.1 : Int), (E.2.2 : Int)), s, (xo, xn, xc), (yo, yn, yc)) wr ∧ RatC wr (.agg #[.bool s, .slice xo xn xc, .slice yo yn yc]) q ∧ B6 w.heap.size M0 wr ∧ Below w.heap.size w wr
theorem RfM.next {w wr w' : World} {G : Nat} {E : Ex} {q : Rat} (h : RfM w G E q wr) (hb : Below wr.heap.size wr w') : RfM w G E q w' := by
  obtain ⟨s, xo, xn, xc, yo, yn, yc, h1, h2, h3, h4⟩ := h
  exact ⟨s, xo, xn, xc, yo, yn, yc, h1.next hb, h2.next hb, h3.next hb, below_chain h4 hb⟩
theorem B6.off {G H : Nat} {m : Mo} {w : World} (h : B6 H m w) (hne : H ≠ G) (i : Nat) (x : Value) : B6 H m (w.setCell ⟨G, i, none⟩ x) := by
  obtain ⟨T, hT⟩ := h
  exact ⟨T, by rw [Below.heap_setCell _ _ _ _ hne]; exact hT⟩
/-- What comes behind a part. -/
def nxt (tl : List UInt8) (p : ByteArray) (m : Ex × Rat) : Option (Ex × Rat) := if p.data.toList = tl then some m else refG (tl.drop (p.size + 1)) false m
theorem refG_part {tl : List UInt8} {p : ByteArray} (hP : PartAt tl p) (h0 : tl ≠ []) (first : Bool) (m : Ex × Rat) : refG tl first m = match refPow p.data.toList with
    | some (i, k) => nxt tl p (bump m.1 i k, m.2)
    | none => if first && parseOk p.data.toList then nxt tl p (m.1, parseQ p.data.toList) else none := by
  obtain ⟨hno, h | ⟨h1, h2⟩⟩ := hP
  · have hn : ∀ m', nxt tl p m' = some m' := fun m' => if_pos h
    rw [h] at hno
    simp only [hn]
    rw [h]
    exact refG_last h0 hno first m
  · have hlt : p.size < tl.length := (List.getElem?_eq_some_iff.1 h1).1
    have hne : ¬ p.data.toList = tl := fun e => by
      have := congrArg List.length e
      rw [← Lib.size_eq] at this
      omega
    have hn : ∀ m', nxt tl p m' = refG (tl.drop (p.size + 1)) false m' := fun m' => if_neg hne
    simp only [hn]
    have := refG_step h1 (by rw [← h2]; exact hno) first m
    rw [← h2] at this
    exact this
def stp (tl : List UInt8) (p : ByteArray) (first : Bool) (m : Ex × Rat) : Option (Nat × Nat) → Option (Ex × Rat)
  | some (i, k) => nxt tl p (bump m.1 i k, m.2)
  | none => if first && parseOk p.data.toList then nxt tl p (m.1, parseQ p.data.toList) else none
theorem refG_stp {tl : List UInt8} {p : ByteArray} (hP : PartAt tl p) (h0 : tl ≠ []) (first : Bool) (m : Ex × Rat) : refG tl first m = stp tl p first m (refPow p.data.toList) := by
  rw [refG_part hP h0]
  cases refPow p.data.toList <;> rfl
def fin3 (b : Bool) : Option (Ex × Rat) → Option (Ex × Rat)
  | none => none
  | some (e, q) => some (e, sgnQ b q)
theorem refM_fin (l : List UInt8) : refM l = fin3 (isNeg l) (refF (spl 42 (noSign l)) true ((0, 0, 0), 1)) := by
  unfold refM
  cases refF (spl 42 (noSign l)) true ((0, 0, 0), 1) <;> rfl
theorem PartAt.le {tl : List UInt8} {p : ByteArray} (h : PartAt tl p) : p.size ≤ tl.length ∧ (¬ p.data.toList = tl → p.size < tl.length) := by
  obtain ⟨_, h | ⟨h1, h2⟩⟩ := h
  · exact ⟨by rw [Lib.size_eq, h]; exact Nat.le_refl _, fun k => absurd h k⟩
  · have := (List.getElem?_eq_some_iff.1 h1).1
    exact ⟨by omega, fun _ => this⟩
theorem bytes_eq {a b : ByteArray} (h : a.data.toList = b.data.toList) : a = b := ByteArray.ext (Array.ext' h)
def szS : Value → Nat
  | .string s => s.size
  | _ => 0
theorem take_no42 {l : List UInt8} {i : Nat} (h1 : 42 ∉ l.take i) {c : UInt8} (h2 : l[i]? = some c) (hc : c ≠ 42) : 42 ∉ l.take (i + 1) := by
  rw [take_snoc h2]
  simp only [List.mem_append, List.mem_singleton, not_or]
  exact ⟨h1, fun e => hc e.symm⟩

set_option maxRecDepth 100000 in
set_option maxHeartbeats 8000000 in
theorem rParseM_any (s : ByteArray) (hs : s.size ≤ 2001) (w : World) :
    Calls Tryz.prog 119 #[.string s] w (RfO s.data.toList w) := by
  obtain ⟨l, hl⟩ : ∃ l, s.data.toList = l := ⟨_, rfl⟩
  have hsz : s.size = l.length := by rw [← hl, Lib.size_eq]
  have Hsg : Hid (isNeg l = true ↔ ∃ h : 0 < s.size, s[0].toNat = 45) := hid (by
    rw [← hl]
    constructor
    · intro h
      have h1 : s.data.toList.head? = some 45 := by unfold isNeg at h; simpa using h
      have h2 : 0 < s.size := by rw [Lib.size_eq]; cases hc : s.data.toList with | nil => rw [hc] at h1; cases h1 | cons => simp
      exact ⟨h2, (u8_is (n := 45) (by decide)).1 (head_byte h2 h1)⟩
    · rintro ⟨h2, h3⟩
      unfold isNeg
      have h1 : s.data.toList[0]? = some s[0] := List.getElem?_eq_getElem (by rw [← Lib.size_eq]; exact h2)
      rw [List.head?_eq_getElem?, h1, (u8_is (n := 45) (by decide)).2 h3]
      rfl)
  rw [hl]
  have Hl := hid hl
  clear hl
  obtain ⟨F, hF⟩ : ∃ F, refF (spl 42 (noSign l)) true ((0, 0, 0), 1) = F := ⟨_, rfl⟩
  have HM : Hid (refM l = fin3 (isNeg l) F) := hid (by rw [refM_fin, hF])
  have HF : Hid (refG (noSign l) true ((0, 0, 0), 1) = F) := hid hF
  have hnl : (noSign l).length ≤ 2001 := by have := noSign_len l; omega
  clear hF hsz
  obtain ⟨neg, hneg⟩ : ∃ c, isNeg l = c := ⟨_, rfl⟩
  rw [hneg] at HM Hsg
  have Hneg := hid hneg
  clear hneg
  have hZ0 := B6.fresh w M0 59
  have hba : Below w.heap.size w (w.alloc (.cells (encM M0).toArray 59)) := below_alloc _
  go_enter Tryz.func119, Tryz.ntmps119
  go_wp2_with fail
  refine (rone_any _).mono ?_; rintro e w1 ⟨v1, rfl, C1, hb1⟩
  obtain ⟨rb, ro, rn, rc, so, sn, sc, rfl⟩ := C1.shape
  have hZ1 := hZ0.next hb1
  have hbel1 := below_chain hba hb1
  have hbA : Below w1.heap.size w1 (w1.alloc (.cells #[.int .i64 0, .int .i64 0, .int .i64 0, .bool rb, .slice ro rn rc, .slice so sn sc] 59)) := below_alloc _
  have hM0 : RfM w w1.heap.size (0, 0, 0) 1 (w1.alloc (.cells #[.int .i64 0, .int .i64 0, .int .i64 0, .bool rb, .slice ro rn rc, .slice so sn sc] 59)) :=
    ⟨rb, ro, rn, rc, so, sn, sc, B6.fresh w1 ((0, 0, 0), rb, (ro, rn, rc), (so, sn, sc)) _, C1.next hbA, hZ1.next hbA, below_chain hbel1 hbA⟩
  have hGl : w.heap.size ≤ w1.heap.size := Nat.le_trans hba.size hb1.size
  have hGn : w.heap.size ≠ w1.heap.size := by
    have := hb1.size
    simp at this
    omega
  clear hZ0 hba hZ1 hbel1 hbA C1
  go_upto_region 2 with fail
  obtain ⟨G, hG⟩ : ∃ G, w1.heap.size = G := ⟨_, rfl⟩
  rw [hG] at hM0 hGn hGl
  (try rw [hG])
  clear hG
  generalize w1.alloc (.cells #[.int .i64 0, .int .i64 0, .int .i64 0, .bool rb, .slice ro rn rc, .slice so sn sc] 59) = W2 at *
  have HM0 := hid hM0
  clear hM0 hb1
  go_cut [21] (fun cv wx => cv = .bool neg ∧ wx = W2)
  case first =>
    by_cases h0 : s.size = 0
    · have hn0 : neg = false := by
        rw [← Bool.not_eq_true]; intro h; obtain ⟨h1, _⟩ := Hsg.out.1 h; omega
      have c1 : decide (0 < s.size) = false := decide_eq_false (by omega)
      have c2 : decide ((0 : Int) < (s.size : Int)) = false := decide_eq_false (by omega)
      clear h0
      go_wp2_with fail
      go_meet
      exact ⟨by rw [hn0], rfl⟩
    · have h1 : 0 < s.size := by omega
      have c1 : decide (0 < s.size) = true := decide_eq_true (by omega)
      have c2 : decide ((0 : Int) < (s.size : Int)) = true := decide_eq_true (by omega)
      by_cases h2 : s[0].toNat = 45
      · have hn1 : neg = true := Hsg.out.2 ⟨h1, h2⟩
        clear h0
        go_wp2_with fail
        go_meet
        exact ⟨by rw [hn1], rfl⟩
      · have hn0 : neg = false := by
          rw [← Bool.not_eq_true]; intro h; obtain ⟨_, h3⟩ := Hsg.out.1 h; exact h2 h3
        have c3 : ((s[0].toNat : Int) == 45) = false := by rw [beq_eq_false_iff_ne]; omega
        clear h0
        go_wp2_with fail
        go_meet
        exact ⟨by rw [hn0], rfl⟩
  case rest =>
    obtain ⟨rfl, rfl⟩ := hcut
    rename World => W2
    go_upto_if 21 with fail
    go_cut [0, 5] (fun sv nv wx => ∃ t : ByteArray, sv = .string t ∧ nv = .bool neg ∧ Hid (t.data.toList = noSign l) ∧ Below W2.heap.size W2 wx)
    case first =>
      cases neg with
      | true =>
        have h1 : 0 < s.size := (Hsg.out.1 rfl).1
        have h1' : 1 ≤ s.size := h1
        go_wp2_with fail
        go_quiet (fail)
        go_wp2_with fail
        go_meet
        refine ⟨_, rfl, rfl, hid ?_, below_drewNs _⟩
        rw [extract_to_end, Hl.out]
        unfold noSign
        rw [if_pos (by have := Hneg.out; unfold isNeg at this; simpa using this)]
        cases l <;> rfl
      | false =>
        go_wp2_with fail
        go_meet
        refine ⟨_, rfl, rfl, hid ?_, Below.refl _ _⟩
        rw [Hl.out]
        unfold noSign
        rw [if_neg (by have := Hneg.out; unfold isNeg at this; simpa using this)]
    case rest =>
      obtain ⟨t, rfl, rfl, hT, hbt⟩ := hcut
      have hM1 := hid (HM0.out.next hbt)
      clear HM0 hbt Hsg Hneg Hl
      have htn : t.size ≤ 2001 := by rw [Lib.size_eq, hT.out]; omega
      go_upto_block 0 with fail
      go_cut [6] (fun fv wx => ∃ (first : Bool) (E : Ex) (q : Rat), fv = .bool first ∧ Hid ((if first then none else some (E, q)) = F) ∧ Hid (Fit 250 q) ∧ RfM w G E q wx)
      case first =>
        go_wp2_with fail
        go_loopg [0, 6] (t.size) (fun g sv fv wr => ∃ (u : ByteArray) (first : Bool) (E : Ex) (q : Rat), u.size = g ∧ sv = .string u ∧ fv = .bool first ∧ u.size ≤ 2001 ∧ Hid (refG u.data.toList first (E, q) = F) ∧ Hid (Fit 250 q) ∧ deg E + 5 * u.size ≤ 20000 ∧ RfM w G E q wr)
        case atStart => exact ⟨t, true, (0, 0, 0), 1, rfl, rfl, rfl, htn, hid (by rw [hT.out]; exact HF.out), hid (fit_one (by decide)), by have : deg ((0, 0, 0) : Ex) = 0 := rfl; omega, hM1.out⟩
        case round =>
          clear hM1 hT HF htn
          obtain ⟨u, first, ⟨E1, E2, E3⟩, q, hug, rfl, rfl, hun, hG, hfq, hdeg, hM⟩ := hrel
          have Hug := hid hug
          clear hug
          rename World => wr
          have HMm := hid hM
          clear hM
          have Hul := hid (Lib.size_eq u)
          by_cases h0 : u.size = 0
          · have e0 := emptyS_yes h0
            have hfin := hid (by have := hG.out; rw [data_nil h0, refG_nil] at this; exact this)
            clear hG h0
            go_wp2_with fail
            go_meet
            exact ⟨first, _, q, rfl, hfin, hfq, HMm.out⟩
          · have e0 := emptyS_no h0
            have hne : Hid (u.data.toList ≠ []) := hid (fun e => h0 (by rw [Hul.out, e]; rfl))
            clear h0
            go_upto_block 2 with fail
            go_cut [7, 8] (fun pv iv wx => ∃ p : ByteArray, pv = .string p ∧ Hid (PartAt u.data.toList p) ∧ Below wr.heap.size wr wx)
            case first =>
              go_wp2_with fail
              go_loop [7, 8] (fun pv iv => ∃ i : Nat, i ≤ u.size ∧ pv = .string u ∧ iv = .int .i64 i ∧ Hid (42 ∉ u.data.toList.take i)) (fun _ iv => u.size - (RowKit.intOf iv).toNat)
              case atStart => exact ⟨0, Nat.zero_le _, rfl, rfl, hid (by simp)⟩
              case round =>
                obtain ⟨i, hi, rfl, rfl, hno⟩ := hrel
                by_cases hlt : i < u.size
                · have hg : u.data.toList[i]? = some u[i] := List.getElem?_eq_getElem (by rw [← Hul.out]; exact hlt)
                  by_cases h42 : u[i] = 42
                  · rw [h42] at hg
                    have hpa : Hid (PartAt u.data.toList (u.extract 0 i)) := hid (by
                      have hd : (u.extract 0 i).data.toList = u.data.toList.take i := by rw [extract_from_zero]
                      have hsz : (u.extract 0 i).size = i := by rw [Lib.size_eq, hd, List.length_take, ← Hul.out]; omega
                      exact ⟨by rw [hd]; exact hno.out, .inr ⟨by rw [hsz]; exact hg, by rw [hsz]; exact hd⟩⟩)
                    have hi1 : i ≤ u.size := hi
                    clear hg hno
                    go_wp2_with fail
                    (try (go_quiet (fail); go_wp2_with fail))
                    go_meet
                    first
                    | exact ⟨_, rfl, hpa, Below.refl _ _⟩
                    | exact ⟨_, rfl, hpa, below_drewNs _⟩
                  · have hno' := hid (take_no42 hno.out hg h42)
                    have h42' : ((u[i].toNat : Int) == 42) = false := by
                      have : u[i].toNat ≠ 42 := fun e => h42 (UInt8.toNat_inj.1 e)
                      simp; omega
                    clear hg h42
                    go_wp2_with fail
                    go_round
                    case rel => exact ⟨i + 1, by omega, rfl, by go_num, hno'⟩
                    case measure => simp [RowKit.intOf]; omega
                · obtain rfl : i = u.size := by omega
                  have hpa : Hid (PartAt u.data.toList u) := hid (by
                    have := hno.out
                    rw [List.take_of_length_le (by rw [← Hul.out]; exact Nat.le_refl _)] at this
                    exact ⟨this, .inl rfl⟩)
                  clear hno
                  go_wp2_with fail
                  go_meet
                  exact ⟨_, rfl, hpa, Below.refl _ _⟩
            case rest =>
              obtain ⟨p, rfl, hP, hbp⟩ := hcut
              have HMp := hid (HMm.out.next hbp)
              have hple := hP.out.le
              rw [← Hul.out] at hple
              have hps : p.size ≤ u.size := hple.1
              have hplt : ¬ p = u → p.size < u.size := fun h => hple.2 fun e => h (bytes_eq e)
              clear hple HMm hbp
              rename World => wp
              obtain ⟨o, ho⟩ : ∃ o, refPow p.data.toList = o := ⟨_, rfl⟩
              have hstep : Hid (F = stp u.data.toList p first ((E1, E2, E3), q) o) := hid (by rw [← hG.out, refG_stp hP.out hne.out, ho])
              have Ho := hid ho
              clear ho hG hP hne
              go_upto_region 13 with fail
              go_cut [41] (fun cv wx => cv = .bool o.isSome ∧ wx = wp)
              case first =>
                by_cases h0 : p.size = 0
                · have c1 : decide (0 < p.size) = false := decide_eq_false (by omega)
                  have c2 : decide ((0 : Int) < (p.size : Int)) = false := decide_eq_false (by omega)
                  have hob : Hid (Value.bool false = .bool o.isSome) := hid (by rw [← Ho.out, refPow_zero h0]; rfl)
                  clear h0
                  go_wp2_with fail
                  (try (go_quiet (fail); go_wp2_with fail))
                  go_meet
                  exact ⟨hob.out, rfl⟩
                · have h1 : 0 < p.size := by omega
                  have c1 : decide (0 < p.size) = true := decide_eq_true (by omega)
                  have c2 : decide ((0 : Int) < (p.size : Int)) = true := decide_eq_true (by omega)
                  clear h0
                  by_cases a1 : 97 ≤ p[0].toNat
                  · have d1 : decide (97 ≤ p[0].toNat) = true := decide_eq_true a1
                    have d1' : decide ((97 : Int) ≤ (p[0].toNat : Int)) = true := decide_eq_true (by omega)
                    by_cases a2 : p[0].toNat < 100
                    · have d2 : decide (p[0].toNat < 100) = true := decide_eq_true a2
                      have d2' : decide ((p[0].toNat : Int) < 100) = true := decide_eq_true (by omega)
                      by_cases s1 : p.size = 1
                      · have g1 : ((p.size : Int) == 1) = true := by rw [beq_iff_eq]; omega
                        have g1' : (p.size == 1) = true := by rw [beq_iff_eq]; omega
                        have hob : Hid (Value.bool true = .bool o.isSome) := hid (by rw [← Ho.out, refPow_of1 s1, if_pos ⟨a1, a2⟩]; rfl)
                        clear s1
                        go_wp2_with fail
                        (try (go_quiet (fail); go_wp2_with fail))
                        go_meet
                        exact ⟨hob.out, rfl⟩
                      · have g1 : ((p.size : Int) == 1) = false := by rw [beq_eq_false_iff_ne]; omega
                        have g1' : (p.size == 1) = false := by rw [beq_eq_false_iff_ne]; omega
                        by_cases s3 : p.size = 3
                        · have g3 : ((p.size : Int) == 3) = true := by rw [beq_iff_eq]; omega
                          have g3' : (p.size == 3) = true := by rw [beq_iff_eq]; omega
                          have i1 : 1 < p.size := by omega
                          have i2 : 2 < p.size := by omega
                          have hpw := hid (refPow_of3 s3)
                          clear s1
                          by_cases b1 : p[1].toNat = 94
                          · have m1 : ((p[1].toNat : Int) == 94) = true := by rw [beq_iff_eq]; omega
                            by_cases b2 : 50 ≤ p[2].toNat
                            · have d3 : decide (50 ≤ p[2].toNat) = true := decide_eq_true b2
                              have d3' : decide ((50 : Int) ≤ (p[2].toNat : Int)) = true := decide_eq_true (by omega)
                              by_cases b3 : p[2].toNat ≤ 53
                              · have d4 : decide (p[2].toNat ≤ 53) = true := decide_eq_true b3
                                have d4' : decide ((p[2].toNat : Int) ≤ 53) = true := decide_eq_true (by omega)
                                have hob : Hid (Value.bool true = .bool o.isSome) := hid (by rw [← Ho.out, hpw.out, if_pos ⟨a1, a2, b1, b2, b3⟩]; rfl)
                                go_wp2_with fail
                                (try (go_quiet (fail); go_wp2_with fail))
                                go_meet
                                exact ⟨hob.out, rfl⟩
                              · have d4 : decide (p[2].toNat ≤ 53) = false := decide_eq_false b3
                                have d4' : decide ((p[2].toNat : Int) ≤ 53) = false := decide_eq_false (by omega)
                                have hob : Hid (Value.bool false = .bool o.isSome) := hid (by rw [← Ho.out, hpw.out, if_neg (fun h => b3 h.2.2.2.2)]; rfl)
                                go_wp2_with fail
                                (try (go_quiet (fail); go_wp2_with fail))
                                go_meet
                                exact ⟨hob.out, rfl⟩
                            · have d3 : decide (50 ≤ p[2].toNat) = false := decide_eq_false b2
                              have d3' : decide ((50 : Int) ≤ (p[2].toNat : Int)) = false := decide_eq_false (by omega)
                              have hob : Hid (Value.bool false = .bool o.isSome) := hid (by rw [← Ho.out, hpw.out, if_neg (fun h => b2 h.2.2.2.1)]; rfl)
                              go_wp2_with fail
                              (try (go_quiet (fail); go_wp2_with fail))
                              go_meet
                              exact ⟨hob.out, rfl⟩
                          · have m1 : ((p[1].toNat : Int) == 94) = false := by rw [beq_eq_false_iff_ne]; omega
                            have hob : Hid (Value.bool false = .bool o.isSome) := hid (by rw [← Ho.out, hpw.out, if_neg (fun h => b1 h.2.2.1)]; rfl)
                            go_wp2_with fail
                            (try (go_quiet (fail); go_wp2_with fail))
                            go_meet
                            exact ⟨hob.out, rfl⟩
                        · have g3 : ((p.size : Int) == 3) = false := by rw [beq_eq_false_iff_ne]; omega
                          have g3' : (p.size == 3) = false := by rw [beq_eq_false_iff_ne]; omega
                          have hob : Hid (Value.bool false = .bool o.isSome) := hid (by rw [← Ho.out, refPow_else s1 s3]; rfl)
                          clear s1 s3
                          go_wp2_with fail
                          (try (go_quiet (fail); go_wp2_with fail))
                          go_meet
                          exact ⟨hob.out, rfl⟩
                    · have d2 : decide (p[0].toNat < 100) = false := decide_eq_false a2
                      have d2' : decide ((p[0].toNat : Int) < 100) = false := decide_eq_false (by omega)
                      have hob : Hid (Value.bool false = .bool o.isSome) := hid (by rw [← Ho.out, refPow_byte h1 (.inr (by omega))]; rfl)
                      go_wp2_with fail
                      (try (go_quiet (fail); go_wp2_with fail))
                      go_meet
                      exact ⟨hob.out, rfl⟩
                  · have d1 : decide (97 ≤ p[0].toNat) = false := decide_eq_false a1
                    have d1' : decide ((97 : Int) ≤ (p[0].toNat : Int)) = false := decide_eq_false (by omega)
                    have hob : Hid (Value.bool false = .bool o.isSome) := hid (by rw [← Ho.out, refPow_byte h1 (.inl (by omega))]; rfl)
                    go_wp2_with fail
                    (try (go_quiet (fail); go_wp2_with fail))
                    go_meet
                    exact ⟨hob.out, rfl⟩
              case rest =>
                obtain ⟨rfl, rfl⟩ := hcut
                rename World => wp
                cases o with
                | none =>
                  cases first with
                  | false =>
                    have hFn : Hid (refM l = none) := hid (by rw [HM.out, hstep.out]; rfl)
                    clear hstep Ho HM
                    obtain ⟨s', xo, xn, xc, yo, yn, yc, hB, hC, hZ, hbel⟩ := HMp.out
                    obtain ⟨⟨k0, k1, k2⟩, k3, k4, k5⟩ := hB.h6
                    obtain ⟨⟨z0, z1, z2⟩, z3, z4, z5⟩ := hZ.h6
                    simp only [Nat.zero_add] at k0 k1 k2 k3 k4 k5 z0 z1 z2 z3 z4 z5
                    have f0 := hZ.free 0
                    have f1 := hZ.free 1
                    have f2 := hZ.free 2
                    have f3 := hZ.free 3
                    have f4 := hZ.free 4
                    have f5 := hZ.free 5
                    have hB5 := hZ.all (x' := E1) (y' := E2) (z' := E3) (c' := (s', (xo, xn, xc), (yo, yn, yc)))
                    have hC5 := hZ.rat6 (c' := (s', (xo, xn, xc), (yo, yn, yc))) hC E1 E2 E3
                    have hbel5 := below_set6 hbel (Nat.le_refl _) (.int .i64 E1) (.int .i64 E2) (.int .i64 E3) (.bool s') (.slice xo xn xc) (.slice yo yn yc)
                    have Hout := hid (And.intro hB5.h6 (And.intro hC5 hbel5))
                    clear hB5 hC5 hbel5 hB hC hZ hbel
                    go_wp2_with fail
                    obtain ⟨⟨⟨e0, e1, e2⟩, e3, e4, e5⟩, C, hb⟩ := Hout.out
                    simp only [Nat.zero_add] at e0 e1 e2 e3 e4 e5
                    refine bodyPost_ret (v := .tuple #[.agg #[.int .i64 E1, .int .i64 E2, .int .i64 E3, .bool s', .slice xo xn xc, .slice yo yn yc], .bool false]) (by simp [results, Tryz.results119, go_sem, e0, e1, e2, e3, e4, e5]) rfl ?_
                    exact ⟨(E1, E2, E3), _, _, _, _, _, _, _, _, _, rfl, C, hb, .inr ⟨rfl, hFn.out⟩⟩
                  | true =>
                    have hparse := hid (fun W => rParse_any p (by omega) W)
                    go_wp2_with fail
                    refine (hparse.out _).mono ?_; rintro e w4 ⟨v4, rfl, C4, hb4⟩
                    obtain ⟨tb, to', tn, tc, uo, un, uc, rfl⟩ := C4.shape
                    have hbA : Below wp.heap.size wp (w4.alloc (.cells #[.bool tb, .slice to' tn tc, .slice uo un uc] 25)) := hb4.alloc hb4.size _
                    have hK := Bk.start hb4 rfl (.bool tb) (.slice to' tn tc) (.slice uo un uc) 25
                    have hC4 := C4.next (below_alloc (.cells #[.bool tb, .slice to' tn tc, .slice uo un uc] 25))
                    have HM4 := hid (HMp.out.next hbA)
                    have HC4 := hid hC4
                    obtain ⟨k0, k1, k2⟩ := hK.c3
                    clear hK hC4 C4 hb4 hbA HMp hparse
                    cases hpo : parseOk p.data.toList with
                    | false =>
                      have hFn : Hid (refM l = none) := hid (by rw [HM.out, hstep.out]; unfold stp; rw [hpo]; rfl)
                      clear hstep Ho HM hpo HC4 k0 k1 k2
                      obtain ⟨s', xo, xn, xc, yo, yn, yc, hB, hC, hZ, hbel⟩ := HM4.out
                      obtain ⟨⟨k0, k1, k2⟩, k3, k4, k5⟩ := hB.h6
                      obtain ⟨⟨z0, z1, z2⟩, z3, z4, z5⟩ := hZ.h6
                      simp only [Nat.zero_add] at k0 k1 k2 k3 k4 k5 z0 z1 z2 z3 z4 z5
                      have f0 := hZ.free 0
                      have f1 := hZ.free 1
                      have f2 := hZ.free 2
                      have f3 := hZ.free 3
                      have f4 := hZ.free 4
                      have f5 := hZ.free 5
                      have hB5 := hZ.all (x' := E1) (y' := E2) (z' := E3) (c' := (s', (xo, xn, xc), (yo, yn, yc)))
                      have hC5 := hZ.rat6 (c' := (s', (xo, xn, xc), (yo, yn, yc))) hC E1 E2 E3
                      have hbel5 := below_set6 hbel (Nat.le_refl _) (.int .i64 E1) (.int .i64 E2) (.int .i64 E3) (.bool s') (.slice xo xn xc) (.slice yo yn yc)
                      have Hout := hid (And.intro hB5.h6 (And.intro hC5 hbel5))
                      clear hB5 hC5 hbel5 hB hC hZ hbel
                      go_wp2_with fail
                      obtain ⟨⟨⟨e0, e1, e2⟩, e3, e4, e5⟩, C, hb⟩ := Hout.out
                      simp only [Nat.zero_add] at e0 e1 e2 e3 e4 e5
                      refine bodyPost_ret (v := .tuple #[.agg #[.int .i64 E1, .int .i64 E2, .int .i64 E3, .bool s', .slice xo xn xc, .slice yo yn yc], .bool false]) (by simp [results, Tryz.results119, go_sem, e0, e1, e2, e3, e4, e5]) rfl ?_
                      exact ⟨(E1, E2, E3), _, _, _, _, _, _, _, _, _, rfl, C, hb, .inr ⟨rfl, hFn.out⟩⟩
                    | true =>
                      have hN : Hid (nxt u.data.toList p ((E1, E2, E3), parseQ p.data.toList) = F) := hid (by rw [hstep.out]; unfold stp; rw [hpo]; rfl)
                      have hfq' : Hid (Fit 250 (parseQ p.data.toList)) := hid (fit_parseQ _)
                      obtain ⟨q', hq'⟩ : ∃ q', parseQ p.data.toList = q' := ⟨_, rfl⟩
                      rw [hq'] at hN hfq' HC4
                      clear hstep Ho hpo hq'
                      obtain ⟨s', xo, xn, xc, yo, yn, yc, hB, hC, hZ, hbel⟩ := HM4.out
                      obtain ⟨⟨z0, z1, z2⟩, z3, z4, z5⟩ := hB.h6
                      simp only [Nat.zero_add] at z0 z1 z2 z3 z4 z5
                      have f3 := hB.free 3
                      have f4 := hB.free 4
                      have f5 := hB.free 5
                      obtain ⟨T0, hown⟩ := hB.own
                      have hC6 := HC4.out.grownU hown isMon_u32 (grown_put3 _ G (.bool tb) (.slice to' tn tc) (.slice uo un uc))
                      have hM6 : RfM w G (E1, E2, E3) q' ((((w4.alloc (.cells #[.bool tb, .slice to' tn tc, .slice uo un uc] 25)).setCell ⟨G, 3, none⟩ (.bool tb)).setCell ⟨G, 4, none⟩ (.slice to' tn tc)).setCell ⟨G, 5, none⟩ (.slice uo un uc)) :=
                        ⟨tb, to', tn, tc, uo, un, uc, hB.put (c' := (tb, (to', tn, tc), (uo, un, uc))), hC6, ((hZ.off hGn _ _).off hGn _ _).off hGn _ _, ((hbel.setCell hGl _).setCell hGl _).setCell hGl _⟩
                      have HM6 := hid hM6
                      clear hM6 hC6 hown hB hC hZ hbel HM4 HC4
                      by_cases hpt : p = u
                      · subst hpt
                        have hfin : Hid (some ((E1, E2, E3), q') = F) := hid (by have := hN.out; unfold nxt at this; rw [if_pos rfl] at this; exact this)
                        clear hN hplt hps
                        go_wp2_with fail
                        go_meet
                        exact ⟨false, (E1, E2, E3), q', rfl, hfin, hfq', HM6.out⟩
                      · have hlt := hplt hpt
                        have hlt' : p.size + 1 ≤ u.size := hlt
                        have c9 : ((p.size : Int) == (u.size : Int)) = false := by rw [beq_eq_false_iff_ne]; omega
                        have c9' : (p.size == u.size) = false := by rw [beq_eq_false_iff_ne]; omega
                        have hnext : Hid (refG (u.data.toList.drop (p.size + 1)) false ((E1, E2, E3), q') = F) := hid (by have := hN.out; unfold nxt at this; rw [if_neg fun e => hpt (bytes_eq e)] at this; exact this)
                        have hxs : (u.extract (p.size + 1) u.size).size = u.size - (p.size + 1) := by rw [ByteArray.size_extract]; omega
                        clear hN hpt hplt
                        go_wp2_with fail
                        go_roundg (u.size - (p.size + 1))
                        case rel => exact ⟨u.extract (p.size + 1) u.size, false, (E1, E2, E3), q', hxs, rfl, rfl, by omega, hid (by rw [extract_to_end]; exact hnext.out), hfq', by rw [hxs]; unfold deg at hdeg ⊢; simp only at hdeg ⊢; omega, HM6.out⟩
                        case measure => rw [← Hug.out]; omega
                | some v =>
                  obtain ⟨i, k⟩ := v
                  obtain ⟨hp0, hpi, hi3, hk5, hshape⟩ := refPow_yes Ho.out
                  have hN : Hid (nxt u.data.toList p (bump (E1, E2, E3) i k, q) = F) := hid (by rw [hstep.out]; rfl)
                  clear hstep Ho
                  obtain ⟨s', xo, xn, xc, yo, yn, yc, hB, hC, hZ, hbel⟩ := HMp.out
                  obtain ⟨⟨z0, z1, z2⟩, z3, z4, z5⟩ := hB.h6
                  simp only [Nat.zero_add] at z0 z1 z2 z3 z4 z5
                  have f0 := hB.free 0
                  have f1 := hB.free 1
                  have f2 := hB.free 2
                  have HB := hid hB
                  have HC := hid hC
                  have HZ := hid hZ
                  have Hbel := hid hbel
                  clear hB hC hZ hbel HMp
                  have hdg : E1 + E2 + E3 + 5 * u.size ≤ 20000 := hdeg
                  have hE1 : E1 + k ≤ 200000 := by omega
                  have hE2 : E2 + k ≤ 200000 := by omega
                  have hE3 : E3 + k ≤ 200000 := by omega
                  rcases hshape with ⟨hs1, hk1⟩ | ⟨hs3, hk3⟩
                  · subst hk1
                    have g3 : ((p.size : Int) == 3) = false := by rw [beq_eq_false_iff_ne]; omega
                    have g3' : (p.size == 3) = false := by rw [beq_eq_false_iff_ne]; omega
                    have hin : i = 0 ∨ i = 1 ∨ i = 2 := by omega
                    rcases hin with hin | hin | hin
                    · subst hin
                      have hp97 : p[0].toNat = 97 := by omega
                      have hp97' : (p[0].toNat : Int) = 97 := by omega
                      have HM6 : Hid (RfM w G (E1 + 1, E2, E3) q (wp.setCell ⟨G, 0, none⟩ (.int .i64 ((E1 + 1 : Nat) : Int)))) := hid ⟨s', xo, xn, xc, yo, yn, yc, HB.out.putE0 ((E1 + 1 : Nat) : Int), HB.out.rat HC.out _ _, HZ.out.off hGn _ _, Hbel.out.setCell hGl _⟩
                      have hcast : ((E1 + 1 : Nat) : Int) = (E1 : Int) + 1 := by omega
                      rw [hcast] at HM6
                      have hN : Hid (nxt u.data.toList p ((E1 + 1, E2, E3), q) = F) := hN
                      clear hpi hi3
                      by_cases hpt : p = u
                      · subst hpt
                        have hfin : Hid (some ((E1 + 1, E2, E3), q) = F) := hid (by have := hN.out; unfold nxt at this; rw [if_pos rfl] at this; exact this)
                        clear hN hplt hps
                        go_wp2_with fail
                        go_meet
                        exact ⟨false, (E1 + 1, E2, E3), q, rfl, hfin, hfq, HM6.out⟩
                      · have hlt := hplt hpt
                        have hlt' : p.size + 1 ≤ u.size := hlt
                        have c9 : ((p.size : Int) == (u.size : Int)) = false := by rw [beq_eq_false_iff_ne]; omega
                        have c9' : (p.size == u.size) = false := by rw [beq_eq_false_iff_ne]; omega
                        have hnext : Hid (refG (u.data.toList.drop (p.size + 1)) false ((E1 + 1, E2, E3), q) = F) := hid (by have := hN.out; unfold nxt at this; rw [if_neg fun e => hpt (bytes_eq e)] at this; exact this)
                        have hxs : (u.extract (p.size + 1) u.size).size = u.size - (p.size + 1) := by rw [ByteArray.size_extract]; omega
                        have hpe : p.size + 1 = 2 := by omega
                        rw [hpe] at hnext hxs
                        clear hN hpt hplt
                        go_wp2_with fail
                        go_roundg (u.size - 2)
                        case rel => exact ⟨u.extract 2 u.size, false, (E1 + 1, E2, E3), q, hxs, rfl, rfl, by omega, hid (by rw [extract_to_end]; exact hnext.out), hfq, by rw [hxs]; unfold deg at hdeg ⊢; simp only at hdeg ⊢; omega, HM6.out⟩
                        case measure => rw [← Hug.out]; omega
                    · subst hin
                      have hp97 : p[0].toNat = 98 := by omega
                      have hp97' : (p[0].toNat : Int) = 98 := by omega
                      have HM6 : Hid (RfM w G (E1, E2 + 1, E3) q (wp.setCell ⟨G, 1, none⟩ (.int .i64 ((E2 + 1 : Nat) : Int)))) := hid ⟨s', xo, xn, xc, yo, yn, yc, HB.out.putE1 ((E2 + 1 : Nat) : Int), HB.out.rat HC.out _ _, HZ.out.off hGn _ _, Hbel.out.setCell hGl _⟩
                      have hcast : ((E2 + 1 : Nat) : Int) = (E2 : Int) + 1 := by omega
                      rw [hcast] at HM6
                      have hN : Hid (nxt u.data.toList p ((E1, E2 + 1, E3), q) = F) := hN
                      clear hpi hi3
                      by_cases hpt : p = u
                      · subst hpt
                        have hfin : Hid (some ((E1, E2 + 1, E3), q) = F) := hid (by have := hN.out; unfold nxt at this; rw [if_pos rfl] at this; exact this)
                        clear hN hplt hps
                        go_wp2_with fail
                        go_meet
                        exact ⟨false, (E1, E2 + 1, E3), q, rfl, hfin, hfq, HM6.out⟩
                      · have hlt := hplt hpt
                        have hlt' : p.size + 1 ≤ u.size := hlt
                        have c9 : ((p.size : Int) == (u.size : Int)) = false := by rw [beq_eq_false_iff_ne]; omega
                        have c9' : (p.size == u.size) = false := by rw [beq_eq_false_iff_ne]; omega
                        have hnext : Hid (refG (u.data.toList.drop (p.size + 1)) false ((E1, E2 + 1, E3), q) = F) := hid (by have := hN.out; unfold nxt at this; rw [if_neg fun e => hpt (bytes_eq e)] at this; exact this)
                        have hxs : (u.extract (p.size + 1) u.size).size = u.size - (p.size + 1) := by rw [ByteArray.size_extract]; omega
                        have hpe : p.size + 1 = 2 := by omega
                        rw [hpe] at hnext hxs
                        clear hN hpt hplt
                        go_wp2_with fail
                        go_roundg (u.size - 2)
                        case rel => exact ⟨u.extract 2 u.size, false, (E1, E2 + 1, E3), q, hxs, rfl, rfl, by omega, hid (by rw [extract_to_end]; exact hnext.out), hfq, by rw [hxs]; unfold deg at hdeg ⊢; simp only at hdeg ⊢; omega, HM6.out⟩
                        case measure => rw [← Hug.out]; omega
                    · subst hin
                      have hp97 : p[0].toNat = 99 := by omega
                      have hp97' : (p[0].toNat : Int) = 99 := by omega
                      have HM6 : Hid (RfM w G (E1, E2, E3 + 1) q (wp.setCell ⟨G, 2, none⟩ (.int .i64 ((E3 + 1 : Nat) : Int)))) := hid ⟨s', xo, xn, xc, yo, yn, yc, HB.out.putE2 ((E3 + 1 : Nat) : Int), HB.out.rat HC.out _ _, HZ.out.off hGn _ _, Hbel.out.setCell hGl _⟩
                      have hcast : ((E3 + 1 : Nat) : Int) = (E3 : Int) + 1 := by omega
                      rw [hcast] at HM6
                      have hN : Hid (nxt u.data.toList p ((E1, E2, E3 + 1), q) = F) := hN
                      clear hpi hi3
                      by_cases hpt : p = u
                      · subst hpt
                        have hfin : Hid (some ((E1, E2, E3 + 1), q) = F) := hid (by have := hN.out; unfold nxt at this; rw [if_pos rfl] at this; exact this)
                        clear hN hplt hps
                        go_wp2_with fail
                        go_meet
                        exact ⟨false, (E1, E2, E3 + 1), q, rfl, hfin, hfq, HM6.out⟩
                      · have hlt := hplt hpt
                        have hlt' : p.size + 1 ≤ u.size := hlt
                        have c9 : ((p.size : Int) == (u.size : Int)) = false := by rw [beq_eq_false_iff_ne]; omega
                        have c9' : (p.size == u.size) = false := by rw [beq_eq_false_iff_ne]; omega
                        have hnext : Hid (refG (u.data.toList.drop (p.size + 1)) false ((E1, E2, E3 + 1), q) = F) := hid (by have := hN.out; unfold nxt at this; rw [if_neg fun e => hpt (bytes_eq e)] at this; exact this)
                        have hxs : (u.extract (p.size + 1) u.size).size = u.size - (p.size + 1) := by rw [ByteArray.size_extract]; omega
                        have hpe : p.size + 1 = 2 := by omega
                        rw [hpe] at hnext hxs
                        clear hN hpt hplt
                        go_wp2_with fail
                        go_roundg (u.size - 2)
                        case rel => exact ⟨u.extract 2 u.size, false, (E1, E2, E3 + 1), q, hxs, rfl, rfl, by omega, hid (by rw [extract_to_end]; exact hnext.out), hfq, by rw [hxs]; unfold deg at hdeg ⊢; simp only at hdeg ⊢; omega, HM6.out⟩
                        case measure => rw [← Hug.out]; omega
                  · have g3 : ((p.size : Int) == 3) = true := by rw [beq_iff_eq]; omega
                    have g3' : (p.size == 3) = true := by rw [beq_iff_eq]; omega
                    have i2 : 2 < p.size := by omega
                    have w8 : IntKind.u8.wrap ((p[2].toNat : Int) - 48) = (k : Int) := by rw [IntKind.wrap_u8]; omega
                    have w8' : ((p[2].toNat : Int) - 48) = (k : Int) := by omega
                    have hin : i = 0 ∨ i = 1 ∨ i = 2 := by omega
                    rcases hin with hin | hin | hin
                    · subst hin
                      have hp97 : p[0].toNat = 97 := by omega
                      have hp97' : (p[0].toNat : Int) = 97 := by omega
                      have HM6 : Hid (RfM w G (E1 + k, E2, E3) q (wp.setCell ⟨G, 0, none⟩ (.int .i64 ((E1 + k : Nat) : Int)))) := hid ⟨s', xo, xn, xc, yo, yn, yc, HB.out.putE0 ((E1 + k : Nat) : Int), HB.out.rat HC.out _ _, HZ.out.off hGn _ _, Hbel.out.setCell hGl _⟩
                      have hcast : ((E1 + k : Nat) : Int) = (E1 : Int) + (48 + (k : Int) - 48) := by omega
                      rw [hcast] at HM6
                      have hN : Hid (nxt u.data.toList p ((E1 + k, E2, E3), q) = F) := hN
                      clear hpi hi3
                      by_cases hpt : p = u
                      · subst hpt
                        have hfin : Hid (some ((E1 + k, E2, E3), q) = F) := hid (by have := hN.out; unfold nxt at this; rw [if_pos rfl] at this; exact this)
                        clear hN hplt hps
                        go_wp2_with fail
                        go_meet
                        exact ⟨false, (E1 + k, E2, E3), q, rfl, hfin, hfq, HM6.out⟩
                      · have hlt := hplt hpt
                        have hlt' : p.size + 1 ≤ u.size := hlt
                        have c9 : ((p.size : Int) == (u.size : Int)) = false := by rw [beq_eq_false_iff_ne]; omega
                        have c9' : (p.size == u.size) = false := by rw [beq_eq_false_iff_ne]; omega
                        have hnext : Hid (refG (u.data.toList.drop (p.size + 1)) false ((E1 + k, E2, E3), q) = F) := hid (by have := hN.out; unfold nxt at this; rw [if_neg fun e => hpt (bytes_eq e)] at this; exact this)
                        have hxs : (u.extract (p.size + 1) u.size).size = u.size - (p.size + 1) := by rw [ByteArray.size_extract]; omega
                        have hpe : p.size + 1 = 4 := by omega
                        rw [hpe] at hnext hxs
                        clear hN hpt hplt
                        go_wp2_with fail
                        go_roundg (u.size - 4)
                        case rel => exact ⟨u.extract 4 u.size, false, (E1 + k, E2, E3), q, hxs, rfl, rfl, by omega, hid (by rw [extract_to_end]; exact hnext.out), hfq, by rw [hxs]; unfold deg at hdeg ⊢; simp only at hdeg ⊢; omega, HM6.out⟩
                        case measure => rw [← Hug.out]; omega
                    · subst hin
                      have hp97 : p[0].toNat = 98 := by omega
                      have hp97' : (p[0].toNat : Int) = 98 := by omega
                      have HM6 : Hid (RfM w G (E1, E2 + k, E3) q (wp.setCell ⟨G, 1, none⟩ (.int .i64 ((E2 + k : Nat) : Int)))) := hid ⟨s', xo, xn, xc, yo, yn, yc, HB.out.putE1 ((E2 + k : Nat) : Int), HB.out.rat HC.out _ _, HZ.out.off hGn _ _, Hbel.out.setCell hGl _⟩
                      have hcast : ((E2 + k : Nat) : Int) = (E2 : Int) + (48 + (k : Int) - 48) := by omega
                      rw [hcast] at HM6
                      have hN : Hid (nxt u.data.toList p ((E1, E2 + k, E3), q) = F) := hN
                      clear hpi hi3
                      by_cases hpt : p = u
                      · subst hpt
                        have hfin : Hid (some ((E1, E2 + k, E3), q) = F) := hid (by have := hN.out; unfold nxt at this; rw [if_pos rfl] at this; exact this)
                        clear hN hplt hps
                        go_wp2_with fail
                        go_meet
                        exact ⟨false, (E1, E2 + k, E3), q, rfl, hfin, hfq, HM6.out⟩
                      · have hlt := hplt hpt
                        have hlt' : p.size + 1 ≤ u.size := hlt
                        have c9 : ((p.size : Int) == (u.size : Int)) = false := by rw [beq_eq_false_iff_ne]; omega
                        have c9' : (p.size == u.size) = false := by rw [beq_eq_false_iff_ne]; omega
                        have hnext : Hid (refG (u.data.toList.drop (p.size + 1)) false ((E1, E2 + k, E3), q) = F) := hid (by have := hN.out; unfold nxt at this; rw [if_neg fun e => hpt (bytes_eq e)] at this; exact this)
                        have hxs : (u.extract (p.size + 1) u.size).size = u.size - (p.size + 1) := by rw [ByteArray.size_extract]; omega
                        have hpe : p.size + 1 = 4 := by omega
                        rw [hpe] at hnext hxs
                        clear hN hpt hplt
                        go_wp2_with fail
                        go_roundg (u.size - 4)
                        case rel => exact ⟨u.extract 4 u.size, false, (E1, E2 + k, E3), q, hxs, rfl, rfl, by omega, hid (by rw [extract_to_end]; exact hnext.out), hfq, by rw [hxs]; unfold deg at hdeg ⊢; simp only at hdeg ⊢; omega, HM6.out⟩
                        case measure => rw [← Hug.out]; omega
                    · subst hin
                      have hp97 : p[0].toNat = 99 := by omega
                      have hp97' : (p[0].toNat : Int) = 99 := by omega
                      have HM6 : Hid (RfM w G (E1, E2, E3 + k) q (wp.setCell ⟨G, 2, none⟩ (.int .i64 ((E3 + k : Nat) : Int)))) := hid ⟨s', xo, xn, xc, yo, yn, yc, HB.out.putE2 ((E3 + k : Nat) : Int), HB.out.rat HC.out _ _, HZ.out.off hGn _ _, Hbel.out.setCell hGl _⟩
                      have hcast : ((E3 + k : Nat) : Int) = (E3 : Int) + (48 + (k : Int) - 48) := by omega
                      rw [hcast] at HM6
                      have hN : Hid (nxt u.data.toList p ((E1, E2, E3 + k), q) = F) := hN
                      clear hpi hi3
                      by_cases hpt : p = u
                      · subst hpt
                        have hfin : Hid (some ((E1, E2, E3 + k), q) = F) := hid (by have := hN.out; unfold nxt at this; rw [if_pos rfl] at this; exact this)
                        clear hN hplt hps
                        go_wp2_with fail
                        go_meet
                        exact ⟨false, (E1, E2, E3 + k), q, rfl, hfin, hfq, HM6.out⟩
                      · have hlt := hplt hpt
                        have hlt' : p.size + 1 ≤ u.size := hlt
                        have c9 : ((p.size : Int) == (u.size : Int)) = false := by rw [beq_eq_false_iff_ne]; omega
                        have c9' : (p.size == u.size) = false := by rw [beq_eq_false_iff_ne]; omega
                        have hnext : Hid (refG (u.data.toList.drop (p.size + 1)) false ((E1, E2, E3 + k), q) = F) := hid (by have := hN.out; unfold nxt at this; rw [if_neg fun e => hpt (bytes_eq e)] at this; exact this)
                        have hxs : (u.extract (p.size + 1) u.size).size = u.size - (p.size + 1) := by rw [ByteArray.size_extract]; omega
                        have hpe : p.size + 1 = 4 := by omega
                        rw [hpe] at hnext hxs
                        clear hN hpt hplt
                        go_wp2_with fail
                        go_roundg (u.size - 4)
                        case rel => exact ⟨u.extract 4 u.size, false, (E1, E2, E3 + k), q, hxs, rfl, rfl, by omega, hid (by rw [extract_to_end]; exact hnext.out), hfq, by rw [hxs]; unfold deg at hdeg ⊢; simp only at hdeg ⊢; omega, HM6.out⟩
                        case measure => rw [← Hug.out]; omega
      case rest =>
        obtain ⟨first, ⟨E1, E2, E3⟩, q, rfl, hfin, hfq, hM⟩ := hcut
        rename World => wr
        clear hM1 hT HF htn
        have HMr := hid hM
        clear hM
        cases neg with
        | false =>
          obtain ⟨s', xo, xn, xc, yo, yn, yc, hB, hC, hZ, hbel⟩ := HMr.out
          have hans : Hid ((first = false ∧ refM l = some ((E1, E2, E3), q)) ∨ (first = true ∧ refM l = none)) := hid (by
            rw [HM.out, ← hfin.out]
            cases first with
            | true => exact .inr ⟨rfl, rfl⟩
            | false => exact .inl ⟨rfl, rfl⟩)
          clear HM hfin HMr
          obtain ⟨⟨k0, k1, k2⟩, k3, k4, k5⟩ := hB.h6
          obtain ⟨⟨z0, z1, z2⟩, z3, z4, z5⟩ := hZ.h6
          simp only [Nat.zero_add] at k0 k1 k2 k3 k4 k5 z0 z1 z2 z3 z4 z5
          have f0 := hZ.free 0
          have f1 := hZ.free 1
          have f2 := hZ.free 2
          have f3 := hZ.free 3
          have f4 := hZ.free 4
          have f5 := hZ.free 5
          have hB5 := hZ.all (x' := E1) (y' := E2) (z' := E3) (c' := (s', (xo, xn, xc), (yo, yn, yc)))
          have hC5 := hZ.rat6 (c' := (s', (xo, xn, xc), (yo, yn, yc))) hC E1 E2 E3
          have hbel5 := below_set6 hbel (Nat.le_refl _) (.int .i64 E1) (.int .i64 E2) (.int .i64 E3) (.bool s') (.slice xo xn xc) (.slice yo yn yc)
          have Hout := hid (And.intro hB5.h6 (And.intro hC5 hbel5))
          clear hB5 hC5 hbel5 hB hC hZ hbel
          go_wp2_with fail
          obtain ⟨⟨⟨e0, e1, e2⟩, e3, e4, e5⟩, C, hb⟩ := Hout.out
          simp only [Nat.zero_add] at e0 e1 e2 e3 e4 e5
          refine bodyPost_ret (v := .tuple #[.agg #[.int .i64 E1, .int .i64 E2, .int .i64 E3, .bool s', .slice xo xn xc, .slice yo yn yc], .bool (!first)]) (by simp [results, Tryz.results119, go_sem, e0, e1, e2, e3, e4, e5]) rfl ?_
          exact ⟨(E1, E2, E3), _, _, _, _, _, _, _, _, _, rfl, C, hb, by rcases hans.out with ⟨rfl, h⟩ | ⟨rfl, h⟩ <;> first | exact .inl ⟨rfl, h⟩ | exact .inr ⟨rfl, h⟩⟩
        | true =>
          obtain ⟨s', xo, xn, xc, yo, yn, yc, hB, hC, hZ, hbel⟩ := HMr.out
          have hans : Hid ((first = false ∧ refM l = some ((E1, E2, E3), -q)) ∨ (first = true ∧ refM l = none)) := hid (by
            rw [HM.out, ← hfin.out]
            cases first with
            | true => exact .inr ⟨rfl, rfl⟩
            | false => exact .inl ⟨rfl, rfl⟩)
          clear HM hfin HMr
          obtain ⟨⟨k0, k1, k2⟩, k3, k4, k5⟩ := hB.h6
          simp only [Nat.zero_add] at k0 k1 k2 k3 k4 k5
          have hCV := hC.toV hfq.out (by decide)
          go_wp2_with fail
          refine (rNeg_any q _ _ hCV).mono ?_; rintro e w4 ⟨v4, rfl, C4, hb4⟩
          obtain ⟨tb, to', tn, tc, uo, un, uc, rfl⟩ := C4.shape
          have hB4 := hB.next hb4
          have hZ4 := hZ.next hb4
          have hbel4 := below_chain hbel hb4
          obtain ⟨⟨y0, y1, y2⟩, y3, y4, y5⟩ := hB4.h6
          simp only [Nat.zero_add] at y0 y1 y2 y3 y4 y5
          have g3 := hB4.free 3
          have g4 := hB4.free 4
          have g5 := hB4.free 5
          obtain ⟨T0, hown⟩ := hB4.own
          have hC := C4.grownU hown isMon_u32 (grown_put3 _ G (.bool tb) (.slice to' tn tc) (.slice uo un uc))
          have hB := hB4.put (c' := (tb, (to', tn, tc), (uo, un, uc)))
          have hZ := ((hZ4.off hGn 3 (.bool tb)).off hGn 4 (.slice to' tn tc)).off hGn 5 (.slice uo un uc)
          have hbel : Below w.heap.size w (((w4.setCell ⟨G, 3, none⟩ (.bool tb)).setCell ⟨G, 4, none⟩ (.slice to' tn tc)).setCell ⟨G, 5, none⟩ (.slice uo un uc)) := ((hbel4.setCell hGl _).setCell hGl _).setCell hGl _
          clear k0 k1 k2 k3 k4 k5 hb4 hown C4 hCV hB4 hZ4 hbel4
          obtain ⟨⟨k0, k1, k2⟩, k3, k4, k5⟩ := hB.h6
          obtain ⟨⟨z0, z1, z2⟩, z3, z4, z5⟩ := hZ.h6
          simp only [Nat.zero_add] at k0 k1 k2 k3 k4 k5 z0 z1 z2 z3 z4 z5
          have f0 := hZ.free 0
          have f1 := hZ.free 1
          have f2 := hZ.free 2
          have f3 := hZ.free 3
          have f4 := hZ.free 4
          have f5 := hZ.free 5
          have hB5 := hZ.all (x' := E1) (y' := E2) (z' := E3) (c' := (tb, (to', tn, tc), (uo, un, uc)))
          have hC5 := hZ.rat6 (c' := (tb, (to', tn, tc), (uo, un, uc))) hC E1 E2 E3
          have hbel5 := below_set6 hbel (Nat.le_refl _) (.int .i64 E1) (.int .i64 E2) (.int .i64 E3) (.bool tb) (.slice to' tn tc) (.slice uo un uc)
          have Hout := hid (And.intro hB5.h6 (And.intro hC5 hbel5))
          clear hB5 hC5 hbel5 hB hC hZ hbel
          go_wp2_with fail
          obtain ⟨⟨⟨e0, e1, e2⟩, e3, e4, e5⟩, C, hb⟩ := Hout.out
          simp only [Nat.zero_add] at e0 e1 e2 e3 e4 e5
          refine bodyPost_ret (v := .tuple #[.agg #[.int .i64 E1, .int .i64 E2, .int .i64 E3, .bool tb, .slice to' tn tc, .slice uo un uc], .bool (!first)]) (by simp [results, Tryz.results119, go_sem, e0, e1, e2, e3, e4, e5]) rfl ?_
          exact ⟨(E1, E2, E3), _, _, _, _, _, _, _, _, _, rfl, C, hb, by rcases hans.out with ⟨rfl, h⟩ | ⟨rfl, h⟩ <;> first | exact .inl ⟨rfl, h⟩ | exact .inr ⟨rfl, h⟩⟩
end Go.Proofs.YtgohfieleckmgaaGreatDoor

/-
  The reference's reads and Parse, as they run. No condition but sizes.
-/
namespace Go.Proofs.YtgohfieleckmgaaGreatDoor
open Go.RowKit Go.Lib
set_option linter.unusedSimpArgs false
set_option linter.unusedVariables false

theorem pcs_len : ∀ (n : Nat) (r cur : List UInt8), r.length ≤ n → (pcs r cur).length ≤ r.length + 1 ∧ ∀ p ∈ pcs r cur, p.length ≤ max cur.length 1 + r.length := by
  intro n
  induction n with
  | zero =>
    intro r cur h
    have : r = [] := List.eq_nil_of_length_eq_zero (by omega)
    subst this
    rw [pcs]
    exact ⟨by simp, fun p hp => by simp at hp; subst hp; omega⟩
  | succ n ih =>
    intro r cur h
    cases r with
    | nil =>
      rw [pcs]
      exact ⟨by simp, fun p hp => by simp at hp; subst hp; omega⟩
    | cons x r =>
      simp only [List.length_cons] at h
      have hdl : (r.drop 2).length ≤ r.length := by rw [List.length_drop]; omega
      rw [pcs]
      split
      · obtain ⟨h1, h2⟩ := ih (r.drop 2) [] (by omega)
        refine ⟨by simp only [List.length_cons]; omega, fun p hp => ?_⟩
        rcases List.mem_cons.1 hp with rfl | hp
        · simp only [List.length_cons]; omega
        · have := h2 p hp
          simp only [List.length_cons, List.length_nil] at *; omega
      · split
        · obtain ⟨h1, h2⟩ := ih (r.drop 2) [45] (by omega)
          refine ⟨by simp only [List.length_cons]; omega, fun p hp => ?_⟩
          rcases List.mem_cons.1 hp with rfl | hp
          · simp only [List.length_cons]; omega
          · have := h2 p hp
            simp only [List.length_cons, List.length_nil] at *; omega
        · obtain ⟨h1, h2⟩ := ih r (cur ++ [x]) (by omega)
          refine ⟨by simp only [List.length_cons]; omega, fun p hp => ?_⟩
          have := h2 p hp
          simp only [List.length_append, List.length_cons, List.length_nil] at *; omega
theorem pieces_len (l : List UInt8) : (piecesR l).length ≤ l.length + 1 ∧ ∀ p ∈ piecesR l, p.length ≤ l.length + 1 := by
  cases l with
  | nil => exact ⟨Nat.le_refl _, fun p hp => by simp [piecesR] at hp; subst hp; simp⟩
  | cons x r =>
    obtain ⟨h1, h2⟩ := pcs_len _ r [x] (Nat.le_refl _)
    refine ⟨by show (pcs r [x]).length ≤ _; simp only [List.length_cons]; omega, fun p hp => ?_⟩
    have := h2 p hp
    simp only [List.length_cons, List.length_nil] at *; omega
theorem putQ2_addP (S : Pl) (e : Ex) (q : Rat) : EqP (putQ2 S (exI e) q) (addP S (monoP e q)) := by
  unfold putQ2
  rw [exN_exI]
  split
  · exact fun _ _ => rfl
  · rename_i h
    have hd : ¬ deg e ≤ 5 := fun hd => h (okE_iff.2 (by
      obtain ⟨a, b, c⟩ := e
      unfold deg at hd
      unfold exI
      simp only at *
      omega))
    intro x hx
    show S x = S x + monoP e q x
    unfold monoP
    rw [if_neg fun k => hd (by rw [← k]; exact hx)]
    grind

/-- What Parse answers. -/
def RsO (l : List UInt8) (w : World) (e : Ending) (w' : World) : Prop :=
  (∃ S ao cap, okP l (refR l) = some S ∧ e = .returned (.tuple #[.slice ao (lst S).length cap, .bool true]) ∧ PolC w' ao cap S ∧ Below w.heap.size w w') ∨
  (okP l (refR l) = none ∧ e = .returned (.tuple #[.slice none 0 0, .bool false]) ∧ Below w.heap.size w w')
/-- How far the pieces are read. -/
def RsI (l : List UInt8) (i : Nat) (S : Pl) : Prop := refL ((piecesR l).drop i) S = refR l ∧ FitP (252 * i + 1) S
theorem RsI.step {l : List UInt8} {i : Nat} {S : Pl} (h : RsI l i S) {p : List UInt8} (hp : (piecesR l)[i]? = some p) {e : Ex} {q : Rat} (hm : refM p = some (e, q)) : RsI l (i + 1) (addP S (monoP e q)) := by
  refine ⟨?_, (h.2.add (fitP_mono e (refM_ok hm).2)).mono (by omega)⟩
  rw [← h.1, drop_cons hp, refL, hm]
theorem RsI.bad {l : List UInt8} {i : Nat} {S : Pl} (h : RsI l i S) {p : List UInt8} (hp : (piecesR l)[i]? = some p) (hm : refM p = none) : refR l = none := by
  rw [← h.1, drop_cons hp, refL, hm]
theorem RsI.fin {l : List UInt8} {i : Nat} {S : Pl} (h : RsI l i S) (hi : (piecesR l).length ≤ i) : refR l = some S := by
  rw [← h.1, List.drop_eq_nil_of_le hi]; rfl
theorem refL_congr : ∀ (ps : List (List UInt8)) (S T : Pl), EqP S T → (∃ A B, refL ps S = some A ∧ refL ps T = some B ∧ EqP A B) ∨ (refL ps S = none ∧ refL ps T = none)
  | [], S, T, h => .inl ⟨S, T, rfl, rfl, h⟩
  | p :: ps, S, T, h => by
    rw [refL, refL]
    cases refM p with
    | none => exact .inr ⟨rfl, rfl⟩
    | some v =>
      obtain ⟨e, q⟩ := v
      exact refL_congr ps _ _ fun x hx => by
        show S x + monoP e q x = T x + monoP e q x
        rw [h x hx]

set_option maxRecDepth 10000 in
set_option maxHeartbeats 4000000 in
theorem rReads_any (s : ByteArray) (hs : s.size ≤ 2000) (w : World) :
    Calls Tryz.prog 86 #[.string s, .string ⟨#[32, 43, 32]⟩, .string ⟨#[32, 45, 32]⟩] w (RsO s.data.toList w) := by
  have hpc := hid (fun W => rPieces_any s hs W)
  obtain ⟨l, hl⟩ : ∃ l, s.data.toList = l := ⟨_, rfl⟩
  have hll : l.length ≤ 2000 := by rw [← hl, ← Lib.size_eq]; exact hs
  rw [hl] at hpc ⊢
  have Hl := hid hl
  clear hl
  obtain ⟨hn1, hn2⟩ := pieces_len l
  have Hn2 := hid hn2
  clear hn2
  go_enter Tryz.func86, Tryz.ntmps86
  go_wp2_with fail
  refine (hpc.out _).mono ?_; rintro e w1 ⟨po, pcap, P, rfl, hown, hP, hb1⟩
  have HP := hid hP
  have hPl : P.length ≤ 2001 := by
    have := congrArg List.length hP
    rw [List.length_map] at this
    omega
  clear hP hpc hn1
  go_wp2_with fail
  go_loopw [8, 10] (fun pv iv wr => ∃ (i : Nat) (S : Pl) (ao : Option Addr) (cap : Nat), i ≤ P.length ∧ iv = .int .i64 i ∧ pv = .slice ao (lst S).length cap ∧ PolC wr ao cap S ∧ Hid (RsI l i S) ∧ SOwn wr w.heap.size (.slice po P.length pcap) P ∧ Below w.heap.size w wr) (fun _ iv _ => P.length - (intOf iv).toNat)
  case atStart => exact ⟨0, fun _ => 0, none, 0, by omega, rfl, by rw [lst_zero]; rfl, by unfold PolC; rw [lst_zero]; exact Pol.nil _ _, hid ⟨rfl, fitP_zero (by omega)⟩, hown, hb1⟩
  case round =>
    clear hown hb1
    obtain ⟨i, S, ao, cap, hi, rfl, rfl, hC, hI, hown, hbel⟩ := hrel
    rename World => wr
    obtain ⟨n, hn⟩ : ∃ n, (lst S).length = n := ⟨_, rfl⟩
    have Hn := hid hn
    rw [hn]
    clear hn
    by_cases hlt : i < P.length
    · obtain ⟨oo, oc, hv, hsl⟩ := ownsSl hown.1
      injection hv with hv1 hv2 hv3
      subst hv1 hv3
      obtain ⟨x, hx, b, off, hadd, hcell⟩ := Sl.get hsl hlt
      subst hadd
      have hpx : (piecesR l)[i]? = some x.data.toList := by rw [← HP.out, List.getElem?_map, hx]; rfl
      have hxs : x.size ≤ 2001 := by
        have := Hn2.out _ (List.mem_of_getElem? hpx)
        rw [Lib.size_eq]; omega
      have hpm := hid (fun W => rParseM_any x hxs W)
      have Hpx := hid hpx
      clear hx hpx hsl
      go_wp2_with fail
      refine (hpm.out _).mono ?_; rintro e w3 ⟨⟨E1, E2, E3⟩, s', xo, xn, xc, yo, yn, yc, q, ok, rfl, Cq, hb3, hres⟩
      have hbA : Below w3.heap.size w3 (w3.alloc (.cells #[.int .i64 E1, .int .i64 E2, .int .i64 E3, .bool s', .slice xo xn xc, .slice yo yn yc] 59)) := below_alloc _
      have hbel4 := below_chain (below_chain hbel hb3) hbA
      have hown4 := (hown.next hb3).next hbA
      have hC4 := (hC.next hb3).next hbA
      have hG := B6.fresh w3 (((E1 : Int), (E2 : Int), (E3 : Int)), s', (xo, xn, xc), (yo, yn, yc)) 59
      obtain ⟨⟨y0, y1, y2⟩, y3, y4, y5⟩ := hG.h6
      simp only [Nat.zero_add] at y0 y1 y2 y3 y4 y5
      have hq4 := Cq.next hbA
      clear hpm hown hC hbel hb3 hG Cq
      rcases hres with ⟨rfl, hm⟩ | ⟨rfl, hm⟩
      · have hI2 := hid (hI.out.step Hpx.out hm)
        have hput := hid (rput_any S (E1 : Int) (E2 : Int) (E3 : Int) q ao cap s' xo xn xc yo yn yc _ hC4 hq4 600000 (hI.out.2.mono (by omega)) ((refM_ok hm).2.mono (by decide)) (by decide))
        rw [Hn.out] at hput
        have heq := hid (putQ2_addP S (E1, E2, E3) q)
        clear hm hI hC4 hq4
        go_wp2_with fail
        refine hput.out.mono ?_; intro e w5 h5
        have h5' : PolOut _ (addP S (monoP (E1, E2, E3) q)) e w5 := h5.congr heq.out
        obtain ⟨ao', cap', rfl, hC5, hb5⟩ := h5'
        have hown5 := hown4.next hb5
        have hbel5 := below_chain hbel4 hb5
        clear h5 hput
        go_wp2_with fail
        go_roundw
        case rel => exact ⟨i + 1, _, ao', cap', hlt, by go_num, rfl, hC5, hI2, hown5, hbel5⟩
        case measure => simp [intOf]; omega
      · have hpr : Hid (refR l = none) := hid (hI.out.bad Hpx.out hm)
        go_wp2_with fail
        go_ret2
        exact .inr ⟨by rw [hpr.out]; rfl, rfl, hbel4⟩
    · have hin : i = P.length := by omega
      have hfin : Hid (refR l = some S) := hid (hI.out.fin (by rw [← HP.out, List.length_map]; omega))
      have hF : FitP 600000 S := hI.out.2.mono (by omega)
      have Hwr := hid (rWrite_any S ao n cap wr ⟨Hn.out, hC⟩ 600000 hF (by decide))
      have HC := hid hC
      clear hI hF hC
      go_wp2_with fail
      refine Hwr.out.mono ?_; rintro e w3 ⟨sx, rfl, hsx, hb3⟩
      have hC3 := HC.out.next hb3
      have hbel3 := below_chain hbel hb3
      have hHsx := hid hsx
      clear Hwr hsx
      by_cases hq : sx = s
      · have hok : Hid (okP l (refR l) = some S) := hid (by rw [hfin.out]; exact if_pos (by rw [← hHsx.out, hq, Hl.out]))
        subst hq
        go_wp2_with fail
        go_ret2
        exact .inl ⟨S, ao, cap, hok.out, by rw [Hn.out]; rfl, hC3, hbel3⟩
      · have hok : Hid (okP l (refR l) = none) := hid (by rw [hfin.out]; refine if_neg fun h => hq ?_; rw [← hHsx.out, ← Hl.out] at h; exact ByteArray.ext (Array.ext' h))
        have hq1 : ¬ sx.toList = s.toList := fun h => hq (ByteArray.ext (Array.ext' (by rw [← Lib.toList_data, ← Lib.toList_data]; exact h)))
        have hq4 : (sx.toList == s.toList) = false := by rw [beq_eq_false_iff_ne]; exact hq1
        clear hq1
        go_wp2_with fail
        go_ret2
        exact .inr ⟨hok.out, rfl, hbel3⟩
theorem rPParse_any (s : ByteArray) (hs : s.size ≤ 2000) (w : World) :
    Calls Tryz.prog 43 #[.string s] w (RsO s.data.toList w) := by
  have hr := hid (rReads_any s hs)
  obtain ⟨l, hl⟩ : ∃ l, s.data.toList = l := ⟨_, rfl⟩
  rw [hl] at hr ⊢
  clear hl
  go_enter Tryz.func43, Tryz.ntmps43
  go_wp2_with fail
  refine (hr.out _).mono ?_; rintro e w1 (⟨S, ao, cap, h1, rfl, h2, h3⟩ | ⟨h1, rfl, h3⟩)
  · obtain ⟨n, hn⟩ : ∃ n, (lst S).length = n := ⟨_, rfl⟩
    have Hn := hid hn
    rw [hn]
    clear hn
    go_wp2_with fail
    go_ret2
    exact .inl ⟨S, ao, cap, h1, by rw [Hn.out]; rfl, h2, h3⟩
  · go_wp2_with fail
    go_ret2
    exact .inr ⟨h1, rfl, h3⟩
end Go.Proofs.YtgohfieleckmgaaGreatDoor

/-
  The walks of PolynomialWrites and PolynomialReadsBack. Condition: the library's variables hold what they hold at the start.
-/
namespace Go.Proofs.YtgohfieleckmgaaGreatDoor
open Go.RowKit Go.Lib
set_option linter.unusedSimpArgs false
set_option linter.unusedVariables false

/-- What a parser answers, whether it reads or not. -/
def PU (o : Option Pl) (w : World) (e : Ending) (w' : World) : Prop := ∃ (S : Pl) (ok : Bool) (ao : Option Addr) (n cap : Nat), e = .returned (.tuple #[.slice ao n cap, .bool ok]) ∧ PN w' ao n cap S ∧ Below w.heap.size w w' ∧ ((ok = true ∧ o = some S) ∨ (ok = false ∧ o = none ∧ n = 0 ∧ S = fun _ => 0))
theorem pn_zero (w : World) : PN w none 0 0 (fun _ => 0) := ⟨by rw [lst_zero]; rfl, by unfold PolC; rw [lst_zero]; exact Pol.nil _ _⟩
theorem PsO.uni {l : List UInt8} {w w' : World} {e : Ending} (h : PsO l w e w') : PU (okP l (progR l)) w e w' := by
  rcases h with ⟨S, ao, cap, h1, rfl, h2, h3⟩ | ⟨h1, rfl, h3⟩
  · exact ⟨S, true, ao, _, cap, rfl, ⟨rfl, h2⟩, h3, .inl ⟨rfl, h1⟩⟩
  · exact ⟨_, false, none, 0, 0, rfl, pn_zero _, h3, .inr ⟨rfl, h1, rfl, rfl⟩⟩
theorem RsO.uni {l : List UInt8} {w w' : World} {e : Ending} (h : RsO l w e w') : PU (okP l (refR l)) w e w' := by
  rcases h with ⟨S, ao, cap, h1, rfl, h2, h3⟩ | ⟨h1, rfl, h3⟩
  · exact ⟨S, true, ao, _, cap, rfl, ⟨rfl, h2⟩, h3, .inl ⟨rfl, h1⟩⟩
  · exact ⟨_, false, none, 0, 0, rfl, pn_zero _, h3, .inr ⟨rfl, h1, rfl, rfl⟩⟩
theorem PN.congr {w : World} {ao : Option Addr} {n cap : Nat} {P Q : Pl} (h : PN w ao n cap P) (he : EqP P Q) : PN w ao n cap Q := ⟨by rw [← lst_congr he]; exact h.1, h.2.congr he⟩
theorem PN.pol {w : World} {ao : Option Addr} {n cap : Nat} {P : Pl} (h : PN w ao n cap P) : Pol RatC w ao n cap ((lst P).map toM) := by have := h.2; unfold PolC at this; rw [h.1] at this; exact this
theorem PN.v {w : World} {ao : Option Addr} {n cap k : Nat} {P : Pl} (h : PN w ao n cap P) (hf : FitP k P) (hk : k ≤ 17179869184) : PolV w (.slice ao n cap) P := by have := h.2.toV hf hk; rw [h.1] at this; exact this
theorem psame_any (P : Pl) {ao bo : Option Addr} {n m cap cap' : Nat} (w : World) (h : PN w ao n cap P) (h' : PN w bo m cap' P) :
    Calls Tryz.prog 16 #[.slice ao n cap, .slice bo m cap'] w fun e w' => e = .returned (.bool true) ∧ Below w.heap.size w w' := by
  have hm : m = n := by rw [← h.1, ← h'.1]
  subst hm
  exact rPSame_any P m h.1 ao cap bo cap' w h.pol h'.pol
theorem sumR_fit : ∀ (f : Nat) (r : List UInt8) (b : Bool) (S T : Pl) (k : Nat), sumR f r b S = some T → FitP k S → FitP (k + 252 * f) T
  | 0, _, _, _, _, _, h, _ => by cases h
  | f + 1, r, b, S, T, k, h, hk => by
    rw [sumR] at h
    split at h
    · cases h
    · rename_i e q hr
      have h1 : FitP (k + 252) (addP S (monoP e (sgnQ b q))) := (hk.add (fitP_mono e (fit_sgnQ (readR_ok hr).2 b))).mono (by omega)
      split at h
      · cases h
        exact h1.mono (by omega)
      · exact (sumR_fit f _ _ _ T (k + 252) h h1).mono (by omega)
      · cases h
theorem progR_fit {l : List UInt8} {S : Pl} (hl : l.length ≤ 2000) (h : progR l = some S) : FitP 600000 S :=
  (sumR_fit _ _ _ _ S 1 h (fitP_zero (by omega))).mono (by omega)

set_option maxRecDepth 10000 in
set_option maxHeartbeats 4000000 in
theorem lWrites_any (w : World) (hp : Pow w) (hx : TxC w) (a0 : Option Addr) (m0 k0 : Nat) (l0 : List Mr) (h0 : Pol RatW w a0 m0 k0 l0) (s : ByteArray) :
    Calls Tryz.prog 9 #[.slice a0 m0 k0, .string s] w fun e w' => e = .returned (.bool true) ∧ Below w.heap.size w w' := by
  have hli := hid (plight_any a0 m0 k0 l0 w h0)
  clear h0
  go_enter Tryz.func9, Tryz.ntmps9
  go_wp2_with fail
  refine hli.out.mono ?_; rintro e w1 ⟨⟨c, rfl, hc⟩, hb1⟩
  have hp1 := hp.next hb1
  cases c with
  | false =>
    clear hc
    go_wp2_with fail
    refine (lpawake_any _ hp1).mono ?_; rintro e wq ⟨rfl, hbq⟩
    go_wp2_with fail
    go_ret
    exact ⟨rfl, below_chain hb1 hbq⟩
  | true =>
    obtain ⟨h8, hV0, hF0⟩ := hc rfl
    replace hV0 := hV0.nextV hb1
    have hx1 := hx.next hb1
    clear hc hli
    by_cases h200 : s.size ≤ 200
    · have c1 : decide ((200 : Int) < (s.size : Int)) = false := decide_eq_false (by omega)
      have c2 : decide (200 < s.size) = false := decide_eq_false (by omega)
      obtain ⟨X, hX⟩ : ∃ X, polOf l0 = X := ⟨_, rfl⟩
      have VX : Hid (PolV w1 (.slice a0 m0 k0) X) := hid ⟨_, _, _, _, rfl, hV0, by rw [hX]; exact EqP.refl _⟩
      have fX : Hid (FitP 2 X) := hid (by rw [← hX]; exact fit_polOf hF0 (by decide))
      have HP := hid (fun W (hb : Below w1.heap.size w1 W) => pParse_any s (by omega) W (hx1.next hb) (hp1.next hb))
      have HR := hid (fun W : World => rPParse_any s (by omega) W)
      obtain ⟨l, hl⟩ : ∃ l, s.data.toList = l := ⟨_, rfl⟩
      have hll : l.length ≤ 2000 := by rw [← hl, ← Lib.size_eq]; omega
      rw [hl] at HP HR
      have hag := hid (agree l hll)
      have HX1 := hid hx1
      have HP1 := hid hp1
      clear hl h200 hV0 hF0 hX hx1 hp1
      go_wp2_with fail
      refine (HP.out _ (Below.refl _ _)).mono ?_; intro e w2 hu
      obtain ⟨S, ok, ao, n, cap, rfl, hS, hb2, hS2⟩ := hu.uni
      have HS := hid hS2
      have hbel2 := below_chain hb1 hb2
      clear hu hS2
      go_wp2_with fail
      refine (HR.out _).mono ?_; intro e w3 hu
      obtain ⟨T, ok', bo, m, cap', rfl, hT, hb3, hT2⟩ := hu.uni
      have hS3 := hS.next hb3
      have hb23 := below_chain hb2 hb3
      have hbel3 := below_chain hbel2 hb3
      have heq : ok' = ok ∧ EqP T S := by
        rcases hag.out with ⟨A, B, h1, h2, h3, -, -⟩ | ⟨h1, h2⟩
        · rw [h1] at HS
          rw [h2] at hT2
          rcases HS.out with ⟨rfl, h4⟩ | ⟨_, h4, _⟩
          · rcases hT2 with ⟨rfl, h5⟩ | ⟨_, h5, _⟩
            · cases h4; cases h5
              exact ⟨rfl, fun e he => (h3 e he).symm⟩
            · cases h5
          · cases h4
        · rw [h1] at HS
          rw [h2] at hT2
          rcases HS.out with ⟨_, h4⟩ | ⟨rfl, _, _, h4⟩
          · cases h4
          · rcases hT2 with ⟨_, h5⟩ | ⟨rfl, _, _, h5⟩
            · cases h5
            · rw [h4, h5]; exact ⟨rfl, EqP.refl _⟩
      obtain ⟨rfl, hTS⟩ := heq
      have hT3 := hT.congr hTS
      clear hu hT2 HS hTS hT hS
      have hok : (ok' == ok') = true := by simp
      go_wp2_with fail
      refine (lpawake_any _ (HP1.out.next hb23)).mono ?_; rintro e w4 ⟨rfl, hb4⟩
      have hb24 := below_chain hb23 hb4
      have hS4 := hS3.next hb4
      have hT4 := hT3.next hb4
      go_wp2_with fail
      refine (pFormat_any X _ _ (VX.out.next hb24) 2 fX.out (by decide) (HP1.out.next hb24)).mono ?_; rintro e w5 ⟨s5, rfl, hs5, hb5⟩
      have hb25 := below_chain hb24 hb5
      have hS5 := hS4.next hb5
      have hT5 := hT4.next hb5
      go_wp2_with fail
      refine (rPFormat_any X _ _ (VX.out.next hb25) 2 fX.out (by decide)).mono ?_; rintro e w6 ⟨s6, rfl, hs6, hb6⟩
      have hs56 : s6 = s5 := bytes_eq (by rw [hs5, hs6])
      subst hs56
      have hS6 := hS5.next hb6
      have hT6 := hT5.next hb6
      have hbel6 := below_chain hb1 (below_chain hb25 hb6)
      clear hs5 hs6
      go_wp2_with fail
      refine (psame_any S _ hS6 hT6).mono ?_; rintro e w7 ⟨rfl, hb7⟩
      go_wp2_with fail
      go_ret
      exact ⟨by first | rfl | simp, below_chain hbel6 hb7⟩
    · have c1 : decide ((200 : Int) < (s.size : Int)) = true := decide_eq_true (by omega)
      have c2 : decide (200 < s.size) = true := decide_eq_true (by omega)
      go_wp2_with fail
      refine (lpawake_any _ hp1).mono ?_; rintro e wq ⟨rfl, hbq⟩
      go_wp2_with fail
      go_ret
      exact ⟨rfl, below_chain hb1 hbq⟩

theorem fmtQ_short {q : Rat} (h : Fit 2 q) : (fmtQ q).length ≤ 132 := by
  unfold fmtQ
  have h1 := dec_len_le (n := q.num.natAbs) (m := 2) h.1
  have h2 := dec_len_le (n := q.den) (m := 2) h.2
  simp only [List.length_append]
  split <;> split <;> simp <;> omega
theorem fmtP_short {P : Pl} (hf : FitP 2 P) (h8 : (lst P).length ≤ 8) : (fmtP P).length ≤ 1200 := by
  unfold fmtP
  split
  · simp
  · have := txtL_len (lst P) 132 fun m hm => fmtQ_short (fit_abs (hf.mem hm))
    have h2 : (lst P).length * (132 + 16) ≤ 8 * 148 := Nat.mul_le_mul_right _ h8
    omega

set_option maxRecDepth 10000 in
set_option maxHeartbeats 4000000 in
theorem lReads_any (w : World) (hp : Pow w) (hx : TxC w) (a0 : Option Addr) (m0 k0 : Nat) (l0 : List Mr) (h0 : Pol RatW w a0 m0 k0 l0) (s : ByteArray) :
    Calls Tryz.prog 10 #[.slice a0 m0 k0, .string s] w fun e w' => e = .returned (.bool true) ∧ Below w.heap.size w w' := by
  have hli := hid (plight_any a0 m0 k0 l0 w h0)
  clear h0
  go_enter Tryz.func10, Tryz.ntmps10
  go_wp2_with fail
  refine hli.out.mono ?_; rintro e w1 ⟨⟨c, rfl, hc⟩, hb1⟩
  have hp1 := hp.next hb1
  cases c with
  | false =>
    clear hc
    go_wp2_with fail
    refine (lpawake_any _ hp1).mono ?_; rintro e wq ⟨rfl, hbq⟩
    go_wp2_with fail
    go_ret
    exact ⟨rfl, below_chain hb1 hbq⟩
  | true =>
    obtain ⟨h8, hV0, hF0⟩ := hc rfl
    replace hV0 := hV0.nextV hb1
    have hx1 := hx.next hb1
    clear hc hli
    have hva := hid (rPValid_any a0 m0 k0 l0 w1 hV0)
    obtain ⟨v, hv⟩ : ∃ v, vlB l0 = v := ⟨_, rfl⟩
    rw [hv] at hva
    have Hv := hid hv
    have HV0 := hid hV0
    have HF0 := hid hF0
    clear hv hV0 hF0
    go_wp2_with fail
    refine hva.out.mono ?_; rintro e w2 ⟨rfl, hb2⟩
    have hp2 := hp1.next hb2
    have hx2 := hx1.next hb2
    have hbel2 := below_chain hb1 hb2
    clear hva
    cases v with
    | false =>
      go_wp2_with fail
      refine (lpawake_any _ hp2).mono ?_; rintro e wq ⟨rfl, hbq⟩
      go_wp2_with fail
      go_ret
      exact ⟨rfl, below_chain hbel2 hbq⟩
    | true =>
      by_cases h200 : s.size ≤ 200
      · have c1 : decide ((200 : Int) < (s.size : Int)) = false := decide_eq_false (by omega)
        have c2 : decide (200 < s.size) = false := decide_eq_false (by omega)
        obtain ⟨X, hX⟩ : ∃ X, polOf l0 = X := ⟨_, rfl⟩
        have hVX : PN w2 a0 m0 k0 X := (HV0.out.nextV hb2).valid Hv.out (by rw [hX]; exact EqP.refl _)
        have fX : Hid (FitP 2 X) := hid (by rw [← hX]; exact fit_polOf HF0.out (by decide))
        have VX : Hid (PolV w2 (.slice a0 m0 k0) X) := hid (hVX.v fX.out (by decide))
        have hsh : Hid ((fmtP X).length ≤ 1200) := hid (fmtP_short fX.out (by rw [hVX.1]; exact h8))
        have HVX := hid hVX
        have HP := hid (fun W (hb : Below w2.heap.size w2 W) => pParse_any s (by omega) W (hx2.next hb) (hp2.next hb))
        obtain ⟨l, hl⟩ : ∃ l, s.data.toList = l := ⟨_, rfl⟩
        have hll : l.length ≤ 2000 := by rw [← hl, ← Lib.size_eq]; omega
        rw [hl] at HP
        have Hl := hid hl
        have HX2 := hid hx2
        have HP2 := hid hp2
        clear hl h200 hX hx2 hp2 hVX HV0 HF0 hp1 hx1 Hv
        go_wp2_with fail
        refine (pFormat_any X _ _ VX.out 2 fX.out (by decide) HP2.out).mono ?_; rintro e w3 ⟨t, rfl, ht, hb3⟩
        have hts : t.size ≤ 2000 := by rw [Lib.size_eq, ht]; have := hsh.out; omega
        have HT := hid (pParse_any t hts w3 (HX2.out.next hb3) (HP2.out.next hb3))
        rw [ht] at HT
        obtain ⟨P', hP1, hP2⟩ := progR_fmtP X (shortL_len (by have := hsh.out; omega))
        have hrd : Hid (okP (fmtP X) (progR (fmtP X)) = some P') := hid (by rw [hP1]; exact okP_fmt hP2)
        have HPX := hid hP2
        clear hP1 hP2 ht hts
        go_wp2_with fail
        refine HT.out.mono ?_; intro e w4 hu
        obtain ⟨S, ok, ao, n, cap, rfl, hS, hb4, hS2⟩ := hu.uni
        rw [hrd.out] at hS2
        rcases hS2 with ⟨rfl, h4⟩ | ⟨_, h4, _⟩
        · cases h4
          have hS4 := hS.congr HPX.out
          have hb24 := below_chain hb3 hb4
          clear hu HT hS
          go_wp2_with fail
          refine (HP.out _ hb24).mono ?_; intro e w5 hu
          obtain ⟨R, is, bo, m, cap', rfl, hR, hb5, hR2⟩ := hu.uni
          have hb25 := below_chain hb24 hb5
          have hS5 := hS4.next hb5
          have hX5 := HVX.out.next hb25
          clear hu
          go_wp2_with fail
          refine (psame_any X _ hX5 hS5).mono ?_; rintro e w6 ⟨rfl, hb6⟩
          have hb26 := below_chain hb25 hb6
          have hR6 := hR.next hb6
          have hbel6 := below_chain hbel2 hb26
          rcases hR2 with ⟨rfl, h5⟩ | ⟨rfl, h5, rfl, rfl⟩
          · obtain ⟨h6, h7⟩ := okP_some h5
            have hfR := progR_fit hll h6
            have HFm := hid (pFormat_any R _ _ (hR6.v hfR (by decide)) 600000 hfR (by decide) (HP2.out.next hb26))
            have Hfm := hid h7
            clear h5 h6 h7 hfR
            go_wp2_with fail
            refine HFm.out.mono ?_; rintro e w7 ⟨u, rfl, hu, hb7⟩
            have hus : u = s := bytes_eq (by rw [hu, Hfm.out, Hl.out])
            subst hus
            have hbel7 := below_chain hbel6 hb7
            have hp7 := HP2.out.next (below_chain hb26 hb7)
            clear hu HFm
            go_wp2_with fail
            refine (lpawake_any _ hp7).mono ?_; rintro e wq ⟨rfl, hbq⟩
            go_wp2_with fail
            go_ret
            exact ⟨rfl, below_chain hbel7 hbq⟩
          · have hp6 := HP2.out.next hb26
            go_wp2_with fail
            refine (lpawake_any _ hp6).mono ?_; rintro e wq ⟨rfl, hbq⟩
            go_wp2_with fail
            go_ret
            exact ⟨rfl, below_chain hbel6 hbq⟩
        · cases h4
      · have c1 : decide ((200 : Int) < (s.size : Int)) = true := decide_eq_true (by omega)
        have c2 : decide (200 < s.size) = true := decide_eq_true (by omega)
        go_wp2_with fail
        refine (lpawake_any _ hp2).mono ?_; rintro e wq ⟨rfl, hbq⟩
        go_wp2_with fail
        go_ret
        exact ⟨rfl, below_chain hbel2 hbq⟩
end Go.Proofs.YtgohfieleckmgaaGreatDoor

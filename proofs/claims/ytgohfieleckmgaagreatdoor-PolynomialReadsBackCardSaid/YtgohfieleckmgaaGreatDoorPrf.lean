/-
  The contracts of the reference's monomial, write and Format (package weightedref02). No condition but sizes.
-/
import Derived.Test.YtgohfieleckmgaaGreatDoorPlw
import Derived.Test.YtgohfieleckmgaaGreatDoorTxtS
namespace Go.Proofs.YtgohfieleckmgaaGreatDoor
open Go.RowKit Go.Lib
set_option linter.unusedSimpArgs false
set_option linter.unusedVariables false

theorem join_snoc {l : List (List UInt8)} (h : l ≠ []) (x s : List UInt8) : join (l ++ [x]) s = join l s ++ s ++ x := by
  cases l with
  | nil => exact absurd rfl h
  | cons y r =>
    rw [List.cons_append, join_cons, join_cons]
    simp [joinTail, List.append_assoc]
theorem facT_zero (c : UInt8) : facT c 0 = [] := rfl
theorem facT_pos (c : UInt8) {k : Nat} (h : k ≠ 0) : facT c k = [powT c k] := if_neg h
theorem parTo_one (e : Ex) : parTo e 1 = parTo e 0 ++ facT 97 e.1 := by simp [parTo]
theorem parTo_two (e : Ex) : parTo e 2 = parTo e 1 ++ facT 98 e.2.1 := by simp [parTo]
theorem parTo_three (e : Ex) : parTo e 3 = parTo e 2 ++ facT 99 e.2.2 := by simp [parTo]
/-- The text of the parameters so far. -/
def PTx (e : Ex) (i : Nat) (t : ByteArray) : Prop := t.data.toList = join (parTo e i) [42] ∧ (t.size = 0 ↔ parTo e i = []) ∧ t.size ≤ 4 * i
theorem ptx_none {e : Ex} {i : Nat} {t : ByteArray} {c : UInt8} {k : Nat} (h : PTx e i t) (hs : parTo e (i + 1) = parTo e i ++ facT c k) (hk : k = 0) : PTx e (i + 1) t := by
  subst hk
  obtain ⟨h1, h2, h3⟩ := h
  rw [facT_zero, List.append_nil] at hs
  exact ⟨by rw [hs]; exact h1, by rw [hs]; exact h2, by omega⟩
theorem ptx_first {e : Ex} {i : Nat} {t u : ByteArray} {c : UInt8} {k : Nat} (h : PTx e i t) (hs : parTo e (i + 1) = parTo e i ++ facT c k) (hk : k ≠ 0) (ht : t.size = 0) (hu : u.data.toList = powT c k) : PTx e (i + 1) (t ++ u) := by
  obtain ⟨h1, h2, h3⟩ := h
  have h4 := h2.1 ht
  rw [h4, facT_pos c hk, List.nil_append] at hs
  have h5 : u.size ≤ 3 := by rw [Lib.size_eq, hu]; exact powT_len c k
  have h6 : u.size ≠ 0 := fun h => powT_ne c k (by rw [← hu]; exact List.eq_nil_of_length_eq_zero (by rw [← Lib.size_eq]; exact h))
  refine ⟨?_, ?_, ?_⟩
  · rw [Go.Joins.data_append, h1, h4, hs, join_nil, List.nil_append, join_one, hu]
  · rw [hs, ByteArray.size_append]
    exact ⟨fun h => absurd h (by omega), fun h => by cases h⟩
  · rw [ByteArray.size_append]; omega
theorem ptx_more {e : Ex} {i : Nat} {t u : ByteArray} {c : UInt8} {k : Nat} (h : PTx e i t) (hs : parTo e (i + 1) = parTo e i ++ facT c k) (hk : k ≠ 0) (ht : t.size ≠ 0) (hu : u.data.toList = powT c k) : PTx e (i + 1) (t ++ ⟨#[42]⟩ ++ u) := by
  obtain ⟨h1, h2, h3⟩ := h
  have h4 : parTo e i ≠ [] := fun h => ht (h2.2 h)
  rw [facT_pos c hk] at hs
  have h5 : u.size ≤ 3 := by rw [Lib.size_eq, hu]; exact powT_len c k
  have h6 : (t ++ ⟨#[42]⟩ ++ u).size = t.size + 1 + u.size := by rw [ByteArray.size_append, ByteArray.size_append]; rfl
  refine ⟨?_, ?_, ?_⟩
  · rw [Go.Joins.data_append, Go.Joins.data_append, h1, hs, join_snoc h4, hu]
  · rw [hs, h6]
    exact ⟨fun h => by omega, fun h => by simp at h⟩
  · rw [h6]; omega
theorem ptx_zero (e : Ex) : PTx e 0 ⟨#[]⟩ := ⟨rfl, ⟨fun _ => rfl, fun _ => rfl⟩, Nat.le_refl _⟩
theorem parT_nil (e : Ex) : parT e = [] ↔ deg e = 0 := by
  obtain ⟨a, b, c⟩ := e
  unfold parT facT deg
  simp only
  by_cases ha : a = 0 <;> by_cases hb : b = 0 <;> by_cases hc : c = 0 <;> simp [ha, hb, hc] <;> omega
theorem mon_only {e : Ex} {q : Rat} {t : ByteArray} (h : PTx e 3 t) (ht : t.size = 0) : monT e q = fmtQ (absQ q) := by
  have h1 := h.2.1.1 ht
  rw [parTo_end] at h1
  unfold monT cofT
  rw [h1, if_pos (.inr ((parT_nil e).1 h1)), List.append_nil, join_one]
theorem mon_both {e : Ex} {q : Rat} {t : ByteArray} (h : PTx e 3 t) (ht : t.size ≠ 0) (hq : absQ q ≠ 1) : monT e q = fmtQ (absQ q) ++ [42] ++ t.data.toList := by
  have h1 : parT e ≠ [] := fun k => ht (h.2.1.2 (by rw [parTo_end]; exact k))
  unfold monT cofT
  rw [if_pos (.inl hq), h.1, parTo_end, List.cons_append, List.nil_append]
  cases hp : parT e with
  | nil => exact absurd hp h1
  | cons x r =>
    rw [join_cons, join_cons]
    simp [joinTail, List.append_assoc]
theorem mon_none {e : Ex} {q : Rat} {t : ByteArray} (h : PTx e 3 t) (ht : t.size ≠ 0) (hq : absQ q = 1) : monT e q = t.data.toList := by
  have h1 : parT e ≠ [] := fun k => ht (h.2.1.2 (by rw [parTo_end]; exact k))
  have h2 : deg e ≠ 0 := fun k => h1 ((parT_nil e).2 k)
  unfold monT cofT
  rw [if_neg (by rintro (k | k); exact k hq; exact h2 k), List.nil_append, h.1, parTo_end]
theorem empty_no {t : ByteArray} (h : t.size ≠ 0) : t.toList.isEmpty = false := by
  rw [Lib.toList_data]
  cases hc : t.data.toList with
  | nil => rw [Lib.size_eq, hc] at h; simp at h
  | cons => rfl
theorem empty_yes {t : ByteArray} (h : t.size = 0) : t.toList.isEmpty = true := by
  rw [Lib.toList_data, List.isEmpty_iff]
  exact List.eq_nil_of_length_eq_zero (by rw [← Lib.size_eq]; exact h)
theorem powT_one (c : UInt8) {k : Nat} (h : k = 1) : powT c k = [c] := if_pos h
theorem powT_big (c : UInt8) {k : Nat} (h0 : k ≠ 0) (h : k ≠ 1) : powT c k = [c, 94, UInt8.ofNat (48 + k)] := if_neg h
theorem bytes_assoc (a b c : ByteArray) : a ++ (b ++ c) = a ++ b ++ c := by rw [ByteArray.append_assoc]
/-- One byte as a string. -/
theorem byte_str (w : World) (d : Nat) (hd : d < 256) : (convert 91 9 (.slice (some ⟨w.heap.size, 0, none⟩) 1 1)).run Tryz.prog (w.alloc (.cells #[.int .u8 (d : Int)] 5)) = .ok (.string ⟨#[UInt8.ofNat d]⟩) (w.alloc (.cells #[.int .u8 (d : Int)] 5)) :=
  run_convert_bytes_back (P := Tryz.prog) (w.alloc (.cells #[.int .u8 (d : Int)] 5)) 91 9 5 ⟨w.heap.size, 0, none⟩ 1 [UInt8.ofNat d] Tryz.underlying91 Tryz.underlying5 Tryz.underlying9 (fun j hj => by
    simp at hj
    subst hj
    have : d % 256 = d := Nat.mod_eq_of_lt hd
    simp [go_sem, this])

theorem byte_strG (w : World) (G : Nat) (hG : w.heap.size = G) (d : Nat) (hd : d < 256) : (convert 91 9 (.slice (some ⟨G, 0, none⟩) 1 1)).run Tryz.prog (w.alloc (.cells #[.int .u8 (d : Int)] 5)) = .ok (.string ⟨#[UInt8.ofNat d]⟩) (w.alloc (.cells #[.int .u8 (d : Int)] 5)) := by
  subst hG; exact byte_str w d hd

set_option maxRecDepth 100000 in
set_option maxHeartbeats 8000000 in
theorem rMono_any (m1 m2 m3 : Nat) (q : Rat) (s : Bool) (xo : Option Addr) (xn xc : Nat) (yo : Option Addr) (yn yc : Nat) (w : World) (hr : RatV w (.agg #[.bool s, .slice xo xn xc, .slice yo yn yc]) q) (k : Nat) (hq : Fit k q) (hk : k ≤ 16777216) (hd : m1 + m2 + m3 ≤ 5) :
    Calls Tryz.prog 124 #[.agg #[.int .i64 m1, .int .i64 m2, .int .i64 m3, .bool s, .slice xo xn xc, .slice yo yn yc]] w (StrOut w (monT (m1, m2, m3) q)) := by
  have hba : Below w.heap.size w (w.alloc (.cells #[.int .i64 m1, .int .i64 m2, .int .i64 m3, .bool s, .slice xo xn xc, .slice yo yn yc] 59)) := below_alloc _
  have HG := H6.fresh w m1 m2 m3 s xo xn xc yo yn yc 59
  have hra := hr.next hba
  obtain ⟨⟨y0, y1, y2⟩, y3, y4, y5⟩ := id HG
  simp only [Nat.zero_add] at y1 y2 y3 y4 y5
  have HG := hid HG
  have hlenq : Hid ((fmtQ (absQ q)).length ≤ 10000000000) := hid (fmtQ_len (fit_abs hq) hk)
  obtain ⟨x, hx⟩ : ∃ x, absQ q = x := ⟨_, rfl⟩
  have Hx := hid hx
  have hfx : Hid (Fit k x) := hid (by rw [← hx]; exact fit_abs hq)
  obtain ⟨g, hg⟩ : ∃ g, rsg (x - 1) = g := ⟨_, rfl⟩
  have Hg := hid hg
  have hg1 : Hid ((g = 0) ↔ (x = 1)) := hid (by rw [← hg]; exact rsg_eq_zero.trans ⟨fun h => by grind, fun h => by grind⟩)
  clear hr hq hg hx
  go_enter Tryz.func124, Tryz.ntmps124
  go_wp2_with fail
  generalize w.alloc (.cells #[.int .i64 m1, .int .i64 m2, .int .i64 m3, .bool s, .slice xo xn xc, .slice yo yn yc] 59) = W0 at *
  refine (rAbs_any q _ _ hra).mono ?_; rw [Hx.out]; rintro e w1 ⟨v1, rfl, C1, hb1⟩
  obtain ⟨rb, ro, rn, rc, so, sn, sc, rfl⟩ := C1.shape
  have hb2 : Below w1.heap.size w1 (w1.alloc (.cells #[.bool rb, .slice ro rn rc, .slice so sn sc] 25)) := below_alloc _
  have hD : C3 w1.heap.size (.bool rb) (.slice ro rn rc) (.slice so sn sc) (w1.alloc (.cells #[.bool rb, .slice ro rn rc, .slice so sn sc] 25)) := C3.here w1 _ rfl
  have hC1 := C1.next hb2
  have hX2 := H6.next (H6.next HG.out hb1) hb2
  have hbel2 := below_chain hba (below_chain hb1 hb2)
  clear C1 hra hb1 hb2 hba y0 y1 y2 y3 y4 y5 HG
  go_wp2_with fail
  obtain ⟨G4, hG4⟩ : ∃ G, w1.heap.size = G := ⟨_, rfl⟩
  rw [hG4] at hD; (try rw [hG4])
  clear hG4
  generalize w1.alloc (.cells #[.bool rb, .slice ro rn rc, .slice so sn sc] 25) = W2 at *
  have HD := hid hD
  have HC := hid hC1
  have HX := hid hX2
  clear hD hC1 hX2
  go_loopw [3, 5] (fun sv jv wr => ∃ (jj : Int) (t : ByteArray), (jj = 0 ∨ jj = 1 ∨ jj = 2 ∨ jj = 3) ∧ jv = .int .i64 jj ∧ sv = .string t ∧ Hid (PTx (m1, m2, m3) jj.toNat t) ∧ Below W2.heap.size W2 wr) (fun _ j _ => (3 - intOf j).toNat)
  case atStart => exact ⟨0, ⟨#[]⟩, .inl rfl, rfl, rfl, hid (ptx_zero _), Below.refl _ _⟩
  case round =>
    obtain ⟨jj, t, hjj, rfl, rfl, hT, hbel⟩ := hrel
    obtain ⟨⟨x0, x1, x2⟩, x3, x4, x5⟩ := H6.next HX.out hbel
    simp only [Nat.zero_add] at x1 x2 x3 x4 x5
    rcases hjj with rfl | rfl | rfl | rfl
    · have hT : Hid (PTx (m1, m2, m3) 0 t) := hT
      have hts := hT.out.2.2
      by_cases h0 : m1 = 0
      · have c1 : ((m1 : Int) == 0) = true := by rw [beq_iff_eq]; omega
        have hT2 := hid (ptx_none hT.out (parTo_one _) h0)
        clear h0
        go_wp2_with fail
        go_roundw
        case rel => exact ⟨1, t, by omega, by go_num, rfl, hT2, hbel⟩
        case measure => simp [intOf]
      · have c1 : ((m1 : Int) == 0) = false := by rw [beq_eq_false_iff_ne]; omega
        have kb := byte_str wr 97 (by decide)
        simp only [Int.cast_ofNat_Int] at kb
        have hbA : Below wr.heap.size wr (wr.alloc (.cells #[.int .u8 97] 5)) := below_alloc _
        obtain ⟨⟨z0, z1, z2⟩, z3, z4, z5⟩ := H6.next (H6.next HX.out hbel) hbA
        simp only [Nat.zero_add] at z1 z2 z3 z4 z5
        have hbelA := below_chain hbel hbA
        have sz1 : (⟨#[UInt8.ofNat 97]⟩ : ByteArray).size = 1 := rfl
        have sz2 : (⟨#[42]⟩ : ByteArray).size = 1 := rfl
        by_cases he : t.size = 0
        · have e0 := empty_yes he
          by_cases h1 : m1 = 1
          · have c2 : decide ((1 : Int) < (m1 : Int)) = false := by rw [decide_eq_false_iff_not]; omega
            have hT2 := hid (ptx_first hT.out (parTo_one _) h0 he (u := ⟨#[UInt8.ofNat 97]⟩) (by rw [powT_one 97 h1]; rfl))
            clear h0 he h1
            go_wp2_with fail
            go_roundw
            case rel => exact ⟨1, _, by omega, by go_num, rfl, hT2, hbelA⟩
            case measure => simp [intOf]
          · have c2 : decide ((1 : Int) < (m1 : Int)) = true := by rw [decide_eq_true_iff]; omega
            obtain ⟨d, hdd⟩ : ∃ d, 48 + m1 = d := ⟨_, rfl⟩
            have hd9 : d < 256 := by omega
            have w64 : IntKind.i64.wrap (48 + (m1 : Int)) = (d : Int) := by rw [IntKind.wrap_i64]; omega
            have w8 : IntKind.u8.wrap (d : Int) = (d : Int) := by rw [IntKind.wrap_u8]; omega
            have kd := byte_strG (wr.alloc (.cells #[.int .u8 97] 5)) (wr.heap.size + 1) (by simp) d hd9
            have hbD := below_alloc (w := wr.alloc (.cells #[.int .u8 97] 5)) (.cells #[.int .u8 (d : Int)] 5)
            have hbelD := below_chain hbelA hbD
            have sz3 : (⟨#[UInt8.ofNat d]⟩ : ByteArray).size = 1 := rfl
            have sz4 : (⟨#[94]⟩ : ByteArray).size = 1 := rfl
            have hT2 := hid (ptx_first hT.out (parTo_one _) h0 he (u := ⟨#[UInt8.ofNat 97]⟩ ++ (⟨#[94]⟩ ++ ⟨#[UInt8.ofNat d]⟩)) (by rw [powT_big 97 h0 h1, hdd]; rfl))
            rw [bytes_assoc] at hT2
            clear h0 he h1 hdd
            go_wp2_with fail
            go_roundw
            case rel => exact ⟨1, _, by omega, by go_num, rfl, hT2, hbelD⟩
            case measure => simp [intOf]
        · have e0 := empty_no he
          by_cases h1 : m1 = 1
          · have c2 : decide ((1 : Int) < (m1 : Int)) = false := by rw [decide_eq_false_iff_not]; omega
            have hT2 := hid (ptx_more hT.out (parTo_one _) h0 he (u := ⟨#[UInt8.ofNat 97]⟩) (by rw [powT_one 97 h1]; rfl))
            clear h0 he h1
            go_wp2_with fail
            go_roundw
            case rel => exact ⟨1, _, by omega, by go_num, rfl, hT2, hbelA⟩
            case measure => simp [intOf]
          · have c2 : decide ((1 : Int) < (m1 : Int)) = true := by rw [decide_eq_true_iff]; omega
            obtain ⟨d, hdd⟩ : ∃ d, 48 + m1 = d := ⟨_, rfl⟩
            have hd9 : d < 256 := by omega
            have w64 : IntKind.i64.wrap (48 + (m1 : Int)) = (d : Int) := by rw [IntKind.wrap_i64]; omega
            have w8 : IntKind.u8.wrap (d : Int) = (d : Int) := by rw [IntKind.wrap_u8]; omega
            have kd := byte_strG (wr.alloc (.cells #[.int .u8 97] 5)) (wr.heap.size + 1) (by simp) d hd9
            have hbD := below_alloc (w := wr.alloc (.cells #[.int .u8 97] 5)) (.cells #[.int .u8 (d : Int)] 5)
            have hbelD := below_chain hbelA hbD
            have sz3 : (⟨#[UInt8.ofNat d]⟩ : ByteArray).size = 1 := rfl
            have sz4 : (⟨#[94]⟩ : ByteArray).size = 1 := rfl
            have hT2 := hid (ptx_more hT.out (parTo_one _) h0 he (u := ⟨#[UInt8.ofNat 97]⟩ ++ (⟨#[94]⟩ ++ ⟨#[UInt8.ofNat d]⟩)) (by rw [powT_big 97 h0 h1, hdd]; rfl))
            rw [bytes_assoc] at hT2
            clear h0 he h1 hdd
            go_wp2_with fail
            go_roundw
            case rel => exact ⟨1, _, by omega, by go_num, rfl, hT2, hbelD⟩
            case measure => simp [intOf]
    · have hT : Hid (PTx (m1, m2, m3) 1 t) := hT
      have hts := hT.out.2.2
      by_cases h0 : m2 = 0
      · have c1 : ((m2 : Int) == 0) = true := by rw [beq_iff_eq]; omega
        have hT2 := hid (ptx_none hT.out (parTo_two _) h0)
        clear h0
        go_wp2_with fail
        go_roundw
        case rel => exact ⟨2, t, by omega, by go_num, rfl, hT2, hbel⟩
        case measure => simp [intOf]
      · have c1 : ((m2 : Int) == 0) = false := by rw [beq_eq_false_iff_ne]; omega
        have kb := byte_str wr 98 (by decide)
        simp only [Int.cast_ofNat_Int] at kb
        have hbA : Below wr.heap.size wr (wr.alloc (.cells #[.int .u8 98] 5)) := below_alloc _
        obtain ⟨⟨z0, z1, z2⟩, z3, z4, z5⟩ := H6.next (H6.next HX.out hbel) hbA
        simp only [Nat.zero_add] at z1 z2 z3 z4 z5
        have hbelA := below_chain hbel hbA
        have sz1 : (⟨#[UInt8.ofNat 98]⟩ : ByteArray).size = 1 := rfl
        have sz2 : (⟨#[42]⟩ : ByteArray).size = 1 := rfl
        by_cases he : t.size = 0
        · have e0 := empty_yes he
          by_cases h1 : m2 = 1
          · have c2 : decide ((1 : Int) < (m2 : Int)) = false := by rw [decide_eq_false_iff_not]; omega
            have hT2 := hid (ptx_first hT.out (parTo_two _) h0 he (u := ⟨#[UInt8.ofNat 98]⟩) (by rw [powT_one 98 h1]; rfl))
            clear h0 he h1
            go_wp2_with fail
            go_roundw
            case rel => exact ⟨2, _, by omega, by go_num, rfl, hT2, hbelA⟩
            case measure => simp [intOf]
          · have c2 : decide ((1 : Int) < (m2 : Int)) = true := by rw [decide_eq_true_iff]; omega
            obtain ⟨d, hdd⟩ : ∃ d, 48 + m2 = d := ⟨_, rfl⟩
            have hd9 : d < 256 := by omega
            have w64 : IntKind.i64.wrap (48 + (m2 : Int)) = (d : Int) := by rw [IntKind.wrap_i64]; omega
            have w8 : IntKind.u8.wrap (d : Int) = (d : Int) := by rw [IntKind.wrap_u8]; omega
            have kd := byte_strG (wr.alloc (.cells #[.int .u8 98] 5)) (wr.heap.size + 1) (by simp) d hd9
            have hbD := below_alloc (w := wr.alloc (.cells #[.int .u8 98] 5)) (.cells #[.int .u8 (d : Int)] 5)
            have hbelD := below_chain hbelA hbD
            have sz3 : (⟨#[UInt8.ofNat d]⟩ : ByteArray).size = 1 := rfl
            have sz4 : (⟨#[94]⟩ : ByteArray).size = 1 := rfl
            have hT2 := hid (ptx_first hT.out (parTo_two _) h0 he (u := ⟨#[UInt8.ofNat 98]⟩ ++ (⟨#[94]⟩ ++ ⟨#[UInt8.ofNat d]⟩)) (by rw [powT_big 98 h0 h1, hdd]; rfl))
            rw [bytes_assoc] at hT2
            clear h0 he h1 hdd
            go_wp2_with fail
            go_roundw
            case rel => exact ⟨2, _, by omega, by go_num, rfl, hT2, hbelD⟩
            case measure => simp [intOf]
        · have e0 := empty_no he
          by_cases h1 : m2 = 1
          · have c2 : decide ((1 : Int) < (m2 : Int)) = false := by rw [decide_eq_false_iff_not]; omega
            have hT2 := hid (ptx_more hT.out (parTo_two _) h0 he (u := ⟨#[UInt8.ofNat 98]⟩) (by rw [powT_one 98 h1]; rfl))
            clear h0 he h1
            go_wp2_with fail
            go_roundw
            case rel => exact ⟨2, _, by omega, by go_num, rfl, hT2, hbelA⟩
            case measure => simp [intOf]
          · have c2 : decide ((1 : Int) < (m2 : Int)) = true := by rw [decide_eq_true_iff]; omega
            obtain ⟨d, hdd⟩ : ∃ d, 48 + m2 = d := ⟨_, rfl⟩
            have hd9 : d < 256 := by omega
            have w64 : IntKind.i64.wrap (48 + (m2 : Int)) = (d : Int) := by rw [IntKind.wrap_i64]; omega
            have w8 : IntKind.u8.wrap (d : Int) = (d : Int) := by rw [IntKind.wrap_u8]; omega
            have kd := byte_strG (wr.alloc (.cells #[.int .u8 98] 5)) (wr.heap.size + 1) (by simp) d hd9
            have hbD := below_alloc (w := wr.alloc (.cells #[.int .u8 98] 5)) (.cells #[.int .u8 (d : Int)] 5)
            have hbelD := below_chain hbelA hbD
            have sz3 : (⟨#[UInt8.ofNat d]⟩ : ByteArray).size = 1 := rfl
            have sz4 : (⟨#[94]⟩ : ByteArray).size = 1 := rfl
            have hT2 := hid (ptx_more hT.out (parTo_two _) h0 he (u := ⟨#[UInt8.ofNat 98]⟩ ++ (⟨#[94]⟩ ++ ⟨#[UInt8.ofNat d]⟩)) (by rw [powT_big 98 h0 h1, hdd]; rfl))
            rw [bytes_assoc] at hT2
            clear h0 he h1 hdd
            go_wp2_with fail
            go_roundw
            case rel => exact ⟨2, _, by omega, by go_num, rfl, hT2, hbelD⟩
            case measure => simp [intOf]
    · have hT : Hid (PTx (m1, m2, m3) 2 t) := hT
      have hts := hT.out.2.2
      by_cases h0 : m3 = 0
      · have c1 : ((m3 : Int) == 0) = true := by rw [beq_iff_eq]; omega
        have hT2 := hid (ptx_none hT.out (parTo_three _) h0)
        clear h0
        go_wp2_with fail
        go_roundw
        case rel => exact ⟨3, t, by omega, by go_num, rfl, hT2, hbel⟩
        case measure => simp [intOf]
      · have c1 : ((m3 : Int) == 0) = false := by rw [beq_eq_false_iff_ne]; omega
        have kb := byte_str wr 99 (by decide)
        simp only [Int.cast_ofNat_Int] at kb
        have hbA : Below wr.heap.size wr (wr.alloc (.cells #[.int .u8 99] 5)) := below_alloc _
        obtain ⟨⟨z0, z1, z2⟩, z3, z4, z5⟩ := H6.next (H6.next HX.out hbel) hbA
        simp only [Nat.zero_add] at z1 z2 z3 z4 z5
        have hbelA := below_chain hbel hbA
        have sz1 : (⟨#[UInt8.ofNat 99]⟩ : ByteArray).size = 1 := rfl
        have sz2 : (⟨#[42]⟩ : ByteArray).size = 1 := rfl
        by_cases he : t.size = 0
        · have e0 := empty_yes he
          by_cases h1 : m3 = 1
          · have c2 : decide ((1 : Int) < (m3 : Int)) = false := by rw [decide_eq_false_iff_not]; omega
            have hT2 := hid (ptx_first hT.out (parTo_three _) h0 he (u := ⟨#[UInt8.ofNat 99]⟩) (by rw [powT_one 99 h1]; rfl))
            clear h0 he h1
            go_wp2_with fail
            go_roundw
            case rel => exact ⟨3, _, by omega, by go_num, rfl, hT2, hbelA⟩
            case measure => simp [intOf]
          · have c2 : decide ((1 : Int) < (m3 : Int)) = true := by rw [decide_eq_true_iff]; omega
            obtain ⟨d, hdd⟩ : ∃ d, 48 + m3 = d := ⟨_, rfl⟩
            have hd9 : d < 256 := by omega
            have w64 : IntKind.i64.wrap (48 + (m3 : Int)) = (d : Int) := by rw [IntKind.wrap_i64]; omega
            have w8 : IntKind.u8.wrap (d : Int) = (d : Int) := by rw [IntKind.wrap_u8]; omega
            have kd := byte_strG (wr.alloc (.cells #[.int .u8 99] 5)) (wr.heap.size + 1) (by simp) d hd9
            have hbD := below_alloc (w := wr.alloc (.cells #[.int .u8 99] 5)) (.cells #[.int .u8 (d : Int)] 5)
            have hbelD := below_chain hbelA hbD
            have sz3 : (⟨#[UInt8.ofNat d]⟩ : ByteArray).size = 1 := rfl
            have sz4 : (⟨#[94]⟩ : ByteArray).size = 1 := rfl
            have hT2 := hid (ptx_first hT.out (parTo_three _) h0 he (u := ⟨#[UInt8.ofNat 99]⟩ ++ (⟨#[94]⟩ ++ ⟨#[UInt8.ofNat d]⟩)) (by rw [powT_big 99 h0 h1, hdd]; rfl))
            rw [bytes_assoc] at hT2
            clear h0 he h1 hdd
            go_wp2_with fail
            go_roundw
            case rel => exact ⟨3, _, by omega, by go_num, rfl, hT2, hbelD⟩
            case measure => simp [intOf]
        · have e0 := empty_no he
          by_cases h1 : m3 = 1
          · have c2 : decide ((1 : Int) < (m3 : Int)) = false := by rw [decide_eq_false_iff_not]; omega
            have hT2 := hid (ptx_more hT.out (parTo_three _) h0 he (u := ⟨#[UInt8.ofNat 99]⟩) (by rw [powT_one 99 h1]; rfl))
            clear h0 he h1
            go_wp2_with fail
            go_roundw
            case rel => exact ⟨3, _, by omega, by go_num, rfl, hT2, hbelA⟩
            case measure => simp [intOf]
          · have c2 : decide ((1 : Int) < (m3 : Int)) = true := by rw [decide_eq_true_iff]; omega
            obtain ⟨d, hdd⟩ : ∃ d, 48 + m3 = d := ⟨_, rfl⟩
            have hd9 : d < 256 := by omega
            have w64 : IntKind.i64.wrap (48 + (m3 : Int)) = (d : Int) := by rw [IntKind.wrap_i64]; omega
            have w8 : IntKind.u8.wrap (d : Int) = (d : Int) := by rw [IntKind.wrap_u8]; omega
            have kd := byte_strG (wr.alloc (.cells #[.int .u8 99] 5)) (wr.heap.size + 1) (by simp) d hd9
            have hbD := below_alloc (w := wr.alloc (.cells #[.int .u8 99] 5)) (.cells #[.int .u8 (d : Int)] 5)
            have hbelD := below_chain hbelA hbD
            have sz3 : (⟨#[UInt8.ofNat d]⟩ : ByteArray).size = 1 := rfl
            have sz4 : (⟨#[94]⟩ : ByteArray).size = 1 := rfl
            have hT2 := hid (ptx_more hT.out (parTo_three _) h0 he (u := ⟨#[UInt8.ofNat 99]⟩ ++ (⟨#[94]⟩ ++ ⟨#[UInt8.ofNat d]⟩)) (by rw [powT_big 99 h0 h1, hdd]; rfl))
            rw [bytes_assoc] at hT2
            clear h0 he h1 hdd
            go_wp2_with fail
            go_roundw
            case rel => exact ⟨3, _, by omega, by go_num, rfl, hT2, hbelD⟩
            case measure => simp [intOf]
    · have hT : Hid (PTx (m1, m2, m3) 3 t) := hT
      have hts := hT.out.2.2
      obtain ⟨c0, c1, c2⟩ := C3.next HD.out hbel
      have hCV := (HC.out.next hbel).toV hfx.out (by omega)
      have hb0 := below_chain hbel2 hbel
      clear x0 x1 x2 x3 x4 x5
      by_cases he : t.size = 0
      · have e0 := empty_yes he
        have hm := hid (mon_only (q := q) hT.out he)
        clear he
        go_wp2_with fail
        refine (rFormat_any x _ _ hCV k hfx.out hk).mono ?_; rintro e w5 ⟨sx, rfl, hsx, hb5⟩
        go_wp2_with fail
        go_ret
        exact ⟨sx, rfl, by rw [hsx, hm.out, Hx.out], below_chain hb0 hb5⟩
      · have e0 := empty_no he
        by_cases hg0 : g = 0
        · have k1 : (g != 0) = false := by rw [hg0]; rfl
          have hm := hid (mon_none (q := q) hT.out he (by rw [Hx.out]; exact hg1.out.1 hg0))
          clear he hg0
          go_upto_region 13 with fail
          have hdd : Below wr.heap.size wr wr.drew := (Below.refl _ _).drew
          have hS0 : C3 G4 (.bool rb) (.slice ro rn rc) (.slice so sn sc) wr.drew := C3.next ⟨c0, c1, c2⟩ hdd
          have hCd := hCV.next hdd
          have hbd := below_chain hb0 hdd
          refine wp_region_D (fun w' => C3 G4 (.bool rb) (.slice ro rn rc) (.slice so sn sc) w') [] (by kernel_rfl) ?_
          refine wpAnyD_take (i := 0) (v := ?_) rfl (by kernel_rfl) (by kernel_rfl) (by kernel_rfl) (by kernel_rfl) (fun _ _ _ h => h) (Or.inl ⟨by rfl, ?_⟩) hS0 ?_
          rotate_left
          · intro w hw; obtain ⟨s1', s2', s3'⟩ := hw; first | (go_simp; done) | (go_simp; with_reducible rfl)
          refine wpAnyD_one (i := 1) (by kernel_rfl) rfl (fun KK hKK => ?_)
          go_simp
          go_at_call 30
          refine (rone_any _).mono ?_; rintro e w3 ⟨v3, rfl, C3', hb3⟩
          obtain ⟨a1, a2, a3, a4, a5, a6, a7, rfl⟩ := C3'.shape6
          have hS3 := C3.next hS0 hb3
          refine hKK _ _ ⟨fun _ => hS3, ?_⟩; clear hKK KK
          refine wpAnyD_one (i := 2) (by kernel_rfl) rfl (fun KK hKK => ?_)
          go_simp
          go_at_call 74
          refine (rCompare_any x 1 _ _ _ (hCd.next hb3) (C3'.toV (fit_one hfx.out.pos) (k := k) (by omega)) k hfx.out (fit_one hfx.out.pos) (by omega)).mono ?_; rw [Hg.out]; rintro e w4 ⟨rfl, hb4⟩
          have hS4 := C3.next hS3 hb4
          refine hKK _ _ ⟨fun _ => hS4, ?_⟩; clear hKK KK
          refine wpAnyD_take (i := 3) (v := ?_) rfl (by kernel_rfl) (by kernel_rfl) (by kernel_rfl) (by kernel_rfl) (fun _ _ _ h => h) (Or.inl ⟨by rfl, ?_⟩) hS4 ?_
          rotate_left
          · intro w _; first | (go_simp; done) | (go_simp; with_reducible rfl)
          refine wpAnyD_take (i := 4) (v := ?_) rfl (by kernel_rfl) (by kernel_rfl) (by kernel_rfl) (by kernel_rfl) (fun _ _ _ h => h) (Or.inl ⟨by rfl, ?_⟩) hS4 ?_
          rotate_left
          · intro w _; first | (go_simp; done) | (go_simp; with_reducible rfl)
          refine wpAnyD_done (by kernel_rfl) ?_ _
          go_simp
          have hbel4 := below_chain (below_chain hbd hb3) hb4
          go_wp2_with fail
          go_ret
          exact ⟨t, rfl, hm.out.symm, hbel4⟩
        · have k1 : (g != 0) = true := by simpa using hg0
          have hm := hid (mon_both (q := q) hT.out he (by rw [Hx.out]; exact fun h => hg0 (hg1.out.2 h)))
          clear he hg0
          go_upto_region 13 with fail
          have hdd : Below wr.heap.size wr wr.drew := (Below.refl _ _).drew
          have hS0 : C3 G4 (.bool rb) (.slice ro rn rc) (.slice so sn sc) wr.drew := C3.next ⟨c0, c1, c2⟩ hdd
          have hCd := hCV.next hdd
          have hbd := below_chain hb0 hdd
          refine wp_region_D (fun w' => C3 G4 (.bool rb) (.slice ro rn rc) (.slice so sn sc) w') [] (by kernel_rfl) ?_
          refine wpAnyD_take (i := 0) (v := ?_) rfl (by kernel_rfl) (by kernel_rfl) (by kernel_rfl) (by kernel_rfl) (fun _ _ _ h => h) (Or.inl ⟨by rfl, ?_⟩) hS0 ?_
          rotate_left
          · intro w hw; obtain ⟨s1', s2', s3'⟩ := hw; first | (go_simp; done) | (go_simp; with_reducible rfl)
          refine wpAnyD_one (i := 1) (by kernel_rfl) rfl (fun KK hKK => ?_)
          go_simp
          go_at_call 30
          refine (rone_any _).mono ?_; rintro e w3 ⟨v3, rfl, C3', hb3⟩
          obtain ⟨a1, a2, a3, a4, a5, a6, a7, rfl⟩ := C3'.shape6
          have hS3 := C3.next hS0 hb3
          refine hKK _ _ ⟨fun _ => hS3, ?_⟩; clear hKK KK
          refine wpAnyD_one (i := 2) (by kernel_rfl) rfl (fun KK hKK => ?_)
          go_simp
          go_at_call 74
          refine (rCompare_any x 1 _ _ _ (hCd.next hb3) (C3'.toV (fit_one hfx.out.pos) (k := k) (by omega)) k hfx.out (fit_one hfx.out.pos) (by omega)).mono ?_; rw [Hg.out]; rintro e w4 ⟨rfl, hb4⟩
          have hS4 := C3.next hS3 hb4
          refine hKK _ _ ⟨fun _ => hS4, ?_⟩; clear hKK KK
          refine wpAnyD_take (i := 3) (v := ?_) rfl (by kernel_rfl) (by kernel_rfl) (by kernel_rfl) (by kernel_rfl) (fun _ _ _ h => h) (Or.inl ⟨by rfl, ?_⟩) hS4 ?_
          rotate_left
          · intro w _; first | (go_simp; done) | (go_simp; with_reducible rfl)
          refine wpAnyD_take (i := 4) (v := ?_) rfl (by kernel_rfl) (by kernel_rfl) (by kernel_rfl) (by kernel_rfl) (fun _ _ _ h => h) (Or.inl ⟨by rfl, ?_⟩) hS4 ?_
          rotate_left
          · intro w _; first | (go_simp; done) | (go_simp; with_reducible rfl)
          refine wpAnyD_done (by kernel_rfl) ?_ _
          go_simp
          have hbel4 := below_chain (below_chain hbd hb3) hb4
          have hC4 := (hCd.next hb3).next hb4
          obtain ⟨d0, d1, d2⟩ := hS4
          go_wp2_with fail
          refine (rFormat_any x _ _ hC4 k hfx.out hk).mono ?_; rintro e w5 ⟨sx, rfl, hsx, hb5⟩
          have hsz : sx.size ≤ 10000000000 := by rw [Lib.size_eq, hsx]; have := hlenq.out; rw [Hx.out] at this; exact this
          have sz2 : (sx ++ ⟨#[42]⟩).size = sx.size + 1 := by rw [ByteArray.size_append]; rfl
          have sz3 : (⟨#[42]⟩ : ByteArray).size = 1 := rfl
          go_wp2_with fail
          go_ret
          exact ⟨_, rfl, by rw [Go.Joins.data_append, Go.Joins.data_append, hsx, hm.out, Hx.out], below_chain hbel4 hb5⟩

/-! ### write, Format -/
set_option maxRecDepth 100000 in
set_option maxHeartbeats 8000000 in
theorem rWrite_any (P : Pl) (ao : Option Addr) (n cap : Nat) (w : World) (h : PN w ao n cap P) (k : Nat) (hP : FitP k P) (hk : k ≤ 16777216) :
    Calls Tryz.prog 92 #[.slice ao n cap, .string ⟨#[32, 43, 32]⟩, .string ⟨#[32, 45, 32]⟩] w (StrOut w (fmtP P)) := by
  obtain ⟨hn, hC⟩ := h
  have hnb : n ≤ 56 := by rw [← hn]; exact len_lst P
  have Hn := hid hn
  have hC0 : Pol RatC w ao n cap ((lst P).map toM) := by have := hC; unfold PolC at this; rw [hn] at this; exact this
  have HC := hid hC0
  have hPk := hid hP
  have hsz : Hid (∀ i, i ≤ n → (txtL ((lst P).take i)).length ≤ 1000000000000) := hid (fun i hi => by
    refine Nat.le_trans (txtL_len _ 10000000000 fun m hm => fmtQ_len (fit_abs (hP.mem (List.mem_of_mem_take hm))) hk) ?_
    have : ((lst P).take i).length ≤ 56 := by rw [List.length_take]; omega
    exact Nat.le_trans (Nat.mul_le_mul_right _ this) (by decide))
  clear hn hC hC0 hP
  by_cases hn0 : n = 0
  · have hnil : lst P = [] := List.eq_nil_of_length_eq_zero (by rw [Hn.out]; exact hn0)
    have hf : Hid (fmtP P = [48]) := hid (by unfold fmtP; rw [if_pos hnil])
    have c1 : ((n : Int) == 0) = true := by rw [beq_iff_eq]; omega
    clear hnil hn0
    go_enter Tryz.func92, Tryz.ntmps92
    go_wp2_with fail
    go_ret
    exact ⟨_, rfl, hf.out.symm, Below.refl _ _⟩
  · have hne : lst P ≠ [] := fun e => hn0 (by rw [← Hn.out, e]; rfl)
    have hf : Hid (fmtP P = txtL (lst P)) := hid (by unfold fmtP; rw [if_neg hne])
    have c0 : ((n : Int) == 0) = false := by rw [beq_eq_false_iff_ne]; omega
    clear hne hn0
    go_enter Tryz.func92, Tryz.ntmps92
    go_wp2_with fail
    go_loopw [7, 8] (fun sv iv wr => ∃ (i : Nat) (t : ByteArray), i ≤ n ∧ iv = .int .i64 i ∧ sv = .string t ∧ Hid (t.data.toList = txtL ((lst P).take i)) ∧ Below w.heap.size w wr) (fun _ i _ => n - (intOf i).toNat)
    case atStart => exact ⟨0, ⟨#[]⟩, by omega, rfl, rfl, hid rfl, Below.refl _ _⟩
    case round =>
      obtain ⟨i, t, hi, rfl, rfl, hT, hbel⟩ := hrel
      have hts : t.size ≤ 1000000000000 := by rw [Lib.size_eq, hT.out]; exact hsz.out i hi
      by_cases hlt : i < n
      · obtain ⟨b, o, m1, m2, m3, q, s, xo, xn, xc, yo, yn, yc, hgm, rfl, hX, hrm⟩ := HC.out.atM hlt
        obtain ⟨⟨x0, x1, x2⟩, x3, x4, x5⟩ := H6.next hX hbel
        have HX := hid hX
        have hmem := lst_at (List.mem_of_getElem? hgm)
        have hdeg : Hid (m1 + m2 + m3 ≤ 5) := hid hmem.1
        have hfm := hid (hPk.out.mem (List.mem_of_getElem? hgm))
        have Hrm := hid (hrm.toV hfm.out (by omega))
        have hrV := Hrm.out.next hbel
        have htx := hid (txtL_take hgm)
        obtain ⟨neg, hneg⟩ : ∃ c, decide (q.num < 0) = c := ⟨_, rfl⟩
        obtain ⟨g, hg⟩ : ∃ g, rsg q = g := ⟨_, rfl⟩
        have hgn : decide (g < 0) = neg := by rw [← hg, rsg_neg_iff, hneg]
        have Hg := hid hg
        have hone : Hid (∀ f, oneT f ((m1, m2, m3), q) = sigT f neg ++ monT (m1, m2, m3) q) := hid (fun f => by unfold oneT; rw [show decide (((m1, m2, m3), q).2.num < 0) = neg from hneg])
        have hsz2 : Hid ((sigT (decide (i = 0)) neg ++ monT (m1, m2, m3) q).length ≤ 1000000000000) := hid (by
          have h1 := hsz.out (i + 1) (by omega)
          rw [htx.out, hone.out, List.length_append] at h1
          omega)
        have hz0 : Hid (i = 0 → t.data.toList = []) := hid (fun h => by rw [hT.out, h, List.take_zero]; rfl)
        have i0 : (0 : Int) ≤ (i : Int) := by omega
        have i1 : (i : Int) < (n : Int) := by omega
        clear hgm hmem hrm hneg hg hX
        go_wp2_with fail
        refine (rSign_any q _ _ hrV).mono ?_; rw [Hg.out]; rintro e w3 ⟨rfl, hb3⟩
        have hbel3 := below_chain hbel hb3
        obtain ⟨⟨z0, z1, z2⟩, z3, z4, z5⟩ := H6.next HX.out hbel3
        have hr3 := Hrm.out.next hbel3
        clear hrV x0 x1 x2 x3 x4 x5 hb3
        by_cases hi0 : i = 0
        · have c1 : ((i : Int) == 0) = true := by rw [beq_iff_eq]; omega
          have c2 : decide ((0 : Int) < (i : Int)) = false := by rw [decide_eq_false_iff_not]; omega
          have c3 : decide (0 < i) = false := by rw [decide_eq_false_iff_not]; omega
          have c4 : (i == 0) = true := by rw [beq_iff_eq]; omega
          have hz := hid (hz0.out hi0)
          rw [decide_eq_true hi0] at htx hsz2
          clear hi0
          cases neg with
          | true =>
            have sz1 : (⟨#[45]⟩ : ByteArray).size = 1 := rfl
            go_wp2_with fail
            refine (rMono_any m1 m2 m3 q s xo xn xc yo yn yc _ hr3 k hfm.out hk hdeg.out).mono ?_; rintro e w5 ⟨sx, rfl, hsx, hb5⟩
            have hbel5 := below_chain hbel3 hb5
            have hsx1 : sx.size ≤ 1000000000000 := by have h := hsz2.out; rw [List.length_append] at h; rw [Lib.size_eq, hsx]; omega
            have hT2 : Hid ((⟨#[45]⟩ ++ sx).data.toList = txtL ((lst P).take (i + 1))) := hid (by rw [Go.Joins.data_append, htx.out, hone.out, hsx, ← hT.out, hz.out]; rfl)
            clear z0 z1 z2 z3 z4 z5 hr3 hsx
            go_wp2_with fail
            go_roundw
            case rel => exact ⟨i + 1, _, by omega, by go_num, rfl, hT2, hbel5⟩
            case measure => simp [intOf]; omega
          | false =>
            go_wp2_with fail
            refine (rMono_any m1 m2 m3 q s xo xn xc yo yn yc _ hr3 k hfm.out hk hdeg.out).mono ?_; rintro e w5 ⟨sx, rfl, hsx, hb5⟩
            have hbel5 := below_chain hbel3 hb5
            have hsx1 : sx.size ≤ 1000000000000 := by have h := hsz2.out; rw [List.length_append] at h; rw [Lib.size_eq, hsx]; omega
            have hT2 : Hid ((t ++ sx).data.toList = txtL ((lst P).take (i + 1))) := hid (by rw [Go.Joins.data_append, htx.out, hone.out, hsx, ← hT.out]; rfl)
            clear z0 z1 z2 z3 z4 z5 hr3 hsx
            go_wp2_with fail
            go_roundw
            case rel => exact ⟨i + 1, _, by omega, by go_num, rfl, hT2, hbel5⟩
            case measure => simp [intOf]; omega
        · have c1 : ((i : Int) == 0) = false := by rw [beq_eq_false_iff_ne]; omega
          have c2 : decide ((0 : Int) < (i : Int)) = true := by rw [decide_eq_true_iff]; omega
          have c3 : decide (0 < i) = true := by rw [decide_eq_true_iff]; omega
          have c4 : (i == 0) = false := by rw [beq_eq_false_iff_ne]; omega
          rw [decide_eq_false hi0] at htx hsz2
          clear hi0
          cases neg with
          | true =>
            have sz1 : (⟨#[32, 45, 32]⟩ : ByteArray).size = 3 := rfl
            have sz2 : (t ++ ⟨#[32, 45, 32]⟩).size = t.size + 3 := by rw [ByteArray.size_append]; rfl
            go_wp2_with fail
            refine (rMono_any m1 m2 m3 q s xo xn xc yo yn yc _ hr3 k hfm.out hk hdeg.out).mono ?_; rintro e w5 ⟨sx, rfl, hsx, hb5⟩
            have hbel5 := below_chain hbel3 hb5
            have hsx1 : sx.size ≤ 1000000000000 := by have h := hsz2.out; rw [List.length_append] at h; rw [Lib.size_eq, hsx]; omega
            have hT2 : Hid ((t ++ ⟨#[32, 45, 32]⟩ ++ sx).data.toList = txtL ((lst P).take (i + 1))) := hid (by rw [Go.Joins.data_append, Go.Joins.data_append, htx.out, hone.out, hsx, ← hT.out, List.append_assoc]; rfl)
            clear z0 z1 z2 z3 z4 z5 hr3 hsx
            go_wp2_with fail
            go_roundw
            case rel => exact ⟨i + 1, _, by omega, by go_num, rfl, hT2, hbel5⟩
            case measure => simp [intOf]; omega
          | false =>
            have sz1 : (⟨#[32, 43, 32]⟩ : ByteArray).size = 3 := rfl
            have sz2 : (t ++ ⟨#[32, 43, 32]⟩).size = t.size + 3 := by rw [ByteArray.size_append]; rfl
            go_wp2_with fail
            refine (rMono_any m1 m2 m3 q s xo xn xc yo yn yc _ hr3 k hfm.out hk hdeg.out).mono ?_; rintro e w5 ⟨sx, rfl, hsx, hb5⟩
            have hbel5 := below_chain hbel3 hb5
            have hsx1 : sx.size ≤ 1000000000000 := by have h := hsz2.out; rw [List.length_append] at h; rw [Lib.size_eq, hsx]; omega
            have hT2 : Hid ((t ++ ⟨#[32, 43, 32]⟩ ++ sx).data.toList = txtL ((lst P).take (i + 1))) := hid (by rw [Go.Joins.data_append, Go.Joins.data_append, htx.out, hone.out, hsx, ← hT.out, List.append_assoc]; rfl)
            clear z0 z1 z2 z3 z4 z5 hr3 hsx
            go_wp2_with fail
            go_roundw
            case rel => exact ⟨i + 1, _, by omega, by go_num, rfl, hT2, hbel5⟩
            case measure => simp [intOf]; omega
      · obtain rfl : i = n := by omega
        rw [List.take_of_length_le (by rw [Hn.out]; exact Nat.le_refl _)] at hT
        go_wp2_with fail
        go_ret
        exact ⟨t, rfl, by rw [hf.out, hT.out], hbel⟩

set_option maxHeartbeats 1000000 in
theorem rPFormat_any (P : Pl) (v : Value) (w : World) (h : PolV w v P) (k : Nat) (hP : FitP k P) (hk : k ≤ 16777216) : Calls Tryz.prog 45 #[v] w (StrOut w (fmtP P)) := by
  have ht := hid (rPTake_any P _ _ h)
  obtain ⟨_, _, _, _, rfl, _⟩ := id h
  have hPk := hid hP
  clear h hP
  go_enter Tryz.func45, Tryz.ntmps45
  go_wp2_with fail
  refine ht.out.mono ?_; intro e w1 h1; obtain ⟨ao, n, cap, rfl, hN, hb1⟩ := h1.pn
  go_wp2_with fail
  refine (rWrite_any P _ _ _ _ hN k hPk.out hk).mono ?_; rintro e w2 ⟨s, rfl, hs, hb2⟩
  have hbel := below_chain hb1 hb2
  go_wp2_with fail
  go_ret
  exact ⟨s, rfl, hs, hbel⟩
end Go.Proofs.YtgohfieleckmgaaGreatDoor

/-
  The contract of polynomial.monomial. No condition but sizes and the table of powers of ten.
-/
import Derived.Test.YtgohfieleckmgaaGreatDoorPtx
import Derived.Test.YtgohfieleckmgaaGreatDoorBuiS
import Derived.Test.YtgohfieleckmgaaGreatDoorTxtR
import Derived.Test.YtgohfieleckmgaaGreatDoorPoh
namespace Go.Proofs.YtgohfieleckmgaaGreatDoor
open Go.RowKit
set_option linter.unusedSimpArgs false
set_option linter.unusedVariables false

/-! ### Rows of strings -/
/-- A row of strings of the call's own. -/
def SOwn (w : World) (base : Nat) (v : Value) (P : List ByteArray) : Prop := Own IsStr w base 9 1 v P.length (P.map .string)
theorem SOwn.nil (w : World) (base : Nat) : SOwn w base (.slice none 0 0) [] := Own.nil _ _ _ _ _
theorem SOwn.form {w : World} {base : Nat} {v : Value} {P : List ByteArray} (h : SOwn w base v P) : ∃ ao cap, v = .slice ao P.length cap ∧ True ∧ True := by
  obtain ⟨ao, cap, hv, _⟩ := ownsSl h.1
  exact ⟨ao, cap, hv, trivial, trivial⟩
theorem SOwn.next {w w' : World} {base : Nat} {v : Value} {P : List ByteArray} (h : SOwn w base v P) (hb : Below w.heap.size w w') : SOwn w' base v P := h.below hb
set_option maxRecDepth 100000 in
theorem op_appS {w : World} {o : Oper} {a : Act} {K : Act → World → Prop} {Q : Exit → Act → World → Prop} (s x : Operand)
    (ho : o.op = .call { callee := .builtin .append, args := #[s, x], argTypes := #[125, 125] })
    (base : Nat) (v : Value) (P : List ByteArray) (hs : a.eval s = v) (hown : SOwn w base v P) (B c : Nat) (y : ByteArray) (hx : a.eval x = .slice (some ⟨B, 0, none⟩) 1 c) (hc : w.cell? ⟨B, 0, none⟩ = some (.string y)) (hn : P.length ≤ 1000000) (hbase : base ≤ w.heap.size)
    (h : ∀ v' w', SOwn w' base v' (P ++ [y]) → Below base w w' → K (a.put o.dst v') w') : Oper.wp Tryz.prog o a w K Q := by
  obtain ⟨i, hi, hz0, hsz', hby⟩ := info_parts Tryz.infoStr
  have hown' : Own IsStr w base 9 1 v P.length (P.map .string) := hown
  obtain ⟨v', w', hr, h2, h3, h4⟩ := hown'.append (P := Tryz.prog) 125 o.type i _ 16 Tryz.underlying125 hi hz0 hsz' hby rfl (by decide) (by intro c hc; simp [Value.cells] at hc; subst hc; exact ⟨_, rfl⟩) ⟨B, 0, none⟩ 1 c [.string y] rfl
    (by intro j u hu; rcases j with _ | j
        · simp at hu; subst hu; rw [Addr.add_lit]; exact hc
        · simp at hu) (by intro u hu; simp at hu; subst hu; rfl) (by intro u hu; simp at hu; subst hu; exact ⟨_, rfl⟩) (by decide) (by unfold maxLen; omega) (by omega) hbase
  unfold Oper.wp execOp
  simp only [ho, resolve, invoke, builtin, Sem.run_bind, Sem.run_pure, Result.andThen_ok, List.map_toArray, List.map_cons, List.map_nil, hs, hx, hr]
  refine h v' w' ?_ ((Below.refl _ _).grown h3 hbase (fun k hk => (hown.1.lt k hk).1))
  unfold SOwn
  simpa using h2
theorem wp_appS {w : World} {ops : Array Oper} {rest : List Oper} {o : Oper} {a : Act} {Q : Exit → Act → World → Prop} (hgd : o.guard = none) (s x : Operand)
    (ho : o.op = .call { callee := .builtin .append, args := #[s, x], argTypes := #[125, 125] })
    (base : Nat) (v : Value) (P : List ByteArray) (hs : a.eval s = v) (hown : SOwn w base v P) (B c : Nat) (y : ByteArray) (hx : a.eval x = .slice (some ⟨B, 0, none⟩) 1 c) (hc : w.cell? ⟨B, 0, none⟩ = some (.string y)) (hn : P.length ≤ 1000000) (hbase : base ≤ w.heap.size)
    (h : ∀ v' w', SOwn w' base v' (P ++ [y]) → Below base w w' → wpList Tryz.prog ops Q rest (a.put o.dst v') w') : wpList Tryz.prog ops Q (o :: rest) a w :=
  wpList_plain hgd fun _ hK => op_appS s x ho base v P hs hown B c y hx hc hn hbase fun v' w' h1 h2 => hK _ _ (h v' w' h1 h2)
/-- strings.Join of such a row. -/
theorem sjoin_any (w : World) (base : Nat) (v : Value) (P : List ByteArray) (sep : ByteArray) (h : SOwn w base v P) (hn : P.length ≤ 1000000) (hl : (Lib.join (P.map (·.data.toList)) sep.data.toList).length ≤ 140737488355328) :
    Calls Tryz.prog 123 #[v, .string sep] w (StrOut w (Lib.join (P.map (·.data.toList)) sep.data.toList)) := by
  have hown1 := h.1
  rcases Go.Joins.ownsRow_forms hown1 with ⟨rfl, h0⟩ | ⟨g, cap', rfl⟩
  · have hP : P = [] := List.eq_nil_of_length_eq_zero h0
    subst hP
    refine (Tryz.strings_Join_none none 0 sep w).mono ?_
    rintro e w' ⟨rfl, rfl⟩
    exact ⟨_, rfl, rfl, Below.refl _ _⟩
  · obtain ⟨ao', cap'', hv, sv⟩ := ownsSl hown1
    injection hv with _ _ hv
    subst hv
    refine (Tryz.strings_Join g 0 cap' P sep w (fun j x hx => by
      rw [Nat.zero_add, hown1.cellAt j (by have := (List.getElem?_eq_some_iff.1 hx).1; simpa using this)]
      rw [List.getElem?_map, hx]; rfl) (hown1.lt g rfl).2 (by omega) sv.le hl).mono ?_
    rintro e w' ⟨rfl, hb⟩
    exact ⟨_, rfl, rfl, hb⟩

/-! ### monomial -/
def parTo (e : Ex) (i : Nat) : List (List UInt8) := ((if 0 < i then facT 97 e.1 else []) ++ (if 1 < i then facT 98 e.2.1 else [])) ++ (if 2 < i then facT 99 e.2.2 else [])
theorem parTo_end (e : Ex) : parTo e 3 = parT e := rfl
theorem parTo_zero (e : Ex) : parTo e 0 = [] := rfl
theorem dec_small {k : Nat} (h : k < 10) : Lib.decDigits k = [UInt8.ofNat (48 + k)] := Lib.decDigits_one h
/-- The texts so far. -/
def MTx (e : Ex) (q : Rat) (P : List ByteArray) (i : Nat) : Prop := P.map (·.data.toList) = cofT e (absQ q) ++ parTo e i ∧ P.length ≤ 1 + i
theorem mtx0_no {m1 m2 m3 : Nat} {q : Rat} {P : List ByteArray} (h : MTx (m1, m2, m3) q P 0) (hm : m1 = 0) : MTx (m1, m2, m3) q P 1 := by
  obtain ⟨h1, h2⟩ := h
  refine ⟨?_, by omega⟩
  rw [h1]
  subst hm
  simp [parTo, facT]
theorem mtx0_yes {m1 m2 m3 : Nat} {q : Rat} {P : List ByteArray} {y : ByteArray} (h : MTx (m1, m2, m3) q P 0) (hm : m1 ≠ 0) (hy : y.data.toList = powT 97 m1) : MTx (m1, m2, m3) q (P ++ [y]) 1 := by
  obtain ⟨h1, h2⟩ := h
  refine ⟨?_, by simp; omega⟩
  rw [List.map_append, h1]
  simp [parTo, facT, hm, hy]
theorem mtx1_no {m1 m2 m3 : Nat} {q : Rat} {P : List ByteArray} (h : MTx (m1, m2, m3) q P 1) (hm : m2 = 0) : MTx (m1, m2, m3) q P 2 := by
  obtain ⟨h1, h2⟩ := h
  refine ⟨?_, by omega⟩
  rw [h1]
  subst hm
  simp [parTo, facT]
theorem mtx1_yes {m1 m2 m3 : Nat} {q : Rat} {P : List ByteArray} {y : ByteArray} (h : MTx (m1, m2, m3) q P 1) (hm : m2 ≠ 0) (hy : y.data.toList = powT 98 m2) : MTx (m1, m2, m3) q (P ++ [y]) 2 := by
  obtain ⟨h1, h2⟩ := h
  refine ⟨?_, by simp; omega⟩
  rw [List.map_append, h1]
  simp [parTo, facT, hm, hy]
theorem mtx2_no {m1 m2 m3 : Nat} {q : Rat} {P : List ByteArray} (h : MTx (m1, m2, m3) q P 2) (hm : m3 = 0) : MTx (m1, m2, m3) q P 3 := by
  obtain ⟨h1, h2⟩ := h
  refine ⟨?_, by omega⟩
  rw [h1]
  subst hm
  simp [parTo, facT]
theorem mtx2_yes {m1 m2 m3 : Nat} {q : Rat} {P : List ByteArray} {y : ByteArray} (h : MTx (m1, m2, m3) q P 2) (hm : m3 ≠ 0) (hy : y.data.toList = powT 99 m3) : MTx (m1, m2, m3) q (P ++ [y]) 3 := by
  obtain ⟨h1, h2⟩ := h
  refine ⟨?_, by simp; omega⟩
  rw [List.map_append, h1]
  simp [parTo, facT, hm, hy]
theorem abc_at (i : Nat) (c : UInt8) (h : [(97 : UInt8), 98, 99][i]? = some c) : ((⟨#[97, 98, 99]⟩ : ByteArray).extract i (i + 1)).data.toList = [c] := by
  rw [Lib.extract_data]
  rcases i with _ | _ | _ | i
  · simp at h; subst h; rfl
  · simp at h; subst h; rfl
  · simp at h; subst h; rfl
  · simp at h
theorem raised {a s : ByteArray} {c : UInt8} {k : Nat} (ha : a.data.toList = [c]) (hs : s.data.toList = Lib.decDigits k) (h2 : 2 ≤ k) (h9 : k < 10) : (a ++ ⟨#[94]⟩ ++ s).data.toList = powT c k := by
  rw [Go.Joins.data_append, Go.Joins.data_append, ha, hs, dec_small h9]
  unfold powT
  rw [if_neg (by omega)]
  rfl
theorem plain1 {a : ByteArray} {c : UInt8} {k : Nat} (ha : a.data.toList = [c]) (h1 : k = 1) : a.data.toList = powT c k := by
  unfold powT; rw [if_pos h1, ha]
theorem cof_yes {e : Ex} {q : Rat} (h : q ≠ 1 ∨ deg e = 0) : cofT e q = [fmtQ q] := if_pos h
theorem cof_no {e : Ex} {q : Rat} (h : ¬ (q ≠ 1 ∨ deg e = 0)) : cofT e q = [] := if_neg h

/-- Behind the coefficient. -/
def MCut (W0 : World) (m1 m2 m3 : Nat) (q : Rat) (pv : Value) (wx : World) : Prop :=
  ∃ P, SOwn wx W0.heap.size pv P ∧ MTx (m1, m2, m3) q P 0 ∧ Below W0.heap.size W0 wx
theorem fmtQ_len {q : Rat} {k : Nat} (h : Fit k q) (hk : k ≤ 16777216) : (fmtQ q).length ≤ 10000000000 := by
  have h1 := dec_len_le h.1
  have h2 := dec_len_le h.2
  unfold fmtQ
  simp only [List.length_append]
  have h3 : (if q.num < 0 then [(45 : UInt8)] else []).length ≤ 1 := by split <;> simp
  have h4 : (if q.den = 1 then [] else 47 :: Lib.decDigits q.den).length ≤ 1 + (Lib.decDigits q.den).length := by split <;> simp <;> omega
  omega

set_option maxRecDepth 100000 in
set_option maxHeartbeats 8000000 in
theorem pMono_any (m1 m2 m3 : Nat) (q : Rat) (s : Bool) (xo : Option Addr) (xn xc : Nat) (yo : Option Addr) (yn yc : Nat) (w : World) (hr : RatV w (.agg #[.bool s, .slice xo xn xc, .slice yo yn yc]) q) (k : Nat) (hq : Fit k q) (hk : k ≤ 16777216) (hd : m1 + m2 + m3 ≤ 5) (hp : Pow w) :
    Calls Tryz.prog 89 #[.agg #[.int .i64 m1, .int .i64 m2, .int .i64 m3, .bool s, .slice xo xn xc, .slice yo yn yc]] w (StrOut w (monT (m1, m2, m3) q)) := by
  have hba : Below w.heap.size w (w.alloc (.cells #[.int .i64 m1, .int .i64 m2, .int .i64 m3, .bool s, .slice xo xn xc, .slice yo yn yc] 59)) := below_alloc _
  have HG := H6.fresh w m1 m2 m3 s xo xn xc yo yn yc 59
  have hra := hr.next hba
  have hpa := hp.next hba
  obtain ⟨⟨y0, y1, y2⟩, y3, y4, y5⟩ := id HG
  simp only [Nat.zero_add] at y1 y2 y3 y4 y5
  have HG := hid HG
  have Hq := hid hq
  have i0 := idx0
  have i1 := idx1
  have i2 := idx2
  have hdI : smE ((m1 : Int), (m2 : Int), (m3 : Int)) := by unfold smE; simp only; omega
  have hdeg := hid (fun W => degree_any m1 m2 m3 hdI W)
  have hlenq : Hid ((fmtQ (absQ q)).length ≤ 10000000000) := hid (fmtQ_len (fit_abs hq) hk)
  obtain ⟨x, hx⟩ : ∃ x, absQ q = x := ⟨_, rfl⟩
  have Hx := hid hx
  have hfx : Hid (Fit k x) := hid (by rw [← hx]; exact fit_abs hq)
  obtain ⟨g, hg⟩ : ∃ g, rsg (x - 1) = g := ⟨_, rfl⟩
  have Hg := hid hg
  have hg1 : Hid ((g = 0) ↔ (x = 1)) := hid (by rw [← hg]; exact rsg_eq_zero.trans ⟨fun h => by grind, fun h => by grind⟩)
  clear hr hp hq hdI hg hx
  go_enter Tryz.func89, Tryz.ntmps89
  go_wp2_with fail
  generalize w.alloc (.cells #[.int .i64 m1, .int .i64 m2, .int .i64 m3, .bool s, .slice xo xn xc, .slice yo yn yc] 59) = W0 at *
  refine (Abs_any q _ _ hra k Hq.out (by omega)).mono ?_; rw [Hx.out]; rintro e w1 ⟨v1, rfl, C1, hb1⟩
  obtain ⟨rb, ro, rn, rc, so, sn, sc, rfl⟩ := C1.shape
  have hb2 : Below w1.heap.size w1 (w1.alloc (.cells #[.bool rb, .slice ro rn rc, .slice so sn sc] 25)) := below_alloc _
  have hD : C3 w1.heap.size (.bool rb) (.slice ro rn rc) (.slice so sn sc) (w1.alloc (.cells #[.bool rb, .slice ro rn rc, .slice so sn sc] 25)) := C3.here w1 _ rfl
  have hC1 := C1.next hb2
  have hbel2 := below_chain hb1 hb2
  obtain ⟨G4, hG4⟩ : ∃ G, w1.heap.size = G := ⟨_, rfl⟩
  clear C1 hra hb1 hb2 y0 y1 y2 y3 y4 y5
  go_upto_region 3 with fail
  rw [hG4] at hD; (try rw [hG4])
  clear hG4
  generalize w1.alloc (.cells #[.bool rb, .slice ro rn rc, .slice so sn sc] 25) = W2 at *
  go_cut [19] (fun cv wx => ∃ c : Bool, cv = .bool c ∧ Hid (cofT (m1, m2, m3) x = if c then [fmtQ x] else []) ∧ Below W2.heap.size W2 wx)
  case first =>
    have hdd := (Below.refl W2.heap.size W2).drew
    have hbeld := hdd
    have hS0 : C3 G4 (.bool rb) (.slice ro rn rc) (.slice so sn sc) W2.drew ∧ H6 w.heap.size 0 m1 m2 m3 s xo xn xc yo yn yc W2.drew := And.intro (C3.next hD hdd) (H6.next (H6.next HG.out hbel2) hdd)
    have hCd := hC1.next hdd
    clear hD hC1 hbel2 hdd
    by_cases hg0 : g = 0
    · have c1 : (g != 0) = false := by rw [hg0]; rfl
      have hx1 := hid (hg1.out.1 hg0)
      clear hg0
      by_cases hd0 : m1 + m2 + m3 = 0
      · have c2 : ((m1 : Int) + m2 + m3 == 0) = true := by rw [beq_iff_eq]; omega
        have hcof : Hid (cofT (m1, m2, m3) x = if true then [fmtQ x] else []) := hid (cof_yes (e := (m1, m2, m3)) (q := x) (.inr hd0))
        clear hd0
        refine wp_region_D (fun w' => C3 G4 (.bool rb) (.slice ro rn rc) (.slice so sn sc) w' ∧ H6 w.heap.size 0 m1 m2 m3 s xo xn xc yo yn yc w') [] (by kernel_rfl) ?_
        refine wpAnyD_take (i := 0) (v := ?_) rfl (by kernel_rfl) (by kernel_rfl) (by kernel_rfl) (by kernel_rfl) (fun _ _ _ h => h) (Or.inl ⟨by rfl, ?_⟩) hS0 ?_
        rotate_left
        · intro w hw; obtain ⟨⟨s1', s2', s3'⟩, ⟨t1', t2', t3'⟩, t4', t5', t6'⟩ := hw; first | (go_simp; done) | (go_simp; with_reducible rfl)
        refine wpAnyD_one (i := 1) (by kernel_rfl) rfl (fun KK hKK => ?_)
        go_simp
        go_at_call 64
        refine (int1_any _).mono ?_; rintro e w3 ⟨v3, rfl, C3', hb3⟩
        obtain ⟨a1, a2, a3, a4, a5, a6, a7, rfl⟩ := C3'.shape6
        have hS3 := And.intro (C3.next hS0.1 hb3) (H6.next hS0.2 hb3)
        refine hKK _ _ ⟨fun _ => hS3, ?_⟩; clear hKK KK
        refine wpAnyD_one (i := 2) (by kernel_rfl) rfl (fun KK hKK => ?_)
        go_simp
        go_at_call 62
        refine (Compare_any x 1 _ _ _ ((hCd.next hb3).toV hfx.out (by omega)) (C3'.toV (fit_one hfx.out.pos) (k := k) (by omega)) k hfx.out (fit_one hfx.out.pos) (by omega)).mono ?_; rw [Hg.out]; rintro e w4 ⟨rfl, hb4⟩
        have hS4 := And.intro (C3.next hS3.1 hb4) (H6.next hS3.2 hb4)
        refine hKK _ _ ⟨fun _ => hS4, ?_⟩; clear hKK KK
        refine wpAnyD_take (i := 3) (v := ?_) rfl (by kernel_rfl) (by kernel_rfl) (by kernel_rfl) (by kernel_rfl) (fun _ _ _ h => h) (Or.inl ⟨by rfl, ?_⟩) hS4 ?_
        rotate_left
        · intro w _; first | (go_simp; done) | (go_simp; with_reducible rfl)
        refine wpAnyD_take (i := 4) (v := ?_) rfl (by kernel_rfl) (by kernel_rfl) (by kernel_rfl) (by kernel_rfl) (fun _ _ _ h => h) (Or.inl ⟨by rfl, ?_⟩) hS4 ?_
        rotate_left
        · intro w _; first | (go_simp; done) | (go_simp; with_reducible rfl)
        refine wpAnyD_take (i := 5) (v := ?_) rfl (by kernel_rfl) (by kernel_rfl) (by kernel_rfl) (by kernel_rfl) (fun _ _ _ h => h) (Or.inl ⟨by kernel_rfl, ?_⟩) hS4 ?_
        rotate_left
        · intro w _; first | (go_simp; done) | (go_simp; with_reducible rfl)
        refine wpAnyD_take (i := 6) (v := ?_) rfl (by kernel_rfl) (by kernel_rfl) (by kernel_rfl) (by kernel_rfl) (fun _ _ _ h => h) (Or.inl ⟨by kernel_rfl, ?_⟩) hS4 ?_
        rotate_left
        · intro w hw; obtain ⟨⟨s1', s2', s3'⟩, ⟨t1', t2', t3'⟩, t4', t5', t6'⟩ := hw; first | (go_simp; done) | (go_simp; with_reducible rfl)
        refine wpAnyD_one (i := 7) (by kernel_rfl) rfl (fun KK hKK => ?_)
        go_simp
        go_at_call 60
        refine (hdeg.out _).mono ?_; rintro e w5 ⟨rfl, hb5⟩
        have hS5 := And.intro (C3.next hS4.1 hb5) (H6.next hS4.2 hb5)
        refine hKK _ _ ⟨fun _ => hS5, ?_⟩; clear hKK KK
        refine wpAnyD_take (i := 8) (v := ?_) rfl (by kernel_rfl) (by kernel_rfl) (by kernel_rfl) (by kernel_rfl) (fun _ _ _ h => h) (Or.inl ⟨by kernel_rfl, ?_⟩) hS5 ?_
        rotate_left
        · intro w _; first | (go_simp; done) | (go_simp; with_reducible rfl)
        refine wpAnyD_take (i := 9) (v := ?_) rfl (by kernel_rfl) (by kernel_rfl) (by kernel_rfl) (by kernel_rfl) (fun _ _ _ h => h) (Or.inl ⟨by rfl, ?_⟩) hS5 ?_
        rotate_left
        · intro w _; first | (go_simp; done) | (go_simp; with_reducible rfl)
        refine wpAnyD_done (by kernel_rfl) ?_ _
        go_simp
        have hbelF := below_chain (below_chain (below_chain (hbeld) hb3) hb4) hb5
        go_wp2_with fail
        go_meet
        exact ⟨true, rfl, hcof, hbelF⟩
      · have c2 : ((m1 : Int) + m2 + m3 == 0) = false := by rw [beq_eq_false_iff_ne]; omega
        have hcof : Hid (cofT (m1, m2, m3) x = if false then [fmtQ x] else []) := hid (cof_no (e := (m1, m2, m3)) (q := x) (by rintro (h | h); exact h hx1.out; exact hd0 h))
        clear hd0
        refine wp_region_D (fun w' => C3 G4 (.bool rb) (.slice ro rn rc) (.slice so sn sc) w' ∧ H6 w.heap.size 0 m1 m2 m3 s xo xn xc yo yn yc w') [] (by kernel_rfl) ?_
        refine wpAnyD_take (i := 0) (v := ?_) rfl (by kernel_rfl) (by kernel_rfl) (by kernel_rfl) (by kernel_rfl) (fun _ _ _ h => h) (Or.inl ⟨by rfl, ?_⟩) hS0 ?_
        rotate_left
        · intro w hw; obtain ⟨⟨s1', s2', s3'⟩, ⟨t1', t2', t3'⟩, t4', t5', t6'⟩ := hw; first | (go_simp; done) | (go_simp; with_reducible rfl)
        refine wpAnyD_one (i := 1) (by kernel_rfl) rfl (fun KK hKK => ?_)
        go_simp
        go_at_call 64
        refine (int1_any _).mono ?_; rintro e w3 ⟨v3, rfl, C3', hb3⟩
        obtain ⟨a1, a2, a3, a4, a5, a6, a7, rfl⟩ := C3'.shape6
        have hS3 := And.intro (C3.next hS0.1 hb3) (H6.next hS0.2 hb3)
        refine hKK _ _ ⟨fun _ => hS3, ?_⟩; clear hKK KK
        refine wpAnyD_one (i := 2) (by kernel_rfl) rfl (fun KK hKK => ?_)
        go_simp
        go_at_call 62
        refine (Compare_any x 1 _ _ _ ((hCd.next hb3).toV hfx.out (by omega)) (C3'.toV (fit_one hfx.out.pos) (k := k) (by omega)) k hfx.out (fit_one hfx.out.pos) (by omega)).mono ?_; rw [Hg.out]; rintro e w4 ⟨rfl, hb4⟩
        have hS4 := And.intro (C3.next hS3.1 hb4) (H6.next hS3.2 hb4)
        refine hKK _ _ ⟨fun _ => hS4, ?_⟩; clear hKK KK
        refine wpAnyD_take (i := 3) (v := ?_) rfl (by kernel_rfl) (by kernel_rfl) (by kernel_rfl) (by kernel_rfl) (fun _ _ _ h => h) (Or.inl ⟨by rfl, ?_⟩) hS4 ?_
        rotate_left
        · intro w _; first | (go_simp; done) | (go_simp; with_reducible rfl)
        refine wpAnyD_take (i := 4) (v := ?_) rfl (by kernel_rfl) (by kernel_rfl) (by kernel_rfl) (by kernel_rfl) (fun _ _ _ h => h) (Or.inl ⟨by rfl, ?_⟩) hS4 ?_
        rotate_left
        · intro w _; first | (go_simp; done) | (go_simp; with_reducible rfl)
        refine wpAnyD_take (i := 5) (v := ?_) rfl (by kernel_rfl) (by kernel_rfl) (by kernel_rfl) (by kernel_rfl) (fun _ _ _ h => h) (Or.inl ⟨by kernel_rfl, ?_⟩) hS4 ?_
        rotate_left
        · intro w _; first | (go_simp; done) | (go_simp; with_reducible rfl)
        refine wpAnyD_take (i := 6) (v := ?_) rfl (by kernel_rfl) (by kernel_rfl) (by kernel_rfl) (by kernel_rfl) (fun _ _ _ h => h) (Or.inl ⟨by kernel_rfl, ?_⟩) hS4 ?_
        rotate_left
        · intro w hw; obtain ⟨⟨s1', s2', s3'⟩, ⟨t1', t2', t3'⟩, t4', t5', t6'⟩ := hw; first | (go_simp; done) | (go_simp; with_reducible rfl)
        refine wpAnyD_one (i := 7) (by kernel_rfl) rfl (fun KK hKK => ?_)
        go_simp
        go_at_call 60
        refine (hdeg.out _).mono ?_; rintro e w5 ⟨rfl, hb5⟩
        have hS5 := And.intro (C3.next hS4.1 hb5) (H6.next hS4.2 hb5)
        refine hKK _ _ ⟨fun _ => hS5, ?_⟩; clear hKK KK
        refine wpAnyD_take (i := 8) (v := ?_) rfl (by kernel_rfl) (by kernel_rfl) (by kernel_rfl) (by kernel_rfl) (fun _ _ _ h => h) (Or.inl ⟨by kernel_rfl, ?_⟩) hS5 ?_
        rotate_left
        · intro w _; first | (go_simp; done) | (go_simp; with_reducible rfl)
        refine wpAnyD_take (i := 9) (v := ?_) rfl (by kernel_rfl) (by kernel_rfl) (by kernel_rfl) (by kernel_rfl) (fun _ _ _ h => h) (Or.inl ⟨by rfl, ?_⟩) hS5 ?_
        rotate_left
        · intro w _; first | (go_simp; done) | (go_simp; with_reducible rfl)
        refine wpAnyD_done (by kernel_rfl) ?_ _
        go_simp
        have hbelF := below_chain (below_chain (below_chain (hbeld) hb3) hb4) hb5
        go_wp2_with fail
        go_meet
        exact ⟨false, rfl, hcof, hbelF⟩
    · have c1 : (g != 0) = true := by simpa using hg0
      have hcof : Hid (cofT (m1, m2, m3) x = if true then [fmtQ x] else []) := hid (cof_yes (e := (m1, m2, m3)) (q := x) (.inl fun h => hg0 (hg1.out.2 h)))
      clear hg0
      refine wp_region_D (fun w' => C3 G4 (.bool rb) (.slice ro rn rc) (.slice so sn sc) w' ∧ H6 w.heap.size 0 m1 m2 m3 s xo xn xc yo yn yc w') [] (by kernel_rfl) ?_
      refine wpAnyD_take (i := 0) (v := ?_) rfl (by kernel_rfl) (by kernel_rfl) (by kernel_rfl) (by kernel_rfl) (fun _ _ _ h => h) (Or.inl ⟨by rfl, ?_⟩) hS0 ?_
      rotate_left
      · intro w hw; obtain ⟨⟨s1', s2', s3'⟩, ⟨t1', t2', t3'⟩, t4', t5', t6'⟩ := hw; first | (go_simp; done) | (go_simp; with_reducible rfl)
      refine wpAnyD_one (i := 1) (by kernel_rfl) rfl (fun KK hKK => ?_)
      go_simp
      go_at_call 64
      refine (int1_any _).mono ?_; rintro e w3 ⟨v3, rfl, C3', hb3⟩
      obtain ⟨a1, a2, a3, a4, a5, a6, a7, rfl⟩ := C3'.shape6
      have hS3 := And.intro (C3.next hS0.1 hb3) (H6.next hS0.2 hb3)
      refine hKK _ _ ⟨fun _ => hS3, ?_⟩; clear hKK KK
      refine wpAnyD_one (i := 2) (by kernel_rfl) rfl (fun KK hKK => ?_)
      go_simp
      go_at_call 62
      refine (Compare_any x 1 _ _ _ ((hCd.next hb3).toV hfx.out (by omega)) (C3'.toV (fit_one hfx.out.pos) (k := k) (by omega)) k hfx.out (fit_one hfx.out.pos) (by omega)).mono ?_; rw [Hg.out]; rintro e w4 ⟨rfl, hb4⟩
      have hS4 := And.intro (C3.next hS3.1 hb4) (H6.next hS3.2 hb4)
      refine hKK _ _ ⟨fun _ => hS4, ?_⟩; clear hKK KK
      refine wpAnyD_take (i := 3) (v := ?_) rfl (by kernel_rfl) (by kernel_rfl) (by kernel_rfl) (by kernel_rfl) (fun _ _ _ h => h) (Or.inl ⟨by rfl, ?_⟩) hS4 ?_
      rotate_left
      · intro w _; first | (go_simp; done) | (go_simp; with_reducible rfl)
      refine wpAnyD_take (i := 4) (v := ?_) rfl (by kernel_rfl) (by kernel_rfl) (by kernel_rfl) (by kernel_rfl) (fun _ _ _ h => h) (Or.inl ⟨by rfl, ?_⟩) hS4 ?_
      rotate_left
      · intro w _; first | (go_simp; done) | (go_simp; with_reducible rfl)
      refine wpAnyD_take (i := 5) (v := undef) rfl (by kernel_rfl) (by kernel_rfl) (by kernel_rfl) (by kernel_rfl) (fun _ _ _ h => h) (Or.inr ⟨by kernel_rfl, rfl⟩) hS4 ?_
      refine wpAnyD_take (i := 6) (v := undef) rfl (by kernel_rfl) (by kernel_rfl) (by kernel_rfl) (by kernel_rfl) (fun _ _ _ h => h) (Or.inr ⟨by kernel_rfl, rfl⟩) hS4 ?_
      refine wpAnyD_take (i := 7) (v := undef) rfl (by kernel_rfl) (by kernel_rfl) (by kernel_rfl) (by kernel_rfl) (fun _ _ _ h => h) (Or.inr ⟨by kernel_rfl, rfl⟩) hS4 ?_
      refine wpAnyD_take (i := 8) (v := undef) rfl (by kernel_rfl) (by kernel_rfl) (by kernel_rfl) (by kernel_rfl) (fun _ _ _ h => h) (Or.inr ⟨by kernel_rfl, rfl⟩) hS4 ?_
      refine wpAnyD_take (i := 9) (v := ?_) rfl (by kernel_rfl) (by kernel_rfl) (by kernel_rfl) (by kernel_rfl) (fun _ _ _ h => h) (Or.inl ⟨by rfl, ?_⟩) hS4 ?_
      rotate_left
      · intro w _; first | (go_simp; done) | (go_simp; with_reducible rfl)
      refine wpAnyD_done (by kernel_rfl) ?_ _
      go_simp
      have hbelF := below_chain (below_chain (hbeld) hb3) hb4
      go_wp2_with fail
      go_meet
      exact ⟨true, rfl, hcof, hbelF⟩
  case rest =>
    obtain ⟨c, rfl, hcof, hbelc⟩ := hcut
    have hDc := C3.next hD hbelc
    have hCc := hC1.next hbelc
    have hbeld := below_chain hbel2 hbelc
    have hpd := hpa.next hbeld
    clear hD hC1 hbel2 hbelc
    go_upto_if 19 with fail
    go_cut [3] (fun pv wx => MCut W0 m1 m2 m3 q pv wx)
    case first =>
      cases c with
      | false =>
        rw [if_neg (by decide)] at hcof
        go_wp2_with fail
        go_meet
        exact ⟨[], SOwn.nil _ _, ⟨by rw [parTo_zero, List.append_nil, Hx.out, hcof.out]; rfl, by simp⟩, hbeld⟩
      | true =>
        rw [if_pos rfl] at hcof
        have hbelF := hbeld
        have hCF := hCc.toV hfx.out (by omega)
        have hpF := hpd
        obtain ⟨z0, z1, z2⟩ := hDc
        clear hCc hpd hbeld
        go_wp2_with fail
        refine (Format_any x _ _ hCF k hfx.out hk hpF).mono ?_; rintro e w6 ⟨sx, rfl, hsx, hb6⟩
        have hbel6 := below_chain hbelF hb6
        have hbN : Below w6.heap.size w6 (w6.alloc (.cells #[.string sx] 9)) := below_alloc _
        have hbelN := below_chain hbel6 hbN
        have hcs : (w6.alloc (.cells #[.string sx] 9)).cell? ⟨w6.heap.size, 0, none⟩ = some (.string sx) := by simp [go_sem]
        have hM0 : Hid (MTx (m1, m2, m3) q ([] ++ [sx]) 0) := hid ⟨by rw [parTo_zero, List.append_nil, Hx.out, hcof.out]; simp [hsx], by simp⟩
        clear hsx z0 z1 z2 hCF hpF
        go_wp2_with (at_builtin; go_loud (refine wp_appS rfl (.tmp 20) (.tmp 23) rfl W0.heap.size _ [] rfl (SOwn.nil _ _) w6.heap.size 1 sx rfl hcs (by decide) hbelN.size ?_))
        intro v' w7 hown7 hb7
        have hbel7 := hbelN.trans hb7
        go_wp2_with fail
        go_meet
        exact ⟨_, hown7, hM0.out, hbel7⟩
    case rest =>
      obtain ⟨P, hown, hM, hbel⟩ := hcut
      have hM := hid hM
      clear hDc hCc hbeld hpd hcof
      obtain ⟨⟨y0, y1, y2⟩, y3, y4, y5⟩ := H6.next HG.out hbel
      simp only [Nat.zero_add] at y1 y2 y3 y4 y5
      go_wp2_with fail
      go_loopw [27, 3] (fun iv pv wr => ∃ (kk : Int) (P : List ByteArray), (kk = 0 ∨ kk = 1 ∨ kk = 2 ∨ kk = 3) ∧ iv = .int .i64 kk ∧ SOwn wr W0.heap.size pv P ∧ Hid (MTx (m1, m2, m3) q P kk.toNat) ∧ Below W0.heap.size W0 wr) (fun i _ _ => (3 - intOf i).toNat)
      case atStart => exact ⟨0, P, .inl rfl, rfl, hown, hM, hbel⟩
      case round =>
        clear hown hM hbel y0 y1 y2 y3 y4 y5
        obtain ⟨kk, P, hk3, rfl, hown, hM, hbel⟩ := hrel
        obtain ⟨oo, oc, rfl, _, _⟩ := SOwn.form hown
        have hsz := hbel.size
        have hcs : ∀ (W : World) (y : ByteArray), (W.alloc (.cells #[.string y] 9)).cell? ⟨W.heap.size, 0, none⟩ = some (.string y) := fun W y => by simp [go_sem]
        rcases hk3 with rfl | rfl | rfl | rfl
        · have hM : Hid (MTx (m1, m2, m3) q P 0) := hM
          have hPl := hM.out.2
          by_cases h0 : m1 = 0
          · have hM2 := hid (mtx0_no hM.out h0)
            have c1 : decide ((1 : Int) < (m1 : Int)) = false := by rw [decide_eq_false_iff_not]; omega
            have c2 : ((m1 : Int) == 1) = false := by rw [beq_eq_false_iff_ne]; omega
            clear hPl h0
            go_wp2_with fail
            go_roundw
            case rel => exact ⟨1, P, by omega, by go_num, hown, hM2, hbel⟩
            case measure => simp [intOf]
          · by_cases h1 : m1 = 1
            · have hM2 := hid (mtx0_yes hM.out h0 (plain1 (abc_at 0 97 rfl) h1))
              have c1 : decide ((1 : Int) < (m1 : Int)) = false := by rw [decide_eq_false_iff_not]; omega
              have c2 : ((m1 : Int) == 1) = true := by rw [beq_iff_eq]; omega
              clear h0 h1
              go_wp2_with (at_builtin; go_loud (refine wp_appS rfl (.tmp 48) (.tmp 53) rfl W0.heap.size _ P rfl (SOwn.next hown (below_alloc _)) wr.heap.size 1 ((⟨#[97, 98, 99]⟩ : ByteArray).extract 0 1) rfl (hcs _ _) (by omega) ((hbel.alloc hsz _).size) ?_))
              intro v2 w3 hown3 hb3
              have hbel3 := (hbel.alloc hsz _).trans hb3
              go_wp2_with fail
              go_roundw
              case rel => exact ⟨1, _, by omega, by go_num, hown3, hM2, hbel3⟩
              case measure => simp [intOf]
            · have c1 : decide ((1 : Int) < (m1 : Int)) = true := by rw [decide_eq_true_iff]; omega
              have hw1 : IntKind.i64.wrap 1 = 1 := by decide
              have hpW := hpa.next hbel
              have hsz5 : m1 ≤ 5 := by omega
              have h2 : 2 ≤ m1 := by omega
              have hM2 := hid (fun sx hs => mtx0_yes hM.out h0 (raised (s := sx) (abc_at 0 97 rfl) hs h2 (by omega)))
              have hdd := (Below.refl wr.heap.size wr).drew
              have hpd := hpW.next hdd
              have hownd := SOwn.next hown hdd
              have hbeld := below_chain hbel hdd
              clear h0 h1
              go_wp2_with fail
              refine wp_region_D (fun _ => True) [] (by kernel_rfl) ?_
              refine wpAnyD_take (i := 0) (v := ?_) rfl (by kernel_rfl) (by kernel_rfl) (by kernel_rfl) (by kernel_rfl) (fun _ _ _ h => h) (Or.inl ⟨by rfl, ?_⟩) trivial ?_
              rotate_left
              · intro w _; first | (go_simp; done) | (go_simp; with_reducible rfl)
              refine wpAnyD_take (i := 1) (v := ?_) rfl (by kernel_rfl) (by kernel_rfl) (by kernel_rfl) (by kernel_rfl) (fun _ _ _ h => h) (Or.inl ⟨by rfl, ?_⟩) trivial ?_
              rotate_left
              · intro w _; first | (go_simp; done) | (go_simp; with_reducible rfl)
              refine wpAnyD_take (i := 2) (v := ?_) rfl (by kernel_rfl) (by kernel_rfl) (by kernel_rfl) (by kernel_rfl) (fun _ _ _ h => h) (Or.inl ⟨by rfl, ?_⟩) trivial ?_
              rotate_left
              · intro w _; first | (go_simp; done) | (go_simp; with_reducible rfl)
              refine wpAnyD_take (i := 3) (v := ?_) rfl (by kernel_rfl) (by kernel_rfl) (by kernel_rfl) (by kernel_rfl) (fun _ _ _ h => h) (Or.inl ⟨by rfl, ?_⟩) trivial ?_
              rotate_left
              · intro w _; first | (go_simp; done) | (go_simp; with_reducible rfl)
              refine wpAnyD_take (i := 4) (v := ?_) rfl (by kernel_rfl) (by kernel_rfl) (by kernel_rfl) (by kernel_rfl) (fun _ _ _ h => h) (Or.inl ⟨by rfl, ?_⟩) trivial ?_
              rotate_left
              · intro w _; first | (go_simp; done) | (go_simp; with_reducible rfl)
              refine wpAnyD_take (i := 5) (v := ?_) rfl (by kernel_rfl) (by kernel_rfl) (by kernel_rfl) (by kernel_rfl) (fun _ _ _ h => h) (Or.inl ⟨by rfl, ?_⟩) trivial ?_
              rotate_left
              · intro w _; first | (go_simp; done) | (go_simp; with_reducible rfl)
              refine wpAnyD_take (i := 6) (v := ?_) rfl (by kernel_rfl) (by kernel_rfl) (by kernel_rfl) (by kernel_rfl) (fun _ _ _ h => h) (Or.inl ⟨by rfl, ?_⟩) trivial ?_
              rotate_left
              · intro w _; first | (go_simp; done) | (go_simp; with_reducible rfl)
              refine wpAnyD_one (i := 7) (by kernel_rfl) rfl (fun KK hKK => ?_)
              go_simp
              go_at_call 122
              refine (itoa_any _ m1 rfl (by omega) _ hpd).mono ?_; rintro e w5 ⟨sx, rfl, hsx, hb5⟩
              have hsx1 : sx.size = 1 := by rw [Lib.size_eq, hsx, dec_small (by omega)]; rfl
              have hsx2 : ¬ 9223372036854775807 < 2 + sx.size := by omega
              have hown5 := SOwn.next hownd hb5
              have hbel5 := below_chain hbeld hb5
              refine hKK _ _ ⟨fun _ => trivial, ?_⟩; clear hKK KK
              refine wpAnyD_take (i := 8) (v := ?_) rfl (by kernel_rfl) (by kernel_rfl) (by kernel_rfl) (by kernel_rfl) (fun _ _ _ h => h) (Or.inl ⟨by rfl, ?_⟩) trivial ?_
              rotate_left
              · intro w _; first | (go_simp; done) | (go_simp; with_reducible rfl)
              refine wpAnyD_one (i := 9) (by kernel_rfl) rfl (fun KK hKK => ?_)
              go_simp
              refine hKK _ _ ⟨fun _ => trivial, ?_⟩; clear hKK KK
              refine wpAnyD_one (i := 10) (by kernel_rfl) rfl (fun KK hKK => ?_)
              rw [if_pos (by rfl)]
              refine op_appS (.tmp 34) (.tmp 43) rfl W0.heap.size _ P rfl (SOwn.next hown5 (below_alloc _)) w5.heap.size 1 _ rfl (hcs _ _) (by omega) ((hbel5.alloc hbel5.size _).size) ?_
              intro v2 w6 hown6 hb6
              have hbel6 := (hbel5.alloc hbel5.size _).trans hb6
              refine hKK _ _ ⟨fun _ => trivial, ?_⟩; clear hKK KK
              refine wpAnyD_one (i := 11) (by kernel_rfl) rfl (fun KK hKK => ?_)
              go_simp
              refine hKK _ _ ⟨fun _ => trivial, ?_⟩; clear hKK KK
              refine wpAnyD_done (by kernel_rfl) ?_ _
              go_simp
              go_wp2_with fail
              go_roundw
              case rel => exact ⟨1, _, by omega, by go_num, hown6, hid (hM2.out _ hsx), hbel6⟩
              case measure => simp [intOf]
        · have hM : Hid (MTx (m1, m2, m3) q P 1) := hM
          have hPl := hM.out.2
          by_cases h0 : m2 = 0
          · have hM2 := hid (mtx1_no hM.out h0)
            have c1 : decide ((1 : Int) < (m2 : Int)) = false := by rw [decide_eq_false_iff_not]; omega
            have c2 : ((m2 : Int) == 1) = false := by rw [beq_eq_false_iff_ne]; omega
            clear hPl h0
            go_wp2_with fail
            go_roundw
            case rel => exact ⟨2, P, by omega, by go_num, hown, hM2, hbel⟩
            case measure => simp [intOf]
          · by_cases h1 : m2 = 1
            · have hM2 := hid (mtx1_yes hM.out h0 (plain1 (abc_at 1 98 rfl) h1))
              have c1 : decide ((1 : Int) < (m2 : Int)) = false := by rw [decide_eq_false_iff_not]; omega
              have c2 : ((m2 : Int) == 1) = true := by rw [beq_iff_eq]; omega
              clear h0 h1
              go_wp2_with (at_builtin; go_loud (refine wp_appS rfl (.tmp 48) (.tmp 53) rfl W0.heap.size _ P rfl (SOwn.next hown (below_alloc _)) wr.heap.size 1 ((⟨#[97, 98, 99]⟩ : ByteArray).extract 1 2) rfl (hcs _ _) (by omega) ((hbel.alloc hsz _).size) ?_))
              intro v2 w3 hown3 hb3
              have hbel3 := (hbel.alloc hsz _).trans hb3
              go_wp2_with fail
              go_roundw
              case rel => exact ⟨2, _, by omega, by go_num, hown3, hM2, hbel3⟩
              case measure => simp [intOf]
            · have c1 : decide ((1 : Int) < (m2 : Int)) = true := by rw [decide_eq_true_iff]; omega
              have hw1 : IntKind.i64.wrap 2 = 2 := by decide
              have hpW := hpa.next hbel
              have hsz5 : m2 ≤ 5 := by omega
              have h2 : 2 ≤ m2 := by omega
              have hM2 := hid (fun sx hs => mtx1_yes hM.out h0 (raised (s := sx) (abc_at 1 98 rfl) hs h2 (by omega)))
              have hdd := (Below.refl wr.heap.size wr).drew
              have hpd := hpW.next hdd
              have hownd := SOwn.next hown hdd
              have hbeld := below_chain hbel hdd
              clear h0 h1
              go_wp2_with fail
              refine wp_region_D (fun _ => True) [] (by kernel_rfl) ?_
              refine wpAnyD_take (i := 0) (v := ?_) rfl (by kernel_rfl) (by kernel_rfl) (by kernel_rfl) (by kernel_rfl) (fun _ _ _ h => h) (Or.inl ⟨by rfl, ?_⟩) trivial ?_
              rotate_left
              · intro w _; first | (go_simp; done) | (go_simp; with_reducible rfl)
              refine wpAnyD_take (i := 1) (v := ?_) rfl (by kernel_rfl) (by kernel_rfl) (by kernel_rfl) (by kernel_rfl) (fun _ _ _ h => h) (Or.inl ⟨by rfl, ?_⟩) trivial ?_
              rotate_left
              · intro w _; first | (go_simp; done) | (go_simp; with_reducible rfl)
              refine wpAnyD_take (i := 2) (v := ?_) rfl (by kernel_rfl) (by kernel_rfl) (by kernel_rfl) (by kernel_rfl) (fun _ _ _ h => h) (Or.inl ⟨by rfl, ?_⟩) trivial ?_
              rotate_left
              · intro w _; first | (go_simp; done) | (go_simp; with_reducible rfl)
              refine wpAnyD_take (i := 3) (v := ?_) rfl (by kernel_rfl) (by kernel_rfl) (by kernel_rfl) (by kernel_rfl) (fun _ _ _ h => h) (Or.inl ⟨by rfl, ?_⟩) trivial ?_
              rotate_left
              · intro w _; first | (go_simp; done) | (go_simp; with_reducible rfl)
              refine wpAnyD_take (i := 4) (v := ?_) rfl (by kernel_rfl) (by kernel_rfl) (by kernel_rfl) (by kernel_rfl) (fun _ _ _ h => h) (Or.inl ⟨by rfl, ?_⟩) trivial ?_
              rotate_left
              · intro w _; first | (go_simp; done) | (go_simp; with_reducible rfl)
              refine wpAnyD_take (i := 5) (v := ?_) rfl (by kernel_rfl) (by kernel_rfl) (by kernel_rfl) (by kernel_rfl) (fun _ _ _ h => h) (Or.inl ⟨by rfl, ?_⟩) trivial ?_
              rotate_left
              · intro w _; first | (go_simp; done) | (go_simp; with_reducible rfl)
              refine wpAnyD_take (i := 6) (v := ?_) rfl (by kernel_rfl) (by kernel_rfl) (by kernel_rfl) (by kernel_rfl) (fun _ _ _ h => h) (Or.inl ⟨by rfl, ?_⟩) trivial ?_
              rotate_left
              · intro w _; first | (go_simp; done) | (go_simp; with_reducible rfl)
              refine wpAnyD_one (i := 7) (by kernel_rfl) rfl (fun KK hKK => ?_)
              go_simp
              go_at_call 122
              refine (itoa_any _ m2 rfl (by omega) _ hpd).mono ?_; rintro e w5 ⟨sx, rfl, hsx, hb5⟩
              have hsx1 : sx.size = 1 := by rw [Lib.size_eq, hsx, dec_small (by omega)]; rfl
              have hsx2 : ¬ 9223372036854775807 < 2 + sx.size := by omega
              have hown5 := SOwn.next hownd hb5
              have hbel5 := below_chain hbeld hb5
              refine hKK _ _ ⟨fun _ => trivial, ?_⟩; clear hKK KK
              refine wpAnyD_take (i := 8) (v := ?_) rfl (by kernel_rfl) (by kernel_rfl) (by kernel_rfl) (by kernel_rfl) (fun _ _ _ h => h) (Or.inl ⟨by rfl, ?_⟩) trivial ?_
              rotate_left
              · intro w _; first | (go_simp; done) | (go_simp; with_reducible rfl)
              refine wpAnyD_one (i := 9) (by kernel_rfl) rfl (fun KK hKK => ?_)
              go_simp
              refine hKK _ _ ⟨fun _ => trivial, ?_⟩; clear hKK KK
              refine wpAnyD_one (i := 10) (by kernel_rfl) rfl (fun KK hKK => ?_)
              rw [if_pos (by rfl)]
              refine op_appS (.tmp 34) (.tmp 43) rfl W0.heap.size _ P rfl (SOwn.next hown5 (below_alloc _)) w5.heap.size 1 _ rfl (hcs _ _) (by omega) ((hbel5.alloc hbel5.size _).size) ?_
              intro v2 w6 hown6 hb6
              have hbel6 := (hbel5.alloc hbel5.size _).trans hb6
              refine hKK _ _ ⟨fun _ => trivial, ?_⟩; clear hKK KK
              refine wpAnyD_one (i := 11) (by kernel_rfl) rfl (fun KK hKK => ?_)
              go_simp
              refine hKK _ _ ⟨fun _ => trivial, ?_⟩; clear hKK KK
              refine wpAnyD_done (by kernel_rfl) ?_ _
              go_simp
              go_wp2_with fail
              go_roundw
              case rel => exact ⟨2, _, by omega, by go_num, hown6, hid (hM2.out _ hsx), hbel6⟩
              case measure => simp [intOf]
        · have hM : Hid (MTx (m1, m2, m3) q P 2) := hM
          have hPl := hM.out.2
          by_cases h0 : m3 = 0
          · have hM2 := hid (mtx2_no hM.out h0)
            have c1 : decide ((1 : Int) < (m3 : Int)) = false := by rw [decide_eq_false_iff_not]; omega
            have c2 : ((m3 : Int) == 1) = false := by rw [beq_eq_false_iff_ne]; omega
            clear hPl h0
            go_wp2_with fail
            go_roundw
            case rel => exact ⟨3, P, by omega, by go_num, hown, hM2, hbel⟩
            case measure => simp [intOf]
          · by_cases h1 : m3 = 1
            · have hM2 := hid (mtx2_yes hM.out h0 (plain1 (abc_at 2 99 rfl) h1))
              have c1 : decide ((1 : Int) < (m3 : Int)) = false := by rw [decide_eq_false_iff_not]; omega
              have c2 : ((m3 : Int) == 1) = true := by rw [beq_iff_eq]; omega
              clear h0 h1
              go_wp2_with (at_builtin; go_loud (refine wp_appS rfl (.tmp 48) (.tmp 53) rfl W0.heap.size _ P rfl (SOwn.next hown (below_alloc _)) wr.heap.size 1 ((⟨#[97, 98, 99]⟩ : ByteArray).extract 2 3) rfl (hcs _ _) (by omega) ((hbel.alloc hsz _).size) ?_))
              intro v2 w3 hown3 hb3
              have hbel3 := (hbel.alloc hsz _).trans hb3
              go_wp2_with fail
              go_roundw
              case rel => exact ⟨3, _, by omega, by go_num, hown3, hM2, hbel3⟩
              case measure => simp [intOf]
            · have c1 : decide ((1 : Int) < (m3 : Int)) = true := by rw [decide_eq_true_iff]; omega
              have hw1 : IntKind.i64.wrap 3 = 3 := by decide
              have hpW := hpa.next hbel
              have hsz5 : m3 ≤ 5 := by omega
              have h2 : 2 ≤ m3 := by omega
              have hM2 := hid (fun sx hs => mtx2_yes hM.out h0 (raised (s := sx) (abc_at 2 99 rfl) hs h2 (by omega)))
              have hdd := (Below.refl wr.heap.size wr).drew
              have hpd := hpW.next hdd
              have hownd := SOwn.next hown hdd
              have hbeld := below_chain hbel hdd
              clear h0 h1
              go_wp2_with fail
              refine wp_region_D (fun _ => True) [] (by kernel_rfl) ?_
              refine wpAnyD_take (i := 0) (v := ?_) rfl (by kernel_rfl) (by kernel_rfl) (by kernel_rfl) (by kernel_rfl) (fun _ _ _ h => h) (Or.inl ⟨by rfl, ?_⟩) trivial ?_
              rotate_left
              · intro w _; first | (go_simp; done) | (go_simp; with_reducible rfl)
              refine wpAnyD_take (i := 1) (v := ?_) rfl (by kernel_rfl) (by kernel_rfl) (by kernel_rfl) (by kernel_rfl) (fun _ _ _ h => h) (Or.inl ⟨by rfl, ?_⟩) trivial ?_
              rotate_left
              · intro w _; first | (go_simp; done) | (go_simp; with_reducible rfl)
              refine wpAnyD_take (i := 2) (v := ?_) rfl (by kernel_rfl) (by kernel_rfl) (by kernel_rfl) (by kernel_rfl) (fun _ _ _ h => h) (Or.inl ⟨by rfl, ?_⟩) trivial ?_
              rotate_left
              · intro w _; first | (go_simp; done) | (go_simp; with_reducible rfl)
              refine wpAnyD_take (i := 3) (v := ?_) rfl (by kernel_rfl) (by kernel_rfl) (by kernel_rfl) (by kernel_rfl) (fun _ _ _ h => h) (Or.inl ⟨by rfl, ?_⟩) trivial ?_
              rotate_left
              · intro w _; first | (go_simp; done) | (go_simp; with_reducible rfl)
              refine wpAnyD_take (i := 4) (v := ?_) rfl (by kernel_rfl) (by kernel_rfl) (by kernel_rfl) (by kernel_rfl) (fun _ _ _ h => h) (Or.inl ⟨by rfl, ?_⟩) trivial ?_
              rotate_left
              · intro w _; first | (go_simp; done) | (go_simp; with_reducible rfl)
              refine wpAnyD_take (i := 5) (v := ?_) rfl (by kernel_rfl) (by kernel_rfl) (by kernel_rfl) (by kernel_rfl) (fun _ _ _ h => h) (Or.inl ⟨by rfl, ?_⟩) trivial ?_
              rotate_left
              · intro w _; first | (go_simp; done) | (go_simp; with_reducible rfl)
              refine wpAnyD_take (i := 6) (v := ?_) rfl (by kernel_rfl) (by kernel_rfl) (by kernel_rfl) (by kernel_rfl) (fun _ _ _ h => h) (Or.inl ⟨by rfl, ?_⟩) trivial ?_
              rotate_left
              · intro w _; first | (go_simp; done) | (go_simp; with_reducible rfl)
              refine wpAnyD_one (i := 7) (by kernel_rfl) rfl (fun KK hKK => ?_)
              go_simp
              go_at_call 122
              refine (itoa_any _ m3 rfl (by omega) _ hpd).mono ?_; rintro e w5 ⟨sx, rfl, hsx, hb5⟩
              have hsx1 : sx.size = 1 := by rw [Lib.size_eq, hsx, dec_small (by omega)]; rfl
              have hsx2 : ¬ 9223372036854775807 < 2 + sx.size := by omega
              have hown5 := SOwn.next hownd hb5
              have hbel5 := below_chain hbeld hb5
              refine hKK _ _ ⟨fun _ => trivial, ?_⟩; clear hKK KK
              refine wpAnyD_take (i := 8) (v := ?_) rfl (by kernel_rfl) (by kernel_rfl) (by kernel_rfl) (by kernel_rfl) (fun _ _ _ h => h) (Or.inl ⟨by rfl, ?_⟩) trivial ?_
              rotate_left
              · intro w _; first | (go_simp; done) | (go_simp; with_reducible rfl)
              refine wpAnyD_one (i := 9) (by kernel_rfl) rfl (fun KK hKK => ?_)
              go_simp
              refine hKK _ _ ⟨fun _ => trivial, ?_⟩; clear hKK KK
              refine wpAnyD_one (i := 10) (by kernel_rfl) rfl (fun KK hKK => ?_)
              rw [if_pos (by rfl)]
              refine op_appS (.tmp 34) (.tmp 43) rfl W0.heap.size _ P rfl (SOwn.next hown5 (below_alloc _)) w5.heap.size 1 _ rfl (hcs _ _) (by omega) ((hbel5.alloc hbel5.size _).size) ?_
              intro v2 w6 hown6 hb6
              have hbel6 := (hbel5.alloc hbel5.size _).trans hb6
              refine hKK _ _ ⟨fun _ => trivial, ?_⟩; clear hKK KK
              refine wpAnyD_one (i := 11) (by kernel_rfl) rfl (fun KK hKK => ?_)
              go_simp
              refine hKK _ _ ⟨fun _ => trivial, ?_⟩; clear hKK KK
              refine wpAnyD_done (by kernel_rfl) ?_ _
              go_simp
              go_wp2_with fail
              go_roundw
              case rel => exact ⟨3, _, by omega, by go_num, hown6, hid (hM2.out _ hsx), hbel6⟩
              case measure => simp [intOf]
        · have hM : Hid (MTx (m1, m2, m3) q P 3) := hM
          have hPl := hM.out.2
          have hjl : Hid ((Lib.join (P.map (·.data.toList)) [42]).length ≤ 140737488355328 ∧ Lib.join (P.map (·.data.toList)) [42] = monT (m1, m2, m3) q) := hid (by
            have h1 : Lib.join (P.map (·.data.toList)) [42] = monT (m1, m2, m3) q := by rw [hM.out.1, parTo_end]; rfl
            refine ⟨?_, h1⟩
            rw [h1]
            have := monT_len (m1, m2, m3) q
            have := hlenq.out
            omega)
          have hb0 := below_chain hba hbel
          have hj := hid (sjoin_any wr _ _ P ⟨#[42]⟩ hown (by omega) hjl.out.1)
          clear hown hPl
          go_wp2_with fail
          refine hj.out.mono ?_; rintro e w5 ⟨sx, rfl, hsx, hb5⟩
          go_wp2_with fail
          go_ret
          exact ⟨sx, rfl, hsx.trans hjl.out.2, below_chain hb0 hb5⟩
end Go.Proofs.YtgohfieleckmgaaGreatDoor

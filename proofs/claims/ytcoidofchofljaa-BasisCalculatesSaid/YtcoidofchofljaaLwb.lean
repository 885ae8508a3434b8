/-
  The contracts of the statements' pick and awake. No condition but sizes.
-/
import Derived.Test.YtcoidofchofljaaLwa
import Derived.Test.YtcoidofchofljaaBau
import Derived.Test.YtcoidofchofljaaWrdB
namespace Go.Proofs.Ytcoidofchofljaa
open Go.RowKit
set_option linter.unusedSimpArgs false
set_option linter.unusedVariables false

/-- The i-th chosen number. -/
def selN (s : List Nat) (i : Nat) : Nat := s.getD i 0

set_option maxHeartbeats 2000000 in
theorem pick_any (ao : Option Addr) (m cap : Nat) (L : Nat → Nat) (F : Nat → V) (s : List Nat) (hs : ∀ x ∈ s, x < m) (hm : m ≤ 1000) (bo : Option Addr) (n cap' : Nat) (w : World) (h : Mat RatC w ao m cap L F) (h' : Sl w bo n cap' (natI s)) (hn : n ≤ 1000) :
    Calls Try.prog 10 #[.slice ao m cap, .slice bo n cap'] w (MatOut w n (fun i => L (selN s i)) (fun i => F (selN s i))) := by
  have Hs := hid hs
  have hlen : s.length = n := by have := h'.len; simpa [natI] using this
  have Hlen := hid hlen
  clear hs hlen
  go_enter Try.func10, Try.ntmps10
  go_wp2_with fail
  go_loopw [6, 5] (fun iv ov wr => ∃ i : Nat, i ≤ n ∧ iv = .int .i64 i ∧ MOwn wr w.heap.size ov i (fun i => L (selN s i)) (fun i => F (selN s i)) ∧ Below w.heap.size w wr) (fun i _ _ => n - (intOf i).toNat)
  case atStart => exact ⟨0, by omega, rfl, MOwn.nil _ _ _ _, Below.refl _ _⟩
  case round =>
    obtain ⟨i, hi, rfl, hown, hbel⟩ := hrel
    by_cases hlt : i < n
    · obtain ⟨x, hx, b, o, rfl, hc⟩ := (h'.next hbel).get (f := fun (i : Nat) => Value.int .i64 (i : Int)) hlt
      have hxm := Hs.out x (List.mem_of_getElem? hx)
      have hgx : Hid (selN s i = x) := hid (by unfold selN; rw [List.getD_eq_getElem?_getD, hx]; rfl)
      clear hx
      obtain ⟨bb, oo, rfl, ro, rc, hcell, hv⟩ := (h.nextC hbel).get hxm
      obtain ⟨lx, hlx⟩ : ∃ lx, L x = lx := ⟨_, rfl⟩
      rw [hlx] at hcell hv
      have Hlx := hid hlx
      clear hlx
      have c1 : decide (0 ≤ x) = true := decide_eq_true (by omega)
      have c2 : decide ((0 : Int) ≤ (x : Int)) = true := decide_eq_true (by omega)
      have c3 : decide (x < m) = true := decide_eq_true hxm
      have c4 : decide ((x : Int) < (m : Int)) = true := decide_eq_true (by omega)
      rename World => W0
      have hownB := hown.next (below_alloc (w := W0) (.cells #[.slice ro lx rc] 30))
      have hvecB := hv.nextC (below_alloc (w := W0) (.cells #[.slice ro lx rc] 30))
      have hcl : (W0.alloc (.cells #[.slice ro lx rc] 30)).cell? ⟨W0.heap.size, 0, none⟩ = some (.slice ro lx rc) := by simp [go_sem]
      have hz : w.heap.size ≤ (W0.alloc (.cells #[.slice ro lx rc] 30)).heap.size := by have := hbel.size; simp only [World.size_alloc]; omega
      clear hown hv
      go_wp2_with (at_builtin; go_loud (refine wp_appM rfl (.tmp 27) (.tmp 35) rfl w.heap.size _ i (fun i => L (selN s i)) (fun i => F (selN s i)) rfl hownB W0.heap.size 1 rfl ro lx rc hcl (F x) hvecB (by omega) hz ?_))
      intro v' w4 hown4 hg4 hb4 _
      have hbel4 : Below w.heap.size w w4 := (hbel.alloc hbel.size _).trans hb4
      have hown5 : MOwn w4 w.heap.size v' (i + 1) (fun i => L (selN s i)) (fun i => F (selN s i)) := hown4.congr (fun a ha => by
        unfold updN; by_cases hai : a = i
        · rw [if_pos hai, hai, hgx.out]; exact Hlx.out.symm
        · rw [if_neg hai]) (fun a ha j hj => by
        unfold updF; by_cases hai : a = i
        · rw [if_pos hai, hai, hgx.out]
        · rw [if_neg hai])
      clear hown4
      go_wp2_with fail
      go_roundw
      case rel => exact ⟨i + 1, by omega, by go_num, hown5, hbel4⟩
      case measure => simp [intOf]; omega
    · obtain rfl : i = n := by omega
      go_wp2_with fail
      go_ret
      exact ⟨_, rfl, hown, hbel⟩

/-! ### The example -/

def exF : Nat → V := fun i => [intsV [0, 0], intsV [1, 2], intsV [2, 4], intsV [0, 1]].getD i zeroV
def exG : Nat → V := fun i => [intsV [1, 2], intsV [0, 1]].getD i zeroV
theorem ex_sel : (selK 2 exF 4).2 = [1, 3] := by decide +kernel
theorem ex_co : (rowsK 2 exG 2).map (fun st => (leadOf 2 (red st (intsV [2, 5])).1, (red st (intsV [2, 5])).2 0, (red st (intsV [2, 5])).2 1)) = some (none, intsV [2, 1] 0, intsV [2, 1] 1) := by decide +kernel

theorem ex_co2 {st : List Row} (h : rowsK 2 exG 2 = some st) : leadOf 2 (red st (intsV [2, 5])).1 = none ∧ ∀ i, i < 2 → (red st (intsV [2, 5])).2 i = intsV [2, 1] i := by
  have h1 := ex_co
  rw [h] at h1
  simp only [Option.map_some, Option.some.injEq, Prod.mk.injEq] at h1
  exact ⟨h1.1, fun i hi => match i, hi with
    | 0, _ => h1.2.1
    | 1, _ => h1.2.2⟩
theorem ex_co3 : rowsK 2 exG 2 ≠ none := by
  intro h
  have h1 := ex_co
  rw [h] at h1
  cases h1

theorem fit_makeRat {a d : Int} {k l : Nat} (ha : lim a.natAbs ≤ k) (hd : lim d.natAbs ≤ l) (hk : 1 ≤ k) (hl : 1 ≤ l) : Fit (k + l) (makeRat a d) := by
  unfold makeRat
  split
  · exact fit_zero (by omega)
  · exact fit_div (fit_int ha hk) (fit_int hd hl)
theorem fit_small {a d : Int} (ha : -4294967295 ≤ a ∧ a ≤ 4294967295) (hd : -4294967295 ≤ d ∧ d ≤ 4294967295) : Fit 2 (makeRat a d) :=
  fit_makeRat (k := 1) (l := 1) (lim_small (by omega)) (lim_small (by omega)) (by omega) (by omega)
theorem fit_ints {l : List Int} (h : ∀ x ∈ l, -100 ≤ x ∧ x ≤ 100) : ∀ i, Fit 2 (intsV l i) := by
  intro i
  unfold intsV
  refine fit_small ?_ (by decide)
  rw [List.getD_eq_getElem?_getD]
  cases hx : l[i]? with
  | none => simp
  | some x =>
    have := h x (List.mem_of_getElem? hx)
    simp; omega

/-- A list of vectors written out. -/
theorem mat_lit {R : World → Value → Rat → Prop} (hnext : ∀ {w w' : World} {ao : Option Addr} {n cap : Nat} {F : V}, Vec R w ao n cap F → Below w.heap.size w w' → Vec R w' ao n cap F) {w : World} (T : TypeId) (xs : List Value) (L : Nat → Nat) (F : Nat → V) (hm : xs.length ≤ maxLen) (h : ∀ i, i < xs.length → ∃ ro rc, xs[i]? = some (.slice ro (L i) rc) ∧ Vec R w ro (L i) rc (F i)) :
    Mat R (w.alloc (.cells xs.toArray T)) (some ⟨w.heap.size, 0, none⟩) xs.length xs.length L F := by
  refine ⟨Nat.le_refl _, hm, (fun h => by cases h), fun i hi => ?_⟩
  obtain ⟨ro, rc, hx, hv⟩ := h i hi
  refine ⟨w.heap.size, 0, rfl, ro, rc, ?_, hnext hv (below_alloc _)⟩
  rw [World.cell?_alloc_at _ _ _ _ rfl]
  simpa using hx

set_option maxHeartbeats 4000000 in
theorem awake_any (w : World) : Calls Try.prog 14 #[] w fun e w' => e = .returned (.bool true) ∧ Below w.heap.size w w' := by
  go_enter Try.func14, Try.ntmps14
  have hl1 : Below w.heap.size w (w.alloc (.cells #[.int .i64 0, .int .i64 0] 3)) := below_alloc _
  have sl1 : Sl (w.alloc (.cells #[.int .i64 0, .int .i64 0] 3)) (some ⟨w.heap.size, 0, none⟩) 2 2 (([0, 0] : List Int).map (.int .i64)) := Sl.lit w [.int .i64 0, .int .i64 0] 3 (by simp [maxLen])
  go_wp2_with fail
  refine (vector_any [0, 0] (by simp) _ 2 2 _ sl1 (by omega)).mono ?_; rintro e x1 ⟨v1, rfl, o1, hb1⟩
  obtain ⟨a1, c1, rfl, q1⟩ := o1.vec
  have hc1 := below_chain hl1 hb1
  have hl2 : Below x1.heap.size x1 (x1.alloc (.cells #[.int .i64 1, .int .i64 2] 3)) := below_alloc _
  have sl2 : Sl (x1.alloc (.cells #[.int .i64 1, .int .i64 2] 3)) (some ⟨x1.heap.size, 0, none⟩) 2 2 (([1, 2] : List Int).map (.int .i64)) := Sl.lit x1 [.int .i64 1, .int .i64 2] 3 (by simp [maxLen])
  go_wp2_with fail
  refine (vector_any [1, 2] (by simp) _ 2 2 _ sl2 (by omega)).mono ?_; rintro e x2 ⟨v2, rfl, o2, hb2⟩
  obtain ⟨a2, c2, rfl, q2⟩ := o2.vec
  have hc2 := below_chain hl2 hb2
  have hl3 : Below x2.heap.size x2 (x2.alloc (.cells #[.int .i64 2, .int .i64 4] 3)) := below_alloc _
  have sl3 : Sl (x2.alloc (.cells #[.int .i64 2, .int .i64 4] 3)) (some ⟨x2.heap.size, 0, none⟩) 2 2 (([2, 4] : List Int).map (.int .i64)) := Sl.lit x2 [.int .i64 2, .int .i64 4] 3 (by simp [maxLen])
  go_wp2_with fail
  refine (vector_any [2, 4] (by simp) _ 2 2 _ sl3 (by omega)).mono ?_; rintro e x3 ⟨v3, rfl, o3, hb3⟩
  obtain ⟨a3, c3, rfl, q3⟩ := o3.vec
  have hc3 := below_chain hl3 hb3
  have hl4 : Below x3.heap.size x3 (x3.alloc (.cells #[.int .i64 0, .int .i64 1] 3)) := below_alloc _
  have sl4 : Sl (x3.alloc (.cells #[.int .i64 0, .int .i64 1] 3)) (some ⟨x3.heap.size, 0, none⟩) 2 2 (([0, 1] : List Int).map (.int .i64)) := Sl.lit x3 [.int .i64 0, .int .i64 1] 3 (by simp [maxLen])
  go_wp2_with fail
  refine (vector_any [0, 1] (by simp) _ 2 2 _ sl4 (by omega)).mono ?_; rintro e x4 ⟨v4, rfl, o4, hb4⟩
  obtain ⟨a4, c4, rfl, q4⟩ := o4.vec
  have hc4 := below_chain hl4 hb4
  have q1' := ((q1.nextC hc2).nextC hc3).nextC hc4
  have q2' := (q2.nextC hc3).nextC hc4
  have q3' := q3.nextC hc4
  have hM := mat_lit (R := RatC) Vec.nextC 30 [.slice a1 2 c1, .slice a2 2 c2, .slice a3 2 c3, .slice a4 2 c4] (fun _ => 2) exF (by simp [maxLen]) (fun i hi => match i, hi with
    | 0, _ => ⟨a1, c1, rfl, q1'⟩
    | 1, _ => ⟨a2, c2, rfl, q2'⟩
    | 2, _ => ⟨a3, c3, rfl, q3'⟩
    | 3, _ => ⟨a4, c4, rfl, q4⟩)
  have hfit : ∀ i, i < 4 → ∀ j, j < 2 → Fit 2 (exF i j) := fun i hi j hj => match i, hi with
    | 0, _ => fit_ints (l := [0, 0]) (by simp) j
    | 1, _ => fit_ints (l := [1, 2]) (by simp) j
    | 2, _ => fit_ints (l := [2, 4]) (by simp) j
    | 3, _ => fit_ints (l := [0, 1]) (by simp) j
  have hsel := hid (Select_any 2 _ 4 4 (fun _ => 2) exF _ (hM.toV hfit (by decide)) (by decide) (fun _ _ => by decide) (by decide) hfit (by decide))
  have hbA : Below w.heap.size w (x4.alloc (.cells #[.slice a1 2 c1, .slice a2 2 c2, .slice a3 2 c3, .slice a4 2 c4] 30)) := below_chain (below_chain (below_chain (below_chain hc1 hc2) hc3) hc4) (below_alloc _)
  have hok4 : Hid (OkL 4 (fun _ => 2)) := hid (fun i hi => ⟨⟨by show 1 ≤ 2; decide, by show 2 ≤ 64; decide⟩, rfl⟩)
  clear hM hfit q1' q2' q3' q1 q2 q3 q4 o1 o2 o3 o4
  go_wp2_with fail
  refine hsel.out.mono ?_; rintro e x5 (⟨hno, _, _⟩ | ⟨vs, _, rfl, hs5, hb5⟩)
  case inl => exact absurd hok4.out hno
  rw [ex_sel] at hs5
  obtain ⟨so, scp, rfl, sS⟩ := ownsSl hs5.1
  have hbB := below_chain hbA hb5
  clear hs5 hsel
  have hl6 : Below x5.heap.size x5 (x5.alloc (.cells #[.int .i64 1, .int .i64 2] 3)) := below_alloc _
  have sl6 : Sl (x5.alloc (.cells #[.int .i64 1, .int .i64 2] 3)) (some ⟨x5.heap.size, 0, none⟩) 2 2 (([1, 2] : List Int).map (.int .i64)) := Sl.lit x5 [.int .i64 1, .int .i64 2] 3 (by simp [maxLen])
  go_wp2_with fail
  refine (vector_any [1, 2] (by simp) _ 2 2 _ sl6 (by omega)).mono ?_; rintro e x6 ⟨v6, rfl, o6, hb6⟩
  obtain ⟨a6, c6, rfl, q6⟩ := o6.vec
  have hc6 := below_chain hl6 hb6
  have hl7 : Below x6.heap.size x6 (x6.alloc (.cells #[.int .i64 0, .int .i64 1] 3)) := below_alloc _
  have sl7 : Sl (x6.alloc (.cells #[.int .i64 0, .int .i64 1] 3)) (some ⟨x6.heap.size, 0, none⟩) 2 2 (([0, 1] : List Int).map (.int .i64)) := Sl.lit x6 [.int .i64 0, .int .i64 1] 3 (by simp [maxLen])
  go_wp2_with fail
  refine (vector_any [0, 1] (by simp) _ 2 2 _ sl7 (by omega)).mono ?_; rintro e x7 ⟨v7, rfl, o7, hb7⟩
  obtain ⟨a7, c7, rfl, q7⟩ := o7.vec
  have hc7 := below_chain hl7 hb7
  have p6' := q6.nextC hc7
  obtain ⟨X8, hX8⟩ : ∃ X8, x7.alloc (.cells #[.slice a6 2 c6, .slice a7 2 c7] 30) = X8 := ⟨_, rfl⟩
  have hM := mat_lit (R := RatC) Vec.nextC 30 [.slice a6 2 c6, .slice a7 2 c7] (fun _ => 2) exG (by simp [maxLen]) (fun i hi => match i, hi with
    | 0, _ => ⟨a6, c6, rfl, p6'⟩
    | 1, _ => ⟨a7, c7, rfl, q7⟩)
  have hfit : ∀ i, i < 2 → ∀ j, j < 2 → Fit 2 (exG i j) := fun i hi j hj => match i, hi with
    | 0, _ => fit_ints (l := [1, 2]) (by simp) j
    | 1, _ => fit_ints (l := [0, 1]) (by simp) j
  have hM2 : Mat RatV X8 (some ⟨x7.heap.size, 0, none⟩) 2 2 (fun _ => 2) exG := by rw [← hX8]; exact hM.toV hfit (by decide)
  have hbx8 : Below x7.heap.size x7 X8 := by rw [← hX8]; exact below_alloc _
  have hs8 : X8.heap.size = x7.heap.size + 1 := by rw [← hX8]; simp
  clear hM
  have sl9 : Sl (X8.alloc (.cells #[.int .i64 2, .int .i64 5] 3)) (some ⟨X8.heap.size, 0, none⟩) 2 2 (([2, 5] : List Int).map (.int .i64)) := Sl.lit X8 [.int .i64 2, .int .i64 5] 3 (by simp [maxLen])
  rw [hs8] at sl9
  subst hX8
  clear hs8
  go_wp2_with fail
  refine (vector_any [2, 5] (by simp) _ 2 2 _ sl9 (by omega)).mono ?_; rintro e x9 ⟨v9, rfl, o9, hb9⟩
  obtain ⟨a9, c9, rfl, q9⟩ := o9.vec
  have hc9 := below_chain (below_alloc _) hb9
  have hM3 := hM2.nextV hc9
  have hfG : ∀ j, j < 2 → Fit 2 (intsV [2, 5] j) := fun j _ => fit_ints (l := [2, 5]) (by simp) j
  have hco := hid (Coordinates_any 2 _ 2 2 (fun _ => 2) exG _ 2 _ (intsV [2, 5]) x9 hM3 (q9.toV (fun j hj => hfG j hj) (by decide)) (by decide) (fun _ _ => by decide) (by decide) (by decide) (by decide) hfit hfG (by decide))
  have hbC := below_chain (below_chain (below_chain (below_chain hbB hc6) hc7) hbx8) hc9
  have sS2 : Sl x5 so 2 scp (i64s [1, 3]) := sS
  have sS3 := (((sS2.next hc6).next hc7).next hbx8).next hc9
  have hfb : fitsB 2 (fun _ => 2) 2 = true := by decide
  have Hfb := hid hfb
  clear hM2 hM3 hfit hfG q9 o9 q6 q7 p6' o6 o7 sS sS2 hfb
  go_wp2_with fail
  refine hco.out.mono ?_; rintro e x10 (⟨hno, _, _⟩ | ⟨st, _, hno, _⟩ | ⟨st, p, ⟨_, hst⟩, _, hld, _, _⟩ | ⟨st, v, ⟨_, hst⟩, _, _, rfl, hown, hb10⟩)
  case inl => exact absurd (hno fun i hi => ⟨⟨by show 1 ≤ 2; decide, by show 2 ≤ 64; decide⟩, rfl⟩) ex_co3
  case inr.inl => rw [Hfb.out] at hno; cases hno
  case inr.inr.inl => rw [(ex_co2 hst).1] at hld; cases hld
  obtain ⟨a10, c10, rfl, q10⟩ := (hown.congr (ex_co2 hst).2).vec
  have hbD := below_chain hbC hb10
  have sS4 := (sS3.next hb10).next (below_alloc (.cells #[.int .i64 1, .int .i64 3] 3))
  have hba10 : Below x10.heap.size x10 (x10.alloc (.cells #[.int .i64 1, .int .i64 3] 3)) := below_alloc _
  have sL10 : Sl (x10.alloc (.cells #[.int .i64 1, .int .i64 3] 3)) (some ⟨x10.heap.size, 0, none⟩) 2 2 (i64s [1, 3]) := Sl.lit x10 [.int .i64 1, .int .i64 3] 3 (by simp [maxLen])
  have q11 := q10.nextC hba10
  have hbE := below_chain hbD hba10
  clear hst hown hco sS3 q10
  go_wp2_with fail
  refine (rwSame_any [1, 3] [1, 3] _ _ _ _ _ _ _ sS4 sL10).mono ?_; rw [show decide (([1, 3] : List Int) = [1, 3]) = true from rfl]; rintro e x11 ⟨rfl, q, rfl⟩
  have hq := below_drewNs (B := (x10.alloc (.cells #[.int .i64 1, .int .i64 3] 3)).heap.size) (w := x10.alloc (.cells #[.int .i64 1, .int .i64 3] 3)) q
  have q12 := q11.nextC hq
  have hbF := below_chain hbE hq
  obtain ⟨X12, hX12⟩ : ∃ X12, (x10.alloc (.cells #[.int .i64 1, .int .i64 3] 3)).drewN q = X12 := ⟨_, rfl⟩
  rw [hX12] at q12 hbF
  simp only [hX12]
  have sl13 : Sl (X12.alloc (.cells #[.int .i64 2, .int .i64 1] 3)) (some ⟨X12.heap.size, 0, none⟩) 2 2 (([2, 1] : List Int).map (.int .i64)) := Sl.lit X12 [.int .i64 2, .int .i64 1] 3 (by simp [maxLen])
  clear hX12
  go_wp2_with fail
  refine (vector_any [2, 1] (by simp) _ 2 2 _ sl13 (by omega)).mono ?_; rintro e x13 ⟨v13, rfl, o13, hb13⟩
  obtain ⟨a13, c13, rfl, q13⟩ := o13.vec
  have hc13 : Below X12.heap.size X12 x13 := below_chain (below_alloc _) hb13
  have q14 := q12.nextC hc13
  have hbG := below_chain hbF hc13
  clear o13
  go_wp2_with fail
  refine (sameV_any 2 (intsV [2, 1]) (intsV [2, 1]) (fun _ _ => rfl) _ _ _ _ _ q14 q13).mono ?_; rintro e x15 ⟨rfl, hb15⟩
  have hbH := below_chain hbG hb15
  go_wp2_with fail
  go_ret
  exact ⟨rfl, hbH⟩

end Go.Proofs.Ytcoidofchofljaa

/-
  Joined out of XPwp, XPwr, XPpy, XPps.
-/
import Derived.Test.YtgohfieleckmgaaGreatDoorShq
import Derived.Test.YtgohfieleckmgaaGreatDoorPplS
import Derived.Test.YtgohfieleckmgaaGreatDoorTxtR
import Derived.Test.YtgohfieleckmgaaGreatDoorTxtS
import Derived.Test.YtgohfieleckmgaaGreatDoorPut
import Derived.Test.YtgohfieleckmgaaGreatDoorPrwS
import Derived.Test.YtgohfieleckmgaaGreatDoorPoh
import Derived.Test.YtgohfieleckmgaaGreatDoorPfm
import Derived.Test.YtgohfieleckmgaaGreatDoorPfn
import Derived.Test.YtgohfieleckmgaaGreatDoorPof

/-
  Package polynomial's power, as it runs. Condition: three of the library's variables hold what they hold at the start.
-/
namespace Go.Proofs.YtgohfieleckmgaaGreatDoor
open Go.RowKit Go.Lib
set_option linter.unusedSimpArgs false
set_option linter.unusedVariables false

/-- What the library's variables hold. -/
def TxC (w : World) : Prop := (∃ m, w.cell? ⟨0, 0, none⟩ = some (.int .i64 m)) ∧ (∃ ev, w.cell? ⟨1, 0, none⟩ = some ev ∧ (ev = .nilIface ∨ ∃ te pe, ev = .iface te pe)) ∧ (∃ ev, w.cell? ⟨2, 0, none⟩ = some ev ∧ (ev = .nilIface ∨ ∃ te pe, ev = .iface te pe))
theorem TxC.next {w w' : World} (h : TxC w) (hb : Below w.heap.size w w') : TxC w' := by
  obtain ⟨⟨m, hm⟩, ⟨ev, h1, h1'⟩, ⟨ev', h2, h2'⟩⟩ := h
  exact ⟨⟨m, ((bcell hb).1 _ _ (World.block_lt_of_cell? w _ hm)).trans hm⟩, ⟨ev, ((bcell hb).1 _ _ (World.block_lt_of_cell? w _ h1)).trans h1, h1'⟩, ⟨ev', ((bcell hb).1 _ _ (World.block_lt_of_cell? w _ h2)).trans h2, h2'⟩⟩

theorem cut94 (s : ByteArray) (w : World) (hs : s.size ≤ 20000) (hx : TxC w) :
    Calls Tryz.prog 141 #[.string s, .string ⟨#[94]⟩] w fun e w' => ∃ a b : ByteArray, e = .returned (.tuple #[.string a, .string b, .bool (cut s.data.toList [94]).2.2]) ∧ a.data.toList = (cut s.data.toList [94]).1 ∧ b.data.toList = (cut s.data.toList [94]).2.1 ∧ a.size ≤ 20000 ∧ b.size ≤ 20000 ∧ Below w.heap.size w w' := by
  obtain ⟨m, hm⟩ := hx.1
  refine (Tryz.strings_Cut s ⟨#[94]⟩ m w (by omega) hm).mono ?_
  rintro e w' ⟨rfl, n, rfl⟩
  have hl : s.data.toList.length ≤ 20000 := by rw [← Lib.size_eq]; exact hs
  have h1 : (cut s.data.toList [94]).1.length ≤ 20000 := by unfold cut; split <;> simp <;> omega
  have h2 : (cut s.data.toList [94]).2.1.length ≤ 20000 := by unfold cut; split <;> simp <;> omega
  refine ⟨_, _, rfl, rfl, rfl, ?_, ?_, below_drewNs n⟩
  · rw [Lib.size_eq]; exact h1
  · rw [Lib.size_eq]; exact h2
theorem atoiX (s : ByteArray) (w : World) (hs : s.size ≤ 20000) (hx : TxC w) :
    Calls Tryz.prog 145 #[.string s] w fun e w' => ∃ (v : Int) (ev : Value), e = .returned (.tuple #[.int .i64 v, ev]) ∧ ((∃ u, atoiAll s.data.toList = .ok u ∧ v = u ∧ ev = .nilIface) ∨ ((∀ u, atoiAll s.data.toList ≠ .ok u) ∧ ∃ t x, ev = .iface t x)) ∧ Below w.heap.size w w' := by
  obtain ⟨-, ⟨ev, h1, h1'⟩, ⟨ev', h2, h2'⟩⟩ := hx
  cases ha : atoiAll s.data.toList with
  | ok u =>
    refine (Tryz.strconv_Atoi_ok s (by omega) u ha w).mono ?_
    rintro e w' ⟨rfl, hw⟩
    refine ⟨_, _, rfl, .inl ⟨u, rfl, rfl, rfl⟩, ?_⟩
    rcases hw with rfl | ⟨t, rfl⟩
    · exact Below.refl _ _
    · exact Go.Joins.below_bytesWorld _ _ _ _ (Nat.le_refl _)
  | «syntax» =>
    refine (Tryz.strconv_Atoi_syntax s (by omega) ha ev w h1 h1').mono ?_
    rintro e w' ⟨N, rfl, _, _, hb⟩
    exact ⟨_, _, rfl, .inr ⟨fun u h => (by cases h), _, _, rfl⟩, hb⟩
  | range =>
    refine (Tryz.strconv_Atoi_range s (by omega) ha ev' w h2 h2').mono ?_
    rintro e w' ⟨N, rfl, _, _, hb⟩
    exact ⟨_, _, rfl, .inr ⟨fun u h => (by cases h), _, _, rfl⟩, hb⟩
theorem index_abc (s : ByteArray) (w : World) (hx : TxC w) :
    Calls Tryz.prog 144 #[.string ⟨#[97, 98, 99]⟩, .string s] w fun e w' => e = .returned (.int .i64 (index [97, 98, 99] s.data.toList)) ∧ w' = w := by
  obtain ⟨m, hm⟩ := hx.1
  exact Tryz.strings_Index ⟨#[97, 98, 99]⟩ s m w (by decide) hm

/-- What power answers. -/
def PowO (l : List UInt8) (w : World) (e : Ending) (w' : World) : Prop := ∃ (i k : Int) (ok : Bool), e = .returned (.tuple #[.int .i64 i, .int .i64 k, .bool ok]) ∧ Below w.heap.size w w' ∧ ((∃ j n : Nat, powR l = some (j, n) ∧ i = j ∧ k = n ∧ ok = true) ∨ (powR l = none ∧ ok = false))

set_option maxHeartbeats 2000000 in
theorem power_any (s : ByteArray) (hs : s.size ≤ 20000) (w : World) (hx : TxC w) :
    Calls Tryz.prog 116 #[.string s] w (PowO s.data.toList w) := by
  have HCut := hid (cut94 s w hs hx)
  obtain ⟨l, hl⟩ : ∃ l, s.data.toList = l := ⟨_, rfl⟩
  rw [hl] at HCut ⊢
  clear hl
  obtain ⟨C, hC⟩ : ∃ C, cut l [94] = C := ⟨_, rfl⟩
  have hP : Hid (powR l = if C.1.length = 1 ∧ 0 ≤ index [97, 98, 99] C.1 then
    (if C.2.2 then match atoiAll C.2.1 with
      | .ok v => if 0 ≤ v ∧ v ≤ 5 then some ((index [97, 98, 99] C.1).toNat, v.toNat) else none
      | _ => none
    else some ((index [97, 98, 99] C.1).toNat, 1))
  else none) := hid (by rw [← hC]; rfl)
  rw [hC] at HCut
  clear hC
  go_enter Tryz.func116, Tryz.ntmps116
  go_wp2_with fail
  refine HCut.out.mono ?_; rintro e w1 ⟨a, b, rfl, ha, hb, hna, hnb, hw1⟩
  have hx1 := hx.next hw1
  have HI := hid (index_abc a w1 hx1)
  have HA := hid fun w' (hb' : Below w1.heap.size w1 w') => atoiX b w' hnb (hx1.next hb')
  rw [ha] at HI
  rw [hb] at HA
  have hlen := Lib.size_eq a
  rw [ha] at hlen
  obtain ⟨A, hA⟩ : ∃ A, C.1 = A := ⟨_, rfl⟩
  obtain ⟨B, hB⟩ : ∃ B, C.2.1 = B := ⟨_, rfl⟩
  obtain ⟨c, hc⟩ : ∃ c, C.2.2 = c := ⟨_, rfl⟩
  obtain ⟨I, hI⟩ : ∃ I, index [97, 98, 99] A = I := ⟨_, rfl⟩
  rw [hA, hB, hc, hI] at hP
  rw [hA] at hlen
  rw [hA, hI] at HI
  rw [hB] at HA
  rw [hc]
  clear ha hb hA hB hc C HCut
  by_cases h1 : A.length = 1
  · have hla : a.size = 1 := by omega
    by_cases h2 : 0 ≤ I
    · have hneg : decide (I < 0) = false := decide_eq_false (by omega)
      have hneg' : ¬ I < 0 := by omega
      cases c with
      | false =>
        have hp1 : Hid (powR l = some (I.toNat, 1)) := hid (by rw [hP.out, if_pos ⟨h1, h2⟩]; rfl)
        clear hP HA hlen h1
        go_wp2_with fail
        refine (HI.out).mono ?_; rintro e w2 ⟨rfl, rfl⟩
        go_wp2_with fail
        go_ret3
        exact ⟨_, _, _, rfl, hw1, .inl ⟨I.toNat, 1, hp1.out, by omega, rfl, rfl⟩⟩
      | true =>
        have hp1 : Hid (powR l = match atoiAll B with
          | .ok v => if 0 ≤ v ∧ v ≤ 5 then some (I.toNat, v.toNat) else none
          | _ => none) := hid (by rw [hP.out, if_pos ⟨h1, h2⟩]; rfl)
        clear hP hlen h1
        go_wp2_with fail
        refine (HI.out).mono ?_; rintro e w2 ⟨rfl, rfl⟩
        go_wp2_with fail
        refine (HA.out _ (Below.refl _ _)).mono ?_; rintro e w3 ⟨v, ev, rfl, hv, hw3⟩
        rcases hv with ⟨u, hu, rfl, rfl⟩ | ⟨hu, t, x, rfl⟩
        · have hp2 : Hid (powR l = if 0 ≤ v ∧ v ≤ 5 then some (I.toNat, v.toNat) else none) := hid (by rw [hp1.out, hu])
          clear hp1 hu HA HI
          by_cases h3 : 0 ≤ v
          · by_cases h4 : v ≤ 5
            · go_wp2_with fail
              go_ret3
              exact ⟨_, _, _, rfl, hw1.trans (hw3.mono hw1.size), .inl ⟨I.toNat, v.toNat, by rw [hp2.out, if_pos ⟨h3, h4⟩], by omega, by omega, by simp [h4]⟩⟩
            · go_wp2_with fail
              go_ret3
              exact ⟨_, _, _, rfl, hw1.trans (hw3.mono hw1.size), .inr ⟨by rw [hp2.out, if_neg fun h => absurd h.2 (by omega)], decide_eq_false (by omega)⟩⟩
          · go_wp2_with fail
            go_ret3
            exact ⟨_, _, _, rfl, hw1.trans (hw3.mono hw1.size), .inr ⟨by rw [hp2.out, if_neg fun h => absurd h.1 (by omega)], by first | rfl | exact decide_eq_false (by omega)⟩⟩
        · have hp2 : Hid (powR l = none) := hid (by rw [hp1.out]; cases h : atoiAll B with | ok u => exact absurd h (hu u) | «syntax» => rfl | range => rfl)
          clear hp1 hu HA HI
          go_wp2_with fail
          go_ret3
          exact ⟨_, _, _, rfl, hw1.trans (hw3.mono hw1.size), .inr ⟨hp2.out, rfl⟩⟩
    · have hneg : decide (I < 0) = true := decide_eq_true (by omega)
      have hp1 : Hid (powR l = none) := hid (by rw [hP.out, if_neg fun h => h2 h.2])
      clear hP HA hlen h1
      go_wp2_with fail
      refine (HI.out).mono ?_; rintro e w2 ⟨rfl, rfl⟩
      go_wp2_with fail
      go_ret3
      exact ⟨_, _, _, rfl, hw1, .inr ⟨hp1.out, rfl⟩⟩
  · have hla : ¬ a.size = 1 := by omega
    have hla' : ¬ (a.size : Int) = 1 := by omega
    have hp1 : Hid (powR l = none) := hid (by rw [hP.out, if_neg fun h => h1 h.1])
    clear hP HA hlen h1
    go_wp2_with fail
    refine (HI.out).mono ?_; rintro e w2 ⟨rfl, rfl⟩
    go_wp2_with fail
    go_ret3
    exact ⟨_, _, _, rfl, hw1, .inr ⟨hp1.out, rfl⟩⟩
end Go.Proofs.YtgohfieleckmgaaGreatDoor

/-
  Package polynomial's read, as it runs. Condition: three of the library's variables hold what they hold at the start.
-/
namespace Go.Proofs.YtgohfieleckmgaaGreatDoor
open Go.RowKit Go.Lib
set_option linter.unusedSimpArgs false
set_option linter.unusedVariables false

theorem splitC (s : ByteArray) (w : World) (hs : s.size ≤ 20000) (hx : TxC w) :
    Calls Tryz.prog 114 #[.string s, .string ⟨#[42]⟩] w fun e w' => ∃ (P : List ByteArray) (g n : Nat), e = .returned (.slice (some ⟨g, 0, none⟩) n n) ∧ Sl w' (some ⟨g, 0, none⟩) n n (P.map .string) ∧ P.map (·.data.toList) = spl 42 s.data.toList ∧ n ≤ 20001 ∧ w.heap.size ≤ g ∧ Below w.heap.size w w' := by
  obtain ⟨m, hm⟩ := hx.1
  obtain ⟨P, hP, hPl, hPf⟩ := split42 s
  have hcl := Lib.countB_le ⟨#[42]⟩ (by decide) s.size s (Nat.le_refl _)
  refine (Tryz.strings_Split s ⟨#[42]⟩ m w (by omega) hm (by decide)).mono ?_
  rw [hP]
  rintro e w2 ⟨rfl, rfl⟩
  rw [← hPl]
  refine ⟨P, _, _, rfl, ?_, hPf, by omega, Nat.le_refl _, below_alloc _⟩
  have := Sl.lit w (P.map Value.string) 9 (by simp [maxLen]; omega)
  simpa using this
theorem powR_lt {l : List UInt8} {i k : Nat} (h : powR l = some (i, k)) : i < 3 := by
  have key : ∀ a : List UInt8, a.length = 1 → index [97, 98, 99] a < 3 := fun a ha => by
    have h1 := index_le [97, 98, 99] a
    simp only [List.length_cons, List.length_nil] at h1
    rcases Int.lt_or_le (index [97, 98, 99] a) 3 with h2 | h2
    · exact h2
    · exfalso
      have h3 : index [97, 98, 99] a = 3 := by omega
      match a, ha with
      | [x], _ =>
        rw [index_one] at h3
        have := (indexByte_some (o := 3) h3).1
        simp at this
  unfold powR at h
  split at h
  · rename_i hc
    have hk := key _ hc.1
    split at h
    · split at h
      · split at h
        · simp only [Option.some.injEq, Prod.mk.injEq] at h
          omega
        · cases h
      · cases h
    · simp only [Option.some.injEq, Prod.mk.injEq] at h
      omega
  · cases h

/-- What read answers. -/
def RdO (l : List UInt8) (w : World) (e : Ending) (w' : World) : Prop := ∃ (E : Ex) (s : Bool) (xo : Option Addr) (xn xc : Nat) (yo : Option Addr) (yn yc : Nat) (q : Rat) (ok : Bool),
  e = .returned (.tuple #[.agg #[.int .i64 E.1, .int .i64 E.2.1, .int .i64 E.2.2, .bool s, .slice xo xn xc, .slice yo yn yc], .bool ok]) ∧ RatC w' (.agg #[.bool s, .slice xo xn xc, .slice yo yn yc]) q ∧ Below w.heap.size w w' ∧
  ((ok = true ∧ readR l = some (E, q)) ∨ (ok = false ∧ readR l = none))

theorem Sl.put1 {w : World} {G g n cap : Nat} {xs : List Value} (h : Sl w (some ⟨g, 0, none⟩) n cap xs) (hg : g ≠ G) (i : Nat) (x : Value) : Sl (w.setCell ⟨G, i, none⟩ x) (some ⟨g, 0, none⟩) n cap xs :=
  ⟨h.len, h.le, h.most, fun j y hy => by
    obtain ⟨b, off, e, hc⟩ := h.at_ j y hy
    injection e with e
    injection e with e1 e2
    subst e1 e2
    refine ⟨_, _, rfl, ?_⟩
    rw [World.cell?_of_block (w := w) (Below.heap_setCell _ _ _ _ hg)]
    exact hc⟩
def RdI (l : List UInt8) (n g G : Nat) (P : List ByteArray) (i : Nat) (w w' : World) : Prop := ∃ (E : Ex) (s : Bool) (xo : Option Addr) (xn xc : Nat) (yo : Option Addr) (yn yc : Nat) (q : Rat),
  B6 G (((E.1 : Int), (E.2.1 : Int), (E.2.2 : Int)), s, (xo, xn, xc), (yo, yn, yc)) w' ∧ RatC w' (.agg #[.bool s, .slice xo xn xc, .slice yo yn yc]) q ∧ Hid (stF (spl 42 l) i (E, q) = readR l) ∧ Sl w' (some ⟨g, 0, none⟩) n n (P.map .string) ∧ deg E ≤ 5 * i ∧ Below w.heap.size w w'

set_option maxRecDepth 10000 in
set_option maxHeartbeats 4000000 in
theorem pread_any (s : ByteArray) (hs : s.size ≤ 20000) (w : World) (hx : TxC w) :
    Calls Tryz.prog 84 #[.string s] w (RdO s.data.toList w) := by
  have hB0 := B6.fresh w ((0, 0, 0), false, (none, 0, 0), (none, 0, 0)) 59
  have hG0 := hB0.h6
  obtain ⟨⟨x0, x1, x2⟩, x3, x4, x5⟩ := hG0
  have hba : Below w.heap.size w (w.alloc (.cells (encM ((0, 0, 0), false, (none, 0, 0), (none, 0, 0))).toArray 59)) := below_alloc _
  simp only [Nat.zero_add] at x0 x1 x2 x3 x4 x5
  have hS0 := fun W (hb : Below w.heap.size w W) => splitC s W hs (hx.next hb)
  obtain ⟨l, hl⟩ : ∃ l, s.data.toList = l := ⟨_, rfl⟩
  have hll : l.length ≤ 20000 := by rw [← hl, ← Lib.size_eq]; exact hs
  rw [hl] at hS0 ⊢
  have HS := hid hS0
  clear hl hS0
  have HI := hid int1_any
  go_enter Tryz.func84, Tryz.ntmps84
  go_wp2_with fail
  refine (HI.out _).mono ?_; rintro e w1 ⟨v1, rfl, C1, hb1⟩
  obtain ⟨rb, ro, rn, rc, so, sn, sc, rfl⟩ := C1.shape
  have hB1 := hB0.next hb1
  have hbel1 := below_chain hba hb1
  clear x0 x1 x2 x3 x4 x5 hB0 hba hb1
  have hB2 := hB1.put (c' := (rb, (ro, rn, rc), (so, sn, sc)))
  have hG1 := hB1.h6
  obtain ⟨⟨y0, y1, y2⟩, y3, y4, y5⟩ := hG1
  simp only [Nat.zero_add] at y0 y1 y2 y3 y4 y5
  have f3 := hB1.free 3
  have f4 := hB1.free 4
  have f5 := hB1.free 5
  have HB2 := hid hB2
  have hbel2 := hid (hbel1.grown (grown_put3 w1 w.heap.size (.bool rb) (.slice ro rn rc) (.slice so sn sc)) hbel1.size (fun k hk => by cases hk; exact Nat.le_refl _))
  obtain ⟨T0, hown⟩ := hB1.own
  have HC1 := hid (C1.grownU hown isMon_u32 (grown_put3 w1 w.heap.size (.bool rb) (.slice ro rn rc) (.slice so sn sc)))
  clear hB2 hB1
  go_wp2_with fail
  refine (HS.out _ hbel2.out).mono ?_; rintro e w3 ⟨P, g, n, rfl, sP, hPl, hn, hg, hb3⟩
  have hB3 := HB2.out.next hb3
  have hC3 := HC1.out.next hb3
  have hbel3 := below_chain hbel2.out hb3
  have hgG : g ≠ w.heap.size := by have := HB2.out.lt; omega
  have hPn := sP.lenMap
  have HP := hid hPl
  clear HB2 HC1 hbel2 hb3 hg C1 hown hbel1 y0 y1 y2 y3 y4 y5 f3 f4 f5 hPl HS HI
  go_wp2_with fail
  go_loopw [16] (fun iv wr => ∃ i : Nat, i ≤ n ∧ iv = .int .i64 i ∧ RdI l n g w.heap.size P i w wr) (fun i _ => n - (intOf i).toNat)
  case atStart => exact ⟨0, by omega, rfl, (0, 0, 0), _, _, _, _, _, _, _, _, hB3, hC3, hid rfl, sP, by decide, hbel3⟩
  case round =>
    clear hB3 hC3 hbel3 sP
    obtain ⟨i, hi, rfl, ⟨E1, E2, E3⟩, s', xo, xn, xc, yo, yn, yc, q, hB, hC, hst, sl, hdeg, hbel⟩ := hrel
    rename World => wr
    by_cases hlt : i < n
    · obtain ⟨p, hp, b, off, e, hcell⟩ := sl.get hlt
      injection e with e
      injection e with e1 e2
      subst e1 e2
      simp only [Nat.zero_add] at hcell
      have hpl : (spl 42 l)[i]? = some p.data.toList := by rw [← HP.out, List.getElem?_map, hp]; rfl
      have hps : p.size ≤ 20000 := by rw [Lib.size_eq]; exact Nat.le_trans (spl_sub 42 l _ (List.mem_of_getElem? hpl)) hll
      have Hpl := hid hpl
      clear hp hpl
      go_wp2_with fail
      refine (Parse_any p (by omega) _).mono ?_; rintro e w4 ⟨v4, rfl, C4, hb4⟩
      obtain ⟨tb, to', tn, tc, uo, un, uc, rfl⟩ := C4.shape
      have hbA : Below wr.heap.size wr (w4.alloc (.cells #[.bool tb, .slice to' tn tc, .slice uo un uc] 25)) := hb4.alloc hb4.size _
      have hK := Bk.start hb4 rfl (.bool tb) (.slice to' tn tc) (.slice uo un uc) 25
      obtain ⟨k0, k1, k2⟩ := hK.c3
      have hB4 := hB.next hbA
      have hC4 := C4.next (below_alloc (.cells #[.bool tb, .slice to' tn tc, .slice uo un uc] 25))
      have hCq := hC.next hbA
      have sl4 := sl.next hbA
      have hbel4 := below_chain hbel hbA
      have hx4 := hx.next hbel4
      have hG4 := hB4.h6
      obtain ⟨⟨z0, z1, z2⟩, z3, z4, z5⟩ := hG4
      simp only [Nat.zero_add] at z0 z1 z2 z3 z4 z5
      have f0 := hB4.free 0
      have f1 := hB4.free 1
      have f2 := hB4.free 2
      have f3 := hB4.free 3
      have f4 := hB4.free 4
      have f5 := hB4.free 5
      have HB4 := hid hB4
      have HC4 := hid hC4
      have HCq := hid hCq
      have Sl4 := hid sl4
      have hst1 : Hid (readR l = if parseOk p.data.toList && decide (i = 0) then stF (spl 42 l) (i + 1) ((E1, E2, E3), parseQ p.data.toList) else match powR p.data.toList with
        | none => none
        | some (j, k) => stF (spl 42 l) (i + 1) (bump (E1, E2, E3) j k, q)) := hid (by
        rw [← hst.out, stF_step Hpl.out]
        split
        · rfl
        · cases powR p.data.toList <;> rfl)
      clear hB hC sl hb4 C4 hcell hK hB4 hC4 hCq sl4 hst hbA hbel
      by_cases hpi : (parseOk p.data.toList && decide (i = 0)) = true
      · have hi0 : i = 0 := by simp at hpi; exact hpi.2
        have hpt : parseOk p.data.toList = true := by simp at hpi; exact hpi.1
        have hst2 : Hid (stF (spl 42 l) (i + 1) ((E1, E2, E3), parseQ p.data.toList) = readR l) := hid (by rw [hst1.out, if_pos hpi])
        have c1 : ((i : Int) == 0) = true := by rw [beq_iff_eq]; omega
        have c4 : (i == 0) = true := by rw [beq_iff_eq]; omega
        clear hst1 hpi hi0
        rw [hpt]
        go_wp2_with fail
        go_roundw
        case rel =>
          refine ⟨i + 1, by omega, by go_num, (E1, E2, E3), _, _, _, _, _, _, _, _, HB4.out.put (c' := (tb, (to', tn, tc), (uo, un, uc))), ?_, hst2, ?_, by omega, ?_⟩
          · obtain ⟨T0, hown⟩ := HB4.out.own
            exact HC4.out.grownU hown isMon_u32 (grown_put3 _ _ _ _ _)
          · exact ((Sl4.out.put1 hgG _ _).put1 hgG _ _).put1 hgG _ _
          · exact hbel4.grown (grown_put3 _ _ _ _ _) hbel4.size (fun k hk => by cases hk; exact Nat.le_refl _)
        case measure => simp [intOf]; omega
      · have hst2 : Hid (readR l = match powR p.data.toList with
          | none => none
          | some (j, k) => stF (spl 42 l) (i + 1) (bump (E1, E2, E3) j k, q)) := hid (by rw [hst1.out, if_neg hpi])
        have hPow := hid (power_any p hps _ hx4)
        have c0 : (parseOk p.data.toList && ((i : Int) == 0)) = false := by
          rw [← Bool.not_eq_true]
          intro h
          simp at h
          exact hpi (by simp [h])
        clear hst1
        obtain ⟨po, hpo⟩ : ∃ b, parseOk p.data.toList = b := ⟨_, rfl⟩
        rw [hpo] at c0 hpi ⊢
        have key : (po = false) ∨ (po = true ∧ ((i : Int) == 0) = false) := by cases po with | false => exact .inl rfl | true => exact .inr ⟨rfl, by simpa using c0⟩
        clear c0 hpi hpo
        have fin : Hid (1 = 1) := hid rfl
        rcases key with rfl | ⟨rfl, ci⟩
        all_goals
          go_wp2_with fail
          refine hPow.out.mono ?_; rintro e w5 ⟨j, kk, ok, rfl, hb5, hres⟩
          have HB5 := hid (HB4.out.next hb5)
          have HCq5 := hid (HCq.out.next hb5)
          have Sl5 := hid (Sl4.out.next hb5)
          have hbel5 := below_chain hbel4 hb5
          obtain ⟨⟨v0, v1, v2⟩, v3, v4, v5⟩ := HB5.out.h6
          simp only [Nat.zero_add] at v0 v1 v2 v3 v4 v5
          have g0 := HB5.out.free 0
          have g1 := HB5.out.free 1
          have g2 := HB5.out.free 2
          have g3 := HB5.out.free 3
          have g4 := HB5.out.free 4
          have g5 := HB5.out.free 5
          clear z0 z1 z2 z3 z4 z5 f0 f1 f2 f3 f4 f5 k0 k1 k2 hb5 hPow
          rcases hres with ⟨jj, nn, hpw, hj, rfl, rfl⟩ | ⟨hpw, rfl⟩
          · have hj3 := powR_lt hpw
            have hk5 := powR_le hpw
            have hE : E1 + nn ≤ 200000 ∧ E2 + nn ≤ 200000 ∧ E3 + nn ≤ 200000 := by unfold deg at hdeg; simp only at hdeg; omega
            obtain ⟨hE1, hE2, hE3⟩ := hE
            rcases (by omega : jj = 0 ∨ jj = 1 ∨ jj = 2) with hjn | hjn | hjn
            · subst hjn
              have hj0 : j = 0 := by omega
              subst hj0
              have hst3 : Hid (stF (spl 42 l) (i + 1) ((E1 + nn, E2, E3), q) = readR l) := hid (by rw [hst2.out, hpw]; rfl)
              clear hpw hst2 hj
              go_wp2_with fail
              go_roundw
              case rel =>
                refine ⟨i + 1, by omega, by go_num, (E1 + nn, E2, E3), _, _, _, _, _, _, _, _, by have := HB5.out.putE0 (E1 + nn); simpa using this, HB5.out.rat HCq5.out _ _, hst3, Sl5.out.put1 hgG _ _, by unfold deg at hdeg ⊢; simp only at hdeg ⊢; omega, hbel5.setCell (Nat.le_refl _) _⟩
              case measure => simp [intOf]; omega
            · subst hjn
              have hj0 : j = 1 := by omega
              subst hj0
              have hst3 : Hid (stF (spl 42 l) (i + 1) ((E1, E2 + nn, E3), q) = readR l) := hid (by rw [hst2.out, hpw]; rfl)
              clear hpw hst2 hj
              go_wp2_with fail
              go_roundw
              case rel =>
                refine ⟨i + 1, by omega, by go_num, (E1, E2 + nn, E3), _, _, _, _, _, _, _, _, by have := HB5.out.putE1 (E2 + nn); simpa using this, HB5.out.rat HCq5.out _ _, hst3, Sl5.out.put1 hgG _ _, by unfold deg at hdeg ⊢; simp only at hdeg ⊢; omega, hbel5.setCell (Nat.le_refl _) _⟩
              case measure => simp [intOf]; omega
            · subst hjn
              have hj0 : j = 2 := by omega
              subst hj0
              have hst3 : Hid (stF (spl 42 l) (i + 1) ((E1, E2, E3 + nn), q) = readR l) := hid (by rw [hst2.out, hpw]; rfl)
              clear hpw hst2 hj
              go_wp2_with fail
              go_roundw
              case rel =>
                refine ⟨i + 1, by omega, by go_num, (E1, E2, E3 + nn), _, _, _, _, _, _, _, _, by have := HB5.out.putE2 (E3 + nn); simpa using this, HB5.out.rat HCq5.out _ _, hst3, Sl5.out.put1 hgG _ _, by unfold deg at hdeg ⊢; simp only at hdeg ⊢; omega, hbel5.setCell (Nat.le_refl _) _⟩
              case measure => simp [intOf]; omega
          · have hst3 : Hid (readR l = none) := hid (by rw [hst2.out, hpw])
            clear hst2 hpw
            have hB6 : B6 w.heap.size (((0 : Int), (0 : Int), (0 : Int)), false, (none, 0, 0), (none, 0, 0)) (set6 _ w.heap.size (.int .i64 0) (.int .i64 0) (.int .i64 0) (.bool false) (.slice none 0 0) (.slice none 0 0)) := HB5.out.all (c' := (false, (none, 0, 0), (none, 0, 0)))
            have hbel6 := below_set6 hbel5 (Nat.le_refl _) (.int .i64 0) (.int .i64 0) (.int .i64 0) (.bool false) (.slice none 0 0) (.slice none 0 0)
            have Hout := hid (And.intro hB6.h6 hbel6)
            clear hB6 hbel6
            go_wp2_with fail
            obtain ⟨⟨⟨e0, e1, e2⟩, e3, e4, e5⟩, hb⟩ := Hout.out
            simp only [Nat.zero_add] at e0 e1 e2 e3 e4 e5
            refine bodyPost_ret (v := .tuple #[.agg #[.int .i64 0, .int .i64 0, .int .i64 0, .bool false, .slice none 0 0, .slice none 0 0], .bool false]) (by simp [results, Tryz.results84, go_sem, e0, e1, e2, e3, e4, e5]) rfl ?_
            exact ⟨(0, 0, 0), _, _, _, _, _, _, _, _, _, rfl, rat_zero_agg _, hb, .inr ⟨rfl, hst3.out⟩⟩
    · have hin : i = n := by omega
      have hst2 : Hid (readR l = some ((E1, E2, E3), q)) := hid (by rw [← hst.out, stF_end]; rw [← HP.out, List.length_map]; omega)
      have hG4 := hB.h6
      obtain ⟨⟨z0, z1, z2⟩, z3, z4, z5⟩ := hG4
      simp only [Nat.zero_add] at z0 z1 z2 z3 z4 z5
      have f0 := hB.free 0
      have f1 := hB.free 1
      have f2 := hB.free 2
      have f3 := hB.free 3
      have f4 := hB.free 4
      have f5 := hB.free 5
      have hB5 : B6 w.heap.size ((((E1 : Nat) : Int), ((E2 : Nat) : Int), ((E3 : Nat) : Int)), s', (xo, xn, xc), (yo, yn, yc)) (set6 wr w.heap.size (.int .i64 E1) (.int .i64 E2) (.int .i64 E3) (.bool s') (.slice xo xn xc) (.slice yo yn yc)) := hB.all
      have hC5 : RatC (set6 wr w.heap.size (.int .i64 E1) (.int .i64 E2) (.int .i64 E3) (.bool s') (.slice xo xn xc) (.slice yo yn yc)) (.agg #[.bool s', .slice xo xn xc, .slice yo yn yc]) q := hB.rat6 (c' := (s', (xo, xn, xc), (yo, yn, yc))) hC E1 E2 E3
      have hbel5 := below_set6 hbel (Nat.le_refl _) (.int .i64 E1) (.int .i64 E2) (.int .i64 E3) (.bool s') (.slice xo xn xc) (.slice yo yn yc)
      obtain ⟨W5, hW5⟩ : ∃ W, set6 wr w.heap.size (.int .i64 E1) (.int .i64 E2) (.int .i64 E3) (.bool s') (.slice xo xn xc) (.slice yo yn yc) = W := ⟨_, rfl⟩
      rw [hW5] at hB5 hC5 hbel5
      have Hout := hid (And.intro hB5.h6 (And.intro hC5 hbel5))
      have HW5 := hid hW5
      clear hB hC hst hB5 hC5 hbel5 hW5
      go_wp2_with fail
      show bodyPost _ _ _ _ _ (set6 _ _ _ _ _ _ _ _)
      rw [HW5.out]
      obtain ⟨⟨⟨e0, e1, e2⟩, e3, e4, e5⟩, C, hb⟩ := Hout.out
      simp only [Nat.zero_add] at e0 e1 e2 e3 e4 e5
      refine bodyPost_ret (v := .tuple #[.agg #[.int .i64 E1, .int .i64 E2, .int .i64 E3, .bool s', .slice xo xn xc, .slice yo yn yc], .bool true]) (by simp [results, Tryz.results84, go_sem, e0, e1, e2, e3, e4, e5]) rfl ?_
      exact ⟨(E1, E2, E3), _, _, _, _, _, _, _, _, _, rfl, C, hb, .inl ⟨rfl, hst2.out⟩⟩
end Go.Proofs.YtgohfieleckmgaaGreatDoor

/-
  The reference's pieces, as it runs. No condition but sizes.
-/
namespace Go.Proofs.YtgohfieleckmgaaGreatDoor
open Go.RowKit Go.Lib
set_option linter.unusedSimpArgs false
set_option linter.unusedVariables false

def ngB (b : Bool) : ByteArray := if b then ⟨#[45]⟩ else ⟨#[]⟩
theorem ngB_data (b : Bool) : (ngB b).data.toList = ng b := by cases b <;> rfl
def PcL (l : List UInt8) (w : World) (ov fv nv iv : Value) (w' : World) : Prop := ∃ (i f : Nat) (m : Bool) (P : List ByteArray), ov = ov ∧ fv = .int .i64 f ∧ nv = .string (ngB m) ∧ iv = .int .i64 i ∧ PcI l i f m (P.map (·.data.toList)) ∧ P.length ≤ i ∧ SOwn w' w.heap.size ov P ∧ Below w.heap.size w w'
def PiecesOut (w : World) (l : List UInt8) (e : Ending) (w' : World) : Prop := ∃ (ao : Option Addr) (cap : Nat) (P : List ByteArray), e = .returned (.slice ao P.length cap) ∧ SOwn w' w.heap.size (.slice ao P.length cap) P ∧ P.map (·.data.toList) = piecesR l ∧ Below w.heap.size w w'

set_option maxRecDepth 10000 in
set_option maxHeartbeats 4000000 in
theorem rPieces_any (s : ByteArray) (hs : s.size ≤ 2000) (w : World) :
    Calls Tryz.prog 118 #[.string s, .string ⟨#[32, 43, 32]⟩, .string ⟨#[32, 45, 32]⟩] w (PiecesOut w s.data.toList) := by
  obtain ⟨l, hl⟩ : ∃ l, s.data.toList = l := ⟨_, rfl⟩
  have hsz : s.size = l.length := by rw [← hl, Lib.size_eq]
  rw [hl]
  have Hl := hid hl
  clear hl
  go_enter Tryz.func118, Tryz.ntmps118
  go_wp2_with fail
  go_loopw [7, 8, 9, 10] (fun ov fv nv iv wr => PcL l w ov fv nv iv wr) (fun _ _ _ iv _ => s.size + 1 - (intOf iv).toNat)
  case atStart => exact ⟨0, 0, false, [], rfl, rfl, rfl, rfl, PcI.start l, Nat.le_refl _, SOwn.nil _ _, Below.refl _ _⟩
  case round =>
    obtain ⟨i, f, m, P, _, rfl, rfl, rfl, hI, hPl, hown, hbel⟩ := hrel
    rename World => wr
    by_cases hlt : i + 3 ≤ s.size
    · have hlt' : (i : Int) + 3 ≤ (s.size : Int) := by omega
      by_cases h0 : i = 0
      · have c1 : ((i : Int) == 0) = true := by rw [beq_iff_eq]; omega
        have hI' := hid (PcI.skip (by rw [← h0]; exact hI) (by omega))
        obtain ⟨oo, oc, rfl, _, _⟩ := SOwn.form hown
        go_wp2_with fail
        go_roundw
        case rel => exact ⟨1, f, m, P, rfl, rfl, rfl, by subst h0; rfl, hI'.out, by omega, hown, hbel⟩
        case measure => simp [intOf]; omega
      · have c1 : ((i : Int) == 0) = false := by rw [beq_eq_false_iff_ne]; omega
        obtain ⟨oo, oc, rfl, _, _⟩ := SOwn.form hown
        have hif : f ≤ i := hI.1
        have hns : (ngB m).size ≤ 1 := by cases m <;> decide
        have hns' : ¬ 9223372036854775807 < (ngB m).size + (min i l.length - f) := by omega
        have hx3 : (s.extract i (i + 3)).toList = (l.drop i).take 3 := by rw [Lib.toList_data, Lib.extract_data, Hl.out, show i + 3 - i = 3 by omega]
        have hy : (ngB m ++ s.extract f i).data.toList = ng m ++ (l.take i).drop f := by
          rw [ByteArray.data_append, Array.toList_append, ngB_data, Lib.extract_data, Hl.out, List.drop_take]
        have hcs : ∀ (W : World) (x : Value), (W.alloc (.cells #[x] 9)).cell? ⟨W.heap.size, 0, none⟩ = some x := fun W x => by simp [go_sem]
        have hbelN : Below w.heap.size w (wr.alloc (.cells #[.string (ngB m ++ s.extract f i)] 9)) := hbel.alloc hbel.size _
        by_cases hp1 : (l.drop i).take 3 = [32, 43, 32]
        · have e1 : (s.extract i (i + 3)).toList = [32, 43, 32] := by rw [hx3, hp1]
          have hI' := hid (PcI.hit hI h0 (by omega) false hp1)
          clear hp1 hx3
          go_wp2_with (at_builtin; go_loud (refine wp_appS rfl (.tmp 42) (.tmp 49) rfl w.heap.size _ P rfl (SOwn.next hown (below_alloc _)) wr.heap.size 1 (ngB m ++ s.extract f i) rfl (hcs _ _) (by omega) hbelN.size ?_))
          intro v' w7 hown7 hb7
          have hbel7 := hbelN.trans hb7
          have hI2 : PcI l (i + 3) (i + 3) false ((P ++ [ngB m ++ s.extract f i]).map (·.data.toList)) := by rw [List.map_append, List.map_cons, List.map_nil, hy]; exact hI'.out
          go_wp2_with fail
          go_roundw
          case rel => exact ⟨i + 3, i + 3, false, _, rfl, by go_num, rfl, by go_num, hI2, by simp; omega, hown7, hbel7⟩
          case measure => simp [intOf]; omega
        · by_cases hp2 : (l.drop i).take 3 = [32, 45, 32]
          · have e1 : (s.extract i (i + 3)).toList = [32, 45, 32] := by rw [hx3, hp2]
            have hI' := hid (PcI.hit hI h0 (by omega) true hp2)
            clear hp1 hp2 hx3
            go_wp2_with (at_builtin; go_loud (refine wp_appS rfl (.tmp 42) (.tmp 49) rfl w.heap.size _ P rfl (SOwn.next hown (below_alloc _)) wr.heap.size 1 (ngB m ++ s.extract f i) rfl (hcs _ _) (by omega) hbelN.size ?_))
            intro v' w7 hown7 hb7
            have hbel7 := hbelN.trans hb7
            have hI2 : PcI l (i + 3) (i + 3) true ((P ++ [ngB m ++ s.extract f i]).map (·.data.toList)) := by rw [List.map_append, List.map_cons, List.map_nil, hy]; exact hI'.out
            go_wp2_with fail
            go_roundw
            case rel => exact ⟨i + 3, i + 3, true, _, rfl, by go_num, rfl, by go_num, hI2, by simp; omega, hown7, hbel7⟩
            case measure => simp [intOf]; omega
          · have e1 : ¬ (s.extract i (i + 3)).toList = [32, 43, 32] := by rw [hx3]; exact hp1
            have e2 : ¬ (s.extract i (i + 3)).toList = [32, 45, 32] := by rw [hx3]; exact hp2
            have e3 : ((s.extract i (i + 3)).toList == [32, 43, 32]) = false := by rw [beq_eq_false_iff_ne]; exact e1
            have e4 : ((s.extract i (i + 3)).toList == [32, 45, 32]) = false := by rw [beq_eq_false_iff_ne]; exact e2
            have hI' := hid (PcI.step hI h0 (by omega) hp1 hp2)
            clear hp1 hp2 hx3
            go_wp2_with fail
            go_roundw
            case rel => exact ⟨i + 1, f, m, P, rfl, rfl, rfl, by go_num, hI'.out, by omega, hown, hbel⟩
            case measure => simp [intOf]; omega
    · have hlt' : ¬ (i : Int) + 3 ≤ (s.size : Int) := by omega
      obtain ⟨oo, oc, rfl, _, _⟩ := SOwn.form hown
      have hfl : f ≤ s.size := by have := hI.1; have := hI.2.1; omega
      have hil : i ≤ s.size := by have := hI.2.1; omega
      have hns : (ngB m).size ≤ 1 := by cases m <;> decide
      have hns' : ¬ 9223372036854775807 < (ngB m).size + (l.length - f) := by omega
      have hfin := hid (PcI.fin hI (by omega))
      have hcs : ∀ (W : World) (x : Value), (W.alloc (.cells #[x] 9)).cell? ⟨W.heap.size, 0, none⟩ = some x := fun W x => by simp [go_sem]
      have hbelN : Below w.heap.size w (wr.alloc (.cells #[.string (ngB m ++ s.extract f l.length)] 9)) := hbel.alloc hbel.size _
      have hy : (ngB m ++ s.extract f l.length).data.toList = ng m ++ l.drop f := by
        rw [ByteArray.data_append, Array.toList_append, ngB_data, ← hsz, extract_to_end, Hl.out]
      go_wp2_with (at_builtin; go_loud (refine wp_appS rfl (.tmp 66) (.tmp 72) rfl w.heap.size _ P rfl (SOwn.next hown (below_alloc _)) wr.heap.size 1 (ngB m ++ s.extract f l.length) rfl (hcs _ _) (by omega) hbelN.size ?_))
      intro v' w7 hown7 hb7
      have hbel7 := hbelN.trans hb7
      obtain ⟨ro, rc, rfl, _, _⟩ := SOwn.form hown7
      go_wp2_with fail
      go_ret
      exact ⟨ro, rc, _, rfl, hown7, by rw [List.map_append, List.map_cons, List.map_nil, hy]; exact hfin.out, hbel7⟩
end Go.Proofs.YtgohfieleckmgaaGreatDoor

/-
  Package polynomial's Parse, as it runs. Condition: the library's variables hold what they hold at the start.
-/
namespace Go.Proofs.YtgohfieleckmgaaGreatDoor
open Go.RowKit Go.Lib
set_option linter.unusedSimpArgs false
set_option linter.unusedVariables false

theorem SumW.put3 {w : World} {b n G : Nat} {S : Pl} {m : Mo} (h : SumW w b n S) (hB : B6 G m w) (hne : b ≠ G) (x y z : Value) : SumW (((w.setCell ⟨G, 3, none⟩ x).setCell ⟨G, 4, none⟩ y).setCell ⟨G, 5, none⟩ z) b n S := by
  obtain ⟨D, h1, h2⟩ := h
  obtain ⟨T, hown⟩ := hB.own
  have hg := grown_put3 w G x y z
  exact ⟨D, h1.kept hg (fun e => hne (Option.some.inj e)), h2.next fun _ _ hr => hr.grownU hown isMon_u32 hg⟩
/-- What Parse answers. -/
def PsO (l : List UInt8) (w : World) (e : Ending) (w' : World) : Prop :=
  (∃ S ao cap, okP l (progR l) = some S ∧ e = .returned (.tuple #[.slice ao (lst S).length cap, .bool true]) ∧ PolC w' ao cap S ∧ Below w.heap.size w w') ∨
  (okP l (progR l) = none ∧ e = .returned (.tuple #[.slice none 0 0, .bool false]) ∧ Below w.heap.size w w')
def szOf : Value → Nat
  | .string s => s.size
  | _ => 0
def PsL (l : List UInt8) (b : Nat) (w : World) (rv mv wv : Value) (w' : World) : Prop := ∃ (i : Nat) (more minus : Bool) (r : ByteArray) (S : Pl), rv = .string r ∧ mv = .bool minus ∧ wv = .bool more ∧ PsI l i more minus r.data.toList S ∧ SumW w' b i S ∧ Below w.heap.size w w'

set_option maxRecDepth 10000 in
set_option maxHeartbeats 4000000 in
theorem pParse_any (s : ByteArray) (hs : s.size ≤ 2000) (w : World) (hx : TxC w) (hpw : Pow w) :
    Calls Tryz.prog 42 #[.string s] w (PsO s.data.toList w) := by
  obtain ⟨l, hl⟩ : ∃ l, s.data.toList = l := ⟨_, rfl⟩
  have hll : l.length ≤ 2000 := by rw [← hl, ← Lib.size_eq]; exact hs
  have hC := Tryz.strings_CutPrefix s ⟨#[45]⟩
  rw [show (⟨#[45]⟩ : ByteArray).data.toList = [45] from rfl, hl, (sign_facts l).1, (sign_facts l).2] at hC
  obtain ⟨t, ht⟩ : ∃ t : ByteArray, (⟨(noSign l).toArray⟩ : ByteArray) = t := ⟨_, rfl⟩
  rw [ht] at hC
  have htl : t.data.toList = noSign l := by rw [← ht]
  have hstart := PsI.start l
  rw [← htl] at hstart
  rw [hl]
  have Hl := hid hl
  have HC := hid hC
  have hmm := @run_makeMap Tryz.prog
  have hS := SumW.made w
  have hb0 : Below w.heap.size w (w.alloc (.map #[] 0)) := below_alloc _
  clear hl hC ht htl
  go_enter Tryz.func42, Tryz.ntmps42
  go_wp2_with fail
  refine (HC.out _).mono ?_; rintro e w1 ⟨rfl, rfl⟩
  go_wp2_with fail
  go_loopw [5, 6, 7] (fun rv mv wv wr => PsL l w.heap.size w rv mv wv wr) (fun rv _ wv _ => match wv with | .bool true => szOf rv + 1 | _ => 0)
  case atStart => exact ⟨0, true, isNeg l, t, _, rfl, rfl, rfl, hstart, hS, hb0⟩
  case round =>
    clear hstart hS hb0
    obtain ⟨i, more, minus, r, S, rfl, rfl, rfl, hI, hS, hbel⟩ := hrel
    rename World => wr
    cases more with
    | true =>
      have hIl : i + r.data.toList.length ≤ l.length := hI.2.choose_spec.2.2
      have hrs : r.size ≤ 2000 := by rw [Lib.size_eq]; omega
      have hix := Tryz.strings_IndexByte r 32
      rw [show (32 : Int).toNat.toUInt8 = 32 from rfl] at hix
      by_cases hneg : indexByte r.data.toList 32 = -1
      · rw [hneg] at hix
        obtain ⟨hw1, hw2⟩ := word_none hneg
        have Hrd := hid (pread_any r (by omega) wr (hx.next hbel))
        have Hix := hid hix
        have HI := hid hI
        have Hw := hid (And.intro hw1 hw2)
        clear hix hI hneg hw1 hw2
        go_wp2_with fail
        refine (Hix.out _).mono ?_; rintro e w1 ⟨rfl, rfl⟩
        go_wp2_with fail
        refine Hrd.out.mono ?_; rintro e w2 ⟨⟨E1, E2, E3⟩, s', xo, xn, xc, yo, yn, yc, q, ok, rfl, Cq, hb2, hres⟩
        have hbel2 := below_chain hbel hb2
        have hS2 := hS.kept hb2
        clear hS
        rcases hres with ⟨rfl, hq⟩ | ⟨rfl, hq⟩
        · have hfit := HI.out.fit hq
          have hnext := hid (HI.out.last (by rw [Hw.out.1]; exact hq) Hw.out.2)
          have hrd := readR_ok hq
          have hdE : deg (E1, E2, E3) ≤ 1000000 := by have := hrd.1; omega
          have hbA : Below w2.heap.size w2 (w2.alloc (.cells #[.int .i64 E1, .int .i64 E2, .int .i64 E3, .bool s', .slice xo xn xc, .slice yo yn yc] 59)) := below_alloc _
          have hbel3 := below_chain hbel2 hbA
          have hS3 := hS2.kept hbA
          have hC3 := (Cq.next hbA).toV hrd.2 (by decide)
          have hG := B6.fresh w2 (((E1 : Int), (E2 : Int), (E3 : Int)), s', (xo, xn, xc), (yo, yn, yc)) 59
          have hG6 := hG.h6
          obtain ⟨⟨y0, y1, y2⟩, y3, y4, y5⟩ := hG6
          simp only [Nat.zero_add] at y0 y1 y2 y3 y4 y5
          have hS2l : w.heap.size ≠ w2.heap.size := Nat.ne_of_lt hS2.lt
          clear hq hS2 Cq
          cases minus with
          | true =>
            go_wp2_with fail
            refine (Neg_any q _ _ hC3 250 hrd.2 (by decide)).mono ?_; rintro e w4 ⟨v4, rfl, C4, hb4⟩
            obtain ⟨tb, to', tn, tc, uo, un, uc, rfl⟩ := C4.shape
            have hB4 := hG.next hb4
            have hbel4 := below_chain hbel3 hb4
            have hS4 := hS3.kept hb4
            have hbw := hS2l
            have hB5 := hB4.put (c' := (tb, (to', tn, tc), (uo, un, uc)))
            have hS5 := hS4.put3 hB4 hbw (.bool tb) (.slice to' tn tc) (.slice uo un uc)
            obtain ⟨T0, hown⟩ := hB4.own
            have hC5 := (C4.grownU hown isMon_u32 (grown_put3 w4 w2.heap.size (.bool tb) (.slice to' tn tc) (.slice uo un uc))).toV (fit_neg hrd.2) (by decide)
            have hbel5 := hbel4.grown (grown_put3 w4 w2.heap.size (.bool tb) (.slice to' tn tc) (.slice uo un uc)) hbel4.size (fun k hk => by cases hk; exact hbel2.size)
            obtain ⟨⟨z0, z1, z2⟩, z3, z4, z5⟩ := hB4.h6
            simp only [Nat.zero_add] at z0 z1 z2 z3 z4 z5
            have f3 := hB4.free 3
            have f4 := hB4.free 4
            have f5 := hB4.free 5
            have hadd := hid (sadd_any w.heap.size i 600000 S (E1, E2, E3) tb to' tn tc uo un uc (-q) _ hS5 hC5 hdE (HI.out.1.mono (by omega)) ((fit_neg hrd.2).mono (by decide)) (by decide) (by omega))
            clear hS5 hC5 hS4 hB4 C4 hown y0 y1 y2 y3 y4 y5 hB5
            go_wp2_with fail
            refine hadd.out.mono ?_; rintro e w6 ⟨rfl, hS6, hg6⟩
            have hbel6 : Below w.heap.size w w6 := hbel5.grown hg6 hbel5.size (fun k hk => by cases hk; exact Nat.le_refl _)
            go_wp2_with fail
            go_roundw
            case rel => exact ⟨i + 1, false, true, r, _, rfl, rfl, rfl, hnext.out _ _, hS6, hbel6⟩
            case measure => simp [szOf]
          | false =>
            have hadd := hid (sadd_any w.heap.size i 600000 S (E1, E2, E3) s' xo xn xc yo yn yc q _ hS3 hC3 hdE (HI.out.1.mono (by omega)) (hrd.2.mono (by decide)) (by decide) (by omega))
            go_wp2_with fail
            refine hadd.out.mono ?_; rintro e w4 ⟨rfl, hS4, hg4⟩
            have hbel4 : Below w.heap.size w w4 := hbel3.grown hg4 hbel3.size (fun k hk => by cases hk; exact Nat.le_refl _)
            go_wp2_with fail
            go_roundw
            case rel => exact ⟨i + 1, false, false, r, _, rfl, rfl, rfl, hnext.out _ _, hS4, hbel4⟩
            case measure => simp [szOf]
        · have hpr : Hid (progR l = none) := hid (HI.out.bad (by rw [Hw.out.1]; exact hq))
          have hbel3 := below_chain hbel2 (below_alloc (w := w2) (.cells #[.int .i64 E1, .int .i64 E2, .int .i64 E3, .bool s', .slice xo xn xc, .slice yo yn yc] 59))
          go_wp2_with fail
          go_ret2
          exact .inr ⟨by rw [hpr.out]; rfl, rfl, hbel3⟩
      · obtain ⟨k, hk⟩ : ∃ k : Nat, indexByte r.data.toList 32 = k := by
          have := index_ge r.data.toList [32]
          rw [index_one] at this
          exact ⟨(indexByte r.data.toList 32).toNat, by omega⟩
        rw [hk] at hix
        obtain ⟨hw1, hw2, hk3⟩ := word_some hk
        have hkr : k < r.size := by rw [Lib.size_eq]; exact hk3
        have hud : (r.extract 0 k).data.toList = upW r.data.toList := by rw [hw1, extract_from_zero]
        have Hrd := hid (pread_any (r.extract 0 k) (by rw [Lib.size_eq, hud, hw1, List.length_take]; omega) wr (hx.next hbel))
        rw [hud] at Hrd
        have Hix := hid hix
        have HI := hid hI
        have Hw := hid (And.intro hw2 hk3)
        have k0 : (0 : Int) ≤ (k : Int) := by omega
        have hkr' : k ≤ r.size := by omega
        clear hix hI hneg hw1 hw2 hud hk hk3
        go_wp2_with fail
        refine (Hix.out _).mono ?_; rintro e w1 ⟨rfl, rfl⟩
        go_wp2_with fail
        refine Hrd.out.mono ?_; rintro e w2 ⟨⟨E1, E2, E3⟩, s', xo, xn, xc, yo, yn, yc, q, ok, rfl, Cq, hb2, hres⟩
        have hbel2 := below_chain hbel hb2
        have hS2 := hS.kept hb2
        clear hS
        rcases hres with ⟨rfl, hq⟩ | ⟨rfl, hq⟩
        · have hnext := hid (HI.out.next hq Hw.out.1 Hw.out.2)
          have hrd := readR_ok hq
          have hul : (upW r.data.toList).length ≤ 2000 := by
            have : (upW r.data.toList).length ≤ r.data.toList.length := (List.takeWhile_sublist _).length_le
            omega
          have hdE : deg (E1, E2, E3) ≤ 1000000 := by have := hrd.1; omega
          have hbA : Below w2.heap.size w2 (w2.alloc (.cells #[.int .i64 E1, .int .i64 E2, .int .i64 E3, .bool s', .slice xo xn xc, .slice yo yn yc] 59)) := below_alloc _
          have hbel3 := below_chain hbel2 hbA
          have hS3 := hS2.kept hbA
          have hC3 := (Cq.next hbA).toV hrd.2 (by decide)
          have hG := B6.fresh w2 (((E1 : Int), (E2 : Int), (E3 : Int)), s', (xo, xn, xc), (yo, yn, yc)) 59
          have hG6 := hG.h6
          obtain ⟨⟨y0, y1, y2⟩, y3, y4, y5⟩ := hG6
          simp only [Nat.zero_add] at y0 y1 y2 y3 y4 y5
          have hS2l : w.heap.size ≠ w2.heap.size := Nat.ne_of_lt hS2.lt
          clear hq hS2 Cq
          cases minus with
          | true =>
            go_wp2_with fail
            refine (Neg_any q _ _ hC3 250 hrd.2 (by decide)).mono ?_; rintro e w4 ⟨v4, rfl, C4, hb4⟩
            obtain ⟨tb, to', tn, tc, uo, un, uc, rfl⟩ := C4.shape
            have hB4 := hG.next hb4
            have hbel4 := below_chain hbel3 hb4
            have hS4 := hS3.kept hb4
            have hbw := hS2l
            have hB5 := hB4.put (c' := (tb, (to', tn, tc), (uo, un, uc)))
            have hS5 := hS4.put3 hB4 hbw (.bool tb) (.slice to' tn tc) (.slice uo un uc)
            obtain ⟨T0, hown⟩ := hB4.own
            have hC5 := (C4.grownU hown isMon_u32 (grown_put3 w4 w2.heap.size (.bool tb) (.slice to' tn tc) (.slice uo un uc))).toV (fit_neg hrd.2) (by decide)
            have hbel5 := hbel4.grown (grown_put3 w4 w2.heap.size (.bool tb) (.slice to' tn tc) (.slice uo un uc)) hbel4.size (fun k hk => by cases hk; exact hbel2.size)
            obtain ⟨⟨z0, z1, z2⟩, z3, z4, z5⟩ := hB4.h6
            simp only [Nat.zero_add] at z0 z1 z2 z3 z4 z5
            have f3 := hB4.free 3
            have f4 := hB4.free 4
            have f5 := hB4.free 5
            have hadd := hid (sadd_any w.heap.size i 600000 S (E1, E2, E3) tb to' tn tc uo un uc (-q) _ hS5 hC5 hdE (HI.out.1.mono (by omega)) ((fit_neg hrd.2).mono (by decide)) (by decide) (by omega))
            clear hS5 hC5 hS4 hB4 C4 hown y0 y1 y2 y3 y4 y5 hB5
            go_wp2_with fail
            refine hadd.out.mono ?_; rintro e w6 ⟨rfl, hS6, hg6⟩
            have hbel6 : Below w.heap.size w w6 := hbel5.grown hg6 hbel5.size (fun k hk => by cases hk; exact Nat.le_refl _)
            go_wp2_with fail
            refine (Tryz.strings_HasPrefix _ _ _).mono ?_; rintro e w7 ⟨rfl, rfl⟩
            rw [extract_to_end, show (⟨#[32, 45, 32]⟩ : ByteArray).data.toList = [32, 45, 32] from rfl]
            obtain ⟨n1, n2, n3⟩ := hnext.out
            have hle : (r.data.toList.drop k).length = r.size - k := by rw [List.length_drop, Lib.size_eq]
            cases hp : hasPrefix (r.data.toList.drop k) [32, 45, 32] with
            | true =>
              obtain ⟨h3, hPs⟩ := n1 hp
              have hk4 : k + 3 ≤ r.size := by omega
              have HPs := hid hPs
              clear n1 n2 n3 hp hPs h3 hle
              go_wp2_with fail
              go_roundw
              case rel => exact ⟨i + 1, true, true, r.extract (k + 3) r.size, _, rfl, rfl, rfl, by rw [extract_to_end]; exact HPs.out, hS6, hbel6⟩
              case measure => simp [szOf]; omega
            | false =>
              go_wp2_with fail
              refine (Tryz.strings_HasPrefix _ _ _).mono ?_; rintro e w8 ⟨rfl, rfl⟩
              rw [extract_to_end, show (⟨#[32, 43, 32]⟩ : ByteArray).data.toList = [32, 43, 32] from rfl]
              cases hp2 : hasPrefix (r.data.toList.drop k) [32, 43, 32] with
              | true =>
                obtain ⟨h3, hPs⟩ := n2 hp hp2
                have hk4 : k + 3 ≤ r.size := by omega
                have HPs := hid hPs
                clear n1 n2 n3 hp hp2 hPs h3 hle
                go_wp2_with fail
                go_roundw
                case rel => exact ⟨i + 1, true, false, r.extract (k + 3) r.size, _, rfl, rfl, rfl, by rw [extract_to_end]; exact HPs.out, hS6, hbel6⟩
                case measure => simp [szOf]; omega
              | false =>
                have hpr := hid (n3 hp hp2)
                clear n1 n2 n3 hp hp2 hle
                go_wp2_with fail
                go_ret2
                exact .inr ⟨by rw [hpr.out]; rfl, rfl, hbel6⟩
          | false =>
            have hadd := hid (sadd_any w.heap.size i 600000 S (E1, E2, E3) s' xo xn xc yo yn yc q _ hS3 hC3 hdE (HI.out.1.mono (by omega)) (hrd.2.mono (by decide)) (by decide) (by omega))
            go_wp2_with fail
            refine hadd.out.mono ?_; rintro e w4 ⟨rfl, hS4, hg4⟩
            have hbel4 : Below w.heap.size w w4 := hbel3.grown hg4 hbel3.size (fun k hk => by cases hk; exact Nat.le_refl _)
            go_wp2_with fail
            refine (Tryz.strings_HasPrefix _ _ _).mono ?_; rintro e w7 ⟨rfl, rfl⟩
            rw [extract_to_end, show (⟨#[32, 45, 32]⟩ : ByteArray).data.toList = [32, 45, 32] from rfl]
            obtain ⟨n1, n2, n3⟩ := hnext.out
            have hle : (r.data.toList.drop k).length = r.size - k := by rw [List.length_drop, Lib.size_eq]
            cases hp : hasPrefix (r.data.toList.drop k) [32, 45, 32] with
            | true =>
              obtain ⟨h3, hPs⟩ := n1 hp
              have hk4 : k + 3 ≤ r.size := by omega
              have HPs := hid hPs
              clear n1 n2 n3 hp hPs h3 hle
              go_wp2_with fail
              go_roundw
              case rel => exact ⟨i + 1, true, true, r.extract (k + 3) r.size, _, rfl, rfl, rfl, by rw [extract_to_end]; exact HPs.out, hS4, hbel4⟩
              case measure => simp [szOf]; omega
            | false =>
              go_wp2_with fail
              refine (Tryz.strings_HasPrefix _ _ _).mono ?_; rintro e w8 ⟨rfl, rfl⟩
              rw [extract_to_end, show (⟨#[32, 43, 32]⟩ : ByteArray).data.toList = [32, 43, 32] from rfl]
              cases hp2 : hasPrefix (r.data.toList.drop k) [32, 43, 32] with
              | true =>
                obtain ⟨h3, hPs⟩ := n2 hp hp2
                have hk4 : k + 3 ≤ r.size := by omega
                have HPs := hid hPs
                clear n1 n2 n3 hp hp2 hPs h3 hle
                go_wp2_with fail
                go_roundw
                case rel => exact ⟨i + 1, true, false, r.extract (k + 3) r.size, _, rfl, rfl, rfl, by rw [extract_to_end]; exact HPs.out, hS4, hbel4⟩
                case measure => simp [szOf]; omega
              | false =>
                have hpr := hid (n3 hp hp2)
                clear n1 n2 n3 hp hp2 hle
                go_wp2_with fail
                go_ret2
                exact .inr ⟨by rw [hpr.out]; rfl, rfl, hbel4⟩
        · have hpr : Hid (progR l = none) := hid (HI.out.bad hq)
          have hbel3 := below_chain hbel2 (below_alloc (w := w2) (.cells #[.int .i64 E1, .int .i64 E2, .int .i64 E3, .bool s', .slice xo xn xc, .slice yo yn yc] 59))
          go_wp2_with fail
          go_ret2
          exact .inr ⟨by rw [hpr.out]; rfl, rfl, hbel3⟩
    | false =>
      have hpr : Hid (progR l = some S) := hid hI.2.1
      have hil : i ≤ l.length + 1 := hI.2.2
      have hF : FitP 600000 S := hI.1.mono (by omega)
      have hpw' := hpw.next hbel
      have Hsl := hid (slist_any w.heap.size i 600000 S _ hS hF (by decide) (by omega))
      have HF := hid hF
      clear hI hS hF
      go_wp2_with fail
      refine Hsl.out.mono ?_; rintro e w2 ⟨ao, cap, rfl, hP, hb2⟩
      have hpw2 := hpw'.next hb2
      have hbel2 := below_chain hbel hb2
      have Hfm := hid (pFormat_any S _ _ (hP.toV HF.out (by decide)) 600000 HF.out (by decide) hpw2)
      go_wp2_with fail
      refine Hfm.out.mono ?_; rintro e w3 ⟨sx, rfl, hsx, hb3⟩
      have hP3 := hP.next hb3
      have hbel3 := below_chain hbel2 hb3
      have hHsx := hid hsx
      clear hP Hsl Hfm hsx
      by_cases hq : sx = s
      · have hok : Hid (okP l (progR l) = some S) := hid (by rw [hpr.out]; exact if_pos (by rw [← hHsx.out, hq, Hl.out]))
        subst hq
        go_wp2_with fail
        go_ret2
        exact .inl ⟨S, ao, cap, hok.out, rfl, hP3, hbel3⟩
      · have hok : Hid (okP l (progR l) = none) := hid (by rw [hpr.out]; refine if_neg fun h => hq ?_; rw [← hHsx.out, ← Hl.out] at h; exact ByteArray.ext (Array.ext' h))
        have hq1 : ¬ sx.toList = s.toList := fun h => hq (ByteArray.ext (Array.ext' (by rw [← Lib.toList_data, ← Lib.toList_data]; exact h)))
        have hq4 : (sx.toList == s.toList) = false := by rw [beq_eq_false_iff_ne]; exact hq1
        clear hq1
        go_wp2_with fail
        go_ret2
        exact .inr ⟨hok.out, rfl, hbel3⟩
end Go.Proofs.YtgohfieleckmgaaGreatDoor

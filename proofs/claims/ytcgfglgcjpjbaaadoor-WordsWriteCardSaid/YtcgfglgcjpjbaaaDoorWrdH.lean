/-
  The contracts of Format of both packages of words. No condition but sizes.
-/
import Derived.Test.YtcgfglgcjpjbaaaDoorParB
import Derived.Test.YtcgfglgcjpjbaaaDoorWrdF
import Derived.Test.YtcgfglgcjpjbaaaDoorShlW
namespace Go.Proofs.YtcgfglgcjpjbaaaDoor
open Go.RowKit
set_option linter.unusedSimpArgs false
set_option linter.unusedVariables false

theorem Tryd.infoStr : (Tryd.prog.info? 9).map (fun i => (i.zero, i.size, i.bytes)) = some (some (.string ByteArray.empty), 1, 16) := by kernel_rfl

/-- A text and an error code. -/
def TextOut (w : World) (l : List UInt8) (c : Int) (e : Ending) (w' : World) : Prop :=
  ∃ s : ByteArray, e = .returned (.tuple #[.string s, .int .i64 c]) ∧ s.data.toList = l ∧ Below w.heap.size w w'

def fmtErr (T : List ByteArray) (l : List Int) : Int := if valid T then (if okW l T.length then 0 else 9) else 5
def fmtRes (T : List ByteArray) (l : List Int) : List UInt8 := if fmtErr T l = 0 then fmtL T l else []

theorem name_at {T : List ByteArray} (hv : valid T = true) {x : Int} (h1 : 1 ≤ x) (h2 : x ≤ T.length) : ∃ k : Nat, x = (k : Int) + 1 ∧ k < T.length ∧ T[k]? = some (nameS T x) := by
  obtain ⟨j, rfl⟩ : ∃ j : Nat, x = j + 1 := ⟨(x - 1).toNat, by omega⟩
  have hj : j < T.length := by omega
  exact ⟨j, rfl, hj, by rw [nameS_at hv (List.getElem?_eq_getElem hj)]; exact List.getElem?_eq_getElem hj⟩

set_option maxHeartbeats 2000000 in
theorem wFormat_any (T : List ByteArray) (ao : Option Addr) (n cap : Nat) (l : List Int) (bo : Option Addr) (m cap' : Nat) (w : World) (h : Sl w ao n cap (T.map .string)) (hL : Sl w bo m cap' (i64s l)) :
    Calls Tryd.prog 7 #[.slice ao n cap, .slice bo m cap'] w (TextOut w (fmtRes T l) (fmtErr T l)) := by
  have hb := h.bound
  have hn := hid h.lenMap
  have hm := hid hL.lenI
  cases hv : valid T with
  | false =>
    have h2 : fmtErr T l = 5 := by unfold fmtErr; rw [hv]; rfl
    have h1 : fmtRes T l = [] := by unfold fmtRes; rw [h2]; rfl
    rw [h1, h2]
    have Hv := hid hv
    clear h1 h2 hv
    go_enter Tryd.func7, Tryd.ntmps7
    go_wp2_with fail
    refine (ValidT_any T _ _ _ _ h).mono ?_; rw [Hv.out]; rintro e w1 ⟨rfl, hb1⟩
    go_wp2_with fail
    go_ret2
    exact ⟨_, rfl, rfl, hb1⟩
  | true =>
    cases hok : okW l (n : Int) with
    | false =>
      have h2 : fmtErr T l = 9 := by unfold fmtErr; rw [hv, hn.out, hok]; rfl
      have h1 : fmtRes T l = [] := by unfold fmtRes; rw [h2]; rfl
      rw [h1, h2]
      have Hv := hid hv
      have Hok := hid hok
      clear h1 h2 hv hok
      go_enter Tryd.func7, Tryd.ntmps7
      go_wp2_with fail
      refine (ValidT_any T _ _ _ _ h).mono ?_; rw [Hv.out]; rintro e w1 ⟨rfl, hb1⟩
      go_wp2_with fail
      refine (wValid_any l n _ _ _ _ (hL.next hb1)).mono ?_; rw [Hok.out]; rintro e w2 ⟨rfl, rfl⟩
      go_wp2_with fail
      go_ret2
      exact ⟨_, rfl, rfl, hb1⟩
    | true =>
      have h2 : fmtErr T l = 0 := by unfold fmtErr; rw [hv, hn.out, hok]; rfl
      have h1 : fmtRes T l = fmtL T l := by unfold fmtRes; rw [h2]; rfl
      rw [h1, h2]
      have hin := okW_in hok
      have hml := okW_len hok
      rw [hm.out] at hml
      have hn32 := valid_len hv
      rw [hn.out] at hn32
      have hfl := fmtL_len hv (by rw [hn.out]; exact hin)
      rw [hm.out] at hfl
      have Hv := hid hv
      have Hok := hid hok
      have Hin := hid hin
      have Hfl := hid hfl
      clear h1 h2 hv hok hin hfl
      go_enter Tryd.func7, Tryd.ntmps7
      go_wp2_with fail
      refine (ValidT_any T _ _ _ _ h).mono ?_; rw [Hv.out]; rintro e w1 ⟨rfl, hb1⟩
      go_wp2_with fail
      refine (wValid_any l n _ _ _ _ (hL.next hb1)).mono ?_; rw [Hok.out]; rintro e w2 ⟨rfl, rfl⟩
      go_wp2_with (at_make; go_loud (refine wp_make rfl (.tmp 18) (.tmp 18) 22 rfl 9 _ 16 Tryd.underlying22 Tryd.infoStr rfl _ _ _ _ m rfl rfl rfl rfl (by omega) (by omega) ?_))
      intro w2 hown hg hb2
      have hbel := below_chain hb1 hb2
      have hT := (h.next hb1).next hb2
      have hW := (hL.next hb1).next hb2
      go_wp2_with fail
      go_loopw [22] (fun i wr => ∃ k : Nat, k ≤ m ∧ i = .int .i64 k ∧ wr.ownsRow w1.heap.size 9 1 (.slice (some ⟨w1.heap.size, 0, none⟩) m m) m ((namesW T (l.take k)).map .string ++ List.replicate (m - k) (Value.string ByteArray.empty)) ∧ Below w1.heap.size w1 wr) (fun i _ => m - (intOf i).toNat)
      case atStart => exact ⟨0, by omega, rfl, by simpa [namesW] using hown, hb2⟩
      case round =>
        clear hown hT hW hbel
        obtain ⟨k, hk, rfl, hown, hbel⟩ := hrel
        by_cases hlt : k < m
        · obtain ⟨x, hx', bb, off, rfl, hcell⟩ := ((hL.next hb1).next hbel).i64 hlt
          obtain ⟨hx1, hx2⟩ := Hin.out x (List.mem_of_getElem? hx')
          obtain ⟨j, rfl, hjn, hTj⟩ := name_at Hv.out hx1 (by rw [hn.out]; exact hx2)
          rw [hn.out] at hjn
          obtain ⟨y, hy, bt, offt, rfl, hcellT⟩ := ((h.next hb1).next hbel).get hjn
          rw [hTj] at hy
          injection hy with hy
          have hst : Hid (∀ u : Value, u = .string y → ((namesW T (l.take k)).map Value.string ++ List.replicate (m - k) (Value.string ByteArray.empty)).set k u = (namesW T (l.take (k + 1))).map .string ++ List.replicate (m - (k + 1)) (Value.string ByteArray.empty)) := hid (by
            rintro u rfl
            have hl : ((namesW T (l.take k)).map Value.string).length = k := by simp [namesW]; have := hm.out; omega
            rw [List.set_append, if_neg (by omega), hl, Nat.sub_self, take_snoc hx', namesW_snoc, List.map_append, List.map_cons, List.map_nil, hy, List.append_assoc]
            rw [show m - k = (m - (k + 1)) + 1 by omega, List.replicate_succ]
            rfl)
          have hfr := hown.frozenAt k
          have hcu : ∃ u, wr.cell? ⟨w1.heap.size, k, none⟩ = some u := ⟨_, (hown.cellAt k (by omega)).trans (List.getElem?_eq_getElem (by simp [namesW]; have := hm.out; omega))⟩
          obtain ⟨u0, hcu⟩ := hcu
          have hset := (hown.stored k (.string y)).1
          rw [hst.out _ rfl] at hset
          have hbelS := hbel.setCell (p := ⟨w1.heap.size, k, none⟩) (Nat.le_refl _) (.string y)
          clear hx' hTj hst hy
          go_wp2_with fail
          go_roundw
          case rel => exact ⟨k + 1, by omega, by go_num, hset, hbelS⟩
          case measure => simp [intOf]; omega
        · obtain rfl : k = m := by omega
          rw [List.take_of_length_le (by rw [hm.out]; omega), Nat.sub_self, List.replicate_zero, List.append_nil] at hown
          have hbx := below_chain hb1 hbel
          have hnl : (namesW T l).length = k := by simp [namesW, hm.out]
          have hcc := hown.cells (g := w1.heap.size) rfl
          have hsz := (hown.lt w1.heap.size rfl).2
          have hjl : (Lib.join ((namesW T l).map (·.data.toList)) [32]).length ≤ 140737488355328 := by
            have := Hfl.out
            show (fmtL T l).length ≤ _
            omega
          have hjoin := Tryd.strings_Join w1.heap.size 0 k (namesW T l) ⟨#[32]⟩ wr (fun j x hx => by
            have := hcc j (.string x) (by rw [List.getElem?_map, hx]; rfl)
            rwa [Addr.add_lit] at this) hsz (by omega) (by omega) hjl
          rw [hnl] at hjoin
          clear hcc hjl hnl
          go_wp2_with fail
          refine hjoin.mono ?_; rintro e w3 ⟨rfl, hb3⟩
          go_wp2_with fail
          go_ret2
          exact ⟨_, rfl, rfl, below_chain hbx hb3⟩

end Go.Proofs.YtcgfglgcjpjbaaaDoor

/-
  The contract of words.Rank. No condition.
-/
import Derived.Test.YtcgfglgcjpjbaaaDoorWrdD
import Derived.Test.YtcgfglgcjpjbaaaDoorRatY
import Derived.Test.YtcgfglgcjpjbaaaDoorWrdN
namespace Go.Proofs.YtcgfglgcjpjbaaaDoor
open Go.RowKit
set_option linter.unusedSimpArgs false
set_option linter.unusedVariables false

/-- The number of words before a word. -/
def rankI (s : Int) (l : List Int) : Int := l.foldl (fun r x => r * s + x) 0

theorem rankI_snoc {s : Int} {l : List Int} {k : Nat} {x : Int} (h : l[k]? = some x) : rankI s (l.take (k + 1)) = rankI s (l.take k) * s + x := by
  rw [take_snoc h]; simp [rankI, List.foldl_append]

theorem rankI_bound {s : Int} (h1 : 1 ≤ s) (h2 : s ≤ 32) (l : List Int) (h : ∀ x ∈ l, 1 ≤ x ∧ x ≤ s) : 0 ≤ rankI s l ∧ rankI s l < 4294967296 ^ l.length := by
  induction hn : l.length generalizing l with
  | zero => obtain rfl := List.eq_nil_of_length_eq_zero hn; simp [rankI]
  | succ n ih =>
    have hx : l[n]? = some l[n] := by simp [hn]
    have hl : l.take (n + 1) = l := List.take_of_length_le (by omega)
    obtain ⟨i1, i2⟩ := ih (l.take n) (fun x hx => h x (List.mem_of_mem_take hx)) (by simp; omega)
    have e := rankI_snoc (s := s) hx
    rw [hl] at e
    obtain ⟨x1, x2⟩ := h l[n] (List.getElem_mem _)
    rw [e, Int.pow_succ]
    generalize rankI s (l.take n) = r at *
    generalize (4294967296 : Int) ^ n = B at *
    have h3 : r * s ≤ r * 32 := Int.mul_le_mul_of_nonneg_left h2 i1
    have h4 : 0 ≤ r * s := Int.mul_nonneg i1 (by omega)
    constructor
    · omega
    · omega

theorem fit_rank {s : Int} (h1 : 1 ≤ s) (h2 : s ≤ 32) (l : List Int) (h : ∀ x ∈ l, 1 ≤ x ∧ x ≤ s) (hl : l.length ≤ 256) : Fit 257 (rankI s l : Rat) := by
  obtain ⟨a, b⟩ := rankI_bound h1 h2 l h
  refine fit_int (lim_le ?_) (by omega)
  obtain ⟨K, hK⟩ : ∃ K, K = 257 := ⟨_, rfl⟩
  rw [← hK]
  have hb : (4294967296 : Nat) ^ l.length ≤ 4294967296 ^ K := Nat.pow_le_pow_right (by decide) (by omega)
  have hc : ((4294967296 ^ l.length : Nat) : Int) = (4294967296 : Int) ^ l.length := by rw [Int.natCast_pow]; rfl
  generalize (4294967296 : Nat) ^ K = M at *
  generalize rankI s l = r at *
  rw [← hc] at b
  generalize (4294967296 : Nat) ^ l.length = B at *
  omega

theorem fit_small {x : Int} (h1 : 0 ≤ x) (h2 : x ≤ 4294967295) : Fit 1 (x : Rat) := fit_int (lim_small (by omega)) (Nat.le_refl _)

def rankQ (l : List Int) (s : Int) : Rat := if okW l s then (rankI s l : Rat) else 0
def rankErr (l : List Int) (s : Int) : Int := if okW l s then 0 else 9

set_option maxHeartbeats 4000000 in
theorem wRank_any (l : List Int) (s : Int) (ao : Option Addr) (n cap : Nat) (w : World) (h : Sl w ao n cap (i64s l)) :
    Calls Tryd.prog 14 #[.slice ao n cap, .int .i64 s] w (RatOut2 w (rankQ l s) (rankErr l s)) := by
  have hb := h.bound
  have hn := hid h.lenI
  cases hok : okW l s with
  | false =>
    have h1 : rankQ l s = 0 := by unfold rankQ; rw [hok]; rfl
    have h2 : rankErr l s = 9 := by unfold rankErr; rw [hok]; rfl
    rw [h1, h2]
    have Hok := hid hok
    clear h1 h2 hok
    go_enter Tryd.func14, Tryd.ntmps14
    go_wp2_with fail
    refine (wValid_any l s _ _ _ _ (h.next (below_alloc _))).mono ?_; rintro e w1 ⟨rfl, rfl⟩
    rw [Hok.out]
    go_wp2_with fail
    refine bodyPost_ret (v := .tuple #[.agg #[.bool false, .slice none 0 0, .slice none 0 0], .int .i64 9]) (by simp [results, Tryd.results14, go_sem]) rfl ?_
    exact ⟨_, rfl, ratC_zero _, below_alloc _⟩
  | true =>
    have h1 : rankQ l s = (rankI s l : Rat) := by unfold rankQ; rw [hok]; rfl
    have h2 : rankErr l s = 0 := by unfold rankErr; rw [hok]; rfl
    have hnl := okW_len hok
    rw [hn.out] at hnl
    obtain ⟨hs1, hs2⟩ := okW_s hok
    have hmem : ∀ x ∈ l, 1 ≤ x ∧ x ≤ s := fun x hx => (of_decide_eq_true hok).2.2.2 x hx
    have hfs : Fit 257 (s : Rat) := (fit_small (by omega) (by omega)).mono (by omega)
    rw [h1, h2]
    have Hok := hid hok
    have Hmem := hid hmem
    clear h1 h2 hok hmem
    have hG0 : Bk w w.heap.size (.bool false) (.slice none 0 0) (.slice none 0 0) ((w.alloc (.cells #[.bool false, .slice none 0 0, .slice none 0 0] 37)).alloc (.cells #[.bool false, .slice none 0 0, .slice none 0 0] 37)) := (Bk.start (Below.refl _ _) rfl _ _ _ _).new _
    have hH0 : Bk w (w.heap.size + 1) (.bool false) (.slice none 0 0) (.slice none 0 0) ((w.alloc (.cells #[.bool false, .slice none 0 0, .slice none 0 0] 37)).alloc (.cells #[.bool false, .slice none 0 0, .slice none 0 0] 37)) := Bk.start (below_alloc _) (by simp) _ _ _ _
    go_enter Tryd.func14, Tryd.ntmps14
    go_wp2_with fail
    refine (wValid_any l s _ _ _ _ (h.next (below_alloc _))).mono ?_; rintro e w1 ⟨rfl, rfl⟩
    rw [Hok.out]
    go_wp2_with fail
    go_loopw [8, 16] (fun _ i wr => ∃ (k : Nat) (b : Bool) (ro : Option Addr) (rn rc : Nat) (so : Option Addr) (sn sc : Nat), k ≤ n ∧ i = .int .i64 k ∧ Bk w (w.heap.size + 1) (.bool b) (.slice ro rn rc) (.slice so sn sc) wr ∧ RatC wr (.agg #[.bool b, .slice ro rn rc, .slice so sn sc]) (rankI s (l.take k) : Rat) ∧
      Bk w w.heap.size (.bool false) (.slice none 0 0) (.slice none 0 0) wr) (fun _ i _ => n - (intOf i).toNat)
    case atStart => exact ⟨0, false, none, 0, 0, none, 0, 0, by omega, rfl, hH0, ratC_zero _, hG0⟩
    case round =>
      clear hG0 hH0
      obtain ⟨k, b, ro, rn, rc, so, sn, sc, hk, rfl, hH, C, hG⟩ := hrel
      by_cases hlt : k < n
      · obtain ⟨x, hx', bb, off, rfl, hcell⟩ := (h.next hH.bel).i64 hlt
        have hst := rankI_snoc (s := s) hx'
        obtain ⟨hx1, hx2⟩ := Hmem.out x (List.mem_of_getElem? hx')
        have hfx : Fit 257 (x : Rat) := (fit_small (by omega) (by omega)).mono (by omega)
        have hfr : Fit 257 (rankI s (l.take k) : Rat) := fit_rank hs1 hs2 _ (fun y hy => Hmem.out y (List.mem_of_mem_take hy)) (by simp; have := hn.out; omega)
        have hst2 : Hid ((rankI s (l.take (k + 1)) : Rat) = (rankI s (l.take k) : Rat) * (s : Rat) + (x : Rat)) := hid (by rw [hst, Rat.intCast_add, Rat.intCast_mul])
        have hfm := (fit_mul hfr hfs).mono (show 257 + 257 ≤ 600 by omega)
        clear hst hx'
        generalize (rankI s (l.take k) : Rat) = q at *
        obtain ⟨a0, a1, a2⟩ := hH.c3
        have hd := (Below.refl wr.heap.size wr).drew
        go_wp2_with fail
        go_region_with ((first
          | (go_at_call_of 32 (Value.int .i64 s); refine (number_any s (by omega) (by omega) _).mono ?_; rintro e w1 ⟨v1, rfl, C1, hb1⟩; obtain ⟨b0, b1, b2⟩ := (hH.drew.next hb1).c3)
          | (go_at_call_of 32 (Value.int .i64 x); refine (number_any x (by omega) (by omega) _).mono ?_; rintro e w3 ⟨v3, rfl, C3, hb3⟩)
          | (go_at_call 31; refine (Mul_any q s _ _ _ (((C.next hd).next hb1).toV hfr (by omega)) (C1.toV hfs (by omega)) 257 hfr hfs (by omega)).mono ?_; rintro e w2 ⟨v2, rfl, C2, hb2⟩)
          | (go_at_call 30; refine (Add_any (q * s) x _ _ _ ((C2.next hb3).toV hfm (by omega)) (C3.toV hfx (by omega)) 600 hfm (hfx.mono (by omega)) (by omega)).mono ?_; rintro e w4 ⟨v4, rfl, C4, hb4⟩; obtain ⟨rb', ro', rn', rc', so', sn', sc', rfl⟩ := C4.shape; have hH4 := (((hH.drew.next hb1).next hb2).next hb3).next hb4; have hG4 := (((hG.drew.next hb1).next hb2).next hb3).next hb4; obtain ⟨d0, d1, d2⟩ := hH4.c3; have f0 := hH4.free 0; have f1 := hH4.free 1; have f2 := hH4.free 2)))
        all_goals
          rw [← hst2.out] at C4
          go_wp2_with fail
          go_roundw
          case rel => exact ⟨k + 1, rb', ro', rn', rc', so', sn', sc', by omega, by go_num, hH4.put _ _ _, C4.putOther hH4.res _ _ _, hG4.other (by omega) (by omega) _ _ _⟩
          case measure => simp [intOf]; omega
      · obtain rfl : k = n := by omega
        have hfin : (rankI s (l.take k) : Rat) = (rankI s l : Rat) := by rw [List.take_of_length_le (by rw [hn.out]; omega)]
        rw [hfin] at C
        clear hfin
        obtain ⟨a0, a1, a2⟩ := hH.c3
        obtain ⟨d0, d1, d2⟩ := hG.c3
        have f0 := hG.free 0
        have f1 := hG.free 1
        have f2 := hG.free 2
        go_wp2_with fail
        refine bodyPost_ret (v := .tuple #[.agg #[.bool b, .slice ro rn rc, .slice so sn sc], .int .i64 0]) (by simp [results, Tryd.results14, go_sem, d0, d1, d2]) rfl ?_
        exact (hG.res.rc C).two 0

end Go.Proofs.YtcgfglgcjpjbaaaDoor

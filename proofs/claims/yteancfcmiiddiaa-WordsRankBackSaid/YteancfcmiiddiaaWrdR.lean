/-
  Joined out of XWrdH, XWrdI, XWrdJ, XOwn, XWrdK, XWrdL, XWrdM, XWrdN.
-/
import Derived.Test.YteancfcmiiddiaaWrdE
import Derived.Test.YteancfcmiiddiaaRatR
import Derived.Shelf.Bits.Mul64
import Derived.Shelf.Slices.Reverse
import Derived.Shelf.Slices.Cells
import Derived.Laws.CopyOwn
import Derived.Test.YteancfcmiiddiaaStep
import Derived.Deep.LoopGhost
import Derived.Test.YteancfcmiiddiaaWrdF

/-
  Plain facts of ranks: the word with a rank; made words. No condition.
-/
namespace Go.Proofs.Yteancfcmiiddiaa
open Go.RowKit
set_option linter.unusedSimpArgs false
set_option linter.unusedVariables false

/-- The word with a rank, over s symbols. -/
def unr (s : Nat) (n : Nat) : List Int := if h : n = 0 ∨ s = 0 then [] else unr s ((n - 1) / s) ++ [(((n - 1) % s + 1 : Nat) : Int)]
termination_by n
decreasing_by
  have h1 := Nat.div_le_self (n - 1) s
  omega

theorem unr_zero (s : Nat) : unr s 0 = [] := by rw [unr]; simp
theorem unr_pos {s n : Nat} (hs : s ≠ 0) (hn : n ≠ 0) : unr s n = unr s ((n - 1) / s) ++ [(((n - 1) % s + 1 : Nat) : Int)] := by rw [unr, dif_neg (by omega)]

theorem rankI_append (s : Int) (l : List Int) (x : Int) : rankI s (l ++ [x]) = rankI s l * s + x := by simp [rankI, List.foldl_append]

theorem rank_unr {s : Nat} (hs : s ≠ 0) (n : Nat) : rankI s (unr s n) = n := by
  induction n using Nat.strongRecOn with
  | _ n ih =>
    by_cases hn : n = 0
    · subst hn; rw [unr_zero]; rfl
    · rw [unr_pos hs hn, rankI_append, ih _ (by have := Nat.div_le_self (n - 1) s; omega)]
      have h := Nat.mod_add_div (n - 1) s
      have e : (((n - 1) / s : Nat) : Int) * (s : Int) = ((s * ((n - 1) / s) : Nat) : Int) := by rw [Int.natCast_mul, Int.mul_comm]
      rw [e]
      generalize s * ((n - 1) / s) = a at *
      omega

/-- The rank of the last word of k symbols. -/
def topR (s : Nat) : Nat → Nat
  | 0 => 0
  | k + 1 => topR s k * s + s

theorem unr_len {s : Nat} (hs : s ≠ 0) (k : Nat) : ∀ n, (unr s n).length ≤ k ↔ n ≤ topR s k := by
  induction k with
  | zero =>
    intro n
    by_cases hn : n = 0
    · subst hn; rw [unr_zero]; simp [topR]
    · rw [unr_pos hs hn]; simp [topR]; omega
  | succ k ih =>
    intro n
    by_cases hn : n = 0
    · subst hn; rw [unr_zero]; simp
    · rw [unr_pos hs hn, List.length_append, List.length_singleton, topR]
      have h1 := ih ((n - 1) / s)
      have h2 : (n - 1) / s ≤ topR s k ↔ n ≤ topR s k * s + s := by
        rw [← Nat.lt_succ_iff, Nat.div_lt_iff_lt_mul (Nat.pos_of_ne_zero hs), Nat.succ_mul]
        omega
      rw [← h2, ← h1]
      omega

theorem topR_rank (s : Nat) (k : Nat) : rankI s (List.replicate k (s : Int)) = topR s k := by
  induction k with
  | zero => rfl
  | succ k ih => rw [List.replicate_succ', rankI_append, ih, topR]; simp

theorem unr_range {s : Nat} (hs : s ≠ 0) (n : Nat) : ∀ x ∈ unr s n, 1 ≤ x ∧ x ≤ s := by
  induction n using Nat.strongRecOn with
  | _ n ih =>
    by_cases hn : n = 0
    · subst hn; rw [unr_zero]; simp
    · rw [unr_pos hs hn]
      intro x hx
      rw [List.mem_append] at hx
      rcases hx with hx | hx
      · exact ih _ (by have := Nat.div_le_self (n - 1) s; omega) x hx
      · simp only [List.mem_singleton] at hx
        subst hx
        have := Nat.mod_lt (n - 1) (Nat.pos_of_ne_zero hs)
        omega

/-! ### Rounding -/
theorem down_zero (q : Rat) : downI q 0 = ((q.floor : Int) : Rat) := by
  unfold downI
  rw [if_pos (by decide)]
  unfold downQ
  have h1 : ((2 ^ (Int.toNat 0) : Nat) : Rat) = 1 := rfl
  rw [h1, Rat.mul_one]
  grind

theorem floor_nat (m s : Nat) (hs : 0 < s) : (((m : Rat) / (s : Rat)).floor : Int) = ((m / s : Nat) : Int) := by
  have h := floor_frac false m s hs
  unfold sgn floorN at h
  simp only [Bool.false_eq_true, if_false, false_and] at h
  rw [Rat.mkRat_eq_div] at h
  exact h

theorem nat_rat (a b : Nat) (h : a = b) : (a : Rat) = (b : Rat) := by rw [h]

/-- The digit and the rest. -/
theorem last_core (n s : Nat) (hn : n ≠ 0) (hs : 0 < s) : downI (((n : Rat) - 1) / (s : Rat)) 0 = (((n - 1) / s : Nat) : Rat) ∧ ((n : Rat) - 1) - (((n - 1) / s : Nat) : Rat) * (s : Rat) = (((n - 1) % s : Nat) : Rat) := by
  have e1 : (n : Rat) - 1 = ((n - 1 : Nat) : Rat) := by
    have : (n : Rat) = ((n - 1 : Nat) : Rat) + 1 := by
      have h := nat_rat n (n - 1 + 1) (by omega)
      rw [h, Rat.natCast_add]; rfl
    rw [this]; grind
  rw [e1, down_zero, floor_nat _ _ hs]
  refine ⟨rfl, ?_⟩
  have h2 := nat_rat _ _ (Nat.mod_add_div (n - 1) s)
  rw [Rat.natCast_add, Rat.natCast_mul] at h2
  grind

theorem whole_nat (n : Nat) (h : n ≤ 9223372036854775807) : wholeV (n : Rat) = n ∧ wholeOk (n : Rat) = true := by
  have h1 : ((n : Nat) : Rat).num = (n : Int) := rfl
  have h2 : ((n : Nat) : Rat).den = 1 := rfl
  have h3 : wholeOk (n : Rat) = true := by
    unfold wholeOk
    rw [decide_eq_true_eq, h1, h2]
    omega
  refine ⟨?_, h3⟩
  unfold wholeV
  rw [h3, h1]; rfl

theorem fit_nat {k n : Nat} (h : lim n ≤ k) (hk : 1 ≤ k) : Fit k (n : Rat) := ⟨h, by rw [show ((n : Nat) : Rat).den = 1 from rfl, lim_one]; exact hk⟩

end Go.Proofs.Yteancfcmiiddiaa

/-
  The contract of words.last. Conditions: the rank is a whole number other than 0; sizes.
-/
namespace Go.Proofs.Yteancfcmiiddiaa
open Go.RowKit
set_option linter.unusedSimpArgs false
set_option linter.unusedVariables false

theorem bkq_new {w W : World} {q : Rat} {s : Bool} {ao bo : Option Addr} {n cap m cap' : Nat} (hb : Below w.heap.size w W) (C : RatC W (.agg #[.bool s, .slice ao n cap, .slice bo m cap']) q) (T : TypeId) :
    BkQ w W.heap.size q (W.alloc (.cells #[.bool s, .slice ao n cap, .slice bo m cap'] T)) :=
  ⟨_, _, _, _, _, _, _, Bk.start hb rfl _ _ _ _, C.next (below_alloc _)⟩

theorem BkQ.next {w w' w'' : World} {G : Nat} {q : Rat} (h : BkQ w G q w') (hb : Below w'.heap.size w' w'') : BkQ w G q w'' := by
  obtain ⟨s, ao, n, cap, bo, m, cap', k, C⟩ := h
  exact ⟨s, ao, n, cap, bo, m, cap', k.next hb, C.next hb⟩
theorem BkQ.otherSet {w w' : World} {G g : Nat} {q : Rat} {b0 : Bool} {a1 a2 : Option Addr} {n1 n2 k1 k2 : Nat} (h : BkQ w G q w') (hg : g ≠ G) (kg : Bk w g (.bool b0) (.slice a1 n1 k1) (.slice a2 n2 k2) w') (x y z : Value) : BkQ w G q (((w'.setCell ⟨g, 0, none⟩ x).setCell ⟨g, 1, none⟩ y).setCell ⟨g, 2, none⟩ z) := by
  obtain ⟨s, ao, n, cap, bo, m, cap', k, C⟩ := h
  exact ⟨s, ao, n, cap, bo, m, cap', k.other hg kg.ge _ _ _, C.putOther kg.res _ _ _⟩

set_option maxHeartbeats 8000000 in
theorem last_any (r S : Nat) (hr0 : r ≠ 0) (hS1 : 1 ≤ S) (hS2 : S ≤ 32) (v : Value) (w : World) (k : Nat) (hf : Fit k (r : Rat)) (hk : k ≤ 1073741824) (h : RatV w v (r : Rat)) :
    Calls Try.prog 99 #[v, .int .i64 (S : Int)] w fun e w' => ∃ v', e = .returned (.tuple #[.int .i64 (((r - 1) % S : Nat) + 1 : Int), v']) ∧ RatC w' v' (((r - 1) / S : Nat) : Rat) ∧ Below w.heap.size w w' := by
  obtain ⟨s, ao, n, cap, bo, m, cap', rfl⟩ := h.shape
  obtain ⟨core1, core2⟩ : downI (((r : Rat) - ((1 : Int) : Rat)) / ((S : Int) : Rat)) 0 = (((r - 1) / S : Nat) : Rat) ∧ ((r : Rat) - ((1 : Int) : Rat)) - (((r - 1) / S : Nat) : Rat) * ((S : Int) : Rat) = (((r - 1) % S : Nat) : Rat) := last_core r S hr0 (by omega)
  have hwn := whole_nat ((r - 1) % S) (by have := Nat.mod_lt (r - 1) (show 0 < S by omega); omega)
  have hdig : (r - 1) % S < 32 := by have := Nat.mod_lt (r - 1) (show 0 < S by omega); omega
  have fSym : Fit 1 (((S : Int) : Rat)) := fit_small (by omega) (by omega)
  have fOne : Fit 1 (((1 : Int) : Rat)) := fit_small (by decide) (by decide)
  have hsub := fit_sub hf fOne
  have hdiv := fit_div hsub fSym
  have hrest : Fit (k + 10) (((r - 1) / S : Nat) : Rat) := fit_nat (Nat.le_trans (lim_mono (Nat.le_trans (Nat.div_le_self _ _) (Nat.sub_le _ _))) (Nat.le_trans hf.1 (by omega))) (by omega)
  have hS0 : ((S : Int) : Rat) ≠ 0 := by
    intro h
    have h2 : ((S : Int) : Rat) = ((0 : Int) : Rat) := h
    have := Rat.intCast_inj.1 h2
    omega
  have hde : divErr ((S : Int) : Rat) = 0 := if_neg hS0
  have hG0 : Bk w (w.heap.size + 1) (.bool false) (.slice none 0 0) (.slice none 0 0) ((w.alloc (.cells #[.bool s, .slice ao n cap, .slice bo m cap'] 54)).alloc (.cells #[.bool false, .slice none 0 0, .slice none 0 0] 54)) := Bk.start (below_alloc _) (by simp) _ _ _ _
  have hB0 : Bk w w.heap.size (.bool s) (.slice ao n cap) (.slice bo m cap') ((w.alloc (.cells #[.bool s, .slice ao n cap, .slice bo m cap'] 54)).alloc (.cells #[.bool false, .slice none 0 0, .slice none 0 0] 54)) := (Bk.start (Below.refl _ _) rfl _ _ _ _).new _
  have Core1 := hid core1; have Core2 := hid core2; have Hwn := hid hwn; have Hde := hid hde
  clear core1 core2 hwn hde
  go_enter Try.func99, Try.ntmps99
  go_upto_region 1 with fail
  go_cut [6] (fun s6 wx => ∃ g, s6 = .pointer (some ⟨g, 0, none⟩) ∧ w.heap.size + 1 < g ∧ BkQ w g ((r : Rat) - ((1 : Int) : Rat)) wx ∧ Bk w (w.heap.size + 1) (.bool false) (.slice none 0 0) (.slice none 0 0) wx)
  case first =>
    generalize (w.alloc (.cells #[.bool s, .slice ao n cap, .slice bo m cap'] 54)).alloc (.cells #[.bool false, .slice none 0 0, .slice none 0 0] 54) = W at *
    have hd := (Below.refl W.heap.size W).drew
    have lt0 : w.heap.size + 1 < W.heap.size := hG0.lt
    have hSW : (C3 w.heap.size (.bool s) (.slice ao n cap) (.slice bo m cap') W) := hB0.c3
    have hS0 : (C3 w.heap.size (.bool s) (.slice ao n cap) (.slice bo m cap') W.drew) := hB0.c3.next hd
    have hK : ∀ w' w'', (C3 w.heap.size (.bool s) (.slice ao n cap) (.slice bo m cap') w') → Below w'.heap.size w' w'' → (C3 w.heap.size (.bool s) (.slice ao n cap) (.slice bo m cap') w'') := fun w' w'' h hb => h.next hb
    have hSt : ∀ w' G (x y z : Value), w.heap.size + 1 < G → (C3 w.heap.size (.bool s) (.slice ao n cap) (.slice bo m cap') w') → (C3 w.heap.size (.bool s) (.slice ao n cap) (.slice bo m cap') (((w'.setCell ⟨G, 0, none⟩ x).setCell ⟨G, 1, none⟩ y).setCell ⟨G, 2, none⟩ z)) := fun w' G x y z hG h => h.set3 (by omega) _ _ _
    go_region_held3 (fun w' => (C3 w.heap.size (.bool s) (.slice ao n cap) (.slice bo m cap') w'))
      (repeat (first | with_reducible refine hSt _ _ _ _ _ (by with_reducible first | exact lt0 | exact Nat.lt_succ_of_lt lt0 | exact lt1 | exact Nat.lt_succ_of_lt lt1 | exact lt2) ?_ | with_reducible assumption | with_reducible refine C3.new ?_ _ | with_reducible refine hK _ _ ?_ hb1 | with_reducible refine hK _ _ ?_ hb2 | with_reducible refine hK _ _ ?_ (Below.refl _ _).drew))
      (first
        | (go_at_call 94; refine (number_any 1 (by decide) (by decide) _).mono ?_; rintro e w1 ⟨v1, rfl, C1, hb1⟩; have lt1 : w.heap.size + 1 < w1.heap.size := Nat.lt_of_lt_of_le (Nat.lt_of_lt_of_le lt0 (show W.heap.size ≤ _ by simp)) hb1.size; obtain ⟨hc1, hf1⟩ := bcell hb1; have hz1 := hb1.size; (try simp at hz1); (try have hu1 := Nat.lt_of_succ_le hz1); (try have hy1 := Nat.lt_of_succ_lt hu1))
        | (go_at_call 130; refine (Sub_any (r : Rat) ((1 : Int) : Rat) _ _ _ (h.next (by first | exact below_chain hG0.bel.drew hb1 | exact below_new (below_chain hG0.bel.drew hb1) _ | exact below_chain (Below.drew (below_new hG0.bel _)) hb1)) (by first | exact C1.toV fOne (by omega) | exact (C1.next (below_alloc _)).toV fOne (by omega)) (k + 1) (hf.mono (by omega)) (fOne.mono (by omega)) (by omega)).mono ?_; rintro e w2 ⟨v2, rfl, C2, hb2⟩; obtain ⟨rb, ro, rn, rc, so, sn, sc, rfl⟩ := C2.shape; obtain ⟨hc2, hf2⟩ := bcell hb2; have hz2 := hb2.size; (try simp at hz2); (try have hu2 := Nat.lt_of_succ_le hz2); (try have hy2 := Nat.lt_of_succ_lt hu2); (try have hx21 := Nat.lt_of_lt_of_le hu1 (Nat.le_trans (by simp) hb2.size)); (try have hw21 := Nat.lt_of_lt_of_le hy1 (Nat.le_trans (by simp) hb2.size))))
    · go_wp2_with fail
      go_meet
      exact ⟨_, rfl, Nat.lt_of_lt_of_le lt1 hb2.size, bkq_new (below_chain (below_chain hG0.bel.drew hb1) hb2) C2 _, ((hG0.drew.next hb1).next hb2).new _⟩
    · go_wp2_with fail
      go_meet
      have kg : Bk w w1.heap.size (.bool false) (.slice none 0 0) (.slice none 0 0) w2 := (Bk.start (below_chain hG0.bel.drew hb1) rfl _ _ _ _).next hb2
      have kG := ((hG0.drew.next hb1).new (.cells #[.bool false, .slice none 0 0, .slice none 0 0] 54)).next hb2
      exact ⟨_, rfl, lt1, kg.putQ C2, kG.other (Nat.ne_of_gt lt1) kg.ge _ _ _⟩
    · go_wp2_with fail
      go_meet
      have kg : Bk w W.heap.size (.bool false) (.slice none 0 0) (.slice none 0 0) w2 := ((Bk.start hG0.bel rfl _ _ _ _).drew.next hb1).next hb2
      have kG := (((hG0.new (.cells #[.bool false, .slice none 0 0, .slice none 0 0] 54)).drew).next hb1).next hb2
      exact ⟨_, rfl, lt0, kg.putQ C2, kG.other (Nat.ne_of_gt lt0) kg.ge _ _ _⟩
  case rest =>
    obtain ⟨g, rfl, hgl, ⟨xs, xo, xn, xc, yo, yn, yc, kg, Cg⟩, kG⟩ := hcut
    have hbel := kg.bel
    clear hG0 hB0 h
    generalize hL : (r : Rat) - ((1 : Int) : Rat) = L at *
    have HL := hid hL
    clear hL
    go_upto_region 3 with fail
    go_cut [7] (fun s7 wx => ∃ hh, s7 = .pointer (some ⟨hh, 0, none⟩) ∧ g < hh ∧ BkQ w hh (L / ((S : Int) : Rat)) wx ∧ (Bk w g (.bool xs) (.slice xo xn xc) (.slice yo yn yc) wx ∧ RatC wx (.agg #[.bool xs, .slice xo xn xc, .slice yo yn yc]) L) ∧ Bk w (w.heap.size + 1) (.bool false) (.slice none 0 0) (.slice none 0 0) wx)
    case first =>
      have hd := (Below.refl wc.heap.size wc).drew
      have lt0 : g < wc.heap.size := kg.lt
      have hSW : (C3 g (.bool xs) (.slice xo xn xc) (.slice yo yn yc) wc) := kg.c3
      have hS0 : (C3 g (.bool xs) (.slice xo xn xc) (.slice yo yn yc) wc.drew) := kg.c3.next hd
      have hK : ∀ w' w'', (C3 g (.bool xs) (.slice xo xn xc) (.slice yo yn yc) w') → Below w'.heap.size w' w'' → (C3 g (.bool xs) (.slice xo xn xc) (.slice yo yn yc) w'') := fun w' w'' h hb => h.next hb
      have hSt : ∀ w' G (x y z : Value), g < G → (C3 g (.bool xs) (.slice xo xn xc) (.slice yo yn yc) w') → (C3 g (.bool xs) (.slice xo xn xc) (.slice yo yn yc) (((w'.setCell ⟨G, 0, none⟩ x).setCell ⟨G, 1, none⟩ y).setCell ⟨G, 2, none⟩ z)) := fun w' G x y z hG h => h.set3 (by omega) _ _ _
      go_region_held3 (fun w' => (C3 g (.bool xs) (.slice xo xn xc) (.slice yo yn yc) w'))
        (repeat (first | with_reducible refine hSt _ _ _ _ _ (by with_reducible first | exact lt0 | exact lt1 | exact lt2) ?_ | with_reducible assumption | with_reducible refine C3.new ?_ _ | with_reducible refine hK _ _ ?_ hb1 | with_reducible refine hK _ _ ?_ hb2 | with_reducible refine hK _ _ ?_ (Below.refl _ _).drew))
        (first
          | (go_at_call 94; refine (number_any S (by omega) (by omega) _).mono ?_; rintro e w1 ⟨v1, rfl, C1, hb1⟩; have lt1 : g < w1.heap.size := Nat.lt_of_lt_of_le (Nat.lt_of_lt_of_le lt0 (show wc.heap.size ≤ _ by simp)) hb1.size; obtain ⟨hc1, hf1⟩ := bcell hb1; have hz1 := hb1.size; (try simp at hz1); (try have hu1 := Nat.lt_of_succ_le hz1); (try have hy1 := Nat.lt_of_succ_lt hu1))
          | (go_at_call 135; refine (Div_any L ((S : Int) : Rat) _ _ _ (by first | exact ((Cg.next hd).next hb1).toV hsub (by omega) | exact (((Cg.next hd).next hb1).next (below_alloc _)).toV hsub (by omega) | exact (((Cg.next (below_alloc _)).next (Below.refl _ _).drew).next hb1).toV hsub (by omega)) (by first | exact C1.toV fSym (by omega) | exact (C1.next (below_alloc _)).toV fSym (by omega)) (k + 2) hsub (fSym.mono (by omega)) (by omega)).mono ?_; rintro e w2 ⟨v2, rfl, C2, hb2⟩; obtain ⟨rb, ro, rn, rc, so, sn, sc, rfl⟩ := C2.shape; obtain ⟨hc2, hf2⟩ := bcell hb2; have hz2 := hb2.size; (try simp at hz2); (try have hu2 := Nat.lt_of_succ_le hz2); (try have hy2 := Nat.lt_of_succ_lt hu2); (try have hx21 := Nat.lt_of_lt_of_le hu1 (Nat.le_trans (by simp) hb2.size)); (try have hw21 := Nat.lt_of_lt_of_le hy1 (Nat.le_trans (by simp) hb2.size))))
      · go_wp2_with fail
        go_meet
        have k1 := ((kg.drew.next hb1).next hb2).new (.cells #[.bool rb, .slice ro rn rc, .slice so sn sc] 54)
        exact ⟨_, rfl, Nat.lt_of_lt_of_le lt1 hb2.size, bkq_new (below_chain (below_chain hbel.drew hb1) hb2) C2 _, ⟨k1, (((Cg.next hd).next hb1).next hb2).next (below_alloc _)⟩, ((kG.drew.next hb1).next hb2).new _⟩
      · go_wp2_with fail
        go_meet
        have kh : Bk w w1.heap.size (.bool false) (.slice none 0 0) (.slice none 0 0) w2 := (Bk.start (below_chain hbel.drew hb1) rfl _ _ _ _).next hb2
        have kG := ((kG.drew.next hb1).new (.cells #[.bool false, .slice none 0 0, .slice none 0 0] 54)).next hb2
        have k1 := ((kg.drew.next hb1).new (.cells #[.bool false, .slice none 0 0, .slice none 0 0] 54)).next hb2
        have c1 := (((Cg.next hd).next hb1).next (below_alloc (.cells #[.bool false, .slice none 0 0, .slice none 0 0] 54))).next hb2
        exact ⟨_, rfl, lt1, kh.putQ C2, ⟨k1.other (Nat.ne_of_gt lt1) kh.ge _ _ _, c1.putOther kh.res _ _ _⟩, kG.other (Nat.ne_of_gt (Nat.lt_trans hgl lt1)) kh.ge _ _ _⟩
      · go_wp2_with fail
        go_meet
        have kh : Bk w wc.heap.size (.bool false) (.slice none 0 0) (.slice none 0 0) w2 := ((Bk.start hbel rfl _ _ _ _).drew.next hb1).next hb2
        have kG := (((kG.new (.cells #[.bool false, .slice none 0 0, .slice none 0 0] 54)).drew).next hb1).next hb2
        have k1 := (((kg.new (.cells #[.bool false, .slice none 0 0, .slice none 0 0] 54)).drew).next hb1).next hb2
        have c1 := (((Cg.next (below_alloc (.cells #[.bool false, .slice none 0 0, .slice none 0 0] 54))).next (Below.refl _ _).drew).next hb1).next hb2
        exact ⟨_, rfl, lt0, kh.putQ C2, ⟨k1.other (Nat.ne_of_gt lt0) kh.ge _ _ _, c1.putOther kh.res _ _ _⟩, kG.other (Nat.ne_of_gt (Nat.lt_trans hgl lt0)) kh.ge _ _ _⟩
    case rest =>
      clear kg Cg kG hbel
      obtain ⟨hh, rfl, hhl, ⟨ts, to', tn, tc, vo, vn, vc, kh, Ch⟩, ⟨kg, Cg⟩, kG⟩ := hcut
      obtain ⟨a0, a1, a2⟩ := kh.c3
      go_wp2_with fail
      refine (Down_any (L / ((S : Int) : Rat)) 0 _ _ (Ch.toV hdiv (by omega)) (k + 3) hdiv (by omega)).mono ?_; rintro e w3 ⟨v3, rfl, C3', hb3⟩
      obtain ⟨ys, zo, zn, zc, uo, un, uc, rfl⟩ := C3'.shape
      have e3 : downI (L / ((S : Int) : Rat)) 0 = (((r - 1) / S : Nat) : Rat) := Core1.out
      rw [e3] at C3'
      clear e3
      have kg3 := kg.next hb3
      have kG3 := kG.next hb3
      obtain ⟨b0, b1, b2⟩ := kG3.c3
      have f0 := kG3.free 0
      have f1 := kG3.free 1
      have f2 := kG3.free 2
      go_wp2_with fail
      have kG4 := kG3.put (.bool ys) (.slice zo zn zc) (.slice uo un uc)
      have C4 := C3'.putOther kG3.res (.bool ys) (.slice zo zn zc) (.slice uo un uc)
      have kg4 := kg3.other (Nat.ne_of_lt hgl) kG3.ge (.bool ys) (.slice zo zn zc) (.slice uo un uc)
      have Cg4 := (Cg.next hb3).putOther kG3.res (.bool ys) (.slice zo zn zc) (.slice uo un uc)
      clear b0 b1 b2 f0 f1 f2 a0 a1 a2 kg kG kh Ch kg3 kG3 Cg C3'
      generalize ((w3.setCell ⟨w.heap.size + 1, 0, none⟩ (.bool ys)).setCell ⟨w.heap.size + 1, 1, none⟩ (.slice zo zn zc)).setCell ⟨w.heap.size + 1, 2, none⟩ (.slice uo un uc) = W4 at *
      have hd4 := (Below.refl W4.heap.size W4).drew
      have hS0 : (C3 g (.bool xs) (.slice xo xn xc) (.slice yo yn yc) W4.drew ∧ C3 (w.heap.size + 1) (.bool ys) (.slice zo zn zc) (.slice uo un uc) W4.drew) := ⟨kg4.drew.c3, kG4.drew.c3⟩
      have hK : ∀ w' w'', (C3 g (.bool xs) (.slice xo xn xc) (.slice yo yn yc) w' ∧ C3 (w.heap.size + 1) (.bool ys) (.slice zo zn zc) (.slice uo un uc) w') → Below w'.heap.size w' w'' → (C3 g (.bool xs) (.slice xo xn xc) (.slice yo yn yc) w'' ∧ C3 (w.heap.size + 1) (.bool ys) (.slice zo zn zc) (.slice uo un uc) w'') := fun w' w'' h hb => ⟨h.1.next hb, h.2.next hb⟩
      have hbel4 := kg4.bel
      have hmul := fit_mul hrest (fSym.mono (show 1 ≤ 2 by omega))
      have hsub2 := fit_sub hsub hmul
      go_region_held3 (fun w' => (C3 g (.bool xs) (.slice xo xn xc) (.slice yo yn yc) w' ∧ C3 (w.heap.size + 1) (.bool ys) (.slice zo zn zc) (.slice uo un uc) w'))
        (repeat (first | with_reducible assumption | with_reducible refine hK _ _ ?_ hb5 | with_reducible refine hK _ _ ?_ hb6 | with_reducible refine hK _ _ ?_ hb7 | with_reducible refine hK _ _ ?_ hb8))
        (first
          | (go_at_call 94; refine (number_any S (by omega) (by omega) _).mono ?_; rintro e w5 ⟨v5, rfl, C5, hb5⟩)
          | (go_at_call 93; refine (Mul_any (((r - 1) / S : Nat) : Rat) ((S : Int) : Rat) _ _ _ (((C4.next hd4).next hb5).toV hrest (by omega)) (C5.toV fSym (by omega)) (k + 10) hrest (fSym.mono (by omega)) (by omega)).mono ?_; rintro e w6 ⟨v6, rfl, C6, hb6⟩)
          | (go_at_call 130; refine (Sub_any L ((((r - 1) / S : Nat) : Rat) * ((S : Int) : Rat)) _ _ _ ((((Cg4.next hd4).next hb5).next hb6).toV hsub (by omega)) (C6.toV hmul (by omega)) (k + 12) (hsub.mono (by omega)) (hmul.mono (by omega)) (by omega)).mono ?_; rintro e w7 ⟨v7, rfl, C7, hb7⟩)
          | (go_at_call 136; refine (Whole_any _ _ _ (C7.toV hsub2 (by omega))).mono ?_; rintro e w8 ⟨rfl, hb8⟩))
      have e8 : L - (((r - 1) / S : Nat) : Rat) * ((S : Int) : Rat) = (((r - 1) % S : Nat) : Rat) := Core2.out
      rw [e8, Hwn.out.1, Hwn.out.2]
      clear e8
      have k9 := (((kG4.drew.next hb5).next hb6).next hb7).next hb8
      have C9 := ((((C4.next hd4).next hb5).next hb6).next hb7).next hb8
      obtain ⟨b0, b1, b2⟩ := k9.c3
      have f0 := k9.free 0
      have f1 := k9.free 1
      have f2 := k9.free 2
      obtain ⟨d, hdd⟩ : ∃ d, (r - 1) % S = d := ⟨_, rfl⟩
      rw [hdd]
      have Hdd := hid hdd
      rw [hdd] at hdig
      clear hdd
      go_wp2_with fail
      go_region
      all_goals
        go_wp2_with fail
        refine bodyPost_ret (v := .tuple #[.int .i64 ((d : Int) + 1), .agg #[.bool ys, .slice zo zn zc, .slice uo un uc]]) (by simp [results, Try.results99, go_sem, b0, b1, b2]) rfl ?_
        rw [Hdd.out]
        exact ⟨_, rfl, (C9.putOther k9.res _ _ _).next (Below.refl _ _).drew, (k9.put _ _ _).drew.bel⟩

end Go.Proofs.Yteancfcmiiddiaa

/-
  bits.Mul and slices.Reverse out of the shelf, at this dump; the contracts of slices.Reverse on a row of the call's own and of slices.Repeat at one int. No condition but sizes.
-/
namespace Go.Proofs.Yteancfcmiiddiaa
open Go.Shelf Go.RowKit
set_option linter.unusedSimpArgs false
set_option linter.unusedVariables false

def Try.lays212_ren : Go.Shelf.Ren := ⟨fun | 212 => 129 | 263 => 159 | 264 => 160 | n => n, fun | 46 => 127 | 51 => 64 | 146 => 150 | 53 => 136 | 148 => 152 | n => n, fun | n => n⟩

theorem Try.lays212 : Go.Proofs.Lays.n212 Try.prog Try.lays212_ren := {
  mixed := by kernel_rfl
  f212 := Try.func129.trans (congrArg some (by kernel_rfl))
  f263 := Try.func159.trans (congrArg some (by kernel_rfl))
  f264 := Try.func160.trans (congrArg some (by kernel_rfl))
  t46 := Try.underlying127
  a46 := Try.isAgg127
  z46 := Try.sizeOf127
  v46 := Try.zeroValue127
  t51 := Try.underlying64
  a51 := Try.isAgg64
  z51 := Try.sizeOf64
  v51 := Try.zeroValue64
  t53 := Try.underlying136
  a53 := Try.isAgg136
  z53 := Try.sizeOf136
  v53 := Try.zeroValue136
  t146 := Try.underlying150
  a146 := Try.isAgg150
  z146 := Try.sizeOf150
  v146 := Try.zeroValue150
  t148 := Try.underlying152
  a148 := Try.isAgg152
  z148 := Try.sizeOf152
  v148 := Try.zeroValue152 }

theorem Try.bits_Mul (x y : Nat) (hx : x < 18446744073709551616) (hy : y < 18446744073709551616) (w : World) :
    Calls Try.prog 129 #[.int .u64 x, .int .u64 y] w fun e w' => e = .returned (.tuple #[.int .u64 ((x * y / 18446744073709551616 : Nat) : Int), .int .u64 ((x * y % 18446744073709551616 : Nat) : Int)]) ∧ w' = w := Any.bits_Mul Try.lays212 x y hx hy w

def Try.lays112_ren : Go.Shelf.Ren := ⟨fun | 112 => 100 | n => n, fun | 28 => 25 | 3 => 3 | 4 => 4 | 0 => 0 | n => n, fun | n => n⟩

theorem Try.lays112 : Go.Proofs.Lays.n112 Try.prog Try.lays112_ren := {
  mixed := by kernel_rfl
  f112 := Try.func100.trans (congrArg some (by kernel_rfl))
  t0 := Try.underlying0
  a0 := Try.isAgg0
  z0 := Try.sizeOf0
  v0 := Try.zeroValue0
  t3 := Try.underlying3
  a3 := Try.isAgg3
  z3 := Try.sizeOf3
  v3 := Try.zeroValue3
  t4 := Try.underlying4
  a4 := Try.isAgg4
  z4 := Try.sizeOf4
  v4 := Try.zeroValue4
  t28 := Try.underlying25
  a28 := Try.isAgg25
  z28 := Try.sizeOf25
  v28 := Try.zeroValue25 }

theorem Try.slices_Reverse_int_empty (a : Option Addr) (cap : Nat) (w : World) :
    Calls Try.prog 100 #[.slice a 0 cap] w fun e w' => e = .returned (.tuple #[]) ∧ w' = w := Any.slices_Reverse_int_empty Try.lays112 a cap w

theorem Try.slices_Reverse_int_cells (b off n c : Nat) (zs : List Int) (w : World) (hz : n ≤ zs.length) (hbig : n ≤ 9223372036854775807) (hc : ∀ j, j < zs.length → w.cell? ⟨b, off + j, none⟩ = some (.int .i64 (zs.getD j 0))) (hf : ∀ j, j < n → w.frozen? ⟨b, off + j, none⟩ = false) :
    Calls Try.prog 100 #[.slice (some ⟨b, off, none⟩) n c] w fun e w' => e = .returned (.tuple #[]) ∧ ∃ q, w' = (w.drewN q).setCells b off ((zs.take n).reverse.map (Value.int .i64)) := Any.slices_Reverse_int_cells Try.lays112 b off n c zs w hz hbig hc hf


/-- A row of the call's own is written from its start on. -/
theorem own_setCells {base : Nat} {e : TypeId} {g n cap : Nat} (ys : List Value) : ∀ (o : Nat) (w : World) (xs : List Value), w.ownsRow base e 1 (.slice (some ⟨g, 0, none⟩) n cap) n xs → o + ys.length ≤ n →
    (w.setCells g o ys).ownsRow base e 1 (.slice (some ⟨g, 0, none⟩) n cap) n (xs.take o ++ (ys ++ xs.drop (o + ys.length))) ∧ (base ≤ g → ∀ B, B ≤ g → Below B w (w.setCells g o ys)) := by
  induction ys with
  | nil =>
    intro o w xs h hl
    refine ⟨?_, fun _ B _ => Below.refl _ _⟩
    show w.ownsRow base e 1 (.slice (some ⟨g, 0, none⟩) n cap) n _
    simpa using h
  | cons y ys ih =>
    intro o w xs h hl
    simp only [List.length_cons] at hl
    have h1 := (h.stored o y).1
    obtain ⟨k1, k2⟩ := ih (o + 1) _ _ h1 (by omega)
    have hx : xs.length = n := by have := h.1; simpa using this
    refine ⟨?_, fun hb B hB => ?_⟩
    · have e1 : (xs.set o y).take (o + 1) ++ (ys ++ (xs.set o y).drop (o + 1 + ys.length)) = xs.take o ++ (y :: ys ++ xs.drop (o + (y :: ys).length)) := by
        have hs : (xs.set o y)[o]? = some y := by rw [List.getElem?_set_self]; omega
        rw [take_snoc hs, List.take_set_of_le (by omega), List.drop_set_of_lt (by omega)]
        simp only [List.length_cons, List.append_assoc, List.cons_append, List.nil_append]
        rw [show o + 1 + ys.length = o + (ys.length + 1) by omega]
      rw [e1] at k1
      exact k1
    · have := k2 hb B hB
      exact ((Below.refl B w).setCell (p := ⟨g, o, none⟩) hB y).trans this

/-- slices.Reverse of a row that the call owns. -/
theorem reverse_own (base : Nat) (v : Value) (n : Nat) (l : List Int) (w : World) (h : w.ownsRow base 3 1 v n (i64s l)) (hbig : n ≤ 9223372036854775807) :
    Calls Try.prog 100 #[v] w fun e w' => e = .returned (.tuple #[]) ∧ w'.ownsRow base 3 1 v n (i64s l.reverse) ∧ Below base w w' := by
  have hl : l.length = n := by have := h.1; simpa [i64s] using this
  rcases h.2 with ⟨rfl, h0⟩ | ⟨g, cap, cur, rfl, hb, _⟩
  · subst h0
    obtain rfl : l = [] := List.eq_nil_of_length_eq_zero hl
    refine (Try.slices_Reverse_int_empty none 0 w).mono ?_
    rintro e w' ⟨rfl, rfl⟩
    exact ⟨rfl, h, Below.refl _ _⟩
  · refine (Try.slices_Reverse_int_cells g 0 n cap l w (by omega) hbig ?_ ?_).mono ?_
    · intro j hj
      rw [Nat.zero_add, h.cellAt j (by omega)]
      simp [i64s, List.getD, hj]
    · intro j hj
      exact h.frozenAt _
    · rintro e w' ⟨rfl, q, rfl⟩
      have hq : (w.drewN q).ownsRow base 3 1 (.slice (some ⟨g, 0, none⟩) n cap) n (i64s l) := ownsRow_below h (B := (w.heap.size)) ⟨rfl, rfl, rfl, Nat.le_refl _, fun _ _ => rfl⟩ (Nat.le_refl _)
      obtain ⟨k1, k2⟩ := own_setCells ((l.take n).reverse.map (Value.int .i64)) 0 _ _ hq (by simp; omega)
      have e1 : (i64s l).take 0 ++ ((l.take n).reverse.map (Value.int .i64) ++ (i64s l).drop (0 + ((l.take n).reverse.map (Value.int .i64)).length)) = i64s l.reverse := by
        rw [show l.take n = l from List.take_of_length_le (by omega)]
        have : (i64s l).drop (0 + (l.reverse.map (Value.int .i64)).length) = [] := List.drop_of_length_le (by simp [i64s])
        rw [this]; simp [i64s]
      rw [e1] at k1
      exact ⟨rfl, k1, Below.trans (b := w.drewN q) ⟨rfl, rfl, rfl, Nat.le_refl _, fun _ _ => rfl⟩ (k2 hb base hb)⟩

/-- k numbers x, then zeros up to c. -/
def repL (c k : Nat) (x : Int) : List Value := List.replicate k (.int .i64 x) ++ List.replicate (c - k) (.int .i64 0)
theorem repL_len {c k : Nat} (h : k ≤ c) (x : Int) : (repL c k x).length = c := by simp [repL]; omega
def repC (m : Nat) (x : Int) : List Value := List.replicate m (.int .i64 x)
theorem repC_len (m : Nat) (x : Int) : (repC m x).length = m := by simp [repC]
theorem repL_splice {c k m : Nat} (h : k + m ≤ c) (x : Int) : splice (repL c k x) k (repC m x) = repL c (k + m) x := by
  unfold splice repL repC
  rw [List.take_append_of_le_length (by simp), List.take_of_length_le (by simp), List.length_replicate, List.drop_append, List.drop_of_length_le (by simp)]
  simp only [List.length_replicate, List.nil_append, List.drop_replicate]
  rw [← List.append_assoc, ← List.replicate_append_replicate]
  congr 2; omega
theorem repL_at {c k j : Nat} (h : j < k) (x : Int) : (repL c k x)[j]? = some (.int .i64 x) := by
  unfold repL
  rw [List.getElem?_append_left (by simp; omega)]
  simp [h]
theorem repC_one (m : Nat) (x : Int) : ∀ v ∈ repC m x, v.oneCell' = true := by
  intro v hv; rw [(List.mem_replicate.1 hv).2]; rfl
theorem repC_at {m j : Nat} {v : Value} {x : Int} (h : (repC m x)[j]? = some v) : j < m ∧ v = .int .i64 x := by
  obtain ⟨h1, h2⟩ := List.getElem?_eq_some_iff.1 h
  simp [repC] at h1 h2
  exact ⟨h1, h2.symm⟩

set_option maxHeartbeats 2000000 in
theorem repeat_any (x : Int) (c : Nat) (hc1 : 1 ≤ c) (hc2 : c ≤ 1000000) (ao : Option Addr) (cap : Nat) (w : World) (h : Sl w ao 1 cap (i64s [x])) :
    Calls Try.prog 95 #[.slice ao 1 cap, .int .i64 (c : Int)] w (IntsRes w (List.replicate c x)) := by
  obtain ⟨x', hx', b, off, rfl, hcell⟩ := h.i64 (show 0 < 1 by omega)
  obtain rfl : x = x' := by simpa using hx'
  clear hx'
  have hmul : 1 * c / 18446744073709551616 = 0 ∧ 1 * c % 18446744073709551616 = c := by omega
  have Hmul := hid hmul
  clear hmul
  go_enter Try.func95, Try.ntmps95
  go_wp2_with fail
  refine (Try.bits_Mul 1 c (by decide) (by omega) _).mono ?_; rintro e w0 ⟨rfl, rfl⟩
  rw [Hmul.out.1, Hmul.out.2]
  go_wp2_with (at_make; go_loud (refine wp_make rfl (.tmp 29) (.tmp 29) 25 rfl 3 _ 8 Try.underlying25 Try.infoI64 rfl _ _ _ _ c rfl rfl rfl rfl (by omega) (by omega) ?_))
  intro w1 hown _ hb1
  have hg0 : w1.heap[w0.heap.size]? = some (.cells (repL c 0 x).toArray 3 (0, 0)) := by
    rcases hown.2 with ⟨hv, _⟩ | ⟨g, cap', cur, hv, _, hh, _, _, hsz, ht⟩
    · cases hv
    · injection hv with e1 e2 e3
      injection e1 with e1
      injection e1 with e1 _ _
      subst e1 e3
      have : cur = (repL c 0 x).toArray := by
        apply Array.toList_inj.1
        rw [Nat.mul_one] at ht hsz
        rw [List.take_of_length_le (by rw [Array.length_toList]; omega)] at ht
        rw [ht]; simp [repL]
      rw [← this]; exact hh
  have Hg0 := hid hg0
  clear hown hg0
  have hl1 := repC_len 1 x
  have hcell1 := hid ((hb1.cell (p := ⟨b, off + 0, none⟩) (World.block_lt_of_cell? w0 _ hcell)).trans hcell)
  go_wp2_with (with_reducible refine wpList_copy_splice rfl (.tmp 31) (.tmp 32) 25 25 rfl 3 Try.underlying25 (by kernel_rfl) (some ⟨w0.heap.size, 0, none⟩) (some ⟨b, off, none⟩) c c 1 cap rfl rfl w0.heap.size 0 (repL c 0 x) 3 Hg0.out (repC 1 x) (by rw [repC_len]; exact (Nat.min_eq_left hc1).symm) (fun _ => ⟨rfl, _, rfl, fun j v hv => by
    obtain ⟨hj, rfl⟩ := repC_at hv
    obtain rfl : j = 0 := by omega
    rw [Addr.add_lit]; exact hcell1.out⟩) (by rw [repC_len, repL_len (by omega)]; omega) (repC_one 1 x) w0.heap.size w0 hb1 (Nat.le_refl _) ?_)
  intro w2 hg2 hb2
  have hg2 : Hid (w2.heap[w0.heap.size]? = some (.cells (repL c 1 x).toArray 3 (0, 0))) := hid (by
    have := hg2.out
    rwa [repL_splice (by omega), Nat.zero_add] at this)
  go_wp2_with fail
  go_loopw [8] (fun i wr => ∃ k : Nat, 1 ≤ k ∧ k ≤ c ∧ i = .int .i64 k ∧ Hid (wr.heap[w0.heap.size]? = some (.cells (repL c k x).toArray 3 (0, 0))) ∧ Below w0.heap.size w0 wr) (fun i _ => c - (intOf i).toNat)
  case atStart => exact ⟨1, by omega, hc1, rfl, hg2, hb2⟩
  case round =>
    clear hg2 hb2 hcell1 Hg0 hb1 hl1 Hmul hcell
    obtain ⟨k, hk1, hkc, rfl, hg, hbel⟩ := hrel
    by_cases hlt : k < c
    · obtain ⟨m, hm⟩ : ∃ m, Nat.min k (c - k) = m := ⟨_, rfl⟩
      have hm1 : 1 ≤ m := by rw [← hm]; exact Nat.le_min.2 ⟨hk1, by omega⟩
      have hm2 : m ≤ k := by rw [← hm]; exact Nat.min_le_left _ _
      have hm3 : m ≤ c - k := by rw [← hm]; exact Nat.min_le_right _ _
      have hml := repC_len m x
      have Hm := hid hm
      clear hm
      have hgd : wr.drew.heap[w0.heap.size]? = some (.cells (repL c k x).toArray 3 (0, 0)) := hg.out
      have Hgd := hid hgd
      clear hgd
      have i1 : (0 : Int) ≤ (k : Int) := by omega
      have i2 : (k : Int) ≤ (c : Int) := by omega
      have i3 : c ≠ k := by omega
      go_wp2_with fail
      have hcells : ∀ j v, (repC m x)[j]? = some v → wr.drew.cell? ((⟨w0.heap.size, 0, none⟩ : Addr).add j) = some v := by
        intro j v hv
        obtain ⟨hj, rfl⟩ := repC_at hv
        rw [Addr.add_lit, cell_of_row _ _ _ _ _ _ Hgd.out, List.getElem?_toArray, Nat.zero_add]
        exact repL_at (by omega) x
      have Hcells := hid hcells
      clear hcells
      have hfit : k + (repC m x).length ≤ (repL c k x).length := by rw [repC_len, repL_len (by omega)]; omega
      have hbd := hbel.drew
      have hwk : IntKind.i64.wrap ((k : Int) + (m : Int)) = (k : Int) + (m : Int) := by rw [IntKind.wrap_i64]; omega
      go_region_held3 (fun _ => True) (trivial)
        ((refine step_copy_splice (by rfl) (.tmp 41) (.tmp 44) 25 25 (by rfl) 3 Try.underlying25 (by kernel_rfl) (some ⟨w0.heap.size, k, none⟩) (some ⟨w0.heap.size, 0, none⟩) (c - k) (c - k) k c (by rfl) (by rfl) w0.heap.size k (repL c k x) 3 Hgd.out (repC m x) (by rw [repC_len]; exact Hm.out.symm) (fun _ => ⟨rfl, _, rfl, Hcells.out⟩) hfit (repC_one m x) w0.heap.size w0 hbd (Nat.le_refl _) ?_; intro w3 hg3 hb3))
      have hg3 : Hid (w3.heap[w0.heap.size]? = some (.cells (repL c (k + m) x).toArray 3 (0, 0))) := hid (by
        have := hg3.out
        rwa [repL_splice (by omega)] at this)
      clear hwk
      go_wp2_with fail
      go_roundw
      case rel => exact ⟨k + m, by omega, by omega, by go_num, hg3, hb3⟩
      case measure => simp [intOf]; omega
    · obtain rfl : k = c := by omega
      go_wp2_with fail
      go_ret
      refine IntsRes.own (n := k) (l := List.replicate k x) ?_ rfl hbel
      refine ⟨by simp [i64s], .inr ⟨w0.heap.size, k, (repL k k x).toArray, rfl, Nat.le_refl _, hg.out, Nat.le_refl _, by unfold maxLen; omega, by simp [repL], ?_⟩⟩
      simp [repL, i64s]

end Go.Proofs.Yteancfcmiiddiaa

/-
  A row of the call's own all of whose cells, the spare ones too, are of a given sort, so that nothing of another sort lies in its block: plain facts and 'append'. No condition but sizes.
-/
namespace Go.Proofs.Yteancfcmiiddiaa
open Go.RowKit
set_option linter.unusedSimpArgs false
set_option linter.unusedVariables false

/-- The slice v owns its block from 'base' on; each cell of the block is of the sort K. -/
def Own (K : Value → Prop) (w : World) (base : Nat) (e : TypeId) (size : Nat) (v : Value) (n : Nat) (xs : List Value) : Prop :=
  w.ownsRow base e size v n xs ∧ ∀ g, v.ownBlock = some g → ∀ cur t fr, w.heap[g]? = some (.cells cur t fr) → ∀ c ∈ cur, K c

section
variable {K : Value → Prop} {w w' : World} {base : Nat} {e : TypeId} {size : Nat} {v : Value} {n : Nat} {xs : List Value}
theorem Own.nil (K : Value → Prop) (w : World) (base : Nat) (e : TypeId) (size : Nat) : Own K w base e size (.slice none 0 0) 0 [] :=
  ⟨World.ownsRow_nil _ _ _ _, fun g h => by cases h⟩

/-- Another block is written, or a new one is made. -/
theorem Own.same (h : Own K w base e size v n xs) (hb : ∀ g, v.ownBlock = some g → w'.heap[g]? = w.heap[g]?) : Own K w' base e size v n xs := by
  obtain ⟨⟨h1, h2⟩, hk⟩ := h
  refine ⟨⟨h1, ?_⟩, fun g hg cur t fr hh => hk g hg cur t fr (by rw [← hb g hg]; exact hh)⟩
  rcases h2 with h2 | ⟨g, cap, cur, rfl, hg, hh, r⟩
  · exact .inl h2
  · exact .inr ⟨g, cap, cur, rfl, hg, (hb g rfl).trans hh, r⟩
theorem Own.lt (h : Own K w base e size v n xs) {g : Nat} (hg : v.ownBlock = some g) : base ≤ g ∧ g < w.heap.size := h.1.lt g hg
theorem Own.below (h : Own K w base e size v n xs) (hb : Below w.heap.size w w') : Own K w' base e size v n xs := h.same fun g hg => hb.block g (h.lt hg).2
theorem Own.new (h : Own K w base e size v n xs) (o : Obj) : Own K (w.alloc o) base e size v n xs := h.below (below_alloc o)
theorem Own.put (h : Own K w base e size v n xs) {p : Addr} (hp : ∀ g, v.ownBlock = some g → g ≠ p.block) (u : Value) : Own K (w.setCell p u) base e size v n xs :=
  h.same fun g hg => Below.heap_setCell w p u g (hp g hg)

/-- A cell of another sort does not lie in the row's block. -/
theorem Own.off (h : Own K w base e size v n xs) {b o : Nat} {c : Value} (hc : w.cell? ⟨b, o, none⟩ = some c) (hK : ¬ K c) : ∀ g, v.ownBlock = some g → b ≠ g := by
  rintro g hg rfl
  obtain ⟨⟨_, h2⟩, hk⟩ := h
  rcases h2 with ⟨rfl, _⟩ | ⟨g', cap, cur, rfl, _, hh, _⟩
  · cases hg
  · simp only [Value.ownBlock, Option.some.injEq] at hg
    subst hg
    rw [cell_of_row w g' o cur e (0, 0) hh] at hc
    exact hK (hk g' rfl cur e (0, 0) hh c (Array.mem_of_getElem? hc))

/-- 'append' of at least one element. -/
theorem Own.append {P : Program} (t ty : TypeId) (i : TypeInfo) (z : Value) (bytes : Nat) (ht : P.underlying t = some (.slice e)) (hi : P.info? e = some i) (hz : i.zero = some z)
    (hsize : i.size = size) (hby : i.bytes = bytes) (hzs : z.cells.size = size) (hsz : 0 < size) (hzK : ∀ c ∈ z.cells, K c) (h : Own K w base e size v n xs)
    (a : Addr) (m c : Nat) (news : List Value) (hl : news.length = m * size) (hnews : ∀ j u, news[j]? = some u → w.cell? (a.add j) = some u) (h1 : ∀ u ∈ news, u.oneCell' = true) (hnK : ∀ u ∈ news, K u)
    (hm : 0 < m) (h63 : n + m ≤ maxLen) (hbytes : (n + m) * bytes ≤ 140737488355328) (hbase : base ≤ w.heap.size) :
    ∃ v' w', (Builtin.append_ #[t, t] ty #[v, .slice (some a) m c]).run P w = .ok v' w' ∧ Own K w' base e size v' (n + m) (xs ++ news) ∧ w.grownBy w' v.ownBlock ∧ (v'.ownBlock = v.ownBlock ∨ v'.ownBlock = some w.heap.size) := by
  obtain ⟨v', w', hr, hown, hg, _⟩ := run_append_own (P := P) w base t ty e i z size bytes ht hi hz hsize hby hzs hsz v n xs h.1 a m c news hl hnews h1 h63 hbytes hbase
  subst hsize
  have hsmall : n + m ≤ 9223372036854775807 := by simp only [maxLen] at h63; omega
  have zK : ∀ k, ∀ u ∈ Builtin.zeroCells z.cells k, K u := by
    intro k u hu
    simp only [Builtin.zeroCells, Array.mem_map, Array.mem_range] at hu
    obtain ⟨j, hj, rfl⟩ := hu
    have hj2 : j % z.cells.size < z.cells.size := Nat.mod_lt _ (by omega)
    rw [getElem!_pos z.cells _ hj2]
    exact hzK _ (Array.getElem_mem hj2)
  obtain ⟨⟨g1, g2⟩, hk⟩ := h
  rcases g2 with ⟨rfl, rfl⟩ | ⟨g, cap, cur, rfl, hbg, hh, hnc, hcm, hcs, htake⟩
  · have hr2 := run_append_nil (P := P) w t ty e i z ht hi hz a m c news hl hnews hm (by omega) (by have hb := hbytes; rw [hby]; simp only [Nat.zero_add] at hb; omega)
    rw [hr] at hr2
    injection hr2 with e1 e2
    subst e1 e2
    refine ⟨_, _, hr, ⟨hown, ?_⟩, hg, .inr rfl⟩
    intro g' hg' cur' t' fr' hh'
    simp only [Value.ownBlock, Option.some.injEq] at hg'
    subst hg'
    rw [show (w.drew.alloc (.cells (news.toArray ++ Builtin.zeroCells z.cells (grownCap w m 0 e - m)) e)).heap[w.heap.size]? = some _ from heap_alloc_new w.drew _] at hh'
    injection hh' with hh'
    injection hh' with e1 _ _
    subst e1
    intro u hu
    rw [Array.mem_append] at hu
    rcases hu with hu | hu
    · exact hnK u (by simpa using hu)
    · exact zK _ u hu
  · have curK := hk g rfl cur e (0, 0) hh
    by_cases hroom : n + m ≤ cap
    · have hfit : n * i.size + news.length ≤ cur.size := by rw [hl, hcs, ← Nat.add_mul]; exact Nat.mul_le_mul_right _ hroom
      have hr2 := run_append_room (P := P) w t ty e i ht hi g n cap cur hh a m c news hl hnews h1 hroom hfit
      rw [hr] at hr2
      injection hr2 with e1 e2
      subst e1 e2
      refine ⟨_, _, hr, ⟨hown, ?_⟩, hg, .inl rfl⟩
      intro g' hg' cur' t' fr' hh'
      simp only [Value.ownBlock, Option.some.injEq] at hg'
      subst hg'
      rw [setRow_heap w g cur _ e _ hh] at hh'
      injection hh' with hh'
      injection hh' with e1 _ _
      subst e1
      intro u hu
      simp only [List.mem_toArray, List.mem_append] at hu
      rcases hu with (hu | hu) | hu
      · exact curK u (by simpa using List.mem_of_mem_take hu)
      · exact hnK u hu
      · exact curK u (by simpa using List.mem_of_mem_drop hu)
    · have holds : ∀ j u, xs[j]? = some u → w.cell? ((⟨g, 0, none⟩ : Addr).add j) = some u := World.ownsRow.cells (v := .slice (some ⟨g, 0, none⟩) n cap) ⟨g1, .inr ⟨g, cap, cur, rfl, hbg, hh, hnc, hcm, hcs, htake⟩⟩ (g := g) rfl
      have hr2 := run_append_grow (P := P) w t ty e i z ht hi hz ⟨g, 0, none⟩ n cap xs g1 holds a m c news hl hnews (by omega) (by omega) (growslice_fits (by omega) (by rw [hby]; exact hbytes))
      rw [hr] at hr2
      injection hr2 with e1 e2
      subst e1 e2
      refine ⟨_, _, hr, ⟨hown, ?_⟩, hg, .inr rfl⟩
      intro g' hg' cur' t' fr' hh'
      simp only [Value.ownBlock, Option.some.injEq] at hg'
      subst hg'
      rw [show (w.drew.alloc (.cells (xs.toArray ++ news.toArray ++ Builtin.zeroCells z.cells (grownCap w (n + m) cap e - (n + m))) e)).heap[w.heap.size]? = some _ from heap_alloc_new w.drew _] at hh'
      injection hh' with hh'
      injection hh' with e1 _ _
      subst e1
      intro u hu
      simp only [Array.mem_append, List.mem_toArray] at hu
      rcases hu with (hu | hu) | hu
      · rw [← htake] at hu
        exact curK u (by simpa using List.mem_of_mem_take hu)
      · exact hnK u hu
      · exact zK _ u hu
end

/-- As an operation of the walk. -/
theorem wp_own {P : Program} {w : World} {ops : Array Oper} {rest : List Oper} {o : Oper} {a : Act} {Q : Exit → Act → World → Prop} (hgd : o.guard = none) (s x : Operand) (t : TypeId)
    (ho : o.op = .call { callee := .builtin .append, args := #[s, x], argTypes := #[t, t] }) (K : Value → Prop) (e : TypeId) (z : Value) (size bytes : Nat) (ht : P.underlying t = some (.slice e))
    (hinfo : (P.info? e).map (fun i => (i.zero, i.size, i.bytes)) = some (some z, size, bytes)) (hzs : z.cells.size = size) (hsz : 0 < size) (hzK : ∀ c ∈ z.cells, K c)
    (base : Nat) (v : Value) (n : Nat) (xs : List Value) (hs : a.eval s = v) (hown : Own K w base e size v n xs)
    (ad : Addr) (m c : Nat) (news : List Value) (hx : a.eval x = .slice (some ad) m c) (hl : news.length = m * size) (hnews : ∀ j u, news[j]? = some u → w.cell? (ad.add j) = some u) (h1 : ∀ u ∈ news, u.oneCell' = true) (hnK : ∀ u ∈ news, K u)
    (hm : 0 < m) (hroom : (n + m) * bytes ≤ 140737488355328) (hml : n + m ≤ 9223372036854775807) (hbase : base ≤ w.heap.size)
    (h : ∀ v' w', Own K w' base e size v' (n + m) (xs ++ news) → w.grownBy w' v.ownBlock → Below base w w' → (v'.ownBlock = v.ownBlock ∨ v'.ownBlock = some w.heap.size) → wpList P ops Q rest (a.put o.dst v') w') : wpList P ops Q (o :: rest) a w := by
  obtain ⟨i, hi, hz0, hsz', hby⟩ := info_parts hinfo
  obtain ⟨v', w', hr, h2, h3, h4⟩ := hown.append (P := P) t o.type i z bytes ht hi hz0 hsz' hby hzs hsz hzK ad m c news hl hnews h1 hnK hm (by unfold maxLen; omega) hroom hbase
  refine wpList_plain hgd fun K' hK => ?_
  unfold Oper.wp execOp
  simp only [ho, resolve, invoke, builtin, Sem.run_bind, Sem.run_pure, Result.andThen_ok, List.map_toArray, List.map_cons, List.map_nil, hs, hx, hr]
  exact hK _ _ (h v' w' h2 h3 ((Below.refl _ _).grown h3 hbase (fun k hk => (hown.1.lt k hk).1)) h4)

section
variable {w w' : World} {row : Option Nat}
/-- A slice stays where its cells do not lie in the row that is written. -/
theorem Sl.grown {ao : Option Addr} {n cap : Nat} {xs : List Value} (h : Sl w ao n cap xs) (hg : w.grownBy w' row) (hoff : ∀ (i : Nat) (x : Value) (b o : Nat), xs[i]? = some x → w.cell? ⟨b, o, none⟩ = some x → some b ≠ row) : Sl w' ao n cap xs :=
  ⟨h.len, h.le, h.most, fun i x hx => by
    obtain ⟨b, off, e, hc⟩ := h.at_ i x hx
    exact ⟨b, off, e, hg.cell hc (hoff i x b _ hx hc)⟩⟩

/-- Limbs stay where a row of another sort is written. -/
theorem Sl.grownU {K : Value → Prop} {base : Nat} {e : TypeId} {size : Nat} {v : Value} {k : Nat} {ys : List Value} {ao : Option Addr} {n cap : Nat} {l : List Nat} (h : Sl w ao n cap (u32s l)) (hown : Own K w base e size v k ys) (hK : ∀ x : Nat, ¬ K (.int .u32 (x : Int)))
    (hg : w.grownBy w' v.ownBlock) : Sl w' ao n cap (u32s l) :=
  h.grown hg fun i x b o hx hc hr => by
    obtain ⟨y, _, rfl⟩ := List.mem_map.1 (List.mem_of_getElem? hx)
    exact hown.off hc (hK y) b hr.symm rfl
theorem RatC.grownU {K : Value → Prop} {base : Nat} {e : TypeId} {size : Nat} {v : Value} {k : Nat} {ys : List Value} {q : Rat} {u : Value} (h : RatC w u q) (hown : Own K w base e size v k ys) (hK : ∀ x : Nat, ¬ K (.int .u32 (x : Int))) (hg : w.grownBy w' v.ownBlock) : RatC w' u q := by
  obtain ⟨ao, bo, n, cap, m, cap', rfl, h1, h2, hz, hz'⟩ := h
  exact ⟨ao, bo, n, cap, m, cap', rfl, h1.grownU hown hK hg, h2.grownU hown hK hg, hz, hz'⟩
theorem RatV.grownU {K : Value → Prop} {base : Nat} {e : TypeId} {size : Nat} {v : Value} {k : Nat} {ys : List Value} {q : Rat} {u : Value} (h : RatV w u q) (hown : Own K w base e size v k ys) (hK : ∀ x : Nat, ¬ K (.int .u32 (x : Int))) (hg : w.grownBy w' v.ownBlock) : RatV w' u q := by
  obtain ⟨neg, N, D, ao, bo, n, cap, m, cap', e, h1, h2, h3⟩ := h
  exact ⟨neg, N, D, ao, bo, n, cap, m, cap', e, h1.grownU hown hK hg, h2.grownU hown hK hg, h3⟩
end

/-- Ints. -/
def IsI64 (v : Value) : Prop := ∃ z, v = .int .i64 z
theorem isI64_u32 (x : Nat) : ¬ IsI64 (.int .u32 (x : Int)) := by rintro ⟨z, h⟩; injection h with h; cases h
theorem isI64_i64s (l : List Int) : ∀ u ∈ l.map (Value.int .i64), IsI64 u := by intro u hu; obtain ⟨z, _, rfl⟩ := List.mem_map.1 hu; exact ⟨z, rfl⟩

end Go.Proofs.Yteancfcmiiddiaa

/-
  The contract of words.Unrank. No condition but sizes.
-/
namespace Go.Proofs.Yteancfcmiiddiaa
open Go.RowKit
set_option linter.unusedSimpArgs false
set_option linter.unusedVariables false

/-- What Unrank returns. -/
def unrOk (q : Rat) (S : Int) : Bool := decide (1 ≤ S ∧ S ≤ 32 ∧ 0 ≤ q.num ∧ q.den = 1 ∧ q.num.toNat ≤ topR S.toNat 256)
def unrRes (q : Rat) (S : Int) : List Int := if unrOk q S then unr S.toNat q.num.toNat else []
def unrErr (q : Rat) (S : Int) : Int := if unrOk q S then 0 else if 1 ≤ S ∧ S ≤ 32 then 1 else 9

theorem Bk.grown {w w' w'' : World} {G : Nat} {x y z : Value} {row : Option Nat} (h : Bk w G x y z w') (hg : w'.grownBy w'' row) (hr : some G ≠ row) (hb : Below w.heap.size w w'') : Bk w G x y z w'' := by
  obtain ⟨T, hT⟩ := h.heap
  exact ⟨⟨T, by rw [hg.block G h.lt hr]; exact hT⟩, h.ge, hb⟩

theorem rsg_cases (x : Rat) : (rsg x = -1 ∧ x.num < 0) ∨ (rsg x = 0 ∧ x.num = 0) ∨ (rsg x = 1 ∧ 0 < x.num) := by
  unfold rsg sg
  rcases Int.lt_trichotomy x.num 0 with h | h | h
  · exact .inl ⟨if_pos h, h⟩
  · exact .inr (.inl ⟨by rw [if_neg (by omega), if_pos h], h⟩)
  · exact .inr (.inr ⟨by rw [if_neg (by omega), if_neg (by omega)], h⟩)
theorem rsg_neg {x : Rat} : rsg x < 0 ↔ x.num < 0 := by
  rcases rsg_cases x with ⟨h1, h2⟩ | ⟨h1, h2⟩ | ⟨h1, h2⟩ <;> rw [h1] <;> omega
theorem rsg_zero {x : Rat} : rsg x = 0 ↔ x = 0 := by
  rw [← Rat.num_eq_zero]
  rcases rsg_cases x with ⟨h1, h2⟩ | ⟨h1, h2⟩ | ⟨h1, h2⟩ <;> rw [h1] <;> omega
theorem rsg_pos {x : Rat} : 0 < rsg x ↔ 0 < x.num := by
  rcases rsg_cases x with ⟨h1, h2⟩ | ⟨h1, h2⟩ | ⟨h1, h2⟩ <;> rw [h1] <;> omega

theorem whole_floor (q : Rat) : q - ((q.floor : Int) : Rat) = 0 ↔ q.den = 1 := by
  constructor
  · intro h
    have : q = ((q.floor : Int) : Rat) := by grind
    rw [this]; rfl
  · intro h
    have e : q = ((q.num : Int) : Rat) := by
      conv => lhs; rw [← Rat.mkRat_self q]
      rw [Rat.mkRat_eq_div, h]
      grind
    have hf : q.floor = q.num := by
      have := floor_core q
      rw [h] at this
      unfold floorN at this
      rw [Nat.mod_one, Nat.div_one] at this
      rw [if_neg (by simp)] at this
      rw [this, sgn_num]
    rw [hf, ← e]; grind

theorem topR_fit {T : Nat} (h1 : 1 ≤ T) (h2 : T ≤ 32) : Fit 257 ((topR T 256 : Nat) : Rat) := by
  have h := fit_rank (s := (T : Int)) (by omega) (by omega) (List.replicate 256 (T : Int)) (fun x hx => by rw [(List.mem_replicate.1 hx).2]; omega) (by rw [List.length_replicate]; exact Nat.le_refl _)
  rw [topR_rank] at h
  exact h

theorem nat_of_whole {q : Rat} (h1 : 0 ≤ q.num) (h2 : q.den = 1) : q = ((q.num.toNat : Nat) : Rat) := by
  have e : q = ((q.num : Int) : Rat) := by
    conv => lhs; rw [← Rat.mkRat_self q]
    rw [Rat.mkRat_eq_div, h2]
    grind
  have : q.num = ((q.num.toNat : Nat) : Int) := by omega
  rw [this] at e
  exact e

theorem rsg_nat0 : rsg ((0 : Nat) : Rat) = 0 := rfl
theorem rsg_natp {n : Nat} (h : n ≠ 0) : rsg (n : Rat) = 1 := by
  have : (n : Rat).num = (n : Int) := rfl
  unfold rsg sg
  rw [this, if_neg (by omega), if_neg (by omega)]

theorem nat_sub_pos (a b : Nat) : 0 < ((a : Rat) - (b : Rat)).num ↔ b < a := by
  have e : ((a : Rat) - (b : Rat)) = (((a : Int) - (b : Int) : Int) : Rat) := by rw [Rat.intCast_sub]; rfl
  rw [e]
  show 0 < ((a : Int) - (b : Int)) ↔ _
  omega

set_option maxHeartbeats 8000000 in
theorem wUnrank_any (q : Rat) (I : Int) (v : Value) (w : World) (h : RatV w v q) (k : Nat) (hq : Fit k q) (hk : k ≤ 1073741824) :
    Calls Try.prog 57 #[v, .int .i64 I] w (IntsOut w (unrRes q I) (unrErr q I)) := by
  obtain ⟨s, ao, n, cap, bo, m, cap', rfl⟩ := h.shape
  have hB := Bk.start (Below.refl w.heap.size w) rfl (.bool s) (.slice ao n cap) (.slice bo m cap') 54
  by_cases hI : 1 ≤ I ∧ I ≤ 32
  · obtain ⟨T, rfl⟩ := Int.eq_ofNat_of_zero_le (show 0 ≤ I by omega)
    have hT1 : 1 ≤ T := by omega
    have hT2 : T ≤ 32 := by omega
    have c1 : decide ((T : Int) < 1) = false := decide_eq_false (by omega)
    have c2 : decide ((32 : Int) < (T : Int)) = false := decide_eq_false (by omega)
    have hfT := topR_fit hT1 hT2
    have hrank : rankQ (List.replicate 256 (T : Int)) T = ((topR T 256 : Nat) : Rat) ∧ rankErr (List.replicate 256 (T : Int)) T = 0 := by
      have ho : okW (List.replicate 256 (T : Int)) T = true := by
        unfold okW
        rw [decide_eq_true_eq]
        exact ⟨by omega, by omega, by rw [List.length_replicate]; exact Nat.le_refl _, fun x hx => by rw [(List.mem_replicate.1 hx).2]; omega⟩
      constructor
      · unfold rankQ; rw [ho, if_pos rfl, topR_rank]; rfl
      · unfold rankErr; rw [ho]; rfl
    have hunr : unrOk q (T : Int) = decide (0 ≤ q.num ∧ q.den = 1 ∧ q.num.toNat ≤ topR T 256) := by
      unfold unrOk; rw [decide_eq_decide, Int.toNat_natCast]
      exact ⟨fun h => h.2.2, fun h => ⟨hI.1, hI.2, h⟩⟩
    have hbad : unrOk q (T : Int) = false → unrRes q (T : Int) = [] ∧ unrErr q (T : Int) = 1 := fun h => by
      constructor
      · unfold unrRes; rw [h]; rfl
      · unfold unrErr; rw [h, if_pos hI]; rfl
    have hgood : unrOk q (T : Int) = true → unrRes q (T : Int) = unr T q.num.toNat ∧ unrErr q (T : Int) = 0 := fun h => by
      constructor
      · unfold unrRes; rw [h, Int.toNat_natCast]; rfl
      · unfold unrErr; rw [h]; rfl
    have hfl := fit_floor hq
    generalize unrRes q (T : Int) = R at *
    generalize unrErr q (T : Int) = C at *
    have Hrank := hid hrank; have Hunr := hid hunr; have Hbad := hid hbad; have Hgood := hid hgood
    clear hrank hunr hbad hgood hI
    have tok1 : True := trivial
    go_enter Try.func57, Try.ntmps57
    go_wp2_with fail
    have hs1 : Sl ((w.alloc (.cells #[.bool s, .slice ao n cap, .slice bo m cap'] 54)).alloc (.cells #[.int .i64 (T : Int)] 3)) (some ⟨w.heap.size + 1, 0, none⟩) 1 1 (i64s [(T : Int)]) := by
      have := Sl.lit (w.alloc (.cells #[.bool s, .slice ao n cap, .slice bo m cap'] 54)) [.int .i64 (T : Int)] 3 (by simp [maxLen])
      simpa [i64s] using this
    refine (repeat_any (T : Int) 256 (by decide) (by decide) _ _ _ hs1).mono ?_; rintro e wa ⟨po, pn, pc, rfl, sP, _, hba⟩
    have hBa := (hB.new _).next hba
    go_wp2_with fail
    refine (wRank_any (List.replicate 256 (T : Int)) T _ _ _ _ sP).mono ?_
    rw [Hrank.out.1, Hrank.out.2]
    rintro e wb ⟨v1, rfl, C1, hbb⟩
    obtain ⟨xs, xo, xn, xc, yo, yn, yc, rfl⟩ := C1.shape
    have hBb := hBa.next hbb
    clear hs1 sP hBa hB
    go_wp2_with fail
    have hBc := hBb.new (.cells #[.bool xs, .slice xo xn xc, .slice yo yn yc] 54)
    have hTc : Bk w wb.heap.size (.bool xs) (.slice xo xn xc) (.slice yo yn yc) (wb.alloc (.cells #[.bool xs, .slice xo xn xc, .slice yo yn yc] 54)) := Bk.start hBb.bel rfl _ _ _ _
    have C1 := C1.next (below_alloc (.cells #[.bool xs, .slice xo xn xc, .slice yo yn yc] 54))
    clear hba hbb hBb
    generalize wb.alloc (.cells #[.bool xs, .slice xo xn xc, .slice yo yn yc] 54) = W at *
    generalize wb.heap.size = g at *
    have hd := (Below.refl W.heap.size W).drew
    have C1 := C1.next hd
    have hBd := hBc.drew
    have hbd := hBd.bel
    have hS0 : C3 w.heap.size (.bool s) (.slice ao n cap) (.slice bo m cap') W.drew ∧ C3 g (.bool xs) (.slice xo xn xc) (.slice yo yn yc) W.drew := ⟨hBd.c3, hTc.drew.c3⟩
    have hK' : ∀ w' w'', (C3 w.heap.size (.bool s) (.slice ao n cap) (.slice bo m cap') w' ∧ C3 g (.bool xs) (.slice xo xn xc) (.slice yo yn yc) w') → Below w'.heap.size w' w'' → (C3 w.heap.size (.bool s) (.slice ao n cap) (.slice bo m cap') w'' ∧ C3 g (.bool xs) (.slice xo xn xc) (.slice yo yn yc) w'') := fun w' w'' h hb => ⟨h.1.next hb, h.2.next hb⟩
    clear hTc
    by_cases hneg : q.num < 0
    · obtain ⟨sg1, hsg, hsgl⟩ : ∃ x : Int, rsg q = x ∧ x < 0 := ⟨_, rfl, rsg_neg.2 hneg⟩
      have HSg := hid hsg
      clear hsg
      have d1 : decide (sg1 < 0) = true := decide_eq_true hsgl
      have hf : unrOk q (T : Int) = false := by rw [Hunr.out]; exact decide_eq_false (by omega)
      have HR := hid (Hbad.out hf).1; have HC := hid (Hbad.out hf).2
      clear hf
      refine wp_region_held_drew (S := (fun w' => C3 w.heap.size (.bool s) (.slice ao n cap) (.slice bo m cap') w' ∧ C3 g (.bool xs) (.slice xo xn xc) (.slice yo yn yc) w')) (by kernel_rfl) (hS0) (fun hHeld => ?_)
      refine held_take (i := 0) (d := 24) (v := ?_) rfl rfl (by kernel_rfl) (by kernel_rfl) (by kernel_rfl) (fun _ _ _ h => h) (by rfl) ?_ hHeld ?_
      rotate_left
      · intro w hSw; (try dsimp only at hSw); go_simp; with_reducible rfl
      try simp only [Act.put, List.setIfInBounds_toArray, List.set_cons_zero, List.set_cons_succ]
      refine wpAnyH_ready (rs := [1]) (by kernel_rfl) (by simp) (AllReadyH.cons rfl (fun K hK => ?_) AllReadyH.nil)
      go_simp
      go_at_call 96; refine (Sign_any q _ _ (h.next hbd)).mono ?_; rintro e w1 ⟨rfl, hb1⟩; rw [HSg.out]
      go_wp2_with fail
      refine hK.out _ _ (hK' _ _ hHeld hb1) (fun hHeld => ?_)
      clear hK K
      try simp only [Act.put, List.setIfInBounds_toArray, List.set_cons_zero, List.set_cons_succ]
      refine held_take (i := 2) (d := 26) (v := ?_) rfl rfl (by kernel_rfl) (by kernel_rfl) (by kernel_rfl) (fun _ _ _ h => h) (by rfl) ?_ hHeld ?_
      rotate_left
      · intro w hSw; (try dsimp only at hSw); go_simp; with_reducible rfl
      try simp only [Act.put, List.setIfInBounds_toArray, List.set_cons_zero, List.set_cons_succ]
      refine held_take (i := 3) (d := 27) (v := ?_) rfl rfl (by kernel_rfl) (by kernel_rfl) (by kernel_rfl) (fun _ _ _ h => h) (by rfl) ?_ hHeld ?_
      rotate_left
      · intro w hSw; (try dsimp only at hSw); go_simp; with_reducible rfl
      try simp only [Act.put, List.setIfInBounds_toArray, List.set_cons_zero, List.set_cons_succ]
      refine held_skip (i := 4) (d := 28) rfl rfl (by kernel_rfl) (by kernel_rfl) (by kernel_rfl) (fun _ _ _ h => h) (by rfl) hHeld ?_
      try simp only [Act.put, List.setIfInBounds_toArray, List.set_cons_zero, List.set_cons_succ]
      refine held_skip (i := 5) (d := 29) rfl rfl (by kernel_rfl) (by kernel_rfl) (by kernel_rfl) (fun _ _ _ h => h) (by rfl) hHeld ?_
      try simp only [Act.put, List.setIfInBounds_toArray, List.set_cons_zero, List.set_cons_succ]
      refine held_skip (i := 6) (d := 30) rfl rfl (by kernel_rfl) (by kernel_rfl) (by kernel_rfl) (fun _ _ _ h => h) (by rfl) hHeld ?_
      try simp only [Act.put, List.setIfInBounds_toArray, List.set_cons_zero, List.set_cons_succ]
      refine held_skip (i := 7) (d := 31) rfl rfl (by kernel_rfl) (by kernel_rfl) (by kernel_rfl) (fun _ _ _ h => h) (by rfl) hHeld ?_
      try simp only [Act.put, List.setIfInBounds_toArray, List.set_cons_zero, List.set_cons_succ]
      refine held_skip (i := 8) (d := 32) rfl rfl (by kernel_rfl) (by kernel_rfl) (by kernel_rfl) (fun _ _ _ h => h) (by rfl) hHeld ?_
      try simp only [Act.put, List.setIfInBounds_toArray, List.set_cons_zero, List.set_cons_succ]
      refine held_take (i := 9) (d := 33) (v := ?_) rfl rfl (by kernel_rfl) (by kernel_rfl) (by kernel_rfl) (fun _ _ _ h => h) (by rfl) ?_ hHeld ?_
      rotate_left
      · intro w hSw; (try dsimp only at hSw); go_simp; with_reducible rfl
      try simp only [Act.put, List.setIfInBounds_toArray, List.set_cons_zero, List.set_cons_succ]
      refine held_take (i := 10) (d := 34) (v := ?_) rfl rfl (by kernel_rfl) (by kernel_rfl) (by kernel_rfl) (fun _ _ _ h => h) (by rfl) ?_ hHeld ?_
      rotate_left
      · intro w hSw; (try dsimp only at hSw); go_simp; with_reducible rfl
      try simp only [Act.put, List.setIfInBounds_toArray, List.set_cons_zero, List.set_cons_succ]
      refine held_skip (i := 11) (d := 35) rfl rfl (by kernel_rfl) (by kernel_rfl) (by kernel_rfl) (fun _ _ _ h => h) (by rfl) hHeld ?_
      try simp only [Act.put, List.setIfInBounds_toArray, List.set_cons_zero, List.set_cons_succ]
      refine held_skip (i := 12) (d := 36) rfl rfl (by kernel_rfl) (by kernel_rfl) (by kernel_rfl) (fun _ _ _ h => h) (by rfl) hHeld ?_
      try simp only [Act.put, List.setIfInBounds_toArray, List.set_cons_zero, List.set_cons_succ]
      refine held_skip (i := 13) (d := 37) rfl rfl (by kernel_rfl) (by kernel_rfl) (by kernel_rfl) (fun _ _ _ h => h) (by rfl) hHeld ?_
      try simp only [Act.put, List.setIfInBounds_toArray, List.set_cons_zero, List.set_cons_succ]
      refine held_skip (i := 14) (d := 38) rfl rfl (by kernel_rfl) (by kernel_rfl) (by kernel_rfl) (fun _ _ _ h => h) (by rfl) hHeld ?_
      try simp only [Act.put, List.setIfInBounds_toArray, List.set_cons_zero, List.set_cons_succ]
      refine held_take (i := 15) (d := 39) (v := ?_) rfl rfl (by kernel_rfl) (by kernel_rfl) (by kernel_rfl) (fun _ _ _ h => h) (by rfl) ?_ hHeld ?_
      rotate_left
      · intro w hSw; (try dsimp only at hSw); go_simp; with_reducible rfl
      try simp only [Act.put, List.setIfInBounds_toArray, List.set_cons_zero, List.set_cons_succ]
      refine wpAnyH_done (by kernel_rfl) ?_ _
      go_wp2_with fail
      go_ret2
      rw [HR.out, HC.out]
      exact ⟨none, 0, 0, rfl, Sl.nil _, fun _ => rfl, below_chain hbd hb1⟩
    · obtain ⟨sg1, hsg, hsgl⟩ : ∃ x : Int, rsg q = x ∧ ¬ x < 0 := ⟨_, rfl, fun h => hneg (rsg_neg.1 h)⟩
      have HSg := hid hsg
      clear hsg
      have d1 : decide (sg1 < 0) = false := decide_eq_false hsgl
      by_cases hden : q.den = 1
      · have HCf : Hid (rsg (q - ((q.floor : Int) : Rat)) = 0) := hid (rsg_zero.2 ((whole_floor q).2 hden))
        obtain ⟨N, hN⟩ : ∃ N, q.num.toNat = N := ⟨_, rfl⟩
        have hqN := nat_of_whole (Int.not_lt.1 hneg) hden
        rw [hN] at hqN
        have hunr2 : unrOk q (T : Int) = decide (N ≤ topR T 256) := by
          rw [Hunr.out, hN, decide_eq_decide]; exact ⟨fun h => h.2.2, fun h => ⟨Int.not_lt.1 hneg, hden, h⟩⟩
        have Hunr2 := hid hunr2
        have HqN := hid hqN
        have HN := hid hN
        clear hunr2 hqN hN hden hneg
        go_region_held3 (fun w' => C3 w.heap.size (.bool s) (.slice ao n cap) (.slice bo m cap') w' ∧ C3 g (.bool xs) (.slice xo xn xc) (.slice yo yn yc) w')
          (repeat (first | with_reducible assumption | with_reducible refine hK' _ _ ?_ hb1 | with_reducible refine hK' _ _ ?_ hb2 | with_reducible refine hK' _ _ ?_ hb3 | with_reducible refine hK' _ _ ?_ hb4))
          (first
            | (go_at_call 96; refine (Sign_any q _ _ (h.next hbd)).mono ?_; rintro e w1 ⟨rfl, hb1⟩; rw [HSg.out])
            | (go_at_call 98; refine (Down_any q 0 _ _ (h.next (below_chain hbd hb1)) k hq (by omega)).mono ?_; rintro e w2 ⟨v2, rfl, C2, hb2⟩; rw [down_zero] at C2)
            | (go_at_call 97; have tok2 := tok1; refine (Compare_any q ((q.floor : Int) : Rat) _ _ _ (h.next (below_chain (below_chain hbd hb1) hb2)) (C2.toV hfl (by omega)) (k + 1) (hq.mono (by omega)) hfl (by omega)).mono ?_; rintro e w3 ⟨rfl, hb3⟩; rw [HCf.out]; clear tok1)
            | (go_at_call 97; refine (Compare_any q (topR T 256 : Nat) _ _ _ (h.next (below_chain (below_chain (below_chain hbd hb1) hb2) hb3)) ((((C1.next hb1).next hb2).next hb3).toV hfT (by omega)) (k + 257) (hq.mono (by omega)) (hfT.mono (by omega)) (by omega)).mono ?_; rintro e w4 ⟨rfl, hb4⟩))
        have hbel4 := below_chain (below_chain (below_chain (below_chain hbd hb1) hb2) hb3) hb4
        have hB4 := (((hBd.next hb1).next hb2).next hb3).next hb4
        by_cases hbig : topR T 256 < N
        · obtain ⟨z, hz, hz1⟩ : ∃ z : Int, rsg (q - ((topR T 256 : Nat) : Rat)) = z ∧ 0 < z := ⟨_, rfl, by rw [HqN.out]; exact rsg_pos.2 ((nat_sub_pos _ _).2 hbig)⟩
          rw [hz]
          have hf : unrOk q (T : Int) = false := by rw [Hunr2.out]; exact decide_eq_false (by omega)
          have HR := hid (Hbad.out hf).1; have HC := hid (Hbad.out hf).2
          have d2 : decide (0 < z) = true := decide_eq_true hz1
          clear hz hf
          go_wp2_with fail
          go_ret2
          rw [HR.out, HC.out]
          exact ⟨none, 0, 0, rfl, Sl.nil _, fun _ => rfl, hbel4⟩
        · have hNT : N ≤ topR T 256 := Nat.not_lt.1 hbig
          obtain ⟨z, hz, hz1⟩ : ∃ z : Int, rsg (q - ((topR T 256 : Nat) : Rat)) = z ∧ ¬ 0 < z := ⟨_, rfl, fun h => by rw [HqN.out] at h; exact hbig ((nat_sub_pos _ _).1 (rsg_pos.1 h))⟩
          rw [hz]
          have hf : unrOk q (T : Int) = true := by rw [Hunr2.out]; exact decide_eq_true hNT
          have HR := hid (Hgood.out hf).1; have HC := hid (Hgood.out hf).2
          rw [HN.out] at HR
          have d2 : decide (0 < z) = false := decide_eq_false hz1
          have hlen : Hid ((unr T N).length ≤ 256) := hid ((unr_len (by omega) 256 N).2 hNT)
          have hfn : Hid (∀ n, n ≤ N → Fit 257 (n : Rat)) := hid (fun n hn => fit_nat (Nat.le_trans (lim_mono (Nat.le_trans hn hNT)) hfT.1) (by omega))
          have hv4 : RatV w4 (.agg #[.bool s, .slice ao n cap, .slice bo m cap']) (N : Rat) := by
            have := h.next hbel4
            rwa [HqN.out] at this
          clear hz hf hbig hfT Hunr Hunr2 Hbad Hgood Hrank HqN HN HSg HCf hS0 hK' C1 C2 hd hBd hBc hfl hq h
          go_wp2_with fail
          go_loopg [8, 9] N (fun n v _ wr => ∃ (L : List Int) (t : Bool) (lo : Option Addr) (ln lc : Nat) (ro : Option Addr) (rn rc : Nat), n ≤ N ∧ Bk w w.heap.size (.bool t) (.slice lo ln lc) (.slice ro rn rc) wr ∧ RatV wr (.agg #[.bool t, .slice lo ln lc, .slice ro rn rc]) (n : Rat) ∧ Own IsI64 wr (w.heap.size + 1) 3 1 v L.length (i64s L) ∧ Hid (unr T N = unr T n ++ L.reverse))
          case atStart => exact ⟨[], s, ao, n, cap, bo, m, cap', Nat.le_refl _, hB4, hv4, Own.nil _ _ _ _ _, hid (by simp)⟩
          case round =>
            clear hB4 hv4 hbel4 hb4 hb3 hb2 hb1 hbd
            obtain ⟨L, t, lo, ln, lc, ro, rn, rc, hgN, hBr, hVr, hown, hun⟩ := hrel
            obtain ⟨a0, a1, a2⟩ := hBr.c3
            have hbelr := hBr.bel
            by_cases hg0 : gk = 0
            · subst hg0
              go_wp2_with fail
              refine (Sign_any ((0 : Nat) : Rat) _ _ hVr).mono ?_; rintro e w5 ⟨rfl, hb5⟩
              rw [rsg_nat0]
              have hown5 := (hown.below hb5).1
              have hll : L.length ≤ 256 := by
                have h1 := hlen.out
                rw [hun.out] at h1
                simp at h1; omega
              go_wp2_with fail
              refine (reverse_own _ _ _ _ _ hown5 (by omega)).mono ?_; rintro e w6 ⟨rfl, hown6, hb6⟩
              obtain ⟨oo, oc, rfl, hsl, hz⟩ := ownsZ hown6
              have hres : L.reverse = unr T N := by have := hun.out; rw [unr_zero, List.nil_append] at this; exact this.symm
              rw [hres] at hsl
              have hbel6 : Below w.heap.size w w6 := (below_chain hbelr hb5).trans (hb6.mono (by omega))
              clear hres a0 a1 a2
              go_wp2_with fail
              go_ret2
              rw [HR.out, HC.out]
              exact ⟨_, _, _, rfl, hsl, hz, hbel6⟩
            · have hll : L.length + 1 ≤ 256 := by
                have h1 := hlen.out
                rw [hun.out, unr_pos (by omega) hg0] at h1
                simp at h1; omega
              have hrs := rsg_natp hg0
              have hrs := hid hrs
              go_wp2_with fail
              refine (Sign_any (gk : Rat) _ _ hVr).mono ?_; rintro e w5 ⟨rfl, hb5⟩
              rw [hrs.out]
              have hB5 := hBr.next hb5
              clear a0 a1 a2
              obtain ⟨a0, a1, a2⟩ := hB5.c3
              go_wp2_with fail
              refine (last_any gk T hg0 hT1 hT2 _ _ 257 (hfn.out gk hgN) (by decide) (hVr.next hb5)).mono ?_; rintro e w6 ⟨v6, rfl, C6, hb6⟩
              obtain ⟨ys, zo, zn, zc, uo, un, uc, rfl⟩ := C6.shape
              have hB6 := hB5.next hb6
              have hown6 := (hown.below hb5).below hb6
              have hvb : ∀ b, u8.ownBlock = some b → b ≠ w.heap.size := fun b hb => by have := (hown.lt hb).1; omega
              have hB7 := hB6.put (.bool ys) (.slice zo zn zc) (.slice uo un uc)
              have C7 := C6.putOther hB6.res (.bool ys) (.slice zo zn zc) (.slice uo un uc)
              have hown7 := ((hown6.put (p := ⟨w.heap.size, 0, none⟩) hvb (.bool ys)).put (p := ⟨w.heap.size, 1, none⟩) hvb (.slice zo zn zc)).put (p := ⟨w.heap.size, 2, none⟩) hvb (.slice uo un uc)
              obtain ⟨e0, e1, e2⟩ := hB6.c3
              have f0 := hB6.free 0
              have f1 := hB6.free 1
              have f2 := hB6.free 2
              obtain ⟨dg, hdg⟩ : ∃ d : Int, (((gk - 1) % T : Nat) : Int) + 1 = d := ⟨_, rfl⟩
              rw [hdg]
              have Hdg := hid hdg
              clear hdg
              have hstep : Hid (unr T N = unr T ((gk - 1) / T) ++ (L ++ [dg]).reverse) := hid (by
                rw [hun.out, unr_pos (by omega) hg0, ← Hdg.out]
                simp)
              have hW : w.heap.size + 1 ≤ ((((w6.setCell ⟨w.heap.size, 0, none⟩ (.bool ys)).setCell ⟨w.heap.size, 1, none⟩ (.slice zo zn zc)).setCell ⟨w.heap.size, 2, none⟩ (.slice uo un uc)).alloc (.cells #[.int .i64 dg] 3)).heap.size := by
                have := hB7.lt
                rw [World.size_alloc]; omega
              have hlit := Sl.lit (((w6.setCell ⟨w.heap.size, 0, none⟩ (.bool ys)).setCell ⟨w.heap.size, 1, none⟩ (.slice zo zn zc)).setCell ⟨w.heap.size, 2, none⟩ (.slice uo un uc)) [.int .i64 dg] 3 (by simp [maxLen])
              rw [size_set3] at hlit
              go_wp2_with (at_builtin; go_loud (refine wp_own rfl (.tmp 49) (.tmp 51) 25 rfl IsI64 3 _ 1 8 Try.underlying25 Try.infoI64 rfl (by decide) (by intro c hc; simp [Value.cells] at hc; subst hc; exact ⟨0, rfl⟩) (w.heap.size + 1) _ L.length _ rfl (hown7.new _) _ 1 1 _ rfl rfl hlit.cells (by intro u hu; simp at hu; subst hu; rfl) (by intro u hu; simp at hu; subst hu; exact ⟨dg, rfl⟩) (by decide) (by omega) (by omega) hW ?_))
              intro v8 w8 hown8 hg8 hb8 _
              have hbel8 : Below w.heap.size w w8 := (hB7.bel.alloc hB7.bel.size _).trans (hb8.mono (by omega))
              have hB8 := (hB7.new _).grown hg8 (fun e => hvb _ e.symm rfl) hbel8
              have C8 := (C7.next (below_alloc _)).grownU (hown7.new _) isI64_u32 hg8
              have hdl : (gk - 1) / T ≤ N := by have := Nat.div_le_self (gk - 1) T; omega
              have hv8 := C8.toV (hfn.out _ hdl) (by decide)
              go_wp2_with fail
              have hm : (gk - 1) / T < gk := by have := Nat.div_le_self (gk - 1) T; omega
              go_roundg ((gk - 1) / T)
              case measure => exact hm
              case rel => exact ⟨L ++ [dg], ys, zo, zn, zc, uo, un, uc, hdl, hB8, hv8, by simpa [i64s] using hown8, hstep⟩
      · obtain ⟨cf, hcf, hcf0⟩ : ∃ z : Int, rsg (q - ((q.floor : Int) : Rat)) = z ∧ z ≠ 0 := ⟨_, rfl, fun h => hden ((whole_floor q).1 (rsg_zero.1 h))⟩
        have HCf := hid hcf
        clear hcf
        have d2 : (cf == 0) = false := by simpa using hcf0
        have d2' : (cf != 0) = true := by simpa using hcf0
        have hf : unrOk q (T : Int) = false := by rw [Hunr.out]; exact decide_eq_false (by rintro ⟨_, a, _⟩; exact hden a)
        have HR := hid (Hbad.out hf).1; have HC := hid (Hbad.out hf).2
        clear hf hcf0
        refine wp_region_held_drew (S := (fun w' => C3 w.heap.size (.bool s) (.slice ao n cap) (.slice bo m cap') w' ∧ C3 g (.bool xs) (.slice xo xn xc) (.slice yo yn yc) w')) (by kernel_rfl) (hS0) (fun hHeld => ?_)
        refine held_take (i := 0) (d := 24) (v := ?_) rfl rfl (by kernel_rfl) (by kernel_rfl) (by kernel_rfl) (fun _ _ _ h => h) (by rfl) ?_ hHeld ?_
        rotate_left
        · intro w hSw; (try dsimp only at hSw); go_simp; with_reducible rfl
        try simp only [Act.put, List.setIfInBounds_toArray, List.set_cons_zero, List.set_cons_succ]
        refine wpAnyH_ready (rs := [1]) (by kernel_rfl) (by simp) (AllReadyH.cons rfl (fun K hK => ?_) AllReadyH.nil)
        go_simp
        go_at_call 96; refine (Sign_any q _ _ (h.next hbd)).mono ?_; rintro e w1 ⟨rfl, hb1⟩; rw [HSg.out]
        go_wp2_with fail
        refine hK.out _ _ (hK' _ _ hHeld hb1) (fun hHeld => ?_)
        clear hK K
        try simp only [Act.put, List.setIfInBounds_toArray, List.set_cons_zero, List.set_cons_succ]
        refine held_take (i := 2) (d := 26) (v := ?_) rfl rfl (by kernel_rfl) (by kernel_rfl) (by kernel_rfl) (fun _ _ _ h => h) (by rfl) ?_ hHeld ?_
        rotate_left
        · intro w hSw; (try dsimp only at hSw); go_simp; with_reducible rfl
        try simp only [Act.put, List.setIfInBounds_toArray, List.set_cons_zero, List.set_cons_succ]
        refine held_take (i := 3) (d := 27) (v := ?_) rfl rfl (by kernel_rfl) (by kernel_rfl) (by kernel_rfl) (fun _ _ _ h => h) (by rfl) ?_ hHeld ?_
        rotate_left
        · intro w hSw; (try dsimp only at hSw); go_simp; with_reducible rfl
        try simp only [Act.put, List.setIfInBounds_toArray, List.set_cons_zero, List.set_cons_succ]
        refine held_take (i := 4) (d := 28) (v := ?_) rfl rfl (by kernel_rfl) (by kernel_rfl) (by kernel_rfl) (fun _ _ _ h => h) (by rfl) ?_ hHeld ?_
        rotate_left
        · intro w hSw; (try dsimp only at hSw); go_simp; with_reducible rfl
        try simp only [Act.put, List.setIfInBounds_toArray, List.set_cons_zero, List.set_cons_succ]
        refine held_take (i := 5) (d := 29) (v := ?_) rfl rfl (by kernel_rfl) (by kernel_rfl) (by kernel_rfl) (fun _ _ _ h => h) (by rfl) ?_ hHeld ?_
        rotate_left
        · intro w hSw; (try dsimp only at hSw); go_simp; with_reducible rfl
        try simp only [Act.put, List.setIfInBounds_toArray, List.set_cons_zero, List.set_cons_succ]
        refine wpAnyH_ready (rs := [6]) (by kernel_rfl) (by simp) (AllReadyH.cons rfl (fun K hK => ?_) AllReadyH.nil)
        go_simp
        go_at_call 98; refine (Down_any q 0 _ _ (h.next (below_chain hbd hb1)) k hq (by omega)).mono ?_; rintro e w2 ⟨v2, rfl, C2, hb2⟩; rw [down_zero] at C2
        go_wp2_with fail
        refine hK.out _ _ (hK' _ _ hHeld hb2) (fun hHeld => ?_)
        clear hK K
        try simp only [Act.put, List.setIfInBounds_toArray, List.set_cons_zero, List.set_cons_succ]
        refine wpAnyH_ready (rs := [7]) (by kernel_rfl) (by simp) (AllReadyH.cons rfl (fun K hK => ?_) AllReadyH.nil)
        go_simp
        go_at_call 97; refine (Compare_any q ((q.floor : Int) : Rat) _ _ _ (h.next (below_chain (below_chain hbd hb1) hb2)) (C2.toV hfl (by omega)) (k + 1) (hq.mono (by omega)) hfl (by omega)).mono ?_; rintro e w3 ⟨rfl, hb3⟩; rw [HCf.out]
        go_wp2_with fail
        refine hK.out _ _ (hK' _ _ hHeld hb3) (fun hHeld => ?_)
        clear hK K
        try simp only [Act.put, List.setIfInBounds_toArray, List.set_cons_zero, List.set_cons_succ]
        refine held_take (i := 8) (d := 32) (v := ?_) rfl rfl (by kernel_rfl) (by kernel_rfl) (by kernel_rfl) (fun _ _ _ h => h) (by rfl) ?_ hHeld ?_
        rotate_left
        · intro w hSw; (try dsimp only at hSw); go_simp; with_reducible rfl
        try simp only [Act.put, List.setIfInBounds_toArray, List.set_cons_zero, List.set_cons_succ]
        refine held_take (i := 9) (d := 33) (v := ?_) rfl rfl (by kernel_rfl) (by kernel_rfl) (by kernel_rfl) (fun _ _ _ h => h) (by rfl) ?_ hHeld ?_
        rotate_left
        · intro w hSw; (try dsimp only at hSw); go_simp; with_reducible rfl
        try simp only [Act.put, List.setIfInBounds_toArray, List.set_cons_zero, List.set_cons_succ]
        refine held_take (i := 10) (d := 34) (v := ?_) rfl rfl (by kernel_rfl) (by kernel_rfl) (by kernel_rfl) (fun _ _ _ h => h) (by rfl) ?_ hHeld ?_
        rotate_left
        · intro w hSw; (try dsimp only at hSw); go_simp; with_reducible rfl
        try simp only [Act.put, List.setIfInBounds_toArray, List.set_cons_zero, List.set_cons_succ]
        refine held_skip (i := 11) (d := 35) rfl rfl (by kernel_rfl) (by kernel_rfl) (by kernel_rfl) (fun _ _ _ h => h) (by rfl) hHeld ?_
        try simp only [Act.put, List.setIfInBounds_toArray, List.set_cons_zero, List.set_cons_succ]
        refine held_skip (i := 12) (d := 36) rfl rfl (by kernel_rfl) (by kernel_rfl) (by kernel_rfl) (fun _ _ _ h => h) (by rfl) hHeld ?_
        try simp only [Act.put, List.setIfInBounds_toArray, List.set_cons_zero, List.set_cons_succ]
        refine held_skip (i := 13) (d := 37) rfl rfl (by kernel_rfl) (by kernel_rfl) (by kernel_rfl) (fun _ _ _ h => h) (by rfl) hHeld ?_
        try simp only [Act.put, List.setIfInBounds_toArray, List.set_cons_zero, List.set_cons_succ]
        refine held_skip (i := 14) (d := 38) rfl rfl (by kernel_rfl) (by kernel_rfl) (by kernel_rfl) (fun _ _ _ h => h) (by rfl) hHeld ?_
        try simp only [Act.put, List.setIfInBounds_toArray, List.set_cons_zero, List.set_cons_succ]
        refine held_take (i := 15) (d := 39) (v := ?_) rfl rfl (by kernel_rfl) (by kernel_rfl) (by kernel_rfl) (fun _ _ _ h => h) (by rfl) ?_ hHeld ?_
        rotate_left
        · intro w hSw; (try dsimp only at hSw); go_simp; with_reducible rfl
        try simp only [Act.put, List.setIfInBounds_toArray, List.set_cons_zero, List.set_cons_succ]
        refine wpAnyH_done (by kernel_rfl) ?_ _
        go_wp2_with fail
        go_ret2
        rw [HR.out, HC.out]
        exact ⟨none, 0, 0, rfl, Sl.nil _, fun _ => rfl, below_chain (below_chain (below_chain hbd hb1) hb2) hb3⟩
  · have hf : unrOk q I = false := by unfold unrOk; exact decide_eq_false (by omega)
    have HR : Hid (unrRes q I = []) := hid (by unfold unrRes; rw [hf]; rfl)
    have HC : Hid (unrErr q I = 9) := hid (by unfold unrErr; rw [hf, if_neg hI]; rfl)
    by_cases hl : I < 1
    · have c1 : decide (I < 1) = true := decide_eq_true hl
      clear hf hI
      go_enter Try.func57, Try.ntmps57
      go_wp2_with fail
      go_ret2
      rw [HR.out, HC.out]
      exact ⟨none, 0, 0, rfl, Sl.nil _, fun _ => rfl, hB.bel⟩
    · have c1 : decide (I < 1) = false := decide_eq_false hl
      have c2 : decide (32 < I) = true := decide_eq_true (by omega)
      clear hf hI
      go_enter Try.func57, Try.ntmps57
      go_wp2_with fail
      go_ret2
      rw [HR.out, HC.out]
      exact ⟨none, 0, 0, rfl, Sl.nil _, fun _ => rfl, hB.bel⟩

end Go.Proofs.Yteancfcmiiddiaa

/-
  The contract of the reference's Unrank. No condition but sizes.
-/
namespace Go.Proofs.Yteancfcmiiddiaa
open Go.RowKit
set_option linter.unusedSimpArgs false
set_option linter.unusedVariables false

theorem makeRat_one (z : Int) : makeRat z 1 = (z : Rat) := by unfold makeRat; rw [if_neg (by decide)]; grind
theorem nat_one : (((1 : Int)) : Rat) = 1 := rfl

theorem rOf1_any (z : Int) (h1 : -9223372036854775808 ≤ z) (h2 : z ≤ 9223372036854775807) (w : World) :
    Calls Try.prog 62 #[.int .i64 z, .int .i64 1] w (RatOut w (z : Rat)) := by
  have := rOf_any z 1 h1 h2 (by decide) (by decide) w
  rwa [makeRat_one] at this

theorem BkQ.bel {w w' : World} {G : Nat} {q : Rat} (h : BkQ w G q w') : Below w.heap.size w w' := by obtain ⟨_, _, _, _, _, _, _, k, _⟩ := h; exact k.bel

theorem Sl.putI {w w' : World} {G : Nat} {b0 : Bool} {a1 a2 : Option Addr} {n1 n2 k1 k2 : Nat} {ao : Option Addr} {n cap : Nat} {l : List Int} (s : Sl w' ao n cap (i64s l)) (k : Bk w G (.bool b0) (.slice a1 n1 k1) (.slice a2 n2 k2) w') (x y z : Value) :
    Sl (((w'.setCell ⟨G, 0, none⟩ x).setCell ⟨G, 1, none⟩ y).setCell ⟨G, 2, none⟩ z) ao n cap (i64s l) := by
  refine s.set3 ?_ _ _ _
  rintro a rfl hn e
  obtain ⟨v, _, b, off, e2, hc⟩ := s.i64 (show 0 < n by omega)
  obtain rfl := Option.some.inj e2
  simp only at e
  subst e
  rcases k.res.far _ _ hc with h1 | h1 | h1 <;> cases h1

set_option maxHeartbeats 16000000 in
theorem rwUnrank_any (q : Rat) (I : Int) (v : Value) (w : World) (h : RatV w v q) (k : Nat) (hq : Fit k q) (hk : k ≤ 257) :
    Calls Try.prog 58 #[v, .int .i64 I] w (IntsOut w (unrRes q I) (unrErr q I)) := by
  obtain ⟨s, ao, n, cap, bo, m, cap', rfl⟩ := h.shape
  have hB := Bk.start (Below.refl w.heap.size w) rfl (.bool s) (.slice ao n cap) (.slice bo m cap') 54
  by_cases hI : 1 ≤ I ∧ I ≤ 32
  · obtain ⟨T, rfl⟩ := Int.eq_ofNat_of_zero_le (show 0 ≤ I by omega)
    have hT1 : 1 ≤ T := by omega
    have hT2 : T ≤ 32 := by omega
    have ca : (decide (1 ≤ (T : Int)) && decide ((T : Int) ≤ 32)) = true := by simp; omega
    have hunr : unrOk q (T : Int) = decide (0 ≤ q.num ∧ q.den = 1 ∧ q.num.toNat ≤ topR T 256) := by
      unfold unrOk; rw [decide_eq_decide, Int.toNat_natCast]
      exact ⟨fun h => h.2.2, fun h => ⟨hI.1, hI.2, h⟩⟩
    have hbad : unrOk q (T : Int) = false → unrRes q (T : Int) = [] ∧ unrErr q (T : Int) = 1 := fun h => by
      constructor
      · unfold unrRes; rw [h]; rfl
      · unfold unrErr; rw [h, if_pos hI]; rfl
    have hgood : unrOk q (T : Int) = true → unrRes q (T : Int) = unr T q.num.toNat ∧ unrErr q (T : Int) = 0 := fun h => by
      constructor
      · unfold unrRes; rw [h, Int.toNat_natCast]; rfl
      · unfold unrErr; rw [h]; rfl
    have hT0 : ((T : Int) : Rat) ≠ 0 := by
      intro h
      have h2 : ((T : Int) : Rat) = ((0 : Int) : Rat) := h
      have := Rat.intCast_inj.1 h2
      omega
    have fSym : Fit 1 (((T : Int) : Rat)) := fit_small (by omega) (by omega)
    have fOne : Fit 1 (((1 : Int) : Rat)) := fit_small (by decide) (by decide)
    generalize unrRes q (T : Int) = R at *
    generalize unrErr q (T : Int) = C at *
    have Ca := hid ca
    have Hunr := hid hunr; have Hbad := hid hbad; have Hgood := hid hgood
    clear hunr hbad hgood hI ca
    go_enter Try.func58, Try.ntmps58
    go_wp2_with fail
    refine (alphabet_any (T : Int) _).mono ?_; rintro e w0 ⟨rfl, rfl⟩
    rw [Ca.out]
    go_wp2_with fail
    refine (rTake_any q _ _ (h.next hB.bel)).mono ?_; rintro e w1 ⟨v1, rfl, C1, hb1⟩
    obtain ⟨rb, ro, rn, rc, so, sn, sc, rfl⟩ := C1.shape
    have hB1 := hB.next hb1
    have c1 := C1.putOther hB1.res (.bool rb) (.slice ro rn rc) (.slice so sn sc)
    have b1 := hB1.put (.bool rb) (.slice ro rn rc) (.slice so sn sc)
    obtain ⟨d0, d1, d2⟩ := hB1.c3
    have f0 := hB1.free 0
    have f1 := hB1.free 1
    have f2 := hB1.free 2
    obtain ⟨hneg, sX, sY, zX, _⟩ := c1.parts
    have hlY := sY.lenU
    have hY0 : Hid (sn = 0 ↔ q.den = 1) := hid (by
      rw [← hlY]
      unfold denL
      split
      · simp; assumption
      · constructor
        · intro h; exact absurd (dig_nil.1 (List.eq_nil_of_length_eq_zero h)) q.den_nz
        · intro h; contradiction)
    have Hneg := hid hneg
    have hbel := b1.bel
    clear hneg hlY hB C1 sX sY
    cases rb with
    | true =>
      have hng : q.num < 0 := of_decide_eq_true Hneg.out.symm
      have hf : unrOk q (T : Int) = false := by rw [Hunr.out]; exact decide_eq_false (by omega)
      have HR := hid (Hbad.out hf).1; have HC := hid (Hbad.out hf).2
      clear hf
      go_wp2_with fail
      go_ret2
      rw [HR.out, HC.out]
      exact ⟨none, 0, 0, rfl, Sl.nil _, fun _ => rfl, hbel⟩
    | false =>
      have hng : 0 ≤ q.num := Int.not_lt.1 (of_decide_eq_false Hneg.out.symm)
      by_cases hsn : 0 < sn
      · have hf : unrOk q (T : Int) = false := by rw [Hunr.out]; exact decide_eq_false (by rintro ⟨_, a, _⟩; have := hY0.out.2 a; omega)
        have HR := hid (Hbad.out hf).1; have HC := hid (Hbad.out hf).2
        clear hf
        go_wp2_with fail
        go_ret2
        rw [HR.out, HC.out]
        exact ⟨none, 0, 0, rfl, Sl.nil _, fun _ => rfl, hbel⟩
      · obtain rfl : sn = 0 := by omega
        obtain ⟨N, hN⟩ : ∃ N, q.num.toNat = N := ⟨_, rfl⟩
        have hqN := nat_of_whole hng (hY0.out.1 rfl)
        rw [hN] at hqN
        have hunr2 : unrOk q (T : Int) = decide (N ≤ topR T 256) := by
          rw [Hunr.out, hN, decide_eq_decide]; exact ⟨fun h => h.2.2, fun h => ⟨hng, hY0.out.1 rfl, h⟩⟩
        have Hunr2 := hid hunr2
        have HN := hid hN
        have hfN : Fit 257 (N : Rat) := by rw [← hqN]; exact hq.mono hk
        have hv0 := c1.toV (hq.mono hk) (by decide)
        rw [hqN] at hv0
        have hfn : Hid (∀ n, n ≤ N → Fit 257 (n : Rat)) := hid (fun n hn => fit_nat (Nat.le_trans (lim_mono hn) hfN.1) (by omega))
        clear hunr2 hN hqN c1 hq h Hneg hY0 hfN hng
        go_wp2_with fail
        clear d0 d1 d2 f0 f1 f2 hB1 hsn
        generalize ((w1.setCell ⟨w.heap.size, 0, none⟩ (.bool false)).setCell ⟨w.heap.size, 1, none⟩ (.slice ro rn rc)).setCell ⟨w.heap.size, 2, none⟩ (.slice so 0 sc) = W at *
        go_loopg [6, 7, 8, 9, 10] N (fun n v _ _ _ _ wr => ∃ (L : List Int) (oo : Option Addr) (oc : Nat) (t : Bool) (lo : Option Addr) (ln lc : Nat) (ro : Option Addr) (rn rc : Nat), n ≤ N ∧ Bk w w.heap.size (.bool t) (.slice lo ln lc) (.slice ro rn rc) wr ∧ RatV wr (.agg #[.bool t, .slice lo ln lc, .slice ro rn rc]) (n : Rat) ∧ v = .slice oo L.length oc ∧ Sl wr oo L.length oc (i64s L) ∧ (oo = none → oc = 0) ∧ L.length ≤ 256 ∧ Hid (unr T N = unr T n ++ L))
        case atStart => exact ⟨[], none, 0, false, ro, rn, rc, so, 0, sc, Nat.le_refl _, b1, hv0, rfl, Sl.nil _, fun _ => rfl, by simp, hid (by simp)⟩
        case round =>
          clear b1 hv0 hbel hb1
          obtain ⟨L, oo, oc, t, lo, ln, lc, ro, rn, rc, hgN, hBr, hVr, rfl, hsl, hoz, hL, hun⟩ := hrel
          obtain ⟨a0, a1, a2⟩ := hBr.c3
          have hbelr := hBr.bel
          by_cases hg0 : gk = 0
          · subst hg0
            have hfin : unr T N = L := by have := hun.out; rwa [unr_zero, List.nil_append] at this
            have hok : unrOk q (T : Int) = true := by
              rw [Hunr2.out]; exact decide_eq_true ((unr_len (by omega) 256 N).1 (by rw [hfin]; exact hL))
            have HR := hid (Hgood.out hok).1; have HC := hid (Hgood.out hok).2
            rw [HN.out, hfin] at HR
            clear hok hfin
            go_wp2_with fail
            refine (rSign_any ((0 : Nat) : Rat) _ _ hVr).mono ?_; rintro e w5 ⟨rfl, hb5⟩
            rw [rsg_nat0]
            go_wp2_with fail
            go_ret2
            rw [HR.out, HC.out]
            exact ⟨_, _, _, rfl, hsl.next hb5, hoz, below_chain hbelr hb5⟩
          · have hrs := rsg_natp hg0
            have hrs := hid hrs
            by_cases h256 : L.length = 256
            · have hf : unrOk q (T : Int) = false := by
                rw [Hunr2.out]
                refine decide_eq_false (fun hc => ?_)
                have h1 := (unr_len (by omega) 256 N).2 hc
                rw [hun.out, unr_pos (by omega) hg0] at h1
                simp at h1; omega
              have HR := hid (Hbad.out hf).1; have HC := hid (Hbad.out hf).2
              have hc1 : ((L.length : Int) == 256) = true := by simp; omega
              clear hf h256
              go_wp2_with fail
              refine (rSign_any (gk : Rat) _ _ hVr).mono ?_; rintro e w5 ⟨rfl, hb5⟩
              rw [hrs.out]
              go_wp2_with fail
              go_ret2
              rw [HR.out, HC.out]
              exact ⟨none, 0, 0, rfl, Sl.nil _, fun _ => rfl, below_chain hbelr hb5⟩
            · have hc1 : ((L.length : Int) == 256) = false := by simp; omega
              have hL2 : L.length ≤ 255 := by omega
              have hfg := hfn.out gk hgN
              have hdl : (gk - 1) / T ≤ N := by have := Nat.div_le_self (gk - 1) T; omega
              have hrest := hfn.out _ hdl
              have hsub := (fit_sub hfg fOne)
              have hdiv := fit_div hsub fSym
              have hmul := fit_mul hrest fSym
              have core : downI (((gk : Rat) - ((1 : Int) : Rat)) / ((T : Int) : Rat)) 0 = (((gk - 1) / T : Nat) : Rat) ∧ ((gk : Rat) - ((1 : Int) : Rat)) - (((gk - 1) / T : Nat) : Rat) * ((T : Int) : Rat) = (((gk - 1) % T : Nat) : Rat) := last_core gk T hg0 (by omega)
              have hsub2 := fit_sub hsub hmul
              have Core1 := hid core.1
              have Core2 := hid core.2
              obtain ⟨d0, hd0, hdl0, hdu0⟩ : ∃ d : Int, (((gk - 1) % T : Nat) : Int) = d ∧ 0 ≤ d ∧ d < 32 := ⟨_, rfl, by omega, by have := Nat.mod_lt (gk - 1) (show 0 < T by omega); omega⟩
              have hwn := whole_nat ((gk - 1) % T) (by have := Nat.mod_lt (gk - 1) (show 0 < T by omega); omega)
              rw [hd0] at hwn
              have Hwn := hid hwn
              have Hd0 := hid hd0
              clear hwn hd0
              have hdig : (gk - 1) % T < 32 := by have := Nat.mod_lt (gk - 1) (show 0 < T by omega); omega
              clear core h256
              go_wp2_with fail
              refine (rSign_any (gk : Rat) _ _ hVr).mono ?_; rintro e w5 ⟨rfl, hb5⟩
              rw [hrs.out]
              have hB5 := hBr.next hb5
              have hVr5 := hVr.next hb5
              have hsl := hsl.next hb5
              clear a0 a1 a2 hBr hVr hbelr
              go_upto_region 10 with fail
              go_cut [7] (fun s7 wx => ∃ g, s7 = .pointer (some ⟨g, 0, none⟩) ∧ w.heap.size < g ∧ BkQ w g ((gk : Rat) - ((1 : Int) : Rat)) wx ∧ Bk w w.heap.size (.bool t) (.slice lo ln lc) (.slice ro rn rc) wx ∧ Sl wx oo L.length oc (i64s L))
              case first =>
                have hd := (Below.refl w5.heap.size w5).drew
                have lt0 : w.heap.size < w5.heap.size := hB5.lt
                have hSW : (C3 w.heap.size (.bool t) (.slice lo ln lc) (.slice ro rn rc) w5) := hB5.c3
                have hS0 : (C3 w.heap.size (.bool t) (.slice lo ln lc) (.slice ro rn rc) w5.drew) := hB5.c3.next hd
                have hK : ∀ w' w'', (C3 w.heap.size (.bool t) (.slice lo ln lc) (.slice ro rn rc) w') → Below w'.heap.size w' w'' → (C3 w.heap.size (.bool t) (.slice lo ln lc) (.slice ro rn rc) w'') := fun w' w'' h hb => h.next hb
                have hSt : ∀ w' G (x y z : Value), w.heap.size < G → (C3 w.heap.size (.bool t) (.slice lo ln lc) (.slice ro rn rc) w') → (C3 w.heap.size (.bool t) (.slice lo ln lc) (.slice ro rn rc) (((w'.setCell ⟨G, 0, none⟩ x).setCell ⟨G, 1, none⟩ y).setCell ⟨G, 2, none⟩ z)) := fun w' G x y z hG h => h.set3 (by omega) _ _ _
                go_region_held3 (fun w' => (C3 w.heap.size (.bool t) (.slice lo ln lc) (.slice ro rn rc) w'))
                  (repeat (first | with_reducible refine hSt _ _ _ _ _ (by with_reducible first | exact lt0 | exact lt1 | exact lt2) ?_ | with_reducible assumption | with_reducible refine C3.new ?_ _ | with_reducible refine hK _ _ ?_ hb1 | with_reducible refine hK _ _ ?_ hb2 | with_reducible refine hK _ _ ?_ (Below.refl _ _).drew))
                  (first
                    | (go_at_call 62; refine (rOf1_any 1 (by decide) (by decide) _).mono ?_; rintro e w1 ⟨v1, rfl, C1, hb1⟩; have lt1 : w.heap.size < w1.heap.size := Nat.lt_of_lt_of_le (Nat.lt_of_lt_of_le lt0 (show w5.heap.size ≤ _ by simp)) hb1.size; obtain ⟨hc1, hf1⟩ := bcell hb1; have hz1 := hb1.size; (try simp at hz1); (try have hu1 := Nat.lt_of_succ_le hz1); (try have hy1 := Nat.lt_of_succ_lt hu1))
                    | (go_at_call 103; refine (rSub_any (gk : Rat) ((1 : Int) : Rat) _ _ _ (by first | exact (hVr5.next hd).next hb1 | exact ((hVr5.next hd).next hb1).next (below_alloc _) | exact ((hVr5.next (below_alloc _)).next (Below.refl _ _).drew).next hb1) (by first | exact C1.toV fOne (by decide) | exact (C1.next (below_alloc _)).toV fOne (by decide)) 257 hfg (fOne.mono (by decide)) (by decide)).mono ?_; rintro e w2 ⟨v2, rfl, C2, hb2⟩; obtain ⟨rb, ro', rn', rc', so', sn', sc', rfl⟩ := C2.shape; obtain ⟨hc2, hf2⟩ := bcell hb2; have hz2 := hb2.size; (try simp at hz2); (try have hu2 := Nat.lt_of_succ_le hz2); (try have hy2 := Nat.lt_of_succ_lt hu2); (try have hx21 := Nat.lt_of_lt_of_le hu1 (Nat.le_trans (by simp) hb2.size)); (try have hw21 := Nat.lt_of_lt_of_le hy1 (Nat.le_trans (by simp) hb2.size))))
                · go_wp2_with fail
                  go_meet
                  exact ⟨_, rfl, Nat.lt_of_lt_of_le lt1 hb2.size, bkq_new (below_chain (below_chain hB5.bel.drew hb1) hb2) C2 _, ((hB5.drew.next hb1).next hb2).new _, (((hsl.next hd).next hb1).next hb2).next (below_alloc _)⟩
                · go_wp2_with fail
                  go_meet
                  have kg : Bk w w1.heap.size (.bool false) (.slice none 0 0) (.slice none 0 0) w2 := (Bk.start (below_chain hB5.bel.drew hb1) rfl _ _ _ _).next hb2
                  have kB := ((hB5.drew.next hb1).new (.cells #[.bool false, .slice none 0 0, .slice none 0 0] 54)).next hb2
                  have sl := (((hsl.next hd).next hb1).next (below_alloc (.cells #[.bool false, .slice none 0 0, .slice none 0 0] 54))).next hb2
                  exact ⟨_, rfl, lt1, kg.putQ C2, kB.other (Nat.ne_of_gt lt1) kg.ge _ _ _, sl.putI kg _ _ _⟩
                · go_wp2_with fail
                  go_meet
                  have kg : Bk w w5.heap.size (.bool false) (.slice none 0 0) (.slice none 0 0) w2 := ((Bk.start hB5.bel rfl _ _ _ _).drew.next hb1).next hb2
                  have kB := (((hB5.new (.cells #[.bool false, .slice none 0 0, .slice none 0 0] 54)).drew).next hb1).next hb2
                  have sl := (((hsl.next (below_alloc (.cells #[.bool false, .slice none 0 0, .slice none 0 0] 54))).next (Below.refl _ _).drew).next hb1).next hb2
                  exact ⟨_, rfl, lt0, kg.putQ C2, kB.other (Nat.ne_of_gt lt0) kg.ge _ _ _, sl.putI kg _ _ _⟩
              case rest =>
                clear hB5 hVr5 hsl
                obtain ⟨g, rfl, hgl, ⟨xs, xo, xn, xc, yo, yn, yc, kg, Cg⟩, kB, hsl⟩ := hcut
                generalize hL : (gk : Rat) - ((1 : Int) : Rat) = Q at *
                have HL := hid hL
                clear hL
                go_upto_region 12 with fail
                go_cut [8] (fun s8 wx => ∃ hh, s8 = .pointer (some ⟨hh, 0, none⟩) ∧ g < hh ∧ BkQ w hh (((gk - 1) / T : Nat) : Rat) wx ∧ (Bk w g (.bool xs) (.slice xo xn xc) (.slice yo yn yc) wx ∧ RatC wx (.agg #[.bool xs, .slice xo xn xc, .slice yo yn yc]) Q) ∧ Bk w w.heap.size (.bool t) (.slice lo ln lc) (.slice ro rn rc) wx ∧ Sl wx oo L.length oc (i64s L))
                case first =>
                  have hd := (Below.refl wc.heap.size wc).drew
                  have lt0 : g < wc.heap.size := kg.lt
                  have hSW : (C3 g (.bool xs) (.slice xo xn xc) (.slice yo yn yc) wc) := kg.c3
                  have hS0 : (C3 g (.bool xs) (.slice xo xn xc) (.slice yo yn yc) wc.drew) := kg.c3.next hd
                  have hK : ∀ w' w'', (C3 g (.bool xs) (.slice xo xn xc) (.slice yo yn yc) w') → Below w'.heap.size w' w'' → (C3 g (.bool xs) (.slice xo xn xc) (.slice yo yn yc) w'') := fun w' w'' h hb => h.next hb
                  have hSt : ∀ w' G (x y z : Value), g < G → (C3 g (.bool xs) (.slice xo xn xc) (.slice yo yn yc) w') → (C3 g (.bool xs) (.slice xo xn xc) (.slice yo yn yc) (((w'.setCell ⟨G, 0, none⟩ x).setCell ⟨G, 1, none⟩ y).setCell ⟨G, 2, none⟩ z)) := fun w' G x y z hG h => h.set3 (by omega) _ _ _
                  go_region_held3 (fun w' => (C3 g (.bool xs) (.slice xo xn xc) (.slice yo yn yc) w'))
                    (repeat (first | with_reducible refine hSt _ _ _ _ _ (by with_reducible first | exact lt0 | exact lt1 | exact lt2 | exact lt3) ?_ | with_reducible assumption | with_reducible refine C3.new ?_ _ | with_reducible refine hK _ _ ?_ hb1 | with_reducible refine hK _ _ ?_ hb2 | with_reducible refine hK _ _ ?_ hb3 | with_reducible refine hK _ _ ?_ (Below.refl _ _).drew))
                    (first
                      | (go_at_call 62; refine (rOf1_any T (by omega) (by omega) _).mono ?_; rintro e w1 ⟨v1, rfl, C1, hb1⟩; have lt1 : g < w1.heap.size := Nat.lt_of_lt_of_le (Nat.lt_of_lt_of_le lt0 (show wc.heap.size ≤ _ by simp)) hb1.size; obtain ⟨hc1, hf1⟩ := bcell hb1; have hz1 := hb1.size; (try simp at hz1); (try have hu1 := Nat.lt_of_succ_le hz1); (try have hy1 := Nat.lt_of_succ_lt hu1))
                      | (go_at_call 105; refine (rQuo_any Q ((T : Int) : Rat) hT0 _ _ _ (by first | exact ((Cg.next hd).next hb1).toV hsub (by decide) | exact (((Cg.next hd).next hb1).next (below_alloc _)).toV hsub (by decide) | exact (((Cg.next (below_alloc _)).next (Below.refl _ _).drew).next hb1).toV hsub (by decide)) (by first | exact C1.toV fSym (by decide) | exact (C1.next (below_alloc _)).toV fSym (by decide)) 259 hsub (fSym.mono (by decide)) (by decide)).mono ?_; rintro e w2 ⟨v2, rfl, C2, hb2⟩; have lt2 : g < w2.heap.size := Nat.lt_of_lt_of_le (Nat.lt_of_lt_of_le lt1 (show w1.heap.size ≤ _ by simp)) hb2.size; obtain ⟨hc2, hf2⟩ := bcell hb2; have hz2 := hb2.size; (try simp at hz2); (try have hu2 := Nat.lt_of_succ_le hz2); (try have hy2 := Nat.lt_of_succ_lt hu2); (try have hx21 := Nat.lt_of_lt_of_le hu1 (Nat.le_trans (by simp) hb2.size)); (try have hw21 := Nat.lt_of_lt_of_le hy1 (Nat.le_trans (by simp) hb2.size)))
                      | (go_at_call 104; refine (rDown_any (Q / ((T : Int) : Rat)) 0 _ _ (by first | exact C2.toV hdiv (by decide) | exact (C2.next (below_alloc _)).toV hdiv (by decide)) 260 hdiv (by decide)).mono ?_; rintro e w3 ⟨v3, rfl, C3', hb3⟩; obtain ⟨rb, ro', rn', rc', so', sn', sc', rfl⟩ := C3'.shape; rw [Core1.out] at C3'; obtain ⟨hc3, hf3⟩ := bcell hb3; have hz3 := hb3.size; (try simp at hz3); (try have hu3 := Nat.lt_of_succ_le hz3); (try have hy3 := Nat.lt_of_succ_lt hu3); (try have hx31 := Nat.lt_of_lt_of_le hu1 (Nat.le_trans (by simp) hb3.size)); (try have hw31 := Nat.lt_of_lt_of_le hy1 (Nat.le_trans (by simp) hb3.size)); (try have hx32 := Nat.lt_of_lt_of_le hu2 (Nat.le_trans (by simp) hb3.size)); (try have hw32 := Nat.lt_of_lt_of_le hy2 (Nat.le_trans (by simp) hb3.size))))
                  · go_wp2_with fail
                    go_meet
                    have k1 := (((kg.drew.next hb1).next hb2).next hb3).new (.cells #[.bool rb, .slice ro' rn' rc', .slice so' sn' sc'] 54)
                    exact ⟨_, rfl, Nat.lt_of_lt_of_le lt2 hb3.size, bkq_new (below_chain (below_chain (below_chain kg.bel.drew hb1) hb2) hb3) C3' _, ⟨k1, ((((Cg.next hd).next hb1).next hb2).next hb3).next (below_alloc _)⟩, (((kB.drew.next hb1).next hb2).next hb3).new _, ((((hsl.next hd).next hb1).next hb2).next hb3).next (below_alloc _)⟩
                  · go_wp2_with fail
                    go_meet
                    have kh : Bk w w2.heap.size (.bool false) (.slice none 0 0) (.slice none 0 0) w3 := (Bk.start (below_chain (below_chain kg.bel.drew hb1) hb2) rfl _ _ _ _).next hb3
                    have kB := (((kB.drew.next hb1).next hb2).new (.cells #[.bool false, .slice none 0 0, .slice none 0 0] 54)).next hb3
                    have k1 := (((kg.drew.next hb1).next hb2).new (.cells #[.bool false, .slice none 0 0, .slice none 0 0] 54)).next hb3
                    have c1 := ((((Cg.next hd).next hb1).next hb2).next (below_alloc (.cells #[.bool false, .slice none 0 0, .slice none 0 0] 54))).next hb3
                    have sl := ((((hsl.next hd).next hb1).next hb2).next (below_alloc (.cells #[.bool false, .slice none 0 0, .slice none 0 0] 54))).next hb3
                    exact ⟨_, rfl, lt2, kh.putQ C3', ⟨k1.other (Nat.ne_of_gt lt2) kh.ge _ _ _, c1.putOther kh.res _ _ _⟩, kB.other (Nat.ne_of_gt (Nat.lt_trans hgl lt2)) kh.ge _ _ _, sl.putI kh _ _ _⟩
                  · go_wp2_with fail
                    go_meet
                    have kh : Bk w w1.heap.size (.bool false) (.slice none 0 0) (.slice none 0 0) w3 := ((Bk.start (below_chain kg.bel.drew hb1) rfl _ _ _ _).next hb2).next hb3
                    have kB := (((kB.drew.next hb1).new (.cells #[.bool false, .slice none 0 0, .slice none 0 0] 54)).next hb2).next hb3
                    have k1 := (((kg.drew.next hb1).new (.cells #[.bool false, .slice none 0 0, .slice none 0 0] 54)).next hb2).next hb3
                    have c1 := ((((Cg.next hd).next hb1).next (below_alloc (.cells #[.bool false, .slice none 0 0, .slice none 0 0] 54))).next hb2).next hb3
                    have sl := ((((hsl.next hd).next hb1).next (below_alloc (.cells #[.bool false, .slice none 0 0, .slice none 0 0] 54))).next hb2).next hb3
                    exact ⟨_, rfl, lt1, kh.putQ C3', ⟨k1.other (Nat.ne_of_gt lt1) kh.ge _ _ _, c1.putOther kh.res _ _ _⟩, kB.other (Nat.ne_of_gt (Nat.lt_trans hgl lt1)) kh.ge _ _ _, sl.putI kh _ _ _⟩
                  · go_wp2_with fail
                    go_meet
                    have kh : Bk w wc.heap.size (.bool false) (.slice none 0 0) (.slice none 0 0) w3 := (((Bk.start kg.bel rfl _ _ _ _).drew.next hb1).next hb2).next hb3
                    have kB := ((((kB.new (.cells #[.bool false, .slice none 0 0, .slice none 0 0] 54)).drew).next hb1).next hb2).next hb3
                    have k1 := ((((kg.new (.cells #[.bool false, .slice none 0 0, .slice none 0 0] 54)).drew).next hb1).next hb2).next hb3
                    have c1 := ((((Cg.next (below_alloc (.cells #[.bool false, .slice none 0 0, .slice none 0 0] 54))).next (Below.refl _ _).drew).next hb1).next hb2).next hb3
                    have sl := ((((hsl.next (below_alloc (.cells #[.bool false, .slice none 0 0, .slice none 0 0] 54))).next (Below.refl _ _).drew).next hb1).next hb2).next hb3
                    exact ⟨_, rfl, lt0, kh.putQ C3', ⟨k1.other (Nat.ne_of_gt lt0) kh.ge _ _ _, c1.putOther kh.res _ _ _⟩, kB.other (Nat.ne_of_gt (Nat.lt_trans hgl lt0)) kh.ge _ _ _, sl.putI kh _ _ _⟩
                case rest =>
                  clear kg Cg kB hsl
                  obtain ⟨hh, rfl, hhl, ⟨ys, zo, zn, zc, uo, un, uc, kh, Ch⟩, ⟨kg, Cg⟩, kB, hsl⟩ := hcut
                  have hd := (Below.refl wc.heap.size wc).drew
                  have hS0 : (C3 g (.bool xs) (.slice xo xn xc) (.slice yo yn yc) wc.drew ∧ C3 hh (.bool ys) (.slice zo zn zc) (.slice uo un uc) wc.drew) := ⟨kg.drew.c3, kh.drew.c3⟩
                  have hK : ∀ w' w'', (C3 g (.bool xs) (.slice xo xn xc) (.slice yo yn yc) w' ∧ C3 hh (.bool ys) (.slice zo zn zc) (.slice uo un uc) w') → Below w'.heap.size w' w'' → (C3 g (.bool xs) (.slice xo xn xc) (.slice yo yn yc) w'' ∧ C3 hh (.bool ys) (.slice zo zn zc) (.slice uo un uc) w'') := fun w' w'' h hb => ⟨h.1.next hb, h.2.next hb⟩
                  go_wp2_with fail
                  go_region_held3 (fun w' => (C3 g (.bool xs) (.slice xo xn xc) (.slice yo yn yc) w' ∧ C3 hh (.bool ys) (.slice zo zn zc) (.slice uo un uc) w'))
                    (repeat (first | with_reducible assumption | with_reducible refine hK _ _ ?_ hb6 | with_reducible refine hK _ _ ?_ hb7 | with_reducible refine hK _ _ ?_ hb8 | with_reducible refine hK _ _ ?_ hb9))
                    (first
                      | (go_at_call 62; refine (rOf1_any T (by omega) (by omega) _).mono ?_; rintro e w6 ⟨v6, rfl, C6, hb6⟩)
                      | (go_at_call 81; refine (rMul_any (((gk - 1) / T : Nat) : Rat) ((T : Int) : Rat) _ _ _ (((Ch.next hd).next hb6).toV hrest (by decide)) (C6.toV fSym (by decide)) 257 hrest (fSym.mono (by decide)) (by decide)).mono ?_; rintro e w7 ⟨v7, rfl, C7, hb7⟩)
                      | (go_at_call 103; refine (rSub_any Q ((((gk - 1) / T : Nat) : Rat) * ((T : Int) : Rat)) _ _ _ ((((Cg.next hd).next hb6).next hb7).toV hsub (by decide)) (C7.toV hmul (by decide)) 259 hsub (hmul.mono (by decide)) (by decide)).mono ?_; rintro e w8 ⟨v8, rfl, C8, hb8⟩)
                      | (go_at_call 106; refine (rWhole_any _ _ _ (C8.toV hsub2 (by decide))).mono ?_; rintro e w9 ⟨rfl, hb9⟩))
                  rw [Core2.out, Hwn.out.1, Hwn.out.2]
                  have kB9 := (((kB.drew.next hb6).next hb7).next hb8).next hb9
                  have kh9 := (((kh.drew.next hb6).next hb7).next hb8).next hb9
                  have Ch9 := ((((Ch.next hd).next hb6).next hb7).next hb8).next hb9
                  have hsl9 := ((((hsl.next hd).next hb6).next hb7).next hb8).next hb9
                  clear hS0 hK kB kh Ch hsl kg Cg C6 C7 C8
                  have hstep : Hid (unr T N = unr T ((gk - 1) / T) ++ ((d0 + 1) :: L)) := hid (by
                    rw [hun.out, unr_pos (by omega) hg0, ← Hd0.out]
                    simp)
                  have hlit : (w9.alloc (.cells #[.int .i64 (d0 + 1)] 3)).ownsRow w9.heap.size 3 1 (.slice (some ⟨w9.heap.size, 0, none⟩) 1 1) 1 (i64s [d0 + 1]) := World.ownsRow_lit w9 #[.int .i64 (d0 + 1)] 1 (Nat.le_refl _) (by decide) rfl
                  go_wp2_with (at_builtin; go_loud (refine wp_app rfl (.tmp 50) (.tmp 51) 25 rfl 3 _ 8 Try.underlying25 Try.infoI64 rfl w9.heap.size _ 1 _ rfl hlit oo L.length oc (i64s L) rfl (hsl9.next (below_alloc _)) hoz (i64s_one L) (by omega) (by omega) (by simp) ?_))
                  intro v10 w10 hown10 _ hb10
                  have hbB : Below w9.heap.size w9 w10 := (below_alloc _).trans hb10
                  obtain ⟨no, nc, rfl, hsl10, hnz⟩ := ownsZ hown10
                  have kB10 := kB9.next hbB
                  have kh10 := kh9.next hbB
                  have Ch10 := Ch9.next hbB
                  obtain ⟨a0, a1, a2⟩ := kh10.c3
                  obtain ⟨b0, b1, b2⟩ := kB10.c3
                  have f0 := kB10.free 0
                  have f1 := kB10.free 1
                  have f2 := kB10.free 2
                  have hlen10 : 1 + L.length = ((d0 + 1) :: L).length := by simp [Nat.add_comm]
                  have hsl11 : Sl w10 no (1 + L.length) nc (i64s ((d0 + 1) :: L)) := by simpa [i64s] using hsl10
                  have hsl12 := hsl11.putI kB10 (.bool ys) (.slice zo zn zc) (.slice uo un uc)
                  have Hlen10 := hid hlen10
                  clear hlen10 hsl10 hsl11
                  go_wp2_with fail
                  have hmm : (gk - 1) / T < gk := by have := Nat.div_le_self (gk - 1) T; omega
                  go_roundg ((gk - 1) / T)
                  case measure => exact hmm
                  case rel =>
                    have hl := Hlen10.out
                    rw [hl] at hsl12
                    rw [hl]
                    exact ⟨(d0 + 1) :: L, no, nc, ys, zo, zn, zc, uo, un, uc, hdl, kB10.put _ _ _, (Ch10.putOther kB10.res _ _ _).toV hrest (by decide), rfl, hsl12, hnz, by simp; omega, hstep⟩
  · have ca : (decide (1 ≤ I) && decide (I ≤ 32)) = false := by simp; omega
    have Ca := hid ca
    have hf : unrOk q I = false := by unfold unrOk; exact decide_eq_false (by omega)
    have HR : Hid (unrRes q I = []) := hid (by unfold unrRes; rw [hf]; rfl)
    have HC : Hid (unrErr q I = 9) := hid (by unfold unrErr; rw [hf, if_neg hI]; rfl)
    clear ca hf hI
    go_enter Try.func58, Try.ntmps58
    go_wp2_with fail
    refine (alphabet_any I _).mono ?_; rintro e w0 ⟨rfl, rfl⟩
    rw [Ca.out]
    go_wp2_with fail
    go_ret2
    rw [HR.out, HC.out]
    exact ⟨none, 0, 0, rfl, Sl.nil _, fun _ => rfl, hB.bel⟩

end Go.Proofs.Yteancfcmiiddiaa

/-
  The contracts of the reference's Rank and Light.
-/
namespace Go.Proofs.Yteancfcmiiddiaa
open Go.RowKit
set_option linter.unusedSimpArgs false
set_option linter.unusedVariables false

set_option maxHeartbeats 4000000 in
theorem rwRank_any (l : List Int) (s : Int) (ao : Option Addr) (n cap : Nat) (w : World) (h : Sl w ao n cap (i64s l)) :
    Calls Try.prog 56 #[.slice ao n cap, .int .i64 s] w (RatOut2 w (rankQ l s) (rankErr l s)) := by
  have hb := h.bound
  have hn := hid h.lenI
  cases hok : okW l s with
  | false =>
    have h1 : rankQ l s = 0 := by unfold rankQ; rw [hok]; rfl
    have h2 : rankErr l s = 9 := by unfold rankErr; rw [hok]; rfl
    rw [h1, h2]
    have Hok := hid hok
    clear h1 h2 hok
    have hG := Bk.start (Below.refl w.heap.size w) rfl (.bool false) (.slice none 0 0) (.slice none 0 0) 54
    go_enter Try.func56, Try.ntmps56
    go_wp2_with fail
    refine (rwValid_any l s _ _ _ _ (h.next (below_alloc _))).mono ?_; rintro e w1 ⟨rfl, rfl⟩
    rw [Hok.out]
    go_wp2_with fail
    obtain ⟨d0, d1, d2⟩ := hG.c3
    refine bodyPost_ret (v := .tuple #[.agg #[.bool false, .slice none 0 0, .slice none 0 0], .int .i64 9]) (by simp [results, Try.results56, go_sem, d0, d1, d2]) rfl ?_
    exact ⟨_, rfl, ratC_zero _, hG.bel⟩
  | true =>
    have h1 : rankQ l s = (rankI s l : Rat) := by unfold rankQ; rw [hok]; rfl
    have h2 : rankErr l s = 0 := by unfold rankErr; rw [hok]; rfl
    have hnl := okW_len hok
    rw [hn.out] at hnl
    obtain ⟨hs1, hs2⟩ := okW_s hok
    have hmem : ∀ x ∈ l, 1 ≤ x ∧ x ≤ s := fun x hx => (of_decide_eq_true hok).2.2.2 x hx
    have hfs : Fit 257 (s : Rat) := (fit_small (by omega) (by omega)).mono (by omega)
    rw [h1, h2]
    have Hok := hid hok
    have Hmem := hid hmem
    clear h1 h2 hok hmem
    have hG0 : Bk w w.heap.size (.bool false) (.slice none 0 0) (.slice none 0 0) ((w.alloc (.cells #[.bool false, .slice none 0 0, .slice none 0 0] 54)).alloc (.cells #[.bool false, .slice none 0 0, .slice none 0 0] 54)) := (Bk.start (Below.refl _ _) rfl _ _ _ _).new _
    have hH0 : Bk w (w.heap.size + 1) (.bool false) (.slice none 0 0) (.slice none 0 0) ((w.alloc (.cells #[.bool false, .slice none 0 0, .slice none 0 0] 54)).alloc (.cells #[.bool false, .slice none 0 0, .slice none 0 0] 54)) := Bk.start (below_alloc _) (by simp) _ _ _ _
    go_enter Try.func56, Try.ntmps56
    go_wp2_with fail
    refine (rwValid_any l s _ _ _ _ (h.next (below_alloc _))).mono ?_; rintro e w1 ⟨rfl, rfl⟩
    rw [Hok.out]
    go_wp2_with fail
    go_loopw [7] (fun i wr => ∃ (k : Nat) (b : Bool) (ro : Option Addr) (rn rc : Nat) (so : Option Addr) (sn sc : Nat), k ≤ n ∧ i = .int .i64 k ∧ Bk w (w.heap.size + 1) (.bool b) (.slice ro rn rc) (.slice so sn sc) wr ∧ RatC wr (.agg #[.bool b, .slice ro rn rc, .slice so sn sc]) (rankI s (l.take k) : Rat) ∧
      Bk w w.heap.size (.bool false) (.slice none 0 0) (.slice none 0 0) wr) (fun i _ => n - (intOf i).toNat)
    case atStart => exact ⟨0, false, none, 0, 0, none, 0, 0, by omega, rfl, hH0, ratC_zero _, hG0⟩
    case round =>
      clear hG0 hH0
      obtain ⟨k, b, ro, rn, rc, so, sn, sc, hk, rfl, hH, C, hG⟩ := hrel
      by_cases hlt : k < n
      · obtain ⟨x, hx', bb, off, rfl, hcell⟩ := (h.next hH.bel).i64 hlt
        have hst := rankI_snoc (s := s) hx'
        obtain ⟨hx1, hx2⟩ := Hmem.out x (List.mem_of_getElem? hx')
        have hfx : Fit 257 (x : Rat) := (fit_small (by omega) (by omega)).mono (by omega)
        have hfr : Fit 257 (rankI s (l.take k) : Rat) := fit_rank hs1 hs2 _ (fun y hy => Hmem.out y (List.mem_of_mem_take hy)) (by simp; have := hn.out; omega)
        have hst2 : Hid ((rankI s (l.take (k + 1)) : Rat) = (rankI s (l.take k) : Rat) * (s : Rat) + (x : Rat)) := hid (by rw [hst, Rat.intCast_add, Rat.intCast_mul])
        have hfm := (fit_mul hfr hfs).mono (show 257 + 257 ≤ 600 by omega)
        clear hst hx'
        generalize (rankI s (l.take k) : Rat) = q at *
        obtain ⟨a0, a1, a2⟩ := hH.c3
        have hd := (Below.refl wr.heap.size wr).drew
        have hcx := cell_later hd hcell
        go_wp2_with fail
        go_region_with ((first
          | (go_at_call_of 62 (Value.int .i64 s); refine (rOf1_any s (by omega) (by omega) _).mono ?_; rintro e w1 ⟨v1, rfl, C1, hb1⟩; obtain ⟨b0, b1, b2⟩ := (hH.drew.next hb1).c3; have hcx1 := cell_later hb1 hcx)
          | (go_at_call_of 62 (Value.int .i64 x); refine (rOf1_any x (by omega) (by omega) _).mono ?_; rintro e w3 ⟨v3, rfl, C3, hb3⟩)
          | (go_at_call 81; refine (rMul_any q s _ _ _ (((C.next hd).next hb1).toV hfr (by omega)) (C1.toV hfs (by omega)) 257 hfr hfs (by omega)).mono ?_; rintro e w2 ⟨v2, rfl, C2, hb2⟩; have hcx2 := cell_later hb2 hcx1)
          | (go_at_call 61; refine (rAdd_any (q * s) x _ _ _ ((C2.next hb3).toV hfm (by omega)) (C3.toV hfx (by omega)) 600 hfm (hfx.mono (by omega)) (by omega)).mono ?_; rintro e w4 ⟨v4, rfl, C4, hb4⟩; obtain ⟨rb', ro', rn', rc', so', sn', sc', rfl⟩ := C4.shape; have hH4 := (((hH.drew.next hb1).next hb2).next hb3).next hb4; have hG4 := (((hG.drew.next hb1).next hb2).next hb3).next hb4; obtain ⟨d0, d1, d2⟩ := hH4.c3; have f0 := hH4.free 0; have f1 := hH4.free 1; have f2 := hH4.free 2)))
        all_goals
          rw [← hst2.out] at C4
          go_wp2_with fail
          go_roundw
          case rel => exact ⟨k + 1, rb', ro', rn', rc', so', sn', sc', by omega, by go_num, hH4.put _ _ _, C4.putOther hH4.res _ _ _, hG4.other (by omega) (by omega) _ _ _⟩
          case measure => simp [intOf]; omega
      · obtain rfl : k = n := by omega
        have hfin : (rankI s (l.take k) : Rat) = (rankI s l : Rat) := by rw [List.take_of_length_le (by rw [hn.out]; omega)]
        rw [hfin] at C
        clear hfin
        obtain ⟨a0, a1, a2⟩ := hH.c3
        have f0 := hG.free 0
        have f1 := hG.free 1
        have f2 := hG.free 2
        obtain ⟨c0, c1, c2⟩ := hG.c3
        obtain ⟨d0, d1, d2⟩ := (hG.put (.bool b) (.slice ro rn rc) (.slice so sn sc)).c3
        go_wp2_with fail
        refine bodyPost_ret (v := .tuple #[.agg #[.bool b, .slice ro rn rc, .slice so sn sc], .int .i64 0]) (by simp [results, Try.results56, go_sem, d0, d1, d2]) rfl ?_
        exact (hG.res.rc C).two 0

theorem rLight_any (s : Bool) (ao bo : Option Addr) (n cap m cap' : Nat) (k : Int) (hn : n ≤ 9223372036854775807) (hm : m ≤ 9223372036854775807) (w : World) :
    Calls Try.prog 54 #[.agg #[.bool s, .slice ao n cap, .slice bo m cap'], .int .i64 k] w fun e w' => e = .returned (.bool (decide ((n : Int) ≤ k) && decide ((m : Int) ≤ k))) ∧ Below w.heap.size w w' := by
  have hB := Bk.start (Below.refl w.heap.size w) rfl (.bool s) (.slice ao n cap) (.slice bo m cap') 54
  have hS0 := hB.c3
  have hbel := hB.bel
  cases h1 : decide ((n : Int) ≤ k) with
  | false =>
    have h2 : (false && decide ((m : Int) ≤ k)) = false := rfl
    rw [h2]
    go_enter Try.func54, Try.ntmps54
    go_wp2_with fail
    go_ret
    exact ⟨rfl, hbel⟩
  | true =>
    rw [Bool.true_and]
    go_enter Try.func54, Try.ntmps54
    go_wp2_with fail
    go_ret
    exact ⟨rfl, hbel⟩

end Go.Proofs.Yteancfcmiiddiaa

/-
  The walk of WordsHaveRanks. No condition.
-/
namespace Go.Proofs.Yteancfcmiiddiaa
open Go.RowKit
set_option linter.unusedSimpArgs false
set_option linter.unusedVariables false

theorem ratOf_fit {neg : Bool} {N D : List Nat} {k : Nat} (hN : Lim N) (hD : Lim D) (h1 : N.length ≤ k) (h2 : D.length ≤ k) (hk : 1 ≤ k) : Fit k (ratOf neg N D) := by
  unfold ratOf
  split
  · refine fit_mk ?_ ?_ hk
    · rw [sgn_abs]
      exact lim_le (Nat.lt_of_lt_of_le (val_lt hN) (Nat.pow_le_pow_right (by decide) h1))
    · split
      · rw [lim_one]; exact hk
      · exact lim_le (Nat.lt_of_lt_of_le (val_lt hD) (Nat.pow_le_pow_right (by decide) h2))
  · exact fit_zero hk

set_option maxRecDepth 100000 in
set_option maxHeartbeats 8000000 in
theorem walkRanks (w : World) (z : List Int) (ao : Option Addr) (n cap : Nat) (hW : Sl w ao n cap (i64s z)) (hw : (ao = none → cap = 0) ∧ ∀ x ∈ z, -9223372036854775808 ≤ x ∧ x ≤ 9223372036854775807)
    (neg : Bool) (N D : List Nat) (bo : Option Addr) (m cap2 : Nat) (co : Option Addr) (l cap3 : Nat) (hN : Sl w bo m cap2 (u32s N)) (hD : Sl w co l cap3 (u32s D)) (LN : Lim N) (LD : Lim D)
    (zb : bo = none → cap2 = 0) (zc : co = none → cap3 = 0) (s : Int) {p : Prop} (_ : p) :
    Calls Try.prog 12 #[.slice ao n cap, .agg #[.bool neg, .slice bo m cap2, .slice co l cap3], .int .i64 s] w fun e w' => e = .returned (.bool true) ∧ Below w.heap.size w w' := by
  have hn := hW.bound
  have hm := hN.bound
  have hl := hD.bound
  have lN := hN.lenU
  have lD := hD.lenU
  clear hw
  obtain ⟨S, rfl⟩ : ∃ S : Int × Int, S.1 = s := ⟨(s, 0), rfl⟩
  have hB := Bk.start (Below.refl w.heap.size w) rfl (.bool neg) (.slice bo m cap2) (.slice co l cap3) 54
  go_enter Try.func12, Try.ntmps12
  go_upto_region 1 with fail
  go_cut [45] (fun v wx => ∃ b, v = .bool b ∧ (b = false → n ≤ 20 ∧ m ≤ 3 ∧ l ≤ 3) ∧ Bk w w.heap.size (.bool neg) (.slice bo m cap2) (.slice co l cap3) wx)
  case first =>
    obtain ⟨a0, a1, a2⟩ := hB.c3
    by_cases hn20 : n ≤ 20
    · cases hL : decide ((m : Int) ≤ 3) && decide ((l : Int) ≤ 3) with
      | false =>
        have HL := hid hL
        clear hL
        go_wp2_with fail
        refine (rLight_any neg bo co m cap2 l cap3 3 hm hl _).mono ?_; rintro e w1 ⟨rfl, hb1⟩
        rw [HL.out]
        have hB1 := hB.next hb1
        obtain ⟨c0, c1, c2⟩ := hB1.c3
        go_wp2_with fail
        go_meet
        exact ⟨_, rfl, by simp, hB1⟩
      | true =>
        have HL := hid hL
        simp only [Bool.and_eq_true, decide_eq_true_eq] at hL
        obtain ⟨hm3, hl3⟩ := hL
        cases hs : (S.1 == 1) with
        | false =>
          go_wp2_with fail
          refine (rLight_any neg bo co m cap2 l cap3 3 hm hl _).mono ?_; rintro e w1 ⟨rfl, hb1⟩
          rw [HL.out]
          have hB1 := hB.next hb1
          obtain ⟨c0, c1, c2⟩ := hB1.c3
          go_wp2_with fail
          go_meet
          exact ⟨_, rfl, fun _ => by omega, hB1⟩
        | true =>
          by_cases h0 : m = 0
          · subst h0
            go_wp2_with fail
            refine (rLight_any neg bo co 0 cap2 l cap3 3 hm hl _).mono ?_; rintro e w1 ⟨rfl, hb1⟩
            rw [HL.out]
            have hB1 := hB.next hb1
            obtain ⟨c0, c1, c2⟩ := hB1.c3
            go_wp2_with fail
            go_meet
            exact ⟨_, rfl, fun _ => by omega, hB1⟩
          · by_cases h1 : m = 1
            · subst h1
              obtain ⟨x, -, b, off, rfl, hcell⟩ := hN.u32 (show 0 < 1 by omega)
              have hcell := cell_later hB.bel hcell
              try simp only [Nat.add_zero] at hcell
              go_wp2_with fail
              refine (rLight_any neg _ co 1 cap2 l cap3 3 hm hl _).mono ?_; rintro e w1 ⟨rfl, hb1⟩
              rw [HL.out]
              have hB1 := hB.next hb1
              obtain ⟨c0, c1, c2⟩ := hB1.c3
              have hcell1 := cell_later hb1 hcell
              clear hcell
              by_cases hx3 : x ≤ 300
              all_goals
                go_wp2_with fail
                go_meet
                exact ⟨_, rfl, fun _ => by omega, hB1⟩
            · go_wp2_with fail
              refine (rLight_any neg bo co m cap2 l cap3 3 hm hl _).mono ?_; rintro e w1 ⟨rfl, hb1⟩
              rw [HL.out]
              have hB1 := hB.next hb1
              obtain ⟨c0, c1, c2⟩ := hB1.c3
              go_wp2_with fail
              go_meet
              exact ⟨_, rfl, fun _ => by omega, hB1⟩
    · go_wp2_with fail
      go_meet
      exact ⟨_, rfl, by simp, hB⟩
  case rest =>
    clear hB
    obtain ⟨b, rfl, hf, hB⟩ := hcut
    cases b with
    | true =>
      have hbel := hB.bel
      go_wp2_with fail
      refine (wawake_any _).mono ?_; rintro e w1 ⟨rfl, hb⟩
      go_wp2_with fail
      go_ret
      exact ⟨rfl, below_chain hbel hb⟩
    | false =>
      obtain ⟨hn20, hm3, hl3⟩ := hf rfl
      clear hf
      obtain ⟨q, hq⟩ : ∃ q, ratOf neg N D = q := ⟨_, rfl⟩
      have hV : RatV w (.agg #[.bool neg, .slice bo m cap2, .slice co l cap3]) q := ⟨neg, N, D, bo, co, m, cap2, l, cap3, rfl, hN, hD, LN, LD, zb, zc, by omega, by omega, hq⟩
      have hfq : Fit 3 q := by rw [← hq]; exact ratOf_fit LN LD (by omega) (by omega) (by decide)
      clear hq hN hD LN LD lN lD zb zc
      go_wp2_with fail
      refine (wRank_any z S.1 ao n cap _ (hW.next hB.bel)).mono ?_; rintro e w1 ⟨v1, rfl, C1, hb1⟩
      obtain ⟨rb, ro, rn, rc, so, sn, sc, rfl⟩ := C1.shape
      have hB1 := hB.next hb1
      obtain ⟨c0, c1, c2⟩ := hB1.c3
      go_wp2_with fail
      have hG := Bk.start (Below.refl w1.heap.size w1) rfl (.bool rb) (.slice ro rn rc) (.slice so sn sc) 54
      have C1 := C1.next hG.bel
      have hB1 := hB1.next hG.bel
      refine (rwRank_any z S.1 ao n cap _ (hW.next hB1.bel)).mono ?_; rintro e w2 ⟨v2, rfl, C2, hb2⟩
      obtain ⟨rb', ro', rn', rc', so', sn', sc', rfl⟩ := C2.shape
      have hH := Bk.start (Below.refl w2.heap.size w2) rfl (.bool rb') (.slice ro' rn' rc') (.slice so' sn' sc') 54
      have C1 := (C1.next hb2).next hH.bel
      have C2 := C2.next hH.bel
      have hB2 := (hB1.next hb2).next hH.bel
      have hG2 := (hG.next hb2).next hH.bel
      obtain ⟨e0, e1, e2⟩ := hB2.c3
      generalize rankQ z S.1 = Q at *
      generalize rankErr z S.1 = E at *
      go_wp2_with fail
      refine (wUnrank_any q S.1 _ _ (hV.next hB2.bel) 3 hfq (by decide)).mono ?_; rintro e w3 ⟨xo, xn, xc, rfl, sX, zX, hb3⟩
      have hB3 := hB2.next hb3
      obtain ⟨e0, e1, e2⟩ := hB3.c3
      go_wp2_with fail
      refine (rwUnrank_any q S.1 _ _ (hV.next hB3.bel) 3 hfq (by decide)).mono ?_; rintro e w4 ⟨yo, yn, yc, rfl, sY, zY, hb4⟩
      have hB4 := hB3.next hb4
      have hG4 := (hG2.next hb3).next hb4
      have hH4 := (hH.next hb3).next hb4
      have C1 := (C1.next hb3).next hb4
      have C2 := (C2.next hb3).next hb4
      have sX := sX.next hb4
      generalize unrRes q S.1 = R at *
      generalize unrErr q S.1 = F at *
      clear hB hB1 hB2 hB3 hG hG2 hH e0 e1 e2 c0 c1 c2
      go_wp2_with fail
      refine (wawake_any _).mono ?_; rintro e w5 ⟨rfl, hb5⟩
      have hG5 := hG4.next hb5
      have hH5 := hH4.next hb5
      obtain ⟨e0, e1, e2⟩ := hG5.c3
      obtain ⟨f0, f1, f2⟩ := hH5.c3
      go_wp2_with fail
      refine (rSameC Q Q _ _ _ ((C1.next hb5)) ((C2.next hb5))).mono ?_; rintro e w6 ⟨rfl, hb6⟩
      rw [show decide (Q = Q) = true from decide_eq_true rfl]
      have hE : (E == E) = true := by simp
      go_wp2_with fail
      refine (rwSame_any R R _ _ _ _ _ _ _ ((sX.next hb5).next hb6) ((sY.next hb5).next hb6)).mono ?_; rintro e w7 ⟨rfl, q7, rfl⟩
      rw [show decide (R = R) = true from decide_eq_true rfl]
      have hF : (F == F) = true := by simp
      go_wp2_with fail
      go_ret
      exact ⟨retB (by simp), ((hB4.next hb5).next hb6).bel.trans (by go_simp; exact below_drewNs _)⟩

end Go.Proofs.Yteancfcmiiddiaa

/-
  Joined out of XRefF, XRefG, XRefH, XStep, XRefI, XRefJ, XRefK, XRefL, XRefM.
-/
import Derived.Test.YtcgfglgcjpjbaaaDoorRefX
import Derived.Test.YtcgfglgcjpjbaaaDoorRatY
import Derived.Test.YtcgfglgcjpjbaaaDoorApp
import Derived.Deep.DeepCutAuto

/-
  The contracts of the reference's divisor, over, Make, Of and Same. Conditions: denominators are not 0; sizes.
-/
namespace Go.Proofs.YtcgfglgcjpjbaaaDoor
open Go.RowKit
set_option linter.unusedSimpArgs false
set_option linter.unusedVariables false

set_option maxHeartbeats 1000000 in
theorem divisor_any (a b : Nat) (ao bo : Option Addr) (n m cap cap' : Nat) (w : World) (hA : Sl w ao n cap (u32s (dig a))) (hB : Sl w bo m cap' (u32s (dig b))) (hza : ao = none → cap = 0) (hzb : bo = none → cap' = 0) (hn : n ≤ 17179869184) (hm : m ≤ 17179869184) :
    Calls Tryd.prog 72 #[.slice ao n cap, .slice bo m cap'] w (NumRes w (Nat.gcd a b)) := by
  go_enter Tryd.func72, Tryd.ntmps72
  go_wp2_with fail
  go_loopg [0, 1] b (fun k av bv wr => ∃ (x : Nat) (xo yo : Option Addr) (xn yn xc yc : Nat), av = .slice xo xn xc ∧ bv = .slice yo yn yc ∧ Sl wr xo xn xc (u32s (dig x)) ∧ Sl wr yo yn yc (u32s (dig k)) ∧ (xo = none → xc = 0) ∧ (yo = none → yc = 0) ∧ xn ≤ 17179869184 ∧ yn ≤ 17179869184 ∧ Hid (Nat.gcd x k = Nat.gcd a b) ∧ Below w.heap.size w wr)
  case atStart => exact ⟨a, ao, bo, n, m, cap, cap', rfl, rfl, hA, hB, hza, hzb, hn, hm, hid rfl, Below.refl _ _⟩
  case round =>
    obtain ⟨x, xo, yo, xn, yn, xc, yc, rfl, rfl, sx, sy, hzx, hzy, hxn, hyn, hg, hbel⟩ := hrel
    have hyl := sy.lenU
    by_cases hk : gk = 0
    · subst hk
      rw [dig_zero] at hyl
      obtain rfl : yn = 0 := by simpa using hyl.symm
      clear hyl
      have hgx : x = Nat.gcd a b := by have := hg.out; rwa [Nat.gcd_zero_right] at this
      go_wp2_with fail
      go_ret
      exact ⟨_, _, _, rfl, by rw [← hgx]; exact sx, hzx, hbel⟩
    · have hy0 : 1 ≤ yn := by
        rw [← hyl]
        have : dig gk ≠ [] := fun h => hk (dig_nil.1 h)
        cases h : dig gk with
        | nil => exact absurd h this
        | cons _ _ => simp
      have hyl' := hid hyl; clear hyl
      have hlt : x % gk < gk := Nat.mod_lt _ (Nat.pos_of_ne_zero hk)
      have hg2 : Hid (Nat.gcd gk (x % gk) = Nat.gcd a b) := hid (by rw [← hg.out, Nat.gcd_comm gk, ← Nat.gcd_rec, Nat.gcd_comm])
      go_wp2_with fail
      refine (divide_any x gk hk _ _ _ _ _ _ _ sx sy hxn hyn).mono ?_; rintro e w1 ⟨qo, qn, qc, ro, rn, rc, rfl, sq, sr, hzq, hzr, hb1⟩
      have hb2 : Below w.heap.size w w1 := hbel.trans (hb1.mono hbel.size)
      have sy1 := sy.next hb1
      have hrn : rn ≤ 17179869184 := by
        have := sr.lenD (k := yn) (Nat.lt_of_lt_of_le hlt (by rw [← hyl'.out]; exact Nat.le_of_lt (dig_lt gk)))
        omega
      go_wp2_with fail
      go_roundg (x % gk)
      case measure => exact hlt
      case rel => exact ⟨gk, yo, ro, yn, rn, yc, rc, rfl, rfl, sy1, sr, hzy, hzr, hyn, hrn, hg2, hb2⟩

theorem Res.ratOut {w W : World} {G : Nat} {b0 : Bool} {a1 a2 : Option Addr} {n1 n2 k1 k2 : Nat} (h : Res w G b0 a1 n1 k1 a2 n2 k2 W) {neg : Bool} {a b : Nat} (ha : a ≠ 0) (hb : b ≠ 0) {ao bo : Option Addr} {n cap m cap' : Nat}
    (s1 : Sl W ao n cap (u32s (dig (a / Nat.gcd a b)))) (s2 : Sl W bo m cap' (u32s (if b / Nat.gcd a b = 1 then [] else dig (b / Nat.gcd a b)))) (hz : ao = none → cap = 0) (hz' : bo = none → cap' = 0) :
    RatOut w (mkRat (sgn neg a) b) (.returned (.agg #[.bool neg, .slice ao n cap, .slice bo m cap'])) (((W.setCell ⟨G, 0, none⟩ (.bool neg)).setCell ⟨G, 1, none⟩ (.slice ao n cap)).setCell ⟨G, 2, none⟩ (.slice bo m cap')) :=
  h.rc (ratC_of ha hb s1 s2 hz hz')

set_option maxHeartbeats 2000000 in
theorem rover_any (neg : Bool) (a b : Nat) (hb0 : b ≠ 0) (ao bo : Option Addr) (n m cap cap' : Nat) (w : World) (sN : Sl w ao n cap (u32s (dig a))) (sD : Sl w bo m cap' (u32s (dig b))) (hza : ao = none → cap = 0) (hzb : bo = none → cap' = 0) (hn : n ≤ 17179869184) (hm : m ≤ 17179869184) :
    Calls Tryd.prog 50 #[.bool neg, .slice ao n cap, .slice bo m cap'] w (RatOut w (mkRat (sgn neg a) b)) := by
  have hnl := hid sN.lenU
  have hr := Res.start (Below.refl w.heap.size w) false none 0 0 none 0 0 37
  by_cases ha0 : a = 0
  · subst ha0
    have : n = 0 := by have := hnl.out; rw [dig_zero] at this; exact this.symm
    subst this
    have h0 : mkRat (sgn neg 0) b = 0 := by cases neg <;> simp [sgn]
    rw [h0]
    clear h0
    go_enter Tryd.func50, Tryd.ntmps50
    go_wp2_with fail
    refine bodyPost_ret (v := .agg #[.bool false, .slice none 0 0, .slice none 0 0]) (by simp [results, Tryd.results50, go_sem]) rfl ?_
    exact ⟨_, rfl, ratC_zero _, below_alloc _⟩
  · have hn0 : 1 ≤ n := by
      have := hnl.out
      cases n with
      | zero => exact absurd (List.eq_nil_of_length_eq_zero this) (fun h => ha0 (dig_nil.1 h))
      | succ n => omega
    obtain ⟨G, hG⟩ : ∃ G, Nat.gcd a b = G := ⟨_, rfl⟩
    have hG0 : G ≠ 0 := by rw [← hG]; exact fun h => ha0 (Nat.gcd_eq_zero_iff.1 h).1
    have hGl : lim G ≤ 17179869184 := Nat.le_trans (lim_mono (by rw [← hG]; exact Nat.gcd_le_left _ (Nat.pos_of_ne_zero ha0))) (by rw [lim, hnl.out]; exact hn)
    have hB0 : b / G ≠ 0 := by
      have h1 := Nat.div_mul_cancel (Nat.gcd_dvd_right a b)
      rw [hG] at h1
      intro h; rw [h] at h1; omega
    have HG := hid hG; clear hG
    go_enter Tryd.func50, Tryd.ntmps50
    go_wp2_with fail
    refine (divisor_any a b _ _ _ _ _ _ _ (sN.next (below_alloc _)) (sD.next (below_alloc _)) hza hzb hn hm).mono ?_; rintro e w3 ⟨go, gn, gc, rfl, sg, hzg, hb3⟩
    rw [HG.out] at sg
    have sa3 := (sN.next (below_alloc _)).next hb3
    have sb3 := (sD.next (below_alloc _)).next hb3
    have hr3 := hr.next hb3
    have hgn : gn ≤ 17179869184 := by rw [← sg.lenU]; exact hGl
    go_wp2_with fail
    refine (divide_any a G hG0 _ _ _ _ _ _ _ sa3 sg hn hgn).mono ?_; rintro e w5 ⟨qo, qn, qc, ro, rn, rc, rfl, sq, sr, hzq, hzr, hb5⟩
    go_wp2_with fail
    refine (divide_any b G hG0 _ _ _ _ _ _ _ (sb3.next hb5) (sg.next hb5) hm hgn).mono ?_; rintro e w6 ⟨po, pn, pc, ro', rn', rc', rfl, sp, sr', hzp, hzr', hb6⟩
    have hr6 := (hr3.next hb5).next hb6
    have sq6 := sq.next hb6
    go_wp2_with fail
    refine (isOne_any _ _ _ _ _ sp).mono ?_; rintro e w7 ⟨rfl, rfl⟩
    have fin := fun (bo' : Option Addr) (m' c' : Nat) (s2 : Sl w6 bo' m' c' (u32s (if b / Nat.gcd a b = 1 then [] else dig (b / Nat.gcd a b)))) (hz' : bo' = none → c' = 0) => hr6.ratOut (neg := neg) ha0 hb0 (by rw [HG.out]; exact sq6) s2 hzq hz'
    have Fin := hid fin; clear fin
    obtain ⟨B, hB⟩ : ∃ B, b / G = B := ⟨_, rfl⟩
    rw [hB] at sp hB0
    rw [hB]
    have HB := hid hB; clear hB
    obtain ⟨d0, d1, d2, g0, g1, g2, _, _, _, _⟩ := hr6
    by_cases hB1 : B = 1
    · have hd : decide (B = 1) = true := decide_eq_true hB1
      subst hB1
      go_wp2_with fail
      refine bodyPost_ret (v := .agg #[.bool neg, .slice qo qn qc, .slice none 0 0]) (by simp [results, Tryd.results50, go_sem, d0, d1, d2]) rfl ?_
      exact Fin.out none 0 0 (by rw [HG.out, HB.out]; exact Sl.nil _) (fun _ => rfl)
    · have hd : decide (B = 1) = false := decide_eq_false hB1
      go_wp2_with fail
      refine bodyPost_ret (v := .agg #[.bool neg, .slice qo qn qc, .slice po pn pc]) (by simp [results, Tryd.results50, go_sem, d0, d1, d2]) rfl ?_
      exact Fin.out po pn pc (by rw [HG.out, HB.out, if_neg hB1]; exact sp) hzp

set_option maxHeartbeats 1000000 in
theorem rMake_any (a d : Int) (h1 : -9223372036854775808 ≤ a) (h2 : a ≤ 9223372036854775807) (h3 : -9223372036854775808 ≤ d) (h4 : d ≤ 9223372036854775807) (w : World) :
    Calls Tryd.prog 35 #[.int .i64 a, .int .i64 d] w (RatOut2 w (makeRat a d) (makeErr d)) := by
  by_cases hd : d = 0
  · subst hd
    have e1 : makeErr 0 = 11 := rfl
    have e2 : makeRat a 0 = 0 := rfl
    rw [e1, e2]
    clear e1 e2
    go_enter Tryd.func35, Tryd.ntmps35
    go_wp2_with fail
    refine bodyPost_ret (v := .tuple #[.agg #[.bool false, .slice none 0 0, .slice none 0 0], .int .i64 11]) (by simp [results, Tryd.results35, go_sem]) rfl ?_
    exact ⟨_, rfl, ratC_zero _, below_alloc _⟩
  · have e1 : makeErr d = 0 := if_neg hd
    have e2 : makeRat a d = mkRat (sgn (decide (a < 0) != decide (d < 0)) a.natAbs) d.natAbs := by rw [mk_sign]; exact if_neg hd
    have hd' : (d == 0) = false := by simpa using hd
    rw [e1, e2]
    have hr := Res.start (Below.refl w.heap.size w) false none 0 0 none 0 0 37
    clear e1 e2
    have la := lim_abs h1 h2
    have ld := lim_abs h3 h4
    have hd0 : d.natAbs ≠ 0 := by omega
    go_enter Tryd.func35, Tryd.ntmps35
    go_wp2_with fail
    refine (absolute_any a h1 h2 _).mono ?_; rintro e w0 ⟨rfl, rfl⟩
    go_wp2_with fail
    refine (natural_any a.natAbs (by omega) _).mono ?_; rintro e w1 ⟨ao, n, cap, rfl, sA, hzA, hb1, _⟩
    have hr1 := hr.next hb1
    go_wp2_with fail
    refine (absolute_any d h3 h4 _).mono ?_; rintro e w0 ⟨rfl, rfl⟩
    go_wp2_with fail
    refine (natural_any d.natAbs (by omega) _).mono ?_; rintro e w2 ⟨bo, m, cap', rfl, sB, hzB, hb2, _⟩
    have hr2 := hr1.next hb2
    have sA2 := sA.next hb2
    have hnA : n ≤ 17179869184 := by rw [← sA.lenU]; exact Nat.le_trans la (by omega)
    have hmB : m ≤ 17179869184 := by rw [← sB.lenU]; exact Nat.le_trans ld (by omega)
    generalize decide (a < 0) = s at *
    generalize decide (d < 0) = t at *
    go_wp2_with fail
    refine (rover_any (s != t) a.natAbs d.natAbs hd0 _ _ _ _ _ _ _ sA2 sB hzA hzB hnA hmB).mono ?_; rintro e w3 ⟨v3, rfl, C3, hb3⟩
    obtain ⟨rb, ro, rn, rc, so, sn, sc, rfl⟩ := C3.shape
    have hr3 := hr2.next hb3
    obtain ⟨d0, d1, d2, g0, g1, g2, _, _, _, _⟩ := hr2.next hb3
    go_wp2_with fail
    refine bodyPost_ret (v := .tuple #[.agg #[.bool rb, .slice ro rn rc, .slice so sn sc], .int .i64 0]) (by simp [results, Tryd.results35, go_sem, d0, d1, d2]) rfl ?_
    exact (hr3.rc C3).two 0

end Go.Proofs.YtcgfglgcjpjbaaaDoor

/-
  The contracts of the reference's Of and Same and of words.number. No condition but sizes.
-/
namespace Go.Proofs.YtcgfglgcjpjbaaaDoor
open Go.RowKit
set_option linter.unusedSimpArgs false
set_option linter.unusedVariables false

set_option maxHeartbeats 1000000 in
theorem rOf_any (a d : Int) (h1 : -9223372036854775808 ≤ a) (h2 : a ≤ 9223372036854775807) (h3 : -9223372036854775808 ≤ d) (h4 : d ≤ 9223372036854775807) (w : World) :
    Calls Tryd.prog 17 #[.int .i64 a, .int .i64 d] w (RatOut w (makeRat a d)) := by
  have hr := Res.start (Below.refl w.heap.size w) false none 0 0 none 0 0 37
  go_enter Tryd.func17, Tryd.ntmps17
  go_wp2_with fail
  refine (rMake_any a d h1 h2 h3 h4 _).mono ?_; rintro e w1 ⟨v1, rfl, C1, hb1⟩
  obtain ⟨rb, ro, rn, rc, so, sn, sc, rfl⟩ := C1.shape
  have hr1 := (hr.next hb1).new (.cells #[.bool rb, .slice ro rn rc, .slice so sn sc] 37)
  obtain ⟨d0, d1, d2, g0, g1, g2, _, _, _, _⟩ := hr1
  have hr1 := (hr.next hb1).new (.cells #[.bool rb, .slice ro rn rc, .slice so sn sc] 37)
  go_wp2_with fail
  refine bodyPost_ret (v := .agg #[.bool rb, .slice ro rn rc, .slice so sn sc]) (by simp [results, Tryd.results17, go_sem, d0, d1, d2]) rfl ?_
  exact hr1.rc (C1.next (below_alloc _))

/-- Two rationals' fields. -/
def sameB (s t : Bool) (N M D E : List Nat) : Bool := s == t && (decide (N = M) && decide (D = E))

theorem below_drewNs {B : Nat} {w : World} (n : Nat) : Below B w (w.drewN n) := ⟨rfl, rfl, rfl, Nat.le_refl _, fun _ _ => rfl⟩

set_option maxHeartbeats 1000000 in
theorem rSame_any (s t : Bool) (N M D E : List Nat) (ao bo co eo : Option Addr) (n cap m cap' n2 cap2 m2 cap3 : Nat) (w : World) (hN : Sl w ao n cap (u32s N)) (hD : Sl w bo m cap' (u32s D)) (hM : Sl w co n2 cap2 (u32s M)) (hE : Sl w eo m2 cap3 (u32s E)) :
    Calls Tryd.prog 16 #[.agg #[.bool s, .slice ao n cap, .slice bo m cap'], .agg #[.bool t, .slice co n2 cap2, .slice eo m2 cap3]] w fun e w' => e = .returned (.bool (sameB s t N M D E)) ∧ Below w.heap.size w w' := by
  have hb0 := ((Below.refl w.heap.size w).alloc (Nat.le_refl _) (.cells #[.bool s, .slice ao n cap, .slice bo m cap'] 37)).alloc (by simp) (.cells #[.bool t, .slice co n2 cap2, .slice eo m2 cap3] 37)
  by_cases hst : s = t
  · subst hst
    have hss : (s == s) = true := by simp
    have hres : Hid (sameB s s N M D E = (decide (N = M) && decide (D = E))) := hid (by unfold sameB; rw [hss]; rfl)
    go_enter Tryd.func16, Tryd.ntmps16
    go_wp2_with fail
    refine (same_any N M _ _ _ _ _ _ _ (hN.next hb0) (hM.next hb0)).mono ?_; rintro e w1 ⟨rfl, q1, rfl⟩
    by_cases h1 : N = M
    · have hd : decide (N = M) = true := decide_eq_true h1
      have hres : Hid (sameB s s N M D E = decide (D = E)) := hid (by rw [hres.out, hd]; rfl)
      clear h1
      go_wp2_with fail
      refine (same_any D E _ _ _ _ _ _ _ ((hD.next hb0).drewN q1) ((hE.next hb0).drewN q1)).mono ?_; rintro e w1 ⟨rfl, q2, rfl⟩
      go_wp2_with fail
      go_ret
      exact ⟨retB hres.out.symm, hb0.trans (by go_simp; exact below_drewNs _)⟩
    · have hd : decide (N = M) = false := decide_eq_false h1
      have hres : Hid (sameB s s N M D E = false) := hid (by rw [hres.out, hd]; rfl)
      clear h1
      go_wp2_with fail
      go_ret
      exact ⟨retB hres.out.symm, hb0.trans (by go_simp; exact below_drewNs _)⟩
  · have hss : (s == t) = false := by simpa using hst
    have hres : Hid (sameB s t N M D E = false) := hid (by unfold sameB; rw [hss]; rfl)
    clear hst
    go_enter Tryd.func16, Tryd.ntmps16
    go_wp2_with fail
    go_ret
    exact ⟨retB hres.out.symm, hb0⟩

theorem sameC {q r : Rat} : sameB (decide (q.num < 0)) (decide (r.num < 0)) (dig q.num.natAbs) (dig r.num.natAbs) (denL q) (denL r) = decide (q = r) := by
  rw [Bool.eq_iff_iff]
  unfold sameB
  simp only [Bool.and_eq_true, beq_iff_eq, decide_eq_true_eq]
  constructor
  · rintro ⟨h1, h2, h3⟩
    rw [← (canon_ok q).2, ← (canon_ok r).2, h1, h2, h3]
  · rintro rfl
    exact ⟨rfl, rfl, rfl⟩

theorem rSameC (q r : Rat) (v v2 : Value) (w : World) (h : RatC w v q) (h' : RatC w v2 r) :
    Calls Tryd.prog 16 #[v, v2] w fun e w' => e = .returned (.bool (decide (q = r))) ∧ Below w.heap.size w w' := by
  obtain ⟨ao, bo, n, cap, m, cap', rfl, h1, h2, _⟩ := h
  obtain ⟨co, eo, n2, cap2, m2, cap3, rfl, h3, h4, _⟩ := h'
  have := rSame_any (decide (q.num < 0)) (decide (r.num < 0)) _ _ _ _ ao bo co eo n cap m cap' n2 cap2 m2 cap3 w h1 h2 h3 h4
  rwa [sameC] at this

end Go.Proofs.YtcgfglgcjpjbaaaDoor

/-
  The contracts of the reference's Valid, den and Take. No condition but sizes.
-/
namespace Go.Proofs.YtcgfglgcjpjbaaaDoor
open Go.RowKit
set_option linter.unusedSimpArgs false
set_option linter.unusedVariables false

theorem proper_last {l : List Nat} {k y : Nat} (hl : l.length = k + 1) (hy : l[k]? = some y) : proper l = decide (y ≠ 0) := by
  unfold proper
  rw [decide_eq_decide, proper_iff]
  have hne : l ≠ [] := by rintro rfl; simp at hl
  have : l.getLastD 1 = y := by
    rw [List.getLastD_eq_getLast?, List.getLast?_eq_getElem?, show l.length - 1 = k by omega, hy]; rfl
  rw [this]
  simp [hne]

end Go.Proofs.YtcgfglgcjpjbaaaDoor

/-
  append as a step of a region that draws, elements of any number of cells; the contracts of the reference's den and Take. No condition but sizes.
-/
namespace Go.Proofs.YtcgfglgcjpjbaaaDoor
open Go.RowKit
set_option linter.unusedSimpArgs false
set_option linter.unusedVariables false

/-- 'append(v, x...)' where the call owns v, as an operation. -/
theorem op_append {P : Program} {w : World} {o : Oper} {a : Act} {K : Act → World → Prop} {Q : Exit → Act → World → Prop} (s x : Operand) (t : TypeId)
    (ho : o.op = .call { callee := .builtin .append, args := #[s, x], argTypes := #[t, t] }) (e : TypeId) (z : Value) (size bytes : Nat) (ht : P.underlying t = some (.slice e))
    (hinfo : (P.info? e).map (fun i => (i.zero, i.size, i.bytes)) = some (some z, size, bytes)) (hzs : z.cells.size = size) (hsz : 0 < size)
    (base : Nat) (v : Value) (n : Nat) (xs : List Value) (hs : a.eval s = v) (hown : w.ownsRow base e size v n xs)
    (ao : Option Addr) (m c : Nat) (news : List Value) (hx : a.eval x = .slice ao m c) (hl : news.length = m * size) (hc : ∀ ad, ao = some ad → ∀ j u, news[j]? = some u → w.cell? (ad.add j) = some u)
    (hz : ao = none → m = 0 ∧ c = 0) (h1 : ∀ u ∈ news, u.oneCell' = true)
    (hroom : (n + m) * bytes ≤ 140737488355328) (hml : n + m ≤ 9223372036854775807) (hbase : base ≤ w.heap.size)
    (h : ∀ v' w', w'.ownsRow base e size v' (n + m) (xs ++ news) → w.grownBy w' v.ownBlock → Below base w w' → K (a.put o.dst v') w') : o.wp P a w K Q := by
  obtain ⟨i, hi, hz0, hsz', hby⟩ := info_parts hinfo
  cases ao with
  | none =>
    obtain ⟨rfl, rfl⟩ := hz rfl
    obtain rfl : news = [] := List.eq_nil_of_length_eq_zero (by simpa using hl)
    have hrun := run_append_owned_none (P := P) (w := w) base t o.type e i size ht hi v n xs hown
    unfold Oper.wp
    simp [execOp, ho, resolve, invoke, builtin, hs, hx, hrun, Result.andThen]
    exact h v w (by simpa using hown) (World.grownBy.refl _ _) (Below.refl _ _)
  | some ad =>
    refine wp_append_own w s x t ho base e i z size bytes ht hi hz0 hsz' hby hzs hsz v n xs hs hown ad m c news hx hl (hc ad rfl) h1 (by unfold maxLen; omega) hroom hbase ?_
    intro v' w' ho' hg _
    exact h v' w' ho' hg ((Below.refl _ _).grown hg hbase (fun k hk => (hown.lt k hk).1))

/-- The same as a step of a region that draws. -/
theorem step_app {P : Program} {w : World} {ops : Array Oper} {o : Oper} {a : Act} {K : Act → World → Prop} {Q : Exit → Act → World → Prop} {E : Prop} (hgd : o.guard = none) (s x : Operand) (t : TypeId)
    (ho : o.op = .call { callee := .builtin .append, args := #[s, x], argTypes := #[t, t] }) (e : TypeId) (z : Value) (size bytes : Nat) (ht : P.underlying t = some (.slice e))
    (hinfo : (P.info? e).map (fun i => (i.zero, i.size, i.bytes)) = some (some z, size, bytes)) (hzs : z.cells.size = size) (hsz : 0 < size)
    (base : Nat) (v : Value) (n : Nat) (xs : List Value) (hs : a.eval s = v) (hown : w.ownsRow base e size v n xs)
    (ao : Option Addr) (m c : Nat) (news : List Value) (hx : a.eval x = .slice ao m c) (hl : news.length = m * size) (hc : ∀ ad, ao = some ad → ∀ j u, news[j]? = some u → w.cell? (ad.add j) = some u)
    (hz : ao = none → m = 0 ∧ c = 0) (h1 : ∀ u ∈ news, u.oneCell' = true)
    (hroom : (n + m) * bytes ≤ 140737488355328) (hml : n + m ≤ 9223372036854775807) (hbase : base ≤ w.heap.size)
    (h : ∀ v' w', w'.ownsRow base e size v' (n + m) (xs ++ news) → w.grownBy w' v.ownBlock → Below base w w' → K (a.put o.dst v') w') :
    if Region.wanted o (yielded ops a.tmps) = true then Oper.wp P o a w K Q else E := by
  have hw : Region.wanted o (yielded ops a.tmps) = true := by simp [Region.wanted, hgd]
  rw [if_pos hw]
  exact op_append s x t ho e z size bytes ht hinfo hzs hsz base v n xs hs hown ao m c news hx hl hc hz h1 hroom hml hbase h

/-- What the one-cell slice of limbs gives 'append'. -/
theorem Sl.app {w : World} {ao : Option Addr} {n cap : Nat} {xs : List Value} (h : Sl w ao n cap xs) (hz : ao = none → cap = 0) : xs.length = n * 1 ∧ (∀ ad, ao = some ad → ∀ j u, xs[j]? = some u → w.cell? (ad.add j) = some u) ∧ (ao = none → n = 0 ∧ cap = 0) :=
  ⟨by rw [h.len, Nat.mul_one], fun ad e => by subst e; exact h.cells, fun e => by subst e; exact ⟨h.none_zero.1, hz rfl⟩⟩

end Go.Proofs.YtcgfglgcjpjbaaaDoor

/-
  The contract of the reference's Take. No condition but sizes.
-/
namespace Go.Proofs.YtcgfglgcjpjbaaaDoor
open Go.RowKit
set_option linter.unusedSimpArgs false
set_option linter.unusedVariables false

end Go.Proofs.YtcgfglgcjpjbaaaDoor

/-
  Two variables with rationals; the contracts of the reference's Sign and Neg. No condition but sizes.
-/
namespace Go.Proofs.YtcgfglgcjpjbaaaDoor
open Go.RowKit
set_option linter.unusedSimpArgs false
set_option linter.unusedVariables false

/-- Two variables with rationals and an empty one. -/
def TwoQ (w : World) (B1 B2 G : Nat) (q r : Rat) (wx : World) : Prop :=
  BkQ w B1 q wx ∧ BkQ w B2 r wx ∧ Bk w G (.bool false) (.slice none 0 0) (.slice none 0 0) wx

theorem two_put {w W : World} {B1 B2 G : Nat} {q r : Rat} {b1 b2 : Bool} {a1 a2 a3 a4 : Option Addr} {n1 n2 n3 n4 k1 k2 k3 k4 : Nat} (h1 : Bk w B1 (.bool b1) (.slice a1 n1 k1) (.slice a2 n2 k2) W) (h2 : Bk w B2 (.bool b2) (.slice a3 n3 k3) (.slice a4 n4 k4) W)
    (hG : Bk w G (.bool false) (.slice none 0 0) (.slice none 0 0) W) {s t : Bool} {ao bo co eo : Option Addr} {n cap m cap' n' cap2 m' cap3 : Nat} (C1 : RatC W (.agg #[.bool s, .slice ao n cap, .slice bo m cap']) q) (C2 : RatC W (.agg #[.bool t, .slice co n' cap2, .slice eo m' cap3]) r)
    (d12 : B1 ≠ B2) (dG1 : G ≠ B1) (dG2 : G ≠ B2) :
    TwoQ w B1 B2 G q r ((((((W.setCell ⟨B1, 0, none⟩ (.bool s)).setCell ⟨B1, 1, none⟩ (.slice ao n cap)).setCell ⟨B1, 2, none⟩ (.slice bo m cap')).setCell ⟨B2, 0, none⟩ (.bool t)).setCell ⟨B2, 1, none⟩ (.slice co n' cap2)).setCell ⟨B2, 2, none⟩ (.slice eo m' cap3)) := by
  have p1 := h1.put (.bool s) (.slice ao n cap) (.slice bo m cap')
  have p2 := h2.other d12 h1.ge (.bool s) (.slice ao n cap) (.slice bo m cap')
  have pG := hG.other dG1.symm h1.ge (.bool s) (.slice ao n cap) (.slice bo m cap')
  have c1 := C1.putOther h1.res (.bool s) (.slice ao n cap) (.slice bo m cap')
  have c2 := C2.putOther h1.res (.bool s) (.slice ao n cap) (.slice bo m cap')
  exact ⟨⟨_, _, _, _, _, _, _, p1.other d12.symm p2.ge _ _ _, c1.putOther p2.res _ _ _⟩, ⟨_, _, _, _, _, _, _, p2.put _ _ _, c2.putOther p2.res _ _ _⟩, pG.other dG2.symm p2.ge _ _ _⟩

/-- One cell is stored to. -/
theorem Bk.put0 {w w' : World} {G : Nat} {x y z : Value} (h : Bk w G x y z w') (x' : Value) : Bk w G x' y z (w'.setCell ⟨G, 0, none⟩ x') := by
  obtain ⟨T, hT⟩ := h.heap
  exact ⟨⟨T, heap_setCell_same w' G 0 _ T x' hT⟩, h.ge, h.bel.setCell h.ge _⟩
theorem Bk.other0 {w w' : World} {G g : Nat} {x y z : Value} (h : Bk w G x y z w') (hg : g ≠ G) (hw : w.heap.size ≤ g) (i : Nat) (x' : Value) : Bk w G x y z (w'.setCell ⟨g, i, none⟩ x') := by
  obtain ⟨T, hT⟩ := h.heap
  exact ⟨⟨T, by rw [Below.heap_setCell _ _ _ _ (show G ≠ g from fun e => hg e.symm)]; exact hT⟩, h.ge, h.bel.setCell hw _⟩
theorem RatC.other0 {w w' : World} {G : Nat} {q : Rat} {v : Value} {b0 : Bool} {a1 a2 : Option Addr} {n1 n2 k1 k2 : Nat} (hr : Res w G b0 a1 n1 k1 a2 n2 k2 w') (C : RatC w' v q) (i : Nat) (x : Value) : RatC (w'.setCell ⟨G, i, none⟩ x) v q := by
  obtain ⟨ao', bo', n', cap1, m', cap2, rfl, s1, s2, hz, hz'⟩ := C
  exact ⟨_, _, _, _, _, _, rfl, s1.setCell (hr.off s1) _ _, s2.setCell (hr.off s2) _ _, hz, hz'⟩

theorem RatC.parts {w : World} {q : Rat} {s : Bool} {ao bo : Option Addr} {n cap m cap' : Nat} (h : RatC w (.agg #[.bool s, .slice ao n cap, .slice bo m cap']) q) :
    s = decide (q.num < 0) ∧ Sl w ao n cap (u32s (dig q.num.natAbs)) ∧ Sl w bo m cap' (u32s (denL q)) ∧ (ao = none → cap = 0) ∧ (bo = none → cap' = 0) := by
  obtain ⟨ao', bo', n', cap1, m', cap2, hv, h⟩ := h
  injection hv with hv
  injection hv with hv
  injection hv with e1 hv
  injection hv with e2 hv
  injection hv with e3 _
  injection e1 with e0
  injection e2 with e4 e5 e6
  injection e3 with e7 e8 e9
  subst e4 e5 e6 e7 e8 e9
  exact ⟨e0, h⟩

theorem ratC_neg {w : World} {q : Rat} {s t : Bool} {ao bo : Option Addr} {n cap m cap' : Nat} (h : RatC w (.agg #[.bool s, .slice ao n cap, .slice bo m cap']) q) (ht : t = (decide (0 < n) && !s)) : RatC w (.agg #[.bool t, .slice ao n cap, .slice bo m cap']) (-q) := by
  obtain ⟨rfl, h1, h2, hz, hz'⟩ := h.parts
  have hl := h1.lenU
  refine ⟨ao, bo, n, cap, m, cap', ?_, by rw [Rat.neg_num, Int.natAbs_neg]; exact h1, by unfold denL at h2 ⊢; rw [Rat.neg_den]; exact h2, hz, hz'⟩
  have : t = decide ((-q).num < 0) := by
    rw [ht, Rat.neg_num]
    rcases Int.lt_trichotomy q.num 0 with hlt | heq | hgt
    · simp [hlt]; omega
    · rw [heq, show Int.natAbs 0 = 0 from rfl, dig_zero] at hl
      have : n = 0 := by simpa using hl.symm
      simp [this, heq]
    · have hn : 0 < n := by
        cases n with
        | zero => exact absurd (List.eq_nil_of_length_eq_zero hl) (fun h => by have := dig_nil.1 h; omega)
        | succ n => omega
      have h1 : ¬ q.num < 0 := by omega
      have h2 : -q.num < 0 := by omega
      simp [hn, h1, h2, hgt]
  rw [this]

end Go.Proofs.YtcgfglgcjpjbaaaDoor

/-
  The contracts of the reference's Mul and Quo. Conditions: sizes; the divisor is not 0.
-/
namespace Go.Proofs.YtcgfglgcjpjbaaaDoor
open Go.RowKit
set_option linter.unusedSimpArgs false
set_option linter.unusedVariables false

end Go.Proofs.YtcgfglgcjpjbaaaDoor

/-
  The contract of the reference's Add. No condition but sizes.
-/
namespace Go.Proofs.YtcgfglgcjpjbaaaDoor
open Go.RowKit
set_option linter.unusedSimpArgs false
set_option linter.unusedVariables false

theorem sgn_mul (s : Bool) (a b : Nat) : sgn s (a * b) = sgn s a * (b : Int) := by cases s <;> simp [sgn, Int.neg_mul]
theorem sgn_add (s : Bool) (a b : Nat) : sgn s (a + b) = sgn s a + sgn s b := by cases s <;> simp [sgn] <;> omega
theorem sgn_subx (s : Bool) {a b : Nat} (h : b ≤ a) : sgn s (a - b) = sgn s a + sgn (!s) b := by cases s <;> simp [sgn] <;> omega
theorem sgn_suby (s : Bool) {a b : Nat} (h : a ≤ b) : sgn (!s) (b - a) = sgn s a + sgn (!s) b := by cases s <;> simp [sgn] <;> omega

/-- Three numbers in slots. -/
def ThreeN (X Y Z : Nat) (p5 p6 p7 : Value) (w : World) : Prop :=
  ∃ (po : Option Addr) (pn pc : Nat) (ho : Option Addr) (hn hc : Nat) (qo : Option Addr) (qn qc : Nat), p5 = .slice po pn pc ∧ p6 = .slice ho hn hc ∧ p7 = .slice qo qn qc ∧
    Sl w po pn pc (u32s (dig X)) ∧ Sl w ho hn hc (u32s (dig Y)) ∧ Sl w qo qn qc (u32s (dig Z)) ∧ (po = none → pc = 0) ∧ (ho = none → hc = 0) ∧ (qo = none → qc = 0)

end Go.Proofs.YtcgfglgcjpjbaaaDoor

/-
  The contracts of the reference's Sub and Compare. No condition but sizes.
-/
namespace Go.Proofs.YtcgfglgcjpjbaaaDoor
open Go.RowKit
set_option linter.unusedSimpArgs false
set_option linter.unusedVariables false

end Go.Proofs.YtcgfglgcjpjbaaaDoor

/-
  The contract of the Space's Add where a row is added. No condition but sizes.
-/
import Derived.Test.YtcoidofchofljaaSpb
namespace Go.Proofs.Ytcoidofchofljaa
open Go.RowKit
set_option linter.unusedSimpArgs false
set_option linter.unusedVariables false

theorem makeRat_one : makeRat 1 1 = 1 := by decide +kernel

/-- A space with these rows in the place of the one at P. -/
def Added (w : World) (T : Nat → Prop) (lo P n : Nat) (st : List Row) (w' : World) : Prop := ∃ T' : Nat → Prop, Sp w' lo P T' n st ∧ (∀ b, T' b → T b ∨ w.heap.size ≤ b) ∧ Fr T w w'

/-- A space with one row more. -/
theorem sp_grow {w W w8 : World} {lo P n p m g1 B : Nat} {T : Nat → Prop} {st : List Row} {F : V} {vr vb vp v1 v2 v3 : Value} {xr xb : List Value} (hm : st.length = m)
    (hsrt : Srt T W) (hxr : xr.length = m) (hxb : xb.length = m) (q2e : ∀ i, i < m → ∃ ro rc, xr[i]? = some (.slice ro n rc) ∧ Vec RatC W ro n rc (rv st i)) (q3e : ∀ i, i < m → ∃ ro rc, xb[i]? = some (.slice ro (i + 1) rc) ∧ Vec RatC W ro (i + 1) rc (rcf st i))
    (q5 : ∀ b, T b ↔ b = P ∨ vr.ownBlock = some b ∨ vb.ownBlock = some b ∨ vp.ownBlock = some b) (hbel : Below w.heap.size w W)
    (hA : Vec RatC W (some ⟨g1, 0, none⟩) n n (red st F).1) (hB : Vec RatC W (some ⟨B, 0, none⟩) (m + 1) (m + 1) (rowOf m (red st F) p).c)
    (r1 : Own IsSl w8 lo 30 1 v1 (m + 1) (xr ++ [.slice (some ⟨g1, 0, none⟩) n n])) (r2 : Own IsSl w8 lo 30 1 v2 (m + 1) (xb ++ [.slice (some ⟨B, 0, none⟩) (m + 1) (m + 1)])) (r3 : Own IsI64 w8 lo 3 1 v3 (m + 1) (((List.range m).map fun i => Value.int .i64 (rpl st i)) ++ [.int .i64 p]))
    (d1 : ∀ g, v1.ownBlock = some g → g ≠ P ∧ v2.ownBlock ≠ some g ∧ v3.ownBlock ≠ some g) (d2 : ∀ g, v2.ownBlock = some g → g ≠ P ∧ v3.ownBlock ≠ some g) (d3 : ∀ g, v3.ownBlock = some g → g ≠ P)
    (d4 : ∀ g, (v1.ownBlock = some g ∨ v2.ownBlock = some g ∨ v3.ownBlock = some g) → g < W.heap.size → vr.ownBlock = some g ∨ vb.ownBlock = some g ∨ vp.ownBlock = some g)
    (rP : Own IsSl w8 lo 52 3 (.slice (some ⟨P, 0, none⟩) 1 1) 1 [v1, v2, v3]) (hfr : Fr (fun b => b = P ∨ vr.ownBlock = some b ∨ vb.ownBlock = some b ∨ vp.ownBlock = some b) W w8) :
    Added w T lo P n (st ++ [rowOf m (red st F) p]) w8 := by
  have hfT : Fr T W w8 := hfr.mono fun k _ hk => (q5 k).2 hk
  have hlen : (st ++ [rowOf m (red st F) p]).length = m + 1 := by simp [hm]
  refine ⟨fun b => b = P ∨ v1.ownBlock = some b ∨ v2.ownBlock = some b ∨ v3.ownBlock = some b, ⟨v1, v2, v3, rP, ⟨_, by rw [hlen]; exact r1, fun i hi => ?_⟩, ⟨_, by rw [hlen]; exact r2, fun i hi => ?_⟩, ?_, fun b => Iff.rfl, d1, d2, d3⟩, fun b hb => ?_, ?_⟩
  · rw [hlen] at hi
    by_cases hlt : i < m
    · obtain ⟨ro, rc, x1, x2⟩ := q2e i hlt
      refine ⟨ro, rc, by rw [List.getElem?_append_left (by omega)]; exact x1, ?_⟩
      unfold rv at x2 ⊢
      rw [getD_snoc_lt (by omega)]
      exact x2.frC hsrt hfT
    · obtain rfl : i = m := by omega
      refine ⟨some ⟨g1, 0, none⟩, n, by rw [List.getElem?_append_right (by omega), hxr, Nat.sub_self]; rfl, ?_⟩
      unfold rv
      subst hm
      rw [getD_snoc_at]
      exact hA.frC hsrt hfT
  · rw [hlen] at hi
    by_cases hlt : i < m
    · obtain ⟨ro, rc, x1, x2⟩ := q3e i hlt
      refine ⟨ro, rc, by rw [List.getElem?_append_left (by omega)]; exact x1, ?_⟩
      unfold rcf at x2 ⊢
      rw [getD_snoc_lt (by omega)]
      exact x2.frC hsrt hfT
    · obtain rfl : i = m := by omega
      refine ⟨some ⟨B, 0, none⟩, i + 1, by rw [List.getElem?_append_right (by omega), hxb, Nat.sub_self]; rfl, ?_⟩
      unfold rcf
      subst hm
      rw [getD_snoc_at]
      exact hB.frC hsrt hfT
  · rw [hlen, List.range_succ, List.map_append]
    have e1 : (List.range m).map (fun i => Value.int .i64 (rpl (st ++ [rowOf m (red st F) p]) i)) = (List.range m).map fun i => Value.int .i64 (rpl st i) := by
      apply List.map_congr_left
      intro i hi
      have := List.mem_range.1 hi
      unfold rpl
      rw [getD_snoc_lt (by omega)]
    have e2 : rpl (st ++ [rowOf m (red st F) p]) m = p := by
      unfold rpl
      subst hm
      rw [getD_snoc_at]; rfl
    rw [e1]
    simp only [List.map_cons, List.map_nil, e2]
    exact r3
  · rcases hb with hb | hb
    · exact .inl ((q5 b).2 (.inl hb))
    · by_cases hlt : b < W.heap.size
      · exact .inl ((q5 b).2 (.inr (d4 b hb hlt)))
      · exact .inr (by have := hbel.size; omega)
  · exact (below_fr hbel T).trans hfT

theorem Try.infoI64 : (Try.prog.info? 3).map (fun i => (i.zero, i.size, i.bytes)) = some (some (.int .i64 0), 1, 8) := by kernel_rfl

set_option maxHeartbeats 4000000 in
theorem add_yes (lo P n K : Nat) (T : Nat → Prop) (st : List Row) (F : V) (ao : Option Addr) (cap : Nat) (w : World) (hsp : Sp w lo P T n st) (h : Vec RatV w ao n cap F) (hn : n ≤ 1000) (hK : 1 ≤ K) (hF : ∀ i, i < n → Fit K (F i)) (hfit : RFit K n st) (hm : st.length ≤ 1000) (hbig : lv K st.length ≤ 1000000) {r : Row} (ha : addV n st F = some r) :
    Calls Try.prog 27 #[.pointer (some ⟨P, 0, none⟩), .slice ao n cap] w fun e w' => e = .returned (.bool true) ∧ Added w T lo P n (st ++ [r]) w' := by
  have hred := hid (sp_reduce lo P n K T st F ao cap w hsp h hn hK hF hfit hm hbig)
  obtain ⟨p, hp, hr⟩ := addV_some ha
  have hl := hid (leadI_pos hp)
  obtain ⟨f1, f2⟩ := hfit.red hK hF
  have f1 := hid f1
  have f2 := hid f2
  have hpn := (leadOf_some hp).1
  have Hr := hid hr
  clear hF ha hp hr
  obtain ⟨m, hm0⟩ : ∃ m, st.length = m := ⟨_, rfl⟩
  have Hm := hid hm0
  rw [hm0] at hred hbig hm
  rw [hm0] at f1 f2
  clear hm0
  go_enter Try.func27, Try.ntmps27
  go_wp2_with fail
  refine hred.out.mono ?_; rintro e w1 ⟨g1, g2, rfl, hne, hA, hT, hb1⟩
  obtain ⟨ro, rc, er, hv⟩ := hA.vec
  injection er with er _ er2
  subst er er2
  obtain ⟨uo, uc, et, ht⟩ := hT.vec
  injection et with et _ et2
  subst et et2
  have hv2 := hv.toV f1.out (by omega)
  have ht2 := ht.toV (fun i _ => f2.out i) (by omega)
  go_wp2_with fail
  refine (first_any _ _ _ _ _ hv2).mono ?_; rw [hl.out]; rintro e w2 ⟨rfl, hb2⟩
  go_wp2_with fail
  refine (Make_any 1 1 (by decide) (by decide) (by decide) (by decide) _).mono ?_; rintro e w3 ⟨v3, rfl, C1, hb3⟩
  obtain ⟨rb, xo, xn, xc, yo, yn, yc, rfl⟩ := C1.shape
  have hb4 : Below w3.heap.size w3 (w3.alloc (.cells #[.bool rb, .slice xo xn xc, .slice yo yn yc] 39)) := below_alloc _
  have hA4 := ((hA.next hb2).next hb3).next hb4
  have ht4 := ((ht2.nextV hb2).nextV hb3).nextV hb4
  have C4 := C1.next hb4
  have O4 : C3 w3.heap.size (.bool rb) (.slice xo xn xc) (.slice yo yn yc) (w3.alloc (.cells #[.bool rb, .slice xo xn xc, .slice yo yn yc] 39)) := C3.here _ _ rfl
  have hbel := below_chain (below_chain (below_chain hb1 hb2) hb3) hb4
  have hsz4 : w1.heap.size ≤ w3.heap.size ∧ w.heap.size ≤ w1.heap.size := ⟨Nat.le_trans hb2.size hb3.size, hb1.size⟩
  clear hA hT hv ht hv2 ht2 C1 hb4 hb1 hb2 hb3
  go_wp2_with (at_make; go_loud (refine wp_makeV rfl (.tmp 29) (.tmp 29) rfl _ _ _ _ (m + 1) rfl rfl (by go_num) (by go_num) (by omega) ?_))
  intro w5 hown5 hb5
  have hszm : w3.heap.size + 1 < w5.heap.size := by obtain ⟨xs, ho, _⟩ := hown5; have := (ho.1.lt _ rfl).2; simpa using this
  obtain ⟨W4, hW4⟩ : ∃ W4, w3.alloc (.cells #[.bool rb, .slice xo xn xc, .slice yo yn yc] 39) = W4 := ⟨_, rfl⟩
  have hs4 : W4.heap.size = w3.heap.size + 1 := by rw [← hW4]; simp
  rw [hW4] at hb5 hA4 ht4 C4 O4 hbel
  clear hW4
  have Hs4 := hid hs4
  rw [← hs4] at hb5
  clear hs4
  obtain ⟨B1, hB1⟩ : ∃ B1, w3.heap.size = B1 := ⟨_, rfl⟩
  rw [hB1] at hown5 O4 Hs4 hszm hsz4
  simp only [hB1]
  clear hB1
  go_wp2_with fail
  go_loopw [33] (fun iv wr => ∃ i : Nat, i ≤ m ∧ iv = .int .i64 i ∧ VOwn wr (B1 + 1) (.slice (some ⟨B1 + 1, 0, none⟩) (m + 1) (m + 1)) (m + 1) (fun j => if j < i then - (red st F).2 j else 0) ∧ Below W4.heap.size W4 wr) (fun i _ => m - (intOf i).toNat)
  case atStart => exact ⟨0, by omega, rfl, hown5.congr (fun j _ => by rw [if_neg (by omega)]; rfl), hb5⟩
  case round =>
    clear hown5 hb5
    obtain ⟨i, hi, rfl, hown, hbel5⟩ := hrel
    by_cases hlt : i < m
    · obtain ⟨b, o, ebo, s, zo, zn, zc, uo', un, uc', t1, t2, t3, hr⟩ := (ht4.nextV hbel5).get hlt
      have hbx : Below wr.heap.size wr (wr.alloc (.cells #[.bool s, .slice zo zn zc, .slice uo' un uc'] 39)) := below_alloc _
      have hr1 := hr.next hbx
      have hbel6 := below_chain hbel5 hbx
      have hown1 := hown.next hbx
      injection ebo with ebo1
      injection ebo1 with ebo2 ebo3
      subst ebo2 ebo3
      simp only [Nat.zero_add] at t1 t2 t3
      clear hr hown
      go_wp2_with fail
      refine (Neg_any ((red st F).2 i) _ _ hr1 (lv K m) (f2.out i) (by omega)).mono ?_; rintro e w7 ⟨v7, rfl, C7, hb7⟩
      obtain ⟨nb, ao', an, ac, bo', bn, bc, rfl⟩ := C7.shape
      have hbel7 := below_chain hbel6 hb7
      have hown2 := hown1.next hb7
      have hi1 : i < m + 1 := by omega
      obtain ⟨s', xo', xn', xc', yo', yn', yc', u1, u2, u3, e1, e2, e3, _⟩ := hown2.room hi1
      have hown3 := (hown2.set hi1 C7).congr (G := fun j => if j < i + 1 then - (red st F).2 j else 0) (fun j hj => by
        by_cases hji : j = i
        · subst hji; rw [updV_at, if_pos (by omega)]
        · rw [updV_ne _ _ hji]
          by_cases h1 : j < i
          · rw [if_pos h1, if_pos (by omega)]
          · rw [if_neg h1, if_neg (by omega)])
      have hbel8 : Below W4.heap.size W4 _ := hbel7.trans (below_stored3 (B := W4.heap.size) (w := w7) (g := B1 + 1) (by rw [Hs4.out]; exact Nat.le_refl _) (i * 3) (.bool nb) (.slice ao' an ac) (.slice bo' bn bc))
      clear hown1 hown2 C7 hr1 t1 t2 t3 hbel5 hbel6 hbel7
      go_wp2_with fail
      go_roundw
      case rel => exact ⟨i + 1, by omega, by go_num, hown3, hbel8⟩
      case measure => simp [intOf]; omega
    · obtain rfl : m = i := by omega
      obtain ⟨o0, o1, o2⟩ := O4.next hbel5
      have hm1 : m < m + 1 := by omega
      obtain ⟨s', xo', xn', xc', yo', yn', yc', u1, u2, u3, e1, e2, e3, _⟩ := hown.room hm1
      have C5 := C4.next hbel5
      have hown1 := (hown.set hm1 C5).congr (G := (rowOf m (red st F) p).c) (fun j hj => by
        by_cases hji : j = m
        · subst hji
          rw [updV_at]
          show _ = if j < j then _ else if j = j then (1 : Rat) else 0
          rw [if_neg (by omega), if_pos rfl]; exact makeRat_one
        · rw [updV_ne _ _ hji, if_pos (by omega)]
          show _ = if j < m then _ else _
          rw [if_pos (by omega)])
      have hbel6 : Below W4.heap.size W4 _ := hbel5.trans (below_stored3 (B := W4.heap.size) (w := wr) (g := B1 + 1) (by rw [Hs4.out]; exact Nat.le_refl _) (m * 3) (.bool rb) (.slice xo xn xc) (.slice yo yn yc))
      have hlm : IntKind.i64.wrap (m : Int) = (m : Int) := IntWalk.i64_in _ (by omega)
      clear hown hbel5 C5
      go_wp2_with fail
      have hsp7 := hsp.next (below_chain (below_chain hbel hbel6) (Below.refl _ _).drew)
      have hA7 := hA4.next hbel6
      have hbel7 := below_chain hbel hbel6
      generalize (((wr.setCell ⟨B1 + 1, m * 3, none⟩ (.bool rb)).setCell ⟨B1 + 1, m * 3 + 1, none⟩ (.slice xo xn xc)).setCell ⟨B1 + 1, m * 3 + 2, none⟩ (.slice yo yn yc)) = W7 at *
      refine wp_region_any (by kernel_rfl) ?_
      change wpAny _ _ _ _ _ _ _ (World.drew _)
      refine wpAny_take (i := 0) (v := ?_) rfl (by kernel_rfl) (by kernel_rfl) (by kernel_rfl) (fun _ _ _ h => h) (Or.inl ⟨by rfl, ?_⟩) ?_
      rotate_left
      · intro w; first | (go_simp; done) | (go_simp; with_reducible rfl)
      refine wpAny_take (i := 1) (v := ?_) rfl (by kernel_rfl) (by kernel_rfl) (by kernel_rfl) (fun _ _ _ h => h) (Or.inl ⟨by rfl, ?_⟩) ?_
      rotate_left
      · intro w; first | (go_simp; done) | (go_simp; with_reducible rfl)
      refine wpAny_take (i := 2) (v := ?_) rfl (by kernel_rfl) (by kernel_rfl) (by kernel_rfl) (fun _ _ _ h => h) (Or.inl ⟨by rfl, ?_⟩) ?_
      rotate_left
      · intro w; first | (go_simp; done) | (go_simp; with_reducible rfl)
      refine wpAny_take (i := 3) (v := ?_) rfl (by kernel_rfl) (by kernel_rfl) (by kernel_rfl) (fun _ _ _ h => h) (Or.inl ⟨by rfl, ?_⟩) ?_
      rotate_left
      · intro w; first | (go_simp; done) | (go_simp; with_reducible rfl)
      refine wpAny_take (i := 4) (v := ?_) rfl (by kernel_rfl) (by kernel_rfl) (by kernel_rfl) (fun _ _ _ h => h) (Or.inl ⟨by rfl, ?_⟩) ?_
      rotate_left
      · intro w; first | (go_simp; done) | (go_simp; with_reducible rfl)
      refine wpAny_take (i := 5) (v := ?_) rfl (by kernel_rfl) (by kernel_rfl) (by kernel_rfl) (fun _ _ _ h => h) (Or.inl ⟨by rfl, ?_⟩) ?_
      rotate_left
      · intro w; first | (go_simp; done) | (go_simp; with_reducible rfl)
      refine wpAny_take (i := 7) (v := ?_) rfl (by kernel_rfl) (by kernel_rfl) (by kernel_rfl) (fun _ _ _ h => h) (Or.inl ⟨by rfl, ?_⟩) ?_
      rotate_left
      · intro w; first | (go_simp; done) | (go_simp; with_reducible rfl)
      refine wpAny_take (i := 10) (v := ?_) rfl (by kernel_rfl) (by kernel_rfl) (by kernel_rfl) (fun _ _ _ h => h) (Or.inl ⟨by rfl, ?_⟩) ?_
      rotate_left
      · intro w; first | (go_simp; done) | (go_simp; with_reducible rfl)
      refine wpAny_take (i := 11) (v := ?_) rfl (by kernel_rfl) (by kernel_rfl) (by kernel_rfl) (fun _ _ _ h => h) (Or.inl ⟨by rfl, ?_⟩) ?_
      rotate_left
      · intro w; first | (go_simp; done) | (go_simp; with_reducible rfl)
      refine wpAny_take (i := 12) (v := ?_) rfl (by kernel_rfl) (by kernel_rfl) (by kernel_rfl) (fun _ _ _ h => h) (Or.inl ⟨by rfl, ?_⟩) ?_
      rotate_left
      · intro w; first | (go_simp; done) | (go_simp; with_reducible rfl)
      refine wpAny_take (i := 14) (v := ?_) rfl (by kernel_rfl) (by kernel_rfl) (by kernel_rfl) (fun _ _ _ h => h) (Or.inl ⟨by rfl, ?_⟩) ?_
      rotate_left
      · intro w; first | (go_simp; done) | (go_simp; with_reducible rfl)
      refine wpAny_take (i := 17) (v := ?_) rfl (by kernel_rfl) (by kernel_rfl) (by kernel_rfl) (fun _ _ _ h => h) (Or.inl ⟨by rfl, ?_⟩) ?_
      rotate_left
      · intro w; first | (go_simp; done) | (go_simp; with_reducible rfl)
      refine wpAny_take (i := 18) (v := ?_) rfl (by kernel_rfl) (by kernel_rfl) (by kernel_rfl) (fun _ _ _ h => h) (Or.inl ⟨by rfl, ?_⟩) ?_
      rotate_left
      · intro w; first | (go_simp; done) | (go_simp; with_reducible rfl)
      refine wpAny_take (i := 19) (v := ?_) rfl (by kernel_rfl) (by kernel_rfl) (by kernel_rfl) (fun _ _ _ h => h) (Or.inl ⟨by rfl, ?_⟩) ?_
      rotate_left
      · intro w; first | (go_simp; done) | (go_simp; with_reducible rfl)
      refine wpAny_take (i := 21) (v := ?_) rfl (by kernel_rfl) (by kernel_rfl) (by kernel_rfl) (fun _ _ _ h => h) (Or.inl ⟨by rfl, ?_⟩) ?_
      rotate_left
      · intro w; first | (go_simp; done) | (go_simp; with_reducible rfl)
      have hsrt := hsp7.srt
      obtain ⟨vr, vb, vp, q1, ⟨xr, q2, q2e⟩, ⟨xb, q3, q3e⟩, q4, q5, q6, q7, q8⟩ := hsp7
      rw [Hm.out] at q2 q3 q4 q2e q3e
      refine three_start (P := P) (lo := lo) (tsp := 52) (ds := [55, 57, 58, 62, 64, 65, 69, 71, 72, 73, 74, 75, 76, 77, 78])
        ([⟨24, 73, .pointer (some ⟨P, 0, none⟩)⟩, ⟨25, 74, .pointer (some ⟨P, 0, none⟩)⟩, ⟨27, 75, .pointer (some ⟨P, 0, none⟩)⟩, ⟨28, 76, .pointer (some ⟨P, 1, none⟩)⟩, ⟨30, 77, .pointer (some ⟨P, 0, none⟩)⟩, ⟨31, 78, .pointer (some ⟨P, 2, none⟩)⟩] : List Pur)
        { il := 6, ib := 8, ia := 9, is := 26, tl := 55, tb := 57, ta := 58, ts := 23, te := 30, z := .slice none 0 0, bytes := 24, K := IsSl, v0 := vr, item := .slice (some ⟨g1, 0, none⟩) n n, n := m, xs := xr }
        { il := 13, ib := 15, ia := 16, is := 29, tl := 62, tb := 64, ta := 65, ts := 23, te := 30, z := .slice none 0 0, bytes := 24, K := IsSl, v0 := vb, item := .slice (some ⟨B1 + 1, 0, none⟩) (m + 1) (m + 1), n := m, xs := xb }
        { il := 20, ib := 22, ia := 23, is := 32, tl := 69, tb := 71, ta := 72, ts := 22, te := 3, z := .int .i64 0, bytes := 8, K := IsI64, v0 := vp, item := .int .i64 p, n := m, xs := ((List.range m).map fun i => Value.int .i64 (rpl st i)) }
        (three_apart ?p0 ?q0 ?pj ?ps (by show ∀ x ∈ [6, 8, 9, 26], x ∉ [13, 15, 16, 29]; decide) (by show ∀ x ∈ [6, 8, 9, 26], x ∉ [20, 22, 23, 32]; decide) (by show ∀ x ∈ [13, 15, 16, 29], x ∉ [20, 22, 23, 32]; decide)
          (by show ∀ x ∈ [55, 57, 58], x ∉ [62, 64, 65]; decide) (by show ∀ x ∈ [55, 57, 58], x ∉ [69, 71, 72]; decide) (by show ∀ x ∈ [62, 64, 65], x ∉ [69, 71, 72]; decide)) ?pok ?pun ?k0 ?k1 ?k2 (by kernel_rfl) (by kernel_rfl) ?hrest ?u0 ?u1 ?u2 (by decide +kernel) ?hlo q1 q2 q3 q4 q6 q7 q8 ?hQ
      case u0 => show ∀ x ∈ [6, 8, 9, 26], _; decide +kernel
      case u1 => show ∀ x ∈ [13, 15, 16, 29], _; decide +kernel
      case u2 => show ∀ x ∈ [20, 22, 23, 32], _; decide +kernel
      case p0 => intro u hu; simp only [List.mem_cons, List.not_mem_nil, or_false] at hu; rcases hu with rfl | rfl | rfl | rfl | rfl | rfl <;> (refine ⟨?_, ?_, ?_⟩ <;> simp [Chn.idx])
      case q0 => intro u hu; simp only [List.mem_cons, List.not_mem_nil, or_false] at hu; rcases hu with rfl | rfl | rfl | rfl | rfl | rfl <;> (refine ⟨?_, ?_, ?_⟩ <;> simp [Chn.tmps])
      case pj => intro u hu u' hu' e; simp only [List.mem_cons, List.not_mem_nil, or_false] at hu hu'; rcases hu with rfl | rfl | rfl | rfl | rfl | rfl <;> rcases hu' with rfl | rfl | rfl | rfl | rfl | rfl <;> first | rfl | (exact absurd e (by simp))
      case ps => intro u hu u' hu' e; simp only [List.mem_cons, List.not_mem_nil, or_false] at hu hu'; rcases hu with rfl | rfl | rfl | rfl | rfl | rfl <;> rcases hu' with rfl | rfl | rfl | rfl | rfl | rfl <;> first | rfl | (exact absurd e (by simp))
      case pun => intro u hu; simp only [List.mem_cons, List.not_mem_nil, or_false] at hu; rcases hu with rfl | rfl | rfl | rfl | rfl | rfl <;> kernel_rfl
      case hlo => have h1 := q1.lt rfl; exact Nat.le_of_lt (Nat.lt_of_le_of_lt h1.1 h1.2)
      case hrest =>
        intro j hj hl
        have hm : j ∈ [6, 8, 9, 26, 13, 15, 16, 29, 20, 22, 23, 32, 24, 25, 27, 28, 30, 31] := by
          revert hl; revert hj; revert j; decide +kernel
        simp only [List.mem_cons, List.not_mem_nil, or_false] at hm
        rcases hm with rfl | rfl | rfl | rfl | rfl | rfl | rfl | rfl | rfl | rfl | rfl | rfl | rfl | rfl | rfl | rfl | rfl | rfl <;> first | (refine .inl (.inl ?_); simp [Chn.idx]; done) | (refine .inl (.inr (.inl ?_)); simp [Chn.idx]; done) | (refine .inl (.inr (.inr ?_)); simp [Chn.idx]; done) | (refine .inr ?_; simp; done)
      case pok =>
        intro u hu; simp only [List.mem_cons, List.not_mem_nil, or_false] at hu
        rcases hu with rfl | rfl | rfl | rfl | rfl | rfl
        · refine ⟨_, rfl, rfl, rfl, by simp, Nat.lt_of_lt_of_eq (m := 79) (by simp) (by kernel_rfl), fun o' ho a w ha hk => ?_⟩
          have ho : o'.op = .nilCheck (.tmp 49) := ho
          have e1 : a.eval (.tmp 49) = .pointer (some ⟨P, 0, none⟩) := (ha.eval (by decide)).trans (by kernel_rfl)
          unfold execOp
          simp only [ho, e1]
          go_simp
        · refine ⟨_, rfl, rfl, rfl, by simp, Nat.lt_of_lt_of_eq (m := 79) (by simp) (by kernel_rfl), fun o' ho a w ha hk => ?_⟩
          have ho : o'.op = .fieldAddr 52 (.tmp 73) 0 := ho
          have e1 : a.eval (.tmp 73) = .pointer (some ⟨P, 0, none⟩) := hk ⟨24, 73, _⟩ (by simp) (by kernel_rfl)
          unfold execOp
          simp only [ho, e1]
          go_simp
        · refine ⟨_, rfl, rfl, rfl, by simp, Nat.lt_of_lt_of_eq (m := 79) (by simp) (by kernel_rfl), fun o' ho a w ha hk => ?_⟩
          have ho : o'.op = .nilCheck (.tmp 50) := ho
          have e1 : a.eval (.tmp 50) = .pointer (some ⟨P, 0, none⟩) := (ha.eval (by decide)).trans (by kernel_rfl)
          unfold execOp
          simp only [ho, e1]
          go_simp
        · refine ⟨_, rfl, rfl, rfl, by simp, Nat.lt_of_lt_of_eq (m := 79) (by simp) (by kernel_rfl), fun o' ho a w ha hk => ?_⟩
          have ho : o'.op = .fieldAddr 52 (.tmp 75) 1 := ho
          have e1 : a.eval (.tmp 75) = .pointer (some ⟨P, 0, none⟩) := hk ⟨27, 75, _⟩ (by simp) (by kernel_rfl)
          unfold execOp
          simp only [ho, e1]
          go_simp
        · refine ⟨_, rfl, rfl, rfl, by simp, Nat.lt_of_lt_of_eq (m := 79) (by simp) (by kernel_rfl), fun o' ho a w ha hk => ?_⟩
          have ho : o'.op = .nilCheck (.tmp 51) := ho
          have e1 : a.eval (.tmp 51) = .pointer (some ⟨P, 0, none⟩) := (ha.eval (by decide)).trans (by kernel_rfl)
          unfold execOp
          simp only [ho, e1]
          go_simp
        · refine ⟨_, rfl, rfl, rfl, by simp, Nat.lt_of_lt_of_eq (m := 79) (by simp) (by kernel_rfl), fun o' ho a w ha hk => ?_⟩
          have ho : o'.op = .fieldAddr 52 (.tmp 77) 2 := ho
          have e1 : a.eval (.tmp 77) = .pointer (some ⟨P, 0, none⟩) := hk ⟨30, 77, _⟩ (by simp) (by kernel_rfl)
          unfold execOp
          simp only [ho, e1]
          go_simp
      case k0 =>
        refine ⟨by simp, by simp, by simp, ?_, by simp, by simp, ⟨_, rfl, rfl, rfl, fun o' ho a w v ha hc => ?_⟩, ⟨_, rfl, rfl, rfl, fun o' ho a w ha => ?_⟩, ⟨_, rfl, rfl, rfl, by kernel_rfl, by kernel_rfl, rfl⟩, ⟨_, rfl, rfl, rfl, by kernel_rfl, fun o' ho a w v u ha hk hc hf hv he => ?_⟩, Try.underlying23, Try.infoVec, rfl, ?_, rfl, isSl_s _ _ _, ?_, ?_⟩
        · intro t ht; simp only [List.mem_cons, List.not_mem_nil, or_false] at ht
          rcases ht with rfl | rfl | rfl <;> exact Nat.lt_of_lt_of_eq (m := 79) (by decide) (by kernel_rfl)
        · have ho : o'.op = .load 23 (.tmp 54) := ho
          have e1 : a.eval (.tmp 54) = .pointer (some ⟨P, 0, none⟩) := (ha.eval (by decide)).trans (by kernel_rfl)
          unfold execOp
          simp only [ho, e1]
          go_simp
        · have ho : o'.op = .buildSlice 23 1 #[(0, .tmp 56)] := ho
          have e1 : a.eval (.tmp 56) = .slice (some ⟨g1, 0, none⟩) n n := (ha.eval (by decide)).trans (by kernel_rfl)
          have e2 : a.tmps[56]?.getD undef = .slice (some ⟨g1, 0, none⟩) n n := by simpa only [Act.eval, Array.getD_eq_getD_getElem?] using e1
          unfold execOp
          simp only [ho, e1]
          go_simp
        · have ho : o'.op = .store 23 (.tmp 74) (.tmp 58) := ho
          have e1 : a.eval (.tmp 74) = .pointer (some ⟨P, 0, none⟩) := hk ⟨25, 74, _⟩ (by simp) (by kernel_rfl)
          obtain ⟨sa, sn, sc, rfl⟩ := hv
          unfold execOp
          simp only [ho, e1, he]
          go_simp
        · intro c hc; have hc : c = .slice none 0 0 := by simpa [Value.cells] using hc
          rw [hc]; exact isSl_s _ _ _
        · show (m + 1) * 24 ≤ _; omega
        · show m + 1 ≤ _; unfold maxLen; omega
      case k1 =>
        refine ⟨by simp, by simp, by simp, ?_, by simp, by simp, ⟨_, rfl, rfl, rfl, fun o' ho a w v ha hc => ?_⟩, ⟨_, rfl, rfl, rfl, fun o' ho a w ha => ?_⟩, ⟨_, rfl, rfl, rfl, by kernel_rfl, by kernel_rfl, rfl⟩, ⟨_, rfl, rfl, rfl, by kernel_rfl, fun o' ho a w v u ha hk hc hf hv he => ?_⟩, Try.underlying23, Try.infoVec, rfl, ?_, rfl, isSl_s _ _ _, ?_, ?_⟩
        · intro t ht; simp only [List.mem_cons, List.not_mem_nil, or_false] at ht
          rcases ht with rfl | rfl | rfl <;> exact Nat.lt_of_lt_of_eq (m := 79) (by decide) (by kernel_rfl)
        · have ho : o'.op = .load 23 (.tmp 61) := ho
          have e1 : a.eval (.tmp 61) = .pointer (some ⟨P, 1, none⟩) := (ha.eval (by decide)).trans (by kernel_rfl)
          unfold execOp
          simp only [ho, e1]
          go_simp
        · have ho : o'.op = .buildSlice 23 1 #[(0, .tmp 63)] := ho
          have e1 : a.eval (.tmp 63) = .slice (some ⟨B1 + 1, 0, none⟩) (m + 1) (m + 1) := (ha.eval (by decide)).trans (by kernel_rfl)
          have e2 : a.tmps[63]?.getD undef = .slice (some ⟨B1 + 1, 0, none⟩) (m + 1) (m + 1) := by simpa only [Act.eval, Array.getD_eq_getD_getElem?] using e1
          unfold execOp
          simp only [ho, e1]
          go_simp
        · have ho : o'.op = .store 23 (.tmp 76) (.tmp 65) := ho
          have e1 : a.eval (.tmp 76) = .pointer (some ⟨P, 1, none⟩) := hk ⟨28, 76, _⟩ (by simp) (by kernel_rfl)
          obtain ⟨sa, sn, sc, rfl⟩ := hv
          unfold execOp
          simp only [ho, e1, he]
          go_simp
        · intro c hc; have hc : c = .slice none 0 0 := by simpa [Value.cells] using hc
          rw [hc]; exact isSl_s _ _ _
        · show (m + 1) * 24 ≤ _; omega
        · show m + 1 ≤ _; unfold maxLen; omega
      case k2 =>
        refine ⟨by simp, by simp, by simp, ?_, by simp, by simp, ⟨_, rfl, rfl, rfl, fun o' ho a w v ha hc => ?_⟩, ⟨_, rfl, rfl, rfl, fun o' ho a w ha => ?_⟩, ⟨_, rfl, rfl, rfl, by kernel_rfl, by kernel_rfl, rfl⟩, ⟨_, rfl, rfl, rfl, by kernel_rfl, fun o' ho a w v u ha hk hc hf hv he => ?_⟩, Try.underlying22, Try.infoI64, rfl, ?_, rfl, ⟨_, rfl⟩, ?_, ?_⟩
        · intro t ht; simp only [List.mem_cons, List.not_mem_nil, or_false] at ht
          rcases ht with rfl | rfl | rfl <;> exact Nat.lt_of_lt_of_eq (m := 79) (by decide) (by kernel_rfl)
        · have ho : o'.op = .load 22 (.tmp 68) := ho
          have e1 : a.eval (.tmp 68) = .pointer (some ⟨P, 2, none⟩) := (ha.eval (by decide)).trans (by kernel_rfl)
          unfold execOp
          simp only [ho, e1]
          go_simp
        · have ho : o'.op = .buildSlice 22 1 #[(0, .tmp 70)] := ho
          have e1 : a.eval (.tmp 70) = .int .i64 p := (ha.eval (by decide)).trans (by kernel_rfl)
          have e2 : a.tmps[70]?.getD undef = .int .i64 p := by simpa only [Act.eval, Array.getD_eq_getD_getElem?] using e1
          unfold execOp
          simp only [ho, e1]
          go_simp
        · have ho : o'.op = .store 22 (.tmp 78) (.tmp 72) := ho
          have e1 : a.eval (.tmp 78) = .pointer (some ⟨P, 2, none⟩) := hk ⟨31, 78, _⟩ (by simp) (by kernel_rfl)
          obtain ⟨sa, sn, sc, rfl⟩ := hv
          unfold execOp
          simp only [ho, e1, he]
          go_simp
        · intro c hc; have hc : c = .int .i64 0 := by simpa [Value.cells] using hc
          rw [hc]; exact ⟨0, rfl⟩
        · show (m + 1) * 8 ≤ _; omega
        · show m + 1 ≤ _; unfold maxLen; omega
      case hQ =>
        intro a w8 hag r1 r2 r3 d1 d2 d3 d4 rP hfr
        obtain ⟨ro, rc, er, hvA⟩ := hA7.vec
        injection er with er1 _ er2
        subst er1 er2
        obtain ⟨so, sc, es, hvB⟩ := hown1.vec
        injection es with es1 _ es2
        subst es1 es2
        have hd : Below W7.heap.size W7 W7.drew := (Below.refl _ _).drew
        have hlr : xr.length = m := by have := q2.1.1; omega
        have hlb : xb.length = m := by have := q3.1.1; omega
        have hfin := sp_grow (w := w) (W := W7.drew) (T := T) (F := F) (p := p) Hm.out hsrt hlr hlb q2e q3e q5 (below_chain hbel7 hd) (hvA.nextC hd) (hvB.nextC hd) r1 r2 r3 d1 d2 d3 d4 rP hfr
        have hres := hid hfin
        rw [hag.form]
        clear r1 r2 r3 d1 d2 d3 d4 rP hfr hfin hvA hvB q1 q2 q3 q4 q2e q3e q5 q6 q7 q8 hag hA4 ht4 C4 O4 hbel hown1 hbel6 hsp hA7 hbel7
        generalize a.eval (.tmp 55) = x55 at *
        generalize a.eval (.tmp 57) = x57 at *
        generalize a.eval (.tmp 58) = x58 at *
        generalize a.eval (.tmp 62) = x62 at *
        generalize a.eval (.tmp 64) = x64 at *
        generalize a.eval (.tmp 65) = x65 at *
        generalize a.eval (.tmp 69) = x69 at *
        generalize a.eval (.tmp 71) = x71 at *
        generalize a.eval (.tmp 72) = x72 at *
        generalize a.eval (.tmp 73) = x73 at *
        generalize a.eval (.tmp 74) = x74 at *
        generalize a.eval (.tmp 75) = x75 at *
        generalize a.eval (.tmp 76) = x76 at *
        generalize a.eval (.tmp 77) = x77 at *
        generalize a.eval (.tmp 78) = x78 at *
        simp only [List.foldl_cons, List.foldl_nil]
        go_wp2_with fail
        go_ret
        rw [Hr.out, Hm.out]
        exact ⟨rfl, hres.out⟩

end Go.Proofs.Ytcoidofchofljaa

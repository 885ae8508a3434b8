/-
  The contracts of the reference's sized and rows. No condition but sizes.
-/
import Derived.Test.YtcoidofchofljaaRrd
import Derived.Test.YtcoidofchofljaaBas
import Derived.BigQuiet
namespace Go.Proofs.Ytcoidofchofljaa
open Go.RowKit
set_option linter.unusedSimpArgs false
set_option linter.unusedVariables false

theorem Good.lead {n : Nat} {st : List Row} {l : List V} (h : Good n st l) : ∀ k, k < st.length → leadOf n (rv st k) = some (rpl st k) := by
  induction h with
  | nil => intro k hk; simp at hk
  | @snoc st l v r h ha ih =>
    obtain ⟨p, hp, rfl⟩ := addV_some ha
    intro k hk
    by_cases hlt : k < st.length
    · unfold rv rpl
      rw [getD_snoc_lt hlt]
      exact ih k hlt
    · obtain rfl : k = st.length := by simp at hk; omega
      unfold rv rpl
      rw [getD_snoc_at]
      exact hp

theorem rowsK_good {n : Nat} {F : Nat → V} : ∀ {k : Nat} {st : List Row}, rowsK n F k = some st → Good n st ((List.range k).map F) := by
  intro k
  induction k with
  | zero => intro st h; simp [rowsK] at h; subst h; exact .nil
  | succ k ih =>
    intro st h
    simp only [rowsK, Option.bind_eq_some_iff, Option.map_eq_some_iff] at h
    obtain ⟨s, hs, r, hr, rfl⟩ := h
    rw [List.range_succ, List.map_append]
    exact .snoc (ih hs) hr

theorem drewN2 (w : World) (q r : Nat) : ∃ s, (w.drewN q).drewN r = w.drewN s := ⟨q + r, by simp⟩

noncomputable def okB (m : Nat) (L : Nat → Nat) : Bool := open Classical in decide (OkL m L)
theorem okB_true {m : Nat} {L : Nat → Nat} (h : OkL m L) : okB m L = true := by unfold okB; simp [h]
theorem okB_false {m : Nat} {L : Nat → Nat} (h : ¬ OkL m L) : okB m L = false := by unfold okB; simp [h]

set_option maxHeartbeats 2000000 in
theorem sized_any (R : World → Value → Rat → Prop) (ao : Option Addr) (m cap : Nat) (L : Nat → Nat) (F : Nat → V) (w : World) (h : Mat R w ao m cap L F) (hL : ∀ i, i < m → L i ≤ 100000) :
    Calls Try.prog 35 #[.slice ao m cap] w fun e w' => e = .returned (.bool (okB m L)) ∧ ∃ q, w' = w.drewN q := by
  have hm := h.bound
  have HL := hid hL
  clear hL
  have h0 : Hid (0 < m → ∃ b o, ao = some ⟨b, o, none⟩ ∧ ∃ ro rc, w.cell? ⟨b, o, none⟩ = some (.slice ro (L 0) rc)) := hid (fun hm0 => by
    obtain ⟨b, o, e, ro, rc, hc, _⟩ := h.get hm0
    exact ⟨b, o, e, ro, rc, hc⟩)
  obtain ⟨n, hn⟩ : ∃ n, L 0 = n := ⟨_, rfl⟩
  have Hn := hid hn
  rw [hn] at h0
  clear hn
  go_enter Try.func35, Try.ntmps35
  go_wp2_with fail
  go_loopw [3] (fun iv wr => ∃ k q : Nat, k ≤ m ∧ iv = .int .i64 k ∧ wr = w.drewN q ∧ Hid (OkL k L)) (fun i _ => m - (intOf i).toNat)
  case atStart => exact ⟨0, 0, by omega, rfl, by rfl, hid (fun i hi => by omega)⟩
  case round =>
    obtain ⟨k, q, hk, rfl, rfl, hok⟩ := hrel
    by_cases hlt : k < m
    · obtain ⟨b, o, rfl, ro, rc, hcell, hv⟩ := h.get hlt
      obtain ⟨b', o', eb, ro', rc', hc0⟩ := h0.out (by omega)
      injection eb with eb
      injection eb with eb1 eb2
      subst eb1 eb2
      obtain ⟨lk, hlk⟩ : ∃ lk, L k = lk := ⟨_, rfl⟩
      have hlk1 := HL.out k hlt
      rw [hlk] at hcell hv hlk1
      have Hlk := hid hlk
      clear hlk
      have i0 : (0 : Int) ≤ (k : Int) := by omega
      have i1 : (k : Int) < (m : Int) := by omega
      have i2 : 0 < m := by omega
      by_cases h1 : lk < 1
      · have c1 : decide (lk < 1) = true := decide_eq_true h1
        have c2 : decide ((lk : Int) < 1) = true := decide_eq_true (by omega)
        go_wp2_with fail
        go_quiet (fail)
        go_wp2_with fail
        go_ret
        exact ⟨retB (okB_false fun hall => by have := (hall k hlt).1.1; rw [Hlk.out] at this; omega).symm, drewN2 _ _ _⟩
      · have c1 : decide (lk < 1) = false := decide_eq_false h1
        have c2 : decide ((lk : Int) < 1) = false := decide_eq_false (by omega)
        by_cases h2 : 64 < lk
        · have c3 : decide (64 < lk) = true := decide_eq_true h2
          have c4 : decide ((64 : Int) < (lk : Int)) = true := decide_eq_true (by omega)
          go_wp2_with fail
          go_quiet (fail)
          go_wp2_with fail
          go_ret
          exact ⟨retB (okB_false fun hall => by have := (hall k hlt).1.2; rw [Hlk.out] at this; omega).symm, drewN2 _ _ _⟩
        · have c3 : decide (64 < lk) = false := decide_eq_false h2
          have c4 : decide ((64 : Int) < (lk : Int)) = false := decide_eq_false (by omega)
          by_cases h3 : lk = n
          · subst h3
            have c5 : ((lk : Int) != (lk : Int)) = false := by simp
            have hok2 : Hid (OkL (k + 1) L) := hid (fun i hi => by
              rcases Nat.lt_succ_iff_lt_or_eq.1 hi with h1' | h1'
              · exact hok.out i h1'
              · rw [h1', Hlk.out, Hn.out]; exact ⟨⟨by omega, by omega⟩, rfl⟩)
            go_wp2_with fail
            go_quiet (fail)
            go_wp2_with fail
            go_roundw
            case rel => exact ⟨k + 1, _, by omega, by go_num, rfl, hok2⟩
            case measure => simp [intOf]; omega
          · have c5 : ((lk : Int) != (n : Int)) = true := by rw [bne_iff_ne]; omega
            go_wp2_with fail
            go_quiet (fail)
            go_wp2_with fail
            go_ret
            exact ⟨retB (okB_false fun hall => by have := (hall k hlt).2; rw [Hlk.out, Hn.out] at this; exact h3 this).symm, drewN2 _ _ _⟩
    · obtain rfl : k = m := by omega
      go_wp2_with fail
      go_ret
      exact ⟨retB (okB_true hok.out).symm, _, rfl⟩

/-- Vectors of one length. -/
theorem Mat.lens {R : World → Value → Rat → Prop} {w : World} {ao : Option Addr} {m cap : Nat} {L L' : Nat → Nat} {F : Nat → V} (h : Mat R w ao m cap L F) (hl : ∀ i, i < m → L i = L' i) : Mat R w ao m cap L' F := by
  obtain ⟨h1, h2, h3, h4⟩ := h
  refine ⟨h1, h2, h3, fun i hi => ?_⟩
  rw [← hl i hi]; exact h4 i hi

/-- A vector stays where another row of rationals is written. -/
theorem Vec.other3 {w : World} {base n m g cap cap' : Nat} {ao : Option Addr} {F : V} {xs : List Value} (h : Vec RatC w ao n cap F) (ho : Own IsRat w base 39 3 (.slice (some ⟨g, 0, none⟩) m cap') m xs) (hne : ∀ b o, ao = some ⟨b, o, none⟩ → b ≠ g) (k : Nat) (s : Bool) (xo : Option Addr) (xn xc : Nat) (yo : Option Addr) (yn yc : Nat) :
    Vec RatC (((w.setCell ⟨g, k, none⟩ (.bool s)).setCell ⟨g, k + 1, none⟩ (.slice xo xn xc)).setCell ⟨g, k + 2, none⟩ (.slice yo yn yc)) ao n cap F := by
  obtain ⟨h1, h2, h3, h4⟩ := h
  refine ⟨h1, h2, h3, fun i hi => ?_⟩
  obtain ⟨b, o, e, s', xo', xn', xc', yo', yn', yc', ⟨t1, t2, t3⟩, hr⟩ := h4 i hi
  have hb := hne b o e
  have c : ∀ j, (((w.setCell ⟨g, k, none⟩ (.bool s)).setCell ⟨g, k + 1, none⟩ (.slice xo xn xc)).setCell ⟨g, k + 2, none⟩ (.slice yo yn yc)).cell? ⟨b, j, none⟩ = w.cell? ⟨b, j, none⟩ := fun j =>
    World.cell?_of_block (a := ⟨b, j, none⟩) (by rw [Below.heap_setCell _ _ _ _ (show b ≠ g from hb), Below.heap_setCell _ _ _ _ (show b ≠ g from hb), Below.heap_setCell _ _ _ _ (show b ≠ g from hb)])
  exact ⟨b, o, e, s', xo', xn', xc', yo', yn', yc', ⟨(c _).trans t1, (c _).trans t2, (c _).trans t3⟩, hr.stored3 ho _ _ _ _ _ _ _ _⟩
theorem C2.setAt {B G : Nat} {x y : Value} {w : World} (h : C2 B x y w) (hG : G ≠ B) (o : Nat) (x' y' z' : Value) : C2 B x y (((w.setCell ⟨G, o, none⟩ x').setCell ⟨G, o + 1, none⟩ y').setCell ⟨G, o + 2, none⟩ z') := by
  have c : ∀ j, (((w.setCell ⟨G, o, none⟩ x').setCell ⟨G, o + 1, none⟩ y').setCell ⟨G, o + 2, none⟩ z').cell? ⟨B, j, none⟩ = w.cell? ⟨B, j, none⟩ := fun j =>
    World.cell?_of_block (a := ⟨B, j, none⟩) (by rw [Below.heap_setCell _ _ _ _ (show B ≠ G from fun e => hG e.symm), Below.heap_setCell _ _ _ _ (show B ≠ G from fun e => hG e.symm), Below.heap_setCell _ _ _ _ (show B ≠ G from fun e => hG e.symm)])
  exact ⟨(c _).trans h.1, (c _).trans h.2⟩

/-- What rows returns. -/
def RoOut (w : World) (m n : Nat) (F : Nat → V) (e : Ending) (w' : World) : Prop :=
  (∃ st v, rowsK n F m = some st ∧ e = .returned (.tuple #[v, .bool true]) ∧ ROwn w' w.heap.size v m n m (rv st) (rcf st) ∧ Below w.heap.size w w') ∨
  (rowsK n F m = none ∧ e = .returned (.tuple #[.slice none 0 0, .bool false]) ∧ Below w.heap.size w w')

theorem red_high {n : Nat} {F : Nat → V} {k : Nat} {st : List Row} (h : rowsK n F k = some st) (v : V) : ∀ i, k ≤ i → (red st v).2 i = 0 := by
  have hl := rowsK_len h
  intro i hi
  exact (rowsK_good h).places.2.2 v i (by omega)

set_option maxHeartbeats 4000000 in
theorem rows_any (K : Nat) (ao : Option Addr) (m cap n : Nat) (F : Nat → V) (w : World) (h : Mat RatV w ao m cap (fun _ => n) F) (hm : m ≤ 1000) (hn : n ≤ 1000) (hK : 1 ≤ K) (hF : ∀ i, i < m → ∀ j, j < n → Fit K (F i j)) (hbig : lv K m ≤ 500000) :
    Calls Try.prog 36 #[.slice ao m cap] w (RoOut w m n F) := by
  have HF := hid hF
  clear hF
  have hbig2 : ∀ k, k ≤ m → lv K k ≤ 500000 := fun k hk => Nat.le_trans (lv_le hk) hbig
  have Hbig := hid hbig2
  clear hbig2
  go_enter Try.func36, Try.ntmps36
  go_wp2_with fail
  go_loopw [5, 4] (fun iv lv' wr => ∃ (k : Nat) (st : List Row), k ≤ m ∧ iv = .int .i64 k ∧ Hid (rowsK n F k = some st) ∧ ROwn wr w.heap.size lv' k n m (rv st) (rcf st) ∧ Hid (RFit K n st) ∧ Below w.heap.size w wr) (fun i _ _ => m - (intOf i).toNat)
  case atStart => exact ⟨0, [], by omega, rfl, hid rfl, ROwn.nil _ _ _ _ _ _, hid (RFit.nil K n), Below.refl _ _⟩
  case round =>
    obtain ⟨k, st, hk, rfl, hrows, hown, hfit, hbel⟩ := hrel
    by_cases hlt : k < m
    · obtain ⟨b, o, rfl, ro, rc, hcell, hv⟩ := (h.nextV hbel).get hlt
      obtain ⟨lo, lc, rfl, hmat⟩ := hown.mat
      have hlen := rowsK_len hrows.out
      have hgood := rowsK_good hrows.out
      have hFk := hid (HF.out k hlt)
      have hred := hid (rreduce_any k n m K (rv st) (rcf st) (rpl st) (F k) lo lc ro rc wr hmat hv hn (by omega) hm hK hFk.out (fun j hj i hi => hfit.out.v j (by omega) i hi) (fun j hj i => hfit.out.c j (by omega) i) (fun j hj => hgood.lead j (by omega)) (Hbig.out k hk))
      have hall := redN_all st (F k)
      rw [hlen] at hall
      rw [hall] at hred
      obtain ⟨f1, f2⟩ := hfit.out.red hK hFk.out
      have f1 := hid f1
      rw [hlen] at f1
      have hhigh := hid (red_high hrows.out (F k))
      have Hlen := hid hlen
      have hbk := Hbig.out k hk
      clear hall hlen hgood f2
      go_wp2_with fail
      refine hred.out.mono ?_; rintro e w2 ⟨g1, c1, g2, c2, rfl, hv2, ho2, hdis2, hb2⟩
      obtain ⟨g, cg, eg, hg1, hg2⟩ := ho2.place (by omega)
      injection eg with eg1 _ eg2
      subst eg1 eg2
      have Hdis : Hid (∀ b' o', g1 = some ⟨b', o', none⟩ → b' ≠ g) := hid (fun b' o' e he => by
        subst he
        subst e
        exact hdis2 b' rfl rfl)
      have hba : Below w2.heap.size w2 (w2.alloc (.cells #[.slice g1 n c1, .slice (some ⟨g, 0, none⟩) m c2] 69)) := below_alloc _
      have hv3 := hv2.nextC hba
      have ho3 := ho2.next hba
      have hbel3 := below_chain hb2 hba
      have hR : C2 w2.heap.size (.slice g1 n c1) (.slice (some ⟨g, 0, none⟩) m c2) (w2.alloc (.cells #[.slice g1 n c1, .slice (some ⟨g, 0, none⟩) m c2] 69)) := ⟨by simp [go_sem], by simp [go_sem]⟩
      have hv4 := hv3.toV f1.out (by omega)
      clear hdis2 hv2 hba
      cases hld : leadOf n (red st (F k)).1 with
      | none =>
        have hli := hid (leadI_no (leadOf_none hld))
        have hnone : Hid (rowsK n F (k + 1) = none) := hid (rowsK_none hrows.out (addV_none.2 (leadOf_none hld)))
        clear hld ho3
        go_wp2_with fail
        refine (refLead_any _ _ _ _ _ hv4).mono ?_; rw [hli.out]; rintro e w5 ⟨rfl, hb5⟩
        have hbel5 := below_chain hbel (below_chain hbel3 hb5)
        go_wp2_with fail
        go_ret2
        exact .inr ⟨rowsK_none_up hnone.out m hlt, rfl, hbel5⟩
      | some p =>
        have hli := hid (leadI_of hld)
        have hsome : Hid (rowsK n F (k + 1) = some (st ++ [rowOf k (red st (F k)) p])) := hid (rowsK_some hrows.out (by unfold addV; rw [hld, Hlen.out]; rfl))
        have hfit2 : Hid (RFit K n (st ++ [rowOf k (red st (F k)) p])) := hid (hfit.out.snoc hK hFk.out (by unfold addV; rw [hld, Hlen.out]; rfl))
        have hpn := (leadOf_some hld).1
        clear hld
        go_wp2_with fail
        refine (refLead_any _ _ _ _ _ hv4).mono ?_; rw [hli.out]; rintro e w5 ⟨rfl, hb5⟩
        have hv5 := hv3.nextC hb5
        have ho5 := ho3.next hb5
        have hR5 := hR.next hb5
        have hbel5 := below_chain hbel3 hb5
        have lR : w2.heap.size < w5.heap.size := World.block_lt_of_cell? _ _ hR5.1
        clear hv3 ho3 hR hv4 hbel3
        have hdd : Below w5.heap.size w5 w5.drew := (Below.refl _ _).drew
        have i0 : (0 : Int) ≤ (k : Int) := by omega
        have i1 : (k : Int) < (m : Int) := by omega
        have lwr : wr.heap.size ≤ w5.heap.size := hbel5.size
        have hS0 : C2 w2.heap.size (.slice g1 n c1) (.slice (some ⟨g, 0, none⟩) m c2) w5.drew := hR5.next hdd
        have hSW := hR5
        have hK : ∀ w' w'', C2 w2.heap.size (.slice g1 n c1) (.slice (some ⟨g, 0, none⟩) m c2) w' → Below w'.heap.size w' w'' → C2 w2.heap.size (.slice g1 n c1) (.slice (some ⟨g, 0, none⟩) m c2) w'' := fun w' w'' h hb => h.next hb
        have hSt : ∀ w' j (x' y' z' : Value), C2 w2.heap.size (.slice g1 n c1) (.slice (some ⟨g, 0, none⟩) m c2) w' → C2 w2.heap.size (.slice g1 n c1) (.slice (some ⟨g, 0, none⟩) m c2) (((w'.setCell ⟨g, j, none⟩ x').setCell ⟨g, j + 1, none⟩ y').setCell ⟨g, j + 2, none⟩ z') := fun w' j x' y' z' h => h.setAt (by omega) _ _ _ _
        go_wp2_with fail
        go_region_held3 (fun w' => C2 w2.heap.size (.slice g1 n c1) (.slice (some ⟨g, 0, none⟩) m c2) w')
          (repeat (first | with_reducible assumption | with_reducible refine hSt _ _ _ _ _ ?_ | with_reducible refine hK _ _ ?_ hb6))
          (first | (go_at_call 37; refine (rOf_any 1 1 (by decide) (by decide) (by decide) (by decide) _).mono ?_; rintro e w6 ⟨v6, rfl, C6, hb6⟩; obtain ⟨rb, xo, xn, xc, yo, yn, yc, rfl⟩ := C6.shape; have ho6 := (ho5.next hdd).next hb6; obtain ⟨s', xo', xn', xc', yo', yn', yc', u1, u2, u3, e1, e2, e3, _⟩ := ho6.room hlt))
        have hv6 := (hv5.nextC hdd).nextC hb6
        have hR6 := hSt _ (k * 3) (.bool rb) (.slice xo xn xc) (.slice yo yn yc) ((hR5.next hdd).next hb6)
        obtain ⟨xs6, hox, _⟩ := ho6
        have hv7 := hv6.other3 hox Hdis.out (k * 3) rb xo xn xc yo yn yc
        have ho6 := (ho5.next hdd).next hb6
        have ho7 := ho6.set hlt C6
        have hbel6 : Below wr.heap.size wr w6 := below_chain (below_chain hbel5 hdd) hb6
        have hbel7 : Below wr.heap.size wr _ := hbel6.trans (below_stored3 (B := wr.heap.size) (w := w6) (g := g) hg1 (k * 3) (.bool rb) (.slice xo xn xc) (.slice yo yn yc))
        obtain ⟨W7, hW7⟩ : ∃ W7, (((w6.setCell ⟨g, k * 3, none⟩ (.bool rb)).setCell ⟨g, k * 3 + 1, none⟩ (.slice xo xn xc)).setCell ⟨g, k * 3 + 2, none⟩ (.slice yo yn yc)) = W7 := ⟨_, rfl⟩
        simp only [hW7] at hR6 hv7 ho7 hbel7 ⊢
        have hown7 := hown.next hbel7
        obtain ⟨qo, qc, eq', hvec7⟩ := ho7.vec
        injection eq' with eq1 _ eq2
        subst eq1 eq2
        have hba : Below W7.heap.size W7 (W7.alloc (.cells #[.slice g1 n c1, .slice (some ⟨g, 0, none⟩) m c2] 69)) := below_alloc _
        have hownA := hown7.next hba
        have hcA : C2 W7.heap.size (.slice g1 n c1) (.slice (some ⟨g, 0, none⟩) m c2) (W7.alloc (.cells #[.slice g1 n c1, .slice (some ⟨g, 0, none⟩) m c2] 69)) := ⟨by simp [go_sem], by simp [go_sem]⟩
        have hvA := hv7.nextC hba
        have hwA := hvec7.nextC hba
        have hbelA := below_chain hbel (below_chain hbel7 hba)
        have hbz : w.heap.size ≤ (W7.alloc (.cells #[.slice g1 n c1, .slice (some ⟨g, 0, none⟩) m c2] 69)).heap.size := hbelA.size
        obtain ⟨r0, r1⟩ := hR6
        clear hW7 hown hown7 hv6 hv7 ho6 ho7 hvec7 hox u1 u2 u3 e1 e2 e3 hSt hK hS0 hSW hR5 ho5 hv5 C6
        go_wp2_with (at_builtin; go_loud (refine wp_appR rfl (.tmp 30) (.tmp 32) rfl w.heap.size _ k n m (rv st) (rcf st) rfl hownA W7.heap.size 1 rfl g1 c1 (some ⟨g, 0, none⟩) c2 hcA _ _ hvA hwA (by omega) hbz ?_))
        intro v' w8 hown8 hg8 hb8 _
        have hbel8 : Below w.heap.size w w8 := hbelA.trans hb8
        have hown9 : ROwn w8 w.heap.size v' (k + 1) n m (rv (st ++ [rowOf k (red st (F k)) p])) (rcf (st ++ [rowOf k (red st (F k)) p])) := hown8.congr (fun i hi j hj => by
          unfold updF rv
          by_cases hik : i = k
          · rw [if_pos hik, hik, ← Hlen.out, getD_snoc_at]; rfl
          · rw [if_neg hik, getD_snoc_lt (by rw [Hlen.out]; omega)]) (fun i hi j hj => by
          unfold updF rcf
          by_cases hik : i = k
          · rw [if_pos hik, hik]
            have e0 : (st ++ [rowOf k (red st (F k)) p]).getD k zRow = rowOf k (red st (F k)) p := by
              have := getD_snoc_at (l := st) (x := rowOf k (red st (F k)) p) (d := zRow)
              rw [Hlen.out] at this
              exact this
            rw [e0]
            show updV (fun i => - (red st (F k)).2 i) k (makeRat 1 1) j = if j < k then - (red st (F k)).2 j else if j = k then 1 else 0
            by_cases hjk : j = k
            · subst hjk
              rw [updV_at, if_neg (by omega), if_pos rfl]; exact makeRat_one
            · rw [updV_ne _ _ hjk]
              by_cases h1 : j < k
              · rw [if_pos h1]
              · rw [if_neg h1, if_neg hjk]
                show - (red st (F k)).2 j = 0
                rw [hhigh.out j (by omega)]; rfl
          · rw [if_neg hik, getD_snoc_lt (by rw [Hlen.out]; omega)])
        clear hown8
        go_wp2_with fail
        go_roundw
        case rel => exact ⟨k + 1, _, by omega, by go_num, hsome, hown9, hfit2, hbel8⟩
        case measure => simp [intOf]; omega
    · obtain rfl : k = m := by omega
      go_wp2_with fail
      go_ret2
      exact .inl ⟨st, _, hrows.out, rfl, hown, hbel⟩

end Go.Proofs.Ytcoidofchofljaa

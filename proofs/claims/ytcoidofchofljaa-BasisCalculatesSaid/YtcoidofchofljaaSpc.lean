/-
  The contract of the Space's reduce. No condition but sizes.
-/
import Derived.Test.YtcoidofchofljaaSpl
import Derived.Deep.AppendLies
import Derived.Deep.RegionLaw
namespace Go.Proofs.Ytcoidofchofljaa
open Go.RowKit
set_option linter.unusedSimpArgs false
set_option linter.unusedVariables false

/-- Another vector of the call's own stays where an element is written. -/
theorem VOwn.other3 {w : World} {base base' n n' g cap g' cap' : Nat} {F : V} {xs : List Value} (h : VOwn w base' (.slice (some ⟨g', 0, none⟩) n' cap') n' F) (ho : Own IsRat w base 39 3 (.slice (some ⟨g, 0, none⟩) n cap) n xs) (hne : g' ≠ g) (k : Nat) (s : Bool) (xo : Option Addr) (xn xc : Nat) (yo : Option Addr) (yn yc : Nat) :
    VOwn (((w.setCell ⟨g, k, none⟩ (.bool s)).setCell ⟨g, k + 1, none⟩ (.slice xo xn xc)).setCell ⟨g, k + 2, none⟩ (.slice yo yn yc)) base' (.slice (some ⟨g', 0, none⟩) n' cap') n' F := by
  obtain ⟨ys, h1, h2⟩ := h
  have hp : ∀ j (p : Addr), p = ⟨g, j, none⟩ → ∀ q, (Value.slice (some ⟨g', 0, none⟩) n' cap').ownBlock = some q → q ≠ p.block := by
    rintro j p rfl q hq
    simp only [Value.ownBlock, Option.some.injEq] at hq
    subst hq; exact hne
  refine ⟨ys, ((h1.put (hp _ _ rfl) _).put (hp _ _ rfl) _).put (hp _ _ rfl) _, fun i hi => ?_⟩
  obtain ⟨s', xo', xn', xc', yo', yn', yc', a, b, c, r⟩ := h2 i hi
  exact ⟨s', xo', xn', xc', yo', yn', yc', a, b, c, r.stored3 ho _ _ _ _ _ _ _ _⟩

/-- A variable elsewhere stays where an element is written. -/
theorem C3.stored3 {w : World} {base n g cap B : Nat} {x y z : Value} {xs : List Value} (h : C3 B x y z w) (ho : Own IsRat w base 39 3 (.slice (some ⟨g, 0, none⟩) n cap) n xs) (hne : B ≠ g) (k : Nat) (s : Bool) (xo : Option Addr) (xn xc : Nat) (yo : Option Addr) (yn yc : Nat) :
    C3 B x y z (((w.setCell ⟨g, k, none⟩ (.bool s)).setCell ⟨g, k + 1, none⟩ (.slice xo xn xc)).setCell ⟨g, k + 2, none⟩ (.slice yo yn yc)) := by
  have o1 := ho.stored k _ (isRat_b s)
  have o2 := o1.stored (k + 1) _ (isRat_s xo xn xc)
  have hn : ∀ o, some (⟨B, o, none⟩ : Addr).block ≠ some g := fun o e => hne (by injection e)
  have c : ∀ o u, w.cell? ⟨B, o, none⟩ = some u → (((w.setCell ⟨g, k, none⟩ (.bool s)).setCell ⟨g, k + 1, none⟩ (.slice xo xn xc)).setCell ⟨g, k + 2, none⟩ (.slice yo yn yc)).cell? ⟨B, o, none⟩ = some u := fun o u hu =>
    (o2.1.stored (k + 2) (.slice yo yn yc)).2.cell ((o1.1.stored (k + 1) (.slice xo xn xc)).2.cell ((ho.1.stored k (.bool s)).2.cell hu (hn o)) (hn o)) (hn o)
  exact ⟨c _ _ h.1, c _ _ h.2.1, c _ _ h.2.2⟩

set_option maxHeartbeats 4000000 in
set_option maxRecDepth 100000 in
theorem reduce_any (P m n K : Nat) (RV RC : Nat → V) (pl : Nat → Nat) (F : V) (ro : Option Addr) (rc : Nat) (bo : Option Addr) (bc : Nat) (po : Option Addr) (pc : Nat) (ao : Option Addr) (cap : Nat) (w : World)
    (hP : C3 P (.slice ro m rc) (.slice bo m bc) (.slice po m pc) w) (hR : Mat RatC w ro m rc (fun _ => n) RV) (hB : Mat RatC w bo m bc (fun i => i + 1) RC) (hpl : Sl w po m pc ((List.range m).map fun i => Value.int .i64 (pl i)))
    (h : Vec RatV w ao n cap F) (hn : n ≤ 1000) (hm : m ≤ 1000) (hK : 1 ≤ K) (hF : ∀ i, i < n → Fit K (F i)) (hV : ∀ k, k < m → ∀ i, i < n → Fit (lv K k) (RV k i)) (hC : ∀ k, k < m → ∀ i, Fit (lv K k) (RC k i)) (hp : ∀ k, k < m → pl k < n)
    (hc0 : ∀ k, k < m → ∀ i, k < i → RC k i = 0) (hbig : lv K m ≤ 1000000) :
    Calls Try.prog 48 #[.pointer (some ⟨P, 0, none⟩), .slice ao n cap] w fun e w' => ∃ g1 g2, e = .returned (.tuple #[.slice (some ⟨g1, 0, none⟩) n n, .slice (some ⟨g2, 0, none⟩) m m]) ∧ g1 ≠ g2 ∧
      VOwn w' w.heap.size (.slice (some ⟨g1, 0, none⟩) n n) n (redN RV RC pl F m).1 ∧ VOwn w' w.heap.size (.slice (some ⟨g2, 0, none⟩) m m) m (redN RV RC pl F m).2 ∧ Below w.heap.size w w' := by
  have HFit := hid (redN_fit hK hF hV hC hp)
  have HF := hid hF; have HV := hid hV; have HC := hid hC; have HP := hid hp; have HC0 := hid hc0
  clear hF hV hC hp hc0
  go_enter Try.func48, Try.ntmps48
  go_wp2_with (at_make; go_loud (refine wp_makeV rfl (.tmp 17) (.tmp 17) rfl _ _ _ _ n rfl rfl rfl rfl (by omega) ?_))
  intro w1 hown1 hb1
  go_wp2_with fail
  go_loopw [21] (fun iv wr => ∃ k : Nat, k ≤ n ∧ iv = .int .i64 k ∧ VOwn wr w.heap.size (.slice (some ⟨w.heap.size, 0, none⟩) n n) n (fun i => if i < k then F i else 0) ∧ Below w.heap.size w wr ∧ w.heap.size < wr.heap.size) (fun i _ => n - (intOf i).toNat)
  case atStart =>
    exact ⟨0, by omega, rfl, hown1.congr (fun i _ => by rw [if_neg (by omega)]; rfl), hb1, by obtain ⟨xs, ho, _⟩ := hown1; exact (ho.1.lt _ rfl).2⟩
  case round =>
    obtain ⟨k, hk, rfl, hown, hbel, hsz⟩ := hrel
    by_cases hlt : k < n
    · obtain ⟨b, o, rfl, s, xo, xn, xc, yo, yn, yc, t1, t2, t3, hr⟩ := (h.nextV hbel).get hlt
      have hb1 : Below wr.heap.size wr (wr.alloc (.cells #[.bool s, .slice xo xn xc, .slice yo yn yc] 39)) := below_alloc _
      have hr1 := hr.next hb1
      have hbel1 := below_chain hbel hb1
      have hown1 := hown.next hb1
      have hz := (ratC_zero (wr.alloc (.cells #[.bool s, .slice xo xn xc, .slice yo yn yc] 39))).toV (fit_zero (Nat.le_refl 1)) (by decide)
      have hKb : K ≤ 1000000 := Nat.le_trans (lv_le (i := 0) (Nat.zero_le m)) hbig
      clear hr hown
      go_wp2_with fail
      refine (Add_any (F k) 0 _ _ _ hr1 hz (K + 1) ((HF.out k hlt).mono (by omega)) (fit_zero (by omega)) (by omega)).mono ?_; rintro e w2 ⟨v2, rfl, C2, hb2⟩
      rw [show F k + 0 = F k by grind] at C2
      have hbel2 := below_chain hbel1 hb2
      have hown2 := hown1.next hb2
      obtain ⟨rb, ro', rn, rc', so, sn, sc, rfl⟩ := C2.shape
      obtain ⟨s', xo', xn', xc', yo', yn', yc', u1, u2, u3, f1, f2, f3, _⟩ := hown2.room hlt
      have hown3 := (hown2.set hlt C2).congr (G := fun i => if i < k + 1 then F i else 0) (fun i hi => by
        by_cases hik : i = k
        · subst hik; rw [updV_at, if_pos (by omega)]
        · rw [updV_ne _ _ hik]
          by_cases h1 : i < k
          · rw [if_pos h1, if_pos (by omega)]
          · rw [if_neg h1, if_neg (by omega)])
      have hbel3 : Below w.heap.size w _ := hbel2.trans (below_stored3 (B := w.heap.size) (w := w2) (Nat.le_refl _) (k * 3) (.bool rb) (.slice ro' rn rc') (.slice so sn sc))
      have hsz3 : w.heap.size < (((w2.setCell ⟨w.heap.size, k * 3, none⟩ (.bool rb)).setCell ⟨w.heap.size, k * 3 + 1, none⟩ (.slice ro' rn rc')).setCell ⟨w.heap.size, k * 3 + 2, none⟩ (.slice so sn sc)).heap.size := by
        have h1 := hb1.size; have h2 := hb2.size
        simp only [World.size_setCell]
        omega
      clear hown1 hown2 t1 t2 t3 C2 hr1 hz
      go_wp2_with fail
      go_roundw
      case rel => exact ⟨k + 1, by omega, by go_num, hown3, hbel3, hsz3⟩
      case measure => simp [intOf]; omega
    · obtain rfl : n = k := by omega
      have hrest : VOwn wr w.heap.size (.slice (some ⟨w.heap.size, 0, none⟩) n n) n (redN RV RC pl F 0).1 := hown.congr (fun i hi => if_pos hi)
      have hP0 := hP.next hbel
      obtain ⟨p0, p1, p2⟩ := hP0
      clear hown hown1 hb1
      go_wp2_with (at_make; go_loud (refine wp_makeV rfl (.tmp 37) (.tmp 37) rfl _ _ _ _ m rfl rfl rfl rfl (by omega) ?_))
      intro w2 hown2 hb2
      have hrest2 := hrest.next hb2
      have hbel2 := below_chain hbel hb2
      have hg2 : wr.heap.size < w2.heap.size := by obtain ⟨xs, ho, _⟩ := hown2; exact (ho.1.lt _ rfl).2
      have hown3 := hown2.mono (base' := w.heap.size) (by omega)
      obtain ⟨q0, q1, q2⟩ := hP.next hbel2
      generalize wr.heap.size = R2 at *
      clear hrest hown2 hb2 hbel p0 p1 p2
      go_wp2_with fail
      go_loopw [44] (fun iv wr => ∃ k : Nat, k ≤ m ∧ iv = .int .i64 k ∧ VOwn wr w.heap.size (.slice (some ⟨w.heap.size, 0, none⟩) n n) n (redN RV RC pl F k).1 ∧ VOwn wr w.heap.size (.slice (some ⟨R2, 0, none⟩) m m) m (redN RV RC pl F k).2 ∧ Below w.heap.size w wr) (fun i _ => m - (intOf i).toNat)
      case atStart => exact ⟨0, by omega, rfl, hrest2, hown3, hbel2⟩
      case round =>
        clear hrest2 hown3 hbel2 q0 q1 q2
        obtain ⟨k, hk, rfl, hA, hT, hbel⟩ := hrel
        by_cases hlt : k < m
        · have hpk := HP.out k hlt
          obtain ⟨f1, f2⟩ := HFit.out k hk
          have hlv : lv K k ≤ 1000000 := Nat.le_trans (lv_le hk) hbig
          obtain ⟨br, or', rfl, rv, rvc, t0, hvw⟩ := hR.get hlt
          have t1 : wr.cell? ⟨br, or' + k, none⟩ = some (.slice rv n rvc) := (World.cell?_of_block (hbel.block br (World.block_lt_of_cell? w _ t0))).trans t0
          have hv := hvw.nextC hbel
          obtain ⟨z, hz, bp, op, rfl, t2⟩ := (hpl.next hbel).get hlt
          rw [List.getElem?_range hlt] at hz
          injection hz with hz
          subst hz
          obtain ⟨s1, x1, n1, c1, y1, l1, d1, a1, a2, a3, a4, a5, a6, rA⟩ := hA.room hpk
          obtain ⟨bv, ov, rfl, s2, x2, n2, c2, y2, l2, d2, b1, b2, b3, rV⟩ := hv.get hpk
          obtain ⟨i0, i1, i2⟩ := hP.next hbel
          rename World => W0
          have lP : P < W0.heap.size := World.block_lt_of_cell? _ _ i0
          have lp : bp < W0.heap.size := World.block_lt_of_cell? _ _ t2
          have lR : w.heap.size < W0.heap.size := World.block_lt_of_cell? _ _ a1
          have lb : bv < W0.heap.size := World.block_lt_of_cell? _ _ b1
          have lR2 : R2 < W0.heap.size := by
            obtain ⟨gp, cp, ep, _, hp⟩ := hT.place (by omega)
            injection ep with ep
            injection ep with ep
            injection ep with ep
            rw [ep]; exact hp
          obtain ⟨f, hf⟩ : ∃ f, redF (redN RV RC pl F k).1 ⟨RV k, RC k, pl k⟩ = f := ⟨_, rfl⟩
          have hfd := hid (show (redN RV RC pl F k).1 (pl k) / RV k (pl k) = f from hf)
          have rA2 := rA.toV (f1 _ hpk) (by omega)
          have rV2 := rV.toV (HV.out k hlt _ hpk) (by omega)
          have fA := f1 _ hpk
          have fV := HV.out k hlt _ hpk
          have Hf := hid hf
          have Hf1 := hid f1; have Hf2 := hid f2
          clear hf f1 f2 rA rV
          go_upto_region 11 with fail
          go_cut [10, 11] (fun v10 v11 wx => ∃ (g : Nat) (c : Int) (xs : Bool) (xo : Option Addr) (xn xc : Nat) (yo : Option Addr) (yn yc : Nat), v10 = .pointer (some ⟨g, 0, none⟩) ∧ v11 = .int .i64 c ∧ W0.heap.size ≤ g ∧ C3 g (.bool xs) (.slice xo xn xc) (.slice yo yn yc) wx ∧
            RatC wx (.agg #[.bool xs, .slice xo xn xc, .slice yo yn yc]) f ∧ Below W0.heap.size W0 wx)
          case first =>
            have hd := (Below.refl W0.heap.size W0).drew
            have hS0 : C3 P (.slice (some ⟨br, or', none⟩) m rc) (.slice bo m bc) (.slice (some ⟨bp, op, none⟩) m pc) W0.drew ∧ E1 bp (op + k) (.int .i64 (pl k)) W0.drew ∧ E3 w.heap.size (pl k * 3) (.bool s1) (.slice x1 n1 c1) (.slice y1 l1 d1) W0.drew ∧ E3 bv (ov + pl k * 3) (.bool s2) (.slice x2 n2 c2) (.slice y2 l2 d2) W0.drew ∧ Below W0.heap.size W0 W0.drew := ⟨C3.next ⟨i0, i1, i2⟩ hd, E1.next t2 hd, E3.next ⟨a1, a2, a3⟩ hd, E3.next ⟨b1, b2, b3⟩ hd, hd⟩
            have hSW : C3 P (.slice (some ⟨br, or', none⟩) m rc) (.slice bo m bc) (.slice (some ⟨bp, op, none⟩) m pc) W0 ∧ E1 bp (op + k) (.int .i64 (pl k)) W0 ∧ E3 w.heap.size (pl k * 3) (.bool s1) (.slice x1 n1 c1) (.slice y1 l1 d1) W0 ∧ E3 bv (ov + pl k * 3) (.bool s2) (.slice x2 n2 c2) (.slice y2 l2 d2) W0 ∧ Below W0.heap.size W0 W0 := ⟨⟨i0, i1, i2⟩, t2, ⟨a1, a2, a3⟩, ⟨b1, b2, b3⟩, Below.refl _ _⟩
            have hK : ∀ w' w'', (C3 P (.slice (some ⟨br, or', none⟩) m rc) (.slice bo m bc) (.slice (some ⟨bp, op, none⟩) m pc) w' ∧ E1 bp (op + k) (.int .i64 (pl k)) w' ∧ E3 w.heap.size (pl k * 3) (.bool s1) (.slice x1 n1 c1) (.slice y1 l1 d1) w' ∧ E3 bv (ov + pl k * 3) (.bool s2) (.slice x2 n2 c2) (.slice y2 l2 d2) w' ∧ Below W0.heap.size W0 w') → Below w'.heap.size w' w'' → (C3 P (.slice (some ⟨br, or', none⟩) m rc) (.slice bo m bc) (.slice (some ⟨bp, op, none⟩) m pc) w'' ∧ E1 bp (op + k) (.int .i64 (pl k)) w'' ∧ E3 w.heap.size (pl k * 3) (.bool s1) (.slice x1 n1 c1) (.slice y1 l1 d1) w'' ∧ E3 bv (ov + pl k * 3) (.bool s2) (.slice x2 n2 c2) (.slice y2 l2 d2) w'' ∧ Below W0.heap.size W0 w'') := fun w' w'' h hb => ⟨h.1.next hb, h.2.1.next hb, h.2.2.1.next hb, h.2.2.2.1.next hb, below_chain h.2.2.2.2 hb⟩
            have hSt : ∀ w' G (x' y' z' : Value), W0.heap.size ≤ G → (C3 P (.slice (some ⟨br, or', none⟩) m rc) (.slice bo m bc) (.slice (some ⟨bp, op, none⟩) m pc) w' ∧ E1 bp (op + k) (.int .i64 (pl k)) w' ∧ E3 w.heap.size (pl k * 3) (.bool s1) (.slice x1 n1 c1) (.slice y1 l1 d1) w' ∧ E3 bv (ov + pl k * 3) (.bool s2) (.slice x2 n2 c2) (.slice y2 l2 d2) w' ∧ Below W0.heap.size W0 w') → (C3 P (.slice (some ⟨br, or', none⟩) m rc) (.slice bo m bc) (.slice (some ⟨bp, op, none⟩) m pc) (((w'.setCell ⟨G, 0, none⟩ x').setCell ⟨G, 1, none⟩ y').setCell ⟨G, 2, none⟩ z') ∧ E1 bp (op + k) (.int .i64 (pl k)) (((w'.setCell ⟨G, 0, none⟩ x').setCell ⟨G, 1, none⟩ y').setCell ⟨G, 2, none⟩ z') ∧ E3 w.heap.size (pl k * 3) (.bool s1) (.slice x1 n1 c1) (.slice y1 l1 d1) (((w'.setCell ⟨G, 0, none⟩ x').setCell ⟨G, 1, none⟩ y').setCell ⟨G, 2, none⟩ z') ∧ E3 bv (ov + pl k * 3) (.bool s2) (.slice x2 n2 c2) (.slice y2 l2 d2) (((w'.setCell ⟨G, 0, none⟩ x').setCell ⟨G, 1, none⟩ y').setCell ⟨G, 2, none⟩ z') ∧ Below W0.heap.size W0 (((w'.setCell ⟨G, 0, none⟩ x').setCell ⟨G, 1, none⟩ y').setCell ⟨G, 2, none⟩ z')) := fun w' G x' y' z' hG h =>
              have hb : Below W0.heap.size w' (((w'.setCell ⟨G, 0, none⟩ x').setCell ⟨G, 1, none⟩ y').setCell ⟨G, 2, none⟩ z') := below_set3 (Below.refl _ _) hG _ _ _
              ⟨h.1.low lP hb, (World.cell?_of_block (hb.block bp lp)).trans h.2.1, h.2.2.1.low lR hb, h.2.2.2.1.low lb hb, h.2.2.2.2.trans hb⟩
            have lt0 : W0.heap.size ≤ W0.drew.heap.size := hd.size
            clear i0 i1 i2 a1 a2 a3 b1 b2 b3 t2 hA hT hbel hv t1
            go_region_held3 (fun w' => C3 P (.slice (some ⟨br, or', none⟩) m rc) (.slice bo m bc) (.slice (some ⟨bp, op, none⟩) m pc) w' ∧ E1 bp (op + k) (.int .i64 (pl k)) w' ∧ E3 w.heap.size (pl k * 3) (.bool s1) (.slice x1 n1 c1) (.slice y1 l1 d1) w' ∧ E3 bv (ov + pl k * 3) (.bool s2) (.slice x2 n2 c2) (.slice y2 l2 d2) w' ∧ Below W0.heap.size W0 w')
              (repeat (first | with_reducible refine hSt _ _ _ _ _ (by with_reducible first | exact lt0 | exact Nat.le_refl _ | exact lt1) ?_ | with_reducible assumption | with_reducible refine hK _ _ ?_ (below_alloc _) | with_reducible refine hK _ _ ?_ hb1 | with_reducible refine hK _ _ ?_ (Below.refl _ _).drew))
              (first | (go_at_call 65; refine (Div_any ((redN RV RC pl F k).1 (pl k)) (RV k (pl k)) _ _ _ (rA2.next (show Below W0.heap.size W0 _ from And.right (And.right (And.right (And.right (by assumption)))))) (rV2.next (show Below W0.heap.size W0 _ from And.right (And.right (And.right (And.right (by assumption)))))) (lv K k) fA fV (by omega)).mono ?_; rw [hfd.out]; rintro e' wd ⟨fv, rfl, F1, hb1⟩; have lt1 := Nat.le_trans (show W0.heap.size ≤ _ from Below.size (And.right (And.right (And.right (And.right (by assumption)))))) hb1.size; obtain ⟨hc1, hf1⟩ := bcell hb1; have hz1 := hb1.size; (try simp at hz1); (try have hu1 := Nat.lt_of_succ_le hz1); obtain ⟨xs, xo, xn, xc, yo, yn, yc, rfl⟩ := F1.shape))
            all_goals
              go_wp2_with fail
              go_meet
              refine ⟨_, _, xs, xo, xn, xc, yo, yn, yc, rfl, rfl, ?_, ?_, ?_, ?_⟩
              have sol : ∀ (X : World) (G : Nat), G = X.heap.size → Below W0.heap.size W0 X → Res W0 G false none 0 0 none 0 0 (X.alloc (.cells #[.bool false, .slice none 0 0, .slice none 0 0] 39)) := fun X G e h => Res.startAt h e _ _ _ _ _ _ _ _
              all_goals (repeat' (first | with_reducible exact F1 | exact Nat.le_refl _ | with_reducible exact lt1 | with_reducible exact lt0 | with_reducible refine RatC.putOther (w := W0) (b0 := false) (a1 := none) (n1 := 0) (k1 := 0) (a2 := none) (n2 := 0) (k2 := 0) ?_ ?_ _ _ _ | with_reducible refine RatC.next ?_ (below_alloc _) | with_reducible refine C3.stored (w := W0) (b0 := false) (a1 := none) (n1 := 0) (k1 := 0) (a2 := none) (n2 := 0) (k2 := 0) ?_ _ _ _ | (with_reducible refine C3.here _ _ ?_; · simp) | exact Res.start (Below.refl _ _) _ _ _ _ _ _ _ _ | with_reducible refine Res.drew ?_ | with_reducible refine Res.next ?_ hb1 | with_reducible refine below_set3 ?_ (Nat.le_refl _) _ _ _ | with_reducible refine below_new ?_ _ | with_reducible refine Below.drew ?_ | with_reducible refine below_chain ?_ hb1 | with_reducible exact Below.refl _ _ | omega))
          case rest =>
            obtain ⟨g, c, xs, xo, xn, xc, yo, yn, yc, rfl, rfl, hg, hF, CF, hbc⟩ := hcut
            have hA := hA.next hbc
            have hT := hT.next hbc
            have hv := hv.nextC hbc
            have hbel := below_chain hbel hbc
            have hgR : g ≠ R2 := by omega
            obtain ⟨z0, z1, z2⟩ := hF
            have ff : Fit (lv K k + lv K k) f := by rw [← hfd.out]; exact fit_div fA fV
            clear i0 i1 i2 a1 a2 a3 a4 a5 a6 b1 b2 b3 t1 t2 rA2 rV2
            go_wp2_with fail
            refine (Sign_any f _ _ (CF.toV ff (by omega))).mono ?_
            obtain ⟨sg', hsg⟩ : ∃ sg', rsg f = sg' := ⟨_, rfl⟩
            have hf0 : Hid (sg' = 0 → f = 0) := hid (fun e => rsg0.1 (hsg.trans e))
            rw [hsg]
            clear hsg
            rintro e w5 ⟨rfl, hb5⟩
            have hA := hA.next hb5
            have hT := hT.next hb5
            have hv := hv.nextC hb5
            have hbel := below_chain hbel hb5
            have CF := CF.next hb5
            have hF := C3.next (show C3 g (.bool xs) (.slice xo xn xc) (.slice yo yn yc) wc from ⟨z0, z1, z2⟩) hb5
            have hgl : g < w5.heap.size := World.block_lt_of_cell? _ _ hF.1
            clear z0 z1 z2
            by_cases hs0 : sg' = 0
            · subst hs0
              have e1 : redN RV RC pl F (k + 1) = redN RV RC pl F k := by
                have h0 := hf0.out rfl
                have h1 : redF (redN RV RC pl F k).1 ⟨RV k, RC k, pl k⟩ = 0 := Hf.out.trans h0
                show redStep _ _ = _
                unfold redStep
                rw [h1]
                refine Prod.ext (funext fun i => ?_) (funext fun i => ?_) <;> simp only <;> grind
              have hA2 : VOwn w5 w.heap.size (.slice (some ⟨w.heap.size, 0, none⟩) n n) n (redN RV RC pl F (k + 1)).1 := by rw [e1]; exact hA
              have hT2 : VOwn w5 w.heap.size (.slice (some ⟨R2, 0, none⟩) m m) m (redN RV RC pl F (k + 1)).2 := by rw [e1]; exact hT
              clear e1
              go_wp2_with fail
              go_roundw
              case rel => exact ⟨k + 1, by omega, by go_num, hA2, hT2, hbel⟩
              case measure => simp [intOf]; omega
            · have hs1 : (sg' == 0) = false := by rw [beq_eq_false_iff_ne]; exact hs0
              obtain ⟨z0, z1, z2⟩ := hF
              go_wp2_with fail
              go_loopw [78] (fun iv wr => ∃ i : Nat, i ≤ n ∧ iv = .int .i64 i ∧ VOwn wr w.heap.size (.slice (some ⟨w.heap.size, 0, none⟩) n n) n (fun j => if j < i then (redN RV RC pl F k).1 j - f * RV k j else (redN RV RC pl F k).1 j) ∧ VOwn wr w.heap.size (.slice (some ⟨R2, 0, none⟩) m m) m (redN RV RC pl F k).2 ∧
                C3 g (.bool xs) (.slice xo xn xc) (.slice yo yn yc) wr ∧ RatC wr (.agg #[.bool xs, .slice xo xn xc, .slice yo yn yc]) f ∧ Below w.heap.size w wr) (fun i _ => n - (intOf i).toNat)
              case atStart => exact ⟨0, by omega, rfl, hA.congr (fun j _ => by rw [if_neg (by omega)]), hT, ⟨z0, z1, z2⟩, CF, hbel⟩
              case round =>
                clear hA hT CF z0 z1 z2 hbel hv
                obtain ⟨i, hi, rfl, hA, hT, hF, CF, hbel⟩ := hrel
                rename World => W6
                by_cases hin : i < n
                · obtain ⟨sa, xa, na, ca, ya, la, da, a1, a2, a3, a4, a5, a6, rA⟩ := hA.room hin
                  simp only [Nat.lt_irrefl, if_false] at rA
                  obtain ⟨bx, ox, ebx, sb, xb, nb, cb, yb, lb', db, b1, b2, b3, rX⟩ := (hvw.nextC hbel).get hin
                  injection ebx with ebx
                  injection ebx with ebx1 ebx2
                  subst ebx1 ebx2
                  have hbx : Below W6.heap.size W6 (W6.alloc (.cells #[.bool sb, .slice xb nb cb, .slice yb lb' db] 39)) := below_alloc _
                  have fA2 := Hf1.out i hin
                  have fX2 := HV.out k hlt i hin
                  have rA2 := (rA.toV fA2 (by omega)).next hbx
                  have rX2 := (rX.toV fX2 (by omega)).next hbx
                  have rF2 := (CF.toV ff (by omega)).next hbx
                  have hd := (Below.refl (W6.alloc (.cells #[.bool sb, .slice xb nb cb, .slice yb lb' db] 39)).heap.size (W6.alloc (.cells #[.bool sb, .slice xb nb cb, .slice yb lb' db] 39))).drew
                  have eA : E3 w.heap.size (i * 3) (.bool sa) (.slice xa na ca) (.slice ya la da) (W6.alloc (.cells #[.bool sb, .slice xb nb cb, .slice yb lb' db] 39)) := E3.next ⟨a1, a2, a3⟩ hbx
                  have lw : w.heap.size < W6.heap.size := World.block_lt_of_cell? _ _ a1
                  have hS0 : E3 w.heap.size (i * 3) (.bool sa) (.slice xa na ca) (.slice ya la da) (W6.alloc (.cells #[.bool sb, .slice xb nb cb, .slice yb lb' db] 39)).drew ∧ C3 g (.bool xs) (.slice xo xn xc) (.slice yo yn yc) (W6.alloc (.cells #[.bool sb, .slice xb nb cb, .slice yb lb' db] 39)).drew ∧ C3 W6.heap.size (.bool sb) (.slice xb nb cb) (.slice yb lb' db) (W6.alloc (.cells #[.bool sb, .slice xb nb cb, .slice yb lb' db] 39)).drew ∧ (((W6.alloc (.cells #[.bool sb, .slice xb nb cb, .slice yb lb' db] 39)).drew.frozen? ⟨w.heap.size, i * 3, none⟩ = false ∧ (W6.alloc (.cells #[.bool sb, .slice xb nb cb, .slice yb lb' db] 39)).drew.frozen? ⟨w.heap.size, i * 3 + 1, none⟩ = false ∧ (W6.alloc (.cells #[.bool sb, .slice xb nb cb, .slice yb lb' db] 39)).drew.frozen? ⟨w.heap.size, i * 3 + 2, none⟩ = false) ∧ w.heap.size < (W6.alloc (.cells #[.bool sb, .slice xb nb cb, .slice yb lb' db] 39)).drew.heap.size) := ⟨eA.next hd, (hF.next hbx).next hd, C3.next ⟨by simp [go_sem], by simp [go_sem], by simp [go_sem]⟩ hd, ⟨(((bcell hbx).2 _ _ lw).trans a4), (((bcell hbx).2 _ _ lw).trans a5), (((bcell hbx).2 _ _ lw).trans a6)⟩, Nat.lt_of_lt_of_le (Nat.lt_of_lt_of_le lw hbx.size) hd.size⟩
                  have hK : ∀ w' w'', (E3 w.heap.size (i * 3) (.bool sa) (.slice xa na ca) (.slice ya la da) w' ∧ C3 g (.bool xs) (.slice xo xn xc) (.slice yo yn yc) w' ∧ C3 W6.heap.size (.bool sb) (.slice xb nb cb) (.slice yb lb' db) w' ∧ ((w'.frozen? ⟨w.heap.size, i * 3, none⟩ = false ∧ w'.frozen? ⟨w.heap.size, i * 3 + 1, none⟩ = false ∧ w'.frozen? ⟨w.heap.size, i * 3 + 2, none⟩ = false) ∧ w.heap.size < w'.heap.size)) → Below w'.heap.size w' w'' → (E3 w.heap.size (i * 3) (.bool sa) (.slice xa na ca) (.slice ya la da) w'' ∧ C3 g (.bool xs) (.slice xo xn xc) (.slice yo yn yc) w'' ∧ C3 W6.heap.size (.bool sb) (.slice xb nb cb) (.slice yb lb' db) w'' ∧ ((w''.frozen? ⟨w.heap.size, i * 3, none⟩ = false ∧ w''.frozen? ⟨w.heap.size, i * 3 + 1, none⟩ = false ∧ w''.frozen? ⟨w.heap.size, i * 3 + 2, none⟩ = false) ∧ w.heap.size < w''.heap.size)) := fun w' w'' h hb => ⟨h.1.next hb, h.2.1.next hb, h.2.2.1.next hb, ⟨((bcell hb).2 _ _ h.2.2.2.2).trans h.2.2.2.1.1, ((bcell hb).2 _ _ h.2.2.2.2).trans h.2.2.2.1.2.1, ((bcell hb).2 _ _ h.2.2.2.2).trans h.2.2.2.1.2.2⟩, Nat.lt_of_lt_of_le h.2.2.2.2 hb.size⟩
                  have hS0' := hS0
                  obtain ⟨⟨g1, g2, g3⟩, ⟨g4, g5, g6⟩, ⟨g7, g8, g9⟩, ⟨ga, gb, gc⟩, gd⟩ := hS0'
                  have hS0 := hid hS0
                  clear rA rX eA
                  go_wp2_with fail
                  go_region_law (first
                      | (go_simp; go_at_call 68; refine (Mul_any f (RV k i) _ _ _ (rF2.next hd) (rX2.next hd) (lv K k + lv K k) ff (fX2.mono (by omega)) (by omega)).mono ?_; rintro e w6 ⟨v6, rfl, C6, hb6⟩; have hS6 := hid (hK _ _ hS0.out hb6); obtain ⟨⟨k1, k2, k3⟩, _, _, ⟨ka, kb, kc⟩, kd⟩ := hS6.out)
                      | (go_simp; go_at_call 67; refine (Sub_any ((redN RV RC pl F k).1 i) (f * RV k i) _ _ _ ((rA2.next hd).next hb6) (C6.toV (fit_mul ff fX2) (by omega)) (lv K k + lv K k + lv K k) (fA2.mono (by omega)) (fit_mul ff fX2) (by omega)).mono ?_; rintro e w7 ⟨v7, rfl, C7, hb7⟩; obtain ⟨⟨m1, m2, m3⟩, _, _, ⟨ma, mb, mc⟩, md⟩ := hK _ _ hS6.out hb7; obtain ⟨rb, ro', rn, rc', so, sn, sc, rfl⟩ := C7.shape))
                  all_goals
                    have hA7 := (((hA.next hbx).next hd).next hb6).next hb7
                    have hT7 := (((hT.next hbx).next hd).next hb6).next hb7
                    have hF7 := (((hF.next hbx).next hd).next hb6).next hb7
                    have CF7 := (((CF.next hbx).next hd).next hb6).next hb7
                    have hbel7 := below_chain (below_chain (below_chain (below_chain hbel hbx) hd) hb6) hb7
                    have hA8 := (hA7.set hin C7).congr (G := fun j => if j < i + 1 then (redN RV RC pl F k).1 j - f * RV k j else (redN RV RC pl F k).1 j) (fun j hj => by
                      by_cases hji : j = i
                      · subst hji; rw [updV_at, if_pos (by omega)]
                      · rw [updV_ne _ _ hji]
                        by_cases h1 : j < i
                        · rw [if_pos h1, if_pos (by omega)]
                        · rw [if_neg h1, if_neg (by omega)])
                    obtain ⟨xsA, hoA, _⟩ := hA7
                    have hT8 := hT7.other3 hoA (by omega) (i * 3) rb ro' rn rc' so sn sc
                    have hF8 := hF7.stored3 hoA (by omega) (i * 3) rb ro' rn rc' so sn sc
                    have CF8 := CF7.stored3 hoA (i * 3) rb ro' rn rc' so sn sc
                    have hbel8 : Below w.heap.size w _ := hbel7.trans (below_stored3 (B := w.heap.size) (w := w7) (Nat.le_refl _) (i * 3) (.bool rb) (.slice ro' rn rc') (.slice so sn sc))
                    clear hA hT hF CF hT7 hF7 CF7 hoA C6 C7
                    go_wp2_with fail
                    go_roundw
                    case rel => exact ⟨i + 1, by omega, by go_num, hA8, hT8, hF8, CF8, hbel8⟩
                    case measure => simp [intOf]; omega
                · obtain rfl : n = i := by omega
                  have hA2 : VOwn W6 w.heap.size (.slice (some ⟨w.heap.size, 0, none⟩) n n) n (redN RV RC pl F (k + 1)).1 := hA.congr (fun j hj => by
                    rw [if_pos hj]
                    show _ = (redN RV RC pl F k).1 j - redF (redN RV RC pl F k).1 ⟨RV k, RC k, pl k⟩ * RV k j
                    rw [Hf.out])
                  obtain ⟨z0, z1, z2⟩ := hF
                  obtain ⟨j0, j1, j2⟩ := hP.next hbel
                  obtain ⟨bb, ob, ebb, rb0, rbc0, u0, hvb⟩ := hB.get hlt
                  subst ebb
                  have u1 : W6.cell? ⟨bb, ob + k, none⟩ = some (.slice rb0 (k + 1) rbc0) := (World.cell?_of_block (hbel.block bb (World.block_lt_of_cell? w _ u0))).trans u0
                  clear hA
                  go_wp2_with fail
                  go_loopw [103] (fun iv wr => ∃ i : Nat, i ≤ k + 1 ∧ iv = .int .i64 i ∧ VOwn wr w.heap.size (.slice (some ⟨R2, 0, none⟩) m m) m (fun j => if j < i then (redN RV RC pl F k).2 j + f * RC k j else (redN RV RC pl F k).2 j) ∧ VOwn wr w.heap.size (.slice (some ⟨w.heap.size, 0, none⟩) n n) n (redN RV RC pl F (k + 1)).1 ∧
                    C3 g (.bool xs) (.slice xo xn xc) (.slice yo yn yc) wr ∧ RatC wr (.agg #[.bool xs, .slice xo xn xc, .slice yo yn yc]) f ∧ Below w.heap.size w wr) (fun i _ => k + 1 - (intOf i).toNat)
                  case atStart => exact ⟨0, by omega, rfl, hT.congr (fun j _ => by rw [if_neg (by omega)]), hA2, ⟨z0, z1, z2⟩, CF, hbel⟩
                  case round =>
                    clear hA2 hT CF z0 z1 z2 hbel
                    obtain ⟨i, hi, rfl, hA, hT, hF, CF, hbel⟩ := hrel
                    rename World => W7
                    by_cases hin : i < k + 1
                    · obtain ⟨sa, xa, na, ca, ya, la, da, a1, a2, a3, a4, a5, a6, rA⟩ := hA.room (show i < m by omega)
                      simp only [Nat.lt_irrefl, if_false] at rA
                      obtain ⟨bx, ox, rfl, sb, xb, nb, cb, yb, lb', db, b1, b2, b3, rX⟩ := (hvb.nextC hbel).get hin
                      have hbx : Below W7.heap.size W7 (W7.alloc (.cells #[.bool sb, .slice xb nb cb, .slice yb lb' db] 39)) := below_alloc _
                      have fA2 := Hf2.out i
                      have fX2 := HC.out k hlt i
                      have rA2 := (rA.toV fA2 (by omega)).next hbx
                      have rX2 := (rX.toV fX2 (by omega)).next hbx
                      have rF2 := (CF.toV ff (by omega)).next hbx
                      have hd := (Below.refl (W7.alloc (.cells #[.bool sb, .slice xb nb cb, .slice yb lb' db] 39)).heap.size (W7.alloc (.cells #[.bool sb, .slice xb nb cb, .slice yb lb' db] 39))).drew
                      have eA : E3 R2 (i * 3) (.bool sa) (.slice xa na ca) (.slice ya la da) (W7.alloc (.cells #[.bool sb, .slice xb nb cb, .slice yb lb' db] 39)) := E3.next ⟨a1, a2, a3⟩ hbx
                      have lw : R2 < W7.heap.size := World.block_lt_of_cell? _ _ a1
                      have hS0 : E3 R2 (i * 3) (.bool sa) (.slice xa na ca) (.slice ya la da) (W7.alloc (.cells #[.bool sb, .slice xb nb cb, .slice yb lb' db] 39)).drew ∧ C3 g (.bool xs) (.slice xo xn xc) (.slice yo yn yc) (W7.alloc (.cells #[.bool sb, .slice xb nb cb, .slice yb lb' db] 39)).drew ∧ C3 W7.heap.size (.bool sb) (.slice xb nb cb) (.slice yb lb' db) (W7.alloc (.cells #[.bool sb, .slice xb nb cb, .slice yb lb' db] 39)).drew ∧ (((W7.alloc (.cells #[.bool sb, .slice xb nb cb, .slice yb lb' db] 39)).drew.frozen? ⟨R2, i * 3, none⟩ = false ∧ (W7.alloc (.cells #[.bool sb, .slice xb nb cb, .slice yb lb' db] 39)).drew.frozen? ⟨R2, i * 3 + 1, none⟩ = false ∧ (W7.alloc (.cells #[.bool sb, .slice xb nb cb, .slice yb lb' db] 39)).drew.frozen? ⟨R2, i * 3 + 2, none⟩ = false) ∧ R2 < (W7.alloc (.cells #[.bool sb, .slice xb nb cb, .slice yb lb' db] 39)).drew.heap.size) := ⟨eA.next hd, (hF.next hbx).next hd, C3.next ⟨by simp [go_sem], by simp [go_sem], by simp [go_sem]⟩ hd, ⟨(((bcell hbx).2 _ _ lw).trans a4), (((bcell hbx).2 _ _ lw).trans a5), (((bcell hbx).2 _ _ lw).trans a6)⟩, Nat.lt_of_lt_of_le (Nat.lt_of_lt_of_le lw hbx.size) hd.size⟩
                      have hK : ∀ w' w'', (E3 R2 (i * 3) (.bool sa) (.slice xa na ca) (.slice ya la da) w' ∧ C3 g (.bool xs) (.slice xo xn xc) (.slice yo yn yc) w' ∧ C3 W7.heap.size (.bool sb) (.slice xb nb cb) (.slice yb lb' db) w' ∧ ((w'.frozen? ⟨R2, i * 3, none⟩ = false ∧ w'.frozen? ⟨R2, i * 3 + 1, none⟩ = false ∧ w'.frozen? ⟨R2, i * 3 + 2, none⟩ = false) ∧ R2 < w'.heap.size)) → Below w'.heap.size w' w'' → (E3 R2 (i * 3) (.bool sa) (.slice xa na ca) (.slice ya la da) w'' ∧ C3 g (.bool xs) (.slice xo xn xc) (.slice yo yn yc) w'' ∧ C3 W7.heap.size (.bool sb) (.slice xb nb cb) (.slice yb lb' db) w'' ∧ ((w''.frozen? ⟨R2, i * 3, none⟩ = false ∧ w''.frozen? ⟨R2, i * 3 + 1, none⟩ = false ∧ w''.frozen? ⟨R2, i * 3 + 2, none⟩ = false) ∧ R2 < w''.heap.size)) := fun w' w'' h hb => ⟨h.1.next hb, h.2.1.next hb, h.2.2.1.next hb, ⟨((bcell hb).2 _ _ h.2.2.2.2).trans h.2.2.2.1.1, ((bcell hb).2 _ _ h.2.2.2.2).trans h.2.2.2.1.2.1, ((bcell hb).2 _ _ h.2.2.2.2).trans h.2.2.2.1.2.2⟩, Nat.lt_of_lt_of_le h.2.2.2.2 hb.size⟩
                      have hS0' := hS0
                      obtain ⟨⟨g1, g2, g3⟩, ⟨g4, g5, g6⟩, ⟨g7, g8, g9⟩, ⟨ga, gb, gc⟩, gd⟩ := hS0'
                      have hS0 := hid hS0
                      clear rA rX eA
                      have him : i < m := by omega
                      go_wp2_with fail
                      go_region_law (first
                          | (go_simp; go_at_call 68; refine (Mul_any f (RC k i) _ _ _ (rF2.next hd) (rX2.next hd) (lv K k + lv K k) ff (fX2.mono (by omega)) (by omega)).mono ?_; rintro e w6 ⟨v6, rfl, C6, hb6⟩; have hS6 := hid (hK _ _ hS0.out hb6); obtain ⟨⟨k1, k2, k3⟩, _, _, ⟨ka, kb, kc⟩, kd⟩ := hS6.out)
                          | (go_simp; go_at_call 61; refine (Add_any ((redN RV RC pl F k).2 i) (f * RC k i) _ _ _ ((rA2.next hd).next hb6) (C6.toV (fit_mul ff fX2) (by omega)) (lv K k + lv K k + lv K k) (fA2.mono (by omega)) (fit_mul ff fX2) (by omega)).mono ?_; rintro e w7 ⟨v7, rfl, C7, hb7⟩; obtain ⟨⟨m1, m2, m3⟩, _, _, ⟨ma, mb, mc⟩, md⟩ := hK _ _ hS6.out hb7; obtain ⟨rb, ro', rn, rc', so, sn, sc, rfl⟩ := C7.shape))
                      all_goals
                        have hA7 := (((hA.next hbx).next hd).next hb6).next hb7
                        have hT7 := (((hT.next hbx).next hd).next hb6).next hb7
                        have hF7 := (((hF.next hbx).next hd).next hb6).next hb7
                        have CF7 := (((CF.next hbx).next hd).next hb6).next hb7
                        have hbel7 := below_chain (below_chain (below_chain (below_chain hbel hbx) hd) hb6) hb7
                        have hA8 := (hA7.set (show i < m by omega) C7).congr (G := fun j => if j < i + 1 then (redN RV RC pl F k).2 j + f * RC k j else (redN RV RC pl F k).2 j) (fun j hj => by
                          by_cases hji : j = i
                          · subst hji; rw [updV_at, if_pos (by omega)]
                          · rw [updV_ne _ _ hji]
                            by_cases h1 : j < i
                            · rw [if_pos h1, if_pos (by omega)]
                            · rw [if_neg h1, if_neg (by omega)])
                        obtain ⟨xsA, hoA, _⟩ := hA7
                        have hT8 := hT7.other3 hoA (by omega) (i * 3) rb ro' rn rc' so sn sc
                        have hF8 := hF7.stored3 hoA hgR (i * 3) rb ro' rn rc' so sn sc
                        have CF8 := CF7.stored3 hoA (i * 3) rb ro' rn rc' so sn sc
                        have hbel8 : Below w.heap.size w _ := hbel7.trans (below_stored3 (B := w.heap.size) (w := w7) (g := R2) (by omega) (i * 3) (.bool rb) (.slice ro' rn rc') (.slice so sn sc))
                        clear hA hT hF CF hT7 hF7 CF7 hoA C6 C7
                        go_wp2_with fail
                        go_roundw
                        case rel => exact ⟨i + 1, by omega, by go_num, hA8, hT8, hF8, CF8, hbel8⟩
                        case measure => simp [intOf]; omega
                    · obtain rfl : i = k + 1 := by omega
                      have hT2 : VOwn W7 w.heap.size (.slice (some ⟨R2, 0, none⟩) m m) m (redN RV RC pl F (k + 1)).2 := hA.congr (fun j hj => by
                        show _ = (redN RV RC pl F k).2 j + redF (redN RV RC pl F k).1 ⟨RV k, RC k, pl k⟩ * RC k j
                        rw [Hf.out]
                        by_cases h1 : j < k + 1
                        · rw [if_pos h1]
                        · rw [if_neg h1, HC0.out k hlt j (by omega)]; grind)
                      clear hA hF CF
                      go_wp2_with fail
                      go_roundw
                      case rel => exact ⟨k + 1, by omega, by go_num, hT, hT2, hbel⟩
                      case measure => simp [intOf]; omega
        · obtain rfl : k = m := by omega
          go_wp2_with fail
          go_ret2
          exact ⟨w.heap.size, R2, rfl, by omega, hA, hT, hbel⟩

end Go.Proofs.Ytcoidofchofljaa

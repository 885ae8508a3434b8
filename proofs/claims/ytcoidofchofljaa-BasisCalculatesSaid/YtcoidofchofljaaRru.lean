/-
  The contracts of the reference's Coordinates and Insert. No condition but sizes.
-/
import Derived.Test.YtcoidofchofljaaRrt
namespace Go.Proofs.Ytcoidofchofljaa
open Go.RowKit
set_option linter.unusedSimpArgs false
set_option linter.unusedVariables false

theorem basisB_true {m : Nat} {L : Nat → Nat} {F : Nat → V} (h : basisB m L F = true) : OkL m L ∧ ∃ st, rowsK (L 0) F m = some st := by
  unfold basisB at h
  simp only [decide_eq_true_eq, Option.isSome_iff_exists] at h
  exact h
theorem basisB_false {m : Nat} {L : Nat → Nat} {F : Nat → V} (h : basisB m L F = false) : OkL m L → rowsK (L 0) F m = none := by
  intro hok
  unfold basisB at h
  rw [decide_eq_false_iff_not] at h
  cases hc : rowsK (L 0) F m with
  | none => rfl
  | some st => exact absurd ⟨hok, by simp [hc]⟩ h

/-- Rows of fitting vectors. -/
theorem rows_fits {m n : Nat} {L : Nat → Nat} {F : Nat → V} {st : List Row} (hr : rowsK (L 0) F m = some st) (hf : fitsB m L n = true) : rowsK n F m = some st := by
  rcases (fitsB_spec hf).2 with rfl | rfl
  · simp [rowsK] at hr ⊢; exact hr
  · exact hr
theorem rowsK_fit {K n : Nat} {F : Nat → V} (hK : 1 ≤ K) : ∀ {k : Nat} {st : List Row}, rowsK n F k = some st → (∀ i, i < k → ∀ j, j < n → Fit K (F i j)) → RFit K n st := by
  intro k
  induction k with
  | zero => intro st h _; simp [rowsK] at h; subst h; exact RFit.nil K n
  | succ k ih =>
    intro st h hF
    simp only [rowsK, Option.bind_eq_some_iff, Option.map_eq_some_iff] at h
    obtain ⟨s, hs, r, hr, rfl⟩ := h
    exact (ih hs fun i hi => hF i (by omega)).snoc hK (hF k (by omega)) hr

set_option maxHeartbeats 4000000 in
theorem rCoordinates_any (K : Nat) (ao : Option Addr) (m cap : Nat) (L : Nat → Nat) (F : Nat → V) (bo : Option Addr) (n cap' : Nat) (G : V) (w : World) (h : Mat RatV w ao m cap L F) (h' : Vec RatV w bo n cap' G) (hm : m ≤ 64) (hL : ∀ i, i < m → L i ≤ 100000) (hn : n ≤ 1000) (hK : 1 ≤ K)
    (hF : ∀ i, i < m → ∀ j, j < L i → Fit K (F i j)) (hG : ∀ j, j < n → Fit K (G j)) (hbig : lv K m ≤ 500000) :
    Calls Try.prog 22 #[.slice ao m cap, .slice bo n cap'] w (CoOut w m L F n G) := by
  have hmb := h.bound
  have hchk := hid (check_any K ao m cap L F bo n cap' w h hm hL (by omega) hK hF hbig)
  cases hb : basisB m L F with
  | false =>
    have hres : Hid (chkI m L F n = 4) := hid (by unfold chkI; rw [hb]; rfl)
    have hno := hid (basisB_false hb)
    rw [hres.out] at hchk
    clear hb hL hF hG
    go_enter Try.func22, Try.ntmps22
    go_wp2_with fail
    refine hchk.out.mono ?_; rintro e w1 ⟨rfl, hb1⟩
    go_wp2_with fail
    go_ret3
    exact .inl ⟨hno.out, rfl, hb1⟩
  | true =>
    obtain ⟨hok, st, hst⟩ := basisB_true hb
    cases hfb : fitsB m L n with
    | false =>
      have hres : Hid (chkI m L F n = 1) := hid (by unfold chkI; rw [hb, hfb]; rfl)
      have Hok := hid hok
      have Hst := hid hst
      have Hfb := hid hfb
      rw [hres.out] at hchk
      clear hb hL hF hG hok hst hfb
      go_enter Try.func22, Try.ntmps22
      go_wp2_with fail
      refine hchk.out.mono ?_; rintro e w1 ⟨rfl, hb1⟩
      go_wp2_with fail
      go_ret3
      exact .inr (.inl ⟨st, ⟨Hok.out, Hst.out⟩, Hfb.out, rfl, hb1⟩)
    | true =>
      have hres : Hid (chkI m L F n = 0) := hid (by unfold chkI; rw [hb, hfb]; rfl)
      rw [hres.out] at hchk
      have hst2 := rows_fits hst hfb
      have hLn : ∀ i, i < m → L i = n := fun i hi => by
        rw [(hok i hi).2]
        rcases (fitsB_spec hfb).2 with h0 | h0
        · omega
        · exact h0.symm
      have h3 : Mat RatV w ao m cap (fun _ => n) F := h.lens hLn
      have hF3 : ∀ i, i < m → ∀ j, j < n → Fit K (F i j) := fun i hi j hj => hF i hi j (by rw [hLn i hi]; exact hj)
      have hrows := hid (fun (x : World) (hx : Below w.heap.size w x) => rows_any K ao m cap n F x (h3.nextV hx) (by omega) hn hK hF3 hbig)
      have hfit := hid (rowsK_fit hK hst2 hF3)
      have hlen := rowsK_len hst2
      have hgood := hid (rowsK_good hst2)
      have hred := hid (fun (x : World) (lo : Option Addr) (lc : Nat) (hx : Below w.heap.size w x) (hR : RMat x lo m lc n m (rv st) (rcf st)) => rreduce_any m n m K (rv st) (rcf st) (rpl st) G lo lc bo cap' x hR (h'.nextV hx) hn (by omega) (by omega) hK hG (fun j hj i hi => hfit.out.v j (by omega) i hi) (fun j hj i => hfit.out.c j (by omega) i) (fun j hj => hgood.out.lead j (by omega)) hbig)
      have hall := redN_all st G
      rw [hlen] at hall
      rw [hall] at hred
      obtain ⟨f1, f2⟩ := hfit.out.red hK hG
      have f1 := hid f1
      have f2 := hid f2
      rw [hlen] at f1 f2
      have Hok := hid hok
      have Hst := hid hst2
      have Hfb := hid hfb
      clear hb hL hF hG hok hst hfb hst2 hLn hF3 hlen hall
      go_enter Try.func22, Try.ntmps22
      go_wp2_with fail
      refine hchk.out.mono ?_; rintro e w1 ⟨rfl, hb1⟩
      go_wp2_with fail
      refine (hrows.out w1 hb1).mono ?_; rintro e w2 (⟨st', v, hr, rfl, hown, hb2⟩ | ⟨hr, _, _⟩)
      case inr => rw [Hst.out] at hr; cases hr
      rw [Hst.out] at hr
      injection hr with hr
      subst hr
      have hbel2 := below_chain hb1 hb2
      obtain ⟨lo, lc, rfl, hmat⟩ := hown.mat
      clear hown
      go_wp2_with fail
      refine (hred.out w2 lo lc hbel2 hmat).mono ?_; rintro e w3 ⟨g1, c1, g2, c2, rfl, hv, ho, _, hb3⟩
      have hbel3 := below_chain hbel2 hb3
      have hba : Below w3.heap.size w3 (w3.alloc (.cells #[.slice g1 n c1, .slice g2 m c2] 69)) := below_alloc _
      have hv4 := (hv.toV f1.out (by omega)).nextV hba
      have hT : Vec RatC w3 g2 m c2 (fun i => - (red st G).2 i) := by
        obtain ⟨uo, uc, e, hvec⟩ := ho.vec
        injection e with e1 _ e2
        subst e1 e2
        exact hvec
      have hT4 := (hT.toV (fun i _ => fit_neg (f2.out i)) (by omega)).nextV hba
      have hR : C2 w3.heap.size (.slice g1 n c1) (.slice g2 m c2) (w3.alloc (.cells #[.slice g1 n c1, .slice g2 m c2] 69)) := ⟨by simp [go_sem], by simp [go_sem]⟩
      have hbel4 := below_chain hbel3 hba
      clear hv ho hT hmat
      cases hld : leadOf n (red st G).1 with
      | some p =>
        have hli := hid (leadI_of hld)
        have Hld := hid hld
        clear hld
        go_wp2_with fail
        refine (refLead_any _ _ _ _ _ hv4).mono ?_; rw [hli.out]; rintro e w5 ⟨rfl, hb5⟩
        have hbel5 := below_chain hbel4 hb5
        go_wp2_with fail
        go_ret3
        exact .inr (.inr (.inl ⟨st, p, ⟨Hok.out, Hst.out⟩, Hfb.out, Hld.out, rfl, hbel5⟩))
      | none =>
        have hli := hid (leadI_no (leadOf_none hld))
        have Hld := hid hld
        clear hld
        go_wp2_with fail
        refine (refLead_any _ _ _ _ _ hv4).mono ?_; rw [hli.out]; rintro e w5 ⟨rfl, hb5⟩
        have hbel5 := below_chain hbel4 hb5
        have hT5 := hT4.nextV hb5
        have hR5 := hR.next hb5
        have hz5 : w.heap.size ≤ w5.heap.size := hbel5.size
        clear hR hT4 hv4
        go_wp2_with fail
        go_loopw [12, 11] (fun iv ov wr => ∃ i : Nat, i ≤ m ∧ iv = .int .i64 i ∧ VOwn wr w5.heap.size ov i (red st G).2 ∧ Below w5.heap.size w5 wr) (fun i _ _ => m - (intOf i).toNat)
        case atStart => exact ⟨0, by omega, rfl, VOwn.nil _ _ _, Below.refl _ _⟩
        case round =>
          obtain ⟨i, hi, rfl, hown, hbelx⟩ := hrel
          obtain ⟨r0, r1⟩ := hR5.next hbelx
          by_cases hlt : i < m
          · obtain ⟨b, o, rfl, s, xo, xn, xc, yo, yn, yc, t1, t2, t3, hr⟩ := (hT5.nextV hbelx).get hlt
            go_wp2_with fail
            refine (rNeg_any (- (red st G).2 i) _ _ hr).mono ?_; rintro e w7 ⟨v7, rfl, C7, hb7⟩
            rw [Rat.neg_neg] at C7
            have hbel7 := below_chain hbelx hb7
            have hown2 := hown.next hb7
            obtain ⟨rb, ro, rn, rc, so, sn, sc, rfl⟩ := C7.shape
            have C3' := C7.next (below_alloc (.cells #[.bool rb, .slice ro rn rc, .slice so sn sc] 39))
            have hown3 := hown2.next (below_alloc (.cells #[.bool rb, .slice ro rn rc, .slice so sn sc] 39))
            have hc3 : C3 w7.heap.size (.bool rb) (.slice ro rn rc) (.slice so sn sc) (w7.alloc (.cells #[.bool rb, .slice ro rn rc, .slice so sn sc] 39)) := ⟨by simp [go_sem], by simp [go_sem], by simp [go_sem]⟩
            clear hown hown2 C7 t1 t2 t3 hr
            go_wp2_with (at_builtin; go_loud (refine wp_appV rfl (.tmp 40) (.tmp 47) rfl w5.heap.size _ i (red st G).2 rfl hown3 w7.heap.size 1 rfl rb ro rn rc so sn sc hc3 ((red st G).2 i) C3' (by omega) (by have := hbel7.size; simp only [World.size_alloc]; omega) ?_))
            intro v' w8 hown8 hg8 hb8 _
            have hbel8 : Below w5.heap.size w5 w8 := (hbel7.alloc hbel7.size _).trans hb8
            have hown9 : VOwn w8 w5.heap.size v' (i + 1) (red st G).2 := hown8.congr (fun j hj => by
              by_cases hji : j = i
              · subst hji; rw [updV_at]
              · rw [updV_ne _ _ hji])
            clear hown8
            go_wp2_with fail
            go_roundw
            case rel => exact ⟨i + 1, by omega, by go_num, hown9, hbel8⟩
            case measure => simp [intOf]; omega
          · obtain rfl : i = m := by omega
            have hbelz : Below w.heap.size w _ := hbel5.trans (hbelx.mono hz5)
            have hown2 := hown.mono hz5
            clear hown
            go_wp2_with fail
            go_ret3
            exact .inr (.inr (.inr ⟨st, _, ⟨Hok.out, Hst.out⟩, Hfb.out, Hld.out, rfl, hown2, hbelz⟩))

set_option maxHeartbeats 4000000 in
theorem rInsert_any (K : Nat) (ao : Option Addr) (m cap : Nat) (L : Nat → Nat) (F : Nat → V) (bo : Option Addr) (n cap' : Nat) (G : V) (w : World) (h : Mat RatV w ao m cap L F) (h' : Vec RatV w bo n cap' G) (hm : m ≤ 64) (hL : ∀ i, i < m → L i ≤ 100000) (hn : n ≤ 1000) (hK : 1 ≤ K)
    (hF : ∀ i, i < m → ∀ j, j < L i → Fit K (F i j)) (hG : ∀ j, j < n → Fit K (G j)) (hbig : lv K m ≤ 500000) :
    Calls Try.prog 23 #[.slice ao m cap, .slice bo n cap'] w (InOut w m L F n G) := by
  have hmb := h.bound
  have hco := hid (rCoordinates_any K ao m cap L F bo n cap' G w h h' hm hL hn hK hF hG hbig)
  have HL := hid hL
  clear hL hF hG
  go_enter Try.func23, Try.ntmps23
  go_wp2_with fail
  refine hco.out.mono ?_; rintro e w1 (⟨hno, rfl, hb⟩ | ⟨st, hst, hfb, rfl, hb⟩ | ⟨st, p, hst, hfb, hld, rfl, hb⟩ | ⟨st, v, hst, hfb, hld, rfl, hown, hb⟩)
  · have Hno := hid hno
    clear hno
    go_wp2_with fail
    go_ret3
    exact .inl ⟨Hno.out, rfl, hb⟩
  · have Hst := hid hst
    have Hfb := hid hfb
    clear hst hfb
    go_wp2_with fail
    go_ret3
    exact .inr (.inl ⟨st, Hst.out, Hfb.out, rfl, hb⟩)
  · have Hst := hid hst
    have Hfb := hid hfb
    have hadd : Hid (addV n st G = some (rowOf st.length (red st G) p)) := hid (by unfold addV; rw [hld]; rfl)
    have h1 := h.nextV hb
    clear hst hfb hld
    go_wp2_with fail
    refine (rcopied_any ao m cap L F _ h1 (by omega) HL.out).mono ?_; rintro e w2 ⟨v2, rfl, hown2, hb2⟩
    have v3 := (h'.nextV hb).nextV hb2
    have hbel2 := below_chain hb hb2
    go_wp2_with fail
    refine (take_any bo n cap' G _ v3 (by omega)).mono ?_; rintro e w4 ⟨v4, rfl, hown4, hb4⟩
    have hbel4 := below_chain hbel2 hb4
    obtain ⟨so, sc, rfl, hvec⟩ := hown4.vec
    have hownA := (hown2.mono hb.size).next hb4
    have hownB := hownA.next (below_alloc (.cells #[.slice so n sc] 30))
    have hvecB := hvec.nextC (below_alloc (.cells #[.slice so n sc] 30))
    have hcl : (w4.alloc (.cells #[.slice so n sc] 30)).cell? ⟨w4.heap.size, 0, none⟩ = some (.slice so n sc) := by simp [go_sem]
    clear hown2 hown4 hownA hvec
    go_wp2_with (at_builtin; go_loud (refine wp_appM rfl (.tmp 25) (.tmp 28) rfl w.heap.size _ m L F rfl hownB w4.heap.size 1 rfl so n sc hcl G hvecB (by omega) (by have := hbel4.size; simp only [World.size_alloc]; omega) ?_))
    intro v' w7 hown7 hg7 hb7 _
    have hbel7 : Below w.heap.size w w7 := (hbel4.alloc hbel4.size _).trans hb7
    go_wp2_with fail
    go_ret3
    exact .inr (.inr (.inr ⟨st, _, v', Hst.out, Hfb.out, hadd.out, rfl, hown7, hbel7⟩))
  · have Hst := hid hst
    have Hfb := hid hfb
    have hadd : Hid (addV n st G = none) := hid (by unfold addV; rw [hld]; rfl)
    have h1 := h.nextV hb
    clear hst hfb hld hown
    go_wp2_with fail
    refine (rcopied_any ao m cap L F _ h1 (by omega) HL.out).mono ?_; rintro e w2 ⟨v2, rfl, hown2, hb2⟩
    have hbel2 := below_chain hb hb2
    have hown3 := hown2.mono hb.size
    clear hown2
    go_wp2_with fail
    go_ret3
    exact .inr (.inr (.inl ⟨st, v2, Hst.out, Hfb.out, hadd.out, rfl, hown3, hbel2⟩))

end Go.Proofs.Ytcoidofchofljaa

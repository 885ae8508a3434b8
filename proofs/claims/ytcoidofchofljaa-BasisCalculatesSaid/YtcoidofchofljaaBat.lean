/-
  The contracts of basis.Coordinates and Insert. No condition but sizes.
-/
import Derived.Test.YtcoidofchofljaaBas
namespace Go.Proofs.Ytcoidofchofljaa
open Go.RowKit
set_option linter.unusedSimpArgs false
set_option linter.unusedVariables false

theorem Sp.nilN {w : World} {lo P n : Nat} {T : Nat → Prop} (n' : Nat) (h : Sp w lo P T n []) : Sp w lo P T n' [] := by
  obtain ⟨vr, vb, vp, h1, ⟨xs, h2, _⟩, h3⟩ := h
  exact ⟨vr, vb, vp, h1, ⟨xs, h2, fun i hi => by simp at hi⟩, h3⟩

theorem Sp.fr {w w' : World} {lo P n : Nat} {T T2 : Nat → Prop} {st : List Row} (h : Sp w lo P T n st) (hs : Srt T2 w) (hf : Fr T2 w w') (hd : ∀ b, T b → ¬ T2 b) : Sp w' lo P T n st := by
  obtain ⟨vr, vb, vp, h1, h2, h3, h4, h5, h6⟩ := h
  refine ⟨vr, vb, vp, h1.fr hf fun g hg => ?_, h2.fr hs hf fun g hg => hd g ((h5 g).2 (.inr (.inl hg))), h3.fr hs hf fun g hg => hd g ((h5 g).2 (.inr (.inr (.inl hg)))), h4.fr hf fun g hg => hd g ((h5 g).2 (.inr (.inr (.inr hg)))), h5, h6⟩
  simp only [Value.ownBlock, Option.some.injEq] at hg
  subst hg
  exact hd P ((h5 P).2 (.inl rfl))

theorem fitsB_spec {m n : Nat} {L : Nat → Nat} (h : fitsB m L n = true) : (1 ≤ n ∧ n ≤ 64) ∧ (m = 0 ∨ n = L 0) := of_decide_eq_true h

/-- A space that fits. -/
theorem Sp.fits {w : World} {lo P K m n : Nat} {T : Nat → Prop} {L : Nat → Nat} {F : Nat → V} {st : List Row} (h : Sp w lo P T (L 0) st) (hr : rowsK (L 0) F m = some st) (hfit : RFit K (L 0) st) (hf : fitsB m L n = true) : Sp w lo P T n st ∧ RFit K n st ∧ rowsK n F m = some st := by
  rcases (fitsB_spec hf).2 with rfl | rfl
  · simp [rowsK] at hr
    subst hr
    exact ⟨h.nilN n, RFit.nil K n, rfl⟩
  · exact ⟨h, hfit, hr⟩

/-- What Coordinates returns. -/
def CoOut (w : World) (m : Nat) (L : Nat → Nat) (F : Nat → V) (n : Nat) (G : V) (e : Ending) (w' : World) : Prop :=
  ((OkL m L → rowsK (L 0) F m = none) ∧ e = .returned (.tuple #[.slice none 0 0, .bool false, .int .i64 4]) ∧ Below w.heap.size w w') ∨
  (∃ st, (OkL m L ∧ rowsK (L 0) F m = some st) ∧ fitsB m L n = false ∧ e = .returned (.tuple #[.slice none 0 0, .bool false, .int .i64 1]) ∧ Below w.heap.size w w') ∨
  (∃ st p, (OkL m L ∧ rowsK n F m = some st) ∧ fitsB m L n = true ∧ leadOf n (red st G).1 = some p ∧ e = .returned (.tuple #[.slice none 0 0, .bool false, .int .i64 0]) ∧ Below w.heap.size w w') ∨
  (∃ st v, (OkL m L ∧ rowsK n F m = some st) ∧ fitsB m L n = true ∧ leadOf n (red st G).1 = none ∧ e = .returned (.tuple #[v, .bool true, .int .i64 0]) ∧ VOwn w' w.heap.size v m (red st G).2 ∧ Below w.heap.size w w')

set_option maxHeartbeats 2000000 in
theorem Coordinates_any (K : Nat) (ao : Option Addr) (m cap : Nat) (L : Nat → Nat) (F : Nat → V) (bo : Option Addr) (n cap' : Nat) (G : V) (w : World) (h : Mat RatV w ao m cap L F) (h' : Vec RatV w bo n cap' G) (hm : m ≤ 1000) (hL : ∀ i, i < m → L i ≤ 100000) (hL0 : L 0 ≤ 100000) (hn : n ≤ 1000) (hK : 1 ≤ K)
    (hF : ∀ i, i < m → ∀ j, j < L i → Fit K (F i j)) (hG : ∀ j, j < n → Fit K (G j)) (hbig : lv K m ≤ 1000000) :
    Calls Try.prog 11 #[.slice ao m cap, .slice bo n cap'] w (CoOut w m L F n G) := by
  have hsp := hid (space_any K ao m cap L F w h hm hL hK hF hbig)
  have HG := hid hG
  clear hF hL hG
  go_enter Try.func11, Try.ntmps11
  go_wp2_with fail
  refine hsp.out.mono ?_; rintro e w1 (⟨P, T, st, hst, rfl, hs, hfit, hb⟩ | ⟨hno, rfl, hb⟩)
  · have Hst := hid hst
    have Hfit := hid hfit
    have h1 := h.nextV hb
    have v1 := h'.nextV hb
    clear hst hfit
    go_wp2_with fail
    refine (fits_any RatV ao m cap L F bo n cap' w1 h1 (by omega) (by omega)).mono ?_
    cases hfb : fitsB m L n with
    | false =>
      have Hfb := hid hfb
      clear hfb
      rintro e w2 ⟨rfl, rfl⟩
      go_wp2_with fail
      go_ret3
      exact .inr (.inl ⟨st, Hst.out, Hfb.out, rfl, hb⟩)
    | true =>
      have Hfb := hid hfb
      obtain ⟨hs2, hfit2, hr2⟩ := hs.fits Hst.out.2 Hfit.out hfb
      have Hr2 := hid hr2
      have hlen := rowsK_len hr2
      have hst3 : st.length ≤ 1000 := by rw [hlen]; exact hm
      have hbk : lv K st.length ≤ 1000000 := by rw [hlen]; exact hbig
      have Hlen := hid hlen
      clear hfb hr2 hlen hs
      rintro e w2 ⟨rfl, rfl⟩
      cases hld : leadOf n (red st G).1 with
      | none =>
        have Hld := hid hld
        clear hld
        go_wp2_with fail
        refine (find_yes _ P n K T st G bo cap' _ hs2 v1 hn hK HG.out hfit2 hst3 hbk Hld.out).mono ?_; rintro e w3 ⟨v, rfl, hv, hb3⟩
        have hbel := below_chain hb hb3
        have hv2 := hv.mono hb.size
        rw [Hlen.out] at hv2
        clear hv
        go_wp2_with fail
        go_ret3
        exact .inr (.inr (.inr ⟨st, v, ⟨Hst.out.1, Hr2.out⟩, Hfb.out, Hld.out, rfl, hv2, hbel⟩))
      | some p =>
        have Hld := hid hld
        clear hld
        go_wp2_with fail
        refine (find_no _ P n K T st G bo cap' _ hs2 v1 hn hK HG.out hfit2 hst3 hbk Hld.out).mono ?_; rintro e w3 ⟨rfl, hb3⟩
        have hbel := below_chain hb hb3
        go_wp2_with fail
        go_ret3
        exact .inr (.inr (.inl ⟨st, p, ⟨Hst.out.1, Hr2.out⟩, Hfb.out, Hld.out, rfl, hbel⟩))
  · have Hno := hid hno
    clear hno
    go_wp2_with fail
    go_ret3
    exact .inl ⟨Hno.out, rfl, hb⟩

/-- What Insert returns. -/
def InOut (w : World) (m : Nat) (L : Nat → Nat) (F : Nat → V) (n : Nat) (G : V) (e : Ending) (w' : World) : Prop :=
  ((OkL m L → rowsK (L 0) F m = none) ∧ e = .returned (.tuple #[.slice none 0 0, .bool false, .int .i64 4]) ∧ Below w.heap.size w w') ∨
  (∃ st, (OkL m L ∧ rowsK (L 0) F m = some st) ∧ fitsB m L n = false ∧ e = .returned (.tuple #[.slice none 0 0, .bool false, .int .i64 1]) ∧ Below w.heap.size w w') ∨
  (∃ st v, (OkL m L ∧ rowsK n F m = some st) ∧ fitsB m L n = true ∧ addV n st G = none ∧ e = .returned (.tuple #[v, .bool false, .int .i64 0]) ∧ MOwn w' w.heap.size v m L F ∧ Below w.heap.size w w') ∨
  (∃ st r v, (OkL m L ∧ rowsK n F m = some st) ∧ fitsB m L n = true ∧ addV n st G = some r ∧ e = .returned (.tuple #[v, .bool true, .int .i64 0]) ∧ MOwn w' w.heap.size v (m + 1) (updN L m n) (updF F m G) ∧ Below w.heap.size w w')

set_option maxHeartbeats 4000000 in
theorem Insert_any (K : Nat) (ao : Option Addr) (m cap : Nat) (L : Nat → Nat) (F : Nat → V) (bo : Option Addr) (n cap' : Nat) (G : V) (w : World) (h : Mat RatV w ao m cap L F) (h' : Vec RatV w bo n cap' G) (hm : m ≤ 1000) (hL : ∀ i, i < m → L i ≤ 100000) (hL0 : L 0 ≤ 100000) (hn : n ≤ 1000) (hK : 1 ≤ K)
    (hF : ∀ i, i < m → ∀ j, j < L i → Fit K (F i j)) (hG : ∀ j, j < n → Fit K (G j)) (hbig : lv K m ≤ 1000000) (hK6 : K ≤ 1000000) :
    Calls Try.prog 18 #[.slice ao m cap, .slice bo n cap'] w (InOut w m L F n G) := by
  have hsp := hid (space_any K ao m cap L F w h hm hL hK hF hbig)
  have HG := hid hG
  have HF := hid hF
  have HL := hid hL
  clear hF hL hG
  go_enter Try.func18, Try.ntmps18
  go_wp2_with fail
  refine hsp.out.mono ?_; rintro e w1 (⟨P, T, st, hst, rfl, hs, hfit, hb⟩ | ⟨hno, rfl, hb⟩)
  · have Hst := hid hst
    have Hfit := hid hfit
    have h1 := h.nextV hb
    have v1 := h'.nextV hb
    clear hst hfit
    go_wp2_with fail
    refine (fits_any RatV ao m cap L F bo n cap' w1 h1 (by omega) (by omega)).mono ?_
    cases hfb : fitsB m L n with
    | false =>
      have Hfb := hid hfb
      clear hfb
      rintro e w2 ⟨rfl, rfl⟩
      go_wp2_with fail
      go_ret3
      exact .inr (.inl ⟨st, Hst.out, Hfb.out, rfl, hb⟩)
    | true =>
      have Hfb := hid hfb
      obtain ⟨hs2, hfit2, hr2⟩ := hs.fits Hst.out.2 Hfit.out hfb
      have Hr2 := hid hr2
      have hlen := rowsK_len hr2
      have hst3 : st.length ≤ 1000 := by rw [hlen]; exact hm
      have hbk : lv K st.length ≤ 1000000 := by rw [hlen]; exact hbig
      clear hfb hr2 hlen hs
      rintro e w2 ⟨rfl, rfl⟩
      go_wp2_with fail
      go_loopw [26, 4] (fun iv ov wr => ∃ k : Nat, k ≤ m ∧ iv = .int .i64 k ∧ MOwn wr w1.heap.size ov k L F ∧ Below w1.heap.size w1 wr) (fun i _ _ => m - (intOf i).toNat)
      case atStart => exact ⟨0, by omega, rfl, MOwn.nil _ _ _ _, Below.refl _ _⟩
      case round =>
        obtain ⟨k, hk, rfl, hown, hbel⟩ := hrel
        by_cases hlt : k < m
        · obtain ⟨b, o, rfl, ro, rc, hcell, hv⟩ := (h1.nextV hbel).get hlt
          have hlk := HL.out k hlt
          have hfk := HF.out k hlt
          obtain ⟨lk, hlk2⟩ : ∃ lk, L k = lk := ⟨_, rfl⟩
          rw [hlk2] at hcell hv hlk hfk
          have Hlk := hid hlk2
          have Hfk := hid hfk
          clear hlk2 hfk
          go_wp2_with fail
          refine (copied_any _ lk _ (F k) _ hv hlk K Hfk.out hK6).mono ?_; rintro e w3 ⟨v2, rfl, hown2, hb2⟩
          have hbel2 := below_chain hbel hb2
          obtain ⟨so, sc, rfl, hvec⟩ := hown2.vec
          have hownA := hown.next hb2
          have hownB := hownA.next (below_alloc (.cells #[.slice so lk sc] 30))
          have hvecB := hvec.nextC (below_alloc (.cells #[.slice so lk sc] 30))
          have hcl : (w3.alloc (.cells #[.slice so lk sc] 30)).cell? ⟨w3.heap.size, 0, none⟩ = some (.slice so lk sc) := by simp [go_sem]
          clear hown hown2 hownA hvec
          go_wp2_with (at_builtin; go_loud (refine wp_appM rfl (.tmp 30) (.tmp 33) rfl w1.heap.size _ k L F rfl hownB w3.heap.size 1 rfl so lk sc hcl (F k) hvecB (by omega) (by have := hbel2.size; simp only [World.size_alloc]; omega) ?_))
          intro v' w4 hown4 hg4 hb4 _
          have hbel4 : Below w1.heap.size w1 w4 := (hbel2.alloc hbel2.size _).trans hb4
          have hown5 : MOwn w4 w1.heap.size v' (k + 1) L F := hown4.congr (fun i hi => by
            unfold updN; by_cases hik : i = k
            · rw [if_pos hik, hik]; exact Hlk.out.symm
            · rw [if_neg hik]) (fun i hi j hj => by
            unfold updF; by_cases hik : i = k
            · rw [if_pos hik, hik]
            · rw [if_neg hik])
          clear hown4
          go_wp2_with fail
          go_roundw
          case rel => exact ⟨k + 1, by omega, by go_num, hown5, hbel4⟩
          case measure => simp [intOf]; omega
        · obtain rfl : m = k := by omega
          have hs3 := hs2.next hbel
          have v3 := v1.nextV hbel
          have hbel2 := below_chain hb hbel
          cases hadd : addV n st G with
          | none =>
            have Hadd := hid hadd
            clear hadd
            go_wp2_with fail
            refine (add_no _ P n K T st G bo cap' _ hs3 v3 hn hK HG.out hfit2 hst3 hbk Hadd.out).mono ?_; rintro e w5 ⟨rfl, hb5⟩
            have hown5 := (hown.next hb5).mono hb.size
            have hbel5 := below_chain hbel2 hb5
            clear hown
            go_wp2_with fail
            go_ret3
            exact .inr (.inr (.inl ⟨st, _, ⟨Hst.out.1, Hr2.out⟩, Hfb.out, Hadd.out, rfl, hown5, hbel5⟩))
          | some r =>
            have Hadd := hid hadd
            clear hadd
            go_wp2_with fail
            refine (add_yes _ P n K T st G bo cap' _ hs3 v3 hn hK HG.out hfit2 hst3 hbk Hadd.out).mono ?_; rintro e w5 ⟨rfl, T', _, _, hfr⟩
            have hown5 : MOwn w5 w1.heap.size _ m L F := hown.fr hs3.srt hfr (fun g hg hT => by
              obtain ⟨xs, ho, _⟩ := hown
              have l1 := (ho.lt hg).1
              have l2 := (hs2.range hT).2
              omega)
            have hbel5 : Below w.heap.size w w5 := hbel2.trans (hfr.below (fun b hb => (hs3.range hb).1) hbel2.size)
            have v5 := h'.nextV hbel5
            clear hown
            go_wp2_with fail
            refine (copied_any _ n _ G _ v5 (by omega) K HG.out hK6).mono ?_; rintro e w6 ⟨v6, rfl, hown6, hb6⟩
            have hbel6 := below_chain hbel5 hb6
            obtain ⟨so, sc, rfl, hvec⟩ := hown6.vec
            have hownA := hown5.next hb6
            have hownB := hownA.next (below_alloc (.cells #[.slice so n sc] 30))
            have hvecB := hvec.nextC (below_alloc (.cells #[.slice so n sc] 30))
            have hcl : (w6.alloc (.cells #[.slice so n sc] 30)).cell? ⟨w6.heap.size, 0, none⟩ = some (.slice so n sc) := by simp [go_sem]
            have hz6 : w1.heap.size ≤ w6.heap.size := by have := hbel.size; have := hfr.size; have := hb6.size; omega
            clear hown5 hown6 hownA hvec
            go_wp2_with (at_builtin; go_loud (refine wp_appM rfl (.tmp 39) (.tmp 42) rfl w1.heap.size _ m L F rfl hownB w6.heap.size 1 rfl so n sc hcl G hvecB (by omega) (by simp only [World.size_alloc]; omega) ?_))
            intro v' w7 hown7 hg7 hb7 _
            have hbel7 : Below w.heap.size w w7 := (hbel6.alloc hbel6.size _).trans (hb7.mono hb.size)
            have hown8 := hown7.mono hb.size
            clear hown7
            go_wp2_with fail
            go_ret3
            exact .inr (.inr (.inr ⟨st, r, v', ⟨Hst.out.1, Hr2.out⟩, Hfb.out, Hadd.out, rfl, hown8, hbel7⟩))
  · have Hno := hid hno
    clear hno
    go_wp2_with fail
    go_ret3
    exact .inl ⟨Hno.out, rfl, hb⟩

end Go.Proofs.Ytcoidofchofljaa

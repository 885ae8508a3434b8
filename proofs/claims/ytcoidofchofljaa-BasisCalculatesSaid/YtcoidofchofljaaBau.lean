/-
  The contract of basis.Select. No condition but sizes.
-/
import Derived.Test.YtcoidofchofljaaBat
namespace Go.Proofs.Ytcoidofchofljaa
open Go.RowKit
set_option linter.unusedSimpArgs false
set_option linter.unusedVariables false

theorem selK_len (n : Nat) (F : Nat → V) : ∀ k, (selK n F k).1.length = (selK n F k).2.length ∧ (selK n F k).2.length ≤ k := by
  intro k
  induction k with
  | zero => exact ⟨rfl, Nat.le_refl _⟩
  | succ k ih =>
    cases h : addV n (selK n F k).1 (F k) with
    | none => rw [selK_none h]; exact ⟨ih.1, by omega⟩
    | some r => rw [selK_some h]; simp; omega

theorem selK_fit {K n : Nat} {F : Nat → V} (hK : 1 ≤ K) : ∀ k, (∀ i, i < k → ∀ j, j < n → Fit K (F i j)) → RFit K n (selK n F k).1 := by
  intro k
  induction k with
  | zero => intro _; exact RFit.nil K n
  | succ k ih =>
    intro hF
    have h0 := ih fun i hi => hF i (by omega)
    cases h : addV n (selK n F k).1 (F k) with
    | none => rw [selK_none h]; exact h0
    | some r => rw [selK_some h]; exact h0.snoc hK (hF k (by omega)) h

/-- Chosen numbers as cells. -/
def natI (l : List Nat) : List Value := l.map fun (i : Nat) => Value.int .i64 (i : Int)

/-- What Select returns. -/
def SeOut (w : World) (m : Nat) (L : Nat → Nat) (F : Nat → V) (e : Ending) (w' : World) : Prop :=
  (¬ OkL m L ∧ e = .returned (.tuple #[.slice none 0 0, .int .i64 4]) ∧ Below w.heap.size w w') ∨
  (∃ v, OkL m L ∧ e = .returned (.tuple #[v, .int .i64 0]) ∧ Own IsI64 w' w.heap.size 3 1 v (selK (L 0) F m).2.length (natI (selK (L 0) F m).2) ∧ Below w.heap.size w w')

set_option maxHeartbeats 4000000 in
theorem Select_any (K : Nat) (ao : Option Addr) (m cap : Nat) (L : Nat → Nat) (F : Nat → V) (w : World) (h : Mat RatV w ao m cap L F) (hm : m ≤ 256) (hL : ∀ i, i < m → L i ≤ 100000) (hK : 1 ≤ K) (hF : ∀ i, i < m → ∀ j, j < L i → Fit K (F i j)) (hbig : lv K m ≤ 1000000) :
    Calls Try.prog 8 #[.slice ao m cap] w (SeOut w m L F) := by
  have HF := hid hF
  have HL := hid hL
  clear hF hL
  have hbig2 : ∀ k, k ≤ m → lv K k ≤ 1000000 := fun k hk => Nat.le_trans (lv_le hk) hbig
  have Hbig := hid hbig2
  clear hbig2
  have h0 : Hid (0 < m → ∃ b o, ao = some ⟨b, o, none⟩ ∧ ∃ ro rc, w.cell? ⟨b, o, none⟩ = some (.slice ro (L 0) rc)) := hid (fun hm0 => by
    obtain ⟨b, o, e, ro, rc, hc, _⟩ := h.get hm0
    exact ⟨b, o, e, ro, rc, hc⟩)
  obtain ⟨n, hn⟩ : ∃ n, L 0 = n := ⟨_, rfl⟩
  have Hn := hid hn
  rw [hn] at h0
  clear hn
  go_enter Try.func8, Try.ntmps8
  go_wp2_with fail
  go_loop [14, 2] (fun iv v2 => ∃ k : Nat, k ≤ m ∧ iv = .int .i64 k ∧ v2 = .slice none 0 0 ∧ Hid (OkL k L)) (fun i _ => m - (intOf i).toNat)
  case atStart => exact ⟨0, by omega, rfl, rfl, hid (fun i hi => by omega)⟩
  case round =>
    obtain ⟨k, hk, rfl, rfl, hok⟩ := hrel
    by_cases hlt : k < m
    · obtain ⟨b, o, rfl, ro, rc, hcell, hv⟩ := h.get hlt
      obtain ⟨b', o', eb, ro', rc', hc0⟩ := h0.out (by omega)
      injection eb with eb
      injection eb with eb1 eb2
      subst eb1 eb2
      obtain ⟨lk, hlk⟩ : ∃ lk, L k = lk := ⟨_, rfl⟩
      have hlk1 := HL.out k hlt
      rw [hlk] at hcell hv hlk1
      have Hlk := hid hlk
      clear hlk
      by_cases hside : 1 ≤ lk ∧ lk ≤ 64
      · have hsd : decide (1 ≤ lk ∧ lk ≤ 64) = true := decide_eq_true hside
        by_cases hln : lk = n
        · subst hln
          have hne : ((lk : Int) != (lk : Int)) = false := by simp
          have hok2 : Hid (OkL (k + 1) L) := hid (fun i hi => by
            rcases Nat.lt_succ_iff_lt_or_eq.1 hi with h1 | h1
            · exact hok.out i h1
            · rw [h1, Hlk.out, Hn.out]; exact ⟨hside, rfl⟩)
          go_wp2_with fail
          refine (side_any lk (by omega) _).mono ?_; rw [hsd]; rintro e w1 ⟨rfl, rfl⟩
          go_wp2_with fail
          go_round
          case rel => exact ⟨k + 1, by omega, by go_num, rfl, hok2⟩
          case measure => simp [intOf]; omega
        · have hne : ((lk : Int) != (n : Int)) = true := by rw [bne_iff_ne]; omega
          go_wp2_with fail
          refine (side_any lk (by omega) _).mono ?_; rw [hsd]; rintro e w1 ⟨rfl, rfl⟩
          go_wp2_with fail
          go_ret2
          refine .inl ⟨fun hall => ?_, rfl, Below.refl _ _⟩
          exact absurd ((Hlk.out.symm.trans (hall k hlt).2).trans Hn.out) hln
      · have hsd : decide (1 ≤ lk ∧ lk ≤ 64) = false := decide_eq_false hside
        go_wp2_with fail
        refine (side_any lk (by omega) _).mono ?_; rw [hsd]; rintro e w1 ⟨rfl, rfl⟩
        go_wp2_with fail
        go_ret2
        refine .inl ⟨fun hall => ?_, rfl, Below.refl _ _⟩
        exact absurd (Hlk.out ▸ (hall k hlt).1) hside
    · obtain rfl : m = k := by omega
      have hs0 := Sp.start (Nat.le_refl w.heap.size) n
      have hb0 : Below w.heap.size w (w.alloc (.cells #[.slice none 0 0, .slice none 0 0, .slice none 0 0] 52)) := below_alloc _
      go_wp2_with fail
      go_loopw [36, 2] (fun iv ov wr => ∃ (k : Nat) (T : Nat → Prop), k ≤ m ∧ iv = .int .i64 k ∧ Sp wr w.heap.size w.heap.size T n (selK n F k).1 ∧ Own IsI64 wr w.heap.size 3 1 ov (selK n F k).2.length (natI (selK n F k).2) ∧ Hid (∀ g, Value.ownBlock ov = some g → ¬ T g) ∧ Below w.heap.size w wr) (fun i _ _ => m - (intOf i).toNat)
      case atStart => exact ⟨0, _, by omega, rfl, hs0, Own.nil _ _ _ _ _, hid (by intro g hg; simp [Value.ownBlock] at hg), hb0⟩
      case round =>
        clear hs0 hb0
        obtain ⟨k, T, hk, rfl, hsp, hown, hdis, hbel⟩ := hrel
        by_cases hlt : k < m
        · obtain ⟨b, o, rfl, ro, rc, hcell, hv⟩ := (h.nextV hbel).get hlt
          have hfk := HF.out k hlt
          obtain ⟨hnk, hlk⟩ : (1 ≤ L k ∧ L k ≤ 64) ∧ L k = n := by
            have := hok.out k hlt
            rw [Hn.out] at this
            exact this
          rw [hlk] at hcell hv hfk hnk
          have hfit := hid (selK_fit (n := n) (F := F) hK k (fun i hi j hj => HF.out i (by omega) j (by
            have := (hok.out i (by omega)).2
            rw [this, Hn.out]; exact hj)))
          have Hfk := hid hfk
          obtain ⟨sl1, sl2⟩ := selK_len n F k
          have hbk := Hbig.out _ (show (selK n F k).1.length ≤ m by omega)
          have hst : (selK n F k).1.length ≤ 1000 := by omega
          have hsz : w.heap.size ≤ wr.heap.size := hbel.size
          clear hfk hlk
          cases hadd : addV n (selK n F k).1 (F k) with
          | none =>
            have Hadd := hid hadd
            have hse := selK_none hadd
            clear hadd
            go_wp2_with fail
            refine (add_no w.heap.size w.heap.size n K T _ (F k) ro rc _ hsp hv (by omega) hK Hfk.out hfit.out hst hbk Hadd.out).mono ?_; rintro e w2 ⟨rfl, hb2⟩
            have hbel2 := below_chain hbel hb2
            have hsp2 := hsp.next hb2
            have hown2 := hown.below hb2
            rw [← hse] at hsp2 hown2
            clear hsp hown hse sl1 sl2
            go_wp2_with fail
            go_roundw
            case rel => exact ⟨k + 1, T, by omega, by go_num, hsp2, hown2, hdis, hbel2⟩
            case measure => simp [intOf]; omega
          | some r =>
            have Hadd := hid hadd
            have hse := selK_some hadd
            clear hadd
            go_wp2_with fail
            refine (add_yes w.heap.size w.heap.size n K T _ (F k) ro rc _ hsp hv (by omega) hK Hfk.out hfit.out hst hbk Hadd.out).mono ?_; rintro e w2 ⟨rfl, T', hsp2, hT', hfr⟩
            have hbel2 : Below w.heap.size w w2 := hbel.trans (hfr.below (fun b hb => (hsp.range hb).1) hsz)
            have hown2 := hown.fr hfr hdis.out
            have hdis2 : ∀ g, (Value.ownBlock _ = some g) → ¬ T' g := fun g hg hT => by
              rcases hT' g hT with h1 | h1
              · exact hdis.out g hg h1
              · have := (hown.lt hg).2; omega
            have hba : Below w2.heap.size w2 (w2.alloc (.cells #[.int .i64 k] 3)) := below_alloc _
            have hown3 := hown2.below hba
            have hsp3 := hsp2.next hba
            have hbel3 := below_chain hbel2 hba
            have hse1 : (selK n F (k + 1)).1 = (selK n F k).1 ++ [r] := by rw [hse]
            have hse2 : (selK n F (k + 1)).2 = (selK n F k).2 ++ [k] := by rw [hse]
            have Hse1 := hid hse1
            have Hse2 := hid hse2
            have Hdis2 := hid hdis2
            clear hsp hown hse sl1 hfr hown2 hsp2 hse1 hse2 hdis2 hdis
            have hnews : ∀ j u, [Value.int .i64 (k : Int)][j]? = some u → (w2.alloc (.cells #[.int .i64 k] 3)).cell? ((⟨w2.heap.size, 0, none⟩ : Addr).add j) = some u := fun j u hu => by
              rw [Addr.add_lit, Nat.zero_add]
              rcases j with _ | j
              · simp at hu; subst hu; simp [go_sem]
              · simp at hu
            have hone : ∀ u ∈ [Value.int .i64 (k : Int)], u.oneCell' = true := fun u hu => by rw [List.mem_singleton] at hu; subst hu; rfl
            have hkind : ∀ u ∈ [Value.int .i64 (k : Int)], IsI64 u := fun u hu => by rw [List.mem_singleton] at hu; subst hu; exact ⟨_, rfl⟩
            have hzero : ∀ c ∈ (Value.int .i64 0).cells, IsI64 c := fun c hc => ⟨0, by simpa [Value.cells] using hc⟩
            have Hnews := hid hnews
            have Hone := hid hone
            have Hkind := hid hkind
            have Hzero := hid hzero
            have hbz : w.heap.size ≤ (w2.alloc (.cells #[.int .i64 k] 3)).heap.size := hbel3.size
            clear hnews hone hkind hzero
            go_wp2_with (at_builtin; go_loud (refine wp_own rfl (.tmp 44) (.tmp 46) 22 rfl IsI64 3 (.int .i64 0) 1 8 Try.underlying22 Try.infoI64 rfl (by decide) Hzero.out w.heap.size _ _ _ rfl hown3 ⟨w2.heap.size, 0, none⟩ 1 1 [.int .i64 k] rfl rfl Hnews.out Hone.out Hkind.out (by decide) (by omega) (by omega) hbz ?_))
            intro v' w4 hown4 hg4 hb4 hq4
            have hbel4 : Below w.heap.size w w4 := hbel3.trans hb4
            have hsp4 : Sp w4 w.heap.size w.heap.size T' n (selK n F (k + 1)).1 := by
              rw [Hse1.out]
              refine hsp3.fr (T2 := fun b => Value.ownBlock _ = some b) (fun b o c hc _ k2 => ?_) (grown_fr hg4 fun g hg => hg) fun b hb hb' => Hdis2.out b hb' hb
              exact hown3.srt hc k2
            have hown5 : Own IsI64 w4 w.heap.size 3 1 v' (selK n F (k + 1)).2.length (natI (selK n F (k + 1)).2) := by
              rw [Hse2.out]
              unfold natI at hown4 ⊢
              rw [List.map_append, List.length_append]
              exact hown4
            have hdis5 : Hid (∀ g, v'.ownBlock = some g → ¬ T' g) := hid (fun g hg hT => by
              rcases hq4 with e | e
              · exact Hdis2.out g (e ▸ hg) hT
              · rw [e] at hg
                injection hg with hg
                have := (hsp3.range hT).2
                simp only [World.size_alloc] at this
                omega)
            clear hsp3 hown3 hown4 hg4 hb4 hq4
            go_wp2_with fail
            go_roundw
            case rel => exact ⟨k + 1, T', by omega, by go_num, hsp4, hown5, hdis5, hbel4⟩
            case measure => simp [intOf]; omega
        · obtain rfl : k = m := by omega
          go_wp2_with fail
          go_ret2
          refine .inr ⟨_, hok.out, rfl, ?_, hbel⟩
          rw [Hn.out]
          exact hown

end Go.Proofs.Ytcoidofchofljaa

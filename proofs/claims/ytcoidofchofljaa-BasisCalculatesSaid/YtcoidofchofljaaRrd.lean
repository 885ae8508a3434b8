/-
  The contract of the reference's reduce. No condition but sizes.
-/
import Derived.Test.YtcoidofchofljaaRow
import Derived.Test.YtcoidofchofljaaDrw
import Derived.Deep.RegionHeld3
import Derived.Deep.RegionLaw
import Derived.Deep.DeepCutAuto
namespace Go.Proofs.Ytcoidofchofljaa
open Go.RowKit
set_option linter.unusedSimpArgs false
set_option linter.unusedVariables false

/-- 'make([]api.Rat, n)' as a run equation. -/
theorem run_makeV (w : World) (n : Nat) (hn : n ≤ 1000000000) : ∃ w', (Instr.makeSlice 30 (.int .i64 (n : Int)) (.int .i64 (n : Int))).run Try.prog w = .ok (.slice (some ⟨w.heap.size, 0, none⟩) n n) w' ∧
    VOwn w' w.heap.size (.slice (some ⟨w.heap.size, 0, none⟩) n n) n zeroV ∧ Below w.heap.size w w' := by
  obtain ⟨i, hi, hz, hsz, hby⟩ := info_parts Try.infoRat
  obtain ⟨w', hrun, ho', hg⟩ := run_make_full (P := Try.prog) w w.heap.size 30 39 i _ 3 Try.underlying30 hi hz hsz .i64 .i64 n (by rw [hby]; omega) (by unfold maxLen; omega) (Nat.le_refl _)
  have hb : Below w.heap.size w w' := (Below.refl _ _).grown hg (Nat.le_refl _) (fun k hk => by cases hk)
  have hzc : (Value.agg #[.bool false, .slice none 0 0, .slice none 0 0]).cells = zRat := by rfl
  rw [hzc] at ho'
  refine ⟨w', hrun, ⟨_, ⟨ho', ?_⟩, fun i hi => ⟨false, none, 0, 0, none, 0, 0, ?_, ?_, ?_, ratC_zero w'⟩⟩, hb⟩
  · intro g' hg' cur t fr hh c hc
    simp only [Value.ownBlock, Option.some.injEq] at hg'
    subst hg'
    rcases ho'.2 with ⟨h', _⟩ | ⟨g', cap', cur0, h', hb', hg0, _, _, hcs, htake⟩
    · simp at h'
    · simp only [Value.slice.injEq, Option.some.injEq, Addr.mk.injEq, and_true, true_and] at h'
      obtain ⟨rfl, rfl⟩ := h'
      rw [hg0] at hh
      injection hh with hh
      injection hh with e1 _ _
      subst e1
      rw [List.take_of_length_le (by rw [Array.length_toList, hcs]; exact Nat.le_refl _)] at htake
      exact made_mem _ c (by rw [← htake]; exact Array.mem_def.1 hc)
  · exact made_at n i 0 hi (by decide)
  · exact made_at n i 1 hi (by decide)
  · exact made_at n i 2 hi (by decide)

theorem makeV_fn (n : Nat) (hn : n ≤ 1000000000) : ∃ f : World → World, (∀ w, (Instr.makeSlice 30 (.int .i64 (n : Int)) (.int .i64 (n : Int))).run Try.prog w = .ok (.slice (some ⟨w.heap.size, 0, none⟩) n n) (f w)) ∧
    ∀ w, VOwn (f w) w.heap.size (.slice (some ⟨w.heap.size, 0, none⟩) n n) n zeroV ∧ Below w.heap.size w (f w) :=
  ⟨fun w => Classical.choose (run_makeV w n hn), fun w => (Classical.choose_spec (run_makeV w n hn)).1, fun w => (Classical.choose_spec (run_makeV w n hn)).2⟩

theorem C2.low {N B : Nat} {x y : Value} {w w' : World} (h : C2 B x y w) (hB : B < N) (hb : Below N w w') : C2 B x y w' := by
  have hc : ∀ o, w'.cell? ⟨B, o, none⟩ = w.cell? ⟨B, o, none⟩ := fun o => World.cell?_of_block (hb.block B hB)
  exact ⟨(hc _).trans h.1, (hc _).trans h.2⟩
theorem E1.low {N B o : Nat} {x : Value} {w w' : World} (h : E1 B o x w) (hB : B < N) (hb : Below N w w') : E1 B o x w' := (World.cell?_of_block (a := ⟨B, o, none⟩) (hb.block B hB)).trans h

theorem leadI_of {n p : Nat} {F : V} (h : leadOf n F = some p) : leadI n F = p := by unfold leadI; rw [h]

theorem B2.drew' {w w' : World} {G : Nat} {x y : Value} (h : B2 w G x y w') : B2 w G x y w'.drew := ⟨h.heap, h.ge, h.bel.drew⟩

/-- A variable of the call's own that holds a row: a vector and its multipliers. -/
def RdAt (w : World) (n nc : Nat) (F C : V) (v7 : Value) (wx : World) : Prop := ∃ (G : Nat) (g1 : Option Addr) (c1 : Nat) (g2 : Option Addr) (c2 : Nat), v7 = .pointer (some ⟨G, 0, none⟩) ∧ w.heap.size < G ∧ B2 w G (.slice g1 n c1) (.slice g2 nc c2) wx ∧ B2 w w.heap.size (.slice none 0 0) (.slice none 0 0) wx ∧ Vec RatC wx g1 n c1 F ∧ VOwn wx (w.heap.size + 1) (.slice g2 nc c2) nc C ∧ (∀ q, (Value.slice g1 n c1).ownBlock = some q → (Value.slice g2 nc c2).ownBlock ≠ some q)

theorem rd_new {w Y : World} {n nc : Nat} {F C : V} {g1 g2 : Option Addr} {c1 c2 : Nat} (T : TypeId) (h0 : B2 w w.heap.size (.slice none 0 0) (.slice none 0 0) Y) (hv : Vec RatC Y g1 n c1 F) (ho : VOwn Y (w.heap.size + 1) (.slice g2 nc c2) nc C) (hdis : ∀ q, (Value.slice g1 n c1).ownBlock = some q → (Value.slice g2 nc c2).ownBlock ≠ some q) :
    RdAt w n nc F C (.pointer (some ⟨Y.heap.size, 0, none⟩)) (Y.alloc (.cells #[.slice g1 n c1, .slice g2 nc c2] T)) :=
  ⟨_, g1, c1, g2, c2, rfl, h0.lt, B2.start h0.bel rfl _ _ _, h0.next (below_alloc _), hv.nextC (below_alloc _), ho.next (below_alloc _), hdis⟩

/-- Two cells of a variable of two slices are written. -/
theorem B2.own {w w' : World} {G : Nat} {x y : Value} (h : B2 w G x y w') (hx : IsSl x) (hy : IsSl y) : ∃ T, Own IsSl w' G T 1 (.slice (some ⟨G, 0, none⟩) 2 2) 2 [x, y] := by
  obtain ⟨T, hT⟩ := h.heap
  refine ⟨T, ⟨rfl, .inr ⟨G, 2, #[x, y], rfl, Nat.le_refl _, hT, Nat.le_refl _, by simp [maxLen], rfl, rfl⟩⟩, ?_⟩
  intro g hg cur t fr hh c hc
  simp only [Value.ownBlock, Option.some.injEq] at hg
  subst hg
  rw [hT] at hh
  injection hh with hh
  injection hh with e1 _ _
  subst e1
  simp at hc
  rcases hc with rfl | rfl
  · exact hx
  · exact hy
theorem grown_put2 (w : World) (G : Nat) (x y : Value) : w.grownBy ((w.setCell ⟨G, 0, none⟩ x).setCell ⟨G, 1, none⟩ y) (some G) :=
  ⟨rfl, rfl, rfl, by simp, fun k hk hne => by rw [Below.heap_setCell _ _ _ _ (show k ≠ G from fun e => hne (by rw [e])), Below.heap_setCell _ _ _ _ (show k ≠ G from fun e => hne (by rw [e]))]⟩
theorem B2.vown {w w' : World} {G base n : Nat} {x y x1 y1 v : Value} {F : V} (h : B2 w G x y w') (hx : IsSl x) (hy : IsSl y) (ho : VOwn w' base v n F) (hv : ∀ g, v.ownBlock = some g → g ≠ G) : VOwn ((w'.setCell ⟨G, 0, none⟩ x1).setCell ⟨G, 1, none⟩ y1) base v n F := by
  obtain ⟨T, hown⟩ := h.own hx hy
  have hg := grown_put2 w' G x1 y1
  obtain ⟨xs, o1, o2⟩ := ho
  refine ⟨xs, o1.same fun g hgg => hg.block g (o1.lt hgg).2 (fun e => hv g hgg (by injection e)), fun i hi => ?_⟩
  obtain ⟨s, xo, xn, xc, yo, yn, yc, a, b, c, r⟩ := o2 i hi
  exact ⟨s, xo, xn, xc, yo, yn, yc, a, b, c, r.grownU hown isSl_u32 hg⟩
theorem B2.keep {w w' : World} {G g : Nat} {x y x1 y1 : Value} (h : B2 w g x y w') (hne : g ≠ G) (hG : w.heap.size ≤ G) : B2 w g x y ((w'.setCell ⟨G, 0, none⟩ x1).setCell ⟨G, 1, none⟩ y1) := by
  obtain ⟨T, hT⟩ := h.heap
  refine ⟨⟨T, ?_⟩, h.ge, (h.bel.setCell (p := ⟨G, 0, none⟩) hG x1).setCell (p := ⟨G, 1, none⟩) hG y1⟩
  rw [Below.heap_setCell _ _ _ _ (show g ≠ G from hne), Below.heap_setCell _ _ _ _ (show g ≠ G from hne)]
  exact hT

theorem rd_put {w Y : World} {n nc G : Nat} {F C : V} {g1 g2 : Option Addr} {c1 c2 : Nat} {x y : Value} (hx : IsSl x) (hy : IsSl y) (hG : B2 w G x y Y) (hlt : w.heap.size < G) (h0 : B2 w w.heap.size (.slice none 0 0) (.slice none 0 0) Y) (hv : Vec RatC Y g1 n c1 F) (ho : VOwn Y (w.heap.size + 1) (.slice g2 nc c2) nc C)
    (hne : ∀ g, (Value.slice g2 nc c2).ownBlock = some g → g ≠ G) (hdis : ∀ q, (Value.slice g1 n c1).ownBlock = some q → (Value.slice g2 nc c2).ownBlock ≠ some q) : RdAt w n nc F C (.pointer (some ⟨G, 0, none⟩)) ((Y.setCell ⟨G, 0, none⟩ (.slice g1 n c1)).setCell ⟨G, 1, none⟩ (.slice g2 nc c2)) :=
  ⟨G, g1, c1, g2, c2, rfl, hlt, hG.put _ _, h0.keep (by omega) hG.ge, hG.vec hx hy hv, hG.vown hx hy ho hne, hdis⟩

set_option maxHeartbeats 4000000 in
set_option maxRecDepth 100000 in
theorem rreduce_any (m n nc K : Nat) (RV RC : Nat → V) (pl : Nat → Nat) (F : V) (lo : Option Addr) (lc : Nat) (ao : Option Addr) (cap : Nat) (w : World) (hR : RMat w lo m lc n nc RV RC) (h : Vec RatV w ao n cap F) (hn : n ≤ 1000) (hm : m ≤ 1000) (hnc : nc ≤ 1000) (hK : 1 ≤ K)
    (hF : ∀ i, i < n → Fit K (F i)) (hV : ∀ k, k < m → ∀ i, i < n → Fit (lv K k) (RV k i)) (hC : ∀ k, k < m → ∀ i, Fit (lv K k) (RC k i)) (hp : ∀ k, k < m → leadOf n (RV k) = some (pl k)) (hbig : lv K m ≤ 500000) :
    Calls Try.prog 42 #[.slice lo m lc, .slice ao n cap, .int .i64 nc] w fun e w' => ∃ g1 c1 g2 c2, e = .returned (.agg #[.slice g1 n c1, .slice g2 nc c2]) ∧ Vec RatC w' g1 n c1 (redN RV RC pl F m).1 ∧ VOwn w' w.heap.size (.slice g2 nc c2) nc (fun i => - (redN RV RC pl F m).2 i) ∧ (∀ q, (Value.slice g1 n c1).ownBlock = some q → (Value.slice g2 nc c2).ownBlock ≠ some q) ∧ Below w.heap.size w w' := by
  have HFit := hid (redN_fit hK hF hV hC (fun k hk => (leadOf_some (hp k hk)).1))
  have HF := hid hF; have HV := hid hV; have HC := hid hC; have HP := hid hp
  clear hF hV hC hp
  obtain ⟨f, hf, hfo⟩ := makeV_fn nc (by omega)
  have Hfo := hid hfo
  clear hfo
  have hG0 : B2 w w.heap.size (.slice none 0 0) (.slice none 0 0) (w.alloc (.cells #[.slice none 0 0, .slice none 0 0] 69)) := B2.start (Below.refl _ _) rfl _ _ _
  go_enter Try.func42, Try.ntmps42
  go_wp2_with fail
  generalize w.alloc (.cells #[.slice none 0 0, .slice none 0 0] 69) = W at *
  go_upto_region 1 with fail
  go_cut [7] (fun v7 wx => RdAt w n nc F zeroV v7 wx)
  case first =>
    have hW := hG0.bel
    have hv := h.nextV hW
    have hWd : Below W.heap.size W W.drew := (Below.refl _ _).drew
    have lW := hG0.lt
    have hcf : ∀ (x : World) (b o : Nat), b < x.heap.size → (f x).cell? ⟨b, o, none⟩ = x.cell? ⟨b, o, none⟩ := fun x b o hb => (bcell (Hfo.out x).2).1 b o hb
    have hff : ∀ (x : World) (b o : Nat), b < x.heap.size → (f x).frozen? ⟨b, o, none⟩ = x.frozen? ⟨b, o, none⟩ := fun x b o hb => (bcell (Hfo.out x).2).2 b o hb
    have hfs : ∀ (x : World) (b : Nat), b < x.heap.size → b < (f x).heap.size := fun x b hb => Nat.lt_of_lt_of_le hb (Hfo.out x).2.size
    have hfl0 : ∀ x : World, x.heap.size < (f x).heap.size := fun x => by
      obtain ⟨⟨xs, ho, _⟩, _⟩ := Hfo.out x
      exact (ho.lt rfl).2
    have hfv0 : ∀ (x : World) (N : Nat), N = x.heap.size → w.heap.size + 1 ≤ N → VOwn (f x) (w.heap.size + 1) (.slice (some ⟨N, 0, none⟩) nc nc) nc zeroV := fun x N e hle => by
      subst e; exact (Hfo.out x).1.mono hle
    have Hfl := hid hfl0
    have Hfv := hid hfv0
    clear hfl0 hfv0
    have hS0 : True := trivial
    go_region_held3 (fun _ => True) (exact trivial)
      (first | (go_at_call 46; refine (take_any ao n cap F _ (hv.nextV (by first | exact hWd | exact below_chain hWd (below_alloc _) | exact below_chain hWd (Hfo.out _).2 | exact below_chain (below_chain hWd (below_alloc _)) (Hfo.out _).2 | exact below_chain (below_chain hWd (Hfo.out _).2) (below_alloc _))) (by omega)).mono ?_; rintro e w2 ⟨v2, rfl, hown2, hb2⟩; obtain ⟨so, sc, rfl, hvec⟩ := hown2.vec; obtain ⟨hc2, hf2⟩ := bcell hb2; have hz2 := hb2.size; (try simp at hz2); (try have hu2 := Nat.lt_of_succ_le hz2)))
    all_goals
      go_wp2_with fail
      go_meet
      have q1 := Hfl.out W
      have q2 := Hfl.out W.drew
      have q3 := Hfl.out w2
      have q4 := Hfl.out (w2.alloc (.cells #[.slice none 0 0, .slice none 0 0] 69))
      have q5 := Hfl.out (W.alloc (.cells #[.slice none 0 0, .slice none 0 0] 69))
      have q6 := Hfl.out (W.alloc (.cells #[.slice none 0 0, .slice none 0 0] 69)).drew
      simp only [World.size_drew, World.size_alloc] at q2 q4 q5 q6 hz2
      first | refine rd_new _ ?_ ?_ ?_ ?_ | refine rd_put (isSl_s none 0 0) (isSl_s none 0 0) ?_ ?_ ?_ ?_ ?_ ?_ ?_
      all_goals (repeat' (first | (intro q hq hq'; obtain ⟨xs', ho', _⟩ := hown2; have hq1 := ho'.lt hq; simp only [Value.ownBlock, Option.some.injEq] at hq'; (try simp only [World.size_drew, World.size_alloc] at hq1); omega) | with_reducible exact hvec | with_reducible exact hG0 | with_reducible exact hG0.bel | with_reducible refine B2.next ?_ hb2 | with_reducible refine B2.next ?_ (Hfo.out _).2 | with_reducible refine Vec.nextC ?_ hb2 | with_reducible refine Vec.nextC ?_ (Hfo.out _).2 | with_reducible refine Vec.nextC ?_ (below_alloc _) | with_reducible refine VOwn.next ?_ hb2 | with_reducible refine VOwn.next ?_ (below_alloc _) | with_reducible refine Hfv.out _ _ ?_ ?_ | with_reducible refine B2.drew' ?_ | with_reducible refine B2.start ?_ rfl _ _ _ | with_reducible refine B2.next ?_ (below_alloc _) | with_reducible refine Below.drew ?_ | with_reducible refine below_chain ?_ hb2 | with_reducible refine below_chain ?_ (Hfo.out _).2 | (intro g hg; simp only [Value.ownBlock, Option.some.injEq] at hg; omega) | (simp only [World.size_drew, World.size_alloc]; done) | (simp only [World.size_drew, World.size_alloc]; omega) | omega))
  case rest =>
    obtain ⟨G, g1, c1, g2, c2, rfl, hlt, hG, h0, hv1, ho1, hdis1⟩ := hcut
    have hdis1 := hid hdis1
    clear hG0 hf
    go_wp2_with fail
    go_loopw [8] (fun iv wr => ∃ (k : Nat) (g1 : Option Addr) (c1 : Nat) (g2 : Option Addr) (c2 : Nat), k ≤ m ∧ iv = .int .i64 k ∧ B2 w G (.slice g1 n c1) (.slice g2 nc c2) wr ∧ B2 w w.heap.size (.slice none 0 0) (.slice none 0 0) wr ∧ Vec RatC wr g1 n c1 (redN RV RC pl F k).1 ∧ VOwn wr (w.heap.size + 1) (.slice g2 nc c2) nc (fun i => - (redN RV RC pl F k).2 i) ∧ Hid (∀ q, (Value.slice g1 n c1).ownBlock = some q → (Value.slice g2 nc c2).ownBlock ≠ some q)) (fun i _ => m - (intOf i).toNat)
    case atStart => exact ⟨0, g1, c1, g2, c2, by omega, rfl, hG, h0, hv1, ho1.congr (fun i _ => by show (0 : Rat) = - 0; decide +kernel), hdis1⟩
    case round =>
      clear hG h0 hv1 ho1 hdis1
      obtain ⟨k, g1, c1, g2, c2, hk, rfl, hG, h0, hv, ho, hdis⟩ := hrel
      have hbel := hG.bel
      by_cases hlt2 : k < m
      · have hplk := HP.out k hlt2
        obtain ⟨f1, f2⟩ := HFit.out k hk
        have hlv : lv K k ≤ 500000 := Nat.le_trans (lv_le hk) hbig
        have hpn := (leadOf_some hplk).1
        have hpne := (leadOf_some hplk).2.1
        have hli := hid (leadI_of hplk)
        have fV := hid (HV.out k hlt2)
        have Hf1 := hid f1
        have Hf2 := hid f2
        have Hpne := hid hpne
        clear f1 f2 hplk hpne
        obtain ⟨b, o, rfl, ro, rc, so, sc, t1, t2, vV, vC⟩ := (hR.next hbel).get hlt2
        have vV2 := vV.toV fV.out (by omega)
        obtain ⟨x0, x1⟩ := hG.c2
        go_wp2_with fail
        refine (refLead_any _ _ _ _ _ vV2).mono ?_; rw [hli.out]; rintro e w3 ⟨rfl, hb3⟩
        have hG := hG.next hb3
        have h0 := h0.next hb3
        have hv := hv.nextC hb3
        have ho := ho.next hb3
        have vV := vV.nextC hb3
        have vC := vC.nextC hb3
        have t1 := (((bcell hb3).1 _ _ (World.block_lt_of_cell? _ _ t1))).trans t1
        have t2 := (((bcell hb3).1 _ _ (World.block_lt_of_cell? _ _ t2))).trans t2
        clear x0 x1 vV2 hbel
        rename World => W0
        obtain ⟨bA, oA, eA, s1, x1, n1, k1, y1, l1, d1, a1, a2, a3, rA⟩ := hv.get hpn
        subst eA
        obtain ⟨bV, oV, eV, s2, x2, n2, k2, y2, l2, d2, b1, b2, b3, rV⟩ := vV.get hpn
        subst eV
        obtain ⟨p, hp⟩ : ∃ p, pl k = p := ⟨_, rfl⟩
        rw [hp] at a1 a2 a3 b1 b2 b3 rA rV hpn
        simp only [hp]
        obtain ⟨q, hq⟩ : ∃ q, redF (redN RV RC pl F k).1 ⟨RV k, RC k, pl k⟩ = q := ⟨_, rfl⟩
        have hqd := hid (show (redN RV RC pl F k).1 p / RV k p = q by rw [← hp]; exact hq)
        have Hq := hid hq
        have Hp := hid hp
        have Hpne := hid (hp ▸ Hpne.out)
        have rA2 := rA.toV (Hf1.out p hpn) (by omega)
        have rV2 := rV.toV (fV.out p hpn) (by omega)
        have fA := Hf1.out p hpn
        have fVp := fV.out p hpn
        have hpb : p ≤ 1000 := by omega
        clear hq hp rA rV
        go_upto_region 6 with fail
        go_cut [10] (fun v10 wx => ∃ (g : Nat) (xs : Bool) (xo : Option Addr) (xn xc : Nat) (yo : Option Addr) (yn yc : Nat), v10 = .pointer (some ⟨g, 0, none⟩) ∧ W0.heap.size ≤ g ∧ C3 g (.bool xs) (.slice xo xn xc) (.slice yo yn yc) wx ∧
          RatC wx (.agg #[.bool xs, .slice xo xn xc, .slice yo yn yc]) q ∧ Below W0.heap.size W0 wx)
        case first =>
          have hd := (Below.refl W0.heap.size W0).drew
          have eC := hG.c2
          have lG : G < W0.heap.size := hG.lt
          have lb : b < W0.heap.size := World.block_lt_of_cell? _ _ t1
          have lA : bA < W0.heap.size := World.block_lt_of_cell? _ _ a1
          have lV : bV < W0.heap.size := World.block_lt_of_cell? _ _ b1
          have hS0 : C2 G (.slice (some ⟨bA, oA, none⟩) n c1) (.slice g2 nc c2) W0.drew ∧ E1 b (o + k * 2) (.slice (some ⟨bV, oV, none⟩) n rc) W0.drew ∧ E3 bA (oA + p * 3) (.bool s1) (.slice x1 n1 k1) (.slice y1 l1 d1) W0.drew ∧ E3 bV (oV + p * 3) (.bool s2) (.slice x2 n2 k2) (.slice y2 l2 d2) W0.drew ∧ Below W0.heap.size W0 W0.drew := ⟨C2.next eC hd, E1.next t1 hd, E3.next ⟨a1, a2, a3⟩ hd, E3.next ⟨b1, b2, b3⟩ hd, hd⟩
          have hSW : C2 G (.slice (some ⟨bA, oA, none⟩) n c1) (.slice g2 nc c2) W0 ∧ E1 b (o + k * 2) (.slice (some ⟨bV, oV, none⟩) n rc) W0 ∧ E3 bA (oA + p * 3) (.bool s1) (.slice x1 n1 k1) (.slice y1 l1 d1) W0 ∧ E3 bV (oV + p * 3) (.bool s2) (.slice x2 n2 k2) (.slice y2 l2 d2) W0 ∧ Below W0.heap.size W0 W0 := ⟨eC, t1, ⟨a1, a2, a3⟩, ⟨b1, b2, b3⟩, Below.refl _ _⟩
          have hK : ∀ w' w'', (C2 G (.slice (some ⟨bA, oA, none⟩) n c1) (.slice g2 nc c2) w' ∧ E1 b (o + k * 2) (.slice (some ⟨bV, oV, none⟩) n rc) w' ∧ E3 bA (oA + p * 3) (.bool s1) (.slice x1 n1 k1) (.slice y1 l1 d1) w' ∧ E3 bV (oV + p * 3) (.bool s2) (.slice x2 n2 k2) (.slice y2 l2 d2) w' ∧ Below W0.heap.size W0 w') → Below w'.heap.size w' w'' → (C2 G (.slice (some ⟨bA, oA, none⟩) n c1) (.slice g2 nc c2) w'' ∧ E1 b (o + k * 2) (.slice (some ⟨bV, oV, none⟩) n rc) w'' ∧ E3 bA (oA + p * 3) (.bool s1) (.slice x1 n1 k1) (.slice y1 l1 d1) w'' ∧ E3 bV (oV + p * 3) (.bool s2) (.slice x2 n2 k2) (.slice y2 l2 d2) w'' ∧ Below W0.heap.size W0 w'') := fun w' w'' h hb => ⟨h.1.next hb, h.2.1.next hb, h.2.2.1.next hb, h.2.2.2.1.next hb, below_chain h.2.2.2.2 hb⟩
          have hSt : ∀ w' H (x' y' z' : Value), W0.heap.size ≤ H → (C2 G (.slice (some ⟨bA, oA, none⟩) n c1) (.slice g2 nc c2) w' ∧ E1 b (o + k * 2) (.slice (some ⟨bV, oV, none⟩) n rc) w' ∧ E3 bA (oA + p * 3) (.bool s1) (.slice x1 n1 k1) (.slice y1 l1 d1) w' ∧ E3 bV (oV + p * 3) (.bool s2) (.slice x2 n2 k2) (.slice y2 l2 d2) w' ∧ Below W0.heap.size W0 w') → (C2 G (.slice (some ⟨bA, oA, none⟩) n c1) (.slice g2 nc c2) (((w'.setCell ⟨H, 0, none⟩ x').setCell ⟨H, 1, none⟩ y').setCell ⟨H, 2, none⟩ z') ∧ E1 b (o + k * 2) (.slice (some ⟨bV, oV, none⟩) n rc) (((w'.setCell ⟨H, 0, none⟩ x').setCell ⟨H, 1, none⟩ y').setCell ⟨H, 2, none⟩ z') ∧ E3 bA (oA + p * 3) (.bool s1) (.slice x1 n1 k1) (.slice y1 l1 d1) (((w'.setCell ⟨H, 0, none⟩ x').setCell ⟨H, 1, none⟩ y').setCell ⟨H, 2, none⟩ z') ∧ E3 bV (oV + p * 3) (.bool s2) (.slice x2 n2 k2) (.slice y2 l2 d2) (((w'.setCell ⟨H, 0, none⟩ x').setCell ⟨H, 1, none⟩ y').setCell ⟨H, 2, none⟩ z') ∧ Below W0.heap.size W0 (((w'.setCell ⟨H, 0, none⟩ x').setCell ⟨H, 1, none⟩ y').setCell ⟨H, 2, none⟩ z')) := fun w' H x' y' z' hH h =>
            have hb : Below W0.heap.size w' (((w'.setCell ⟨H, 0, none⟩ x').setCell ⟨H, 1, none⟩ y').setCell ⟨H, 2, none⟩ z') := below_set3 (Below.refl _ _) hH _ _ _
            ⟨h.1.low lG hb, h.2.1.low lb hb, h.2.2.1.low lA hb, h.2.2.2.1.low lV hb, h.2.2.2.2.trans hb⟩
          have lt0 : W0.heap.size ≤ W0.drew.heap.size := hd.size
          clear a1 a2 a3 b1 b2 b3 t1 t2 eC hG h0 hv ho vV vC
          go_region_held3 (fun w' => C2 G (.slice (some ⟨bA, oA, none⟩) n c1) (.slice g2 nc c2) w' ∧ E1 b (o + k * 2) (.slice (some ⟨bV, oV, none⟩) n rc) w' ∧ E3 bA (oA + p * 3) (.bool s1) (.slice x1 n1 k1) (.slice y1 l1 d1) w' ∧ E3 bV (oV + p * 3) (.bool s2) (.slice x2 n2 k2) (.slice y2 l2 d2) w' ∧ Below W0.heap.size W0 w')
            (repeat (first | with_reducible refine hSt _ _ _ _ _ (by with_reducible first | exact lt0 | exact Nat.le_refl _ | exact lt1) ?_ | with_reducible assumption | with_reducible refine hK _ _ ?_ (below_alloc _) | with_reducible refine hK _ _ ?_ hb1 | with_reducible refine hK _ _ ?_ (Below.refl _ _).drew))
            (first | (go_at_call 62; refine (rQuo_any ((redN RV RC pl F k).1 p) (RV k p) Hpne.out _ _ _ (rA2.next (show Below W0.heap.size W0 _ from And.right (And.right (And.right (And.right (by assumption)))))) (rV2.next (show Below W0.heap.size W0 _ from And.right (And.right (And.right (And.right (by assumption)))))) (lv K k) fA fVp (by omega)).mono ?_; rw [hqd.out]; rintro e' wd ⟨fv, rfl, F1, hb1⟩; have lt1 := Nat.le_trans (show W0.heap.size ≤ _ from Below.size (And.right (And.right (And.right (And.right (by assumption)))))) hb1.size; obtain ⟨hc1, hf1⟩ := bcell hb1; have hz1 := hb1.size; (try simp at hz1); (try have hu1 := Nat.lt_of_succ_le hz1); obtain ⟨xs, xo, xn, xc, yo, yn, yc, rfl⟩ := F1.shape))
          all_goals
            go_wp2_with fail
            go_meet
            refine ⟨_, xs, xo, xn, xc, yo, yn, yc, rfl, ?_, ?_, ?_, ?_⟩
            all_goals (repeat' (first | with_reducible exact F1 | exact Nat.le_refl _ | with_reducible exact lt1 | with_reducible exact lt0 | with_reducible refine RatC.putOther (w := W0) (b0 := false) (a1 := none) (n1 := 0) (k1 := 0) (a2 := none) (n2 := 0) (k2 := 0) ?_ ?_ _ _ _ | with_reducible refine RatC.next ?_ (below_alloc _) | with_reducible refine C3.stored (w := W0) (b0 := false) (a1 := none) (n1 := 0) (k1 := 0) (a2 := none) (n2 := 0) (k2 := 0) ?_ _ _ _ | (with_reducible refine C3.here _ _ ?_; · simp) | exact Res.start (Below.refl _ _) _ _ _ _ _ _ _ _ | with_reducible refine Res.drew ?_ | with_reducible refine Res.next ?_ hb1 | with_reducible refine below_set3 ?_ (Nat.le_refl _) _ _ _ | with_reducible refine below_new ?_ _ | with_reducible refine Below.drew ?_ | with_reducible refine below_chain ?_ hb1 | with_reducible exact Below.refl _ _ | omega))
        case rest =>
          obtain ⟨g, xs, xo, xn, xc, yo, yn, yc, rfl, hg, hF, CF, hbc⟩ := hcut
          have lGw : G < W0.heap.size := hG.lt
          have hG := hG.next hbc
          have h0 := h0.next hbc
          have hv := hv.nextC hbc
          have ho := ho.next hbc
          have vV := vV.nextC hbc
          have vC := vC.nextC hbc
          have t1 := (((bcell hbc).1 _ _ (World.block_lt_of_cell? _ _ t1))).trans t1
          have t2 := (((bcell hbc).1 _ _ (World.block_lt_of_cell? _ _ t2))).trans t2
          have ff : Fit (lv K k + lv K k) q := by rw [← hqd.out]; exact fit_div fA fVp
          clear a1 a2 a3 b1 b2 b3 rA2 rV2 hbc
          have hdd : Below wc.heap.size wc wc.drew := (Below.refl _ _).drew
          have hA2 := (hv.toV Hf1.out (by omega)).nextV hdd
          have vV2 := (vV.toV fV.out (by omega)).nextV hdd
          have hC2 := hid (vC.toV (fun i _ => HC.out k hlt2 i) (by omega))
          have CF2 := (CF.toV ff (by omega)).next hdd
          have hT := hid ho.vec
          have fT := hid (fun i (_ : i < nc) => (fit_neg (Hf2.out i)).mono (show lv K k ≤ lv K k + lv K k by omega))
          have fA3 := hid (fun i (hi : i < n) => (Hf1.out i hi).mono (show lv K k ≤ lv K k + lv K k by omega))
          have fV3 := hid (fun i (hi : i < n) => (fV.out i hi).mono (show lv K k ≤ lv K k + lv K k by omega))
          have fC3 := hid (fun i (_ : i < nc) => (HC.out k hlt2 i).mono (show lv K k ≤ lv K k + lv K k by omega))
          have hT2 : Vec RatV wc g2 nc c2 (fun i => - (redN RV RC pl F k).2 i) := by
            obtain ⟨uo, uc, e, hvec⟩ := ho.vec
            injection e with e1 _ e2
            subst e1 e2
            exact hvec.toV (fun i _ => fit_neg (Hf2.out i)) (by omega)
          have lG : G < wc.heap.size := hG.lt
          have lGd : G < wc.drew.heap.size := lG
          have y0 : wc.drew.frozen? ⟨G, 0, none⟩ = false := hG.free 0
          have y1 : wc.drew.frozen? ⟨G, 1, none⟩ = false := hG.free 1
          have hS0 : E1 b (o + k * 2) (.slice (some ⟨bV, oV, none⟩) n rc) wc.drew ∧ E1 b (o + k * 2 + 1) (.slice so nc sc) wc.drew ∧ C3 g (.bool xs) (.slice xo xn xc) (.slice yo yn yc) wc.drew ∧ C2 G (.slice (some ⟨bA, oA, none⟩) n c1) (.slice g2 nc c2) wc.drew := ⟨E1.next t1 hdd, E1.next t2 hdd, hF.next hdd, hG.c2.next hdd⟩
          have hK' : ∀ w' w'', (E1 b (o + k * 2) (.slice (some ⟨bV, oV, none⟩) n rc) w' ∧ E1 b (o + k * 2 + 1) (.slice so nc sc) w' ∧ C3 g (.bool xs) (.slice xo xn xc) (.slice yo yn yc) w' ∧ C2 G (.slice (some ⟨bA, oA, none⟩) n c1) (.slice g2 nc c2) w') → Below w'.heap.size w' w'' → (E1 b (o + k * 2) (.slice (some ⟨bV, oV, none⟩) n rc) w'' ∧ E1 b (o + k * 2 + 1) (.slice so nc sc) w'' ∧ C3 g (.bool xs) (.slice xo xn xc) (.slice yo yn yc) w'' ∧ C2 G (.slice (some ⟨bA, oA, none⟩) n c1) (.slice g2 nc c2) w'') := fun w' w'' h hb => ⟨h.1.next hb, h.2.1.next hb, h.2.2.1.next hb, h.2.2.2.next hb⟩
          clear t1 t2
          go_wp2_with fail
          refine wp_region_D (fun w' => E1 b (o + k * 2) (.slice (some ⟨bV, oV, none⟩) n rc) w' ∧ E1 b (o + k * 2 + 1) (.slice so nc sc) w' ∧ C3 g (.bool xs) (.slice xo xn xc) (.slice yo yn yc) w' ∧ C2 G (.slice (some ⟨bA, oA, none⟩) n c1) (.slice g2 nc c2) w') [19, 20, 21] (by kernel_rfl) ?_
          refine wpAnyD_take (i := 0) (v := ?_) rfl (by kernel_rfl) (by kernel_rfl) (by kernel_rfl) (by kernel_rfl) (fun _ _ _ h => h) (Or.inl ⟨by rfl, ?_⟩) hS0 ?_
          rotate_left
          · intro w _; first | (go_simp; done) | (go_simp; with_reducible rfl)
          refine wpAnyD_take (i := 2) (v := ?_) rfl (by kernel_rfl) (by kernel_rfl) (by kernel_rfl) (by kernel_rfl) (fun _ _ _ h => h) (Or.inl ⟨by rfl, ?_⟩) hS0 ?_
          rotate_left
          · intro w _; first | (go_simp; done) | (go_simp; with_reducible rfl)
          refine wpAnyD_take (i := 3) (v := ?_) rfl (by kernel_rfl) (by kernel_rfl) (by kernel_rfl) (by kernel_rfl) (fun _ _ _ h => h) (Or.inl ⟨by rfl, ?_⟩) hS0 ?_
          rotate_left
          · intro w _; first | (go_simp; done) | (go_simp; with_reducible rfl)
          refine wpAnyD_take (i := 4) (v := ?_) rfl (by kernel_rfl) (by kernel_rfl) (by kernel_rfl) (by kernel_rfl) (fun _ _ _ h => h) (Or.inl ⟨by rfl, ?_⟩) hS0 ?_
          rotate_left
          · intro w _; first | (go_simp; done) | (go_simp; with_reducible rfl)
          refine wpAnyD_take (i := 5) (v := ?_) rfl (by kernel_rfl) (by kernel_rfl) (by kernel_rfl) (by kernel_rfl) (fun _ _ _ h => h) (Or.inl ⟨by rfl, ?_⟩) hS0 ?_
          rotate_left
          · intro w _; first | (go_simp; done) | (go_simp; with_reducible rfl)
          refine wpAnyD_take (i := 9) (v := ?_) rfl (by kernel_rfl) (by kernel_rfl) (by kernel_rfl) (by kernel_rfl) (fun _ _ _ h => h) (Or.inl ⟨by rfl, ?_⟩) hS0 ?_
          rotate_left
          · intro w _; first | (go_simp; done) | (go_simp; with_reducible rfl)
          refine wpAnyD_take (i := 11) (v := ?_) rfl (by kernel_rfl) (by kernel_rfl) (by kernel_rfl) (by kernel_rfl) (fun _ _ _ h => h) (Or.inl ⟨by rfl, ?_⟩) hS0 ?_
          rotate_left
          · intro w _; first | (go_simp; done) | (go_simp; with_reducible rfl)
          refine wpAnyD_take (i := 12) (v := ?_) rfl (by kernel_rfl) (by kernel_rfl) (by kernel_rfl) (by kernel_rfl) (fun _ _ _ h => h) (Or.inl ⟨by rfl, ?_⟩) hS0 ?_
          rotate_left
          · intro w _; first | (go_simp; done) | (go_simp; with_reducible rfl)
          refine wpAnyD_take (i := 13) (v := ?_) rfl (by kernel_rfl) (by kernel_rfl) (by kernel_rfl) (by kernel_rfl) (fun _ _ _ h => h) (Or.inl ⟨by rfl, ?_⟩) hS0 ?_
          rotate_left
          · intro w _; first | (go_simp; done) | (go_simp; with_reducible rfl)
          refine wpAnyD_take (i := 14) (v := ?_) rfl (by kernel_rfl) (by kernel_rfl) (by kernel_rfl) (by kernel_rfl) (fun _ _ _ h => h) (Or.inl ⟨by rfl, ?_⟩) hS0 ?_
          rotate_left
          · intro w _; first | (go_simp; done) | (go_simp; with_reducible rfl)
          refine wpAnyD_take (i := 1) (v := ?_) rfl (by kernel_rfl) (by kernel_rfl) (by kernel_rfl) (by kernel_rfl) (fun _ _ _ h => h) (Or.inl ⟨by rfl, ?_⟩) hS0 ?_
          rotate_left
          · intro w hw; obtain ⟨s1', s2', ⟨s3', s4', s5'⟩, ⟨s6', s7'⟩⟩ := hw; first | (go_simp; done) | (go_simp; with_reducible rfl)
          refine wpAnyD_take (i := 6) (v := ?_) rfl (by kernel_rfl) (by kernel_rfl) (by kernel_rfl) (by kernel_rfl) (fun _ _ _ h => h) (Or.inl ⟨by rfl, ?_⟩) hS0 ?_
          rotate_left
          · intro w hw; obtain ⟨s1', s2', ⟨s3', s4', s5'⟩, ⟨s6', s7'⟩⟩ := hw; first | (go_simp; done) | (go_simp; with_reducible rfl)
          refine wpAnyD_take (i := 7) (v := ?_) rfl (by kernel_rfl) (by kernel_rfl) (by kernel_rfl) (by kernel_rfl) (fun _ _ _ h => h) (Or.inl ⟨by rfl, ?_⟩) hS0 ?_
          rotate_left
          · intro w hw; obtain ⟨s1', s2', ⟨s3', s4', s5'⟩, ⟨s6', s7'⟩⟩ := hw; first | (go_simp; done) | (go_simp; with_reducible rfl)
          refine wpAnyD_take (i := 10) (v := ?_) rfl (by kernel_rfl) (by kernel_rfl) (by kernel_rfl) (by kernel_rfl) (fun _ _ _ h => h) (Or.inl ⟨by rfl, ?_⟩) hS0 ?_
          rotate_left
          · intro w hw; obtain ⟨s1', s2', ⟨s3', s4', s5'⟩, ⟨s6', s7'⟩⟩ := hw; first | (go_simp; done) | (go_simp; with_reducible rfl)
          refine wpAnyD_take (i := 15) (v := ?_) rfl (by kernel_rfl) (by kernel_rfl) (by kernel_rfl) (by kernel_rfl) (fun _ _ _ h => h) (Or.inl ⟨by rfl, ?_⟩) hS0 ?_
          rotate_left
          · intro w hw; obtain ⟨s1', s2', ⟨s3', s4', s5'⟩, ⟨s6', s7'⟩⟩ := hw; first | (go_simp; done) | (go_simp; with_reducible rfl)
          refine wpAnyD_take (i := 16) (v := ?_) rfl (by kernel_rfl) (by kernel_rfl) (by kernel_rfl) (by kernel_rfl) (fun _ _ _ h => h) (Or.inl ⟨by rfl, ?_⟩) hS0 ?_
          rotate_left
          · intro w hw; obtain ⟨s1', s2', ⟨s3', s4', s5'⟩, ⟨s6', s7'⟩⟩ := hw; first | (go_simp; done) | (go_simp; with_reducible rfl)
          refine wpAnyD_one (i := 8) (by kernel_rfl) rfl (fun KK hKK => ?_)
          go_simp
          go_at_call 63
          refine (less_any n n (Nat.le_refl n) (by omega) (redN RV RC pl F k).1 (RV k) q _ _ _ _ _ _ hA2 vV2 CF2 (lv K k + lv K k) fA3.out fV3.out ff (by omega)).mono ?_; rintro e w6 ⟨v6, rfl, o6, hb6⟩
          obtain ⟨uo, uc, rfl, hvec6⟩ := o6.vec
          have hS6 := hK' _ _ hS0 hb6
          have Hs6 := hid hS6
          have lG6 : G < w6.heap.size := Nat.lt_of_lt_of_le lGd hb6.size
          try go_simp
          refine hKK _ _ ⟨fun _ => hS6, ?_⟩; clear hKK KK
          refine wpAnyD_take (i := 18) (v := ?_) rfl (by kernel_rfl) (by kernel_rfl) (by kernel_rfl) (by kernel_rfl) (fun _ _ _ h => h) (Or.inl ⟨by rfl, ?_⟩) hS6 ?_
          rotate_left
          · intro w _; first | (go_simp; done) | (go_simp; with_reducible rfl)
          refine wpAnyD_one (i := 17) (by kernel_rfl) rfl (fun KK hKK => ?_)
          go_simp
          go_at_call 63
          refine (less_any nc nc (Nat.le_refl nc) (by omega) (fun i => - (redN RV RC pl F k).2 i) (RC k) q _ _ _ _ _ _ ((hT2.nextV hdd).nextV hb6) ((hC2.out.nextV hdd).nextV hb6) (CF2.next hb6) (lv K k + lv K k) fT.out fC3.out ff (by omega)).mono ?_; rintro e w7 ⟨v7, rfl, o7, hb7⟩
          obtain ⟨wo, wcap, rfl, hvec7⟩ := o7.vec
          have hS7 := hK' _ _ Hs6.out hb7
          obtain ⟨z0, z1⟩ := hS7.2.2.2
          have z2 : w7.frozen? ⟨G, 0, none⟩ = false := (((bcell hb7).2 _ _ lG6).trans ((bcell hb6).2 _ _ lGd)).trans y0
          have z3 : w7.frozen? ⟨G, 1, none⟩ = false := (((bcell hb7).2 _ _ lG6).trans ((bcell hb6).2 _ _ lGd)).trans y1
          try go_simp
          refine hKK _ _ ⟨fun _ => hS7, ?_⟩; clear hKK KK
          refine wpAnyD_one (i := 19) (by kernel_rfl) rfl (fun KK hKK => ?_)
          go_simp
          refine hKK _ _ ⟨fun hn => absurd (by simp) hn, ?_⟩; clear hKK KK
          refine wpAnyD_one (i := 20) (by kernel_rfl) rfl (fun KK hKK => ?_)
          go_simp
          refine hKK _ _ ⟨fun hn => absurd (by simp) hn, ?_⟩; clear hKK KK
          refine wpAnyD_one (i := 21) (by kernel_rfl) rfl (fun KK hKK => ?_)
          go_simp
          refine hKK _ _ ⟨fun hn => absurd (by simp) hn, ?_⟩; clear hKK KK
          refine wpAnyD_done (by kernel_rfl) ?_ _
          have hG7 := ((hG.next hdd).next hb6).next hb7
          have h07 := ((h0.next hdd).next hb6).next hb7
          have hv7 := hvec6.nextC hb7
          have hne : ∀ g', (Value.slice wo nc wcap).ownBlock = some g' → g' ≠ G := fun g' hg' => by
            obtain ⟨xs', ho', _⟩ := o7
            have := (ho'.lt hg').1
            omega
          have r5 : Hid (∀ q', (Value.slice uo n uc).ownBlock = some q' → (Value.slice wo nc wcap).ownBlock ≠ some q') := hid (fun q' hq' hq'' => by
            obtain ⟨xs', ho', _⟩ := o6
            obtain ⟨xs'', ho'', _⟩ := o7
            have l1 := (ho'.lt hq').2
            have l2 := (ho''.lt hq'').1
            omega)
          have r1 := hG7.put (.slice uo n uc) (.slice wo nc wcap)
          have r2 := h07.keep (x1 := .slice uo n uc) (y1 := .slice wo nc wcap) (by omega) hG7.ge
          have r3 := (hG7.vec (x1 := .slice uo n uc) (x2 := .slice wo nc wcap) (isSl_s _ _ _) (isSl_s _ _ _) hv7).congr (G := (redN RV RC pl F (k + 1)).1) (fun i hi => by
            show (redN RV RC pl F k).1 i - RV k i * q = (redN RV RC pl F k).1 i - redF (redN RV RC pl F k).1 ⟨RV k, RC k, pl k⟩ * RV k i
            rw [Hq.out, Rat.mul_comm])
          have r4 := (hG7.vown (x1 := .slice uo n uc) (y1 := .slice wo nc wcap) (isSl_s _ _ _) (isSl_s _ _ _) (o7.mono (base' := w.heap.size + 1) (by omega)) hne).congr (G := fun i => - (redN RV RC pl F (k + 1)).2 i) (fun i hi => by
            show - (redN RV RC pl F k).2 i - RC k i * q = - ((redN RV RC pl F k).2 i + redF (redN RV RC pl F k).1 ⟨RV k, RC k, pl k⟩ * RC k i)
            rw [Hq.out, Rat.mul_comm, Rat.neg_add, Rat.sub_eq_add_neg])
          clear hG h0 hv ho vV vC hG7 h07 hv7 o6 o7 hvec7 hvec6 hS6 hS7 z0 z1 z2 z3 y0 y1 hS0
          go_wp2_with fail
          go_roundw
          case rel => exact ⟨k + 1, uo, uc, wo, wcap, by omega, by go_num, r1, r2, r3, r4, r5⟩
          case measure => simp [intOf]; omega
      · obtain rfl : k = m := by omega
        obtain ⟨x0, x1⟩ := hG.c2
        obtain ⟨z0, z1⟩ := h0.c2
        have y0 := h0.free 0
        have y1 := h0.free 1
        have hres1 := h0.vec (isSl_s none 0 0) (isSl_s none 0 0) (x1 := .slice g1 n c1) (x2 := .slice g2 nc c2) hv
        have hres2 := h0.vown (isSl_s none 0 0) (isSl_s none 0 0) (x1 := .slice g1 n c1) (y1 := .slice g2 nc c2) ho (fun g hg => by
          obtain ⟨xs, ho', _⟩ := ho
          have := (ho'.lt hg).1
          omega)
        have hbf := (h0.put (.slice g1 n c1) (.slice g2 nc c2))
        have hlw := h0.lt
        go_wp2_with fail
        refine bodyPost_ret (v := .agg #[.slice g1 n c1, .slice g2 nc c2]) (by simp [results, Try.results42, go_sem, x0, x1, z0, z1, y0, y1]) rfl ?_
        exact ⟨g1, c1, g2, c2, rfl, hres1, hres2.mono (by omega), hdis.out, hbf.bel⟩

end Go.Proofs.Ytcoidofchofljaa

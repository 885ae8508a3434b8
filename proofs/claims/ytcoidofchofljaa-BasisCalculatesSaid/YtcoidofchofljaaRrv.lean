/-
  The contract of the reference's Select. No condition but sizes.
-/
import Derived.Test.YtcoidofchofljaaRru
import Derived.Test.YtcoidofchofljaaBau
namespace Go.Proofs.Ytcoidofchofljaa
open Go.RowKit
set_option linter.unusedSimpArgs false
set_option linter.unusedVariables false

theorem ROwn.fr {w w' : World} {base m n nc : Nat} {v : Value} {RV RC : Nat → V} {T : Nat → Prop} (h : ROwn w base v m n nc RV RC) (hs : Srt T w) (hf : Fr T w w') (hv : ∀ g, v.ownBlock = some g → ¬ T g) : ROwn w' base v m n nc RV RC := by
  obtain ⟨xs, h1, h2⟩ := h
  refine ⟨xs, h1.fr hf hv, fun i hi => ?_⟩
  obtain ⟨ro, rc, so, sc, x1, x2, v1, v2⟩ := h2 i hi
  exact ⟨ro, rc, so, sc, x1, x2, v1.frC hs hf, v2.frC hs hf⟩

set_option maxHeartbeats 4000000 in
theorem rSelect_any (K : Nat) (ao : Option Addr) (m cap : Nat) (L : Nat → Nat) (F : Nat → V) (w : World) (h : Mat RatV w ao m cap L F) (hm : m ≤ 256) (hL : ∀ i, i < m → L i ≤ 100000) (hK : 1 ≤ K) (hF : ∀ i, i < m → ∀ j, j < L i → Fit K (F i j)) (hbig : lv K m ≤ 500000) :
    Calls Try.prog 24 #[.slice ao m cap] w (SeOut w m L F) := by
  have hmb := h.bound
  by_cases hok : OkL m L
  case neg =>
    have hsz := hid (fun q => sized_any RatV ao m cap L F (w.drewN q) (h.nextV (below_drewNs q)) hL)
    rw [okB_false hok] at hsz
    have Hok := hid hok
    clear hok hL hF
    go_enter Try.func24, Try.ntmps24
    go_wp2_with fail
    refine (hsz.out 0).mono ?_; rintro e w1 ⟨rfl, q, rfl⟩
    go_wp2_with fail
    go_ret2
    exact .inl ⟨Hok.out, rfl, below_drewNs _⟩
  case pos =>
    obtain ⟨n, hnL⟩ : ∃ n, L 0 = n := ⟨_, rfl⟩
    have hLn : ∀ i, i < m → L i = n := fun i hi => by rw [(hok i hi).2, hnL]
    have hn1 : 0 < m → n ≤ 64 := fun h0 => by rw [← hnL]; exact (hok 0 h0).1.2
    have h3 : Mat RatV w ao m cap (fun _ => n) F := h.lens hLn
    have HF : Hid (∀ i, i < m → ∀ j, j < n → Fit K (F i j)) := hid (fun i hi j hj => hF i hi j (by rw [hLn i hi]; exact hj))
    have hsz := hid (fun q => sized_any RatV ao m cap L F (w.drewN q) (h.nextV (below_drewNs q)) hL)
    rw [okB_true hok] at hsz
    have Hok := hid hok
    have Hn := hid hnL
    have hbig2 : ∀ k, k ≤ m → lv K k ≤ 500000 := fun k hk => Nat.le_trans (lv_le hk) hbig
    have Hbig := hid hbig2
    have Hn1 := hid hn1
    clear hok hL hF hLn hnL hbig2 hn1
    go_enter Try.func24, Try.ntmps24
    go_wp2_with fail
    refine (hsz.out 0).mono ?_; rintro e w1 ⟨rfl, q, rfl⟩
    have hb0 : Below w.heap.size w ((w.drewN 0).drewN q) := below_drewNs _
    go_wp2_with fail
    go_loopw [6, 5, 4] (fun iv lv' ov wr => ∃ k : Nat, k ≤ m ∧ iv = .int .i64 k ∧ ROwn wr w.heap.size lv' (selK n F k).1.length n 0 (rv (selK n F k).1) (rcf (selK n F k).1) ∧ Own IsI64 wr w.heap.size 3 1 ov (selK n F k).2.length (natI (selK n F k).2) ∧ Below w.heap.size w wr) (fun i _ _ _ => m - (intOf i).toNat)
    case atStart => exact ⟨0, by omega, rfl, ROwn.nil _ _ _ _ _ _, Own.nil _ _ _ _ _, below_drewNs _⟩
    case round =>
      clear hb0
      obtain ⟨k, hk, rfl, hown, hout, hbel⟩ := hrel
      by_cases hlt : k < m
      · obtain ⟨b, o, rfl, ro, rc, hcell, hv⟩ := (h3.nextV hbel).get hlt
        obtain ⟨lo, lc, rfl, hmat⟩ := hown.mat
        have hFk := hid (HF.out k hlt)
        have hfit := hid (selK_fit (n := n) (F := F) hK k (fun i hi j hj => HF.out i (by omega) j hj))
        obtain ⟨sl1, sl2⟩ := selK_len n F k
        obtain ⟨M, hM⟩ : ∃ M, (selK n F k).1.length = M := ⟨_, rfl⟩
        have hMk : M ≤ k := by omega
        have hgood := hid (selK_good n F k).1
        have hbM := Hbig.out M (by omega)
        have hnn := Hn1.out (by omega)
        have HM := hid hM
        rw [hM] at hmat
        have hred := hid (rreduce_any M n 0 K (rv (selK n F k).1) (rcf (selK n F k).1) (rpl (selK n F k).1) (F k) lo lc ro rc wr hmat hv (by omega) (by omega) (by omega) hK hFk.out (fun j hj i hi => hfit.out.v j (by omega) i hi) (fun j hj i => hfit.out.c j (by omega) i) (fun j hj => hgood.out.lead j (by omega)) hbM)
        have hall := redN_all (selK n F k).1 (F k)
        rw [hM] at hall
        rw [hall] at hred
        obtain ⟨f1, _⟩ := hfit.out.red hK hFk.out
        have f1 := hid f1
        rw [hM] at f1
        rw [hM] at hown
        simp only [hM]
        clear hall hM
        go_wp2_with fail
        refine hred.out.mono ?_; rintro e w2 ⟨g1, c1, g2, c2, rfl, hv2, ho2, _, hb2⟩
        have hba : Below w2.heap.size w2 (w2.alloc (.cells #[.slice g1 n c1, .slice g2 0 c2] 69)) := below_alloc _
        have hC2 : Vec RatC w2 g2 0 c2 (fun i => - (red (selK n F k).1 (F k)).2 i) := by
          obtain ⟨uo, uc, e, hvec⟩ := ho2.vec
          injection e with e1 _ e2
          subst e1 e2
          exact hvec
        have hv3 := hv2.nextC hba
        have hC3 := hC2.nextC hba
        have hR : C2 w2.heap.size (.slice g1 n c1) (.slice g2 0 c2) (w2.alloc (.cells #[.slice g1 n c1, .slice g2 0 c2] 69)) := ⟨by simp [go_sem], by simp [go_sem]⟩
        have hv4 := hv3.toV f1.out (by omega)
        have hbx := below_chain hb2 hba
        clear hv2 ho2 hC2 hba
        cases hld : leadOf n (red (selK n F k).1 (F k)).1 with
        | none =>
          have hli := hid (leadI_no (leadOf_none hld))
          have hse := selK_none (n := n) (f := F) (k := k) (addV_none.2 (leadOf_none hld))
          clear hld
          go_wp2_with fail
          refine (refLead_any _ _ _ _ _ hv4).mono ?_; rw [hli.out]; rintro e w5 ⟨rfl, hb5⟩
          have hby := below_chain hbx hb5
          have hbel5 := below_chain hbel hby
          have hown5 : ROwn w5 w.heap.size (.slice lo M lc) (selK n F (k + 1)).1.length n 0 (rv (selK n F (k + 1)).1) (rcf (selK n F (k + 1)).1) := by
            rw [hse, HM.out]; exact hown.next hby
          have hout5 := hout.below hby
          rw [← hse] at hout5
          clear hown hout hse
          go_wp2_with fail
          go_roundw
          case rel => exact ⟨k + 1, by omega, by go_num, hown5, hout5, hbel5⟩
          case measure => simp [intOf]; omega
        | some p =>
          have hli := hid (leadI_of hld)
          have hadd : addV n (selK n F k).1 (F k) = some (rowOf M (red (selK n F k).1 (F k)) p) := by unfold addV; rw [hld, HM.out]; rfl
          have hse := selK_some hadd
          have hse1 : Hid ((selK n F (k + 1)).1 = (selK n F k).1 ++ [rowOf M (red (selK n F k).1 (F k)) p]) := hid (by rw [hse])
          have hse2 : Hid ((selK n F (k + 1)).2 = (selK n F k).2 ++ [k]) := hid (by rw [hse])
          clear hld hadd hse
          go_wp2_with fail
          refine (refLead_any _ _ _ _ _ hv4).mono ?_; rw [hli.out]; rintro e w5 ⟨rfl, hb5⟩
          have hby := below_chain hbx hb5
          have hbel5 := below_chain hbel hby
          have hv5 := hv3.nextC hb5
          have hC5 := hC3.nextC hb5
          obtain ⟨r0, r1⟩ := hR.next hb5
          have hba : Below w5.heap.size w5 (w5.alloc (.cells #[.slice g1 n c1, .slice g2 0 c2] 69)) := below_alloc _
          have hownA := (hown.next hby).next hba
          have houtA := (hout.below hby).below hba
          have hcA : C2 w5.heap.size (.slice g1 n c1) (.slice g2 0 c2) (w5.alloc (.cells #[.slice g1 n c1, .slice g2 0 c2] 69)) := ⟨by simp [go_sem], by simp [go_sem]⟩
          have hvA := hv5.nextC hba
          have hwA := hC5.nextC hba
          have hbelA := below_chain hbel5 hba
          have hbz : w.heap.size ≤ (w5.alloc (.cells #[.slice g1 n c1, .slice g2 0 c2] 69)).heap.size := hbelA.size
          have hdiff := hownA
          obtain ⟨xsd, hod, _⟩ := hdiff
          have hnb := own_ne houtA.1 hod.1 (by decide)
          have Hnb := hid hnb
          have HoutA := hid houtA
          clear hown hout hv3 hC3 hR hv4 hv5 hC5 hod hnb houtA
          go_wp2_with (at_builtin; go_loud (refine wp_appR rfl (.tmp 32) (.tmp 34) rfl w.heap.size _ M n 0 (rv (selK n F k).1) (rcf (selK n F k).1) rfl hownA w5.heap.size 1 rfl g1 c1 g2 c2 hcA _ _ hvA hwA (by omega) hbz ?_))
          intro v' w8 hown8 hg8 hb8 hq8
          have hbel8 : Below w.heap.size w w8 := hbelA.trans hb8
          have hout8 : Own IsI64 w8 w.heap.size 3 1 _ (selK n F k).2.length (natI (selK n F k).2) := HoutA.out.fr (T := fun b => Value.ownBlock _ = some b) (grown_fr hg8 fun g hg => hg) fun g hg hT => by
            rcases Hnb.out with e | e
            · rw [e] at hg; cases hg
            · exact e (hg.trans hT.symm)
          have hown9 : ROwn w8 w.heap.size v' (selK n F (k + 1)).1.length n 0 (rv (selK n F (k + 1)).1) (rcf (selK n F (k + 1)).1) := by
            rw [hse1.out, List.length_append, HM.out]
            exact hown8.congr (fun i hi j hj => by
              unfold updF rv
              by_cases hik : i = M
              · rw [if_pos hik, hik, ← HM.out, getD_snoc_at]; rfl
              · rw [if_neg hik, getD_snoc_lt (by rw [HM.out]; omega)]) (fun i hi j hj => by omega)
          have hba9 : Below w8.heap.size w8 (w8.alloc (.cells #[.int .i64 k] 3)) := below_alloc _
          have hown10 := hown9.next hba9
          have hout10 := hout8.below hba9
          have hbel10 := below_chain hbel8 hba9
          have hdiff := hown10
          obtain ⟨xsd, hod, _⟩ := hdiff
          have Hnb2 := hid (own_ne hod.1 hout10.1 (by decide))
          have hnews : ∀ j u, [Value.int .i64 (k : Int)][j]? = some u → (w8.alloc (.cells #[.int .i64 k] 3)).cell? ((⟨w8.heap.size, 0, none⟩ : Addr).add j) = some u := fun j u hu => by
            rw [Addr.add_lit, Nat.zero_add]
            rcases j with _ | j
            · simp at hu; subst hu; simp [go_sem]
            · simp at hu
          have hone : ∀ u ∈ [Value.int .i64 (k : Int)], u.oneCell' = true := fun u hu => by rw [List.mem_singleton] at hu; subst hu; rfl
          have hkind : ∀ u ∈ [Value.int .i64 (k : Int)], IsI64 u := fun u hu => by rw [List.mem_singleton] at hu; subst hu; exact ⟨_, rfl⟩
          have hzero : ∀ c ∈ (Value.int .i64 0).cells, IsI64 c := fun c hc => ⟨0, by simpa [Value.cells] using hc⟩
          have Hnews := hid hnews
          have Hone := hid hone
          have Hkind := hid hkind
          have Hzero := hid hzero
          have hbz2 : w.heap.size ≤ (w8.alloc (.cells #[.int .i64 k] 3)).heap.size := hbel10.size
          clear hnews hone hkind hzero hown8 hg8 hb8 hq8 hout8 hown9 hod hownA hcA hvA hwA hbz
          go_wp2_with (at_builtin; go_loud (refine wp_own rfl (.tmp 36) (.tmp 38) 22 rfl IsI64 3 (.int .i64 0) 1 8 Try.underlying22 Try.infoI64 rfl (by decide) Hzero.out w.heap.size _ _ _ rfl hout10 ⟨w8.heap.size, 0, none⟩ 1 1 [.int .i64 k] rfl rfl Hnews.out Hone.out Hkind.out (by decide) (by omega) (by omega) hbz2 ?_))
          intro v'' w11 hout11 hg11 hb11 _
          have hbel11 : Below w.heap.size w w11 := hbel10.trans hb11
          have hown11 : ROwn w11 w.heap.size v' (selK n F (k + 1)).1.length n 0 (rv (selK n F (k + 1)).1) (rcf (selK n F (k + 1)).1) := hown10.fr (T := fun b => Value.ownBlock _ = some b) (fun b o c hc _ k2 => hout10.srt hc k2) (grown_fr hg11 fun g hg => hg) fun g hg hT => by
            rcases Hnb2.out with e | e
            · rw [e] at hg; cases hg
            · exact e (hg.trans hT.symm)
          have hout12 : Own IsI64 w11 w.heap.size 3 1 v'' (selK n F (k + 1)).2.length (natI (selK n F (k + 1)).2) := by
            rw [hse2.out]
            unfold natI at hout11 ⊢
            rw [List.map_append, List.length_append]
            exact hout11
          clear hown10 hout10 hout11 hg11 hb11
          go_wp2_with fail
          go_roundw
          case rel => exact ⟨k + 1, by omega, by go_num, hown11, hout12, hbel11⟩
          case measure => simp [intOf]; omega
      · obtain rfl : k = m := by omega
        go_wp2_with fail
        go_ret2
        refine .inr ⟨_, Hok.out, rfl, ?_, hbel⟩
        rw [Hn.out]
        exact hout

end Go.Proofs.Ytcoidofchofljaa

/-
  The contract of slices.SortFunc at monomials, with the closure of a sum's list. No condition but sizes.
-/
import Derived.Shelf.SlSortCmp.NoneTotal
import Derived.Test.YtgohfieleckmgaaGreatDoorPoa
namespace Go.Proofs.YtgohfieleckmgaaGreatDoor
open Go.Shelf Go.RowKit Go.Lib
set_option linter.unusedSimpArgs false
set_option linter.unusedVariables false

def Tryz.laysSort_ren : Go.Shelf.Ren := ⟨fun | 6 => 98 | 15 => 131 | 14 => 130 | 28 => 160 | 29 => 161 | 20 => 152 | 21 => 153 | 22 => 154 | 23 => 155 | 24 => 156 | 25 => 157 | 26 => 158 | 27 => 159 | 46 => 179 | 47 => 180 | 48 => 181 | 49 => 182 | 50 => 183 | 57 => 208 | n => n, fun | 22 => 22 | 24 => 59 | 25 => 107 | 3 => 3 | 39 => 119 | 0 => 0 | 53 => 102 | 55 => 117 | 4 => 4 | 46 => 156 | 45 => 155 | 50 => 160 | 5 => 5 | 9 => 9 | 66 => 175 | 70 => 179 | 76 => 202 | 77 => 203 | n => n, fun | n => n⟩

theorem Tryz.laysSort : Go.Proofs.SlLaysF0.n6 Tryz.prog Tryz.laysSort_ren := {
  mixed := by kernel_rfl
  f6 := ⟨Tryz.f98.name, by decide, Tryz.func98.trans (congrArg some (by kernel_rfl))⟩
  f14 := ⟨Tryz.f130.name, by decide, Tryz.func130.trans (congrArg some (by kernel_rfl))⟩
  f15 := Tryz.func131.trans (congrArg some (by kernel_rfl))
  f20 := ⟨Tryz.f152.name, by decide, Tryz.func152.trans (congrArg some (by kernel_rfl))⟩
  f21 := ⟨Tryz.f153.name, by decide, Tryz.func153.trans (congrArg some (by kernel_rfl))⟩
  f22 := ⟨Tryz.f154.name, by decide, Tryz.func154.trans (congrArg some (by kernel_rfl))⟩
  f23 := ⟨Tryz.f155.name, by decide, Tryz.func155.trans (congrArg some (by kernel_rfl))⟩
  f24 := ⟨Tryz.f156.name, by decide, Tryz.func156.trans (congrArg some (by kernel_rfl))⟩
  f25 := ⟨Tryz.f157.name, by decide, Tryz.func157.trans (congrArg some (by kernel_rfl))⟩
  f26 := ⟨Tryz.f158.name, by decide, Tryz.func158.trans (congrArg some (by kernel_rfl))⟩
  f27 := ⟨Tryz.f159.name, by decide, Tryz.func159.trans (congrArg some (by kernel_rfl))⟩
  f28 := Tryz.func160.trans (congrArg some (by kernel_rfl))
  f29 := Tryz.func161.trans (congrArg some (by kernel_rfl))
  f46 := ⟨Tryz.f179.name, by decide, Tryz.func179.trans (congrArg some (by kernel_rfl))⟩
  f47 := Tryz.func180.trans (congrArg some (by kernel_rfl))
  f48 := Tryz.func181.trans (congrArg some (by kernel_rfl))
  f49 := ⟨Tryz.f182.name, by decide, Tryz.func182.trans (congrArg some (by kernel_rfl))⟩
  f50 := ⟨Tryz.f183.name, by decide, Tryz.func183.trans (congrArg some (by kernel_rfl))⟩
  f57 := ⟨Tryz.f208.name, by decide, Tryz.func208.trans (congrArg some (by kernel_rfl))⟩
  t0 := Tryz.underlying0
  a0 := Tryz.isAgg0
  z0 := Tryz.sizeOf0
  v0 := Tryz.zeroValue0
  t3 := Tryz.underlying3
  a3 := Tryz.isAgg3
  z3 := Tryz.sizeOf3
  v3 := Tryz.zeroValue3
  t4 := Tryz.underlying4
  a4 := Tryz.isAgg4
  z4 := Tryz.sizeOf4
  v4 := Tryz.zeroValue4
  t5 := Tryz.underlying5
  a5 := Tryz.isAgg5
  z5 := Tryz.sizeOf5
  v5 := Tryz.zeroValue5
  t9 := Tryz.underlying9
  a9 := Tryz.isAgg9
  z9 := Tryz.sizeOf9
  v9 := Tryz.zeroValue9
  t22 := Tryz.underlying22
  a22 := Tryz.isAgg22
  z22 := Tryz.sizeOf22
  v22 := Tryz.zeroValue22
  t25 := Tryz.underlying107
  a25 := Tryz.isAgg107
  z25 := Tryz.sizeOf107
  v25 := Tryz.zeroValue107
  t39 := Tryz.underlying119
  a39 := Tryz.isAgg119
  z39 := Tryz.sizeOf119
  v39 := Tryz.zeroValue119
  t45 := Tryz.underlying155
  a45 := Tryz.isAgg155
  z45 := Tryz.sizeOf155
  v45 := Tryz.zeroValue155
  t46 := Tryz.underlying156
  a46 := Tryz.isAgg156
  z46 := Tryz.sizeOf156
  v46 := Tryz.zeroValue156
  t50 := Tryz.underlying160
  a50 := Tryz.isAgg160
  z50 := Tryz.sizeOf160
  v50 := Tryz.zeroValue160
  t53 := Tryz.underlying102
  a53 := Tryz.isAgg102
  z53 := Tryz.sizeOf102
  v53 := Tryz.zeroValue102
  t55 := Tryz.underlying117
  a55 := Tryz.isAgg117
  z55 := Tryz.sizeOf117
  v55 := Tryz.zeroValue117
  t66 := Tryz.underlying175
  a66 := Tryz.isAgg175
  z66 := Tryz.sizeOf175
  v66 := Tryz.zeroValue175
  t70 := Tryz.underlying179
  a70 := Tryz.isAgg179
  z70 := Tryz.sizeOf179
  v70 := Tryz.zeroValue179
  t76 := Tryz.underlying202
  a76 := Tryz.isAgg202
  z76 := Tryz.sizeOf202
  v76 := Tryz.zeroValue202
  t77 := Tryz.underlying203
  a77 := Tryz.isAgg203
  z77 := Tryz.sizeOf203
  v77 := Tryz.zeroValue203 }

instance : Inhabited Mp := ⟨(((0, 0, 0), false, (none, 0, 0), (none, 0, 0)), 0)⟩
/-- The order of a sum's list: negative where x is the greater one. -/
def cfP (x y : Mp) : Int := ordI x.1.1 y.1.1
theorem ltP (x y : Mp) : ltOf cfP x y = gtI x.1.1 y.1.1 := by
  unfold ltOf cfP
  by_cases h : gtI x.1.1 y.1.1 = true
  · rw [h]; exact decide_eq_true (ordI_neg.2 h)
  · rw [Bool.not_eq_true] at h
    rw [h]; exact decide_eq_false fun k => by rw [ordI_neg.1 k] at h; cases h
theorem swoP : Go.Sort.SWO (ltOf cfP) where
  irrefl x := by rw [ltP]; exact gtI_irrefl _
  trans x y z h1 h2 := by rw [ltP] at *; exact gtI_trans h1 h2
  ntrans x y z h1 h2 := by
    rw [ltP] at *
    cases h : gtI x.1.1 z.1.1 with
    | false => rfl
    | true =>
      unfold gtI at *
      simp only [Bool.or_eq_true, Bool.and_eq_true, decide_eq_true_eq, Bool.or_eq_false_iff, Bool.and_eq_false_iff, decide_eq_false_iff_not] at *
      omega

/-- The row's cells, flat. -/
theorem flatP (ps : List Mp) : Go.Sort.flatK encP 6 ps.toArray = (ps.flatMap encP).toArray := by
  refine Array.ext (by rw [Go.Sort.size_flatK, List.size_toArray, List.size_toArray, len_flat]) fun t h1 h2 => ?_
  have ht : t < ps.length * 6 := by rw [Go.Sort.size_flatK, List.size_toArray] at h1; exact h1
  have hi : t / 6 < ps.length := by omega
  have hg := get_flat ps (t / 6) (t % 6) _ (List.getElem?_eq_getElem hi) (by omega)
  rw [show t / 6 * 6 + t % 6 = t by omega] at hg
  have e1 : (Go.Sort.flatK encP 6 ps.toArray)[t]! = (Go.Sort.flatK encP 6 ps.toArray)[t] := getElem!_pos _ t h1
  rw [← e1, Go.Sort.get_flatK encP 6 ps.toArray t (by rw [List.size_toArray]; exact ht)]
  have e2 : ps.toArray[t / 6]! = ps[t / 6] := by rw [getElem!_pos ps.toArray (t / 6) (by rw [List.size_toArray]; exact hi)]; simp
  rw [e2]
  have h6 : t % 6 < (encP ps[t / 6]).length := by rw [encP, len_enc]; omega
  rw [getElem!_pos (encP ps[t / 6]) (t % 6) h6]
  have e3 : (ps.flatMap encP)[t]? = some (ps.flatMap encP).toArray[t] := by
    rw [List.getElem?_eq_getElem (by rw [len_flat]; exact ht)]; simp
  rw [e3] at hg
  have e4 : (encM ps[t / 6].1)[t % 6]? = some (encP ps[t / 6])[t % 6] := by rw [← encP]; exact List.getElem?_eq_getElem h6
  rw [e4] at hg
  exact (Option.some.inj hg).symm

set_option maxRecDepth 10000 in
set_option maxHeartbeats 1000000 in
/-- The closure: 'order(m.Exps, n.Exps)'. -/
theorem closure_any (x y : Mp) (W : World) : Calls Tryz.prog 99 #[.agg (encP x).toArray, .agg (encP y).toArray] W fun e w' => e = .returned (.int .i64 (cfP x y)) ∧ ∃ q os', w' = Go.Sort.grow (W.drewN q) os' := by
  have hcon := hid (fun W' => order_any x.1.1 y.1.1 W')
  obtain ⟨r, hr⟩ : ∃ r, ordI x.1.1 y.1.1 = r := ⟨_, rfl⟩
  have hcf : cfP x y = r := hr
  rw [hcf]
  rw [hr] at hcon
  clear hcf hr
  obtain ⟨⟨⟨x1, x2, x3⟩, s, ⟨xo, xn, xc⟩, yo, yn, yc⟩, q⟩ := x
  obtain ⟨⟨⟨y1, y2, y3⟩, s', ⟨xo', xn', xc'⟩, yo', yn', yc'⟩, q'⟩ := y
  dsimp only at hcon
  dsimp only [encP, encM]
  go_enter Tryz.func99, Tryz.ntmps99
  go_wp2_with fail
  refine (hcon.out _).mono ?_; rintro e w1 ⟨rfl, k, rfl⟩
  go_wp2_with fail
  go_ret
  exact ⟨rfl, k, _, by rw [Go.Sort.alloc_eq_grow, Go.Sort.alloc_eq_grow, Go.Sort.alloc_eq_grow, Go.Sort.alloc_eq_grow, Go.Sort.grow_grow, Go.Sort.grow_grow, Go.Sort.grow_grow]; rfl⟩

theorem sort_lays (blk off size : Nat) (w : World) : CmpLays Tryz.prog 99 #[] encP 6 cfP blk off size w :=
  fun _ _ _ _ x y => closure_any x y _

/-- Sorted, the greater ones first. -/
def FallP (ps : List Mp) : Prop := ps.Pairwise fun a b => gtI b.1.1 a.1.1 = false

theorem sort_any (base n : Nat) (v : Value) (ps : List Mp) (w : World) (h : POwn w base v n ps) (h0 : n = 0 → v = .slice none 0 0) (hn : n ≤ 1000000000) :
    Calls Tryz.prog 98 #[v, .func (.func 99) #[] #[]] w fun e w' => e = .returned (.tuple #[]) ∧
      ∃ ps', POwn w' base v n ps' ∧ ps'.Perm ps ∧ FallP ps' ∧ Below base w w' := by
  obtain ⟨hown, hl, hr⟩ := h
  rcases hown.1.2 with ⟨rfl, rfl⟩ | ⟨g, cap, cur, rfl, hb, hg, hnc, hcm, hcs, htake⟩
  · obtain rfl := List.eq_nil_of_length_eq_zero hl
    have hcon := AnyF.slices_SortFunc_none Tryz.laysSort none 0 (.func (.func 99) #[] #[]) w
    change Calls Tryz.prog 98 _ _ _ at hcon
    exact hcon.mono fun e w' ⟨he, hw⟩ => ⟨he, [], by rw [hw]; exact POwn.nil _ _, List.Perm.refl _, List.Pairwise.nil, by rw [hw]; exact Below.refl _ _⟩
  · subst hl
    have hgl : g < w.heap.size := (Array.getElem?_eq_some_iff.1 hg).1
    have hH : Go.Sort.HoldsK encP 6 w g 0 ps.toArray := by
      intro j hj
      rw [flatP] at hj ⊢
      have hj' : j < (ps.flatMap encP).length := by simpa using hj
      refine ⟨?_, by simp [World.frozen?, hg]⟩
      have := hown.1.cellAt j (by rw [len_flat] at hj'; exact hj')
      rw [Nat.zero_add, this, List.getElem?_eq_getElem hj', getElem!_pos _ j hj]
      simp
    have eg : ∀ args w, (callFunc 99 args).run Tryz.prog w = .ok (.enter 99 args) w := enters_of Tryz.func99 (by kernel_rfl) rfl
    have hcon := AnyQ.slices_SortFunc Tryz.laysSort 6 Tryz.isAgg59 Tryz.sizeOf59 encP (fun _ => rfl) (fun x u hu => one_enc x.1 u hu) cfP swoP 99 #[] g 0 cap ps.toArray w eg (sort_lays g 0 _ w) hH hgl (by rw [List.size_toArray]; omega)
    change Calls Tryz.prog 98 _ _ _ at hcon
    rw [List.size_toArray] at hcon
    refine hcon.mono ?_
    rintro e w' ⟨he, d', m, os, hp, hs, rfl⟩
    obtain ⟨ps', rfl⟩ : ∃ ps', d' = List.toArray ps' := ⟨d'.toList, by simp⟩
    have hsz : ps'.length = ps.length := by have := hp.1; simpa using this
    have hperm : ps'.Perm ps := by
      have := hp.2.2
      have h1 : List.take ps.length ps' = ps' := List.take_of_length_le (by omega)
      simpa [h1] using this
    have hw : sortWorldK encP 6 w g 0 m ps'.toArray os = Go.Sort.grow (Go.Sort.putRow id (Go.Sort.ahead w m) g 0 (ps'.flatMap encP).toArray) os := by
      unfold sortWorldK Go.Sort.putRowK; rw [flatP]
    have hheap : (sortWorldK encP 6 w g 0 m ps'.toArray os).heap[g]? = some (.cells (Go.Sort.putCells id 0 (ps'.flatMap encP).toArray cur) 59 (0, 0)) := by
      rw [hw, Go.Sort.heap_grow_old _ _ (by simpa using hgl)]
      simp [Go.Sort.putRow, Go.Sort.mapBlock, Go.Sort.ahead, Array.getElem?_modify, hg, Go.Sort.onCells]
    have hgr : w.grownBy (sortWorldK encP 6 w g 0 m ps'.toArray os) (some g) := by
      rw [hw]
      refine ⟨rfl, rfl, rfl, by simp, fun k hk hne => ?_⟩
      rw [Go.Sort.heap_grow_old _ _ (by simpa using hk)]
      have : g ≠ k := fun e => hne (by rw [e])
      simp [Go.Sort.putRow, Go.Sort.mapBlock, Go.Sort.ahead, Array.getElem?_modify, this]
    have hlf : (ps'.flatMap encP).length = ps.length * 6 := by rw [len_flat, hsz]
    have hcap : ps.length * 6 ≤ cur.size := by rw [hcs]; exact Nat.mul_le_mul_right _ hnc
    have hput : ∀ j, (Go.Sort.putCells id 0 (ps'.flatMap encP).toArray cur)[j]? = if j < ps.length * 6 then (ps'.flatMap encP)[j]? else cur[j]? := by
      intro j
      unfold Go.Sort.putCells
      rw [Array.getElem?_mapIdx]
      by_cases hj : j < ps.length * 6
      · rw [if_pos hj, Array.getElem?_eq_getElem (show j < cur.size by omega)]
        simp only [Option.map_some, Nat.zero_le, true_and, List.size_toArray, Nat.zero_add, hlf, hj, if_true, Nat.sub_zero, id]
        rw [getElem!_pos _ j (by rw [List.size_toArray, hlf]; exact hj), List.getElem?_eq_getElem (by rw [hlf]; exact hj)]
        simp
      · rw [if_neg hj]
        simp [hlf, hj]
    have hRat : ∀ p ∈ ps, RatC (sortWorldK encP 6 w g 0 m ps'.toArray os) (ratM p.1) p.2 := fun p hp => (hr p hp).grownU hown isMon_u32 hgr
    refine ⟨he, ps', ⟨⟨⟨by rw [len_flat, hsz], .inr ⟨g, cap, _, rfl, hb, hheap, hnc, hcm, by simp [Go.Sort.putCells, hcs], ?_⟩⟩, ?_⟩, hsz, fun p hp => hRat p (hperm.mem_iff.1 hp)⟩, hperm, ?_, ?_⟩
    · apply List.ext_getElem?
      intro j
      rw [List.getElem?_take, Array.getElem?_toList, hput]
      by_cases hj : j < ps.length * 6
      · rw [if_pos hj, if_pos hj]
      · rw [if_neg hj, List.getElem?_eq_none (by rw [hlf]; omega)]
    · intro g' hg' cur' t fr hh c hc
      simp only [Value.ownBlock, Option.some.injEq] at hg'
      subst hg'
      rw [hheap] at hh
      injection hh with hh
      injection hh with e1 _ _
      subst e1
      obtain ⟨j, hj, rfl⟩ := Array.mem_iff_getElem.1 hc
      have hj2 := hput j
      rw [Array.getElem?_eq_getElem hj] at hj2
      by_cases hlt : j < ps.length * 6
      · rw [if_pos hlt] at hj2
        exact (mem_flat (List.mem_of_getElem? hj2.symm)).1
      · rw [if_neg hlt] at hj2
        exact hown.2 g rfl cur _ _ hg _ (Array.mem_of_getElem? hj2.symm)
    · unfold FallP
      rw [List.pairwise_iff_getElem]
      intro i j hi hj hij
      have := hs i j (Nat.zero_le _) hij (by rw [← hsz]; exact hj)
      rw [ltP, getElem!_pos ps'.toArray i (by rw [List.size_toArray]; exact hi), getElem!_pos ps'.toArray j (by rw [List.size_toArray]; exact hj)] at this
      simpa using this
    · exact (Below.refl _ _).grown hgr (by omega) (fun k hk => by cases hk; exact hb)
end Go.Proofs.YtgohfieleckmgaaGreatDoor

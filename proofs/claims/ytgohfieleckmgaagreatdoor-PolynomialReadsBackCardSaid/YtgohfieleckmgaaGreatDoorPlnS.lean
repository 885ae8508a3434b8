/-
  Joined out of XPlm, XPln, XLst.
-/
import Derived.Test.YtgohfieleckmgaaGreatDoorPoa
import Derived.Maps.RangeWalk
import Derived.Maps.OwnOps
import Derived.Maps.OwnSet
import Derived.DeepKeys4
import Derived.Test.YtgohfieleckmgaaGreatDoorDrw
import Derived.Test.YtgohfieleckmgaaGreatDoorSrt
import Derived.Sort.OwnSorted

/-
  A polynomial in the making: a map of the call's own from exponents to coefficients. No condition but sizes.
-/
namespace Go.Proofs.YtgohfieleckmgaaGreatDoor
open Go.RowKit
open Go.Maps (Keyed)
set_option linter.unusedSimpArgs false
set_option linter.unusedVariables false

/-- A coefficient as a map's element: any three cells of a rational. -/
def cfR (v : Value) : Option (DataW Value × List MemPlace) :=
  match v with
  | .agg cs => match cs.toList with
    | [.bool _, .slice _ _ _, .slice _ _ _] => some (.held v, [])
    | _ => none
  | _ => none
theorem cfR_mk (s : Bool) (xo : Option Addr) (xn xc : Nat) (yo : Option Addr) (yn yc : Nat) : cfR (.agg #[.bool s, .slice xo xn xc, .slice yo yn yc]) = some (.held (.agg #[.bool s, .slice xo xn xc, .slice yo yn yc]), []) := rfl
abbrev Cf := Bool × (Option Addr × Nat × Nat) × (Option Addr × Nat × Nat)
def mkCf (c : Cf) : Value := .agg #[.bool c.1, .slice c.2.1.1 c.2.1.2.1 c.2.1.2.2, .slice c.2.2.1 c.2.2.2.1 c.2.2.2.2]
theorem cfR_inv {v : Value} {y : DataW Value × List MemPlace} (h : cfR v = some y) : (∃ c : Cf, v = mkCf c) ∧ y = (.held v, []) := by
  unfold cfR at h
  split at h
  · rename_i cs
    split at h
    · rename_i s xo xn xc yo yn yc hcs
      have e : cs = #[.bool s, .slice xo xn xc, .slice yo yn yc] := by
        cases cs; simpa using hcs
      subst e
      exact ⟨⟨(s, (xo, xn, xc), (yo, yn, yc)), rfl⟩, by injection h with h; exact h.symm⟩
    · cases h
  · cases h

/-! ### Keys -/
theorem Tryz.laidOut : laidOutB Tryz.prog = true := by kernel_rfl
theorem Tryz.deepE : Tryz.prog.keyTypeAt (Tryz.prog.types.size + 1) 57 = true := by kernel_rfl
theorem Tryz.wideE : (match Tryz.prog.underlying 57 with | some (.array _ _) | some (.struct _) => true | _ => false) = true := by rw [Tryz.underlying57]
theorem Tryz.rowE : (57 : TypeId) < Tryz.prog.types.size := of_decide_eq_true (by kernel_rfl)
set_option maxRecDepth 100000 in
theorem Tryz.lawE : Keyed Tryz.prog 57 := Keyed.of_law (deep_law_laid Tryz.laidOut (m := 2) (by decide) Tryz.rowE (by kernel_rfl) Tryz.wideE)
theorem Tryz.rows0 : ∃ n, Tryz.prog.types.size = n + 1 := ⟨Tryz.prog.types.size - 1, by have : (0 : Nat) < Tryz.prog.types.size := Nat.lt_of_le_of_lt (Nat.zero_le _) Tryz.rowE; omega⟩
theorem Tryz.cellsE : Tryz.prog.cellsOf 57 = 3 := by kernel_rfl
theorem Tryz.cellsI : Tryz.prog.cellsOf 3 = 1 := by kernel_rfl
theorem keyLits_int (d : Nat) (x : Int) (h : (Lit.int .i64 x).wf = true) : Tryz.prog.keyLits (d + 1) 3 [.int .i64 x] = some [.int .i64 x] := by
  simp [Program.keyLits, Tryz.underlying3, h]
theorem keyLits_arr (d : Nat) (cs : List Value) : Tryz.prog.keyLits (d + 1) 57 cs = if cs.length = 3 then ((List.range 3).mapM fun i => Tryz.prog.keyLits d 3 ((cs.drop (i * 1)).take 1)).map List.flatten else none := by
  rw [Program.keyLits.eq_def]
  simp only [Tryz.underlying57, Tryz.cellsE, Tryz.cellsI]
theorem keyE_some {e : Xp} (h1 : (Lit.int .i64 e.1).wf = true) (h2 : (Lit.int .i64 e.2.1).wf = true) (h3 : (Lit.int .i64 e.2.2).wf = true) : ∃ kl, keyOf Tryz.prog 57 (mkE e) = some kl := by
  obtain ⟨n, hn⟩ : ∃ n, Tryz.prog.types.size = n + 1 := Tryz.rows0
  unfold keyOf
  rw [Tryz.underlying57]
  have hk : Tryz.prog.keyType 57 = true := Tryz.deepE
  have hf : (mkE e).formed Tryz.prog 57 = true := by simp [mkE, Value.formed, Tryz.underlying57, Tryz.cellsE]
  simp only [hk, hf, Bool.and_self, if_true]
  rw [hn]
  have hc : (mkE e).cells.toList = [.int .i64 e.1, .int .i64 e.2.1, .int .i64 e.2.2] := by simp [mkE, Value.cells]
  rw [hc]
  refine ⟨.string (keyBytes [.int .i64 e.1, .int .i64 e.2.1, .int .i64 e.2.2]), ?_⟩
  rw [keyLits_arr]
  simp [List.range, List.range.loop, keyLits_int, h1, h2, h3]
set_option maxRecDepth 100000 in
theorem keyE_inv {key : Value} {kl : Lit} (h : keyOf Tryz.prog 57 key = some kl) : ∃ e : Xp, key = mkE e := by
  obtain ⟨n, hn⟩ : ∃ n, Tryz.prog.types.size = n + 1 := Tryz.rows0
  unfold keyOf at h
  rw [Tryz.underlying57] at h
  simp only at h
  split at h
  · rename_i hb
    simp only [Bool.and_eq_true] at hb
    cases key
    case agg cs =>
      have hsz : cs.size = 3 := by
        have := hb.2
        simp [Value.formed, Tryz.underlying57, Tryz.cellsE] at this
        exact this
      obtain ⟨u, hu⟩ : ∃ u, cs.toList = u := ⟨_, rfl⟩
      have hul : u.length = 3 := by rw [← hu]; simpa using hsz
      match u, hul, hu with
      | [a, b, c], _, hu =>
        have hcs : cs = #[a, b, c] := by cases cs; simpa using hu
        subst hcs
        have hone : ∀ v l, Tryz.prog.keyLits (n + 1) 3 [v] = some l → ∃ x, v = .int .i64 x := by
          intro v l hv
          cases v <;> simp [Program.keyLits, Tryz.underlying3] at hv
          obtain ⟨⟨rfl, _⟩, _⟩ := hv
          exact ⟨_, rfl⟩
        rw [hn] at h
        rw [show (Value.agg #[a, b, c]).cells.toList = [a, b, c] by simp [Value.cells], keyLits_arr] at h
        simp only [List.range, List.range.loop, List.length_cons, List.length_nil, List.mapM_cons, List.mapM_nil, Nat.reduceAdd, if_true] at h
        cases ha : Tryz.prog.keyLits (n + 1) 3 [a] with
        | none => simp [ha] at h
        | some la =>
          cases hb' : Tryz.prog.keyLits (n + 1) 3 [b] with
          | none => simp [ha, hb'] at h
          | some lb =>
            cases hc : Tryz.prog.keyLits (n + 1) 3 [c] with
            | none => simp [ha, hb', hc] at h
            | some lc =>
              obtain ⟨x, rfl⟩ := hone a la ha
              obtain ⟨y, rfl⟩ := hone b lb hb'
              obtain ⟨z, rfl⟩ := hone c lc hc
              exact ⟨(x, y, z), rfl⟩
    all_goals (have := hb.2; simp [Value.formed, Tryz.underlying57] at this)
  · cases h
theorem wfE {x : Int} (h0 : 0 ≤ x) (h1 : x ≤ 5) : (Lit.int .i64 x).wf = true := WalkArith.wf_i64 (by omega)
/-- The key of exponents. -/
theorem keyE (e : Ex) (h : deg e ≤ 5) : ∃ kl, keyOf Tryz.prog 57 (mkE (exI e)) = some kl := by
  unfold deg at h
  refine keyE_some (wfE ?_ ?_) (wfE ?_ ?_) (wfE ?_ ?_) <;> simp only [exI] <;> omega
theorem mkE_inj {d e : Xp} (h : mkE d = mkE e) : d = e := by
  obtain ⟨a, b, c⟩ := d
  obtain ⟨x, y, z⟩ := e
  simp only [mkE, Value.agg.injEq, Array.mk.injEq, List.cons.injEq, Value.int.injEq, true_and, and_true] at h
  obtain ⟨rfl, rfl, rfl⟩ := h
  rfl
theorem keyE_same {d e : Ex} {kl : Lit} (h : keyOf Tryz.prog 57 (mkE (exI d)) = some kl) (h' : keyOf Tryz.prog 57 (mkE (exI e)) = some kl) : d = e :=
  exI_inj (mkE_inj (Tryz.lawE.inj h h'))

/-! ### The map -/
def zC : Value := .agg #[.bool false, .slice none 0 0, .slice none 0 0]
/-- What a map's datum says: each coefficient at its key, no other key. -/
def Cofs (w : World) (D : DataW Value) (S : Pl) : Prop :=
  (∀ e kl, deg e ≤ 5 → keyOf Tryz.prog 57 (mkE (exI e)) = some kl → ∃ v, D.atKey kl (.held zC) = .held v ∧ RatC w v (S e)) ∧
  ∀ kl, Maps.has D kl = true → ∃ e, deg e ≤ 5 ∧ keyOf Tryz.prog 57 (mkE (exI e)) = some kl
/-- Block b is a map of at most n coefficients: those of S. -/
def SumW (w : World) (b n : Nat) (S : Pl) : Prop := ∃ D, w.ownsMap Tryz.prog 57 cfR b n D ∧ Cofs w D S

/-- A rational stays where a map is written. -/
theorem RatC.map {w w' : World} {b : Nat} {es : Array MapEntry} {clock : Nat} {v : Value} {q : Rat} (h : RatC w v q) (hb : w.heap[b]? = some (.map es clock)) (hg : w.grownBy w' (some b)) : RatC w' v q := by
  obtain ⟨ao, bo, n, cap, m, cap', rfl, h1, h2, hz, hz'⟩ := h
  have off : ∀ (bl o : Nat) (x : Value), w.cell? ⟨bl, o, none⟩ = some x → some bl ≠ some b := by
    rintro bl o x hc e
    injection e with e
    subst e
    simp [World.cell?, hb] at hc
  exact ⟨ao, bo, n, cap, m, cap', rfl, h1.grown hg fun i x bl o _ hc => off bl o x hc, h2.grown hg fun i x bl o _ hc => off bl o x hc, hz, hz'⟩
theorem Cofs.next {w w' : World} {D : DataW Value} {S : Pl} (h : Cofs w D S) (hR : ∀ v q, RatC w v q → RatC w' v q) : Cofs w' D S :=
  ⟨fun e kl he hk => by obtain ⟨v, h1, h2⟩ := h.1 e kl he hk; exact ⟨v, h1, hR _ _ h2⟩, h.2⟩
theorem SumW.kept {w w' : World} {b n : Nat} {S : Pl} (h : SumW w b n S) (hb : Below w.heap.size w w') : SumW w' b n S := by
  obtain ⟨D, h1, h2⟩ := h
  have hg : w.grownBy w' none := ⟨hb.os, hb.tape, hb.output, hb.size, fun k hk _ => hb.block k hk⟩
  exact ⟨D, h1.kept hg (by simp), h2.next fun _ _ h => h.next hb⟩
theorem SumW.lt {w : World} {b n : Nat} {S : Pl} (h : SumW w b n S) : b < w.heap.size := by
  obtain ⟨D, h1, _⟩ := h; exact h1.lt
theorem SumW.congr {w : World} {b n : Nat} {S T : Pl} (h : SumW w b n S) (he : EqP S T) : SumW w b n T := by
  obtain ⟨D, h1, h2, h3⟩ := h
  exact ⟨D, h1, fun e kl hd hk => by rw [← he e hd]; exact h2 e kl hd hk, h3⟩
theorem SumW.made (w : World) : SumW (w.alloc (.map #[] 0)) w.heap.size 0 fun _ => 0 :=
  ⟨_, World.ownsMap_made w _ _ _, fun e kl _ _ => ⟨zC, rfl, ratC_zero _⟩, fun kl h => by cases h⟩
/-- An element is looked up. -/
theorem SumW.look {w : World} {b n : Nat} {S : Pl} (h : SumW w b n S) {t : TypeId} (ht : Tryz.prog.underlying t = some (.map 57 25)) {e : Ex} (he : deg e ≤ 5) :
    ∃ v, (Instr.lookup t (.map (some b)) (mkE (exI e)) false).run Tryz.prog w = .ok v w ∧ RatC w v (S e) := by
  obtain ⟨D, h1, h2, _⟩ := h
  obtain ⟨kl, hk⟩ := keyE e he
  obtain ⟨v, ps, hrun, hv⟩ := h1.lookup Tryz.lawE ht (z := zC) (zd := .held zC) (zp := []) (by kernel_rfl) rfl hk
  obtain ⟨v', hat, hr⟩ := h2 e kl he hk
  obtain ⟨_, hy⟩ := cfR_inv hv
  rw [hat] at hy
  simp only [Prod.mk.injEq, DataW.held.injEq] at hy
  obtain ⟨rfl, _⟩ := hy
  exact ⟨_, hrun, hr⟩
/-- An element is laid. -/
theorem SumW.lay {w : World} {b n : Nat} {S : Pl} (h : SumW w b n S) {t : TypeId} (ht : Tryz.prog.underlying t = some (.map 57 25)) {e : Ex} (he : deg e ≤ 5) {v : Value} {q : Rat} (hv : RatC w v q) (hn : n < 1000000000) :
    ∃ w', (Instr.mapUpdate t (.map (some b)) (mkE (exI e)) v).run Tryz.prog w = .ok () w' ∧ SumW w' b (n + 1) (fun d => if d = e then q else S d) ∧ w.grownBy w' (some b) := by
  obtain ⟨D, h1, h2, h3⟩ := h
  obtain ⟨kl, hk⟩ := keyE e he
  have hs : ∃ s xo xn xc yo yn yc, v = .agg #[.bool s, .slice xo xn xc, .slice yo yn yc] := by
    obtain ⟨ao, bo, n, cap, m, cap', rfl, _⟩ := hv
    exact ⟨_, _, _, _, _, _, _, rfl⟩
  have hcf : cfR v = some (.held v, []) := by
    obtain ⟨s, xo, xn, xc, yo, yn, yc, rfl⟩ := hs; rfl
  have hmap := h1.isMap
  obtain ⟨w', hrun, k1, k2⟩ := h1.update Tryz.lawE ht (by unfold maxLen; omega) hk hcf
  obtain ⟨es, clock, hb, _⟩ := h1
  have hkey := Tryz.lawE.key hk
  refine ⟨w', hrun, ⟨_, k1, fun d kd hd hkd => ?_, fun kd hkd => ?_⟩, k2⟩
  · by_cases hde : d = e
    · subst hde
      rw [hk] at hkd
      obtain rfl := Option.some.inj hkd
      dsimp only; rw [if_pos rfl]
      exact ⟨v, Maps.atKey_put_same hmap hkey _ _, hv.map hb k2⟩
    · dsimp only; rw [if_neg hde]
      obtain ⟨u, hat, hu⟩ := h2 d kd hd hkd
      refine ⟨u, ?_, hu.map hb k2⟩
      rw [Maps.atKey_put_other]
      · exact hat
      · intro e'
        subst e'
        exact hde (keyE_same hkd hk)
  · by_cases hne : kd = kl
    · subst hne
      exact ⟨e, he, hk⟩
    · rw [Maps.has_put_other hne] at hkd
      exact h3 kd hkd
end Go.Proofs.YtgohfieleckmgaaGreatDoor

/-
  The contract of a sum's add. No condition but sizes.
-/
namespace Go.Proofs.YtgohfieleckmgaaGreatDoor
open Go.RowKit
set_option linter.unusedSimpArgs false
set_option linter.unusedVariables false

theorem RatC.shape6 {w : World} {v : Value} {q : Rat} (h : RatC w v q) : ∃ s xo xn xc yo yn yc, v = .agg #[.bool s, .slice xo xn xc, .slice yo yn yc] := by
  obtain ⟨ao, bo, n, cap, m, cap', rfl, _⟩ := h
  exact ⟨_, _, _, _, _, _, _, rfl⟩
theorem SumW.mono {w : World} {b n k : Nat} {S : Pl} (h : SumW w b n S) (hk : n ≤ k) : SumW w b k S := by
  obtain ⟨D, h1, h2⟩ := h
  exact ⟨D, h1.mono hk, h2⟩
theorem add_mono_in {S : Pl} {d : Ex} {q : Rat} (e : Ex) : (fun e => if e = d then S d + q else S e) e = addP S (monoP d q) e := by
  unfold addP monoP
  dsimp only
  by_cases h : e = d
  · subst h; rw [if_pos rfl, if_pos rfl]
  · rw [if_neg h, if_neg h]; grind
theorem add_mono_out {S : Pl} {d : Ex} {q : Rat} (h : 5 < deg d) : EqP S (addP S (monoP d q)) := by
  intro e he
  unfold addP monoP
  rw [if_neg (fun k => by subst k; omega)]; grind

/-- All that was there stands. -/
theorem below_grows {w w' : World} {row : Option Nat} (h : Below w.heap.size w w') : w.grownBy w' row := ⟨h.os, h.tape, h.output, h.size, fun k hk _ => h.block k hk⟩
theorem SumW.nocell {w : World} {b n : Nat} {S : Pl} (h : SumW w b n S) (o : Nat) : w.cell? ⟨b, o, none⟩ = none := by
  obtain ⟨D, ⟨es, clock, hb, _⟩, _⟩ := h
  simp [World.cell?, hb]
/-- A rational stays where a block without cells is written. -/
theorem RatC.offB {w w' : World} {r : Nat} {v : Value} {q : Rat} (h : RatC w v q) (hr : ∀ o, w.cell? ⟨r, o, none⟩ = none) (hg : w.grownBy w' (some r)) : RatC w' v q := by
  obtain ⟨ao, bo, n, cap, m, cap', rfl, h1, h2, hz, hz'⟩ := h
  have off : ∀ (bl o : Nat) (x : Value), w.cell? ⟨bl, o, none⟩ = some x → some bl ≠ some r := by
    rintro bl o x hc e
    injection e with e
    subst e
    rw [hr] at hc; cases hc
  exact ⟨ao, bo, n, cap, m, cap', rfl, h1.grown hg fun i x bl o _ hc => off bl o x hc, h2.grown hg fun i x bl o _ hc => off bl o x hc, hz, hz'⟩
theorem Pol.offB {w w' : World} {r : Nat} {ao : Option Addr} {n cap : Nat} {l : List Mr} (h : Pol RatC w ao n cap l) (hr : ∀ o, w.cell? ⟨r, o, none⟩ = none) (hg : w.grownBy w' (some r)) : Pol RatC w' ao n cap l := by
  obtain ⟨h0, h1, h2, h3, h4⟩ := h
  refine ⟨h0, h1, h2, h3, fun i m hm => ?_⟩
  obtain ⟨b, o, e, x, hx, he, hrr⟩ := h4 i m hm
  have hne : some b ≠ some r := fun e => by
    injection e with e
    subst e
    have := hx 0 _ rfl
    rw [hr] at this; cases this
  exact ⟨b, o, e, x, fun c v hv => hg.cell (hx c v hv) hne, he, hrr.offB hr hg⟩

/-- Exponents and a coefficient in variables. -/
abbrev Bx (B : Nat) (x y z : Int) (s : Bool) (xo : Option Addr) (xn xc : Nat) (yo : Option Addr) (yn yc : Nat) (w : World) : Prop :=
  C3 B (.int .i64 x) (.int .i64 y) (.int .i64 z) w ∧ C3 (B + 1) (.bool s) (.slice xo xn xc) (.slice yo yn yc) w
theorem Bx.next {B : Nat} {x y z : Int} {s : Bool} {xo : Option Addr} {xn xc : Nat} {yo : Option Addr} {yn yc : Nat} {w w' : World} (h : Bx B x y z s xo xn xc yo yn yc w) (hb : Below w.heap.size w w') : Bx B x y z s xo xn xc yo yn yc w' :=
  ⟨⟨Cl.next h.1.1 hb, Cl.next h.1.2.1 hb, Cl.next h.1.2.2 hb⟩, ⟨Cl.next h.2.1 hb, Cl.next h.2.2.1 hb, Cl.next h.2.2.2 hb⟩⟩
theorem Bx.fresh (w : World) (x y z : Int) (s : Bool) (xo : Option Addr) (xn xc : Nat) (yo : Option Addr) (yn yc : Nat) (t t' : TypeId) :
    Bx w.heap.size x y z s xo xn xc yo yn yc ((w.alloc (.cells #[.int .i64 x, .int .i64 y, .int .i64 z] t)).alloc (.cells #[.bool s, .slice xo xn xc, .slice yo yn yc] t')) := by
  have h2 : ∀ o v, (#[Value.bool s, .slice xo xn xc, .slice yo yn yc] : Array Value)[o]? = some v → ((w.alloc (.cells #[.int .i64 x, .int .i64 y, .int .i64 z] t)).alloc (.cells #[.bool s, .slice xo xn xc, .slice yo yn yc] t')).cell? ⟨w.heap.size + 1, o, none⟩ = some v := fun o v h => by
    rw [show w.heap.size + 1 = (w.alloc (.cells #[.int .i64 x, .int .i64 y, .int .i64 z] t)).heap.size by simp, World.cell?_alloc_at _ _ _ _ rfl]; exact h
  have h1 : ∀ o v, (#[Value.int .i64 x, .int .i64 y, .int .i64 z] : Array Value)[o]? = some v → (w.alloc (.cells #[.int .i64 x, .int .i64 y, .int .i64 z] t)).cell? ⟨w.heap.size, o, none⟩ = some v := fun o v h => by
    rw [World.cell?_alloc_at _ _ _ _ rfl]; exact h
  have hb := below_alloc (w := w.alloc (.cells #[.int .i64 x, .int .i64 y, .int .i64 z] t)) (.cells #[.bool s, .slice xo xn xc, .slice yo yn yc] t')
  exact ⟨⟨Cl.next (h1 0 _ rfl) hb, Cl.next (h1 1 _ rfl) hb, Cl.next (h1 2 _ rfl) hb⟩, ⟨h2 0 _ rfl, h2 1 _ rfl, h2 2 _ rfl⟩⟩

set_option maxRecDepth 10000 in
set_option maxHeartbeats 4000000 in
theorem sadd_any (b n K : Nat) (S : Pl) (d : Ex) (s : Bool) (xo : Option Addr) (xn xc : Nat) (yo : Option Addr) (yn yc : Nat) (q : Rat) (w : World) (h : SumW w b n S) (hr : RatV w (.agg #[.bool s, .slice xo xn xc, .slice yo yn yc]) q)
    (hd : deg d ≤ 1000000) (hS : FitP K S) (hq : Fit K q) (hK : K ≤ 4294967296) (hn : n < 1000000000) :
    Calls Tryz.prog 54 #[.map (some b), .agg #[.int .i64 d.1, .int .i64 d.2.1, .int .i64 d.2.2], .agg #[.bool s, .slice xo xn xc, .slice yo yn yc]] w fun e w' => e = .returned (.tuple #[]) ∧ SumW w' b (n + 1) (addP S (monoP d q)) ∧ w.grownBy w' (some b) := by
  obtain ⟨d1, d2, d3⟩ := d
  have hsm : smE ((d1 : Int), (d2 : Int), (d3 : Int)) := by unfold smE; unfold deg at hd; simp only at hd ⊢; omega
  have hbw : Below w.heap.size w ((w.alloc (.cells #[.int .i64 d1, .int .i64 d2, .int .i64 d3] 57)).alloc (.cells #[.bool s, .slice xo xn xc, .slice yo yn yc] 25)) := (below_alloc _).trans ((below_alloc _).mono (by rw [World.size_alloc]; omega))
  have hX := Bx.fresh w d1 d2 d3 s xo xn xc yo yn yc 57 25
  have h1 := h.kept hbw
  have hr1 := hr.next hbw
  have Hsm := hid hsm
  have HS := hid hS
  have Hd := hid hd
  clear hsm hS hd h hr
  obtain ⟨⟨x0, x1, x2⟩, y0, y1, y2⟩ := hX
  have hX := hid (Bx.fresh w d1 d2 d3 s xo xn xc yo yn yc 57 25)
  go_enter Tryz.func54, Tryz.ntmps54
  go_wp2_with fail
  refine (degree_any d1 d2 d3 Hsm.out _).mono ?_; rintro e w1 ⟨rfl, hb1⟩
  have hbel1 := below_chain hbw hb1
  have hdeg : Hid (deg (d1, d2, d3) = d1 + d2 + d3) := hid rfl
  by_cases h5 : d1 + d2 + d3 ≤ 5
  · have c1 : decide ((d1 : Int) + d2 + d3 ≤ 5) = true := decide_eq_true (by omega)
    have hdd : Below w1.heap.size w1 w1.drew := (Below.refl _ _).drew
    have h2 := (h1.kept hb1).kept hdd
    have hr2 := (hr1.next hb1).next hdd
    have hX2 := (hX.out.next hb1).next hdd
    obtain ⟨v, hlook, hv⟩ := h2.look Tryz.underlying66 (e := (d1, d2, d3)) (by rw [hdeg.out]; exact h5)
    obtain ⟨s', zo, zn, zc, uo, un, uc, rfl⟩ := hv.shape6
    have hvV := hv.toV (HS.out _ (by rw [hdeg.out]; exact h5)) (by omega)
    have Hlook : Hid ((Instr.lookup 66 (.map (some b)) (.agg #[.int .i64 (d1 : Int), .int .i64 (d2 : Int), .int .i64 (d3 : Int)]) false).run Tryz.prog w1.drew = .ok (.agg #[.bool s', .slice zo zn zc, .slice uo un uc]) w1.drew) := hid hlook
    clear hlook x0 x1 x2 y0 y1 y2
    go_wp2_with fail
    refine wp_region_D (fun w' => Bx w.heap.size d1 d2 d3 s xo xn xc yo yn yc w') [7] (by kernel_rfl) ?_
    refine wpAnyD_take (i := 0) (v := ?_) rfl (by kernel_rfl) (by kernel_rfl) (by kernel_rfl) (by kernel_rfl) (fun _ _ _ h => h) (Or.inl ⟨by rfl, ?_⟩) hX2 ?_
    rotate_left
    · intro w _; first | (go_simp; done) | (go_simp; with_reducible rfl)
    refine wpAnyD_take (i := 1) (v := ?_) rfl (by kernel_rfl) (by kernel_rfl) (by kernel_rfl) (by kernel_rfl) (fun _ _ _ h => h) (Or.inl ⟨by rfl, ?_⟩) hX2 ?_
    rotate_left
    · intro w hw; obtain ⟨⟨s1', s2', s3'⟩, s4', s5', s6'⟩ := hw; first | (go_simp; done) | (go_simp; with_reducible rfl)
    refine wpAnyD_take (i := 2) (v := ?_) rfl (by kernel_rfl) (by kernel_rfl) (by kernel_rfl) (by kernel_rfl) (fun _ _ _ h => h) (Or.inl ⟨by rfl, ?_⟩) hX2 ?_
    rotate_left
    · intro w _; first | (go_simp; done) | (go_simp; with_reducible rfl)
    refine wpAnyD_take (i := 3) (v := ?_) rfl (by kernel_rfl) (by kernel_rfl) (by kernel_rfl) (by kernel_rfl) (fun _ _ _ h => h) (Or.inl ⟨by rfl, ?_⟩) hX2 ?_
    rotate_left
    · intro w hw; obtain ⟨⟨s1', s2', s3'⟩, s4', s5', s6'⟩ := hw; first | (go_simp; done) | (go_simp; with_reducible rfl)
    refine wpAnyD_take (i := 5) (v := ?_) rfl (by kernel_rfl) (by kernel_rfl) (by kernel_rfl) (by kernel_rfl) (fun _ _ _ h => h) (Or.inl ⟨by rfl, ?_⟩) hX2 ?_
    rotate_left
    · intro w hw; obtain ⟨⟨s1', s2', s3'⟩, s4', s5', s6'⟩ := hw; first | (go_simp; done) | (go_simp; with_reducible rfl)
    refine wpAnyD_one (i := 4) (by kernel_rfl) rfl (fun KK hKK => ?_)
    go_simp
    rw [Hlook.out]
    refine hKK _ _ ⟨fun _ => hX2, ?_⟩; clear hKK KK
    refine wpAnyD_one (i := 6) (by kernel_rfl) rfl (fun KK hKK => ?_)
    go_simp
    go_at_call 61
    refine (Add_any (S (d1, d2, d3)) q _ _ _ hvV hr2 K (HS.out _ (by rw [hdeg.out]; exact h5)) hq hK).mono ?_; rintro e w3 ⟨v3, rfl, hv3, hb3⟩
    obtain ⟨t3, po, pn, pc, qo, qn, qc, rfl⟩ := hv3.shape6
    have hX3 := hX2.next hb3
    obtain ⟨w4, hlay, h4, hg4⟩ := (h2.kept hb3).lay Tryz.underlying66 (e := (d1, d2, d3)) (by rw [hdeg.out]; exact h5) hv3 hn
    have Hlay : Hid ((Instr.mapUpdate 66 (.map (some b)) (.agg #[.int .i64 (d1 : Int), .int .i64 (d2 : Int), .int .i64 (d3 : Int)]) (.agg #[.bool t3, .slice po pn pc, .slice qo qn qc])).run Tryz.prog w3 = .ok () w4) := hid hlay
    clear hlay
    refine hKK _ _ ⟨fun _ => hX3, ?_⟩; clear hKK KK
    refine wpAnyD_one (i := 7) (by kernel_rfl) rfl (fun KK hKK => ?_)
    go_simp
    rw [Hlay.out]
    refine hKK _ _ ⟨fun hn => absurd (by simp) hn, ?_⟩; clear hKK KK
    refine wpAnyD_done (by kernel_rfl) ?_ _
    go_end0
    have hbx : Below w.heap.size w w3 := (hbel1.trans (hdd.mono hbel1.size)).trans (hb3.mono hbel1.size)
    exact ⟨rfl, h4.congr fun e _ => add_mono_in e, (below_grows hbx).andThen hg4 (fun j hj => by cases hj; exact .inr rfl)⟩
  · have c1 : decide ((d1 : Int) + d2 + d3 ≤ 5) = false := decide_eq_false (by omega)
    go_wp2_with fail
    go_end0
    exact ⟨rfl, (((h1.kept hb1).mono (Nat.le_succ n)).congr (add_mono_out (by rw [hdeg.out]; omega))), below_grows hbel1⟩
end Go.Proofs.YtgohfieleckmgaaGreatDoor

/-
  The contract of a sum's list. No condition but sizes.
-/
namespace Go.Proofs.YtgohfieleckmgaaGreatDoor
open Go.RowKit
open Go.Maps (Keyed)
set_option linter.unusedSimpArgs false
set_option linter.unusedVariables false

/-- What has been collected, as a function of what is still to come. -/
def Coll (S : Pl) (left : Lit → Bool) (ps : List Mp) : Prop :=
  (∀ p ∈ ps, ∃ e, deg e ≤ 5 ∧ p.1.1 = exI e ∧ p.2 = S e ∧ S e ≠ 0 ∧ ∀ kl, keyOf Tryz.prog 57 (mkE (exI e)) = some kl → left kl = false) ∧
  ps.Pairwise (fun a b => a.1.1 ≠ b.1.1) ∧
  ∀ e kl, deg e ≤ 5 → S e ≠ 0 → keyOf Tryz.prog 57 (mkE (exI e)) = some kl → left kl = true ∨ ∃ p ∈ ps, p.1.1 = exI e

theorem ratC_zC {w : World} {q : Rat} (h : RatC w zC q) : q = 0 := by
  obtain ⟨ao, bo, n, cap, m, cap', e, h1, h2, _⟩ := h
  simp only [zC, Value.agg.injEq, Array.mk.injEq, List.cons.injEq, Value.bool.injEq, Value.slice.injEq, and_true] at e
  obtain ⟨_, ⟨rfl, rfl, rfl⟩, _⟩ := e
  have := h1.len
  simp only [u32s, List.length_map] at this
  have := dig_nil.1 (List.eq_nil_of_length_eq_zero this)
  exact Rat.num_eq_zero.1 (Int.natAbs_eq_zero.1 this)

theorem Coll.start {w : World} {D : DataW Value} {S : Pl} (h : Cofs w D S) : Coll S (Maps.has D) [] := by
  refine ⟨fun p hp => (by cases hp), List.Pairwise.nil, fun e kl he hz hk => .inl ?_⟩
  cases hb : Maps.has D kl with
  | true => rfl
  | false =>
    obtain ⟨v, hat, hr⟩ := h.1 e kl he hk
    rw [Maps.atKey_of_not_has hb] at hat
    have hat2 : zC = v := (DataW.held.injEq _ _).mp hat
    rw [← hat2] at hr
    exact absurd (ratC_zC hr) hz
theorem strike {left : Lit → Bool} {kl k : Lit} (h : left k = true) (hne : k ≠ kl) : (fun z : Lit => left z && !z.sameKey kl) k = true := by
  simp only [h, Bool.true_and, Bool.not_eq_true']
  exact Maps.sameKey_ne hne
/-- A key has come whose coefficient is 0. -/
theorem Coll.skip {S : Pl} {left : Lit → Bool} {ps : List Mp} {e : Ex} {kl : Lit} (h : Coll S left ps) (hk : keyOf Tryz.prog 57 (mkE (exI e)) = some kl) (hz : S e = 0) : Coll S (fun z => left z && !z.sameKey kl) ps := by
  obtain ⟨h1, h2, h3⟩ := h
  refine ⟨fun p hp => ?_, h2, fun d kd hd hdz hkd => ?_⟩
  · obtain ⟨d, a, b, c, f, g⟩ := h1 p hp
    exact ⟨d, a, b, c, f, fun k hk => by simp only [g k hk, Bool.false_and]⟩
  · rcases h3 d kd hd hdz hkd with k | k
    · refine .inl (strike k fun e' => ?_)
      subst e'
      rw [keyE_same hkd hk] at hdz
      exact hdz hz
    · exact .inr k
/-- A key has come whose coefficient is not 0. -/
theorem Coll.step {S : Pl} {left : Lit → Bool} {ps : List Mp} {e : Ex} {kl : Lit} (h : Coll S left ps) (hk : keyOf Tryz.prog 57 (mkE (exI e)) = some kl) (hl : left kl = true) (he : deg e ≤ 5) (hz : S e ≠ 0) (p : Mp) (hp1 : p.1.1 = exI e) (hp2 : p.2 = S e) :
    Coll S (fun z => left z && !z.sameKey kl) (ps ++ [p]) := by
  obtain ⟨h1, h2, h3⟩ := h
  have hkey := Tryz.lawE.key hk
  refine ⟨fun q hq => ?_, ?_, fun d kd hd hdz hkd => ?_⟩
  · rcases List.mem_append.1 hq with hq | hq
    · obtain ⟨d, a, b, c, f, g⟩ := h1 q hq
      exact ⟨d, a, b, c, f, fun k hk => by simp only [g k hk, Bool.false_and]⟩
    · obtain rfl := List.mem_singleton.1 hq
      exact ⟨e, he, hp1, hp2, hz, fun k hk' => by
        rw [hk] at hk'
        obtain rfl := Option.some.inj hk'
        simp only [WideAt.sameKey_self hkey, Bool.not_true, Bool.and_false]⟩
  · rw [List.pairwise_append]
    refine ⟨h2, List.pairwise_singleton _ _, fun a ha b hb => ?_⟩
    obtain rfl := List.mem_singleton.1 hb
    obtain ⟨d, a1, b1, c1, f1, g1⟩ := h1 a ha
    rw [b1, hp1]
    intro hne
    obtain rfl := exI_inj hne
    rw [g1 kl hk] at hl
    cases hl
  · rcases h3 d kd hd hdz hkd with k | ⟨q, k1, k2⟩
    · by_cases hde : d = e
      · subst hde
        exact .inr ⟨p, by simp, hp1⟩
      · refine .inl (strike k fun e' => ?_)
        subst e'
        exact hde (keyE_same hkd hk)
    · exact .inr ⟨q, by simp [k1], k2⟩
/-- All have come: sorted, they are the polynomial. -/
theorem Coll.done {S : Pl} {left : Lit → Bool} {ps ps' : List Mp} (h : Coll S left ps) (hl : ∀ kl, left kl = false) (hp : ps'.Perm ps) (hf : FallP ps') : rdP ps' = (lst S).map toM := by
  obtain ⟨h1, h2, h3⟩ := h
  have k1 : ∀ p ∈ ps', ∃ e, deg e ≤ 5 ∧ p.1.1 = exI e ∧ p.2 = S e ∧ S e ≠ 0 := fun p hm => by
    obtain ⟨e, a, b, c, d, _⟩ := h1 p (hp.mem_iff.1 hm)
    exact ⟨e, a, b, c, d⟩
  have k2 : ps'.Pairwise (fun a b => a.1.1 ≠ b.1.1) := (hp.pairwise_iff (fun {a b} h => Ne.symm h)).2 h2
  have k3 : ps'.Pairwise (fun a b => gtE (exN a.1.1) (exN b.1.1) = true) := by
    have := List.Pairwise.and hf k2
    refine List.Pairwise.imp_of_mem ?_ this
    intro a b ha hb hab
    obtain ⟨ea, _, ha', _⟩ := k1 a ha
    obtain ⟨eb, _, hb', _⟩ := k1 b hb
    have h3 := hab.1
    have h4 := hab.2
    rw [ha', hb'] at h3 h4 ⊢
    rw [exN_exI, exN_exI]
    rw [gtI_gtE] at h3
    rcases gtE_total (show ea ≠ eb from fun e => h4 (by rw [e])) with h | h
    · exact h
    · rw [h] at h3; cases h3
  have k4 : ps'.map (fun p => exN p.1.1) = supp S := by
    refine sorted_eq (by rw [List.pairwise_map]; exact k3) (supp_sorted S) fun e => ?_
    rw [List.mem_map, mem_supp]
    constructor
    · rintro ⟨p, hm, rfl⟩
      obtain ⟨e, a, b, c, d⟩ := k1 p hm
      rw [b, exN_exI]; exact ⟨a, d⟩
    · rintro ⟨hd, hz⟩
      obtain ⟨kl, hk⟩ := keyE e hd
      rcases h3 e kl hd hz hk with h | ⟨p, hm, hpe⟩
      · rw [hl] at h; cases h
      · exact ⟨p, hp.mem_iff.2 hm, by rw [hpe, exN_exI]⟩
  unfold lst rdP
  rw [← k4, List.map_map, List.map_map]
  refine List.map_congr_left fun p hm => ?_
  obtain ⟨e, a, b, c, d⟩ := k1 p hm
  show (p.1.1, p.2) = (exI (exN p.1.1), S (exN p.1.1))
  rw [b, exN_exI, c]

theorem iter_cell {w : World} {b r n cnt : Nat} {D : DataW Value} {left : Lit → Bool} (h : w.ranges Tryz.prog 57 cfR b r n D left cnt) (o : Nat) : w.cell? ⟨r, o, none⟩ = none := by
  obtain ⟨es, clock, since, seen, c0, _, _, _, _, hr, _⟩ := h
  simp [World.cell?, hr]

/-- The next entry. -/
theorem wp_next_sum (w : World) {ops : Array Oper} {rest : List Oper} {o : Oper} {a : Act} {Q : Exit → Act → World → Prop} (hg : o.guard = none) (it : Operand) (hop : o.op = Op.next it false)
    (b r n : Nat) (D : DataW Value) (left : Lit → Bool) (cnt : Nat) (hit : a.eval it = .pointer (some ⟨r, 0, none⟩)) (h : w.ranges Tryz.prog 57 cfR b r n D left cnt)
    (hDone : cnt = 0 → (∀ kl, left kl = false) → wpList Tryz.prog ops Q rest (a.put o.dst (.tuple #[.bool false])) w)
    (hMore : ∀ (x y z : Int) (c : Value) (kl : Lit) (w' : World) (cnt' : Nat), keyOf Tryz.prog 57 (.agg #[.int .i64 x, .int .i64 y, .int .i64 z]) = some kl → left kl = true →
      (∀ zd, D.atKey kl zd = .held (c)) → w'.ranges Tryz.prog 57 cfR b r n D (fun z => left z && !z.sameKey kl) cnt' → cnt' < cnt →
      w.grownBy w' (some r) → w'.heap.size = w.heap.size → (Instr.entry (.pointer (some ⟨r, 0, none⟩))).run Tryz.prog w' = .ok (.tuple #[.agg #[.int .i64 x, .int .i64 y, .int .i64 z], c]) w' →
      wpList Tryz.prog ops Q rest (a.put o.dst (.tuple #[.bool true, .agg #[.int .i64 x, .int .i64 y, .int .i64 z], c])) w') :
    wpList Tryz.prog ops Q (o :: rest) a w :=
  wpList_next_ranges w hg it hop 57 Tryz.lawE cfR mkE (fun c : Value => c) (fun key kl hk => keyE_inv hk) (fun v y hv => ⟨v, rfl⟩) b r n D left cnt hit h hDone
    (fun x c kl y w' cnt' hk hl hv hat hrg hlt hgr hsz hen => by
      obtain ⟨x1, x2, x3⟩ := x
      refine hMore x1 x2 x3 c kl w' cnt' hk hl (fun zd => ?_) hrg hlt hgr hsz hen
      rw [hat zd, (cfR_inv hv).2])

set_option maxRecDepth 10000 in
set_option maxHeartbeats 4000000 in
theorem slist_any (b N K : Nat) (S : Pl) (w : World) (h : SumW w b N S) (hS : FitP K S) (hK : K ≤ 4294967296) (hN : N ≤ 1000000000) :
    Calls Tryz.prog 55 #[.map (some b)] w (PolOut w S) := by
  obtain ⟨D, hD, hC⟩ := h
  have hb := hD.lt
  have hszN := hD.size_le
  have hC0 := hid (Coll.start hC)
  have hC1 := hid hC.2
  have HS := hid hS
  clear hS
  go_enter Tryz.func55, Tryz.ntmps55
  go_wp2_with (first | (at_range; refine wpList_range_own _ rfl _ 66 rfl 57 25 Tryz.lawE Tryz.underlying66 cfR b N D rfl hD ?_; intro w0 hrg0 hg0 hs0) | go_in)
  go_frame
  have hbel0 : Below w.heap.size w w0 := (Below.refl _ _).grown hg0 (Nat.le_refl _) (fun k hk => by cases hk)
  have hC00 := hC.next (w' := w0) (fun v q h => h.next hbel0)
  go_loopw [3] (fun ov wr => ∃ (v : Value) (n : Nat) (ps : List Mp) (left : Lit → Bool) (cnt : Nat), v = ov ∧ POwn wr w.heap.size v n ps ∧ (n = 0 → v = .slice none 0 0) ∧ wr.ranges Tryz.prog 57 cfR b w.heap.size N D left cnt ∧ Cofs wr D S ∧ Hid (Coll S left ps) ∧ Hid (∀ kl, left kl = true → Maps.has D kl = true) ∧ n + cnt ≤ N ∧ Below w.heap.size w wr) (fun _ wr => wr.rangeLeft b w.heap.size)
  case atStart => exact ⟨_, 0, [], _, _, rfl, POwn.nil _ _, fun _ => rfl, hrg0, hC00, hC0, hid (fun _ h => h), by omega, hbel0⟩
  case round =>
    obtain ⟨v, n, ps, left, cnt, rfl, hown, hnil, hrg, hCr, hcoll, hleft, hcnt, hbel⟩ := hrel
    have hbw : b < w.heap.size := hb
    have Hold := hid hrg.left_eq
    have hrI := row_ne_iter hown.1.1 hrg
    have hrB := row_ne_low hown.1.1 hbw
    have hwle := hbel.size
    go_wp2_with (at_next; go_loud (refine wp_next_sum _ rfl _ rfl b w.heap.size N D left cnt rfl hrg ?_ ?_))
    · intro hc0 hl0
      have hn : n ≤ 1000000000 := by omega
      have Hl0 := hid hl0
      have hsort := hid (sort_any w.heap.size n v ps wr hown hnil hn)
      clear hl0 hrg hown hnil hCr
      go_wp2_with fail
      refine hsort.out.mono ?_; rintro e w2 ⟨rfl, ps', hown2, hperm, hfall, hb2⟩
      have hdone := hid (hcoll.out.done Hl0.out hperm hfall)
      have hlen := hid (show ps'.length = n from hown2.2.1)
      obtain ⟨ao, cap, rfl, hpol⟩ := hown2.pol
      clear hown2 hperm hfall
      go_wp2_with fail
      go_ret
      have hl2 : (lst S).length = n := by
        have h1 := congrArg List.length hdone.out
        rw [rdP, List.length_map, List.length_map] at h1
        rw [← h1]; exact hlen.out
      refine ⟨ao, cap, by rw [hl2]; rfl, ?_, hbel.trans hb2⟩
      unfold PolC
      rw [hl2, ← hdone.out]; exact hpol
    · intro x y z c kl w1 cnt1 hkey hlk hat hrg1 hlt hg1 hs1 hen
      have hbel1 : Below w.heap.size w w1 := hbel.grown hg1 (by omega) (fun k hk => by cases hk; exact Nat.le_refl _)
      have hR1 : ∀ v q, RatC wr v q → RatC w1 v q := fun v q h => h.offB (iter_cell hrg) hg1
      have hown1 : POwn w1 w.heap.size v n ps := hown.kept hg1 (fun g hgv hgr => hrI (by rw [hgv, hgr])) hR1
      have hC1' : Cofs w1 D S := hCr.next hR1
      obtain ⟨e, he, hke⟩ := hC1.out kl (hleft.out kl hlk)
      have hxe : Hid ((x, y, z) = exI e) := hid (mkE_inj (Tryz.lawE.inj (show keyOf Tryz.prog 57 (mkE (x, y, z)) = some kl from hkey) hke))
      obtain ⟨u, hu1, hu2⟩ := hC1'.1 e kl he hke
      have hrc : RatC w1 c (S e) := by
        rw [hat] at hu1
        injection hu1 with hu1
        rw [hu1]; exact hu2
      obtain ⟨s, xo, xn, xc, yo, yn, yc, rfl⟩ := hrc.shape6
      have hfit := HS.out e he
      have hbB := Bx.fresh w1 x y z s xo xn xc yo yn yc 57 25
      have hbA : Below w1.heap.size w1 ((w1.alloc (.cells #[.int .i64 x, .int .i64 y, .int .i64 z] 57)).alloc (.cells #[.bool s, .slice xo xn xc, .slice yo yn yc] 25)) := (below_alloc _).trans ((below_alloc _).mono (by rw [World.size_alloc]; omega))
      have hrc2 := hrc.next hbA
      have hrV2 := hrc2.toV hfit (by omega)
      have hown2 := hown1.next hbA
      have hrg2 := (hrg1.alloc (.cells #[.int .i64 x, .int .i64 y, .int .i64 z] 57)).alloc (.cells #[.bool s, .slice xo xn xc, .slice yo yn yc] 25)
      have hC2 := hC1'.next (w' := (w1.alloc (.cells #[.int .i64 x, .int .i64 y, .int .i64 z] 57)).alloc (.cells #[.bool s, .slice xo xn xc, .slice yo yn yc] 25)) (fun v q h => h.next hbA)
      have hbel2 := hbel1.trans (hbA.mono hbel1.size)
      have Hke := hid hke
      have Hlk := hid hlk
      have Hnil := hid hnil
      have hcn : n + 1 + cnt1 ≤ N := by omega
      clear hs1 hrg hown hrI hrB hnil hCr hg1 hR1 hown1 hC1' hrg1 hkey hat hrc hu1 hu2 hke hlk
      obtain ⟨⟨⟨x0, x1, x2⟩, y0, y1, y2⟩, HbB⟩ := And.intro hbB (hid hbB)
      clear hbB
      have hsg := hid (rsg_ne (q := S e))
      obtain ⟨g, hg⟩ : ∃ g, rsg (S e) = g := ⟨_, rfl⟩
      rw [hg] at hsg
      have Hg := hid hg
      clear hg
      go_wp2_with fail
      refine (Sign_any (S e) _ _ hrV2).mono ?_; rw [Hg.out]; rintro en w3 ⟨rfl, hb3⟩
      have hown3 := hown2.next hb3
      have hg3 : ∀ (a b : World), Below a.heap.size a b → a.grownBy b none := fun a b h => ⟨h.os, h.tape, h.output, h.size, fun k hk _ => h.block k hk⟩
      have hrg3 := hrg2.kept (hg3 _ _ hb3) (by simp) (by simp)
      have hC3 := hC2.next (w' := w3) (fun v q h => h.next hb3)
      have hbel3 := below_chain hbel2 hb3
      have HX := hid (HbB.out.next hb3)
      have hrc3 := hrc2.next hb3
      by_cases hz : S e = 0
      · have hc0 : (g != 0) = false := by rw [hsg.out]; simp [hz]
        have hcoll2 := hid (hcoll.out.skip Hke.out hz)
        have hleft2 : Hid (∀ k, (fun z : Lit => left z && !z.sameKey kl) k = true → Maps.has D k = true) := hid (fun k hk => by
          simp only [Bool.and_eq_true] at hk
          exact hleft.out k hk.1)
        have hnew := hid hrg3.left_eq
        clear x0 x1 x2 y0 y1 y2 hrc2 hrV2 hown2 hrg2 hC2 hrc3
        go_wp2_with fail
        go_roundw
        case rel => exact ⟨v, n, ps, _, cnt1, rfl, hown3, fun h0 => Hnil.out h0, hrg3, hC3, hcoll2, hleft2, by omega, hbel3⟩
        case measure => rw [hnew.out, Hold.out]; exact hlt
      · have hc0 : (g != 0) = true := by rw [hsg.out]; simp [hz]
        have hbN : Below w3.heap.size w3 (w3.alloc (.cells #[.int .i64 x, .int .i64 y, .int .i64 z, .bool s, .slice xo xn xc, .slice yo yn yc] 59)) := below_alloc _
        have hX4 := Hex.fresh w3 ((x, y, z), s, (xo, xn, xc), (yo, yn, yc)) 59
        have hown4 := hown3.next hbN
        have hrc4 := hrc3.next hbN
        have hrg4 := hrg3.alloc (.cells #[.int .i64 x, .int .i64 y, .int .i64 z, .bool s, .slice xo xn xc, .slice yo yn yc] 59)
        have hC4 := hC3.next (w' := w3.alloc (.cells #[.int .i64 x, .int .i64 y, .int .i64 z, .bool s, .slice xo xn xc, .slice yo yn yc] 59)) (fun v q h => h.next hbN)
        have hbel4 := below_chain hbel3 hbN
        have hcoll2 := hid (hcoll.out.step Hke.out Hlk.out he hz (((x, y, z), s, (xo, xn, xc), (yo, yn, yc)), S e) hxe.out rfl)
        have hleft2 : Hid (∀ k, (fun z : Lit => left z && !z.sameKey kl) k = true → Maps.has D k = true) := hid (fun k hk => by
          simp only [Bool.and_eq_true] at hk
          exact hleft.out k hk.1)
        obtain ⟨⟨z0, z1, z2⟩, u0, u1, u2⟩ := HX.out
        have Hown4 := hid hown4
        have Hrg4 := hid hrg4
        have HC4 := hid hC4
        clear x0 x1 x2 y0 y1 y2 hrc2 hrV2 hown2 hrg2 hC2 hrc3 hown3 hrg3 hC3 hown4 hrg4 hC4
        go_wp2_with (at_builtin; go_loud (refine wp_appP rfl (.tmp 16) (.tmp 20) rfl w.heap.size _ n ps rfl Hown4.out w3.heap.size 0 1 1 rfl [(((x, y, z), s, (xo, xn, xc), (yo, yn, yc)), S e)] rfl (by decide) (hex_one hX4) (fun p hp => by obtain rfl := List.mem_singleton.1 hp; exact hrc4) (by omega) (by decide) (by have := hbel4.size; simp only [World.size_alloc] at this ⊢; omega) ?_))
        intro v' w5 hown5 hg5 hb5 _
        have hrI := row_ne_iter Hown4.out.1.1 Hrg4.out
        have hrB := row_ne_low Hown4.out.1.1 hbw
        have hrg5 := Hrg4.out.kept hg5 hrB hrI
        have hC5 := HC4.out.next (w' := w5) (fun v q h => h.grownU Hown4.out.1 isMon_u32 hg5)
        have hnew := hid hrg5.left_eq
        have hbel5 := hbel4.trans hb5
        clear hrI hrB
        go_wp2_with fail
        go_roundw
        case rel => exact ⟨v', n + 1, _, _, cnt1, rfl, hown5, fun h0 => absurd h0 (by omega), hrg5, hC5, hcoll2, hleft2, hcn, hbel5⟩
        case measure => rw [hnew.out, Hold.out]; exact hlt
end Go.Proofs.YtgohfieleckmgaaGreatDoor

/-
  DeterminiseTwinsSaid: for every input the law returns true and each argument reads behind the call as it read before. No condition.
-/
import Derived.Test.YtnapapijhhldpaaGreatDoorRows
import Derived.Test.YtnapapijhhldpaaGreatDoorCards
import Derived.Test.YtnapapijhhldpaaGreatDoorTie
import Derived.Test.YtnapapijhhldpaaGreatDoorJtAA
import Derived.Test.YtnapapijhhldpaaGreatDoorJtAB
import Derived.Test.YtnapapijhhldpaaGreatDoorJtAC
import Derived.Test.YtnapapijhhldpaaGreatDoorJtAG
import Derived.Test.YtnapapijhhldpaaGreatDoorJtAH
import Derived.Test.YtnapapijhhldpaaGreatDoorJtAK
import Derived.Test.YtnapapijhhldpaaGreatDoorJtAM
import Derived.Test.YtnapapijhhldpaaGreatDoorJtAN
import Derived.Test.YtnapapijhhldpaaGreatDoorJtAQ
import Derived.Test.YtnapapijhhldpaaGreatDoorJtAS
import Derived.Test.YtnapapijhhldpaaGreatDoorJtAT
import Derived.Test.YtnapapijhhldpaaGreatDoorJtAU
import Derived.Test.YtnapapijhhldpaaGreatDoorJtAV
import Derived.Test.YtnapapijhhldpaaGreatDoorJtBA
import Derived.Test.YtnapapijhhldpaaGreatDoorJtBB
import Derived.Test.YtnapapijhhldpaaGreatDoorJtBE
import Derived.WalkKit
import Derived.ProofKit
import Derived.OpenShut
import Derived.ShutString
import Derived.ChangeOld
import Derived.Below
import Derived.SliceStrings
import Derived.SevenTiedAt
namespace Go.Proofs.YtnapapijhhldpaaGreatDoor.determiniseTwins
open Go.ChangeShapes Go.WideShapes Go.ChangeAt Go.RowKit
open Go.ChangeMaps (open_string shut_string)
set_option linter.unusedVariables false

theorem own : ownKnob Tryz.prog.godebug = none := by kernel_rfl
theorem laidOut : laidOutB Tryz.prog = true := by kernel_rfl

set_option maxRecDepth 100000 in
theorem lifted (os : Os) (started : os.Started) (H : Type) (enc : TypeId × Value → H) :
    ReturnsInHanded {} Tryz.checked os 5 .any (fun w args => (Rows.determiniseTwinsSpec.pre enc Tryz.prog Tryz.f5 [] false w args ∧ laidMetH Tryz.prog laidL w) ∧ sizedMet enc Tryz.prog Tryz.f5 (OpenSpec.ofChange Rows.determiniseTwinsSpec) false w args) (Rows.determiniseTwinsSpec.post enc Tryz.prog Tryz.f5 false true false false) := by
  refine returnsInHanded_of_change_and (C := Tryz.checked) (X := fun w _ => laidMetH Tryz.prog laidL w) (fun _ _ _ hh h => h.of_heap hh) own started (by kernel_rfl) Tryz.func5
    (ChangeSpec.witness_shaped (enc := enc) (C := Tryz.checked) (os := os) (X := fun w _ => laidMetH Tryz.prog laidL w) false (World.laidAll Tryz.prog os laidL) #[.agg #[.int .i64 0, .int .i64 0, .bool false, .bool false, .slice none 0 0]] 8 (World.laidAll_os _ _ _)
      (laid_shaped os) (by kernel_rfl) (by kernel_rfl) (by kernel_rfl) (laid_wit os _)) ?_
  intro W base args ds gs before hval0 hW _ _ hL _
  have hval : ∀ (j : Nat) t v, Tryz.f5.params[j]? = some t → args[j]? = some v → Value.okWide Tryz.prog W .any base t v := hval0
  have hW' := hW
  obtain ⟨p, q, hA0, hV, rfl, hfz, hnd⟩ := hW
  have hA : DataW.TrodAll enc Tryz.prog W 0 (fun _ => true) true Tryz.f5.params.toList args.toList ds p := hA0
  rw [Tryz.params5] at hA hval
  obtain ⟨v0, vs0, d0, ds0, p0, q0, hargs, rfl, rfl, h0, r0⟩ := trodAll_cons hA
  obtain ⟨rfl, rfl, rfl⟩ := trodAll_nil r0
  obtain rfl : args = #[v0] := by cases args; simp_all
  obtain ⟨rfl, rfl⟩ := trodVars_none hV
  obtain ⟨cs0, rfl, _⟩ := okWide_struct Tryz.underlying24 (hval 0 24 v0 rfl rfl)
  have k0 := h0
  have lt0 : ∀ x ∈ p0, x.block < W.heap.size := by obtain ⟨m, hm⟩ := k0; exact DataW.trod_lt m _ _ _ hm
  obtain ⟨fuel0, hf0⟩ := h0
  obtain ⟨ka0, kb0, fw0, sg0, lo0, ln0, cp0, zs0, rfl, sl0⟩ := openPlan hf0
  have pl0 := plan_lt (hval 0 24 _ rfl rfl)
  have pn0 : ln0 ≤ 9223372036854775807 := by have h1 := sl0.le; have h2 := sl0.most; unfold maxLen at h2; omega
  clear hf0
  clear hA0 hval0
  refine (walkTwins W (pow_of_laid hL) ka0 kb0 fw0 sg0 lo0 ln0 cp0 zs0 sl0 pl0 pn0).mono fun e W' ⟨he, bel⟩ => ?_
  subst he
  exact ⟨_, rfl, _, _, _, [], _, [], hW', trodAll_mk1 (shut_bool Tryz.underlying4 _), (trodAll_cons_mk (Below.trod laidOut (by kernel_rfl) (of_decide_eq_true (by kernel_rfl)) k0 bel lt0) trodAll_mk0), rfl, bel.frame _, fun h => by cases h⟩

theorem and2' {a b : Bool} (h : a = true) (k : b = true) : (a && b) = true := by rw [h, k]; rfl
set_option maxRecDepth 100000 in
set_option maxHeartbeats 40000000 in
theorem closed : joinedFacts Tryz.pinned.checked.prog 5 Tryz.f5 Rows.determiniseTwinsSpec Rows.determiniseTwinsRow = true := by
  unfold joinedFacts
  repeat' (with_reducible refine and2' ?_ ?_)
  all_goals (as_aux_lemma => kernel_rfl)
set_option maxHeartbeats 40000000 in
theorem over : Rows.determiniseTwinsRow.holds Tryz.pinned (OpenSpec.ofChange Rows.determiniseTwinsSpec) :=
  OpenClaim.holds_of_wide 5 Tryz.f5 rfl rfl rfl rfl rfl rfl rfl ⟨rfl, rfl, rfl, rfl, rfl⟩ rfl rfl rfl rfl rfl (by kernel_rfl) Tryz.func5
    closed (of_decide_eq_true (by as_aux_lemma => kernel_rfl)) (by unfold Func.isWrapper; first | (rw [if_pos (by decide +kernel)]; kernel_rfl) | (rw [if_neg (by decide +kernel)]; exact ⟨rfl, rfl⟩))
    (fun os started H enc _ => lifted os started H enc)

set_option maxHeartbeats 40000000 in
theorem proved : Rows.DeterminiseTwinsCardSaid :=
  Claim7.holds_tied_plain_at .later [] [.data, .data, .data, .data, .sentinel, .sentinel, .pinned] true Rows.determiniseTwinsCard.stood.harness true
    over (fun _ h => by cases h) (by as_aux_lemma => kernel_rfl) (fun _ h => by cases h) determiniseTwins_row_tie rfl ⟨rfl, rfl⟩ (by as_aux_lemma => kernel_rfl) rfl
    (fun f fn hf hfn => by
      obtain rfl : f = 5 := Option.some.inj ((show Tryz.prog.funcNamed "weighted/weightedlaw25.DeterminiseTwins" = some 5 by kernel_rfl).symm.trans hf) |>.symm
      obtain rfl : fn = Tryz.f5 := (Option.some.inj (Tryz.func5.symm.trans hfn)).symm
      exact ⟨by kernel_rfl, fun j t ht => by
        rw [Tryz.params5] at ht
        have hm : t ∈ [24] := by simpa using Array.mem_of_getElem? ht
        have hall : ([24].all fun u => !Tryz.prog.wantsStandIn u) = true := by kernel_rfl
        exact (show Tryz.prog.wantsStandIn t = false by simpa using List.all_eq_true.1 hall t hm)⟩)
    (by as_aux_lemma => kernel_rfl)
#print axioms proved
end Go.Proofs.YtnapapijhhldpaaGreatDoor.determiniseTwins

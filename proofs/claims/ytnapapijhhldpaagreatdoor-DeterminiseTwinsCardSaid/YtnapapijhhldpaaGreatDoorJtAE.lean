/-
  Texts joined by program: Drw, Twd. No condition of its own.
-/
import Derived.Test.YtnapapijhhldpaaGreatDoorJtAD
namespace Go.Proofs.YtnapapijhhldpaaGreatDoor
set_option linter.unusedSimpArgs false
set_option linter.unusedVariables false
set_option maxRecDepth 100000
set_option maxHeartbeats 4000000
section
section
variable {P:Program} {ops:Array Oper} {Q:EP} {md:Region.Mode} {S:World->Prop} {late:List Nat}
def wpAnyD (P:Program) (md:Region.Mode) (ops:Array Oper) (Q:EP) (S:World->Prop) (late:List Nat):Nat->Array Bool->Act->World->Prop
 | 0,listed,a,w=>Region.ready md ops listed=[]/\Q .normal a w
 | fuel+1,listed,a,w =>
  (Region.ready md ops listed=[]->Q .normal a w) /\
  ∀ i∈Region.ready md ops listed,wpOp P ops Q i (fun a' w'=>(i∉late->S w')/\wpAnyD P md ops Q S late fuel (listed.setIfInBounds i true) a' w') a w
theorem wpAny_of_D:∀ (fuel:Nat) (listed:Array Bool) (a:Act) (w:World),wpAnyD P md ops Q S late fuel listed a w->wpAny P md ops Q fuel listed a w
 | 0,_,_,_,h=>h
 | fuel+1,_,_,_,h=>⟨h.1,fun i hi=>wpOp_mono (fun a' w' h'=>wpAny_of_D fuel _ a' w' h'.2) (h.2 i hi)⟩
def depsOf (md:Region.Mode) (ops:Array Oper) (i:Nat):List Nat :=
 (List.range ops.size).foldl (fun acc j=>match ops[j]? with
  | some o=>if o.after.any (fun e=>Region.binds md e&&(e.on==i||acc.contains e.on)) then j::acc else acc
  | none=>acc) []
def lateOk (md:Region.Mode) (ops:Array Oper) (listed:Array Bool) (late:List Nat) (i:Nat):Bool :=
 (depsOf md ops i).all (fun j=>!listed.getD j false&&((ops[j]?).map fun o=>o.after.any (fun e=>Region.binds md e&&(e.on==i||(depsOf md ops i).contains e.on))).getD false)&&late.all (fun j=>(depsOf md ops i).contains j)
theorem lateOk_spec {listed:Array Bool} {i:Nat} (h:lateOk md ops listed late i=true):∃ D:List Nat,(∀ j∈late,j∈D)/\(∀ j∈D,listed.getD j false=false) /\
  ∀ j∈D,∃ o,ops[j]? = some o/\∃ e∈o.after,Region.binds md e=true/\(e.on=i\/e.on∈D):=by
 unfold lateOk at h
 simp only [Bool.and_eq_true,List.all_eq_true,List.contains_eq_mem,decide_eq_true_eq,Bool.not_eq_true'] at h
 refine ⟨depsOf md ops i,h.2,fun j hj=>(h.1 j hj).1,fun j hj=>?_⟩
 have h1:=(h.1 j hj).2
 cases ho:ops[j]? with
 | none=>rw [ho] at h1; cases h1
 | some o =>
  rw [ho] at h1
  simp only [Option.map_some,Option.getD_some] at h1
  obtain ⟨e,he,hb⟩:=Array.any_eq_true'.1 h1
  simp only [Bool.and_eq_true,Bool.or_eq_true,beq_iff_eq,List.contains_eq_mem,decide_eq_true_eq] at hb
  exact ⟨o,rfl,e,he,hb.1,hb.2⟩
theorem wpAnyD_first {i:Nat} {oi:Oper} {v:Value} (hi:ops[i]? = some oi) (hsel:∀ (j:Nat) (o:Oper) cs b,ops[j]? = some o->o.op≠.select cs b)
  (hQ:∀ c a w,Q (.panic c) (a.put oi.dst v) w->Q (.panic c) a w) {D:List Nat} (hLD:∀ j∈late,j∈D) (hD:∀ j∈D,∃ o,ops[j]? = some o/\∃ e∈o.after,Region.binds md e=true/\(e.on=i\/e.on∈D)) :
  ∀ (fuel:Nat) (listed:Array Bool) (a:Act) (w:World),
   (∀ j oj,ops[j]? = some oj->j≠i->listed.getD j true=false->(∀ e∈oj.after,Region.binds md e=true->e.on≠i)->oi.apart ops oj=true) ->
   (∀ j∈D,listed.getD j false=false) ->
   i∈Region.ready md ops listed->YieldsIf P ops S oi v a->S w ->
   wpAnyD P md ops Q S late fuel (listed.setIfInBounds i true) (a.put oi.dst v) w->wpAnyD P md ops Q S late (fuel+1) listed a w:=by
 intro fuel
 induction fuel with
 | zero =>
  intro listed a w _ _ hr hy hS H
  refine ⟨fun h=>(by rw [h] at hr; cases hr),fun j hj=>?_⟩
  by_cases hji:j=i
  ·subst hji; exact hy.wpOp hi hS ⟨fun _=>hS,H⟩
  ·have:=ready_mono hj hji
   rw [H.1] at this
   cases this
 | succ fuel ih =>
  intro listed a w hfree hun hr hy hS H
  refine ⟨fun h=>(by rw [h] at hr; cases hr),fun j hj=>?_⟩
  by_cases hji:j=i
  ·subst hji; exact hy.wpOp hi hS ⟨fun _=>hS,H⟩
  ·have h1:=H.2 j (ready_mono hj hji)
   obtain ⟨hjun,oj,hoj,hall⟩:=mem_ready.1 hj
   have hi0:listed.getD i false=false:=by
    have h0:=(mem_ready.1 hr).1
    rcases Nat.lt_or_ge i listed.size with h' | h'
    ·simpa [h'] using h0
    ·simp [Array.getElem?_eq_none h']
   have hnot:∀ e∈oj.after,Region.binds md e=true->e.on≠i:=fun e he hb heq=>by
    have h1:=hall e he hb
    rw [heq,hi0] at h1
    cases h1
   have hjD:j∉D:=fun hm=>by
    obtain ⟨o',ho',e,he,hb,hon⟩:=hD j hm
    rw [hoj] at ho'
    injection ho' with ho'
    subst ho'
    have h2:=hall e he hb
    rcases hon with hon | hon
    ·rw [hon,hi0] at h2; cases h2
    ·rw [hun _ hon] at h2; cases h2
   have h2:=wpOp_putIf hoj (hfree j oj hoj hji hjun hnot) (fun cs b=>hsel i oi cs b hi) (fun cs b=>hsel j oj cs b hoj) hQ hy h1
   have hfree':∀ k ok,ops[k]? = some ok->k≠i->(listed.setIfInBounds j true).getD k true=false ->
     (∀ e∈ok.after,Region.binds md e=true->e.on≠i)->oi.apart ops ok=true:=fun k ok hk hki hun' hno=>by
    refine hfree k ok hk hki ?_ hno
    by_cases hjk:j=k
    ·subst hjk; exact hjun
    ·rw [getD_set_ne true hjk] at hun'; exact hun'
   have hun2:∀ k∈D,(listed.setIfInBounds j true).getD k false=false:=fun k hk=>by
    rw [getD_set_ne false (fun e=>hjD (by rw [e]; exact hk))]; exact hun k hk
   refine wpOp_mono (fun a' w' h3=>?_) h2
   have hS':S w':=h3.2.1 fun hl=>hjD (hLD j hl)
   refine ⟨fun _=>hS',ih (listed.setIfInBounds j true) a' w' hfree' hun2 (ready_mono hr (Ne.symm hji)) h3.1 hS' ?_⟩
   rw [Array.setIfInBounds_comm _ _ hji]
   exact h3.2.2
theorem wpAnyD_take {i:Nat} {oi:Oper} {v:Value} {fuel:Nat} {listed:Array Bool} {a:Act} {w:World} (hi:ops[i]? = some oi)
  (hs:Region.noSelect ops=true) (hf:Region.free md ops listed i=true) (hr:(Region.ready md ops listed).contains i=true) (hl:lateOk md ops listed late i=true)
  (hQ:∀ c a w,Q (.panic c) (a.put oi.dst v) w->Q (.panic c) a w) (hy:YieldsIf P ops S oi v a) (hS:S w)
  (h:wpAnyD P md ops Q S late fuel (listed.setIfInBounds i true) (a.put oi.dst v) w):wpAnyD P md ops Q S late (fuel+1) listed a w:=by
 obtain ⟨D,h1,h2,h3⟩:=lateOk_spec hl
 exact wpAnyD_first hi (Region.noSelect_spec hs) hQ h1 h3 fuel listed a w (Region.free_spec hi hf) h2 (by simpa using hr) hy hS h
theorem wpAnyD_takeD {i:Nat} {oi:Oper} {v:Value} {fuel:Nat} {listed:Array Bool} {a:Act} {w:World} (d:Option Tmp) (hi:ops[i]? = some oi) (hd:oi.dst=d)
  (hs:Region.noSelect ops=true) (hf:Region.free md ops listed i=true) (hr:(Region.ready md ops listed).contains i=true) (hl:lateOk md ops listed late i=true)
  (hQ:∀ c a w,Q (.panic c) (a.put oi.dst v) w->Q (.panic c) a w) (hy:YieldsIf P ops S oi v a) (hS:S w)
  (h:wpAnyD P md ops Q S late fuel (listed.setIfInBounds i true) (a.put d v) w):wpAnyD P md ops Q S late (fuel+1) listed a w:=by
 subst hd; exact wpAnyD_take hi hs hf hr hl hQ hy hS h
theorem wpAnyD_one {i:Nat} {o:Oper} {fuel:Nat} {listed:Array Bool} {a:Act} {w:World} (hr:Region.ready md ops listed=[i]) (ho:ops[i]? = some o)
  (h:∀ K':Act->World->Prop,(∀ a' w',((i∉late->S w')/\wpAnyD P md ops Q S late fuel (listed.setIfInBounds i true) a' w')->K' a' w')->if Region.wanted o (yielded ops a.tmps)=true then Oper.wp P o a w K' Q else K' (a.put o.dst undef) w) :
  wpAnyD P md ops Q S late (fuel+1) listed a w:=by
 refine ⟨fun h0=>(by rw [hr] at h0; cases h0),fun j hj=>?_⟩
 rw [hr,List.mem_singleton] at hj
 subst hj
 have:=h _ (fun _ _ h=>h)
 unfold wpOp
 rw [ho]
 show if Region.wanted o (yielded ops a.tmps)=true then _ else _
 split
 ·rename_i hw; rw [if_pos hw] at this; exact .inl this
 ·rename_i hw; rw [if_neg hw] at this; exact this
theorem wpAnyD_two {i j:Nat} {o o':Oper} {fuel:Nat} {listed:Array Bool} {a:Act} {w:World} (hr:Region.ready md ops listed=[i,j]) (ho:ops[i]? = some o) (ho':ops[j]? = some o')
  (h:∀ K':Act->World->Prop,(∀ a' w',((i∉late->S w')/\wpAnyD P md ops Q S late fuel (listed.setIfInBounds i true) a' w')->K' a' w')->if Region.wanted o (yielded ops a.tmps)=true then Oper.wp P o a w K' Q else K' (a.put o.dst undef) w)
  (h':∀ K':Act->World->Prop,(∀ a' w',((j∉late->S w')/\wpAnyD P md ops Q S late fuel (listed.setIfInBounds j true) a' w')->K' a' w')->if Region.wanted o' (yielded ops a.tmps)=true then Oper.wp P o' a w K' Q else K' (a.put o'.dst undef) w) :
  wpAnyD P md ops Q S late (fuel+1) listed a w:=by
 refine ⟨fun h0=>(by rw [hr] at h0; cases h0),fun k hk=>?_⟩
 rw [hr] at hk
 simp only [List.mem_cons,List.not_mem_nil,or_false] at hk
 rcases hk with rfl | rfl
 ·have:=h _ (fun _ _ h=>h)
  unfold wpOp
  rw [ho]
  show if Region.wanted o (yielded ops a.tmps)=true then _ else _
  split
  ·rename_i hw; rw [if_pos hw] at this; exact .inl this
  ·rename_i hw; rw [if_neg hw] at this; exact this
 ·have:=h' _ (fun _ _ h=>h)
  unfold wpOp
  rw [ho']
  show if Region.wanted o' (yielded ops a.tmps)=true then _ else _
  split
  ·rename_i hw; rw [if_pos hw] at this; exact .inl this
  ·rename_i hw; rw [if_neg hw] at this; exact this
theorem wpAnyD_done {listed:Array Bool} {a:Act} {w:World} (hr:Region.ready md ops listed=[]) (h:Q .normal a w):∀ fuel,wpAnyD P md ops Q S late fuel listed a w
 | 0=>⟨hr,h⟩
 | _+1=>⟨fun _=>h,by rw [hr]; simp⟩
theorem wp_region_D (S:World->Prop) (late:List Nat) {id:Nat} {a:Act} {w:World} (hm:P.follows .mixedOrders=true)
  (h:wpAnyD P .any ops Q S late ops.size (Array.replicate ops.size false) a w.drew):(Code.region id ops true).wp P Q a w :=
 wp_region_any hm (wpAny_of_D _ _ _ _ h)
end
section
variable {P:Program} {ops:Array Oper} {Q:EP} {md:Region.Mode} {S:World->Prop} {late:List Nat} (i:Nat) {oi:Oper} {v:Value} {fuel:Nat} {listed:Array Bool} {a:Act} {w:World}
theorem tkA (d:Option Tmp) (hi:ops[i]?=some oi) (hd:oi.dst=d) (hy:YieldsIf P ops S oi v a) (hS:S w) (h:wpAnyD P md ops Q S late fuel (listed.setIfInBounds i true) (a.put d v) w)
 (hs:Region.noSelect ops=true:=by kernel_rfl) (hf:Region.free md ops listed i=true:=by kernel_rfl) (hr:(Region.ready md ops listed).contains i=true:=by kernel_rfl) (hl:lateOk md ops listed late i=true:=by kernel_rfl) (hQ:∀ c a w,Q (.panic c) (a.put oi.dst v) w->Q (.panic c) a w:=by exact fun _ _ _ h=>h) : wpAnyD P md ops Q S late (fuel+1) listed a w:=
 wpAnyD_takeD d hi hd hs hf hr hl hQ hy hS h
theorem tkAp (d:Option Tmp) (hi:ops[i]?=some oi) (hd:oi.dst=d) (hS:S w) (h:wpAnyD P md ops Q S late fuel (listed.setIfInBounds i true) (a.put d v) w)
 (hw:Region.wanted oi (yielded ops a.tmps)=true:=by rfl) (hy:∀ w,S w->(execOp a.eval oi).run P w=.ok (.value v) w:=by intro wz _; first | (go_simp; done) | (go_simp; with_reducible rfl)) (hs:Region.noSelect ops=true:=by kernel_rfl) (hf:Region.free md ops listed i=true:=by kernel_rfl) (hr:(Region.ready md ops listed).contains i=true:=by kernel_rfl) (hl:lateOk md ops listed late i=true:=by kernel_rfl) (hQ:∀ c a w,Q (.panic c) (a.put oi.dst v) w->Q (.panic c) a w:=by exact fun _ _ _ h=>h) : wpAnyD P md ops Q S late (fuel+1) listed a w:=
 wpAnyD_takeD d hi hd hs hf hr hl hQ (Or.inl ⟨hw,hy⟩) hS h
theorem tkAg (d:Option Tmp) (hi:ops[i]?=some oi) (hd:oi.dst=d) (hS:S w) (h:wpAnyD P md ops Q S late fuel (listed.setIfInBounds i true) (a.put d v) w)
 (hw:Region.wanted oi (yielded ops a.tmps)=true:=by kernel_rfl) (hy:∀ w,S w->(execOp a.eval oi).run P w=.ok (.value v) w:=by intro wz _; first | (go_simp; done) | (go_simp; with_reducible rfl)) (hs:Region.noSelect ops=true:=by kernel_rfl) (hf:Region.free md ops listed i=true:=by kernel_rfl) (hr:(Region.ready md ops listed).contains i=true:=by kernel_rfl) (hl:lateOk md ops listed late i=true:=by kernel_rfl) (hQ:∀ c a w,Q (.panic c) (a.put oi.dst v) w->Q (.panic c) a w:=by exact fun _ _ _ h=>h) : wpAnyD P md ops Q S late (fuel+1) listed a w:=
 wpAnyD_takeD d hi hd hs hf hr hl hQ (Or.inl ⟨hw,hy⟩) hS h
theorem tkAl (d:Option Tmp) (hi:ops[i]?=some oi) (hd:oi.dst=d) (hy:∀ w,S w->(execOp a.eval oi).run P w=.ok (.value v) w) (hS:S w) (h:wpAnyD P md ops Q S late fuel (listed.setIfInBounds i true) (a.put d v) w)
 (hw:Region.wanted oi (yielded ops a.tmps)=true:=by rfl) (hs:Region.noSelect ops=true:=by kernel_rfl) (hf:Region.free md ops listed i=true:=by kernel_rfl) (hr:(Region.ready md ops listed).contains i=true:=by kernel_rfl) (hl:lateOk md ops listed late i=true:=by kernel_rfl) (hQ:∀ c a w,Q (.panic c) (a.put oi.dst v) w->Q (.panic c) a w:=by exact fun _ _ _ h=>h) : wpAnyD P md ops Q S late (fuel+1) listed a w:=
 wpAnyD_takeD d hi hd hs hf hr hl hQ (Or.inl ⟨hw,hy⟩) hS h
theorem tkAm (d:Option Tmp) (hi:ops[i]?=some oi) (hd:oi.dst=d) (hy:∀ w,S w->(execOp a.eval oi).run P w=.ok (.value v) w) (hS:S w) (h:wpAnyD P md ops Q S late fuel (listed.setIfInBounds i true) (a.put d v) w)
 (hw:Region.wanted oi (yielded ops a.tmps)=true:=by kernel_rfl) (hs:Region.noSelect ops=true:=by kernel_rfl) (hf:Region.free md ops listed i=true:=by kernel_rfl) (hr:(Region.ready md ops listed).contains i=true:=by kernel_rfl) (hl:lateOk md ops listed late i=true:=by kernel_rfl) (hQ:∀ c a w,Q (.panic c) (a.put oi.dst v) w->Q (.panic c) a w:=by exact fun _ _ _ h=>h) : wpAnyD P md ops Q S late (fuel+1) listed a w:=
 wpAnyD_takeD d hi hd hs hf hr hl hQ (Or.inl ⟨hw,hy⟩) hS h
theorem tkAu (d:Option Tmp) (hi:ops[i]?=some oi) (hd:oi.dst=d) (hS:S w) (h:wpAnyD P md ops Q S late fuel (listed.setIfInBounds i true) (a.put d undef) w)
 (hw:Region.wanted oi (yielded ops a.tmps)=false:=by kernel_rfl) (hs:Region.noSelect ops=true:=by kernel_rfl) (hf:Region.free md ops listed i=true:=by kernel_rfl) (hr:(Region.ready md ops listed).contains i=true:=by kernel_rfl) (hl:lateOk md ops listed late i=true:=by kernel_rfl) (hQ:∀ c a w,Q (.panic c) (a.put oi.dst undef) w->Q (.panic c) a w:=by exact fun _ _ _ h=>h) : wpAnyD P md ops Q S late (fuel+1) listed a w:=
 wpAnyD_takeD d hi hd hs hf hr hl hQ (Or.inr ⟨hw,rfl⟩) hS h
theorem tkB (hp:∀ c (a:Act) d v w,Q (.panic c) (a.put d v) w->Q (.panic c) a w) (d:Option Tmp) (hi:ops[i]?=some oi) (hd:oi.dst=d) (hy:YieldsIf P ops S oi v a) (hS:S w) (h:wpAnyD P md ops Q S late fuel (listed.setIfInBounds i true) (a.put d v) w)
 (hs:Region.noSelect ops=true:=by kernel_rfl) (hf:Region.free md ops listed i=true:=by kernel_rfl) (hr:(Region.ready md ops listed).contains i=true:=by kernel_rfl) (hl:lateOk md ops listed late i=true:=by kernel_rfl) : wpAnyD P md ops Q S late (fuel+1) listed a w:=
 wpAnyD_takeD d hi hd hs hf hr hl (fun c a w h=>hp c a _ _ w h) hy hS h
theorem tkBp (hp:∀ c (a:Act) d v w,Q (.panic c) (a.put d v) w->Q (.panic c) a w) (d:Option Tmp) (hi:ops[i]?=some oi) (hd:oi.dst=d) (hS:S w) (h:wpAnyD P md ops Q S late fuel (listed.setIfInBounds i true) (a.put d v) w)
 (hw:Region.wanted oi (yielded ops a.tmps)=true:=by rfl) (hy:∀ w,S w->(execOp a.eval oi).run P w=.ok (.value v) w:=by intro wz _; first | (go_simp; done) | (go_simp; with_reducible rfl)) (hs:Region.noSelect ops=true:=by kernel_rfl) (hf:Region.free md ops listed i=true:=by kernel_rfl) (hr:(Region.ready md ops listed).contains i=true:=by kernel_rfl) (hl:lateOk md ops listed late i=true:=by kernel_rfl) : wpAnyD P md ops Q S late (fuel+1) listed a w:=
 wpAnyD_takeD d hi hd hs hf hr hl (fun c a w h=>hp c a _ _ w h) (Or.inl ⟨hw,hy⟩) hS h
theorem tkBg (hp:∀ c (a:Act) d v w,Q (.panic c) (a.put d v) w->Q (.panic c) a w) (d:Option Tmp) (hi:ops[i]?=some oi) (hd:oi.dst=d) (hS:S w) (h:wpAnyD P md ops Q S late fuel (listed.setIfInBounds i true) (a.put d v) w)
 (hw:Region.wanted oi (yielded ops a.tmps)=true:=by kernel_rfl) (hy:∀ w,S w->(execOp a.eval oi).run P w=.ok (.value v) w:=by intro wz _; first | (go_simp; done) | (go_simp; with_reducible rfl)) (hs:Region.noSelect ops=true:=by kernel_rfl) (hf:Region.free md ops listed i=true:=by kernel_rfl) (hr:(Region.ready md ops listed).contains i=true:=by kernel_rfl) (hl:lateOk md ops listed late i=true:=by kernel_rfl) : wpAnyD P md ops Q S late (fuel+1) listed a w:=
 wpAnyD_takeD d hi hd hs hf hr hl (fun c a w h=>hp c a _ _ w h) (Or.inl ⟨hw,hy⟩) hS h
theorem tkBl (hp:∀ c (a:Act) d v w,Q (.panic c) (a.put d v) w->Q (.panic c) a w) (d:Option Tmp) (hi:ops[i]?=some oi) (hd:oi.dst=d) (hy:∀ w,S w->(execOp a.eval oi).run P w=.ok (.value v) w) (hS:S w) (h:wpAnyD P md ops Q S late fuel (listed.setIfInBounds i true) (a.put d v) w)
 (hw:Region.wanted oi (yielded ops a.tmps)=true:=by rfl) (hs:Region.noSelect ops=true:=by kernel_rfl) (hf:Region.free md ops listed i=true:=by kernel_rfl) (hr:(Region.ready md ops listed).contains i=true:=by kernel_rfl) (hl:lateOk md ops listed late i=true:=by kernel_rfl) : wpAnyD P md ops Q S late (fuel+1) listed a w:=
 wpAnyD_takeD d hi hd hs hf hr hl (fun c a w h=>hp c a _ _ w h) (Or.inl ⟨hw,hy⟩) hS h
theorem tkBm (hp:∀ c (a:Act) d v w,Q (.panic c) (a.put d v) w->Q (.panic c) a w) (d:Option Tmp) (hi:ops[i]?=some oi) (hd:oi.dst=d) (hy:∀ w,S w->(execOp a.eval oi).run P w=.ok (.value v) w) (hS:S w) (h:wpAnyD P md ops Q S late fuel (listed.setIfInBounds i true) (a.put d v) w)
 (hw:Region.wanted oi (yielded ops a.tmps)=true:=by kernel_rfl) (hs:Region.noSelect ops=true:=by kernel_rfl) (hf:Region.free md ops listed i=true:=by kernel_rfl) (hr:(Region.ready md ops listed).contains i=true:=by kernel_rfl) (hl:lateOk md ops listed late i=true:=by kernel_rfl) : wpAnyD P md ops Q S late (fuel+1) listed a w:=
 wpAnyD_takeD d hi hd hs hf hr hl (fun c a w h=>hp c a _ _ w h) (Or.inl ⟨hw,hy⟩) hS h
theorem tkBu (hp:∀ c (a:Act) d v w,Q (.panic c) (a.put d v) w->Q (.panic c) a w) (d:Option Tmp) (hi:ops[i]?=some oi) (hd:oi.dst=d) (hS:S w) (h:wpAnyD P md ops Q S late fuel (listed.setIfInBounds i true) (a.put d undef) w)
 (hw:Region.wanted oi (yielded ops a.tmps)=false:=by kernel_rfl) (hs:Region.noSelect ops=true:=by kernel_rfl) (hf:Region.free md ops listed i=true:=by kernel_rfl) (hr:(Region.ready md ops listed).contains i=true:=by kernel_rfl) (hl:lateOk md ops listed late i=true:=by kernel_rfl) : wpAnyD P md ops Q S late (fuel+1) listed a w:=
 wpAnyD_takeD d hi hd hs hf hr hl (fun c a w h=>hp c a _ _ w h) (Or.inr ⟨hw,rfl⟩) hS h
theorem tkC (hi:ops[i]?=some oi) (hy:YieldsIf P ops S oi v a) (hS:S w) (h:wpAnyD P md ops Q S late fuel (listed.setIfInBounds i true) (a.put oi.dst v) w)
 (hs:Region.noSelect ops=true:=by kernel_rfl) (hf:Region.free md ops listed i=true:=by kernel_rfl) (hr:(Region.ready md ops listed).contains i=true:=by kernel_rfl) (hl:lateOk md ops listed late i=true:=by kernel_rfl) (hQ:∀ c a w,Q (.panic c) (a.put oi.dst v) w->Q (.panic c) a w:=by exact fun _ _ _ h=>h) : wpAnyD P md ops Q S late (fuel+1) listed a w:=
 wpAnyD_take hi hs hf hr hl hQ hy hS h
theorem tkCp (hi:ops[i]?=some oi) (hS:S w) (h:wpAnyD P md ops Q S late fuel (listed.setIfInBounds i true) (a.put oi.dst v) w)
 (hw:Region.wanted oi (yielded ops a.tmps)=true:=by rfl) (hy:∀ w,S w->(execOp a.eval oi).run P w=.ok (.value v) w:=by intro wz _; first | (go_simp; done) | (go_simp; with_reducible rfl)) (hs:Region.noSelect ops=true:=by kernel_rfl) (hf:Region.free md ops listed i=true:=by kernel_rfl) (hr:(Region.ready md ops listed).contains i=true:=by kernel_rfl) (hl:lateOk md ops listed late i=true:=by kernel_rfl) (hQ:∀ c a w,Q (.panic c) (a.put oi.dst v) w->Q (.panic c) a w:=by exact fun _ _ _ h=>h) : wpAnyD P md ops Q S late (fuel+1) listed a w:=
 wpAnyD_take hi hs hf hr hl hQ (Or.inl ⟨hw,hy⟩) hS h
theorem tkCg (hi:ops[i]?=some oi) (hS:S w) (h:wpAnyD P md ops Q S late fuel (listed.setIfInBounds i true) (a.put oi.dst v) w)
 (hw:Region.wanted oi (yielded ops a.tmps)=true:=by kernel_rfl) (hy:∀ w,S w->(execOp a.eval oi).run P w=.ok (.value v) w:=by intro wz _; first | (go_simp; done) | (go_simp; with_reducible rfl)) (hs:Region.noSelect ops=true:=by kernel_rfl) (hf:Region.free md ops listed i=true:=by kernel_rfl) (hr:(Region.ready md ops listed).contains i=true:=by kernel_rfl) (hl:lateOk md ops listed late i=true:=by kernel_rfl) (hQ:∀ c a w,Q (.panic c) (a.put oi.dst v) w->Q (.panic c) a w:=by exact fun _ _ _ h=>h) : wpAnyD P md ops Q S late (fuel+1) listed a w:=
 wpAnyD_take hi hs hf hr hl hQ (Or.inl ⟨hw,hy⟩) hS h
theorem tkCl (hi:ops[i]?=some oi) (hy:∀ w,S w->(execOp a.eval oi).run P w=.ok (.value v) w) (hS:S w) (h:wpAnyD P md ops Q S late fuel (listed.setIfInBounds i true) (a.put oi.dst v) w)
 (hw:Region.wanted oi (yielded ops a.tmps)=true:=by rfl) (hs:Region.noSelect ops=true:=by kernel_rfl) (hf:Region.free md ops listed i=true:=by kernel_rfl) (hr:(Region.ready md ops listed).contains i=true:=by kernel_rfl) (hl:lateOk md ops listed late i=true:=by kernel_rfl) (hQ:∀ c a w,Q (.panic c) (a.put oi.dst v) w->Q (.panic c) a w:=by exact fun _ _ _ h=>h) : wpAnyD P md ops Q S late (fuel+1) listed a w:=
 wpAnyD_take hi hs hf hr hl hQ (Or.inl ⟨hw,hy⟩) hS h
theorem tkCm (hi:ops[i]?=some oi) (hy:∀ w,S w->(execOp a.eval oi).run P w=.ok (.value v) w) (hS:S w) (h:wpAnyD P md ops Q S late fuel (listed.setIfInBounds i true) (a.put oi.dst v) w)
 (hw:Region.wanted oi (yielded ops a.tmps)=true:=by kernel_rfl) (hs:Region.noSelect ops=true:=by kernel_rfl) (hf:Region.free md ops listed i=true:=by kernel_rfl) (hr:(Region.ready md ops listed).contains i=true:=by kernel_rfl) (hl:lateOk md ops listed late i=true:=by kernel_rfl) (hQ:∀ c a w,Q (.panic c) (a.put oi.dst v) w->Q (.panic c) a w:=by exact fun _ _ _ h=>h) : wpAnyD P md ops Q S late (fuel+1) listed a w:=
 wpAnyD_take hi hs hf hr hl hQ (Or.inl ⟨hw,hy⟩) hS h
theorem tkCu (hi:ops[i]?=some oi) (hS:S w) (h:wpAnyD P md ops Q S late fuel (listed.setIfInBounds i true) (a.put oi.dst undef) w)
 (hw:Region.wanted oi (yielded ops a.tmps)=false:=by kernel_rfl) (hs:Region.noSelect ops=true:=by kernel_rfl) (hf:Region.free md ops listed i=true:=by kernel_rfl) (hr:(Region.ready md ops listed).contains i=true:=by kernel_rfl) (hl:lateOk md ops listed late i=true:=by kernel_rfl) (hQ:∀ c a w,Q (.panic c) (a.put oi.dst undef) w->Q (.panic c) a w:=by exact fun _ _ _ h=>h) : wpAnyD P md ops Q S late (fuel+1) listed a w:=
 wpAnyD_take hi hs hf hr hl hQ (Or.inr ⟨hw,rfl⟩) hS h
theorem tkD (hp:∀ c (a:Act) d v w,Q (.panic c) (a.put d v) w->Q (.panic c) a w) (hi:ops[i]?=some oi) (hy:YieldsIf P ops S oi v a) (hS:S w) (h:wpAnyD P md ops Q S late fuel (listed.setIfInBounds i true) (a.put oi.dst v) w)
 (hs:Region.noSelect ops=true:=by kernel_rfl) (hf:Region.free md ops listed i=true:=by kernel_rfl) (hr:(Region.ready md ops listed).contains i=true:=by kernel_rfl) (hl:lateOk md ops listed late i=true:=by kernel_rfl) : wpAnyD P md ops Q S late (fuel+1) listed a w:=
 wpAnyD_take hi hs hf hr hl (fun c a w h=>hp c a _ _ w h) hy hS h
theorem tkDp (hp:∀ c (a:Act) d v w,Q (.panic c) (a.put d v) w->Q (.panic c) a w) (hi:ops[i]?=some oi) (hS:S w) (h:wpAnyD P md ops Q S late fuel (listed.setIfInBounds i true) (a.put oi.dst v) w)
 (hw:Region.wanted oi (yielded ops a.tmps)=true:=by rfl) (hy:∀ w,S w->(execOp a.eval oi).run P w=.ok (.value v) w:=by intro wz _; first | (go_simp; done) | (go_simp; with_reducible rfl)) (hs:Region.noSelect ops=true:=by kernel_rfl) (hf:Region.free md ops listed i=true:=by kernel_rfl) (hr:(Region.ready md ops listed).contains i=true:=by kernel_rfl) (hl:lateOk md ops listed late i=true:=by kernel_rfl) : wpAnyD P md ops Q S late (fuel+1) listed a w:=
 wpAnyD_take hi hs hf hr hl (fun c a w h=>hp c a _ _ w h) (Or.inl ⟨hw,hy⟩) hS h
theorem tkDg (hp:∀ c (a:Act) d v w,Q (.panic c) (a.put d v) w->Q (.panic c) a w) (hi:ops[i]?=some oi) (hS:S w) (h:wpAnyD P md ops Q S late fuel (listed.setIfInBounds i true) (a.put oi.dst v) w)
 (hw:Region.wanted oi (yielded ops a.tmps)=true:=by kernel_rfl) (hy:∀ w,S w->(execOp a.eval oi).run P w=.ok (.value v) w:=by intro wz _; first | (go_simp; done) | (go_simp; with_reducible rfl)) (hs:Region.noSelect ops=true:=by kernel_rfl) (hf:Region.free md ops listed i=true:=by kernel_rfl) (hr:(Region.ready md ops listed).contains i=true:=by kernel_rfl) (hl:lateOk md ops listed late i=true:=by kernel_rfl) : wpAnyD P md ops Q S late (fuel+1) listed a w:=
 wpAnyD_take hi hs hf hr hl (fun c a w h=>hp c a _ _ w h) (Or.inl ⟨hw,hy⟩) hS h
theorem tkDl (hp:∀ c (a:Act) d v w,Q (.panic c) (a.put d v) w->Q (.panic c) a w) (hi:ops[i]?=some oi) (hy:∀ w,S w->(execOp a.eval oi).run P w=.ok (.value v) w) (hS:S w) (h:wpAnyD P md ops Q S late fuel (listed.setIfInBounds i true) (a.put oi.dst v) w)
 (hw:Region.wanted oi (yielded ops a.tmps)=true:=by rfl) (hs:Region.noSelect ops=true:=by kernel_rfl) (hf:Region.free md ops listed i=true:=by kernel_rfl) (hr:(Region.ready md ops listed).contains i=true:=by kernel_rfl) (hl:lateOk md ops listed late i=true:=by kernel_rfl) : wpAnyD P md ops Q S late (fuel+1) listed a w:=
 wpAnyD_take hi hs hf hr hl (fun c a w h=>hp c a _ _ w h) (Or.inl ⟨hw,hy⟩) hS h
theorem tkDm (hp:∀ c (a:Act) d v w,Q (.panic c) (a.put d v) w->Q (.panic c) a w) (hi:ops[i]?=some oi) (hy:∀ w,S w->(execOp a.eval oi).run P w=.ok (.value v) w) (hS:S w) (h:wpAnyD P md ops Q S late fuel (listed.setIfInBounds i true) (a.put oi.dst v) w)
 (hw:Region.wanted oi (yielded ops a.tmps)=true:=by kernel_rfl) (hs:Region.noSelect ops=true:=by kernel_rfl) (hf:Region.free md ops listed i=true:=by kernel_rfl) (hr:(Region.ready md ops listed).contains i=true:=by kernel_rfl) (hl:lateOk md ops listed late i=true:=by kernel_rfl) : wpAnyD P md ops Q S late (fuel+1) listed a w:=
 wpAnyD_take hi hs hf hr hl (fun c a w h=>hp c a _ _ w h) (Or.inl ⟨hw,hy⟩) hS h
theorem tkDu (hp:∀ c (a:Act) d v w,Q (.panic c) (a.put d v) w->Q (.panic c) a w) (hi:ops[i]?=some oi) (hS:S w) (h:wpAnyD P md ops Q S late fuel (listed.setIfInBounds i true) (a.put oi.dst undef) w)
 (hw:Region.wanted oi (yielded ops a.tmps)=false:=by kernel_rfl) (hs:Region.noSelect ops=true:=by kernel_rfl) (hf:Region.free md ops listed i=true:=by kernel_rfl) (hr:(Region.ready md ops listed).contains i=true:=by kernel_rfl) (hl:lateOk md ops listed late i=true:=by kernel_rfl) : wpAnyD P md ops Q S late (fuel+1) listed a w:=
 wpAnyD_take hi hs hf hr hl (fun c a w h=>hp c a _ _ w h) (Or.inr ⟨hw,rfl⟩) hS h
end
theorem wpO {P:Program} {ops:Array Oper} {Q:EP} {md:Region.Mode} {S:World->Prop} {late:List Nat} {i:Nat} {o:Oper} {fuel:Nat} {listed:Array Bool} {a:Act} {w:World} (ho:ops[i]?=some o)
 (h:∀ K':Act->World->Prop,(∀ a' w',((i ∉ late->S w')/\wpAnyD P md ops Q S late fuel (listed.setIfInBounds i true) a' w')->K' a' w')->if Region.wanted o (yielded ops a.tmps)=true then Oper.wp P o a w K' Q else K' (a.put o.dst undef) w) (hr:Region.ready md ops listed=[i]:=by kernel_rfl) :
 wpAnyD P md ops Q S late (fuel+1) listed a w:=wpAnyD_one hr ho h
theorem lN {late:List Nat} {i:Nat} {S:World->Prop} {W K':Act->World->Prop} {a:Act} {w:World} (hK:∀ a' w',((i ∉ late->S w')/\W a' w')->K' a' w') (h:W a w) (hl:i ∈ late:=by simp) : K' a w:=hK a w ⟨fun hn=>absurd hl hn,h⟩
end
section
open Go.RowKit
theorem unit_any (g:FuncId) (w:World):Calls Tryz.prog 201 #[.func (.func g) #[] #[]] w fun e w'=>e=.returned (.func (.func 266) #[] #[.pointer (some ⟨w.heap.size,0,none⟩)])/\Below w.heap.size w w':=by
 have hb:Below w.heap.size w (w.alloc (.cells #[.func (.func g) #[] #[]] 156)):=below_alloc _
 go_enter Tryz.func201,Tryz.ntmps201
 go_wp2_with fail
 go_ret
 exact ⟨rfl,hb⟩
theorem singleT_any (w:World):Calls Tryz.prog 144 #[.int .i64 2] w fun e w'=>e=.returned (.bool true)/\w=w':=by
 go_enter Tryz.func144,Tryz.ntmps144
 go_wp2_with fail
 go_ret
 exact ⟨rfl,rfl⟩
theorem validT_any (w:World):Calls Tryz.prog 104 #[.agg #[.int .i64 2,.slice none 0 0]] w fun e w'=>e=.returned (.bool true)/\Below w.heap.size w w':=by
 have hb0:Below w.heap.size w (w.alloc (.cells #[.int .i64 2,.slice none 0 0] 26)):=below_alloc _
 go_enter Tryz.func104,Tryz.ntmps104
 go_wp2_with fail
 refine (singleT_any _).mono ?_; rintro e w1 ⟨rfl,rfl⟩
 go_wp2_with fail
 go_ret
 exact ⟨rfl,hb0⟩
theorem costs_any (w:World):Calls Tryz.prog 148 #[] w fun e w'=>(∃ u p:Nat,e=.returned (.agg #[.func (.func 194) #[] #[],.func (.func 195) #[] #[],.func (.func 196) #[] #[],.func (.func 197) #[] #[],.func (.func 199) #[] #[],.func (.func 266) #[] #[.pointer (some ⟨u,0,none⟩)],.func (.func 198) #[] #[],.func (.func 200) #[] #[],.func (.func 202) #[] #[.pointer (some ⟨p,0,none⟩)]]))/\Below w.heap.size w w':=by
 have hR:=(Bl.fresh w [.nilFunc,.nilFunc,.nilFunc,.nilFunc,.nilFunc,.nilFunc,.nilFunc,.nilFunc,.nilFunc] 162).new (.cells #[.func (.func 194) #[] #[],.func (.func 195) #[] #[],.func (.func 196) #[] #[],.func (.func 197) #[] #[],.func (.func 199) #[] #[],.nilFunc,.func (.func 198) #[] #[],.func (.func 200) #[] #[],.nilFunc] 162)
 have hA:=Bl.fresh' (G:=w.heap.size+1) (w.alloc (.cells #[.nilFunc,.nilFunc,.nilFunc,.nilFunc,.nilFunc,.nilFunc,.nilFunc,.nilFunc,.nilFunc] 162)) [.func (.func 194) #[] #[],.func (.func 195) #[] #[],.func (.func 196) #[] #[],.func (.func 197) #[] #[],.func (.func 199) #[] #[],.nilFunc,.func (.func 198) #[] #[],.func (.func 200) #[] #[],.nilFunc] 162 (by simp)
 have hb0:Below w.heap.size w ((w.alloc (.cells #[.nilFunc,.nilFunc,.nilFunc,.nilFunc,.nilFunc,.nilFunc,.nilFunc,.nilFunc,.nilFunc] 162)).alloc (.cells #[.func (.func 194) #[] #[],.func (.func 195) #[] #[],.func (.func 196) #[] #[],.func (.func 197) #[] #[],.func (.func 199) #[] #[],.nilFunc,.func (.func 198) #[] #[],.func (.func 200) #[] #[],.nilFunc] 162)):=below_chain (below_alloc _) (below_alloc _)
 go_enter Tryz.func148,Tryz.ntmps148
 go_upto_region 2 with fail
 generalize (w.alloc (.cells #[.nilFunc,.nilFunc,.nilFunc,.nilFunc,.nilFunc,.nilFunc,.nilFunc,.nilFunc,.nilFunc] 162)).alloc (.cells #[.func (.func 194) #[] #[],.func (.func 195) #[] #[],.func (.func 196) #[] #[],.func (.func 197) #[] #[],.func (.func 199) #[] #[],.nilFunc,.func (.func 198) #[] #[],.func (.func 200) #[] #[],.nilFunc] 162)=W0 at *
 obtain ⟨⟨x0,x1,x2,x3⟩,x4,x5,x6,x7,x8⟩:=hA.nine
 go_wp2_with fail
 refine (unit_any _ _).mono ?_; rintro e w1 ⟨rfl,hb1⟩
 replace hA:=hA.next hb1
 replace hR:=hR.next hb1
 have hb:=below_chain hb0 hb1
 generalize W0.heap.size=U at *
 have hA5:=hA.put 5 (.func (.func 266) #[] #[.pointer (some ⟨U,0,none⟩)])
 have hA8:=hA5.put 8 (.func (.func 202) #[] #[.pointer (some ⟨w.heap.size+1,0,none⟩)])
 have hR8:=((hR.off (p:=⟨w.heap.size+1,5,none⟩) (by show w.heap.size≠w.heap.size+1; omega) (.func (.func 266) #[] #[.pointer (some ⟨U,0,none⟩)])).off (p:=⟨w.heap.size+1,8,none⟩) (by show w.heap.size≠w.heap.size+1; omega) (.func (.func 202) #[] #[.pointer (some ⟨w.heap.size+1,0,none⟩)]))
 have hR9:=hR8.put9 (.func (.func 194) #[] #[]) (.func (.func 195) #[] #[]) (.func (.func 196) #[] #[]) (.func (.func 197) #[] #[]) (.func (.func 199) #[] #[]) (.func (.func 266) #[] #[.pointer (some ⟨U,0,none⟩)]) (.func (.func 198) #[] #[]) (.func (.func 200) #[] #[]) (.func (.func 202) #[] #[.pointer (some ⟨w.heap.size+1,0,none⟩)])
 have hb9:=below9 ((hb.setCell (p:=⟨w.heap.size+1,5,none⟩) (by show w.heap.size<=w.heap.size+1; omega) (.func (.func 266) #[] #[.pointer (some ⟨U,0,none⟩)])).setCell (p:=⟨w.heap.size+1,8,none⟩) (by show w.heap.size<=w.heap.size+1; omega) (.func (.func 202) #[] #[.pointer (some ⟨w.heap.size+1,0,none⟩)])) (Nat.le_refl w.heap.size) (.func (.func 194) #[] #[]) (.func (.func 195) #[] #[]) (.func (.func 196) #[] #[]) (.func (.func 197) #[] #[]) (.func (.func 199) #[] #[]) (.func (.func 266) #[] #[.pointer (some ⟨U,0,none⟩)]) (.func (.func 198) #[] #[]) (.func (.func 200) #[] #[]) (.func (.func 202) #[] #[.pointer (some ⟨w.heap.size+1,0,none⟩)])
 clear x0 x1 x2 x3 x4 x5 x6 x7 x8
 obtain ⟨⟨x0,x1,x2,x3⟩,x4,x5,x6,x7,x8⟩:=hA.nine
 have f5:=hA.free 5
 have f8:=hA5.free 8
 obtain ⟨⟨y0,y1,y2,y3⟩,y4,y5,y6,y7,y8⟩:=hR.nine
 have g0:=hR.free 0
 have g1:=hR.free 1
 have g2:=hR.free 2
 have g3:=hR.free 3
 have g4:=hR.free 4
 have g5:=hR.free 5
 have g6:=hR.free 6
 have g7:=hR.free 7
 have g8:=hR.free 8
 have HR:=hid hR9.nine
 clear hR9 hR8 hA8 hA5 hA hR hb0 hb1 hb
 go_wp2_with fail
 obtain ⟨⟨e0,e1,e2,e3⟩,e4,e5,e6,e7,e8⟩:=HR.out
 refine bodyPost_ret (v:=.agg #[.func (.func 194) #[] #[],.func (.func 195) #[] #[],.func (.func 196) #[] #[],.func (.func 197) #[] #[],.func (.func 199) #[] #[],.func (.func 266) #[] #[.pointer (some ⟨U,0,none⟩)],.func (.func 198) #[] #[],.func (.func 200) #[] #[],.func (.func 202) #[] #[.pointer (some ⟨w.heap.size+1,0,none⟩)]]) (by simp [results,Tryz.results148,go_sem,e0,e1,e2,e3,e4,e5,e6,e7,e8]) rfl ?_
 exact ⟨⟨_,_,rfl⟩,hb9⟩
theorem kindT_any (w:World):Calls Tryz.prog 105 #[.int .i64 2] w fun e w'=>(∃ u p:Nat,e=.returned (.agg #[.func (.func 194) #[] #[],.func (.func 195) #[] #[],.func (.func 196) #[] #[],.func (.func 197) #[] #[],.func (.func 199) #[] #[],.func (.func 266) #[] #[.pointer (some ⟨u,0,none⟩)],.func (.func 198) #[] #[],.func (.func 200) #[] #[],.func (.func 202) #[] #[.pointer (some ⟨p,0,none⟩)]]))/\Below w.heap.size w w':=by
 have hR:=Bl.fresh w [.nilFunc,.nilFunc,.nilFunc,.nilFunc,.nilFunc,.nilFunc,.nilFunc,.nilFunc,.nilFunc] 162
 have hb0:Below w.heap.size w (w.alloc (.cells #[.nilFunc,.nilFunc,.nilFunc,.nilFunc,.nilFunc,.nilFunc,.nilFunc,.nilFunc,.nilFunc] 162)):=below_alloc _
 go_enter Tryz.func105,Tryz.ntmps105
 go_wp2_with fail
 refine (costs_any _).mono ?_; rintro e w1 ⟨⟨u,p,rfl⟩,hb1⟩
 replace hR:=hR.next hb1
 have hb:=below_chain hb0 hb1
 have hR9:=hR.put9 (.func (.func 194) #[] #[]) (.func (.func 195) #[] #[]) (.func (.func 196) #[] #[]) (.func (.func 197) #[] #[]) (.func (.func 199) #[] #[]) (.func (.func 266) #[] #[.pointer (some ⟨u,0,none⟩)]) (.func (.func 198) #[] #[]) (.func (.func 200) #[] #[]) (.func (.func 202) #[] #[.pointer (some ⟨p,0,none⟩)])
 have hb9:=below9 hb (Nat.le_refl w.heap.size) (.func (.func 194) #[] #[]) (.func (.func 195) #[] #[]) (.func (.func 196) #[] #[]) (.func (.func 197) #[] #[]) (.func (.func 199) #[] #[]) (.func (.func 266) #[] #[.pointer (some ⟨u,0,none⟩)]) (.func (.func 198) #[] #[]) (.func (.func 200) #[] #[]) (.func (.func 202) #[] #[.pointer (some ⟨p,0,none⟩)])
 obtain ⟨⟨y0,y1,y2,y3⟩,y4,y5,y6,y7,y8⟩:=hR.nine
 have g0:=hR.free 0
 have g1:=hR.free 1
 have g2:=hR.free 2
 have g3:=hR.free 3
 have g4:=hR.free 4
 have g5:=hR.free 5
 have g6:=hR.free 6
 have g7:=hR.free 7
 have g8:=hR.free 8
 have HR:=hid hR9.nine
 clear hR9 hR hb0 hb1 hb
 go_wp2_with fail
 obtain ⟨⟨e0,e1,e2,e3⟩,e4,e5,e6,e7,e8⟩:=HR.out
 refine bodyPost_ret (v:=.agg #[.func (.func 194) #[] #[],.func (.func 195) #[] #[],.func (.func 196) #[] #[],.func (.func 197) #[] #[],.func (.func 199) #[] #[],.func (.func 266) #[] #[.pointer (some ⟨u,0,none⟩)],.func (.func 198) #[] #[],.func (.func 200) #[] #[],.func (.func 202) #[] #[.pointer (some ⟨p,0,none⟩)]]) (by simp [results,Tryz.results105,go_sem,e0,e1,e2,e3,e4,e5,e6,e7,e8]) rfl ?_
 exact ⟨⟨_,_,rfl⟩,hb9⟩
theorem algF0 (u p:Nat) (W:World):(Instr.field 162 (.agg #[.func (.func 194) #[] #[],.func (.func 195) #[] #[],.func (.func 196) #[] #[],.func (.func 197) #[] #[],.func (.func 199) #[] #[],.func (.func 266) #[] #[.pointer (some ⟨u,0,none⟩)],.func (.func 198) #[] #[],.func (.func 200) #[] #[],.func (.func 202) #[] #[.pointer (some ⟨p,0,none⟩)]]) 0).run Tryz.prog W=.ok (.func (.func 194) #[] #[]) W:=by kernel_rfl
theorem algF1 (u p:Nat) (W:World):(Instr.field 162 (.agg #[.func (.func 194) #[] #[],.func (.func 195) #[] #[],.func (.func 196) #[] #[],.func (.func 197) #[] #[],.func (.func 199) #[] #[],.func (.func 266) #[] #[.pointer (some ⟨u,0,none⟩)],.func (.func 198) #[] #[],.func (.func 200) #[] #[],.func (.func 202) #[] #[.pointer (some ⟨p,0,none⟩)]]) 1).run Tryz.prog W=.ok (.func (.func 195) #[] #[]) W:=by kernel_rfl
theorem algF3 (u p:Nat) (W:World):(Instr.field 162 (.agg #[.func (.func 194) #[] #[],.func (.func 195) #[] #[],.func (.func 196) #[] #[],.func (.func 197) #[] #[],.func (.func 199) #[] #[],.func (.func 266) #[] #[.pointer (some ⟨u,0,none⟩)],.func (.func 198) #[] #[],.func (.func 200) #[] #[],.func (.func 202) #[] #[.pointer (some ⟨p,0,none⟩)]]) 3).run Tryz.prog W=.ok (.func (.func 197) #[] #[]) W:=by kernel_rfl
abbrev C2w (G:Nat) (a b:Value) (w:World):Prop:=w.cell? ⟨G,0,none⟩=some a/\w.cell? ⟨G,1,none⟩=some b
abbrev C8w (G:Nat) (a b c d e f g k:Value) (w:World):Prop:=(w.cell? ⟨G,0,none⟩=some a/\w.cell? ⟨G,1,none⟩=some b/\w.cell? ⟨G,2,none⟩=some c/\w.cell? ⟨G,3,none⟩=some d)/\w.cell? ⟨G,4,none⟩=some e/\w.cell? ⟨G,5,none⟩=some f/\w.cell? ⟨G,6,none⟩=some g/\w.cell? ⟨G,7,none⟩=some k
theorem cellN {w w':World} {G i:Nat} {v:Value} (h:w.cell? ⟨G,i,none⟩=some v) (hb:Below w.heap.size w w'):w'.cell? ⟨G,i,none⟩=some v:=(hb.cell (p:=⟨G,i,none⟩) (World.block_lt_of_cell? w _ h)).trans h
theorem C2w.next {G:Nat} {a b:Value} {w w':World} (h:C2w G a b w) (hb:Below w.heap.size w w'):C2w G a b w':=⟨cellN h.1 hb,cellN h.2 hb⟩
theorem C8w.next {G:Nat} {a b c d e f g k:Value} {w w':World} (h:C8w G a b c d e f g k w) (hb:Below w.heap.size w w'):C8w G a b c d e f g k w' :=
 ⟨⟨cellN h.1.1 hb,cellN h.1.2.1 hb,cellN h.1.2.2.1 hb,cellN h.1.2.2.2 hb⟩,cellN h.2.1 hb,cellN h.2.2.1 hb,cellN h.2.2.2.1 hb,cellN h.2.2.2.2 hb⟩
theorem ring_box (w:World) (c:Int) (i:Bool):Below w.heap.size w ((w.alloc (.cells #[.int .i64 2,.slice none 0 0] 26)).alloc (.cells #[.bool false,.slice none 0 0,.slice none 0 0,.int .i64 c,.bool i,.int .u64 0,.slice none 0 0,.slice none 0 0] 45)) /\
  Bl w.heap.size [.int .i64 2,.slice none 0 0] 26 ((w.alloc (.cells #[.int .i64 2,.slice none 0 0] 26)).alloc (.cells #[.bool false,.slice none 0 0,.slice none 0 0,.int .i64 c,.bool i,.int .u64 0,.slice none 0 0,.slice none 0 0] 45)) /\
  Bl (w.heap.size+1) [.bool false,.slice none 0 0,.slice none 0 0,.int .i64 c,.bool i,.int .u64 0,.slice none 0 0,.slice none 0 0] 45 ((w.alloc (.cells #[.int .i64 2,.slice none 0 0] 26)).alloc (.cells #[.bool false,.slice none 0 0,.slice none 0 0,.int .i64 c,.bool i,.int .u64 0,.slice none 0 0,.slice none 0 0] 45)) :=
 ⟨below_chain (below_alloc _) (below_alloc _),(Bl.fresh w [.int .i64 2,.slice none 0 0] 26).new _,Bl.fresh' (G:=w.heap.size+1) (w.alloc (.cells #[.int .i64 2,.slice none 0 0] 26)) [.bool false,.slice none 0 0,.slice none 0 0,.int .i64 c,.bool i,.int .u64 0,.slice none 0 0,.slice none 0 0] 45 (by simp)⟩
theorem checkT_any (c:Nat) (i:Bool) (hc:c<=1099511627776) (hi:i=true->c=0) (w:World):Calls Tryz.prog 152 #[.agg #[.int .i64 2,.slice none 0 0],.agg #[.bool false,.slice none 0 0,.slice none 0 0,.int .i64 (c:Int),.bool i,.int .u64 0,.slice none 0 0,.slice none 0 0]] w fun e w'=>e=.returned (.bool true)/\Below w.heap.size w w':=by
 obtain ⟨hb0,hA,hB⟩:=ring_box w (c:Int) i
 go_enter Tryz.func152,Tryz.ntmps152
 go_wp2_with fail
 refine (validT_any _).mono ?_; rintro e w1 ⟨rfl,hb1⟩
 replace hA:=hA.next hb1
 replace hB:=hB.next hb1
 have hb:=below_chain hb0 hb1
 have r:=hA.two
 have x:=hB.eight
 obtain ⟨r0,r1⟩:=hA.two
 clear hb0 hb1 hA hB
 go_upto_region 4 with fail
 have hd:=(Below.refl w1.heap.size w1).drew
 have hS:C2w w.heap.size (.int .i64 2) (.slice none 0 0) w1.drew/\C8w (w.heap.size+1) (.bool false) (.slice none 0 0) (.slice none 0 0) (.int .i64 (c:Int)) (.bool i) (.int .u64 0) (.slice none 0 0) (.slice none 0 0) w1.drew:=⟨C2w.next r hd,C8w.next x hd⟩
 have hK:∀ w' w'',(C2w w.heap.size (.int .i64 2) (.slice none 0 0) w'/\C8w (w.heap.size+1) (.bool false) (.slice none 0 0) (.slice none 0 0) (.int .i64 (c:Int)) (.bool i) (.int .u64 0) (.slice none 0 0) (.slice none 0 0) w')->Below w'.heap.size w' w''->(C2w w.heap.size (.int .i64 2) (.slice none 0 0) w''/\C8w (w.heap.size+1) (.bool false) (.slice none 0 0) (.slice none 0 0) (.int .i64 (c:Int)) (.bool i) (.int .u64 0) (.slice none 0 0) (.slice none 0 0) w''):=fun w' w'' h hb=>⟨C2w.next h.1 hb,C8w.next h.2 hb⟩
 have hbd:=hb.trans (hd.mono hb.size)
 clear r x r0 r1
 refine wp_region_D (fun w'=>C2w w.heap.size (.int .i64 2) (.slice none 0 0) w'/\C8w (w.heap.size+1) (.bool false) (.slice none 0 0) (.slice none 0 0) (.int .i64 (c:Int)) (.bool i) (.int .u64 0) (.slice none 0 0) (.slice none 0 0) w') [] (by kernel_rfl) ?_
 refine tkCp 0 rfl hS ?_
 refine tkCl 1 (v:=?_) rfl ?_ hS ?_
 rotate_left
 ·intro w hw; obtain ⟨⟨a0,a1⟩,⟨b0,b1,b2,b3⟩,b4,b5,b6,b7⟩:=hw; first | (go_simp; done) | (go_simp; with_reducible rfl)
 refine tkCl 4 (v:=?_) rfl ?_ hS ?_
 rotate_left
 ·intro w hw; obtain ⟨⟨a0,a1⟩,⟨b0,b1,b2,b3⟩,b4,b5,b6,b7⟩:=hw; first | (go_simp; done) | (go_simp; with_reducible rfl)
 refine wpO (i:=2) rfl fun KK hKK=>?_
 go_simp
 go_at_call 105
 refine (kindT_any _).mono ?_; rintro e w2 ⟨⟨u,p,rfl⟩,hb2⟩
 have hfl:=algF0 u p
 try go_simp
 refine hKK _ _ ⟨fun _=>hK _ _ hS hb2,?_⟩; clear hKK KK
 refine tkCp 3 rfl (hK _ _ hS hb2) ?_
 refine wpO (i:=5) rfl fun KK hKK=>?_
 go_simp
 go_at_call 194
 refine (costs1_any c i hc hi _).mono ?_; rintro e w3 ⟨rfl,hb3⟩
 try go_simp
 refine hKK _ _ ⟨fun _=>hK _ _ (hK _ _ hS hb2) hb3,?_⟩; clear hKK KK
 refine wpO (i:=6) rfl fun KK hKK=>?_
 go_simp
 refine hKK _ _ ⟨fun _=>hK _ _ (hK _ _ hS hb2) hb3,?_⟩; clear hKK KK
 refine wpAnyD_done (by kernel_rfl) ?_ _
 go_wp2_with fail
 go_ret
 exact ⟨rfl,below_chain (below_chain hbd hb2) hb3⟩
end
end Go.Proofs.YtnapapijhhldpaaGreatDoor

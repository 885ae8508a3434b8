/-
  Texts joined by program: Twc, Drw. No condition of its own.
-/
import Derived.Test.YtnapapijhhldpaaGreatDoorJkAC
namespace Go.Proofs.YtnapapijhhldpaaGreatDoor
set_option linter.unusedSimpArgs false
set_option linter.unusedVariables false
set_option maxRecDepth 100000
set_option maxHeartbeats 4000000
section
open Go.RowKit
theorem q5o (w:World):Calls Tryz.prog 174 #[.slice none 0 0,.slice none 0 0] w fun e w'=>e=.returned (.bool true)/\w=w':=by
 go_enter Tryz.func174,Tryz.ntmps174
 go_wp2_with fail
 go_loop [13] (fun iv=>iv=.int .i64 0) (fun _=>0)
 case atStart=>rfl
 case round =>
  obtain rfl:=hrel
  go_wp2_with fail
  go_ret
  exact ⟨rfl,rfl⟩
theorem z0a (f:Value) (w:World):Calls Tryz.prog 137 #[.slice none 0 0,.slice none 0 0,f] w fun e w'=>e=.returned (.bool true)/\w=w':=by
 go_enter Tryz.func137,Tryz.ntmps137
 go_wp2_with fail
 go_loop [17] (fun iv=>iv=.int .i64 0) (fun _=>0)
 case atStart=>rfl
 case round =>
  obtain rfl:=hrel
  go_wp2_with fail
  go_ret
  exact ⟨rfl,rfl⟩
theorem j9z (f:Value) (w:World):Calls Tryz.prog 138 #[.slice none 0 0,.slice none 0 0,f] w fun e w'=>e=.returned (.bool true)/\w=w':=by
 go_enter Tryz.func138,Tryz.ntmps138
 go_wp2_with fail
 go_loop [17] (fun iv=>iv=.int .i64 0) (fun _=>0)
 case atStart=>rfl
 case round =>
  obtain rfl:=hrel
  go_wp2_with fail
  go_ret
  exact ⟨rfl,rfl⟩
theorem q8a (w:World):Calls Tryz.prog 136 #[.agg #[.bool false,.slice none 0 0,.slice none 0 0],.agg #[.bool false,.slice none 0 0,.slice none 0 0]] w fun e w'=>e=.returned (.bool true)/\Below w.heap.size w w':=by
 have hb:Below w.heap.size w ((w.alloc (.cells #[.bool false,.slice none 0 0,.slice none 0 0] 41)).alloc (.cells #[.bool false,.slice none 0 0,.slice none 0 0] 41)):=qQ (qJ _) (qJ _)
 go_enter Tryz.func136,Tryz.ntmps136
 go_wp2_with fail
 refine (q5o _).mono ?_; rintro e w1 ⟨rfl,rfl⟩
 go_wp2_with fail
 refine (q5o _).mono ?_; rintro e w1 ⟨rfl,rfl⟩
 go_wp2_with fail
 go_ret
 exact ⟨rfl,hb⟩
theorem q2e (w:World) (c d:Int) (i j:Bool):Below w.heap.size w ((w.alloc (.cells #[.bool false,.slice none 0 0,.slice none 0 0,.int .i64 c,.bool i,.int .u64 0,.slice none 0 0,.slice none 0 0] 45)).alloc (.cells #[.bool false,.slice none 0 0,.slice none 0 0,.int .i64 d,.bool j,.int .u64 0,.slice none 0 0,.slice none 0 0] 45)) /\
  Bl w.heap.size [.bool false,.slice none 0 0,.slice none 0 0,.int .i64 c,.bool i,.int .u64 0,.slice none 0 0,.slice none 0 0] 45 ((w.alloc (.cells #[.bool false,.slice none 0 0,.slice none 0 0,.int .i64 c,.bool i,.int .u64 0,.slice none 0 0,.slice none 0 0] 45)).alloc (.cells #[.bool false,.slice none 0 0,.slice none 0 0,.int .i64 d,.bool j,.int .u64 0,.slice none 0 0,.slice none 0 0] 45)) /\
  Bl (w.heap.size+1) [.bool false,.slice none 0 0,.slice none 0 0,.int .i64 d,.bool j,.int .u64 0,.slice none 0 0,.slice none 0 0] 45 ((w.alloc (.cells #[.bool false,.slice none 0 0,.slice none 0 0,.int .i64 c,.bool i,.int .u64 0,.slice none 0 0,.slice none 0 0] 45)).alloc (.cells #[.bool false,.slice none 0 0,.slice none 0 0,.int .i64 d,.bool j,.int .u64 0,.slice none 0 0,.slice none 0 0] 45)) :=
 ⟨qQ (qJ _) (qJ _),(Bl.fresh w [.bool false,.slice none 0 0,.slice none 0 0,.int .i64 c,.bool i,.int .u64 0,.slice none 0 0,.slice none 0 0] 45).new _,Bl.fresh' (G:=w.heap.size+1) (w.alloc (.cells #[.bool false,.slice none 0 0,.slice none 0 0,.int .i64 c,.bool i,.int .u64 0,.slice none 0 0,.slice none 0 0] 45)) [.bool false,.slice none 0 0,.slice none 0 0,.int .i64 d,.bool j,.int .u64 0,.slice none 0 0,.slice none 0 0] 45 (by simp)⟩
theorem q6d (c d:Nat) (i j:Bool) (w:World):Calls Tryz.prog 92 #[.agg #[.bool false,.slice none 0 0,.slice none 0 0,.int .i64 (c:Int),.bool i,.int .u64 0,.slice none 0 0,.slice none 0 0],.agg #[.bool false,.slice none 0 0,.slice none 0 0,.int .i64 (d:Int),.bool j,.int .u64 0,.slice none 0 0,.slice none 0 0]] w fun e w'=>e=.returned (.bool (decide (c=d/\i=j)))/\Below w.heap.size w w':=by
 obtain ⟨hb0,hA,hB⟩:=q2e w c d i j
 go_enter Tryz.func92,Tryz.ntmps92
 go_wp2_with fail
 refine (q8a _).mono ?_; rintro e w1 ⟨rfl,hb1⟩
 replace hA:=hA.next hb1
 replace hB:=hB.next hb1
 have hb:=qQ hb0 hb1
 obtain ⟨⟨x0,x1,x2,x3⟩,x4,x5,x6,x7⟩:=hA.eight
 obtain ⟨⟨y0,y1,y2,y3⟩,y4,y5,y6,y7⟩:=hB.eight
 clear hb0 hb1 hA hB
 by_cases h:c=d
 ·subst h
  cases i<;>cases j
  case false.true | true.false =>
   go_wp2_with fail
   go_ret
   exact ⟨by simp,hb⟩
  all_goals
   go_wp2_with fail
   refine (z0a _ _).mono ?_; rintro e w2 ⟨rfl,rfl⟩
   go_wp2_with fail
   refine (j9z _ _).mono ?_; rintro e w3 ⟨rfl,rfl⟩
   go_wp2_with fail
   go_ret
   exact ⟨by simp,hb⟩
 ·have c1:((c:Int)==(d:Int))=false:=by rw [beq_eq_false_iff_ne]; omega
  have c2:(c==d)=false:=by rw [beq_eq_false_iff_ne]; omega
  have hdd:Hid (decide (c=d/\i=j)=false):=hid (by simp [h])
  clear h
  go_wp2_with fail
  go_ret
  exact ⟨by rw [hdd.out]; rfl,hb⟩
theorem j6l (c d:Nat) (i j:Bool) (w:World):Calls Tryz.prog 198 #[.agg #[.bool false,.slice none 0 0,.slice none 0 0,.int .i64 (c:Int),.bool i,.int .u64 0,.slice none 0 0,.slice none 0 0],.agg #[.bool false,.slice none 0 0,.slice none 0 0,.int .i64 (d:Int),.bool j,.int .u64 0,.slice none 0 0,.slice none 0 0]] w fun e w'=>e=.returned (.bool (!i&&(j||decide (c<d))))/\Below w.heap.size w w':=by
 obtain ⟨hb0,hA,hB⟩:=q2e w c d i j
 obtain ⟨⟨x0,x1,x2,x3⟩,x4,x5,x6,x7⟩:=hA.eight
 obtain ⟨⟨y0,y1,y2,y3⟩,y4,y5,y6,y7⟩:=hB.eight
 clear hA hB
 obtain ⟨q,hq⟩:∃ q,decide (c<d)=q:=⟨_,rfl⟩
 have c1:decide ((c:Int)<(d:Int))=q:=by rw [<-hq]; exact decide_eq_decide.2 (by omega)
 rw [hq]
 have c2:=hq
 clear hq
 go_enter Tryz.func198,Tryz.ntmps198
 cases i with
 | true =>
  go_wp2_with fail
  go_ret
  exact ⟨rfl,hb0⟩
 | false =>
  cases j with
  | true =>
   go_wp2_with fail
   go_ret
   exact ⟨rfl,hb0⟩
  | false =>
   go_wp2_with fail
   go_ret
   exact ⟨rfl,hb0⟩
theorem j4c (w:World):Calls Tryz.prog 195 #[] w fun e w'=>e=.returned (.agg #[.bool false,.slice none 0 0,.slice none 0 0,.int .i64 0,.bool true,.int .u64 0,.slice none 0 0,.slice none 0 0])/\Below w.heap.size w w':=by
 have hO:=Bl.fresh w [.bool false,.slice none 0 0,.slice none 0 0,.int .i64 0,.bool false,.int .u64 0,.slice none 0 0,.slice none 0 0] 45
 have hO2:=hO.put8 (.bool false) (.slice none 0 0) (.slice none 0 0) (.int .i64 0) (.bool true) (.int .u64 0) (.slice none 0 0) (.slice none 0 0)
 have hb:=q0d (qJ (w:=w) (.cells #[.bool false,.slice none 0 0,.slice none 0 0,.int .i64 0,.bool false,.int .u64 0,.slice none 0 0,.slice none 0 0] 45)) (Nat.le_refl w.heap.size) (.bool false) (.slice none 0 0) (.slice none 0 0) (.int .i64 0) (.bool true) (.int .u64 0) (.slice none 0 0) (.slice none 0 0)
 have HO:=hid hO2.eight
 obtain ⟨⟨f0,f1,f2,f3⟩,f4,f5,f6,f7⟩:=hO.free8
 obtain ⟨⟨o0,o1,o2,o3⟩,o4,o5,o6,o7⟩:=hO.eight
 clear hO hO2
 go_enter Tryz.func195,Tryz.ntmps195
 go_upto_region 1 with fail
 generalize w.alloc (.cells #[.bool false,.slice none 0 0,.slice none 0 0,.int .i64 0,.bool false,.int .u64 0,.slice none 0 0,.slice none 0 0] 45)=W0 at *
 go_wp2_with fail
 obtain ⟨⟨e0,e1,e2,e3⟩,e4,e5,e6,e7⟩:=HO.out
 refine bodyPost_ret (v:=.agg #[.bool false,.slice none 0 0,.slice none 0 0,.int .i64 0,.bool true,.int .u64 0,.slice none 0 0,.slice none 0 0]) (by simp [results,Tryz.results195,go_sem,e0,e1,e2,e3,e4,e5,e6,e7]) rfl ?_
 exact ⟨rfl,hb⟩
theorem j4d (c:Nat) (i:Bool) (hc:c<=1099511627776) (hi:i=true->c=0) (w:World):Calls Tryz.prog 194 #[.agg #[.bool false,.slice none 0 0,.slice none 0 0,.int .i64 (c:Int),.bool i,.int .u64 0,.slice none 0 0,.slice none 0 0]] w fun e w'=>e=.returned (.bool true)/\Below w.heap.size w w':=by
 have hA:=Bl.fresh w [.bool false,.slice none 0 0,.slice none 0 0,.int .i64 (c:Int),.bool i,.int .u64 0,.slice none 0 0,.slice none 0 0] 45
 have hb0:Below w.heap.size w (w.alloc (.cells #[.bool false,.slice none 0 0,.slice none 0 0,.int .i64 (c:Int),.bool i,.int .u64 0,.slice none 0 0,.slice none 0 0] 45)):=qJ _
 obtain ⟨⟨x0,x1,x2,x3⟩,x4,x5,x6,x7⟩:=hA.eight
 clear hA
 have heq:=hid (fun W=>q6d c c i i W)
 cases i with
 | true =>
  have h0:=hi rfl
  subst h0
  go_enter Tryz.func194,Tryz.ntmps194
  go_wp2_with fail
  refine (heq.out _).mono ?_; rintro e w1 ⟨rfl,hb1⟩
  go_wp2_with fail
  go_ret
  exact ⟨by simp,qQ hb0 hb1⟩
 | false =>
  have c1:¬ (1099511627776:Int)<(c:Int):=by omega
  have c2:(c:Int)<=1099511627776:=by omega
  go_enter Tryz.func194,Tryz.ntmps194
  go_wp2_with fail
  refine (heq.out _).mono ?_; rintro e w1 ⟨rfl,hb1⟩
  go_wp2_with fail
  go_ret
  exact ⟨by simp,qQ hb0 hb1⟩
end
section
section
variable {P:Program} {ops:Array Oper} {Q:EP} {md:Region.Mode} {S:World->Prop} {late:List Nat}
def qU (P:Program) (md:Region.Mode) (ops:Array Oper) (Q:EP) (S:World->Prop) (late:List Nat):Nat->Array Bool->Act->World->Prop
 | 0,listed,a,w=>Region.ready md ops listed=[]/\Q .normal a w
 | fuel+1,listed,a,w =>
  (Region.ready md ops listed=[]->Q .normal a w) /\
  ∀ i∈Region.ready md ops listed,wpOp P ops Q i (fun a' w'=>(i∉late->S w')/\qU P md ops Q S late fuel (listed.setIfInBounds i true) a' w') a w
theorem q5j:∀ (fuel:Nat) (listed:Array Bool) (a:Act) (w:World),qU P md ops Q S late fuel listed a w->wpAny P md ops Q fuel listed a w
 | 0,_,_,_,h=>h
 | fuel+1,_,_,_,h=>⟨h.1,fun i hi=>wpOp_mono (fun a' w' h'=>q5j fuel _ a' w' h'.2) (h.2 i hi)⟩
def j2j (md:Region.Mode) (ops:Array Oper) (i:Nat):List Nat :=
 (List.range ops.size).foldl (fun acc j=>match ops[j]? with
  | some o=>if o.after.any (fun e=>Region.binds md e&&(e.on==i||acc.contains e.on)) then j::acc else acc
  | none=>acc) []
def zW (md:Region.Mode) (ops:Array Oper) (listed:Array Bool) (late:List Nat) (i:Nat):Bool :=
 (j2j md ops i).all (fun j=>!listed.getD j false&&((ops[j]?).map fun o=>o.after.any (fun e=>Region.binds md e&&(e.on==i||(j2j md ops i).contains e.on))).getD false)&&late.all (fun j=>(j2j md ops i).contains j)
theorem j0o {listed:Array Bool} {i:Nat} (h:zW md ops listed late i=true):∃ D:List Nat,(∀ j∈late,j∈D)/\(∀ j∈D,listed.getD j false=false) /\
  ∀ j∈D,∃ o,ops[j]? = some o/\∃ e∈o.after,Region.binds md e=true/\(e.on=i\/e.on∈D):=by
 unfold zW at h
 simp only [Bool.and_eq_true,List.all_eq_true,List.contains_eq_mem,decide_eq_true_eq,Bool.not_eq_true'] at h
 refine ⟨j2j md ops i,h.2,fun j hj=>(h.1 j hj).1,fun j hj=>?_⟩
 have h1:=(h.1 j hj).2
 cases ho:ops[j]? with
 | none=>rw [ho] at h1; cases h1
 | some o =>
  rw [ho] at h1
  simp only [Option.map_some,Option.getD_some] at h1
  obtain ⟨e,he,hb⟩:=Array.any_eq_true'.1 h1
  simp only [Bool.and_eq_true,Bool.or_eq_true,beq_iff_eq,List.contains_eq_mem,decide_eq_true_eq] at hb
  exact ⟨o,rfl,e,he,hb.1,hb.2⟩
theorem q7o {i:Nat} {oi:Oper} {v:Value} (hi:ops[i]? = some oi) (hsel:∀ (j:Nat) (o:Oper) cs b,ops[j]? = some o->o.op≠.select cs b)
  (hQ:∀ c a w,Q (.panic c) (a.put oi.dst v) w->Q (.panic c) a w) {D:List Nat} (hLD:∀ j∈late,j∈D) (hD:∀ j∈D,∃ o,ops[j]? = some o/\∃ e∈o.after,Region.binds md e=true/\(e.on=i\/e.on∈D)) :
  ∀ (fuel:Nat) (listed:Array Bool) (a:Act) (w:World),
   (∀ j oj,ops[j]? = some oj->j≠i->listed.getD j true=false->(∀ e∈oj.after,Region.binds md e=true->e.on≠i)->oi.apart ops oj=true) ->
   (∀ j∈D,listed.getD j false=false) ->
   i∈Region.ready md ops listed->YieldsIf P ops S oi v a->S w ->
   qU P md ops Q S late fuel (listed.setIfInBounds i true) (a.put oi.dst v) w->qU P md ops Q S late (fuel+1) listed a w:=by
 intro fuel
 induction fuel with
 | zero =>
  intro listed a w _ _ hr hy hS H
  refine ⟨fun h=>(by rw [h] at hr; cases hr),fun j hj=>?_⟩
  by_cases hji:j=i
  ·subst hji; exact hy.wpOp hi hS ⟨fun _=>hS,H⟩
  ·have:=ready_mono hj hji
   rw [H.1] at this
   cases this
 | succ fuel ih =>
  intro listed a w hfree hun hr hy hS H
  refine ⟨fun h=>(by rw [h] at hr; cases hr),fun j hj=>?_⟩
  by_cases hji:j=i
  ·subst hji; exact hy.wpOp hi hS ⟨fun _=>hS,H⟩
  ·have h1:=H.2 j (ready_mono hj hji)
   obtain ⟨hjun,oj,hoj,hall⟩:=mem_ready.1 hj
   have hi0:listed.getD i false=false:=by
    have h0:=(mem_ready.1 hr).1
    rcases Nat.lt_or_ge i listed.size with h' | h'
    ·simpa [h'] using h0
    ·simp [Array.getElem?_eq_none h']
   have hnot:∀ e∈oj.after,Region.binds md e=true->e.on≠i:=fun e he hb heq=>by
    have h1:=hall e he hb
    rw [heq,hi0] at h1
    cases h1
   have hjD:j∉D:=fun hm=>by
    obtain ⟨o',ho',e,he,hb,hon⟩:=hD j hm
    rw [hoj] at ho'
    injection ho' with ho'
    subst ho'
    have h2:=hall e he hb
    rcases hon with hon | hon
    ·rw [hon,hi0] at h2; cases h2
    ·rw [hun _ hon] at h2; cases h2
   have h2:=wpOp_putIf hoj (hfree j oj hoj hji hjun hnot) (fun cs b=>hsel i oi cs b hi) (fun cs b=>hsel j oj cs b hoj) hQ hy h1
   have hfree':∀ k ok,ops[k]? = some ok->k≠i->(listed.setIfInBounds j true).getD k true=false ->
     (∀ e∈ok.after,Region.binds md e=true->e.on≠i)->oi.apart ops ok=true:=fun k ok hk hki hun' hno=>by
    refine hfree k ok hk hki ?_ hno
    by_cases hjk:j=k
    ·subst hjk; exact hjun
    ·rw [getD_set_ne true hjk] at hun'; exact hun'
   have hun2:∀ k∈D,(listed.setIfInBounds j true).getD k false=false:=fun k hk=>by
    rw [getD_set_ne false (fun e=>hjD (by rw [e]; exact hk))]; exact hun k hk
   refine wpOp_mono (fun a' w' h3=>?_) h2
   have hS':S w':=h3.2.1 fun hl=>hjD (hLD j hl)
   refine ⟨fun _=>hS',ih (listed.setIfInBounds j true) a' w' hfree' hun2 (ready_mono hr (Ne.symm hji)) h3.1 hS' ?_⟩
   rw [Array.setIfInBounds_comm _ _ hji]
   exact h3.2.2
theorem jS {i:Nat} {oi:Oper} {v:Value} {fuel:Nat} {listed:Array Bool} {a:Act} {w:World} (hi:ops[i]? = some oi)
  (hs:Region.noSelect ops=true) (hf:Region.free md ops listed i=true) (hr:(Region.ready md ops listed).contains i=true) (hl:zW md ops listed late i=true)
  (hQ:∀ c a w,Q (.panic c) (a.put oi.dst v) w->Q (.panic c) a w) (hy:YieldsIf P ops S oi v a) (hS:S w)
  (h:qU P md ops Q S late fuel (listed.setIfInBounds i true) (a.put oi.dst v) w):qU P md ops Q S late (fuel+1) listed a w:=by
 obtain ⟨D,h1,h2,h3⟩:=j0o hl
 exact q7o hi (Region.noSelect_spec hs) hQ h1 h3 fuel listed a w (Region.free_spec hi hf) h2 (by simpa using hr) hy hS h
theorem jN {i:Nat} {oi:Oper} {v:Value} {fuel:Nat} {listed:Array Bool} {a:Act} {w:World} (d:Option Tmp) (hi:ops[i]? = some oi) (hd:oi.dst=d)
  (hs:Region.noSelect ops=true) (hf:Region.free md ops listed i=true) (hr:(Region.ready md ops listed).contains i=true) (hl:zW md ops listed late i=true)
  (hQ:∀ c a w,Q (.panic c) (a.put oi.dst v) w->Q (.panic c) a w) (hy:YieldsIf P ops S oi v a) (hS:S w)
  (h:qU P md ops Q S late fuel (listed.setIfInBounds i true) (a.put d v) w):qU P md ops Q S late (fuel+1) listed a w:=by
 subst hd; exact jS hi hs hf hr hl hQ hy hS h
theorem j2p {i:Nat} {o:Oper} {fuel:Nat} {listed:Array Bool} {a:Act} {w:World} (hr:Region.ready md ops listed=[i]) (ho:ops[i]? = some o)
  (h:∀ K':Act->World->Prop,(∀ a' w',((i∉late->S w')/\qU P md ops Q S late fuel (listed.setIfInBounds i true) a' w')->K' a' w')->if Region.wanted o (yielded ops a.tmps)=true then Oper.wp P o a w K' Q else K' (a.put o.dst undef) w) :
  qU P md ops Q S late (fuel+1) listed a w:=by
 refine ⟨fun h0=>(by rw [hr] at h0; cases h0),fun j hj=>?_⟩
 rw [hr,List.mem_singleton] at hj
 subst hj
 have:=h _ (fun _ _ h=>h)
 unfold wpOp
 rw [ho]
 show if Region.wanted o (yielded ops a.tmps)=true then _ else _
 split
 ·rename_i hw; rw [if_pos hw] at this; exact .inl this
 ·rename_i hw; rw [if_neg hw] at this; exact this
theorem jM {i j:Nat} {o o':Oper} {fuel:Nat} {listed:Array Bool} {a:Act} {w:World} (hr:Region.ready md ops listed=[i,j]) (ho:ops[i]? = some o) (ho':ops[j]? = some o')
  (h:∀ K':Act->World->Prop,(∀ a' w',((i∉late->S w')/\qU P md ops Q S late fuel (listed.setIfInBounds i true) a' w')->K' a' w')->if Region.wanted o (yielded ops a.tmps)=true then Oper.wp P o a w K' Q else K' (a.put o.dst undef) w)
  (h':∀ K':Act->World->Prop,(∀ a' w',((j∉late->S w')/\qU P md ops Q S late fuel (listed.setIfInBounds j true) a' w')->K' a' w')->if Region.wanted o' (yielded ops a.tmps)=true then Oper.wp P o' a w K' Q else K' (a.put o'.dst undef) w) :
  qU P md ops Q S late (fuel+1) listed a w:=by
 refine ⟨fun h0=>(by rw [hr] at h0; cases h0),fun k hk=>?_⟩
 rw [hr] at hk
 simp only [List.mem_cons,List.not_mem_nil,or_false] at hk
 rcases hk with rfl | rfl
 ·have:=h _ (fun _ _ h=>h)
  unfold wpOp
  rw [ho]
  show if Region.wanted o (yielded ops a.tmps)=true then _ else _
  split
  ·rename_i hw; rw [if_pos hw] at this; exact .inl this
  ·rename_i hw; rw [if_neg hw] at this; exact this
 ·have:=h' _ (fun _ _ h=>h)
  unfold wpOp
  rw [ho']
  show if Region.wanted o' (yielded ops a.tmps)=true then _ else _
  split
  ·rename_i hw; rw [if_pos hw] at this; exact .inl this
  ·rename_i hw; rw [if_neg hw] at this; exact this
theorem qZ {listed:Array Bool} {a:Act} {w:World} (hr:Region.ready md ops listed=[]) (h:Q .normal a w):∀ fuel,qU P md ops Q S late fuel listed a w
 | 0=>⟨hr,h⟩
 | _+1=>⟨fun _=>h,by rw [hr]; simp⟩
theorem qV (S:World->Prop) (late:List Nat) {id:Nat} {a:Act} {w:World} (hm:P.follows .mixedOrders=true)
  (h:qU P .any ops Q S late ops.size (Array.replicate ops.size false) a w.drew):(Code.region id ops true).wp P Q a w :=
 wp_region_any hm (q5j _ _ _ _ h)
end
section
variable {P:Program} {ops:Array Oper} {Q:EP} {md:Region.Mode} {S:World->Prop} {late:List Nat} (i:Nat) {oi:Oper} {v:Value} {fuel:Nat} {listed:Array Bool} {a:Act} {w:World}
theorem wA (d:Option Tmp) (hi:ops[i]?=some oi) (hd:oi.dst=d) (hy:YieldsIf P ops S oi v a) (hS:S w) (h:qU P md ops Q S late fuel (listed.setIfInBounds i true) (a.put d v) w)
 (hs:Region.noSelect ops=true:=by kernel_rfl) (hf:Region.free md ops listed i=true:=by kernel_rfl) (hr:(Region.ready md ops listed).contains i=true:=by kernel_rfl) (hl:zW md ops listed late i=true:=by kernel_rfl) (hQ:∀ c a w,Q (.panic c) (a.put oi.dst v) w->Q (.panic c) a w:=by exact fun _ _ _ h=>h) : qU P md ops Q S late (fuel+1) listed a w:=
 jN d hi hd hs hf hr hl hQ hy hS h
theorem wAp (d:Option Tmp) (hi:ops[i]?=some oi) (hd:oi.dst=d) (hS:S w) (h:qU P md ops Q S late fuel (listed.setIfInBounds i true) (a.put d v) w)
 (hw:Region.wanted oi (yielded ops a.tmps)=true:=by rfl) (hy:∀ w,S w->(execOp a.eval oi).run P w=.ok (.value v) w:=by intro wz _; first | (go_simp; done) | (go_simp; with_reducible rfl)) (hs:Region.noSelect ops=true:=by kernel_rfl) (hf:Region.free md ops listed i=true:=by kernel_rfl) (hr:(Region.ready md ops listed).contains i=true:=by kernel_rfl) (hl:zW md ops listed late i=true:=by kernel_rfl) (hQ:∀ c a w,Q (.panic c) (a.put oi.dst v) w->Q (.panic c) a w:=by exact fun _ _ _ h=>h) : qU P md ops Q S late (fuel+1) listed a w:=
 jN d hi hd hs hf hr hl hQ (Or.inl ⟨hw,hy⟩) hS h
theorem wAg (d:Option Tmp) (hi:ops[i]?=some oi) (hd:oi.dst=d) (hS:S w) (h:qU P md ops Q S late fuel (listed.setIfInBounds i true) (a.put d v) w)
 (hw:Region.wanted oi (yielded ops a.tmps)=true:=by kernel_rfl) (hy:∀ w,S w->(execOp a.eval oi).run P w=.ok (.value v) w:=by intro wz _; first | (go_simp; done) | (go_simp; with_reducible rfl)) (hs:Region.noSelect ops=true:=by kernel_rfl) (hf:Region.free md ops listed i=true:=by kernel_rfl) (hr:(Region.ready md ops listed).contains i=true:=by kernel_rfl) (hl:zW md ops listed late i=true:=by kernel_rfl) (hQ:∀ c a w,Q (.panic c) (a.put oi.dst v) w->Q (.panic c) a w:=by exact fun _ _ _ h=>h) : qU P md ops Q S late (fuel+1) listed a w:=
 jN d hi hd hs hf hr hl hQ (Or.inl ⟨hw,hy⟩) hS h
theorem wAl (d:Option Tmp) (hi:ops[i]?=some oi) (hd:oi.dst=d) (hy:∀ w,S w->(execOp a.eval oi).run P w=.ok (.value v) w) (hS:S w) (h:qU P md ops Q S late fuel (listed.setIfInBounds i true) (a.put d v) w)
 (hw:Region.wanted oi (yielded ops a.tmps)=true:=by rfl) (hs:Region.noSelect ops=true:=by kernel_rfl) (hf:Region.free md ops listed i=true:=by kernel_rfl) (hr:(Region.ready md ops listed).contains i=true:=by kernel_rfl) (hl:zW md ops listed late i=true:=by kernel_rfl) (hQ:∀ c a w,Q (.panic c) (a.put oi.dst v) w->Q (.panic c) a w:=by exact fun _ _ _ h=>h) : qU P md ops Q S late (fuel+1) listed a w:=
 jN d hi hd hs hf hr hl hQ (Or.inl ⟨hw,hy⟩) hS h
theorem wAm (d:Option Tmp) (hi:ops[i]?=some oi) (hd:oi.dst=d) (hy:∀ w,S w->(execOp a.eval oi).run P w=.ok (.value v) w) (hS:S w) (h:qU P md ops Q S late fuel (listed.setIfInBounds i true) (a.put d v) w)
 (hw:Region.wanted oi (yielded ops a.tmps)=true:=by kernel_rfl) (hs:Region.noSelect ops=true:=by kernel_rfl) (hf:Region.free md ops listed i=true:=by kernel_rfl) (hr:(Region.ready md ops listed).contains i=true:=by kernel_rfl) (hl:zW md ops listed late i=true:=by kernel_rfl) (hQ:∀ c a w,Q (.panic c) (a.put oi.dst v) w->Q (.panic c) a w:=by exact fun _ _ _ h=>h) : qU P md ops Q S late (fuel+1) listed a w:=
 jN d hi hd hs hf hr hl hQ (Or.inl ⟨hw,hy⟩) hS h
theorem wAu (d:Option Tmp) (hi:ops[i]?=some oi) (hd:oi.dst=d) (hS:S w) (h:qU P md ops Q S late fuel (listed.setIfInBounds i true) (a.put d undef) w)
 (hw:Region.wanted oi (yielded ops a.tmps)=false:=by kernel_rfl) (hs:Region.noSelect ops=true:=by kernel_rfl) (hf:Region.free md ops listed i=true:=by kernel_rfl) (hr:(Region.ready md ops listed).contains i=true:=by kernel_rfl) (hl:zW md ops listed late i=true:=by kernel_rfl) (hQ:∀ c a w,Q (.panic c) (a.put oi.dst undef) w->Q (.panic c) a w:=by exact fun _ _ _ h=>h) : qU P md ops Q S late (fuel+1) listed a w:=
 jN d hi hd hs hf hr hl hQ (Or.inr ⟨hw,rfl⟩) hS h
theorem wB (hp:∀ c (a:Act) d v w,Q (.panic c) (a.put d v) w->Q (.panic c) a w) (d:Option Tmp) (hi:ops[i]?=some oi) (hd:oi.dst=d) (hy:YieldsIf P ops S oi v a) (hS:S w) (h:qU P md ops Q S late fuel (listed.setIfInBounds i true) (a.put d v) w)
 (hs:Region.noSelect ops=true:=by kernel_rfl) (hf:Region.free md ops listed i=true:=by kernel_rfl) (hr:(Region.ready md ops listed).contains i=true:=by kernel_rfl) (hl:zW md ops listed late i=true:=by kernel_rfl) : qU P md ops Q S late (fuel+1) listed a w:=
 jN d hi hd hs hf hr hl (fun c a w h=>hp c a _ _ w h) hy hS h
theorem wBp (hp:∀ c (a:Act) d v w,Q (.panic c) (a.put d v) w->Q (.panic c) a w) (d:Option Tmp) (hi:ops[i]?=some oi) (hd:oi.dst=d) (hS:S w) (h:qU P md ops Q S late fuel (listed.setIfInBounds i true) (a.put d v) w)
 (hw:Region.wanted oi (yielded ops a.tmps)=true:=by rfl) (hy:∀ w,S w->(execOp a.eval oi).run P w=.ok (.value v) w:=by intro wz _; first | (go_simp; done) | (go_simp; with_reducible rfl)) (hs:Region.noSelect ops=true:=by kernel_rfl) (hf:Region.free md ops listed i=true:=by kernel_rfl) (hr:(Region.ready md ops listed).contains i=true:=by kernel_rfl) (hl:zW md ops listed late i=true:=by kernel_rfl) : qU P md ops Q S late (fuel+1) listed a w:=
 jN d hi hd hs hf hr hl (fun c a w h=>hp c a _ _ w h) (Or.inl ⟨hw,hy⟩) hS h
theorem wBg (hp:∀ c (a:Act) d v w,Q (.panic c) (a.put d v) w->Q (.panic c) a w) (d:Option Tmp) (hi:ops[i]?=some oi) (hd:oi.dst=d) (hS:S w) (h:qU P md ops Q S late fuel (listed.setIfInBounds i true) (a.put d v) w)
 (hw:Region.wanted oi (yielded ops a.tmps)=true:=by kernel_rfl) (hy:∀ w,S w->(execOp a.eval oi).run P w=.ok (.value v) w:=by intro wz _; first | (go_simp; done) | (go_simp; with_reducible rfl)) (hs:Region.noSelect ops=true:=by kernel_rfl) (hf:Region.free md ops listed i=true:=by kernel_rfl) (hr:(Region.ready md ops listed).contains i=true:=by kernel_rfl) (hl:zW md ops listed late i=true:=by kernel_rfl) : qU P md ops Q S late (fuel+1) listed a w:=
 jN d hi hd hs hf hr hl (fun c a w h=>hp c a _ _ w h) (Or.inl ⟨hw,hy⟩) hS h
theorem wBl (hp:∀ c (a:Act) d v w,Q (.panic c) (a.put d v) w->Q (.panic c) a w) (d:Option Tmp) (hi:ops[i]?=some oi) (hd:oi.dst=d) (hy:∀ w,S w->(execOp a.eval oi).run P w=.ok (.value v) w) (hS:S w) (h:qU P md ops Q S late fuel (listed.setIfInBounds i true) (a.put d v) w)
 (hw:Region.wanted oi (yielded ops a.tmps)=true:=by rfl) (hs:Region.noSelect ops=true:=by kernel_rfl) (hf:Region.free md ops listed i=true:=by kernel_rfl) (hr:(Region.ready md ops listed).contains i=true:=by kernel_rfl) (hl:zW md ops listed late i=true:=by kernel_rfl) : qU P md ops Q S late (fuel+1) listed a w:=
 jN d hi hd hs hf hr hl (fun c a w h=>hp c a _ _ w h) (Or.inl ⟨hw,hy⟩) hS h
theorem wBm (hp:∀ c (a:Act) d v w,Q (.panic c) (a.put d v) w->Q (.panic c) a w) (d:Option Tmp) (hi:ops[i]?=some oi) (hd:oi.dst=d) (hy:∀ w,S w->(execOp a.eval oi).run P w=.ok (.value v) w) (hS:S w) (h:qU P md ops Q S late fuel (listed.setIfInBounds i true) (a.put d v) w)
 (hw:Region.wanted oi (yielded ops a.tmps)=true:=by kernel_rfl) (hs:Region.noSelect ops=true:=by kernel_rfl) (hf:Region.free md ops listed i=true:=by kernel_rfl) (hr:(Region.ready md ops listed).contains i=true:=by kernel_rfl) (hl:zW md ops listed late i=true:=by kernel_rfl) : qU P md ops Q S late (fuel+1) listed a w:=
 jN d hi hd hs hf hr hl (fun c a w h=>hp c a _ _ w h) (Or.inl ⟨hw,hy⟩) hS h
theorem wBu (hp:∀ c (a:Act) d v w,Q (.panic c) (a.put d v) w->Q (.panic c) a w) (d:Option Tmp) (hi:ops[i]?=some oi) (hd:oi.dst=d) (hS:S w) (h:qU P md ops Q S late fuel (listed.setIfInBounds i true) (a.put d undef) w)
 (hw:Region.wanted oi (yielded ops a.tmps)=false:=by kernel_rfl) (hs:Region.noSelect ops=true:=by kernel_rfl) (hf:Region.free md ops listed i=true:=by kernel_rfl) (hr:(Region.ready md ops listed).contains i=true:=by kernel_rfl) (hl:zW md ops listed late i=true:=by kernel_rfl) : qU P md ops Q S late (fuel+1) listed a w:=
 jN d hi hd hs hf hr hl (fun c a w h=>hp c a _ _ w h) (Or.inr ⟨hw,rfl⟩) hS h
theorem wC (hi:ops[i]?=some oi) (hy:YieldsIf P ops S oi v a) (hS:S w) (h:qU P md ops Q S late fuel (listed.setIfInBounds i true) (a.put oi.dst v) w)
 (hs:Region.noSelect ops=true:=by kernel_rfl) (hf:Region.free md ops listed i=true:=by kernel_rfl) (hr:(Region.ready md ops listed).contains i=true:=by kernel_rfl) (hl:zW md ops listed late i=true:=by kernel_rfl) (hQ:∀ c a w,Q (.panic c) (a.put oi.dst v) w->Q (.panic c) a w:=by exact fun _ _ _ h=>h) : qU P md ops Q S late (fuel+1) listed a w:=
 jS hi hs hf hr hl hQ hy hS h
theorem wCp (hi:ops[i]?=some oi) (hS:S w) (h:qU P md ops Q S late fuel (listed.setIfInBounds i true) (a.put oi.dst v) w)
 (hw:Region.wanted oi (yielded ops a.tmps)=true:=by rfl) (hy:∀ w,S w->(execOp a.eval oi).run P w=.ok (.value v) w:=by intro wz _; first | (go_simp; done) | (go_simp; with_reducible rfl)) (hs:Region.noSelect ops=true:=by kernel_rfl) (hf:Region.free md ops listed i=true:=by kernel_rfl) (hr:(Region.ready md ops listed).contains i=true:=by kernel_rfl) (hl:zW md ops listed late i=true:=by kernel_rfl) (hQ:∀ c a w,Q (.panic c) (a.put oi.dst v) w->Q (.panic c) a w:=by exact fun _ _ _ h=>h) : qU P md ops Q S late (fuel+1) listed a w:=
 jS hi hs hf hr hl hQ (Or.inl ⟨hw,hy⟩) hS h
theorem wCg (hi:ops[i]?=some oi) (hS:S w) (h:qU P md ops Q S late fuel (listed.setIfInBounds i true) (a.put oi.dst v) w)
 (hw:Region.wanted oi (yielded ops a.tmps)=true:=by kernel_rfl) (hy:∀ w,S w->(execOp a.eval oi).run P w=.ok (.value v) w:=by intro wz _; first | (go_simp; done) | (go_simp; with_reducible rfl)) (hs:Region.noSelect ops=true:=by kernel_rfl) (hf:Region.free md ops listed i=true:=by kernel_rfl) (hr:(Region.ready md ops listed).contains i=true:=by kernel_rfl) (hl:zW md ops listed late i=true:=by kernel_rfl) (hQ:∀ c a w,Q (.panic c) (a.put oi.dst v) w->Q (.panic c) a w:=by exact fun _ _ _ h=>h) : qU P md ops Q S late (fuel+1) listed a w:=
 jS hi hs hf hr hl hQ (Or.inl ⟨hw,hy⟩) hS h
theorem wCl (hi:ops[i]?=some oi) (hy:∀ w,S w->(execOp a.eval oi).run P w=.ok (.value v) w) (hS:S w) (h:qU P md ops Q S late fuel (listed.setIfInBounds i true) (a.put oi.dst v) w)
 (hw:Region.wanted oi (yielded ops a.tmps)=true:=by rfl) (hs:Region.noSelect ops=true:=by kernel_rfl) (hf:Region.free md ops listed i=true:=by kernel_rfl) (hr:(Region.ready md ops listed).contains i=true:=by kernel_rfl) (hl:zW md ops listed late i=true:=by kernel_rfl) (hQ:∀ c a w,Q (.panic c) (a.put oi.dst v) w->Q (.panic c) a w:=by exact fun _ _ _ h=>h) : qU P md ops Q S late (fuel+1) listed a w:=
 jS hi hs hf hr hl hQ (Or.inl ⟨hw,hy⟩) hS h
theorem wCm (hi:ops[i]?=some oi) (hy:∀ w,S w->(execOp a.eval oi).run P w=.ok (.value v) w) (hS:S w) (h:qU P md ops Q S late fuel (listed.setIfInBounds i true) (a.put oi.dst v) w)
 (hw:Region.wanted oi (yielded ops a.tmps)=true:=by kernel_rfl) (hs:Region.noSelect ops=true:=by kernel_rfl) (hf:Region.free md ops listed i=true:=by kernel_rfl) (hr:(Region.ready md ops listed).contains i=true:=by kernel_rfl) (hl:zW md ops listed late i=true:=by kernel_rfl) (hQ:∀ c a w,Q (.panic c) (a.put oi.dst v) w->Q (.panic c) a w:=by exact fun _ _ _ h=>h) : qU P md ops Q S late (fuel+1) listed a w:=
 jS hi hs hf hr hl hQ (Or.inl ⟨hw,hy⟩) hS h
theorem wCu (hi:ops[i]?=some oi) (hS:S w) (h:qU P md ops Q S late fuel (listed.setIfInBounds i true) (a.put oi.dst undef) w)
 (hw:Region.wanted oi (yielded ops a.tmps)=false:=by kernel_rfl) (hs:Region.noSelect ops=true:=by kernel_rfl) (hf:Region.free md ops listed i=true:=by kernel_rfl) (hr:(Region.ready md ops listed).contains i=true:=by kernel_rfl) (hl:zW md ops listed late i=true:=by kernel_rfl) (hQ:∀ c a w,Q (.panic c) (a.put oi.dst undef) w->Q (.panic c) a w:=by exact fun _ _ _ h=>h) : qU P md ops Q S late (fuel+1) listed a w:=
 jS hi hs hf hr hl hQ (Or.inr ⟨hw,rfl⟩) hS h
theorem wD (hp:∀ c (a:Act) d v w,Q (.panic c) (a.put d v) w->Q (.panic c) a w) (hi:ops[i]?=some oi) (hy:YieldsIf P ops S oi v a) (hS:S w) (h:qU P md ops Q S late fuel (listed.setIfInBounds i true) (a.put oi.dst v) w)
 (hs:Region.noSelect ops=true:=by kernel_rfl) (hf:Region.free md ops listed i=true:=by kernel_rfl) (hr:(Region.ready md ops listed).contains i=true:=by kernel_rfl) (hl:zW md ops listed late i=true:=by kernel_rfl) : qU P md ops Q S late (fuel+1) listed a w:=
 jS hi hs hf hr hl (fun c a w h=>hp c a _ _ w h) hy hS h
theorem wDp (hp:∀ c (a:Act) d v w,Q (.panic c) (a.put d v) w->Q (.panic c) a w) (hi:ops[i]?=some oi) (hS:S w) (h:qU P md ops Q S late fuel (listed.setIfInBounds i true) (a.put oi.dst v) w)
 (hw:Region.wanted oi (yielded ops a.tmps)=true:=by rfl) (hy:∀ w,S w->(execOp a.eval oi).run P w=.ok (.value v) w:=by intro wz _; first | (go_simp; done) | (go_simp; with_reducible rfl)) (hs:Region.noSelect ops=true:=by kernel_rfl) (hf:Region.free md ops listed i=true:=by kernel_rfl) (hr:(Region.ready md ops listed).contains i=true:=by kernel_rfl) (hl:zW md ops listed late i=true:=by kernel_rfl) : qU P md ops Q S late (fuel+1) listed a w:=
 jS hi hs hf hr hl (fun c a w h=>hp c a _ _ w h) (Or.inl ⟨hw,hy⟩) hS h
theorem wDg (hp:∀ c (a:Act) d v w,Q (.panic c) (a.put d v) w->Q (.panic c) a w) (hi:ops[i]?=some oi) (hS:S w) (h:qU P md ops Q S late fuel (listed.setIfInBounds i true) (a.put oi.dst v) w)
 (hw:Region.wanted oi (yielded ops a.tmps)=true:=by kernel_rfl) (hy:∀ w,S w->(execOp a.eval oi).run P w=.ok (.value v) w:=by intro wz _; first | (go_simp; done) | (go_simp; with_reducible rfl)) (hs:Region.noSelect ops=true:=by kernel_rfl) (hf:Region.free md ops listed i=true:=by kernel_rfl) (hr:(Region.ready md ops listed).contains i=true:=by kernel_rfl) (hl:zW md ops listed late i=true:=by kernel_rfl) : qU P md ops Q S late (fuel+1) listed a w:=
 jS hi hs hf hr hl (fun c a w h=>hp c a _ _ w h) (Or.inl ⟨hw,hy⟩) hS h
theorem wDl (hp:∀ c (a:Act) d v w,Q (.panic c) (a.put d v) w->Q (.panic c) a w) (hi:ops[i]?=some oi) (hy:∀ w,S w->(execOp a.eval oi).run P w=.ok (.value v) w) (hS:S w) (h:qU P md ops Q S late fuel (listed.setIfInBounds i true) (a.put oi.dst v) w)
 (hw:Region.wanted oi (yielded ops a.tmps)=true:=by rfl) (hs:Region.noSelect ops=true:=by kernel_rfl) (hf:Region.free md ops listed i=true:=by kernel_rfl) (hr:(Region.ready md ops listed).contains i=true:=by kernel_rfl) (hl:zW md ops listed late i=true:=by kernel_rfl) : qU P md ops Q S late (fuel+1) listed a w:=
 jS hi hs hf hr hl (fun c a w h=>hp c a _ _ w h) (Or.inl ⟨hw,hy⟩) hS h
theorem wDm (hp:∀ c (a:Act) d v w,Q (.panic c) (a.put d v) w->Q (.panic c) a w) (hi:ops[i]?=some oi) (hy:∀ w,S w->(execOp a.eval oi).run P w=.ok (.value v) w) (hS:S w) (h:qU P md ops Q S late fuel (listed.setIfInBounds i true) (a.put oi.dst v) w)
 (hw:Region.wanted oi (yielded ops a.tmps)=true:=by kernel_rfl) (hs:Region.noSelect ops=true:=by kernel_rfl) (hf:Region.free md ops listed i=true:=by kernel_rfl) (hr:(Region.ready md ops listed).contains i=true:=by kernel_rfl) (hl:zW md ops listed late i=true:=by kernel_rfl) : qU P md ops Q S late (fuel+1) listed a w:=
 jS hi hs hf hr hl (fun c a w h=>hp c a _ _ w h) (Or.inl ⟨hw,hy⟩) hS h
theorem wDu (hp:∀ c (a:Act) d v w,Q (.panic c) (a.put d v) w->Q (.panic c) a w) (hi:ops[i]?=some oi) (hS:S w) (h:qU P md ops Q S late fuel (listed.setIfInBounds i true) (a.put oi.dst undef) w)
 (hw:Region.wanted oi (yielded ops a.tmps)=false:=by kernel_rfl) (hs:Region.noSelect ops=true:=by kernel_rfl) (hf:Region.free md ops listed i=true:=by kernel_rfl) (hr:(Region.ready md ops listed).contains i=true:=by kernel_rfl) (hl:zW md ops listed late i=true:=by kernel_rfl) : qU P md ops Q S late (fuel+1) listed a w:=
 jS hi hs hf hr hl (fun c a w h=>hp c a _ _ w h) (Or.inr ⟨hw,rfl⟩) hS h
end
theorem wpO {P:Program} {ops:Array Oper} {Q:EP} {md:Region.Mode} {S:World->Prop} {late:List Nat} {i:Nat} {o:Oper} {fuel:Nat} {listed:Array Bool} {a:Act} {w:World} (ho:ops[i]?=some o)
 (h:∀ K':Act->World->Prop,(∀ a' w',((i ∉ late->S w')/\qU P md ops Q S late fuel (listed.setIfInBounds i true) a' w')->K' a' w')->if Region.wanted o (yielded ops a.tmps)=true then Oper.wp P o a w K' Q else K' (a.put o.dst undef) w) (hr:Region.ready md ops listed=[i]:=by kernel_rfl) :
 qU P md ops Q S late (fuel+1) listed a w:=j2p hr ho h
theorem lN {late:List Nat} {i:Nat} {S:World->Prop} {W K':Act->World->Prop} {a:Act} {w:World} (hK:∀ a' w',((i ∉ late->S w')/\W a' w')->K' a' w') (h:W a w) (hl:i ∈ late:=by simp) : K' a w:=hK a w ⟨fun hn=>absurd hl hn,h⟩
end
end Go.Proofs.YtnapapijhhldpaaGreatDoor

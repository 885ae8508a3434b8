/-
  Texts joined by program: Dt, Trs, Trt. No condition of its own.
-/
import Derived.Test.YtnapapijhhldpaaGreatDoorJcBH
namespace Go.Proofs.YtnapapijhhldpaaGreatDoor
set_option linter.unusedSimpArgs false
set_option linter.unusedVariables false
section
def posU (us:List Bool):List Nat:=(List.range us.length).filter fun q=>us.getD q false
def newN (us:List Bool) (q:Nat):Nat:=((List.range q).filter fun p=>us.getD p false).length
def trimA (us:List Bool) (N:List Ac):List Ac:=(N.filter fun x=>us.getD x.1 false&&us.getD x.2.2.1 false).map fun x=>(newN us x.1,x.2.1,newN us x.2.2.1,x.2.2.2)
def pr (us:List Bool) (S:List (Option Nat)):List (Option Nat):=(posU us).map fun q=>S.getD q none
def trimU (us:List Bool) (A:Au):Au:=⟨(posU us).length,pr us A.ini,pr us A.fin,trimA us A.arcs⟩
theorem range_split {n q:Nat} (h:q<n):List.range n=List.range q++q::(List.range (n-q-1)).map (· + (q+1)):=by
 obtain ⟨m,rfl⟩:∃ m,n=q+(m+1):=⟨n-q-1,by omega⟩
 rw [List.range_add,show q+(m+1)-q-1=m by omega,List.range_succ_eq_map,List.map_cons,List.map_map]
 congr 2
 refine List.map_congr_left fun i _=>?_
 show q+(i+1)=i+(q+1)
 omega
theorem pos_new {us:List Bool} {q:Nat} (h:us.getD q false=true):(posU us)[newN us q]? = some q:=by
 have hq:=us_lt h
 unfold posU newN
 rw [range_split hq,List.filter_append,List.filter_cons,if_pos h,List.getElem?_append_right (Nat.le_refl _),Nat.sub_self]
 rfl
theorem new_lt {us:List Bool} {q:Nat} (h:us.getD q false=true):newN us q<(posU us).length:=(List.getElem?_eq_some_iff.1 (pos_new h)).1
theorem pos_us {us:List Bool} {j q:Nat} (h:(posU us)[j]? = some q):us.getD q false=true:=by
 have:=List.mem_of_getElem? h
 unfold posU at this
 exact (List.mem_filter.1 this).2
theorem new_pos {us:List Bool} {j q:Nat} (h:(posU us)[j]? = some q):newN us q=j:=by
 have h1:=pos_new (pos_us h)
 have hn:(posU us).Pairwise (· < ·):=List.Pairwise.filter _ List.pairwise_lt_range
 have hj:=(List.getElem?_eq_some_iff.1 h).1
 have hk:=(List.getElem?_eq_some_iff.1 h1).1
 have e1:=(List.getElem?_eq_some_iff.1 h).2
 have e2:=(List.getElem?_eq_some_iff.1 h1).2
 rcases Nat.lt_trichotomy (newN us q) j with k | k | k
 ·have:=List.pairwise_iff_getElem.1 hn _ _ hk hj k
  omega
 ·exact k
 ·have:=List.pairwise_iff_getElem.1 hn _ _ hj hk k
  omega
theorem pr_has {us:List Bool} {S:Vx} {j r:Nat}:Has (pr us S) j r↔∃ q,(posU us)[j]? = some q∧Has S q r:=by
 unfold Has pr
 rw [List.getElem?_map]
 cases (posU us)[j]? with
 | none=>simp
 | some q =>
  simp only [Option.map_some,Option.some.injEq,exists_eq_left',List.getD_eq_getElem?_getD]
  cases S[q]? with
  | none=>simp
  | some o=>simp
theorem pr_len (us:List Bool) (S:Vx):(pr us S).length=(posU us).length:=by simp [pr]
def Su (us:List Bool) (S:Vx):Prop:=∀ q r,Has S q r→us.getD q false=true
theorem pr_new {us:List Bool} {S:Vx} (h:Su us S) {q r:Nat}:Has S q r↔(us.getD q false=true∧Has (pr us S) (newN us q) r):=by
 constructor
 ·intro k
  have hu:=h q r k
  exact ⟨hu,pr_has.2 ⟨q,pos_new hu,k⟩⟩
 ·rintro ⟨hu,k⟩
  obtain ⟨p,hp,k⟩:=pr_has.1 k
  rw [pos_new hu] at hp
  cases hp
  exact k
theorem pr_inj {us:List Bool} {S T:Vx} (hS:Su us S) (hT:Su us T) (hl:S.length=T.length) (h:pr us S=pr us T):S=T:=vx_ext hl fun j r=>by rw [pr_new hS,pr_new hT,h]
theorem bst_least {S T:Vx} (h:∀ r,(∃ j,Has S j r)↔∃ j,Has T j r):leastV S=leastV T:=by
 cases hs:leastV S with
 | none =>
  symm
  refine least_none fun j r hr=>?_
  obtain ⟨i,hi⟩:=(h r).2 ⟨j,hr⟩
  have:=least_le (List.mem_of_getElem? hi)
  rw [hs] at this
  exact absurd this (by simp [twLe])
 | some m =>
  obtain ⟨i,hi⟩:=List.getElem?_of_mem (least_mem hs)
  obtain ⟨j,hj⟩:=(h m).1 ⟨i,hi⟩
  symm
  refine least_is hj fun k r hr=>?_
  obtain ⟨i',hi'⟩:=(h r).2 ⟨k,hr⟩
  have:=least_le (List.mem_of_getElem? hi')
  rw [hs] at this
  exact this
theorem pr_least {us:List Bool} {S:Vx} (h:Su us S):leastV (pr us S)=leastV S:=bst_least fun r=>by
 constructor
 ·rintro ⟨j,hj⟩
  obtain ⟨q,_,hq⟩:=pr_has.1 hj
  exact ⟨q,hq⟩
 ·rintro ⟨q,hq⟩
  exact ⟨newN us q,((pr_new h).1 hq).2⟩
theorem pr_low {us:List Bool} {S:Vx} (m:Nat):pr us (lowV S m)=lowV (pr us S) m:=vx_ext (by rw [pr_len,lowV_len,pr_len]) fun j r=>by
 rw [pr_has,low_has]
 constructor
 ·rintro ⟨q,h1,h2⟩
  obtain ⟨u,hu,e⟩:=low_has.1 h2
  exact ⟨u,pr_has.2 ⟨q,h1,hu⟩,e⟩
 ·rintro ⟨u,hu,e⟩
  obtain ⟨q,h1,h2⟩:=pr_has.1 hu
  exact ⟨q,h1,low_has.2 ⟨u,h2,e⟩⟩
theorem su_next {N:List Ac} {us:List Bool} {R:Vx} {l:Nat} (hl:us.length≤R.length):Su us (nextV N us R l):=fun q r hr=>by
 obtain ⟨x,_,_,_,k,_⟩:=(bst_nextV hl).1 q r hr
 exact k
theorem su_low {us:List Bool} {S:Vx} {m:Nat} (h:Su us S):Su us (lowV S m):=fun q r hr=>by
 obtain ⟨u,hu,_⟩:=low_has.1 hr
 exact h q u hu
theorem bst_unique {S T:Vx} {C:Nat→Nat→Prop} (h:Bst S C) (k:Bst T C) (hl:S.length=T.length):S=T:=vx_ext hl fun j r=>by
 have key:∀ {S T:Vx},Bst S C→Bst T C→Has S j r→Has T j r:=fun {S T} h k hr=>by
  obtain ⟨u,hu,h1⟩:=k.2 j r (h.1 j r hr)
  obtain ⟨v,hv,h2⟩:=h.2 j u (k.1 j u hu)
  have:=hv.unique hr
  have:u=r:=by omega
  rw [←this]; exact hu
 exact ⟨key h k,key k h⟩
theorem pr_next {N:List Ac} {us:List Bool} {R:Vx} {l:Nat} (hl:us.length=R.length) (hR:Su us R):nextV (trimA us N) (List.replicate (posU us).length true) (pr us R) l=pr us (nextV N us R l):=by
 have h1:=bst_nextV (N:=trimA us N) (us:=List.replicate (posU us).length true) (R:=pr us R) (l:=l) (by rw [pr_len]; simp)
 have h0:=bst_nextV (N:=N) (us:=us) (R:=R) (l:=l) (Nat.le_of_eq hl)
 have hc:∀ j m,Cand (trimA us N) (List.replicate (posU us).length true) (pr us R) l j m↔∃ q,(posU us)[j]? = some q∧Cand N us R l q m:=fun j m=>by
  constructor
  ·rintro ⟨x,hx,k1,k2,k3,r,k4,k5⟩
   unfold trimA at hx
   obtain ⟨y,hy,rfl⟩:=List.mem_map.1 hx
   obtain ⟨hy1,hy2⟩:=List.mem_filter.1 hy
   simp only [Bool.and_eq_true] at hy2
   refine ⟨y.2.2.1,?_,y,hy1,k1,rfl,hy2.2,r,?_,k5⟩
   ·rw [←k2]; exact pos_new hy2.2
   ·exact (pr_new hR).2 ⟨hy2.1,k4⟩
  ·rintro ⟨q,hq,x,hx,k1,k2,k3,r,k4,k5⟩
   have hx1:=hR _ _ k4
   refine ⟨(newN us x.1,x.2.1,newN us x.2.2.1,x.2.2.2),?_,k1,?_,?_,r,((pr_new hR).1 k4).2,k5⟩
   ·unfold trimA
    refine List.mem_map.2 ⟨x,List.mem_filter.2 ⟨hx,?_⟩,rfl⟩
    rw [hx1,k2,k3]; rfl
   ·simp only; rw [k2]; exact new_pos hq
   ·have:=(List.getElem?_eq_some_iff.1 hq).1
    simp [List.getD_eq_getElem?_getD,this]
 refine bst_unique (h1.congr hc) ⟨fun j m h=>?_,fun j m ⟨q,hq,h⟩=>?_⟩ (by rw [nextV_len,pr_len,pr_len])
 ·obtain ⟨q,hq,k⟩:=pr_has.1 h
  exact ⟨q,hq,h0.1 q m k⟩
 ·obtain ⟨u,hu,k⟩:=h0.2 q m h
  exact ⟨u,pr_has.2 ⟨q,hq,hu⟩,k⟩
theorem pr_setl {us:List Bool} {S:Vx} (h:Su us S):setl (pr us S)=(setl S).map fun p=>(p.1,pr us p.2):=by
 unfold setl
 rw [pr_least h]
 cases leastV S with
 | none=>rfl
 | some m=>simp [pr_low]
def prD (us:List Bool) (X:Ds) (A:List Ac):Ds:=⟨X.subs.map (pr us),A⟩
theorem find_pr {us:List Bool} {L:List Vx} {v:Vx} {n:Nat} (hL:∀ w∈L,Su us w∧w.length=n) (hv:Su us v∧v.length=n):(L.map (pr us)).findIdx? (· == pr us v)=L.findIdx? (· == v):=by
 induction L with
 | nil=>rfl
 | cons w L ih =>
  have hw:=hL w List.mem_cons_self
  rw [List.map_cons,List.findIdx?_cons,List.findIdx?_cons,ih fun x hx=>hL x (List.mem_cons_of_mem _ hx)]
  have:(pr us w==pr us v)=(w==v):=by
   by_cases e:w=v
   ·subst e; simp
   ·have:¬ pr us w=pr us v:=fun k=>e (pr_inj hw.1 hv.1 (by rw [hw.2,hv.2]) k)
    rw [beq_eq_false_iff_ne.2 e,beq_eq_false_iff_ne.2 this]
  rw [this]
theorem one_pr {N:List Ac} {us:List Bool} {k l:Nat} {X:Ds} {A:List Ac} (hk:k<X.subs.length) (hX:∀ w∈X.subs,Su us w∧w.length=us.length) :
  (∀ Y,oneS N us k l X=some Y→(∀ w∈Y.subs,Su us w∧w.length=us.length)∧∃ A',oneS (trimA us N) (List.replicate (posU us).length true) k l (prD us X A)=some (prD us Y A')) ∧
  (oneS N us k l X=none→oneS (trimA us N) (List.replicate (posU us).length true) k l (prD us X A)=none):=by
 obtain ⟨v,hv⟩:∃ v,X.subs[k]? = some v:=⟨_,List.getElem?_eq_getElem hk⟩
 have hget:X.subs.getD k []=v:=by rw [List.getD_eq_getElem?_getD,hv]; rfl
 have hgetP:(prD us X A).subs.getD k []=pr us v:=by
  rw [List.getD_eq_getElem?_getD]
  show ((X.subs.map (pr us))[k]?).getD []=_
  rw [List.getElem?_map,hv]; rfl
 obtain ⟨hv1,hv2⟩:=hX v (List.mem_of_getElem? hv)
 unfold oneS
 rw [hget,hgetP,pr_next (N:=N) (l:=l) hv2.symm hv1,pr_setl (su_next (Nat.le_of_eq hv2.symm))]
 cases hs:setl (nextV N us v l) with
 | none=>exact ⟨fun Y h=>by cases h; exact ⟨hX,A,rfl⟩,fun h=>by cases h⟩
 | some p =>
  obtain ⟨c,nx⟩:=p
  obtain ⟨e1,e2⟩:=setl_some hs
  have hnx:Su us nx∧nx.length=us.length:=by
   rw [e2]
   exact ⟨su_low (su_next (Nat.le_of_eq hv2.symm)),by rw [lowV_len,nextV_len,hv2]⟩
  simp only [Option.map_some]
  have hf:=find_pr (L:=X.subs) hX hnx
  rw [show (prD us X A).subs=X.subs.map (pr us) from rfl,hf]
  cases X.subs.findIdx? (· == nx) with
  | some num=>exact ⟨fun Y h=>by cases h; exact ⟨hX,_,rfl⟩,fun h=>by cases h⟩
  | none =>
   simp only [List.length_map]
   by_cases h64:X.subs.length=64
   ·rw [if_pos h64,if_pos h64]
    exact ⟨fun Y h=>(by cases h),fun _=>rfl⟩
   ·rw [if_neg h64,if_neg h64]
    refine ⟨fun Y h=>?_,fun h=>by cases h⟩
    cases h
    refine ⟨fun w hw=>?_,_,by unfold prD; rw [List.map_append]; rfl⟩
    rcases List.mem_append.1 hw with hw | hw
    ·exact hX w hw
    ·obtain rfl:w=nx:=by simpa using hw
     exact hnx
theorem one_len {N:List Ac} {us:List Bool} {k l:Nat} {X Y:Ds} (h:oneS N us k l X=some Y):X.subs.length≤Y.subs.length:=by
 unfold oneS at h
 split at h
 ·cases h; exact Nat.le_refl _
 ·split at h
  ·cases h; exact Nat.le_refl _
  ·split at h
   ·cases h
   ·cases h; simp
theorem row_pr {N:List Ac} {us:List Bool} {k:Nat}:∀ (n l:Nat) {X:Ds} {A:List Ac},k<X.subs.length→(∀ w∈X.subs,Su us w∧w.length=us.length) →
  (∀ Y,rowS N us k n l X=some Y→X.subs.length≤Y.subs.length∧(∀ w∈Y.subs,Su us w∧w.length=us.length)∧∃ A',rowS (trimA us N) (List.replicate (posU us).length true) k n l (prD us X A)=some (prD us Y A')) ∧
  (rowS N us k n l X=none→rowS (trimA us N) (List.replicate (posU us).length true) k n l (prD us X A)=none)
 | 0,l,X,A,hk,hX=>⟨fun Y h=>by cases h; exact ⟨Nat.le_refl _,hX,A,rfl⟩,fun h=>by cases h⟩
 | n+1,l,X,A,hk,hX=>by
  obtain ⟨h1,h2⟩:=one_pr (N:=N) (l:=l) (A:=A) hk hX
  unfold rowS
  cases ho:oneS N us k l X with
  | none=>rw [h2 ho]; exact ⟨fun Y h=>(by cases h),fun _=>rfl⟩
  | some Z =>
   obtain ⟨hZ,A',hA'⟩:=h1 Z ho
   rw [hA']
   have hlen:=one_len ho
   obtain ⟨g1,g2⟩:=row_pr n (l+1) (N:=N) (A:=A') (Nat.lt_of_lt_of_le hk hlen) hZ
   refine ⟨fun Y h=>?_,g2⟩
   obtain ⟨k1,k2⟩:=g1 Y h
   exact ⟨by omega,k2⟩
theorem run_pr {N:List Ac} {us:List Bool} {syms:Nat}:∀ (f k:Nat) {X:Ds} {A:List Ac},(∀ w∈X.subs,Su us w∧w.length=us.length) →
  (runS N us syms f k X).isSome=(runS (trimA us N) (List.replicate (posU us).length true) syms f k (prD us X A)).isSome
 | 0,k,X,A,hX=>rfl
 | f+1,k,X,A,hX=>by
  unfold runS
  rw [show (prD us X A).subs.length=X.subs.length by simp [prD]]
  by_cases hk:X.subs.length≤k
  ·rw [if_pos hk,if_pos hk]; rfl
  ·rw [if_neg hk,if_neg hk]
   obtain ⟨g1,g2⟩:=row_pr syms 1 (N:=N) (A:=A) (Nat.lt_of_not_le hk) hX
   cases hr:rowS N us k syms 1 X with
   | none=>rw [g2 hr]
   | some Y =>
    obtain ⟨-, k2,A',k3⟩:=g1 Y hr
    rw [k3]
    exact run_pr f (k+1) k2
theorem det_trim {syms:Nat} {us:List Bool} {A:Au} (hi:A.ini.length=us.length):(detP syms us A).isSome=(detP syms (List.replicate (posU us).length true) (trimU us A)).isSome:=by
 have hsu:Su us (firstV us A.ini):=fun q r hr=>us_get.2 (firstV_has.1 hr).1
 have hlen:(firstV us A.ini).length=us.length:=by simp [firstV,hi]
 have hf:firstV (List.replicate (posU us).length true) (trimU us A).ini=pr us (firstV us A.ini):=vx_ext (by rw [pr_len]; simp [firstV,trimU,pr]) fun j r=>by
  rw [firstV_has,pr_has]
  constructor
  ·rintro ⟨h1,h2⟩
   have h2':Has (pr us A.ini) j r:=h2
   obtain ⟨q,hq,h3⟩:=pr_has.1 h2'
   exact ⟨q,hq,firstV_has.2 ⟨us_get.1 (pos_us hq),h3⟩⟩
  ·rintro ⟨q,hq,h⟩
   obtain ⟨h1,h2⟩:=firstV_has.1 h
   have hj:=(List.getElem?_eq_some_iff.1 hq).1
   exact ⟨by simp [List.getElem?_replicate,hj],pr_has.2 ⟨q,hq,h2⟩⟩
 unfold detP
 rw [hf,pr_setl hsu]
 cases hs:setl (firstV us A.ini) with
 | none=>rfl
 | some p =>
  obtain ⟨c,f⟩:=p
  obtain ⟨e1,e2⟩:=setl_some hs
  simp only [Option.map_some]
  have hX:∀ w∈(Ds.mk [f] []).subs,Su us w∧w.length=us.length:=fun w hw=>by
   obtain rfl:w=f:=by simpa using hw
   rw [e2]
   exact ⟨su_low hsu,by rw [lowV_len,hlen]⟩
  have:=run_pr (N:=A.arcs) (syms:=syms) 66 0 (A:=[]) hX
  rw [show prD us ⟨[f],[]⟩ []=⟨[pr us f],[]⟩ from rfl] at this
  rw [show (trimU us A).arcs=trimA us A.arcs from rfl]
  cases h1:runS A.arcs us syms 66 0 ⟨[f],[]⟩<;>cases h2:runS (trimA us A.arcs) (List.replicate (posU us).length true) syms 66 0 ⟨[pr us f],[]⟩<;>rw [h1,h2] at this<;>simp at this ⊢
end
section
open Go.RowKit
theorem Om.states {w:World} {O syms n:Nat} {iv fv av:Value} {ini fin:List Tw} {arcs:List Ac} (h:Om w O syms n iv fv av ini fin arcs) (m:Nat):Om (w.setCell ⟨O,3,none⟩ (.int .i64 (m:Int))) O syms m iv fv av ini fin arcs:=by
 have hF:Fr (fun k=>k=O) w (w.setCell ⟨O,3,none⟩ (.int .i64 (m:Int))):=Fr.set (T:=fun k=>k=O) w (p:=⟨O,3,none⟩) rfl _
 exact ⟨h.blk.put 3 (.int .i64 (m:Int)),h.ini.fr hF (fun g hg e=>by have:=(h.ini.lt hg).1; omega),h.fin.fr hF (fun g hg e=>by have:=(h.fin.lt hg).1; omega),h.arcs.fr hF (fun g hg e=>by have:=(h.arcs.lt hg).1; omega),h.ne⟩
def usL (E:Nat→Bool) (n:Nat):List Bool:=(List.range n).map E
theorem usL_get {E:Nat→Bool} {n q:Nat} (h:q<n):(usL E n).getD q false=E q:=by
 unfold usL; rw [List.getD_eq_getElem?_getD,List.getElem?_map,List.getElem?_range h]; rfl
theorem usL_len (E:Nat→Bool) (n:Nat):(usL E n).length=n:=by simp [usL]
def posK (us:List Bool) (i:Nat):List Nat:=(List.range i).filter fun q=>us.getD q false
theorem posK_len (us:List Bool) (i:Nat):(posK us i).length=newN us i:=rfl
theorem posK_yes {us:List Bool} {i:Nat} (h:us.getD i false=true):posK us (i+1)=posK us i++[i]:=by
 unfold posK; rw [List.range_succ,List.filter_append,List.filter_cons_of_pos (by simpa using h)]; rfl
theorem posK_no {us:List Bool} {i:Nat} (h:us.getD i false=false):posK us (i+1)=posK us i:=by
 unfold posK; rw [List.range_succ,List.filter_append,List.filter_cons_of_neg (by simpa using h)]; simp
theorem newN_le (us:List Bool) (i:Nat):newN us i≤i:=by unfold newN; exact Nat.le_trans (List.length_filter_le _ _) (by simp)
theorem newN_yes {us:List Bool} {i:Nat} (h:us.getD i false=true):newN us (i+1)=newN us i+1:=by rw [←posK_len,←posK_len,posK_yes h]; simp
theorem newN_no {us:List Bool} {i:Nat} (h:us.getD i false=false):newN us (i+1)=newN us i:=by rw [←posK_len,←posK_len,posK_no h]
def toF (us:List Bool) (i j:Nat):Value:=if j<i∧us.getD j false=true then .int .i64 ((newN us j:Nat):Int) else .int .i64 0
theorem toF_no {us:List Bool} {i:Nat} (h:us.getD i false=false):∀ j,toF us i j=toF us (i+1) j:=fun j=>by
 unfold toF
 by_cases hj:j=i
 ·subst hj; rw [if_neg (by omega),if_neg (by rw [h]; simp)]
 ·by_cases h2:j<i∧us.getD j false=true
  ·rw [if_pos h2,if_pos ⟨by omega,h2.2⟩]
  ·rw [if_neg h2,if_neg (fun h3=>h2 ⟨by omega,h3.2⟩)]
theorem toF_yes {us:List Bool} {i:Nat} (h:us.getD i false=true):∀ j,updF (toF us i) i (.int .i64 ((newN us i:Nat):Int)) j=toF us (i+1) j:=fun j=>by
 unfold updF
 split
 ·rename_i e; subst e; unfold toF; rw [if_pos ⟨by omega,h⟩]
 ·rename_i e
  unfold toF
  by_cases h2:j<i∧us.getD j false=true
  ·rw [if_pos h2,if_pos ⟨by omega,h2.2⟩]
  ·rw [if_neg h2,if_neg (fun h3=>h2 ⟨by omega,h3.2⟩)]
set_option maxRecDepth 100000 in
set_option maxHeartbeats 4000000 in
theorem keep_sts (W1:World) (syms:Nat) (A:Au) (io:Option Addr) (ci:Nat) (fo:Option Addr) (cf:Nat) (ro:Option Addr) (nr cr:Nat) (E:Nat→Bool) (hst:A.st≤64) (hm:Hid (Mo W1 syms A io ci fo cf ro nr cr)) (ko:Option Addr) (kc:Nat) (hk:Hid (Rd W1 ko A.st kc (fBo E))) (G O t:Nat) (hG:Bl G (auC syms A.st (.slice io A.st ci) (.slice fo A.st cf) (.slice ro nr cr)) 30 W1) (hO1:W1.heap.size≤O) (hOt:O<t) (w:World) (hb:Below W1.heap.size W1 w) (hOm:Om w O syms 0 (.slice none 0 0) (.slice none 0 0) (.slice none 0 0) [] [] []) (ht:Rw 3 w (O+1) (.slice (some ⟨t,0,none⟩) A.st A.st) A.st (fun _=>.int .i64 0))
  (c0 c3 c4 c8 c9 Aa Ab Ad Ae Af Ag Ah Ak Al Am An Ao Ap Aq Ar As Av Aw Ax Ay Az Ba Bb Bc Be Bf Bh Bi Bj Bk Bm Bn Bo Bp Bq Br Bs Bt Bu Bv Bw Bx By Bz Ca Cb Cc Cd Ce Cf Cg Ch Ci Cj Ck Cl Cm Cn Co Cp Cq Cr Ct Cu Cv Cw Cx Cy Cz Da Db Dc Dd De Df Dg Dh Di Dj Dk Dl Dn Dp Dq Dr Dt Du Dv Dw Dx Dy Dz:Value) (Q0:Exit→Act→World→Prop) (hpan:∀ c (a:Act) d v w,Q0 (.panic c) (a.put d v) w→Q0 (.panic c) a w)
  (hexit:∀ (u7 Ea Eb Ec Ed Ee Ef Eg Eh Ei Ej Ek El Em En Eo Ep Eq Er Es Et Eu Ev Ew Ex Ey Ez Fa Fb Fc Fd Fe Ff Fg Fh Fi Fj Fk Fm Fn:Value) (iv' fv':Value) (w':World),Om w' O syms (newN (usL E A.st) A.st) iv' fv' (.slice none 0 0) ((posK (usL E A.st) A.st).map fun q=>A.ini.getD q none) ((posK (usL E A.st) A.st).map fun q=>A.fin.getD q none) []→Rw 3 w' (O+1) (.slice (some ⟨t,0,none⟩) A.st A.st) A.st (toF (usL E A.st) A.st)→Below W1.heap.size W1 w'→Q0 .normal ⟨#[c0,.slice ko A.st kc,.pointer (some ⟨G,0,none⟩),c3,c4,.pointer (some ⟨O,0,none⟩),.slice (some ⟨t,0,none⟩) A.st A.st,u7,c8,c9,Aa,Ab,Ad,Ae,Af,Ag,Ah,Ak,Ea,Eb,Ec,Ed,Ee,Ef,Eg,Eh,Ei,Ej,Ek,El,Em,En,Eo,Ep,Eq,Er,Es,Et,Eu,Ev,Ew,Ex,Ey,Ez,Fa,Fb,Fc,Fd,Fe,Ff,Fg,Fh,Fi,Fj,Fk,Fm,Fn,Cd,Ce,Cf,Cg,Ch,Ci,Cj,Ck,Cl,Cm,Cn,Co,Cp,Cq,Cr,Ct,Cu,Cv,Cw,Cx,Cy,Cz,Da,Db,Dc,Dd,De,Df,Dg,Dh,Di,Dj,Dk,Dl,Dn,Dp,Dq,Dr,Dt,Du,Dv,Dw,Dx,Dy,Dz],[]⟩ w') :
  Code.wp Tryz.prog (rK 0) Q0 ⟨#[c0,.slice ko A.st kc,.pointer (some ⟨G,0,none⟩),c3,c4,.pointer (some ⟨O,0,none⟩),.slice (some ⟨t,0,none⟩) A.st A.st,.int .i64 0,c8,c9,Aa,Ab,Ad,Ae,Af,Ag,Ah,Ak,Al,Am,An,Ao,Ap,Aq,Ar,As,Av,Aw,Ax,Ay,Az,Ba,Bb,Bc,Be,Bf,Bh,Bi,Bj,Bk,Bm,Bn,Bo,Bp,Bq,Br,Bs,Bt,Bu,Bv,Bw,Bx,By,Bz,Ca,Cb,Cc,Cd,Ce,Cf,Cg,Ch,Ci,Cj,Ck,Cl,Cm,Cn,Co,Cp,Cq,Cr,Ct,Cu,Cv,Cw,Cx,Cy,Cz,Da,Db,Dc,Dd,De,Df,Dg,Dh,Di,Dj,Dk,Dl,Dn,Dp,Dq,Dr,Dt,Du,Dv,Dw,Dx,Dy,Dz],[]⟩ w:=by
 conv=>arg 2; whnf
 obtain ⟨U,hU⟩:∃ U,usL E A.st=U:=⟨_,rfl⟩
 have hUq:Hid (∀ q,q<A.st→U.getD q false=E q):=hid (fun q hq=>by rw [←hU]; exact usL_get hq)
 rw [hU] at hexit
 have hG0:=hid hG
 replace hb:=hid hb
 have hOm0:=hid hOm
 have ht0:=hid ht
 clear hU hG hOm ht
 go_wp2_with fail
 go_loopw [7] (fun iv_ wr=>∃ (i:Nat) (iv fv:Value),i≤A.st∧iv_=.int .i64 (i:Int)∧Om wr O syms (newN U i) iv fv (.slice none 0 0) ((posK U i).map fun q=>A.ini.getD q none) ((posK U i).map fun q=>A.fin.getD q none) []∧Rw 3 wr (O+1) (.slice (some ⟨t,0,none⟩) A.st A.st) A.st (toF U i)∧Below W1.heap.size W1 wr) (fun iv_ _=>A.st-(intOf iv_).toNat)
 case atStart=>exact ⟨0,_,_,Nat.zero_le _,rfl,hOm0.out,ht0.out.congr (fun j _=>by unfold toF; rw [if_neg (by omega)]),hb.out⟩
 case round =>
  obtain ⟨i,iv,fv,hi,rfl,hOm,ht,hbw⟩:=hrel
  have y3:=(hG0.out.next hbw).cell (i:=3) rfl
  by_cases hlt:i<A.st
  ·have i1:(i:Int)<(A.st:Int):=by omega
   have i0:(0:Int)≤(i:Int):=by omega
   obtain ⟨kb,kof,hko,hkc⟩:=(hk.out.next hbw).get hlt
   subst hko
   simp only [fBo] at hkc
   have hUi:=hUq.out i hlt
   obtain ⟨bq,hbq⟩:∃ bq,E i=bq:=⟨_,rfl⟩
   rw [hbq] at hkc hUi
   replace hUi:=hid hUi
   clear hbq
   cases bq with
   | false =>
    have hp:=hid (posK_no hUi.out)
    have hn:=hid (newN_no hUi.out)
    have htf:=hid (toF_no hUi.out)
    replace hOm:=hid hOm
    replace ht:=hid ht
    replace hbw:=hid hbw
    go_wp2_with fail
    go_roundw
    case rel=>exact ⟨i+1,iv,fv,by omega,by go_num,by rw [hp.out,hn.out]; exact hOm.out,ht.out.congr (fun j _=>htf.out j),hbw.out⟩
    case measure=>simp [intOf]; omega
   | true =>
    have hp:=hid (posK_yes hUi.out)
    have hn:=hid (newN_yes hUi.out)
    have htf:=hid (toF_yes hUi.out)
    have hnl:=newN_le U i
    obtain ⟨x,hx,b1,o1,hio,hcx⟩:=(hm.out.next hbw).ini.get hlt
    obtain ⟨y,hy,b2,o2,hfo,hcy⟩:=(hm.out.next hbw).fin.get hlt
    have hx':Hid (A.ini.getD i none=x):=hid (by rw [List.getD_eq_getElem?_getD,hx]; rfl)
    have hy':Hid (A.fin.getD i none=y):=hid (by rw [List.getD_eq_getElem?_getD,hy]; rfl)
    have hcxW:Hid (b1<O):=hid (by
     obtain ⟨x',_,b',o',e,hc⟩:=hm.out.ini.get hlt
     rw [hio] at e; injection e with e; injection e with e1 e2; subst e1 e2
     exact Nat.lt_of_lt_of_le (World.block_lt_of_cell? _ _ (hc 0 _ rfl)) hO1)
    have hcyW:Hid (b2<O):=hid (by
     obtain ⟨x',_,b',o',e,hc⟩:=hm.out.fin.get hlt
     rw [hfo] at e; injection e with e; injection e with e1 e2; subst e1 e2
     exact Nat.lt_of_lt_of_le (World.block_lt_of_cell? _ _ (hc 0 _ rfl)) hO1)
    clear hx hy
    obtain ⟨nn,hnn⟩:∃ nn,newN U i=nn:=⟨_,rfl⟩
    rw [hnn] at hOm hnl
    have z3:=hOm.blk.cell (i:=3) rfl
    have z3f:=hOm.blk.free 3
    have zt:=ht.cell hlt
    have ztf:=ht.free i
    have j1:(nn:Int)≤64:=by omega
    have j0:(0:Int)≤(nn:Int):=by omega
    have hF1:Fr (fun k=>k=t) wr (wr.setCell ⟨t,i,none⟩ (.int .i64 (nn:Int))):=Fr.set (T:=fun k=>k=t) wr (p:=⟨t,i,none⟩) rfl _
    have hmt:∀ k,OmB O iv fv (.slice none 0 0) k→¬ k=t:=fun k hk e=>by
     subst e
     rcases hk with e | e | e | e
     ·omega
     ·rcases own_ne hOm.ini.1 ht (by decide) with h | h
      ·rw [h] at e; cases e
      ·exact h (e.trans rfl)
     ·rcases own_ne hOm.fin.1 ht (by decide) with h | h
      ·rw [h] at e; cases e
      ·exact h (e.trans rfl)
     ·cases e
    have hOm1:=hOm.fr hF1 hmt
    have ht1:=(ht.put i (.int .i64 (nn:Int)))
    have hOm2:=hid (hOm1.states (nn+1))
    have hF2:Fr (fun k=>k=O) (wr.setCell ⟨t,i,none⟩ (.int .i64 (nn:Int))) ((wr.setCell ⟨t,i,none⟩ (.int .i64 (nn:Int))).setCell ⟨O,3,none⟩ (.int .i64 ((nn+1:Nat):Int))):=Fr.set (T:=fun k=>k=O) _ (p:=⟨O,3,none⟩) rfl _
    have ht2:=hid (ht1.fr hF2 (fun g hg e=>by have e2:t=g:=Option.some.inj hg; omega))
    have z3':(wr.setCell ⟨t,i,none⟩ (.int .i64 (nn:Int))).cell? ⟨O,3,none⟩=some (.int .i64 (nn:Int)):=hOm1.blk.cell rfl
    have hb2:=hid ((hbw.trans (hF1.below (fun k e=>by omega) hbw.size)).trans (hF2.below (fun k e=>by omega) (by have:=hbw.size; have:=hF1.size; omega)))
    have hG2:=hid (hG0.out.next hb2.out)
    have hcx2:Hid (Cs ((wr.setCell ⟨t,i,none⟩ (.int .i64 (nn:Int))).setCell ⟨O,3,none⟩ (.int .i64 ((nn+1:Nat):Int))) b1 (o1+i*8) (twC x)):=hid ((hcx.fr hF1 (by have:=hcxW.out; omega)).fr hF2 (by have:=hcxW.out; omega))
    have hcy2:Hid (Cs ((wr.setCell ⟨t,i,none⟩ (.int .i64 (nn:Int))).setCell ⟨O,3,none⟩ (.int .i64 ((nn+1:Nat):Int))) b2 (o2+i*8) (twC y)):=hid ((hcy.fr hF1 (by have:=hcyW.out; omega)).fr hF2 (by have:=hcyW.out; omega))
    have hcast:((nn+1:Nat):Int)=(nn:Int)+1:=by omega
    rw [hcast] at hOm2 ht2 hb2 hG2 hcx2 hcy2
    replace hnn:=hid hnn
    have hpl:((posK U i).map fun q=>A.ini.getD q none).length≤64:=by rw [List.length_map,posK_len,hnn.out]; omega
    have hpl2:((posK U i).map fun q=>A.fin.getD q none).length≤64:=by rw [List.length_map,posK_len,hnn.out]; omega
    clear hcast hcx hcy hOm hOm1 ht ht1 hF1 hF2 hbw hmt
    go_upto_region 9 with fail
    refine keep_app syms A io ci fo cf ro nr cr O G (nn+1) i b1 o1 b2 o2 hio hfo hlt hst x y iv fv (.slice none 0 0) _ _ [] _ hOm2.out hpl hpl2 hG2.out.cs (Nat.lt_of_lt_of_le hG0.out.lt hO1) hcx2.out hcxW.out hcy2.out hcyW.out _ _ _ _ _ _ _ _ _ _ _ _ _ _ _ _ _ _ _ _ _ _ _ _ _ _ _ _ _ _ _ _ _ _ _ _ _ _ _ _ _ _ _ _ _ _ _ _ _ _ _ _ _ _ _ _ _ _ _ _ _ _ _ _ _ _ _ _ _ _ _ _ _ _ _ _ _ _ _ _ _ _ _ _ _ _ _ _ _ _ _ _ _ _ _ _ _ _ _ _ (fun c a d v w h=>hpan c a d v w h) ?_
    intro Fo Fp Fq Fs Ft Fu Fv Fw Fx Fy Fz Ga Gb Gc Gd Ge Gf Gg Gh Gi iv' fv' w3 hOm3 hf3
    have ht3:=hid (ht2.out.fr hf3 (fun g hg e=>by
     have e2:t=g:=Option.some.inj hg
     subst e2
     rcases e with e | e | e
     ·omega
     ·rcases own_ne hOm2.out.ini.1 ht2.out (by decide) with h | h
      ·rw [h] at e; cases e
      ·exact h (e.trans rfl)
     ·rcases own_ne hOm2.out.fin.1 ht2.out (by decide) with h | h
      ·rw [h] at e; cases e
      ·exact h (e.trans rfl)))
    have hb3:=hid (hb2.out.trans (hf3.below (fun k e=>by
     rcases e with rfl | e | e
     ·exact hO1
     ·have:=(hOm2.out.ini.lt e).1; omega
     ·have:=(hOm2.out.fin.lt e).1; omega) hb2.out.size))
    replace hOm3:=hid hOm3
    clear hf3
    go_wp2_with fail
    go_roundw
    case rel=>exact ⟨i+1,iv',fv',by omega,by go_num,by rw [hp.out,hn.out,hnn.out,List.map_append,List.map_append,List.map_singleton,List.map_singleton,hx'.out,hy'.out]; exact hOm3.out,(by have h:=ht3.out; rw [←hnn.out] at h; exact h.congr (fun j _=>htf.out j)),hb3.out⟩
    case measure=>simp [intOf]; omega
  ·obtain rfl:i=A.st:=by omega
   have i1:¬ (A.st:Int)<(A.st:Int):=by omega
   replace hOm:=hid hOm
   replace ht:=hid ht
   go_wp2_with fail
   exact hexit _ _ _ _ _ _ _ _ _ _ _ _ _ _ _ _ _ _ _ _ _ _ _ _ _ _ _ _ _ _ _ _ _ _ _ _ _ _ _ _ iv fv wr hOm.out ht.out hbw
end
section
open Go.RowKit
theorem trimA_snoc {us:List Bool} {L:List Ac} {k:Nat} {x:Ac} (h:L[k]? = some x):trimA us (L.take (k+1))=trimA us (L.take k)++(if us.getD x.1 false&&us.getD x.2.2.1 false then [(newN us x.1,x.2.1,newN us x.2.2.1,wt x)] else []):=by
 unfold trimA
 rw [take_snoc h,List.filter_append,List.map_append]
 refine congrArg _ ?_
 by_cases hc:(us.getD x.1 false&&us.getD x.2.2.1 false)=true
 ·rw [if_pos hc]; simp only [List.filter,hc]; rfl
 ·have hc2:(us.getD x.1 false&&us.getD x.2.2.1 false)=false:=by simpa using hc
  rw [if_neg hc]; simp only [List.filter,hc2]; rfl
theorem trimA_len (us:List Bool) (L:List Ac):(trimA us L).length≤L.length:=by unfold trimA; rw [List.length_map]; exact List.length_filter_le _ _
theorem toF_at {us:List Bool} {n q:Nat} (hq:q<n) (h:us.getD q false=true):toF us n q=.int .i64 ((newN us q:Nat):Int):=if_pos ⟨hq,h⟩
set_option maxRecDepth 100000 in
set_option maxHeartbeats 4000000 in
theorem keep_arcs (W1:World) (syms:Nat) (A:Au) (io:Option Addr) (ci:Nat) (fo:Option Addr) (cf:Nat) (ro:Option Addr) (nr cr:Nat) (E:Nat→Bool) (U:List Bool) (hU:Hid (∀ q,q<A.st→U.getD q false=E q)) (hst:A.st≤64) (hnr:nr≤2048) (hA:Hid (∀ x∈A.arcs,x.1<A.st∧x.2.2.1<A.st)) (hm:Hid (Mo W1 syms A io ci fo cf ro nr cr)) (ko:Option Addr) (kc:Nat) (hk:Hid (Rd W1 ko A.st kc (fBo E))) (G O t n:Nat) (hG:Bl G (auC syms A.st (.slice io A.st ci) (.slice fo A.st cf) (.slice ro nr cr)) 30 W1) (hO1:W1.heap.size≤O) (iv fv:Value) (ini fin:List Tw) (w:World) (hb:Below W1.heap.size W1 w) (hOm:Om w O syms n iv fv (.slice none 0 0) ini fin []) (ht:Rw 3 w (O+1) (.slice (some ⟨t,0,none⟩) A.st A.st) A.st (toF U A.st))
  (c0 c3 c4 c7 c9 Aa Ab Ad Ae Af Ag Ah Ak Al Am An Ao Ap Aq Ar As Av Aw Ax Ay Az Ba Bb Bc Be Bf Bh Bi Bj Bk Bm Bn Bo Bp Bq Br Bs Bt Bu Bv Bw Bx By Bz Ca Cb Cc Cd Ce Cf Cg Ch Ci Cj Ck Cl Cm Cn Co Cp Cq Cr Ct Cu Cv Cw Cx Cy Cz Da Db Dc Dd De Df Dg Dh Di Dj Dk Dl Dn Dp Dq Dr Dt Du Dv Dw Dx Dy Dz:Value) (Q0:Exit→Act→World→Prop) (hpan:∀ c (a:Act) d v w,Q0 (.panic c) (a.put d v) w→Q0 (.panic c) a w)
  (hexit:∀ (u8 u9 Ea Eb Ec Ed Ee Ef Eg Eh Ei Ej Ek El Em En Eo Ep Eq Er Es Et Eu Ev Ew Ex Ey Ez Fa Fb Fc Fd Fe Ff Fg Fh Fi Fj Fk Fm Fn Fo Fp Fq Fs Ft:Value) (av':Value) (w':World),Om w' O syms n iv fv av' ini fin (trimA U A.arcs)→Below W1.heap.size W1 w'→Q0 .normal ⟨#[c0,.slice ko A.st kc,.pointer (some ⟨G,0,none⟩),c3,c4,.pointer (some ⟨O,0,none⟩),.slice (some ⟨t,0,none⟩) A.st A.st,c7,u8,u9,Aa,Ab,Ad,Ae,Af,Ag,Ah,Ak,Al,Am,An,Ao,Ap,Aq,Ar,As,Av,Aw,Ax,Ay,Az,Ba,Bb,Bc,Be,Bf,Bh,Bi,Bj,Bk,Bm,Bn,Bo,Bp,Bq,Br,Bs,Bt,Bu,Bv,Bw,Bx,By,Bz,Ca,Cb,Cc,Ea,Eb,Ec,Ed,Ee,Ef,Eg,Eh,Ei,Ej,Ek,El,Em,En,Eo,Ep,Eq,Er,Es,Et,Eu,Ev,Ew,Ex,Ey,Ez,Fa,Fb,Fc,Fd,Fe,Ff,Fg,Fh,Fi,Fj,Fk,Fm,Fn,Fo,Fp,Fq,Fs,Ft,Dz],[]⟩ w') :
  Code.wp Tryz.prog (rK 2) Q0 ⟨#[c0,.slice ko A.st kc,.pointer (some ⟨G,0,none⟩),c3,c4,.pointer (some ⟨O,0,none⟩),.slice (some ⟨t,0,none⟩) A.st A.st,c7,.int .i64 0,c9,Aa,Ab,Ad,Ae,Af,Ag,Ah,Ak,Al,Am,An,Ao,Ap,Aq,Ar,As,Av,Aw,Ax,Ay,Az,Ba,Bb,Bc,Be,Bf,Bh,Bi,Bj,Bk,Bm,Bn,Bo,Bp,Bq,Br,Bs,Bt,Bu,Bv,Bw,Bx,By,Bz,Ca,Cb,Cc,Cd,Ce,Cf,Cg,Ch,Ci,Cj,Ck,Cl,Cm,Cn,Co,Cp,Cq,Cr,Ct,Cu,Cv,Cw,Cx,Cy,Cz,Da,Db,Dc,Dd,De,Df,Dg,Dh,Di,Dj,Dk,Dl,Dn,Dp,Dq,Dr,Dt,Du,Dv,Dw,Dx,Dy,Dz],[]⟩ w:=by
 conv=>arg 2; whnf
 have hG0:=hid hG
 have hnl:=hid hm.out.arcs.lenMap
 have hnb:=hm.out.arcs.bound
 replace hb:=hid hb
 have hOm0:=hid hOm
 have ht0:=hid ht
 clear hG hOm ht
 go_wp2_with fail
 go_loopw [8] (fun iv_ wr=>∃ (k:Nat) (av:Value),k≤nr∧iv_=.int .i64 (k:Int)∧Om wr O syms n iv fv av ini fin (trimA U (A.arcs.take k))∧Rw 3 wr (O+1) (.slice (some ⟨t,0,none⟩) A.st A.st) A.st (toF U A.st)∧Below W1.heap.size W1 wr) (fun iv_ _=>nr-(intOf iv_).toNat)
 case atStart=>exact ⟨0,_,Nat.zero_le _,rfl,hOm0.out,ht0.out,hb.out⟩
 case round =>
  obtain ⟨k,av,hkn,rfl,hOm,ht,hbw⟩:=hrel
  have y6:=(hG0.out.next hbw).cell (i:=6) rfl
  by_cases hlt:k<nr
  ·have i1:(k:Int)<(nr:Int):=by omega
   have i0:(0:Int)≤(k:Int):=by omega
   obtain ⟨x,hxk,b,off,hro,hcs⟩:=(hm.out.arcs.next hbw).get hlt
   subst hro
   have hxA:=hA.out x (List.mem_of_getElem? hxk)
   have htk:=hid (trimA_snoc (us:=U) hxk)
   have hln:(trimA U (A.arcs.take k)).length≤4096:=Nat.le_trans (trimA_len _ _) (by rw [List.length_take]; omega)
   have q1:(x.1:Int)<(A.st:Int):=by omega
   have q2:(x.2.2.1:Int)<(A.st:Int):=by omega
   have q3:(0:Int)≤(x.1:Int):=by omega
   have q4:(0:Int)≤(x.2.2.1:Int):=by omega
   clear hxk
   have hbX:Below wr.heap.size wr (wr.alloc (.cells (acC x).toArray 54)):=below_alloc _
   have hX:=Bl.fresh wr (acC x) 54
   go_upto_region 14 with ((first | ((with_reducible refine wp_loadArc rfl _ rfl b (off+k*11) ?_ x hcs ?_); exact rfl) | ((with_reducible refine wp_storeVArc rfl _ _ rfl _ _ ?_ x ?_ ?_ ?_); exact rfl; exact rfl; exact rfl)))
   have hOX:wr.heap.size≠O:=fun e=>by have:=hOm.blk.lt; omega
   have haX:av.ownBlock≠some wr.heap.size:=fun e=>by have:=(hOm.arcs.lt e).2; omega
   have hOm2:=hid (hOm.next hbX)
   have ht2:=hid (ht.next hbX)
   have hb2:=hid (hbw.trans (hbX.mono hbw.size))
   obtain ⟨X,hXe⟩:∃ X,wr.heap.size=X:=⟨_,rfl⟩
   rw [hXe] at hX hOX haX ⊢
   generalize (wr.alloc (.cells (acC x).toArray 54))=W2 at *
   obtain ⟨kb1,ko1,hka1,hkc1⟩:=(hk.out.next hb2.out).get hxA.1
   obtain ⟨kb2,ko2,hka2,hkc2⟩:=(hk.out.next hb2.out).get hxA.2
   have hkk:=hka1.symm.trans hka2
   injection hkk with hkk
   injection hkk with hk1 hk2
   subst hk1 hk2
   subst hka1
   clear hka2
   simp only [fBo] at hkc1 hkc2
   have hu1:=hU.out x.1 hxA.1
   have hu2:=hU.out x.2.2.1 hxA.2
   obtain ⟨e1,he1⟩:∃ e1,E x.1=e1:=⟨_,rfl⟩
   obtain ⟨e2,he2⟩:∃ e2,E x.2.2.1=e2:=⟨_,rfl⟩
   rw [he1] at hkc1 hu1
   rw [he2] at hkc2 hu2
   replace htk:=htk.out
   rw [hu1,hu2] at htk
   replace htk:=hid htk
   have z0:=hX.cell (i:=0) rfl
   have z2:=hX.cell (i:=2) rfl
   have hc1:=hid (fun (h:U.getD x.1 false=true)=>by have h2:=ht2.out.cell hxA.1; rw [toF_at hxA.1 h] at h2; exact h2)
   have hc2:=hid (fun (h:U.getD x.2.2.1 false=true)=>by have h2:=ht2.out.cell hxA.2; rw [toF_at hxA.2 h] at h2; exact h2)
   replace hu1:=hid hu1
   replace hu2:=hid hu2
   clear he1 he2 hcs hOm ht hbw hbX hXe
   cases e1 with
   | false =>
    have hend:Hid (trimA U (A.arcs.take (k+1))=trimA U (A.arcs.take k)):=hid (by rw [htk.out]; simp)
    go_wp2_with fail
    go_roundw
    case rel=>exact ⟨k+1,av,by omega,by go_num,by rw [hend.out]; exact hOm2.out,ht2.out,hb2.out⟩
    case measure=>simp [intOf]; omega
   | true =>
    cases e2 with
    | false =>
     have hend:Hid (trimA U (A.arcs.take (k+1))=trimA U (A.arcs.take k)):=hid (by rw [htk.out]; simp)
     go_wp2_with fail
     go_roundw
     case rel=>exact ⟨k+1,av,by omega,by go_num,by rw [hend.out]; exact hOm2.out,ht2.out,hb2.out⟩
     case measure=>simp [intOf]; omega
    | true =>
     have hend:Hid (trimA U (A.arcs.take (k+1))=trimA U (A.arcs.take k)++[(newN U x.1,x.2.1,newN U x.2.2.1,wt x)]):=hid (by rw [htk.out]; simp)
     have hXc:=hid hX.cs
     go_upto_region 15 with fail
     refine keep_arc O syms n X t A.st A.st (newN U x.1) (newN U x.2.2.1) x hxA.1 hxA.2 hst iv fv av ini fin (trimA U (A.arcs.take k)) W2 hOm2.out hln hXc.out hOX haX (hc1.out hu1.out) (hc2.out hu2.out) _ _ _ _ _ _ _ _ _ _ _ _ _ _ _ _ _ _ _ _ _ _ _ _ _ _ _ _ _ _ _ _ _ _ _ _ _ _ _ _ _ _ _ _ _ _ _ _ _ _ _ _ _ _ _ _ _ _ _ _ _ _ _ _ _ _ _ _ _ _ _ _ _ _ _ _ _ _ _ _ _ _ _ _ _ _ _ _ _ _ _ _ _ _ _ _ _ _ _ _ (fun c a d v w h=>hpan c a d v w h) ?_
     intro z_81 z_82 z_83 z_84 z_85 z_86 z_87 z_88 z_89 z_90 z_91 z_92 z_93 z_94 z_95 z_96 z_97 z_98 z_99 z_100 av' w3 hOm3 hf3
     have ht3:=hid (ht2.out.fr hf3 (fun g hg e=>by
      have e2:t=g:=Option.some.inj hg
      subst e2
      rcases e with e | e
      ·have:=(ht2.out.lt (g:=t) rfl).1; omega
      ·rcases own_ne hOm2.out.arcs.1 ht2.out (by decide) with h | h
       ·rw [h] at e; cases e
       ·exact h (e.trans rfl)))
     have hb3:=hid (hb2.out.trans (hf3.below (fun j e=>by
      rcases e with rfl | e
      ·exact hO1
      ·have:=(hOm2.out.arcs.lt e).1; omega) hb2.out.size))
     replace hOm3:=hid hOm3
     clear hf3
     go_wp2_with fail
     go_roundw
     case rel=>exact ⟨k+1,av',by omega,by go_num,by rw [hend.out]; exact hOm3.out,ht3.out,hb3.out⟩
     case measure=>simp [intOf]; omega
  ·obtain rfl:k=nr:=by omega
   have i1:¬ (k:Int)<(k:Int):=by omega
   rw [List.take_of_length_le (by rw [hnl.out]; exact Nat.le_refl _)] at hOm
   replace hOm:=hid hOm
   replace ht:=hid ht
   go_wp2_with fail
   exact hexit _ _ _ _ _ _ _ _ _ _ _ _ _ _ _ _ _ _ _ _ _ _ _ _ _ _ _ _ _ _ _ _ _ _ _ _ _ _ _ _ _ _ _ _ _ _ av wr hOm.out hbw
end
end Go.Proofs.YtnapapijhhldpaaGreatDoor

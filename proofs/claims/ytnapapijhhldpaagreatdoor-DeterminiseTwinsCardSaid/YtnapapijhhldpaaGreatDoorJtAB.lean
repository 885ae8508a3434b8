/-
  Texts joined by program: De, Dk, Dw, Dx. No condition of its own.
-/
import Derived.Test.YtnapapijhhldpaaGreatDoorJtAA
namespace Go.Proofs.YtnapapijhhldpaaGreatDoor
set_option linter.unusedSimpArgs false
set_option linter.unusedVariables false
set_option maxRecDepth 100000
set_option maxHeartbeats 4000000
section
theorem Dst.row {N:List Ac} {us:List Bool} {syms k st C:Nat} (hN:∀ x∈N,cst x<=C) (hus:us.length=st):∀ (n l:Nat) {X Y:Ds},Dst N us syms k l X->Dok st C k X->k<X.subs.length->1<=l->l+n<=syms+1->rowS N us k n l X=some Y ->
  Dst N us syms k (l+n) Y/\Dok st C k Y/\(∃ B,Y.subs=X.subs++B)/\∃ A,Y.arcs=X.arcs++A/\∀ x∈A,x.1=k/\l<=x.2.1
 | 0,l,X,Y,h,ho,hk,h1,h2,hs=>by
  cases hs
  exact ⟨h,ho,⟨[],by simp⟩,[],by simp,fun x hx=>by cases hx⟩
 | n+1,l,X,Y,h,ho,hk,h1,h2,hs=>by
  unfold rowS at hs
  split at hs
  ·cases hs
  ·rename_i Z hZ
   obtain ⟨d1,⟨B,hB⟩,d2⟩:=h.one hk h1 (by omega) (fun v hv=>by rw [ho.len v hv,hus]; exact Nat.le_refl _) hZ
   obtain ⟨o1,o2⟩:=ho.one hk hN hZ
   obtain ⟨e1,e2,⟨B',hB'⟩,A,e3,e4⟩:=Dst.row hN hus n (l+1) d1 o1 (Nat.lt_of_lt_of_le hk o2) (by omega) (by omega) hs
   rw [show l+1+n=l+(n+1) by omega] at e1
   refine ⟨e1,e2,⟨B++B',by rw [hB',hB,List.append_assoc]⟩,?_⟩
   rcases d2 with d2 | ⟨num,c,d2,_⟩
   ·exact ⟨A,by rw [e3,d2],fun x hx=>⟨(e4 x hx).1,by have:=(e4 x hx).2; omega⟩⟩
   ·refine ⟨(k,l,num,some c)::A,by rw [e3,d2,List.append_assoc]; rfl,fun x hx=>?_⟩
    rcases List.mem_cons.1 hx with rfl | hx
    ·exact ⟨rfl,Nat.le_refl _⟩
    ·exact ⟨(e4 x hx).1,by have:=(e4 x hx).2; omega⟩
theorem Dst.up {N:List Ac} {us:List Bool} {syms k:Nat} {X:Ds} (h:Dst N us syms k (1+syms) X):Dst N us syms (k+1) 1 X :=
 ⟨fun x hx=>by rcases h.bef x hx with e | ⟨e,_⟩<;>exact .inl (by omega),h.ss,h.sound,fun i j v c nx hij h1 h2 hv hn=>h.full i j v c nx (by omega) h1 h2 hv hn,h.from_,h.sub⟩
theorem Dst.run {N:List Ac} {us:List Bool} {syms st C:Nat} (hN:∀ x∈N,cst x<=C) (hus:us.length=st):∀ (f k:Nat) {X Z:Ds},Dst N us syms k 1 X->Dok st C k X->runS N us syms f k X=some Z ->
  (∃ k',Dst N us syms k' 1 Z/\Dok st C k' Z/\Z.subs.length<=k')/\(∃ B,Z.subs=X.subs++B)/\∃ A,Z.arcs=X.arcs++A/\∀ x∈A,k<=x.1
 | 0,k,X,Z,h,ho,hs=>by cases hs
 | f+1,k,X,Z,h,ho,hs=>by
  unfold runS at hs
  split at hs
  ·rename_i hk
   cases hs
   exact ⟨⟨k,h,ho,hk⟩,⟨[],by simp⟩,[],by simp,fun x hx=>by cases hx⟩
  ·rename_i hk
   split at hs
   ·cases hs
   ·rename_i Y hY
    obtain ⟨d1,d2,⟨B,hB⟩,A,e1,e2⟩:=Dst.row hN hus syms 1 h ho (by omega) (Nat.le_refl _) (by omega) hY
    obtain ⟨⟨k',g1,g2,g3⟩,⟨B',hB'⟩,A',g4,g5⟩:=Dst.run hN hus f (k+1) d1.up d2.next hs
    refine ⟨⟨k',g1,g2,g3⟩,⟨B++B',by rw [hB',hB,List.append_assoc]⟩,A++A',by rw [g4,e1,List.append_assoc],fun x hx=>?_⟩
    rcases List.mem_append.1 hx with hx | hx
    ·have:=(e2 x hx).1; omega
    ·have:=g5 x hx; omega
theorem stp_app (A B:List Ac) (k l:Nat):stp (A++B) k l=stp A k l++stp B k l:=by unfold stp; rw [List.filter_append]
theorem stp_none {A:List Ac} {k l:Nat} (h:∀ x∈A,¬ (x.1=k/\x.2.1=l)):stp A k l=[]:=by
 unfold stp
 rw [List.filter_eq_nil_iff]
 intro x hx
 simpa using h x hx
theorem sim_one {N F:List Ac} {us:List Bool} {n k l:Nat} {X Y:Ds} (hk:k<X.subs.length) (hX:∀ x∈X.arcs,bef k l x) (hY:∃ L,F=Y.arcs++L/\∀ x∈L,¬ (x.1=k/\x.2.1=l)) (hn:Y.subs.length<=n) (hs:oneS N us k l X=some Y) :
  oneS F (List.replicate n true) k l ⟨basis n X.subs.length,X.arcs⟩=some ⟨basis n Y.subs.length,Y.arcs⟩:=by
 obtain ⟨L,hF,hL⟩:=hY
 have hXs:stp X.arcs k l=[]:=stp_none fun x hx ⟨e1,e2⟩=>by
  rcases hX x hx with h | ⟨_,h⟩<;>omega
 unfold oneS at hs
 have hXn:X.subs.length<=Y.subs.length:=by
  split at hs
  ·cases hs; exact Nat.le_refl _
  ·split at hs
   ·cases hs; exact Nat.le_refl _
   ·split at hs
    ·cases hs
    ·cases hs; simp
 have hkn:k<n:=by omega
 obtain ⟨u1,u2⟩:=setl_uv (F:=F) (n:=n) (k:=k) (l:=l) hkn
 have hgetB:(Ds.mk (basis n X.subs.length) X.arcs).subs.getD k []=uv n k:=by
  rw [List.getD_eq_getElem?_getD]
  show ((basis n X.subs.length)[k]?).getD []=_
  rw [basis_get hk]; rfl
 unfold oneS
 rw [hgetB]
 split at hs
 ·cases hs
  rw [u1 (by rw [hF,stp_app,hXs,stp_none hL]; rfl)]
 ·rename_i c nx hset
  split at hs
  ·rename_i num hnum
   cases hs
   have hlt:num<X.subs.length:=(List.findIdx?_eq_some_iff_getElem.1 hnum).1
   have hst:stp F k l=[(k,l,num,some c)]:=by
    rw [hF,stp_app,stp_app,hXs,stp_none hL]
    simp [stp]
   rw [u2 num c (by simp only at hn; omega) hst]
   simp only
   rw [basis_find (by simp only at hn; omega) (by simp only at hn; omega),if_pos hlt]
  ·split at hs
   ·cases hs
   ·rename_i h64
    cases hs
    have hn':X.subs.length+1<=n:=by simpa using hn
    have hst:stp F k l=[(k,l,X.subs.length,some c)]:=by
     rw [hF,stp_app,stp_app,hXs,stp_none hL]
     simp [stp]
    rw [u2 X.subs.length c (by omega) hst]
    simp only
    rw [basis_find (by omega) (by omega),if_neg (Nat.lt_irrefl _)]
    simp only [basis_len]
    rw [if_neg h64]
    congr 2
    rw [basis_succ]
    simp
theorem sim_row {N F:List Ac} {us:List Bool} {syms k st C n:Nat} (hN:∀ x∈N,cst x<=C) (hus:us.length=st):∀ (m l:Nat) {X Y:Ds},Dst N us syms k l X->Dok st C k X->k<X.subs.length->1<=l->l+m<=syms+1 ->
  (∃ L,F=Y.arcs++L/\∀ x∈L,k<x.1)->Y.subs.length<=n->rowS N us k m l X=some Y->rowS F (List.replicate n true) k m l ⟨basis n X.subs.length,X.arcs⟩=some ⟨basis n Y.subs.length,Y.arcs⟩
 | 0,l,X,Y,h,ho,hk,h1,h2,hF,hn,hs=>by cases hs; rfl
 | m+1,l,X,Y,h,ho,hk,h1,h2,hF,hn,hs=>by
  unfold rowS at hs
  split at hs
  ·cases hs
  ·rename_i Z hZ
   obtain ⟨d1,⟨B,hB⟩,d2⟩:=h.one hk h1 (by omega) (fun v hv=>by rw [ho.len v hv,hus]; exact Nat.le_refl _) hZ
   obtain ⟨o1,o2⟩:=ho.one hk hN hZ
   obtain ⟨-, -, ⟨B',hB'⟩,A,e3,e4⟩:=Dst.row hN hus m (l+1) d1 o1 (Nat.lt_of_lt_of_le hk o2) (by omega) (by omega) hs
   have hZn:Z.subs.length<=n:=by
    have:=congrArg List.length hB'
    rw [List.length_append] at this
    omega
   obtain ⟨L,hL1,hL2⟩:=hF
   have h3:=sim_one (F:=F) (n:=n) hk h.bef ⟨A++L,by rw [hL1,e3,List.append_assoc],fun x hx ⟨k1,k2⟩=>by
    rcases List.mem_append.1 hx with hx | hx
    ·have:=(e4 x hx).2; omega
    ·have:=hL2 x hx; omega⟩ hZn hZ
   unfold rowS
   rw [h3]
   exact sim_row hN hus m (l+1) d1 o1 (Nat.lt_of_lt_of_le hk o2) (by omega) (by omega) ⟨L,hL1,hL2⟩ hn hs
theorem sim_run {N F:List Ac} {us:List Bool} {syms st C n:Nat} (hN:∀ x∈N,cst x<=C) (hus:us.length=st):∀ (f k:Nat) {X Z:Ds},Dst N us syms k 1 X->Dok st C k X->F=Z.arcs->n=Z.subs.length ->
  runS N us syms f k X=some Z->runS F (List.replicate n true) syms f k ⟨basis n X.subs.length,X.arcs⟩=some ⟨basis n n,F⟩
 | 0,k,X,Z,h,ho,hF,hn,hs=>by cases hs
 | f+1,k,X,Z,h,ho,hF,hn,hs=>by
  have hs0:=hs
  unfold runS at hs ⊢
  simp only [basis_len]
  split at hs
  ·rename_i hk
   cases hs
   rw [if_pos hk,hF,hn]
  ·rename_i hk
   rw [if_neg hk]
   split at hs
   ·cases hs
   ·rename_i Y hY
    obtain ⟨d1,d2,⟨B,hB⟩,A,e1,e2⟩:=Dst.row hN hus syms 1 h ho (by omega) (Nat.le_refl _) (by omega) hY
    obtain ⟨-, ⟨B',hB'⟩,A',g4,g5⟩:=Dst.run hN hus f (k+1) d1.up d2.next hs
    have hYn:Y.subs.length<=n:=by rw [hn,hB']; simp
    rw [sim_row hN hus syms 1 h ho (by omega) (Nat.le_refl _) (by omega) ⟨A',by rw [hF,g4],fun x hx=>g5 x hx⟩ hYn hY]
    exact sim_run hN hus f (k+1) d1.up d2.next hF hn hs
theorem firstV_has {us:List Bool} {ini:List Tw} {q r:Nat}:Has (firstV us ini) q r↔us[q]? = some true/\ini[q]? = some (some r):=by
 unfold Has firstV
 rw [List.getElem?_zipWith]
 cases us[q]? with
 | none=>simp
 | some u =>
  cases ini[q]? with
  | none=>simp
  | some w=>cases u<;>simp
theorem us_get {us:List Bool} {q:Nat}:us.getD q false=true↔us[q]? = some true:=by
 rw [List.getD_eq_getElem?_getD]
 cases us[q]? with
 | none=>simp
 | some b=>cases b<;>simp
theorem first_state {us:List Bool} {A:Au} {c:Nat} {f:Vx} {N:List Ac} {syms C:Nat} (hu:us.length=A.st) (hi:A.ini.length=A.st) (hc:∀ w∈A.ini,∀ r,w=some r->r<=C) (h:setl (firstV us A.ini)=some (c,f)) :
  Dst N us syms 0 1 ⟨[f],[]⟩/\Dok A.st C 0 ⟨[f],[]⟩:=by
 obtain ⟨h1,rfl⟩:=setl_some h
 have hlen:(firstV us A.ini).length=A.st:=by simp [firstV,hu,hi]
 refine ⟨⟨fun x hx=>(by cases hx),trivial,fun x hx=>(by cases hx),fun i j v c nx hij h1 h2 hv hn=>by omega,fun i h0 hi'=>by simp at hi'; omega,fun v hv=>?_⟩,⟨fun v hv=>?_,by simp,fun i v hv=>?_,fun x hx=>by cases hx⟩⟩
 ·obtain rfl:v=_:=by simpa using hv
  constructor
  ·intro q r hr
   obtain ⟨u,hu',_⟩:=low_has.1 hr
   exact us_get.2 (firstV_has.1 hu').1
  ·obtain ⟨q,hq⟩:=List.getElem?_of_mem (least_mem h1)
   exact ⟨q,low_has.2 ⟨c,hq,by omega⟩⟩
 ·obtain rfl:v=_:=by simpa using hv
  rw [lowV_len,hlen]
 ·cases i with
  | zero =>
   simp at hv
   subst hv
   intro r hr
   obtain ⟨q,hq⟩:=List.getElem?_of_mem hr
   obtain ⟨u,hu',rfl⟩:=low_has.1 hq
   have:=hc _ (List.mem_of_getElem? (firstV_has.1 hu').2) u rfl
   omega
  | succ i=>simp at hv
theorem endV_some {fin:List Tw} {v:Vx} {q r c:Nat} (h:Has v q r) (hf:fin[q]? = some (some c)):∃ m,endV fin v=some m/\m<=r+c:=by
 have:Has (List.zipWith ends1 v fin) q (r+c):=by
  unfold Has at *
  rw [List.getElem?_zipWith,h,hf]; rfl
 have:=least_le (List.mem_of_getElem? this)
 unfold endV
 cases hl:leastV (List.zipWith ends1 v fin) with
 | none=>rw [hl] at this; exact absurd this (by simp [twLe])
 | some m=>rw [hl] at this; exact ⟨m,rfl,this⟩
theorem endV_uv {fin:List Tw} {n i:Nat} (hi:i<n) (hf:fin.length=n):endV fin (uv n i)=fin[i]'(by omega):=by
 have hz:∀ j r,Has (List.zipWith ends1 (uv n i) fin) j r↔(j=i/\fin[i]'(by omega)=some r):=fun j r=>by
  unfold Has
  rw [List.getElem?_zipWith]
  by_cases hj:j=i
  ·subst hj
   have h1:(uv n j)[j]? = some (some 0):=uv_has.2 ⟨hi,rfl,rfl⟩
   rw [h1,List.getElem?_eq_getElem (by omega:j<fin.length)]
   cases fin[j]'(by omega) with
   | none=>simp [ends1]
   | some c=>simp [ends1]
  ·constructor
   ·intro h
    split at h
    ·rename_i a b ha hb
     cases a with
     | none=>simp [ends1] at h
     | some u=>exact absurd (uv_has.1 ha).2.1 hj
    ·cases h
   ·rintro ⟨h,_⟩; exact absurd h hj
 unfold endV
 cases hc:fin[i]'(by omega) with
 | none =>
  refine least_none fun j r hr=>?_
  have:=(hz j r).1 hr
  rw [hc] at this
  cases this.2
 | some c =>
  refine least_is ((hz i c).2 ⟨rfl,hc⟩) fun j r hr=>?_
  have:=(hz j r).1 hr
  rw [hc] at this
  cases this.2
  exact Nat.le_refl _
theorem det_twice {syms C:Nat} {us:List Bool} {A B:Au} (hA:Aok A syms) (hu:UsOk us A) (hC:∀ x∈A.arcs,cst x<=C) (hi:∀ w∈A.ini,∀ r,w=some r->r<=C) (hf:∀ w∈A.fin,∀ r,w=some r->r<=C) (h:detP syms us A=some B) :
  Aok B syms/\Ss B.arcs/\B.st<=64/\UsOk (List.replicate B.st true) B/\detP syms (List.replicate B.st true) B=some B/\(∀ x∈B.arcs,cst x<=C*66)/\(∀ w∈B.ini,∀ r,w=some r->r<=C)/\(∀ w∈B.fin,∀ r,w=some r->r<=C*66):=by
 unfold detP at h
 split at h
 ·cases h
  refine ⟨⟨rfl,rfl,fun x hx=>by cases hx⟩,trivial,by simp,⟨rfl,fun q hq=>absurd hq (Nat.not_lt_zero _)⟩,rfl,fun x hx=>(by cases hx),fun w hw=>(by cases hw),fun w hw=>by cases hw⟩
 ·rename_i c f hset
  split at h
  ·cases h
  ·rename_i X hX
   cases h
   obtain ⟨s1,s2⟩:=first_state (N:=A.arcs) (syms:=syms) hu.1 hA.ini hi hset
   obtain ⟨⟨k',g1,g2,g3⟩,⟨Bs,hBs⟩,-⟩:=Dst.run hC hu.1 66 0 s1 s2 hX
   obtain ⟨n,hn⟩:∃ n,X.subs.length=n:=⟨_,rfl⟩
   have hn1:1<=n:=by rw [<-hn,hBs]; simp
   have hcC:c<=C:=by
    obtain ⟨q,hq⟩:=List.getElem?_of_mem (least_mem (setl_some hset).1)
    exact hi _ (List.mem_of_getElem? (firstV_has.1 hq).2) c rfl
   have hfin:∀ w∈X.subs.map (endV A.fin),∀ r,w=some r->r<=C*66:=by
    intro w hw r hr
    obtain ⟨v,hv,e⟩:=List.mem_map.1 hw
    rw [hr] at e
    obtain ⟨j,hj⟩:=List.getElem?_of_mem (least_mem e)
    rw [List.getElem?_zipWith] at hj
    obtain ⟨i,hiv⟩:=List.getElem?_of_mem hv
    have hb:=g2.bd i v hiv
    have hi64:i<64:=Nat.lt_of_lt_of_le (List.getElem?_eq_some_iff.1 hiv).1 g2.num
    split at hj
    ·rename_i a b ha hb'
     cases a with
     | none=>simp [ends1] at hj
     | some u =>
      cases b with
      | none=>simp [ends1] at hj
      | some d =>
       have h1:=hb u (List.mem_of_getElem? ha)
       have h2:=hf _ (List.mem_of_getElem? hb') d rfl
       have h3:u+d=r:=by simpa [ends1] using hj
       have h4:C*(i+1)+C=C*(i+2):=by rw [Nat.mul_add,Nat.mul_add]; omega
       have h5:C*(i+2)<=C*66:=Nat.mul_le_mul_left _ (by omega)
       omega
    ·cases hj
   have hlenS:∀ i,i<n->∃ v,X.subs[i]? = some v:=fun i h=>⟨_,List.getElem?_eq_getElem (by omega)⟩
   have harc:∀ x∈X.arcs,x.1<n/\x.2.2.1<n/\1<=x.2.1/\x.2.1<=syms/\nz x=true:=fun x hx=>by
    obtain ⟨v,w,d,e1,e2,e3,e4,e5,_⟩:=g1.sound x hx
    exact ⟨by rw [<-hn]; exact (List.getElem?_eq_some_iff.1 e1).1,by rw [<-hn]; exact (List.getElem?_eq_some_iff.1 e2).1,e4,e5,by unfold nz; rw [e3]; rfl⟩
   have hFrom:∀ i,i<n->FromS X.arcs (some c::List.replicate (n-1) none) i:=by
    intro i
    induction i using Nat.strongRecOn with
    | _ i ih =>
     intro hin
     cases i with
     | zero=>exact .here (c:=c) rfl
     | succ i =>
      obtain ⟨x,hx,e1,e2⟩:=g1.from_ (i+1) (by omega) (by omega)
      have:=FromS.step hx (ih x.1 e2 (by omega))
      rw [e1] at this
      exact this
   have hEnd:∀ q,ToEnd A.arcs A.fin q->FromS A.arcs A.ini q->∀ i v r,X.subs[i]? = some v->Has v q r->ToEnd X.arcs (X.subs.map (endV A.fin)) i:=by
    intro q hq
    induction hq with
    | here hc' =>
     intro _ i v r hv hr
     obtain ⟨m,hm,_⟩:=endV_some hr hc'
     exact .here (c:=m) (by rw [List.getElem?_map,hv]; simp [hm])
    | step hx hto ih =>
     rename_i x
     intro hfr i v r hv hr
     have hfr':=FromS.step hx hfr
     obtain ⟨a1,a2,a3,a4,a5⟩:=hA.arc x hx
     have hus':us.getD x.2.2.1 false=true:=(hu.2 _ a2).2 ⟨hfr',hto⟩
     have hvl:v.length=A.st:=g2.len v (List.mem_of_getElem? hv)
     have hb:=bst_nextV (N:=A.arcs) (us:=us) (R:=v) (l:=x.2.1) (by rw [hvl,hu.1]; exact Nat.le_refl _)
     obtain ⟨m,hm,_⟩:=hb.2 x.2.2.1 _ ⟨x,hx,rfl,rfl,hus',r,hr,rfl⟩
     cases hs:setl (nextV A.arcs us v x.2.1) with
     | none =>
      have:=least_le (List.mem_of_getElem? hm)
      rw [setl_none hs] at this
      exact absurd this (by simp [twLe])
     | some p =>
      obtain ⟨d,nx⟩:=p
      have hil:i<X.subs.length:=(List.getElem?_eq_some_iff.1 hv).1
      obtain ⟨num,e1,e2⟩:=g1.full i x.2.1 v d nx (.inl (by omega)) a3 a4 hv hs
      have hnx:Has nx x.2.2.1 (m-d):=by rw [(setl_some hs).2]; exact low_has.2 ⟨m,hm,rfl⟩
      have:=ToEnd.step e1 (ih hfr' num nx _ e2 hnx)
      exact this
   have hUse:UsOk (List.replicate n true) ⟨n,some c::List.replicate (n-1) none,X.subs.map (endV A.fin),X.arcs⟩:=by
    refine ⟨by simp,fun q hq=>?_⟩
    simp only at hq
    constructor
    ·intro _
     refine ⟨hFrom q hq,?_⟩
     obtain ⟨v,hv⟩:=hlenS q hq
     obtain ⟨s1,p,hp⟩:=g1.sub v (List.mem_of_getElem? hv)
     have hpu:=s1 p 0 hp
     have hpl:p<A.st:=by rw [<-hu.1]; exact us_lt hpu
     obtain ⟨t1,t2⟩:=(hu.2 p hpl).1 hpu
     exact hEnd p t2 t1 q v 0 hv hp
    ·intro _; simp [List.getD_eq_getElem?_getD,hq]
   simp only [hn]
   refine ⟨⟨by simp only [List.length_cons,List.length_replicate]; omega,by simp only [List.length_map]; exact hn,fun x hx=>harc x hx⟩,g1.ss,by have:=g2.num; omega,hUse,?_,fun x hx=>?_,fun w hw r hr=>?_,hfin⟩
   ·unfold detP
    have hfirst:setl (firstV (List.replicate n true) (some c::List.replicate (n-1) none))=some (c,uv n 0):=by
     have hh:∀ j r,Has (firstV (List.replicate n true) (some c::List.replicate (n-1) none)) j r↔(j=0/\r=c):=fun j r=>by
      rw [firstV_has]
      cases j with
      | zero =>
       have h0:(List.replicate n true)[0]? = some true:=by rw [List.getElem?_replicate,if_pos (by omega)]
       rw [h0]
       simp only [List.getElem?_cons_zero,true_and,Option.some.injEq]
       exact eq_comm
      | succ j=>simp [List.getElem?_replicate]
     have hl:leastV (firstV (List.replicate n true) (some c::List.replicate (n-1) none))=some c:=least_is ((hh 0 c).2 ⟨rfl,rfl⟩) fun j r hr=>by rw [((hh j r).1 hr).2]; exact Nat.le_refl _
     unfold setl
     rw [hl]
     have hx:lowV (firstV (List.replicate n true) (some c::List.replicate (n-1) none)) c=uv n 0:=by
      refine vx_ext (by rw [lowV_len,uv_len]; unfold firstV; rw [List.length_zipWith,List.length_replicate,List.length_cons,List.length_replicate]; omega) fun j r=>?_
      rw [low_has,uv_has]
      constructor
      ·rintro ⟨u,hu',rfl⟩
       obtain ⟨rfl,rfl⟩:=(hh j u).1 hu'
       exact ⟨by omega,rfl,by omega⟩
      ·rintro ⟨_,rfl,rfl⟩
       exact ⟨c,(hh 0 c).2 ⟨rfl,rfl⟩,by omega⟩
     show some (c,lowV (firstV (List.replicate n true) (some c::List.replicate (n-1) none)) c)=_
     rw [hx]
    simp only
    rw [hfirst]
    have hsim:=sim_run (F:=X.arcs) (n:=n) hC hu.1 66 0 s1 s2 rfl hn.symm hX
    have hb1:basis n 1=[uv n 0]:=rfl
    simp only [List.length_cons,List.length_nil] at hsim
    rw [hb1] at hsim
    simp only
    rw [hsim]
    simp only [basis_len]
    congr 2
    refine List.ext_getElem (by simp [basis_len,hn]) fun i h1 h2=>?_
    have hi':i<n:=by simpa [basis_len] using h1
    rw [List.getElem_map]
    have:(basis n n)[i]'(by rw [basis_len]; exact hi')=uv n i:=by simp [basis]
    rw [this,endV_uv hi' (by simp [hn])]
   ·obtain ⟨-, -, -, d,e1,e2⟩:=g2.arc x hx
    unfold cst
    rw [e1]
    exact e2
   ·rcases List.mem_cons.1 hw with rfl | hw
    ·cases hr; exact hcC
    ·rw [List.mem_replicate] at hw
     rw [hw.2] at hr
     cases hr
end
section
def Uq (L:List Ac):Prop:=∀ x∈L,∀ y∈L,x.1=y.1->x.2.1=y.2.1->x=y
theorem least_all {S:Vx} {q r:Nat} (h:Has S q r):∃ m,leastV S=some m/\m<=r:=by
 have:=least_le (List.mem_of_getElem? h)
 cases e:leastV S with
 | none=>rw [e] at this; simp [twLe] at this
 | some m=>rw [e] at this; exact ⟨m,rfl,by simpa [twLe] using this⟩
end
section
abbrev Pr:=Nat×Nat
def Mv (A:Au) (P Q:Pr) (g:Int):Prop:=∃ x∈A.arcs,∃ y∈A.arcs,x.1=P.1/\y.1=P.2/\x.2.2.1=Q.1/\y.2.2.1=Q.2/\x.2.1=y.2.1/\ToEnd A.arcs A.fin Q.1/\ToEnd A.arcs A.fin Q.2/\g=(cst x:Int)-(cst y:Int)
def Bg (A:Au) (P:Pr):Prop:=(∃ c,A.ini[P.1]? = some (some c))/\(∃ c,A.ini[P.2]? = some (some c))/\ToEnd A.arcs A.fin P.1/\ToEnd A.arcs A.fin P.2
inductive Seen (A:Au):Pr->Prop
 | here {P:Pr}:Bg A P->Seen A P
 | step {P Q:Pr} {g:Int}:Seen A P->Mv A P Q g->Seen A Q
inductive Wk (A:Au):Pr->Pr->Int->List Pr->Prop
 | nil (P:Pr):Wk A P P 0 [P]
 | cons {P P' Q:Pr} {g G:Int} {L:List Pr}:Mv A P P' g->Wk A P' Q G L->Wk A P Q (g+G) (P::L)
def Bal (A:Au):Prop:=∀ P G L,Seen A P->Wk A P P G L->G=0
theorem Wk.snoc {A:Au} {P Q R:Pr} {G g:Int} {L:List Pr} (h:Wk A P Q G L) (k:Mv A Q R g):Wk A P R (G+g) (L++[R]):=by
 induction h with
 | nil P =>
  have:=Wk.cons k (Wk.nil R)
  rw [show (0:Int)+g=g+0 by omega]
  exact this
 | cons h1 _ ih =>
  rename_i P P' Q g1 G1 L1 h2
  rw [show g1+G1+g=g1+(G1+g) by omega]
  exact .cons h1 (ih k)
theorem Wk.seen {A:Au} {P Q:Pr} {G:Int} {L:List Pr} (h:Wk A P Q G L) (k:Seen A P):Seen A Q:=by
 induction h with
 | nil P=>exact k
 | cons h1 _ ih=>exact ih (.step k h1)
theorem Wk.split {A:Au} {P Q R:Pr} {G:Int} {L:List Pr} (h:Wk A P Q G L) (hR:R∈L):∃ G1 L1 G2 L2,Wk A P R G1 L1/\Wk A R Q G2 L2/\G=G1+G2/\∃ L0,L=L0++L2:=by
 induction h with
 | nil P =>
  obtain rfl:R=P:=by simpa using hR
  exact ⟨0,_,0,_,.nil R,.nil R,by omega,[],rfl⟩
 | cons h1 h2 ih =>
  rename_i P P' Q g1 G1 L1
  rcases List.mem_cons.1 hR with rfl | hR
  ·exact ⟨0,_,_,_,.nil R,.cons h1 h2,by omega,[],rfl⟩
  ·obtain ⟨a,b,c,d,k1,k2,k3,L0,k4⟩:=ih hR
   exact ⟨g1+a,P::b,c,d,.cons h1 k1,k2,by omega,P::L0,by rw [k4]; rfl⟩
theorem Wk.simple {A:Au} (hB:Bal A) {P Q:Pr} {G:Int} {L:List Pr} (h:Wk A P Q G L) (hP:Seen A P):∃ L',Wk A P Q G L'/\L'.Nodup:=by
 induction h with
 | nil P=>exact ⟨[P],.nil P,by simp⟩
 | cons h1 h2 ih =>
  rename_i P P' Q g1 G1 L1
  obtain ⟨L',k1,k2⟩:=ih (.step hP h1)
  by_cases hm:P∈L'
  ·obtain ⟨a,b,c,d,m1,m2,m3,L0,m4⟩:=k1.split hm
   have:=hB P _ _ hP (.cons h1 m1)
   refine ⟨d,?_,?_⟩
   ·rw [show g1+G1=c by omega]; exact m2
   ·rw [m4] at k2
    exact (List.nodup_append.1 k2).2.1
  ·exact ⟨P::L',.cons h1 k1,List.nodup_cons.2 ⟨hm,k2⟩⟩
theorem nodup_le:∀ (n:Nat) (l:List Nat),l.Nodup->(∀ x∈l,x<n)->l.length<=n
 | 0,l,_,h=>by
  cases l with
  | nil=>exact Nat.le_refl _
  | cons x l=>exact absurd (h x List.mem_cons_self) (by omega)
 | n+1,l,hd,h=>by
  have h1:=nodup_le n (l.erase n) (hd.erase _) fun x hx=>by
   have h2:=h x (List.mem_of_mem_erase hx)
   have h3:x≠n:=fun e=>by subst e; exact hd.not_mem_erase hx
   omega
  have h2:l.length<=(l.erase n).length+1:=by
   by_cases hm:n∈l
   ·rw [List.length_erase_of_mem hm]; omega
   ·rw [List.erase_of_not_mem hm]; omega
  omega
theorem nodup_pairs {n:Nat} {l:List Pr} (hd:l.Nodup) (h:∀ p∈l,p.1<n/\p.2<n):l.length<=n*n:=by
 have h1:=nodup_le (n*n) (l.map fun p=>p.1*n+p.2) (by
  refine List.pairwise_map.2 (hd.imp_of_mem fun {a b} ha hb hne e=>hne ?_)
  obtain ⟨h1,h2⟩:=h a ha
  obtain ⟨h3,h4⟩:=h b hb
  have e2:a.2=b.2:=by
   have h5:(a.1*n+a.2)%n=(b.1*n+b.2)%n:=by rw [e]
   rw [Nat.add_comm,Nat.add_mul_mod_self_right,Nat.mod_eq_of_lt h2,Nat.add_comm,Nat.add_mul_mod_self_right,Nat.mod_eq_of_lt h4] at h5; exact h5
  have e1:a.1=b.1:=by
   have h6:a.1*n=b.1*n:=by omega
   exact Nat.eq_of_mul_eq_mul_right (by omega) h6
  exact Prod.ext e1 e2) fun x hx=>by
  obtain ⟨p,hp,rfl⟩:=List.mem_map.1 hx
  obtain ⟨h1,h2⟩:=h p hp
  have:(p.1+1)*n<=n*n:=Nat.mul_le_mul_right _ h1
  rw [Nat.add_mul] at this
  omega
 simpa using h1
theorem Wk.gap {A:Au} {C:Nat} (hC:∀ x∈A.arcs,cst x<=C) {P Q:Pr} {G:Int} {L:List Pr} (h:Wk A P Q G L):1<=L.length/\G<=((L.length-1)*C:Nat):=by
 induction h with
 | nil P=>exact ⟨by simp,by simp⟩
 | cons h1 h2 ih =>
  rename_i P P' Q g1 G1 L1
  obtain ⟨x,hx,y,hy,_,_,_,_,_,_,_,rfl⟩:=h1
  have h3:=hC x hx
  obtain ⟨k1,k2⟩:=ih
  refine ⟨by simp,?_⟩
  have h4:(L1.length-1)*C+C=L1.length*C:=by
   obtain ⟨m,hm⟩:∃ m,L1.length=m+1:=⟨L1.length-1,by omega⟩
   rw [hm,Nat.add_mul]; simp
  simp only [List.length_cons,Nat.add_sub_cancel]
  omega
theorem Wk.lt {A:Au} {n:Nat} (hN:∀ x∈A.arcs,x.1<n/\x.2.2.1<n) {P Q:Pr} {G:Int} {L:List Pr} (h:Wk A P Q G L) (hP:P.1<n/\P.2<n):∀ R∈L,R.1<n/\R.2<n:=by
 induction h with
 | nil P=>intro R hR; rw [List.mem_singleton] at hR; rw [hR]; exact hP
 | cons h1 h2 ih =>
  intro R hR
  rcases List.mem_cons.1 hR with rfl | hR
  ·exact hP
  ·obtain ⟨x,hx,y,hy,_,_,e1,e2,_⟩:=h1
   exact ih ⟨by rw [<-e1]; exact (hN x hx).2,by rw [<-e2]; exact (hN y hy).2⟩ R hR
def Apart (A:Au) (S:Vx):Prop:=∀ q r p s,Has S q r->Has S p s->∃ P G L,Bg A P/\Wk A P (q,p) G L/\∃ a b:Nat,A.ini[P.1]? = some (some a)/\A.ini[P.2]? = some (some b)/\(r:Int)-(s:Int)=(a:Int)-(b:Int)+G
theorem apart_all {A:Au} {syms k':Nat} {us:List Bool} {X:Ds} {f:Vx} {c:Nat} (hA:Aok A syms) (hu:UsOk us A) (hd:∀ v∈X.subs,v.length=A.st) (hX:Dst A.arcs us syms k' 1 X) (h0:X.subs[0]? = some f) (hset:setl (firstV us A.ini)=some (c,f)):∀ (i:Nat) (S:Vx),X.subs[i]? = some S->Apart A S:=by
 have hend:∀ q,us.getD q false=true->ToEnd A.arcs A.fin q:=fun q hq=>((hu.2 q (by rw [<-hu.1]; exact us_lt hq)).1 hq).2
 obtain ⟨hl,rfl⟩:=setl_some hset
 intro i
 induction i using Nat.strongRecOn with
 | _ i ih =>
  intro S hS
  cases i with
  | zero =>
   rw [h0] at hS
   cases hS
   intro q r p s hq hp
   obtain ⟨u,hu1,rfl⟩:=low_has.1 hq
   obtain ⟨v,hv1,rfl⟩:=low_has.1 hp
   obtain ⟨m1,e1,l1⟩:=least_all hu1
   obtain ⟨m2,e2,l2⟩:=least_all hv1
   rw [hl] at e1 e2
   cases e1
   cases e2
   obtain ⟨a1,a2⟩:=firstV_has.1 hu1
   obtain ⟨b1,b2⟩:=firstV_has.1 hv1
   exact ⟨(q,p),0,_,⟨⟨u,a2⟩,⟨v,b2⟩,hend q (us_get.2 a1),hend p (us_get.2 b1)⟩,.nil _,u,v,a2,b2,by omega⟩
  | succ i =>
   have hil:i+1<X.subs.length:=(List.getElem?_eq_some_iff.1 hS).1
   obtain ⟨z,hz,e1,e2⟩:=hX.from_ (i+1) (by omega) hil
   obtain ⟨v,w,d,f1,f2,f3,f4,f5,f6⟩:=hX.sound z hz
   rw [e1,hS] at f2
   cases f2
   have hap:=ih z.1 e2 v f1
   obtain ⟨g1,rfl⟩:=setl_some f6
   have hvl:v.length=A.st:=hd v (List.mem_of_getElem? f1)
   have hb:Bst (nextV A.arcs us v z.2.1) (Cand A.arcs us v z.2.1):=bst_nextV (by rw [hu.1,hvl]; exact Nat.le_refl _)
   intro q r p s hq hp
   obtain ⟨m1,h1,rfl⟩:=low_has.1 hq
   obtain ⟨m2,h2,rfl⟩:=low_has.1 hp
   obtain ⟨_,k1,l1⟩:=least_all h1
   obtain ⟨_,k2,l2⟩:=least_all h2
   rw [g1] at k1 k2
   cases k1
   cases k2
   obtain ⟨x,hx,x1,x2,x3,r0,x4,x5⟩:=hb.1 q m1 h1
   obtain ⟨y,hy,y1,y2,y3,s0,y4,y5⟩:=hb.1 p m2 h2
   obtain ⟨P,G,L,n1,n2,a,b,n3,n4,n5⟩:=hap x.1 r0 y.1 s0 x4 y4
   refine ⟨P,G+((cst x:Int)-(cst y:Int)),L++[(q,p)],n1,n2.snoc ⟨x,hx,y,hy,rfl,rfl,x2,y2,by rw [x1,y1],hend q x3,hend p y3,rfl⟩,a,b,n3,n4,?_⟩
   omega
theorem det_twins {syms C n:Nat} {us:List Bool} {A B:Au} (hA:Aok A syms) (hu:UsOk us A) (hn:A.st=n) (hn1:n<=3) (hC:∀ x∈A.arcs,cst x<=C) (hi:∀ w∈A.ini,∀ r,w=some r->r<=C) (hBal:Bal A) (h:detP syms us A=some B):∀ x∈B.arcs,cst x<=10*C:=by
 unfold detP at h
 split at h
 ·cases h
  intro x hx; cases hx
 ·rename_i c f hset
  split at h
  ·cases h
  ·rename_i X hX
   cases h
   obtain ⟨s1,s2⟩:=first_state (N:=A.arcs) (syms:=syms) hu.1 hA.ini hi hset
   obtain ⟨⟨k',g1,g2,g3⟩,⟨Bs,hBs⟩,-⟩:=Dst.run hC hu.1 66 0 s1 s2 hX
   have h0:X.subs[0]? = some f:=by rw [hBs]; rfl
   have hap:=apart_all hA hu g2.len g1 h0 hset
   have hres:∀ i S,X.subs[i]? = some S->∀ q r,Has S q r->r<=9*C:=fun i S hS q r hr=>by
    obtain ⟨_,p,hp⟩:=g1.sub S (List.mem_of_getElem? hS)
    obtain ⟨P,G,L,n1,n2,a,b,n3,n4,n5⟩:=hap i S hS q r p 0 hr hp
    obtain ⟨L',k1,k2⟩:=n2.simple hBal (.here n1)
    have hP:P.1<n/\P.2<n:=by
     rw [<-hn,<-hA.ini]
     exact ⟨(List.getElem?_eq_some_iff.1 n3).1,(List.getElem?_eq_some_iff.1 n4).1⟩
    have hl:=nodup_pairs k2 (k1.lt (fun x hx=>by rw [<-hn]; exact ⟨(hA.arc x hx).1,(hA.arc x hx).2.1⟩) hP)
    obtain ⟨k3,k4⟩:=k1.gap hC
    have ha:=hi _ (List.mem_of_getElem? n3) a rfl
    have hnn:n*n<=9:=by
     have:=Nat.mul_le_mul hn1 hn1
     omega
    have h8:(L'.length-1)*C<=8*C:=Nat.mul_le_mul_right _ (by omega)
    omega
   intro x hx
   obtain ⟨v,w,d,f1,f2,f3,f4,f5,f6⟩:=g1.sound x hx
   obtain ⟨e1,_⟩:=setl_some f6
   obtain ⟨q,hq⟩:=List.getElem?_of_mem (least_mem e1)
   have hvl:v.length=A.st:=g2.len v (List.mem_of_getElem? f1)
   have hb:Bst (nextV A.arcs us v x.2.1) (Cand A.arcs us v x.2.1):=bst_nextV (by rw [hu.1,hvl]; exact Nat.le_refl _)
   obtain ⟨y,hy,_,_,_,r,hr,e⟩:=hb.1 q d hq
   have h1:=hres _ v f1 _ r hr
   have h2:=hC y hy
   unfold cst
   rw [show wt x=some d from f3]
   simp only [Option.getD_some]
   omega
end
section
abbrev Mvs:=List (Nat×Int)
def prI (n i:Nat):Pr:=(i/n,i%n)
def nuI (n:Nat) (P:Pr):Nat:=P.1*n+P.2
theorem prI_nuI {n:Nat} {P:Pr} (h:P.2<n):prI n (nuI n P)=P:=by
 unfold prI nuI
 have hn:0<n:=by omega
 refine Prod.ext ?_ ?_
 ·show (P.1*n+P.2)/n=P.1
  rw [Nat.add_comm,Nat.add_mul_div_right _ _ hn,Nat.div_eq_of_lt h]; omega
 ·show (P.1*n+P.2)%n=P.2
  rw [Nat.add_comm,Nat.add_mul_mod_self_right,Nat.mod_eq_of_lt h]
theorem nuI_lt {n:Nat} {P:Pr} (h1:P.1<n) (h2:P.2<n):nuI n P<n*n:=by
 unfold nuI
 have:(P.1+1)*n<=n*n:=Nat.mul_le_mul_right _ h1
 rw [Nat.add_mul] at this
 omega
theorem nuI_prI (n i:Nat):nuI n (prI n i)=i:=by
 unfold prI nuI
 show i/n*n+i%n=i
 have:=Nat.div_add_mod i n
 rw [Nat.mul_comm]; exact this
theorem prI_lt {n i:Nat} (h:i<n*n):(prI n i).1<n/\(prI n i).2<n:=by
 have hn:0<n:=by
  rcases Nat.eq_zero_or_pos n with rfl | h'
  ·simp at h
  ·exact h'
 exact ⟨Nat.div_lt_of_lt_mul h,Nat.mod_lt _ hn⟩
structure Sqr where
 seen:Nat->Bool
 fr:Nat->Mvs
 tor:Nat->Mvs
 ord:List Nat
def updL (F:Nat->Mvs) (i:Nat) (l:Mvs):Nat->Mvs:=fun j=>if j=i then l else F j
def updS (F:Nat->Bool) (j:Nat) (b:Bool):Nat->Bool:=fun i=>if i=j then b else F i
def Sqr.mark (S:Sqr) (i:Nat):Sqr:=⟨updS S.seen i true,S.fr,S.tor,S.ord⟩
def Sqr.add (S:Sqr) (i j:Nat) (g:Int):Sqr:=⟨S.seen,updL S.fr i (S.fr i++[(j,g)]),updL S.tor j (S.tor j++[(i,g)]),S.ord⟩
def Sqr.done (S:Sqr) (i:Nat):Sqr:=⟨S.seen,S.fr,S.tor,S.ord++[i]⟩
structure SqI (A:Au) (n:Nat) (gray:List Nat) (S:Sqr):Prop where
 snd:∀ i m,m∈S.fr i->Mv A (prI n i) (prI n m.1) m.2/\i<n*n/\m.1<n*n/\S.seen i=true
 dual:∀ i j g,(j,g)∈S.fr i↔(i,g)∈S.tor j
 ord:∀ i∈S.ord,S.seen i=true/\i<n*n
 all:∀ i,S.seen i=true->i∈S.ord\/i∈gray
 com:∀ i∈S.ord,∀ Q g,Mv A (prI n i) Q g->(nuI n Q,g)∈S.fr i/\S.seen (nuI n Q)=true
 rch:∀ i,S.seen i=true->Seen A (prI n i)
structure SqLe (S S':Sqr):Prop where
 seen:∀ i,S.seen i=true->S'.seen i=true
 fr:∀ i m,m∈S.fr i->m∈S'.fr i
def cU (S:Sqr) (n:Nat):Nat:=((List.range (n*n)).filter fun j=>!S.seen j).length
def Len (S:Sqr) (m:Nat):Prop:=(∀ i,(S.fr i).length<=m/\(S.tor i).length<=m)/\S.ord.length<=m
def Grew (L n:Nat) (S S':Sqr):Prop:=∀ m,Len S m->∃ m',Len S' m'/\m'+L*cU S' n<=m+L*cU S n
theorem SqLe.refl (S:Sqr):SqLe S S:=⟨fun _ h=>h,fun _ _ h=>h⟩
theorem SqLe.trans {S T U:Sqr} (h:SqLe S T) (k:SqLe T U):SqLe S U:=⟨fun i hi=>k.seen i (h.seen i hi),fun i m hm=>k.fr i m (h.fr i m hm)⟩
theorem Grew.refl (L n:Nat) (S:Sqr):Grew L n S S:=fun m h=>⟨m,h,Nat.le_refl _⟩
theorem Grew.trans {L n:Nat} {S T U:Sqr} (h:Grew L n S T) (k:Grew L n T U):Grew L n S U:=fun m hm=>by
 obtain ⟨m1,h1,e1⟩:=h m hm
 obtain ⟨m2,h2,e2⟩:=k m1 h1
 exact ⟨m2,h2,by omega⟩
theorem cU_mono {S S':Sqr} {n:Nat} (h:∀ i,S.seen i=true->S'.seen i=true):cU S' n<=cU S n:=by
 unfold cU
 rw [<-List.countP_eq_length_filter,<-List.countP_eq_length_filter]
 refine List.countP_mono_left fun x _ hx=>?_
 simp only [Bool.not_eq_true'] at hx ⊢
 cases hs:S.seen x with
 | false=>rfl
 | true=>rw [h x hs] at hx; cases hx
theorem updS_count {E:Nat->Bool} {n j:Nat} (hj:j<n) (h:E j=false):((List.range n).filter fun k=>!updS E j true k).length+1=((List.range n).filter fun k=>!E k).length:=by
 induction n with
 | zero=>omega
 | succ n ih =>
  rw [List.range_succ,List.filter_append,List.filter_append,List.length_append,List.length_append]
  by_cases hjn:j=n
  ·subst hjn
   have e1:(List.range j).filter (fun k=>!updS E j true k)=(List.range j).filter fun k=>!E k:=by
    refine List.filter_congr fun x hx=>?_
    have:=List.mem_range.1 hx
    unfold updS
    rw [if_neg (by omega)]
   rw [e1]
   simp [updS,h]
  ·have:=ih (by omega)
   have e2:updS E j true n=E n:=by unfold updS; rw [if_neg (by omega)]
   have e3:([n].filter fun k=>!updS E j true k).length=([n].filter fun k=>!E k).length:=by
    rw [List.filter_cons,List.filter_cons,e2]; split<;>rfl
   rw [e3]
   omega
theorem cU_mark {S:Sqr} {n i:Nat} (hi:i<n*n) (h:S.seen i=false):cU (S.mark i) n+1=cU S n:=updS_count hi h
theorem mark_le (S:Sqr) (i:Nat):SqLe S (S.mark i):=⟨fun j hj=>by
 show (if j=i then true else S.seen j)=true
 split
 ·rfl
 ·exact hj,fun _ _ h=>h⟩
theorem SqI.mark {A:Au} {n:Nat} {gray:List Nat} {S:Sqr} (h:SqI A n gray S) {i:Nat} (hi:i<n*n) (hs:Seen A (prI n i)):SqI A n (i::gray) (S.mark i):=by
 have hle:=mark_le S i
 refine ⟨fun j m hm=>?_,h.dual,fun j hj=>⟨hle.seen j (h.ord j hj).1,(h.ord j hj).2⟩,fun j hj=>?_,fun j hj Q g hQ=>?_,fun j hj=>?_⟩
 ·obtain ⟨a,b,c,d⟩:=h.snd j m hm
  exact ⟨a,b,c,hle.seen j d⟩
 ·by_cases e:j=i
  ·right; rw [e]; exact List.mem_cons_self
  ·have:S.seen j=true:=by
    have h2:(S.mark i).seen j=S.seen j:=if_neg e
    rw [<-h2]; exact hj
   rcases h.all j this with h3 | h3
   ·exact .inl h3
   ·exact .inr (List.mem_cons_of_mem _ h3)
 ·obtain ⟨a,b⟩:=h.com j hj Q g hQ
  exact ⟨a,hle.seen _ b⟩
 ·by_cases e:j=i
  ·rw [e]; exact hs
  ·have h2:(S.mark i).seen j=S.seen j:=if_neg e
   exact h.rch j (by rw [<-h2]; exact hj)
theorem add_fr (S:Sqr) (i j:Nat) (g:Int) (k:Nat) (m:Nat×Int):m∈(S.add i j g).fr k↔m∈S.fr k\/(k=i/\m=(j,g)):=by
 unfold Sqr.add updL
 simp only
 split
 ·rename_i e
  subst e
  rw [List.mem_append,List.mem_singleton]
  exact ⟨fun h=>h.imp id fun h=>⟨rfl,h⟩,fun h=>h.imp id fun h=>h.2⟩
 ·rename_i e
  exact ⟨fun h=>.inl h,fun h=>h.elim id fun h=>absurd h.1 e⟩
theorem add_to (S:Sqr) (i j:Nat) (g:Int) (k:Nat) (m:Nat×Int):m∈(S.add i j g).tor k↔m∈S.tor k\/(k=j/\m=(i,g)):=by
 unfold Sqr.add updL
 simp only
 split
 ·rename_i e
  subst e
  rw [List.mem_append,List.mem_singleton]
  exact ⟨fun h=>h.imp id fun h=>⟨rfl,h⟩,fun h=>h.imp id fun h=>h.2⟩
 ·rename_i e
  exact ⟨fun h=>.inl h,fun h=>h.elim id fun h=>absurd h.1 e⟩
theorem add_le (S:Sqr) (i j:Nat) (g:Int):SqLe S (S.add i j g):=⟨fun _ h=>h,fun k m h=>(add_fr S i j g k m).2 (.inl h)⟩
theorem SqI.add {A:Au} {n:Nat} {gray:List Nat} {S:Sqr} (h:SqI A n gray S) {i j:Nat} {g:Int} (hm:Mv A (prI n i) (prI n j) g) (hi:i<n*n) (hj:j<n*n) (hs:S.seen i=true):SqI A n gray (S.add i j g):=by
 refine ⟨fun k m hk=>?_,fun k l g'=>?_,h.ord,h.all,fun k hk Q g' hQ=>?_,h.rch⟩
 ·rcases (add_fr S i j g k m).1 hk with hk | ⟨rfl,rfl⟩
  ·exact h.snd k m hk
  ·exact ⟨hm,hi,hj,hs⟩
 ·rw [add_fr,add_to,h.dual]
  constructor
  ·rintro (h1 | ⟨rfl,h1⟩)
   ·exact .inl h1
   ·cases h1; exact .inr ⟨rfl,rfl⟩
  ·rintro (h1 | ⟨rfl,h1⟩)
   ·exact .inl h1
   ·cases h1; exact .inr ⟨rfl,rfl⟩
 ·obtain ⟨a,b⟩:=h.com k hk Q g' hQ
  exact ⟨(add_fr S i j g _ _).2 (.inl a),b⟩
theorem done_le (S:Sqr) (i:Nat):SqLe S (S.done i):=⟨fun _ h=>h,fun _ _ h=>h⟩
theorem SqI.done {A:Au} {n:Nat} {gray:List Nat} {S:Sqr} {i:Nat} (h:SqI A n (i::gray) S) (hi:i<n*n) (hs:S.seen i=true) (hc:∀ Q g,Mv A (prI n i) Q g->(nuI n Q,g)∈S.fr i/\S.seen (nuI n Q)=true):SqI A n gray (S.done i):=by
 refine ⟨h.snd,h.dual,fun k hk=>?_,fun k hk=>?_,fun k hk=>?_,h.rch⟩
 ·rcases List.mem_append.1 hk with hk | hk
  ·exact h.ord k hk
  ·obtain rfl:k=i:=by simpa using hk
   exact ⟨hs,hi⟩
 ·rcases h.all k hk with h1 | h1
  ·exact .inl (List.mem_append.2 (.inl h1))
  ·rcases List.mem_cons.1 h1 with rfl | h1
   ·exact .inl (List.mem_append.2 (.inr (by simp)))
   ·exact .inr h1
 ·rcases List.mem_append.1 hk with hk | hk
  ·exact h.com k hk
  ·obtain rfl:k=i:=by simpa using hk
   exact hc
theorem Len.add {S:Sqr} {m:Nat} (h:Len S m) (i j:Nat) (g:Int):Len (S.add i j g) (m+1):=by
 refine ⟨fun k=>⟨?_,?_⟩,Nat.le_trans h.2 (by omega)⟩
 ·unfold Sqr.add updL
  simp only
  split
  ·rw [List.length_append]
   have:=(h.1 i).1
   simp; omega
  ·exact Nat.le_trans (h.1 k).1 (by omega)
 ·unfold Sqr.add updL
  simp only
  split
  ·rw [List.length_append]
   have:=(h.1 j).2
   simp; omega
  ·exact Nat.le_trans (h.1 k).2 (by omega)
theorem Len.done {S:Sqr} {m:Nat} (h:Len S m) (i:Nat):Len (S.done i) (m+1):=by
 refine ⟨fun k=>⟨Nat.le_trans (h.1 k).1 (by omega),Nat.le_trans (h.1 k).2 (by omega)⟩,?_⟩
 show (S.ord++[i]).length<=m+1
 rw [List.length_append]
 have:=h.2
 simp; omega
theorem Len.mark {S:Sqr} {m:Nat} (h:Len S m) (i:Nat):Len (S.mark i) m:=h
structure Hts (S:Sqr) (pt:Nat->Nat) (ht:Nat->Int):Prop where
 fall:∀ i m,m∈S.fr i->pt i<=pt m.1
 fit:∀ i∈S.ord,∀ m,m∈S.fr i->pt m.1=pt i->ht m.1=ht i+m.2
theorem wk_code {A:Au} {n:Nat} {S:Sqr} (hn:∀ x∈A.arcs,x.1<n/\x.2.2.1<n) (h:SqI A n [] S) {pt:Nat->Nat} {ht:Nat->Int} (k:Hts S pt ht) {P Q:Pr} {G:Int} {L:List Pr} (hw:Wk A P Q G L) (hP:P.1<n/\P.2<n) (hs:S.seen (nuI n P)=true) :
  pt (nuI n P)<=pt (nuI n Q)/\(pt (nuI n Q)=pt (nuI n P)->ht (nuI n Q)=ht (nuI n P)+G):=by
 induction hw with
 | nil P=>exact ⟨Nat.le_refl _,fun _=>by omega⟩
 | cons h1 h2 ih =>
  rename_i P P' Q g1 G1 L1
  have hin:nuI n P∈S.ord:=(h.all _ hs).elim id fun e=>by cases e
  have e0:prI n (nuI n P)=P:=prI_nuI hP.2
  obtain ⟨c1,c2⟩:=h.com _ hin P' g1 (by rw [e0]; exact h1)
  have hP':P'.1<n/\P'.2<n:=by
   obtain ⟨x,hx,y,hy,_,_,e1,e2,_⟩:=h1
   exact ⟨by rw [<-e1]; exact (hn x hx).2,by rw [<-e2]; exact (hn y hy).2⟩
  obtain ⟨i1,i2⟩:=ih hP' c2
  have f1:=k.fall _ _ c1
  refine ⟨Nat.le_trans f1 i1,fun e=>?_⟩
  have e1:pt (nuI n P')=pt (nuI n P):=by
   have:pt (nuI n P)<=pt (nuI n P'):=f1
   omega
  have e2:=k.fit _ hin _ c1 e1
  have e3:=i2 (by omega)
  rw [e3]
  have e2':ht (nuI n P')=ht (nuI n P)+g1:=e2
  omega
theorem bal_of {A:Au} {n:Nat} {S:Sqr} (hn:∀ x∈A.arcs,x.1<n/\x.2.2.1<n) (hl:A.ini.length=n) (h:SqI A n [] S) (hb:∀ P,Bg A P->S.seen (nuI n P)=true) {pt:Nat->Nat} {ht:Nat->Int} (k:Hts S pt ht):Bal A:=by
 have key:∀ P,Seen A P->P.1<n/\P.2<n/\S.seen (nuI n P)=true:=by
  intro P hP
  induction hP with
  | here hB =>
   rename_i P
   have hB2:=hB
   obtain ⟨⟨c,hc⟩,⟨d,hd⟩,_⟩:=hB2
   exact ⟨by rw [<-hl]; exact (List.getElem?_eq_some_iff.1 hc).1,by rw [<-hl]; exact (List.getElem?_eq_some_iff.1 hd).1,hb P hB⟩
  | step _ hm ih =>
   rename_i P Q g _
   obtain ⟨h1,h2,h3⟩:=ih
   have hin:nuI n P∈S.ord:=(h.all _ h3).elim id fun e=>by cases e
   obtain ⟨c1,c2⟩:=h.com _ hin Q g (by rw [prI_nuI h2]; exact hm)
   obtain ⟨x,hx,y,hy,_,_,e1,e2,_⟩:=hm
   exact ⟨by rw [<-e1]; exact (hn x hx).2,by rw [<-e2]; exact (hn y hy).2,c2⟩
 intro P G L hP hw
 obtain ⟨h1,h2,h3⟩:=key P hP
 have:=(wk_code hn h k hw ⟨h1,h2⟩ h3).2 rfl
 omega
end
end Go.Proofs.YtnapapijhhldpaaGreatDoor

/-
  Texts joined by program: De, Dk, Base, App. No condition of its own.
-/
import Derived.Test.YtnapapijhhldpaaGreatDoorJkAA
namespace Go.Proofs.YtnapapijhhldpaaGreatDoor
set_option linter.unusedSimpArgs false
set_option linter.unusedVariables false
set_option maxRecDepth 100000
set_option maxHeartbeats 4000000
section
theorem Dst.row {N:List Ac} {us:List Bool} {syms k st C:Nat} (hN:∀ x∈N,cst x<=C) (hus:us.length=st):∀ (n l:Nat) {X Y:Ds},Dst N us syms k l X->Dok st C k X->k<X.subs.length->1<=l->l+n<=syms+1->q0j N us k n l X=some Y ->
  Dst N us syms k (l+n) Y/\Dok st C k Y/\(∃ B,Y.subs=X.subs++B)/\∃ A,Y.arcs=X.arcs++A/\∀ x∈A,x.1=k/\l<=x.2.1
 | 0,l,X,Y,h,ho,hk,h1,h2,hs=>by
  cases hs
  exact ⟨h,ho,⟨[],by simp⟩,[],by simp,fun x hx=>by cases hx⟩
 | n+1,l,X,Y,h,ho,hk,h1,h2,hs=>by
  unfold q0j at hs
  split at hs
  ·cases hs
  ·rename_i Z hZ
   obtain ⟨d1,⟨B,hB⟩,d2⟩:=h.one hk h1 (by omega) (fun v hv=>by rw [ho.len v hv,hus]; exact Nat.le_refl _) hZ
   obtain ⟨o1,o2⟩:=ho.one hk hN hZ
   obtain ⟨e1,e2,⟨B',hB'⟩,A,e3,e4⟩:=Dst.row hN hus n (l+1) d1 o1 (Nat.lt_of_lt_of_le hk o2) (by omega) (by omega) hs
   rw [show l+1+n=l+(n+1) by omega] at e1
   refine ⟨e1,e2,⟨B++B',by rw [hB',hB,List.append_assoc]⟩,?_⟩
   rcases d2 with d2 | ⟨num,c,d2,_⟩
   ·exact ⟨A,by rw [e3,d2],fun x hx=>⟨(e4 x hx).1,by have:=(e4 x hx).2; omega⟩⟩
   ·refine ⟨(k,l,num,some c)::A,by rw [e3,d2,List.append_assoc]; rfl,fun x hx=>?_⟩
    rcases List.mem_cons.1 hx with rfl | hx
    ·exact ⟨rfl,Nat.le_refl _⟩
    ·exact ⟨(e4 x hx).1,by have:=(e4 x hx).2; omega⟩
theorem Dst.up {N:List Ac} {us:List Bool} {syms k:Nat} {X:Ds} (h:Dst N us syms k (1+syms) X):Dst N us syms (k+1) 1 X :=
 ⟨fun x hx=>by rcases h.bef x hx with e | ⟨e,_⟩<;>exact .inl (by omega),h.ss,h.sound,fun i j v c nx hij h1 h2 hv hn=>h.full i j v c nx (by omega) h1 h2 hv hn,h.from_,h.sub⟩
theorem Dst.run {N:List Ac} {us:List Bool} {syms st C:Nat} (hN:∀ x∈N,cst x<=C) (hus:us.length=st):∀ (f k:Nat) {X Z:Ds},Dst N us syms k 1 X->Dok st C k X->q0q N us syms f k X=some Z ->
  (∃ k',Dst N us syms k' 1 Z/\Dok st C k' Z/\Z.subs.length<=k')/\(∃ B,Z.subs=X.subs++B)/\∃ A,Z.arcs=X.arcs++A/\∀ x∈A,k<=x.1
 | 0,k,X,Z,h,ho,hs=>by cases hs
 | f+1,k,X,Z,h,ho,hs=>by
  unfold q0q at hs
  split at hs
  ·rename_i hk
   cases hs
   exact ⟨⟨k,h,ho,hk⟩,⟨[],by simp⟩,[],by simp,fun x hx=>by cases hx⟩
  ·rename_i hk
   split at hs
   ·cases hs
   ·rename_i Y hY
    obtain ⟨d1,d2,⟨B,hB⟩,A,e1,e2⟩:=Dst.row hN hus syms 1 h ho (by omega) (Nat.le_refl _) (by omega) hY
    obtain ⟨⟨k',g1,g2,g3⟩,⟨B',hB'⟩,A',g4,g5⟩:=Dst.run hN hus f (k+1) d1.up d2.next hs
    refine ⟨⟨k',g1,g2,g3⟩,⟨B++B',by rw [hB',hB,List.append_assoc]⟩,A++A',by rw [g4,e1,List.append_assoc],fun x hx=>?_⟩
    rcases List.mem_append.1 hx with hx | hx
    ·have:=(e2 x hx).1; omega
    ·have:=g5 x hx; omega
theorem q4h (A B:List Ac) (k l:Nat):stp (A++B) k l=stp A k l++stp B k l:=by unfold stp; rw [List.filter_append]
theorem q3t {A:List Ac} {k l:Nat} (h:∀ x∈A,¬ (x.1=k/\x.2.1=l)):stp A k l=[]:=by
 unfold stp
 rw [List.filter_eq_nil_iff]
 intro x hx
 simpa using h x hx
theorem z2c {N F:List Ac} {us:List Bool} {n k l:Nat} {X Y:Ds} (hk:k<X.subs.length) (hX:∀ x∈X.arcs,bef k l x) (hY:∃ L,F=Y.arcs++L/\∀ x∈L,¬ (x.1=k/\x.2.1=l)) (hn:Y.subs.length<=n) (hs:q0m N us k l X=some Y) :
  q0m F (List.replicate n true) k l ⟨q0l n X.subs.length,X.arcs⟩=some ⟨q0l n Y.subs.length,Y.arcs⟩:=by
 obtain ⟨L,hF,hL⟩:=hY
 have hXs:stp X.arcs k l=[]:=q3t fun x hx ⟨e1,e2⟩=>by
  rcases hX x hx with h | ⟨_,h⟩<;>omega
 unfold q0m at hs
 have hXn:X.subs.length<=Y.subs.length:=by
  split at hs
  ·cases hs; exact Nat.le_refl _
  ·split at hs
   ·cases hs; exact Nat.le_refl _
   ·split at hs
    ·cases hs
    ·cases hs; simp
 have hkn:k<n:=by omega
 obtain ⟨u1,u2⟩:=z2d (F:=F) (n:=n) (k:=k) (l:=l) hkn
 have hgetB:(Ds.mk (q0l n X.subs.length) X.arcs).subs.getD k []=uv n k:=by
  rw [List.getD_eq_getElem?_getD]
  show ((q0l n X.subs.length)[k]?).getD []=_
  rw [j7x hk]; rfl
 unfold q0m
 rw [hgetB]
 split at hs
 ·cases hs
  rw [u1 (by rw [hF,q4h,hXs,q3t hL]; rfl)]
 ·rename_i c nx hset
  split at hs
  ·rename_i num hnum
   cases hs
   have hlt:num<X.subs.length:=(List.findIdx?_eq_some_iff_getElem.1 hnum).1
   have hst:stp F k l=[(k,l,num,some c)]:=by
    rw [hF,q4h,q4h,hXs,q3t hL]
    simp [stp]
   rw [u2 num c (by simp only at hn; omega) hst]
   simp only
   rw [q6i (by simp only at hn; omega) (by simp only at hn; omega),if_pos hlt]
  ·split at hs
   ·cases hs
   ·rename_i h64
    cases hs
    have hn':X.subs.length+1<=n:=by simpa using hn
    have hst:stp F k l=[(k,l,X.subs.length,some c)]:=by
     rw [hF,q4h,q4h,hXs,q3t hL]
     simp [stp]
    rw [u2 X.subs.length c (by omega) hst]
    simp only
    rw [q6i (by omega) (by omega),if_neg (Nat.lt_irrefl _)]
    simp only [q0e]
    rw [if_neg h64]
    congr 2
    rw [j4i]
    simp
theorem j5h {N F:List Ac} {us:List Bool} {syms k st C n:Nat} (hN:∀ x∈N,cst x<=C) (hus:us.length=st):∀ (m l:Nat) {X Y:Ds},Dst N us syms k l X->Dok st C k X->k<X.subs.length->1<=l->l+m<=syms+1 ->
  (∃ L,F=Y.arcs++L/\∀ x∈L,k<x.1)->Y.subs.length<=n->q0j N us k m l X=some Y->q0j F (List.replicate n true) k m l ⟨q0l n X.subs.length,X.arcs⟩=some ⟨q0l n Y.subs.length,Y.arcs⟩
 | 0,l,X,Y,h,ho,hk,h1,h2,hF,hn,hs=>by cases hs; rfl
 | m+1,l,X,Y,h,ho,hk,h1,h2,hF,hn,hs=>by
  unfold q0j at hs
  split at hs
  ·cases hs
  ·rename_i Z hZ
   obtain ⟨d1,⟨B,hB⟩,d2⟩:=h.one hk h1 (by omega) (fun v hv=>by rw [ho.len v hv,hus]; exact Nat.le_refl _) hZ
   obtain ⟨o1,o2⟩:=ho.one hk hN hZ
   obtain ⟨-, -, ⟨B',hB'⟩,A,e3,e4⟩:=Dst.row hN hus m (l+1) d1 o1 (Nat.lt_of_lt_of_le hk o2) (by omega) (by omega) hs
   have hZn:Z.subs.length<=n:=by
    have:=congrArg List.length hB'
    rw [List.length_append] at this
    omega
   obtain ⟨L,hL1,hL2⟩:=hF
   have h3:=z2c (F:=F) (n:=n) hk h.bef ⟨A++L,by rw [hL1,e3,List.append_assoc],fun x hx ⟨k1,k2⟩=>by
    rcases List.mem_append.1 hx with hx | hx
    ·have:=(e4 x hx).2; omega
    ·have:=hL2 x hx; omega⟩ hZn hZ
   unfold q0j
   rw [h3]
   exact j5h hN hus m (l+1) d1 o1 (Nat.lt_of_lt_of_le hk o2) (by omega) (by omega) ⟨L,hL1,hL2⟩ hn hs
theorem j5g {N F:List Ac} {us:List Bool} {syms st C n:Nat} (hN:∀ x∈N,cst x<=C) (hus:us.length=st):∀ (f k:Nat) {X Z:Ds},Dst N us syms k 1 X->Dok st C k X->F=Z.arcs->n=Z.subs.length ->
  q0q N us syms f k X=some Z->q0q F (List.replicate n true) syms f k ⟨q0l n X.subs.length,X.arcs⟩=some ⟨q0l n n,F⟩
 | 0,k,X,Z,h,ho,hF,hn,hs=>by cases hs
 | f+1,k,X,Z,h,ho,hF,hn,hs=>by
  have hs0:=hs
  unfold q0q at hs ⊢
  simp only [q0e]
  split at hs
  ·rename_i hk
   cases hs
   rw [if_pos hk,hF,hn]
  ·rename_i hk
   rw [if_neg hk]
   split at hs
   ·cases hs
   ·rename_i Y hY
    obtain ⟨d1,d2,⟨B,hB⟩,A,e1,e2⟩:=Dst.row hN hus syms 1 h ho (by omega) (Nat.le_refl _) (by omega) hY
    obtain ⟨-, ⟨B',hB'⟩,A',g4,g5⟩:=Dst.run hN hus f (k+1) d1.up d2.next hs
    have hYn:Y.subs.length<=n:=by rw [hn,hB']; simp
    rw [j5h hN hus syms 1 h ho (by omega) (Nat.le_refl _) (by omega) ⟨A',by rw [hF,g4],fun x hx=>g5 x hx⟩ hYn hY]
    exact j5g hN hus f (k+1) d1.up d2.next hF hn hs
theorem zM {us:List Bool} {ini:List Tw} {q r:Nat}:Has (jX us ini) q r↔us[q]? = some true/\ini[q]? = some (some r):=by
 unfold Has jX
 rw [List.getElem?_zipWith]
 cases us[q]? with
 | none=>simp
 | some u =>
  cases ini[q]? with
  | none=>simp
  | some w=>cases u<;>simp
theorem q7s {us:List Bool} {q:Nat}:us.getD q false=true↔us[q]? = some true:=by
 rw [List.getD_eq_getElem?_getD]
 cases us[q]? with
 | none=>simp
 | some b=>cases b<;>simp
theorem q4z {us:List Bool} {A:Au} {c:Nat} {f:Vx} {N:List Ac} {syms C:Nat} (hu:us.length=A.st) (hi:A.ini.length=A.st) (hc:∀ w∈A.ini,∀ r,w=some r->r<=C) (h:q3h (jX us A.ini)=some (c,f)) :
  Dst N us syms 0 1 ⟨[f],[]⟩/\Dok A.st C 0 ⟨[f],[]⟩:=by
 obtain ⟨h1,rfl⟩:=vM h
 have hlen:(jX us A.ini).length=A.st:=by simp [jX,hu,hi]
 refine ⟨⟨fun x hx=>(by cases hx),trivial,fun x hx=>(by cases hx),fun i j v c nx hij h1 h2 hv hn=>by omega,fun i h0 hi'=>by simp at hi'; omega,fun v hv=>?_⟩,⟨fun v hv=>?_,by simp,fun i v hv=>?_,fun x hx=>by cases hx⟩⟩
 ·obtain rfl:v=_:=by simpa using hv
  constructor
  ·intro q r hr
   obtain ⟨u,hu',_⟩:=vV.1 hr
   exact q7s.2 (zM.1 hu').1
  ·obtain ⟨q,hq⟩:=List.getElem?_of_mem (zZ h1)
   exact ⟨q,vV.2 ⟨c,hq,by omega⟩⟩
 ·obtain rfl:v=_:=by simpa using hv
  rw [vZ,hlen]
 ·cases i with
  | zero =>
   simp at hv
   subst hv
   intro r hr
   obtain ⟨q,hq⟩:=List.getElem?_of_mem hr
   obtain ⟨u,hu',rfl⟩:=vV.1 hq
   have:=hc _ (List.mem_of_getElem? (zM.1 hu').2) u rfl
   omega
  | succ i=>simp at hv
theorem j7b {fin:List Tw} {v:Vx} {q r c:Nat} (h:Has v q r) (hf:fin[q]? = some (some c)):∃ m,q0i fin v=some m/\m<=r+c:=by
 have:Has (List.zipWith vJ v fin) q (r+c):=by
  unfold Has at *
  rw [List.getElem?_zipWith,h,hf]; rfl
 have:=kW (List.mem_of_getElem? this)
 unfold q0i
 cases hl:qG (List.zipWith vJ v fin) with
 | none=>rw [hl] at this; exact absurd this (by simp [q5h])
 | some m=>rw [hl] at this; exact ⟨m,rfl,this⟩
theorem z3k {fin:List Tw} {n i:Nat} (hi:i<n) (hf:fin.length=n):q0i fin (uv n i)=fin[i]'(by omega):=by
 have hz:∀ j r,Has (List.zipWith vJ (uv n i) fin) j r↔(j=i/\fin[i]'(by omega)=some r):=fun j r=>by
  unfold Has
  rw [List.getElem?_zipWith]
  by_cases hj:j=i
  ·subst hj
   have h1:(uv n j)[j]? = some (some 0):=q2d.2 ⟨hi,rfl,rfl⟩
   rw [h1,List.getElem?_eq_getElem (by omega:j<fin.length)]
   cases fin[j]'(by omega) with
   | none=>simp [vJ]
   | some c=>simp [vJ]
  ·constructor
   ·intro h
    split at h
    ·rename_i a b ha hb
     cases a with
     | none=>simp [vJ] at h
     | some u=>exact absurd (q2d.1 ha).2.1 hj
    ·cases h
   ·rintro ⟨h,_⟩; exact absurd h hj
 unfold q0i
 cases hc:fin[i]'(by omega) with
 | none =>
  refine kQ fun j r hr=>?_
  have:=(hz j r).1 hr
  rw [hc] at this
  cases this.2
 | some c =>
  refine q1r ((hz i c).2 ⟨rfl,hc⟩) fun j r hr=>?_
  have:=(hz j r).1 hr
  rw [hc] at this
  cases this.2
  exact Nat.le_refl _
theorem q8z {syms C:Nat} {us:List Bool} {A B:Au} (hA:Aok A syms) (hu:q6j us A) (hC:∀ x∈A.arcs,cst x<=C) (hi:∀ w∈A.ini,∀ r,w=some r->r<=C) (hf:∀ w∈A.fin,∀ r,w=some r->r<=C) (h:q1v syms us A=some B) :
  Aok B syms/\Ss B.arcs/\B.st<=64/\q6j (List.replicate B.st true) B/\q1v syms (List.replicate B.st true) B=some B/\(∀ x∈B.arcs,cst x<=C*66)/\(∀ w∈B.ini,∀ r,w=some r->r<=C)/\(∀ w∈B.fin,∀ r,w=some r->r<=C*66):=by
 unfold q1v at h
 split at h
 ·cases h
  refine ⟨⟨rfl,rfl,fun x hx=>by cases hx⟩,trivial,by simp,⟨rfl,fun q hq=>absurd hq (Nat.not_lt_zero _)⟩,rfl,fun x hx=>(by cases hx),fun w hw=>(by cases hw),fun w hw=>by cases hw⟩
 ·rename_i c f hset
  split at h
  ·cases h
  ·rename_i X hX
   cases h
   obtain ⟨s1,s2⟩:=q4z (N:=A.arcs) (syms:=syms) hu.1 hA.ini hi hset
   obtain ⟨⟨k',g1,g2,g3⟩,⟨Bs,hBs⟩,-⟩:=Dst.run hC hu.1 66 0 s1 s2 hX
   obtain ⟨n,hn⟩:∃ n,X.subs.length=n:=⟨_,rfl⟩
   have hn1:1<=n:=by rw [<-hn,hBs]; simp
   have hcC:c<=C:=by
    obtain ⟨q,hq⟩:=List.getElem?_of_mem (zZ (vM hset).1)
    exact hi _ (List.mem_of_getElem? (zM.1 hq).2) c rfl
   have hfin:∀ w∈X.subs.map (q0i A.fin),∀ r,w=some r->r<=C*66:=by
    intro w hw r hr
    obtain ⟨v,hv,e⟩:=List.mem_map.1 hw
    rw [hr] at e
    obtain ⟨j,hj⟩:=List.getElem?_of_mem (zZ e)
    rw [List.getElem?_zipWith] at hj
    obtain ⟨i,hiv⟩:=List.getElem?_of_mem hv
    have hb:=g2.bd i v hiv
    have hi64:i<64:=Nat.lt_of_lt_of_le (List.getElem?_eq_some_iff.1 hiv).1 g2.num
    split at hj
    ·rename_i a b ha hb'
     cases a with
     | none=>simp [vJ] at hj
     | some u =>
      cases b with
      | none=>simp [vJ] at hj
      | some d =>
       have h1:=hb u (List.mem_of_getElem? ha)
       have h2:=hf _ (List.mem_of_getElem? hb') d rfl
       have h3:u+d=r:=by simpa [vJ] using hj
       have h4:C*(i+1)+C=C*(i+2):=by rw [Nat.mul_add,Nat.mul_add]; omega
       have h5:C*(i+2)<=C*66:=Nat.mul_le_mul_left _ (by omega)
       omega
    ·cases hj
   have hlenS:∀ i,i<n->∃ v,X.subs[i]? = some v:=fun i h=>⟨_,List.getElem?_eq_getElem (by omega)⟩
   have harc:∀ x∈X.arcs,x.1<n/\x.2.2.1<n/\1<=x.2.1/\x.2.1<=syms/\nz x=true:=fun x hx=>by
    obtain ⟨v,w,d,e1,e2,e3,e4,e5,_⟩:=g1.sound x hx
    exact ⟨by rw [<-hn]; exact (List.getElem?_eq_some_iff.1 e1).1,by rw [<-hn]; exact (List.getElem?_eq_some_iff.1 e2).1,e4,e5,by unfold nz; rw [e3]; rfl⟩
   have hFrom:∀ i,i<n->kY X.arcs (some c::List.replicate (n-1) none) i:=by
    intro i
    induction i using Nat.strongRecOn with
    | _ i ih =>
     intro hin
     cases i with
     | zero=>exact .here (c:=c) rfl
     | succ i =>
      obtain ⟨x,hx,e1,e2⟩:=g1.from_ (i+1) (by omega) (by omega)
      have:=kY.step hx (ih x.1 e2 (by omega))
      rw [e1] at this
      exact this
   have hEnd:∀ q,q0y A.arcs A.fin q->kY A.arcs A.ini q->∀ i v r,X.subs[i]? = some v->Has v q r->q0y X.arcs (X.subs.map (q0i A.fin)) i:=by
    intro q hq
    induction hq with
    | here hc' =>
     intro _ i v r hv hr
     obtain ⟨m,hm,_⟩:=j7b hr hc'
     exact .here (c:=m) (by rw [List.getElem?_map,hv]; simp [hm])
    | step hx hto ih =>
     rename_i x
     intro hfr i v r hv hr
     have hfr':=kY.step hx hfr
     obtain ⟨a1,a2,a3,a4,a5⟩:=hA.arc x hx
     have hus':us.getD x.2.2.1 false=true:=(hu.2 _ a2).2 ⟨hfr',hto⟩
     have hvl:v.length=A.st:=g2.len v (List.mem_of_getElem? hv)
     have hb:=vK (N:=A.arcs) (us:=us) (R:=v) (l:=x.2.1) (by rw [hvl,hu.1]; exact Nat.le_refl _)
     obtain ⟨m,hm,_⟩:=hb.2 x.2.2.1 _ ⟨x,hx,rfl,rfl,hus',r,hr,rfl⟩
     cases hs:q3h (vQ A.arcs us v x.2.1) with
     | none =>
      have:=kW (List.mem_of_getElem? hm)
      rw [q4j hs] at this
      exact absurd this (by simp [q5h])
     | some p =>
      obtain ⟨d,nx⟩:=p
      have hil:i<X.subs.length:=(List.getElem?_eq_some_iff.1 hv).1
      obtain ⟨num,e1,e2⟩:=g1.full i x.2.1 v d nx (.inl (by omega)) a3 a4 hv hs
      have hnx:Has nx x.2.2.1 (m-d):=by rw [(vM hs).2]; exact vV.2 ⟨m,hm,rfl⟩
      have:=q0y.step e1 (ih hfr' num nx _ e2 hnx)
      exact this
   have hUse:q6j (List.replicate n true) ⟨n,some c::List.replicate (n-1) none,X.subs.map (q0i A.fin),X.arcs⟩:=by
    refine ⟨by simp,fun q hq=>?_⟩
    simp only at hq
    constructor
    ·intro _
     refine ⟨hFrom q hq,?_⟩
     obtain ⟨v,hv⟩:=hlenS q hq
     obtain ⟨s1,p,hp⟩:=g1.sub v (List.mem_of_getElem? hv)
     have hpu:=s1 p 0 hp
     have hpl:p<A.st:=by rw [<-hu.1]; exact j8g hpu
     obtain ⟨t1,t2⟩:=(hu.2 p hpl).1 hpu
     exact hEnd p t2 t1 q v 0 hv hp
    ·intro _; simp [List.getD_eq_getElem?_getD,hq]
   simp only [hn]
   refine ⟨⟨by simp only [List.length_cons,List.length_replicate]; omega,by simp only [List.length_map]; exact hn,fun x hx=>harc x hx⟩,g1.ss,by have:=g2.num; omega,hUse,?_,fun x hx=>?_,fun w hw r hr=>?_,hfin⟩
   ·unfold q1v
    have hfirst:q3h (jX (List.replicate n true) (some c::List.replicate (n-1) none))=some (c,uv n 0):=by
     have hh:∀ j r,Has (jX (List.replicate n true) (some c::List.replicate (n-1) none)) j r↔(j=0/\r=c):=fun j r=>by
      rw [zM]
      cases j with
      | zero =>
       have h0:(List.replicate n true)[0]? = some true:=by rw [List.getElem?_replicate,if_pos (by omega)]
       rw [h0]
       simp only [List.getElem?_cons_zero,true_and,Option.some.injEq]
       exact eq_comm
      | succ j=>simp [List.getElem?_replicate]
     have hl:qG (jX (List.replicate n true) (some c::List.replicate (n-1) none))=some c:=q1r ((hh 0 c).2 ⟨rfl,rfl⟩) fun j r hr=>by rw [((hh j r).1 hr).2]; exact Nat.le_refl _
     unfold q3h
     rw [hl]
     have hx:vR (jX (List.replicate n true) (some c::List.replicate (n-1) none)) c=uv n 0:=by
      refine q5k (by rw [vZ,j1g]; unfold jX; rw [List.length_zipWith,List.length_replicate,List.length_cons,List.length_replicate]; omega) fun j r=>?_
      rw [vV,q2d]
      constructor
      ·rintro ⟨u,hu',rfl⟩
       obtain ⟨rfl,rfl⟩:=(hh j u).1 hu'
       exact ⟨by omega,rfl,by omega⟩
      ·rintro ⟨_,rfl,rfl⟩
       exact ⟨c,(hh 0 c).2 ⟨rfl,rfl⟩,by omega⟩
     show some (c,vR (jX (List.replicate n true) (some c::List.replicate (n-1) none)) c)=_
     rw [hx]
    simp only
    rw [hfirst]
    have hsim:=j5g (F:=X.arcs) (n:=n) hC hu.1 66 0 s1 s2 rfl hn.symm hX
    have hb1:q0l n 1=[uv n 0]:=rfl
    simp only [List.length_cons,List.length_nil] at hsim
    rw [hb1] at hsim
    simp only
    rw [hsim]
    simp only [q0e]
    congr 2
    refine List.ext_getElem (by simp [q0e,hn]) fun i h1 h2=>?_
    have hi':i<n:=by simpa [q0e] using h1
    rw [List.getElem_map]
    have:(q0l n n)[i]'(by rw [q0e]; exact hi')=uv n i:=by simp [q0l]
    rw [this,z3k hi' (by simp [hn])]
   ·obtain ⟨-, -, -, d,e1,e2⟩:=g2.arc x hx
    unfold cst
    rw [e1]
    exact e2
   ·rcases List.mem_cons.1 hw with rfl | hw
    ·cases hr; exact hcC
    ·rw [List.mem_replicate] at hw
     rw [hw.2] at hr
     cases hr
end
section
def q0p (A:Au) (v:Vx) (l:Nat):Vx:=vQ A.arcs (List.replicate A.st true) v l
def z6o (A:Au) (word:List Nat):Vx:=word.foldl (q0p A) A.ini
def j8e (A:Au) (word:List Nat):Tw:=q0i A.fin (z6o A word)
theorem q2i (A:Au) (v:Vx) (l:Nat):(q0p A v l).length=v.length:=kB _ _ _ _
theorem q6r {n j:Nat} (h:j<n):(List.replicate n true).getD j false=true:=by
 rw [List.getD_eq_getElem?_getD,List.getElem?_replicate,if_pos h]; rfl
def Uq (L:List Ac):Prop:=∀ x∈L,∀ y∈L,x.1=y.1->x.2.1=y.2.1->x=y
theorem z4j {N:List Ac} {us:List Bool} {syms k l:Nat} {X Y:Ds} (h:Dst N us syms k l X) (hu:Uq X.arcs) (hk:k<X.subs.length) (hl1:1<=l) (hls:l<=syms) (hlen:∀ v∈X.subs,us.length<=v.length) (hs:q0m N us k l X=some Y):Uq Y.arcs:=by
 obtain ⟨_,_,h3⟩:=h.one hk hl1 hls hlen hs
 rcases h3 with h3 | ⟨num,c,h3,_⟩
 ·rw [h3]; exact hu
 ·rw [h3]
  have hno:∀ x∈X.arcs,¬ (x.1=k/\x.2.1=l):=fun x hx e=>by
   rcases h.bef x hx with h1 | ⟨h1,h2⟩<;>omega
  intro x hx y hy e1 e2
  rcases List.mem_append.1 hx with hx | hx<;>rcases List.mem_append.1 hy with hy | hy
  ·exact hu x hx y hy e1 e2
  ·obtain rfl:y=(k,l,num,some c):=by simpa using hy
   exact absurd ⟨e1,e2⟩ (hno x hx)
  ·obtain rfl:x=(k,l,num,some c):=by simpa using hx
   exact absurd ⟨e1.symm,e2.symm⟩ (hno y hy)
  ·obtain rfl:x=(k,l,num,some c):=by simpa using hx
   exact (List.mem_singleton.1 hy).symm
theorem z0y {N:List Ac} {us:List Bool} {syms k st C:Nat} (hN:∀ x∈N,cst x<=C) (hus:us.length=st):∀ (n l:Nat) {X Y:Ds},Dst N us syms k l X->Dok st C k X->Uq X.arcs->k<X.subs.length->1<=l->l+n<=syms+1->q0j N us k n l X=some Y ->
  Uq Y.arcs/\Dst N us syms k (l+n) Y/\Dok st C k Y/\X.subs.length<=Y.subs.length
 | 0,l,X,Y,h,hd,hu,hk,hl,hn,hs=>by injection hs with hs; subst hs; exact ⟨hu,h,hd,Nat.le_refl _⟩
 | n+1,l,X,Y,h,hd,hu,hk,hl,hn,hs=>by
  unfold q0j at hs
  split at hs
  ·cases hs
  ·rename_i Z hZ
   have hlen:∀ v∈X.subs,us.length<=v.length:=fun v hv=>by rw [hd.len v hv,hus]; exact Nat.le_refl _
   obtain ⟨h1,_,_⟩:=h.one hk hl (by omega) hlen hZ
   obtain ⟨d1,d2⟩:=hd.one hk hN hZ
   have u1:=z4j h hu hk hl (by omega) hlen hZ
   obtain ⟨u2,h2,d3,d4⟩:=z0y hN hus n (l+1) h1 d1 u1 (by omega) (by omega) (by omega) hs
   exact ⟨u2,by rw [show l+(n+1)=l+1+n by omega]; exact h2,d3,by omega⟩
theorem z0x {N:List Ac} {us:List Bool} {syms st C:Nat} (hN:∀ x∈N,cst x<=C) (hus:us.length=st):∀ (f k:Nat) {X Z:Ds},Dst N us syms k 1 X->Dok st C k X->Uq X.arcs->q0q N us syms f k X=some Z->Uq Z.arcs
 | 0,_,_,_,_,_,_,hs=>by cases hs
 | f+1,k,X,Z,h,hd,hu,hs=>by
  unfold q0q at hs
  split at hs
  ·injection hs with hs; subst hs; exact hu
  ·rename_i hk
   split at hs
   ·cases hs
   ·rename_i Y hY
    obtain ⟨u1,h1,d1,_⟩:=z0y hN hus syms 1 h hd hu (by omega) (Nat.le_refl _) (by omega) hY
    exact z0x hN hus f (k+1) h1.up d1.next u1 hs
def Rel (us:List Bool) (subs:List Vx) (v u:Vx):Prop :=
 (∃ k c S,subs[k]? = some S/\(∀ j m,Has u j m↔j=k/\m=c)/\∀ q,us.getD q false=true->∀ m,Has v q m↔∃ r,Has S q r/\m=c+r) \/
 ((∀ j m,¬ Has u j m)/\∀ q m,us.getD q false=true->¬ Has v q m)
theorem j7v {S T:Vx} {C D:Nat->Nat->Prop} {q c:Nat} (h:Bst S C) (k:Bst T D) (he:∀ m,C q m↔∃ r,D q r/\m=c+r) (m:Nat):Has S q m↔∃ r,Has T q r/\m=c+r:=by
 constructor
 ·intro hm
  obtain ⟨r,hr,rfl⟩:=(he m).1 (h.1 q m hm)
  obtain ⟨r',hr',hle⟩:=k.2 q r hr
  obtain ⟨m',hm',hle'⟩:=h.2 q (c+r') ((he _).2 ⟨r',k.1 q r' hr',rfl⟩)
  have:=hm'.unique hm
  exact ⟨r',hr',by omega⟩
 ·rintro ⟨r,hr,rfl⟩
  obtain ⟨m',hm',hle⟩:=h.2 q (c+r) ((he _).2 ⟨r,k.1 q r hr,rfl⟩)
  obtain ⟨r',hr',e⟩:=(he m').1 (h.1 q m' hm')
  obtain ⟨r2,hr2,hle2⟩:=k.2 q r' hr'
  have:=hr2.unique hr
  have e2:m'=c+r:=by omega
  rw [e2] at hm'; exact hm'
theorem q1e {S:Vx} {q r:Nat} (h:Has S q r):∃ m,qG S=some m/\m<=r:=by
 have:=kW (List.mem_of_getElem? h)
 cases e:qG S with
 | none=>rw [e] at this; simp [q5h] at this
 | some m=>rw [e] at this; exact ⟨m,rfl,by simpa [q5h] using this⟩
theorem q7a {S:Vx} (h:qG S=none) (q r:Nat):¬ Has S q r:=fun hr=>by
 obtain ⟨m,e,_⟩:=q1e hr
 rw [h] at e; cases e
theorem kR {v:Vx} {fin:List Tw} {q m:Nat}:Has (List.zipWith vJ v fin) q m↔∃ r c,Has v q r/\fin[q]? = some (some c)/\m=r+c:=by
 unfold Has
 rw [List.getElem?_zipWith]
 constructor
 ·intro h
  split at h
  ·rename_i a b ha hb
   cases a with
   | none=>simp [vJ] at h
   | some r =>
    cases b with
    | none=>simp [vJ] at h
    | some c=>exact ⟨r,c,ha,hb,by simpa [vJ] using h.symm⟩
  ·cases h
 ·rintro ⟨r,c,h1,h2,rfl⟩
  rw [h1,h2]; rfl
theorem j8w {A B:Au} {syms:Nat} {us:List Bool} {X:Ds} {k':Nat} (hA:Aok A syms) (hu:q6j us A) (hd:∀ v∈X.subs,v.length=A.st) (hk':X.subs.length<=k') (hX:Dst A.arcs us syms k' 1 X) (hq:Uq X.arcs) (hB:B.st=X.subs.length) (hBa:B.arcs=X.arcs)
  {v u:Vx} {l:Nat} (hl1:1<=l) (hls:l<=syms) (hvl:v.length=A.st) (hul:u.length=B.st) (hf:∀ q m,Has v q m->kY A.arcs A.ini q) (h:Rel us X.subs v u) :
  Rel us X.subs (q0p A v l) (q0p B u l)/\∀ q m,Has (q0p A v l) q m->kY A.arcs A.ini q:=by
 have hbv:Bst (q0p A v l) (j8b A.arcs (List.replicate A.st true) v l):=vK (by rw [List.length_replicate,hvl]; exact Nat.le_refl _)
 have hbu:Bst (q0p B u l) (j8b B.arcs (List.replicate B.st true) u l):=vK (by rw [List.length_replicate,hul]; exact Nat.le_refl _)
 have hfrom:∀ q m,Has (q0p A v l) q m->kY A.arcs A.ini q:=fun q m hm=>by
  obtain ⟨x,hx,_,h2,_,r,hr,_⟩:=hbv.1 q m hm
  rw [<-h2]
  exact .step hx (hf _ _ hr)
 refine ⟨?_,hfrom⟩
 have hus:∀ x∈A.arcs,us.getD x.2.2.1 false=true->∀ r,Has v x.1 r->us.getD x.1 false=true:=fun x hx hxu r hr=>by
  obtain ⟨a1,a2,_⟩:=hA.arc x hx
  exact (hu.2 _ a1).2 ⟨hf _ _ hr,.step hx ((hu.2 _ a2).1 hxu).2⟩
 rcases h with ⟨k,c,S,hS,hU,hV⟩ | ⟨hU,hV⟩
 ·have hSl:S.length=A.st:=hd S (List.mem_of_getElem? hS)
  have hkl:k<X.subs.length:=(List.getElem?_eq_some_iff.1 hS).1
  have hbS:Bst (vQ A.arcs us S l) (j8b A.arcs us S l):=vK (by rw [hu.1,hSl]; exact Nat.le_refl _)
  have hsh:∀ q,us.getD q false=true->∀ m,Has (q0p A v l) q m↔∃ r,Has (vQ A.arcs us S l) q r/\m=c+r:=fun q hqu=>by
   refine j7v hbv hbS fun m=>?_
   have hqlt:q<A.st:=by rw [<-hu.1]; exact j8g hqu
   constructor
   ·rintro ⟨x,hx,e1,e2,_,r,hr,rfl⟩
    have hxu:=hus x hx (by rw [e2]; exact hqu) r hr
    obtain ⟨r0,hr0,rfl⟩:=(hV _ hxu r).1 hr
    exact ⟨r0+cst x,⟨x,hx,e1,e2,hqu,r0,hr0,rfl⟩,by omega⟩
   ·rintro ⟨m0,⟨x,hx,e1,e2,_,r0,hr0,rfl⟩,rfl⟩
    have hSu:=(hX.sub S (List.mem_of_getElem? hS)).1 _ _ hr0
    exact ⟨x,hx,e1,e2,q6r hqlt,c+r0,(hV _ hSu _).2 ⟨r0,hr0,rfl⟩,by omega⟩
  cases hset:q3h (vQ A.arcs us S l) with
  | none =>
   refine .inr ⟨fun j m hm=>?_,fun q m hqu hm=>?_⟩
   ·obtain ⟨x,hx,e1,e2,_,r,hr,_⟩:=hbu.1 j m hm
    obtain ⟨e3,_⟩:=(hU _ _).1 hr
    rw [hBa] at hx
    obtain ⟨v',w',c',f1,f2,f3,f4,f5,f6⟩:=hX.sound x hx
    rw [e3,hS] at f1
    cases f1
    rw [e1,hset] at f6
    cases f6
   ·obtain ⟨r,hr,_⟩:=(hsh q hqu m).1 hm
    exact q7a (q4j hset) _ _ hr
  | some p =>
   obtain ⟨d,nx⟩:=p
   obtain ⟨hl,hnx⟩:=vM hset
   obtain ⟨num,hmem,hnum⟩:=hX.full k l S d nx (.inl (by omega)) hl1 hls hS hset
   have hge:∀ q r,Has (vQ A.arcs us S l) q r->d<=r:=fun q r hr=>by
    obtain ⟨m,e,hle⟩:=q1e hr
    rw [hl] at e; cases e; exact hle
   refine .inl ⟨num,c+d,nx,hnum,fun j m=>?_,fun q hqu m=>?_⟩
   ·have hnl:num<B.st:=by rw [hB]; exact (List.getElem?_eq_some_iff.1 hnum).1
    have hc1:∀ j m,j8b B.arcs (List.replicate B.st true) u l j m->j=num/\m=c+d:=by
     rintro j m ⟨x,hx,e1,e2,_,r,hr,rfl⟩
     obtain ⟨e3,rfl⟩:=(hU _ _).1 hr
     rw [hBa] at hx
     have:=hq x hx _ hmem e3 e1
     subst this
     exact ⟨e2.symm,rfl⟩
    constructor
    ·intro hm; exact hc1 j m (hbu.1 j m hm)
    ·rintro ⟨rfl,rfl⟩
     obtain ⟨m',hm',hle⟩:=hbu.2 j (c+d) ⟨_,by rw [hBa]; exact hmem,rfl,rfl,q6r hnl,c,(hU _ _).2 ⟨rfl,rfl⟩,rfl⟩
     obtain ⟨_,rfl⟩:=hc1 j m' (hbu.1 j m' hm')
     exact hm'
   ·rw [hsh q hqu]
    constructor
    ·rintro ⟨r,hr,rfl⟩
     have:=hge q r hr
     exact ⟨r-d,by rw [hnx]; exact vV.2 ⟨r,hr,rfl⟩,by omega⟩
    ·rintro ⟨r,hr,rfl⟩
     rw [hnx] at hr
     obtain ⟨r',hr',rfl⟩:=vV.1 hr
     have:=hge q r' hr'
     exact ⟨r',hr',by omega⟩
 ·refine .inr ⟨fun j m hm=>?_,fun q m hqu hm=>?_⟩
  ·obtain ⟨x,_,_,_,_,r,hr,_⟩:=hbu.1 j m hm
   exact hU _ _ hr
  ·obtain ⟨x,hx,_,e2,_,r,hr,_⟩:=hbv.1 q m hm
   exact hV _ _ (hus x hx (by rw [e2]; exact hqu) r hr) hr
theorem q6s {A B:Au} {syms:Nat} {us:List Bool} {X:Ds} {k':Nat} (hA:Aok A syms) (hu:q6j us A) (hd:∀ v∈X.subs,v.length=A.st) (hk':X.subs.length<=k') (hX:Dst A.arcs us syms k' 1 X) (hq:Uq X.arcs) (hB:B.st=X.subs.length) (hBa:B.arcs=X.arcs) :
  ∀ (word:List Nat) {v u:Vx},(∀ l∈word,1<=l/\l<=syms)->v.length=A.st->u.length=B.st->(∀ q m,Has v q m->kY A.arcs A.ini q)->Rel us X.subs v u ->
  Rel us X.subs (word.foldl (q0p A) v) (word.foldl (q0p B) u)/\∀ q m,Has (word.foldl (q0p A) v) q m->kY A.arcs A.ini q
 | [],v,u,_,_,_,hf,h=>⟨h,hf⟩
 | l::ls,v,u,hw,hvl,hul,hf,h=>by
  obtain ⟨h1,h2⟩:=hw l List.mem_cons_self
  obtain ⟨k1,k2⟩:=j8w hA hu hd hk' hX hq hB hBa h1 h2 hvl hul hf h
  exact q6s hA hu hd hk' hX hq hB hBa ls (fun x hx=>hw x (List.mem_cons_of_mem _ hx)) (by rw [q2i]; exact hvl) (by rw [q2i]; exact hul) k2 k1
theorem j5m {A B:Au} {syms:Nat} {us:List Bool} {subs:List Vx} {v u:Vx} (hA:Aok A syms) (hu:q6j us A) (hs:∀ w∈subs,Sub us w) (hBf:B.fin=subs.map (q0i A.fin)) (hf:∀ q m,Has v q m->kY A.arcs A.ini q) (h:Rel us subs v u):q0i B.fin u=q0i A.fin v:=by
 have hus:∀ q m c,Has v q m->A.fin[q]? = some (some c)->us.getD q false=true:=fun q m c hm hc=>by
  have:q<A.st:=by rw [<-hA.fin]; exact (List.getElem?_eq_some_iff.1 hc).1
  exact (hu.2 q this).2 ⟨hf q m hm,.here hc⟩
 rcases h with ⟨k,c,S,hS,hU,hV⟩ | ⟨hU,hV⟩
 ·have hBk:B.fin[k]? = some (q0i A.fin S):=by rw [hBf,List.getElem?_map,hS]; rfl
  cases he:q0i A.fin S with
  | none =>
   rw [he] at hBk
   have e1:q0i B.fin u=none:=kQ fun j r hr=>by
    obtain ⟨r0,d,h1,h2,_⟩:=kR.1 hr
    obtain ⟨rfl,_⟩:=(hU _ _).1 h1
    rw [hBk] at h2; cases h2
   have e2:q0i A.fin v=none:=kQ fun j r hr=>by
    obtain ⟨r0,d,h1,h2,_⟩:=kR.1 hr
    obtain ⟨r1,h3,_⟩:=(hV j (hus j r0 d h1 h2) r0).1 h1
    exact q7a he j (r1+d) (kR.2 ⟨r1,d,h3,h2,rfl⟩)
   rw [e1,e2]
  | some e =>
   rw [he] at hBk
   have e1:q0i B.fin u=some (c+e):=q1r (kR.2 ⟨c,e,(hU _ _).2 ⟨rfl,rfl⟩,hBk,rfl⟩) fun j r hr=>by
    obtain ⟨r0,d,h1,h2,rfl⟩:=kR.1 hr
    obtain ⟨rfl,rfl⟩:=(hU _ _).1 h1
    rw [hBk] at h2
    have:e=d:=by simpa using h2
    omega
   have e2:q0i A.fin v=some (c+e):=by
    obtain ⟨q,hq⟩:=List.getElem?_of_mem (zZ he)
    obtain ⟨r0,d,h1,h2,rfl⟩:=kR.1 hq
    have hqu:=(hs S (List.mem_of_getElem? hS)).1 q r0 h1
    refine q1r (kR.2 ⟨c+r0,d,(hV q hqu _).2 ⟨r0,h1,rfl⟩,h2,by omega⟩) fun j r hr=>?_
    obtain ⟨r1,d',h3,h4,rfl⟩:=kR.1 hr
    obtain ⟨r2,h5,rfl⟩:=(hV j (hus j r1 d' h3 h4) r1).1 h3
    obtain ⟨m,hm,hle⟩:=q1e (kR.2 ⟨r2,d',h5,h4,rfl⟩)
    rw [show qG (List.zipWith vJ S A.fin)=some (r0+d) from he] at hm
    have:r0+d=m:=by simpa using hm
    omega
   rw [e1,e2]
 ·have e1:q0i B.fin u=none:=kQ fun j r hr=>by
   obtain ⟨r0,d,h1,_⟩:=kR.1 hr
   exact hU _ _ h1
  have e2:q0i A.fin v=none:=kQ fun j r hr=>by
   obtain ⟨r0,d,h1,h2,_⟩:=kR.1 hr
   exact hV j r0 (hus j r0 d h1 h2) h1
  rw [e1,e2]
theorem j7j {syms C:Nat} {us:List Bool} {A B:Au} (hA:Aok A syms) (hu:q6j us A) (hC:∀ x∈A.arcs,cst x<=C) (hi:∀ w∈A.ini,∀ r,w=some r->r<=C) (h:q1v syms us A=some B) :
  Uq B.arcs/\(∀ q c,B.ini[q]? = some (some c)->q=0)/\∀ word:List Nat,(∀ l∈word,1<=l/\l<=syms)->j8e B word=j8e A word:=by
 unfold q1v at h
 split at h
 ·rename_i hset
  cases h
  refine ⟨fun x hx=>(by cases hx),fun q c hq=>by simp at hq,fun word hw=>?_⟩
  have hX:Dst A.arcs us syms 0 1 ⟨[],[]⟩:=⟨fun x hx=>(by cases hx),trivial,fun x hx=>(by cases hx),fun i j v c nx _ _ _ hv=>by simp at hv,fun i h0 hi'=>by simp at hi',fun v hv=>by cases hv⟩
  have hr:Rel us ([]:List Vx) A.ini []:=.inr ⟨fun j m hm=>by simp [Has] at hm,fun q m hq hm=>q7a (q4j hset) q m (zM.2 ⟨q7s.1 hq,hm⟩)⟩
  obtain ⟨h1,h2⟩:=q6s (B:=⟨0,[],[],[]⟩) (X:=⟨[],[]⟩) hA hu (fun v hv=>by cases hv) (Nat.le_refl _) hX (fun x hx=>by cases hx) rfl rfl word hw hA.ini rfl (fun q m hm=>.here hm) hr
  exact j5m (subs:=[]) hA hu (fun w hw=>by cases hw) rfl h2 h1
 ·rename_i c f hset
  split at h
  ·cases h
  ·rename_i X hX
   cases h
   obtain ⟨s1,s2⟩:=q4z (N:=A.arcs) (syms:=syms) hu.1 hA.ini hi hset
   obtain ⟨⟨k',g1,g2,g3⟩,⟨Bs,hBs⟩,-⟩:=Dst.run hC hu.1 66 0 s1 s2 hX
   have hq:Uq X.arcs:=z0x hC hu.1 66 0 s1 s2 (fun x hx=>by cases hx) hX
   obtain ⟨hl,hlow⟩:=vM hset
   have h0:X.subs[0]? = some f:=by rw [hBs]; rfl
   have hini:∀ q d,(some c::List.replicate (X.subs.length-1) none:Vx)[q]? = some (some d)↔q=0/\d=c:=fun q d=>by
    cases q with
    | zero=>simp [eq_comm]
    | succ q=>simp [List.getElem?_replicate]
   refine ⟨hq,fun q d hd=>((hini q d).1 hd).1,fun word hw=>?_⟩
   have hr:Rel us X.subs A.ini (some c::List.replicate (X.subs.length-1) none):=by
    refine .inl ⟨0,c,f,h0,fun j m=>hini j m,fun q hqu m=>?_⟩
    have hfi:∀ m,Has (jX us A.ini) q m↔Has A.ini q m:=fun m=>by
     rw [zM]; exact ⟨fun h=>h.2,fun h=>⟨q7s.1 hqu,h⟩⟩
    rw [<-hfi m]
    constructor
    ·intro hm
     obtain ⟨m',e,hle⟩:=q1e hm
     rw [hl] at e; cases e
     exact ⟨m-c,by rw [hlow]; exact vV.2 ⟨m,hm,rfl⟩,by omega⟩
    ·rintro ⟨r,hr,rfl⟩
     rw [hlow] at hr
     obtain ⟨m,hm,rfl⟩:=vV.1 hr
     obtain ⟨m',e,hle⟩:=q1e hm
     rw [hl] at e; cases e
     rw [show c+(m-c)=m by omega]; exact hm
   have hn1:1<=X.subs.length:=by rw [hBs]; simp
   obtain ⟨h1,h2⟩:=q6s (B:=⟨X.subs.length,some c::List.replicate (X.subs.length-1) none,X.subs.map (q0i A.fin),X.arcs⟩) hA hu g2.len g3 g1 hq rfl rfl word hw hA.ini (by simp only [List.length_cons,List.length_replicate]; omega) (fun q m hm=>.here hm) hr
   exact j5m hA hu g1.sub rfl h2 h1
end
section
open Go.RowKit
theorem hid {p:Prop} (h:p):Hid p:=h
structure Sl (w:World) (ao:OA) (n cap:Nat) (xs:List Value):Prop where
 len:xs.length=n
 le:n<=cap
 most:cap<=maxLen
 at_:∀ i x,xs[i]? = some x->∃ b off,ao=some ⟨b,off,none⟩/\w.cell? ⟨b,off+i,none⟩=some x
theorem Sl.below {w w':World} {ao:OA} {n cap:Nat} {xs:List Value} (h:Sl w ao n cap xs) {B:Nat} (hb:Below B w w') (hB:w.heap.size<=B):Sl w' ao n cap xs :=
 ⟨h.len,h.le,h.most,fun i x hx=>by
  obtain ⟨b,off,e,hc⟩:=h.at_ i x hx
  refine ⟨b,off,e,?_⟩
  have hlt:=World.block_lt_of_cell? w _ hc
  rw [hb.cell (p:=⟨b,off+i,none⟩) (Nat.lt_of_lt_of_le hlt hB)]
  exact hc⟩
theorem Sl.next {w w':World} {ao:OA} {n cap:Nat} {xs:List Value} (h:Sl w ao n cap xs) (hb:Below w.heap.size w w'):Sl w' ao n cap xs:=h.below hb (Nat.le_refl _)
theorem Sl.nil (w:World):Sl w none 0 0 []:=⟨rfl,Nat.le_refl _,by simp [maxLen],fun i x h=>by simp at h⟩
theorem Sl.get {w:World} {ao:OA} {n cap:Nat} {α:Type} {f:α->Value} {xs:List α} (h:Sl w ao n cap (xs.map f)) {k:Nat} (hk:k<n) :
  ∃ x,xs[k]? = some x/\∃ b off,ao=some ⟨b,off,none⟩/\w.cell? ⟨b,off+k,none⟩=some (f x):=by
 have hl:=h.len
 simp only [List.length_map] at hl
 have hk':k<xs.length:=by omega
 refine ⟨xs[k],by simp [hk'],?_⟩
 exact h.at_ k (f xs[k]) (by simp [hk'])
theorem Sl.take {w:World} {ao:OA} {n cap:Nat} {xs:List Value} (h:Sl w ao n cap xs) {k:Nat} (hk:k<=n):Sl w ao k cap (xs.take k) :=
 ⟨by simp [h.len]; omega,by have:=h.le; omega,h.most,fun i x hx=>by
  rw [List.getElem?_take] at hx
  split at hx
  ·exact h.at_ i x hx
  ·cases hx⟩
theorem Sl.lenMap {w:World} {ao:OA} {n cap:Nat} {α:Type} {f:α->Value} {xs:List α} (h:Sl w ao n cap (xs.map f)):xs.length=n:=by
 have:=h.len; simpa using this
theorem Sl.bound {w:World} {ao:OA} {n cap:Nat} {xs:List Value} (h:Sl w ao n cap xs):n<=9223372036854775807:=by
 have h1:=h.le; have h2:=h.most; simp only [maxLen] at h2; omega
theorem kX {α:Type} {l:List α} {k:Nat} {x:α} (h:l[k]? = some x):l.drop k=x::l.drop (k+1):=by
 obtain ⟨hk,rfl⟩:=List.getElem?_eq_some_iff.1 h
 exact List.drop_eq_getElem_cons hk
theorem jR {α:Type} {l:List α} {k:Nat} {x:α} (h:l[k]? = some x):l.take (k+1)=l.take k++[x]:=by
 obtain ⟨hk,rfl⟩:=List.getElem?_eq_some_iff.1 h
 rw [List.take_succ_eq_append_getElem hk]
theorem j4j {a b:Bool} (h:a=b):Ending.returned (.bool a)=.returned (.bool b):=by rw [h]
theorem z5c {w:World} {base:Nat} {e:TypeId} {v:Value} {n:Nat} {xs:List Value} (h:w.ownsRow base e 1 v n xs):∃ ao cap,v=.slice ao n cap/\Sl w ao n cap xs:=by
 obtain ⟨h1,h2⟩:=h
 rcases h2 with ⟨rfl,rfl⟩ | ⟨g,cap,cur,rfl,hg,hh,hn,hm,hcs,ht⟩
 ·have:xs=[]:=List.eq_nil_of_length_eq_zero (by simpa using h1)
  subst this
  exact ⟨none,0,rfl,Sl.nil w⟩
 ·refine ⟨some ⟨g,0,none⟩,cap,rfl,by simpa using h1,hn,hm,fun i x hx=>⟨g,0,rfl,?_⟩⟩
  rw [cell_of_row w g (0+i) cur e (0,0) hh]
  rw [<-ht,List.getElem?_take] at hx
  split at hx
  ·simpa using hx
  ·cases hx
theorem q6v {w w':World} {base:Nat} {e:TypeId} {size:Nat} {v:Value} {n:Nat} {xs:List Value} (h:w.ownsRow base e size v n xs) {B:Nat} (hb:Below B w w') (hB:w.heap.size<=B):w'.ownsRow base e size v n xs:=by
 refine ⟨h.1,?_⟩
 rcases h.2 with hn | ⟨g,cap,cur,rfl,hg,hh,r⟩
 ·exact Or.inl hn
 ·refine Or.inr ⟨g,cap,cur,rfl,hg,?_,r⟩
  have hlt:=(Array.getElem?_eq_some_iff.1 hh).1
  rw [hb.block g (Nat.lt_of_lt_of_le hlt hB)]
  exact hh
theorem z3z {W w1:World} (hb:Below W.heap.size W w1):(∀ b o,b<W.heap.size->w1.cell? ⟨b,o,none⟩=W.cell? ⟨b,o,none⟩)/\(∀ b o,b<W.heap.size->w1.frozen? ⟨b,o,none⟩=W.frozen? ⟨b,o,none⟩) :=
 ⟨fun b o h=>hb.cell (p:=⟨b,o,none⟩) h,fun b o h=>hb.frozen (p:=⟨b,o,none⟩) h⟩
theorem j9e {P:Program} {f:FuncId} {args:Array Value} {w:World} {n:Nat} {v:Value}
  (h:Calls P f args (w.drewN n) fun e w'=>e=.returned v/\w.drewN n=w'):Calls P f args (w.drewN n) fun e w''=>e=.returned v/\∃ m,w''=w.drewN m :=
 h.mono fun _ _ ⟨he,hm⟩=>⟨he,n,hm.symm⟩
theorem Sl.drewN {w:World} {ao:OA} {n cap:Nat} {xs:List Value} (h:Sl w ao n cap xs) (k:Nat):Sl (w.drewN k) ao n cap xs :=
 ⟨h.len,h.le,h.most,fun i x hx=>by
  obtain ⟨b,off,e,hc⟩:=h.at_ i x hx
  exact ⟨b,off,e,by simpa using hc⟩⟩
theorem Sl.cells {w:World} {ad:Addr} {n cap:Nat} {xs:List Value} (h:Sl w (some ad) n cap xs):∀ j u,xs[j]? = some u->w.cell? (ad.add j)=some u:=by
 intro j u hu
 obtain ⟨b,off,e,hc⟩:=h.at_ j u hu
 obtain rfl:=Option.some.inj e
 rw [Addr.add_lit]
 exact hc
theorem Sl.none_zero {w:World} {n cap:Nat} {xs:List Value} (h:Sl w none n cap xs):n=0/\xs=[]:=by
 cases xs with
 | nil=>exact ⟨by have:=h.len; simpa using this.symm,rfl⟩
 | cons x T'=>obtain ⟨_,_,he,_⟩:=h.at_ 0 x rfl; cases he
theorem Sl.lit (w:World) (xs:List Value) (e:TypeId) (hm:xs.length<=maxLen):Sl (w.alloc (.cells xs.toArray e)) (some ⟨w.heap.size,0,none⟩) xs.length xs.length xs :=
 ⟨rfl,Nat.le_refl _,hm,fun i x hx=>⟨w.heap.size,0,rfl,by
  rw [World.cell?_alloc_at _ _ _ _ rfl]; simpa using hx⟩⟩
theorem qJ {w:World} (o:Obj):Below w.heap.size w (w.alloc o):=(Below.refl _ _).alloc (Nat.le_refl _) o
theorem q0t {w:World} {b1 b2:Nat} {e1 e2:TypeId} {s1 s2:Nat} {v1 v2:Value} {n1 n2:Nat} {x1 x2:List Value} (h1:w.ownsRow b1 e1 s1 v1 n1 x1) (h2:w.ownsRow b2 e2 s2 v2 n2 x2) (he:e1≠e2) :
  v1.ownBlock=none\/v1.ownBlock≠v2.ownBlock:=by
 rcases h1.2 with ⟨rfl,_⟩ | ⟨g1,c1,cur1,rfl,_,hh1,_⟩
 ·exact Or.inl rfl
 ·refine Or.inr fun hb=>?_
  rcases h2.2 with ⟨rfl,_⟩ | ⟨g2,c2,cur2,rfl,_,hh2,_⟩
  ·cases hb
  ·simp only [Value.ownBlock,Option.some.injEq] at hb
   subst hb
   rw [hh1] at hh2
   injection hh2 with hh2
   injection hh2 with _ hh2 _
   exact he hh2
end
section
open Go.RowKit
theorem j1e {P:Program} {w:World} {ops:Array Oper} {rest:List Oper} {o:Oper} {a:Act} {Q:EP} (hgd:o.guard=none) (s x:Operand) (t:TypeId)
  (ho:o.op=.call { callee:=.builtin .append,args:=#[s,x],argTypes:=#[t,t] }) (e:TypeId) (z:Value) (bytes:Nat) (ht:P.underlying t=some (.slice e))
  (hinfo:(P.info? e).map (fun i=>(i.zero,i.size,i.bytes))=some (some z,1,bytes)) (hzs:z.cells.size=1)
  (base:Nat) (v:Value) (n:Nat) (xs:List Value) (hs:a.eval s=v) (hown:w.ownsRow base e 1 v n xs)
  (ao:OA) (m c:Nat) (news:List Value) (hx:a.eval x=.slice ao m c) (hsl:Sl w ao m c news) (hcz:ao=none->c=0) (h1:∀ u∈news,u.oneCell'=true)
  (hroom:(n+m)*bytes<=140737488355328) (hml:n+m<=9223372036854775807) (hbase:base<=w.heap.size)
  (h:∀ v' w',w'.ownsRow base e 1 v' (n+m) (xs++news)->w.grownBy w' v.ownBlock->Below base w w'->wpList P ops Q rest (a.put o.dst v') w'):wpList P ops Q (o::rest) a w:=by
 obtain ⟨i,hi,hz,hsz,hby⟩:=info_parts hinfo
 cases ao with
 | none =>
  obtain ⟨rfl,rfl⟩:=hsl.none_zero
  obtain rfl:=hcz rfl
  refine wpList_append_own_none hgd s x t ho base e i 1 ht hi v n xs hs hown hx ?_
  exact h v w (by simpa using hown) (World.grownBy.refl _ _) (Below.refl _ _)
 | some ad =>
  refine wpList_append_own _ hgd s x t ho base e i z 1 bytes ht hi hz hsz hby hzs (by decide) v n xs hs hown ad m c news hx (by rw [hsl.len]; simp) hsl.cells h1 (by unfold maxLen; omega) hroom hbase ?_
  intro v' w' ho' hg _
  exact h v' w' ho' hg ((Below.refl _ _).grown hg hbase (fun k hk=>(hown.lt k hk).1))
theorem j4n {P:Program} {w:World} {ops:Array Oper} {rest:List Oper} {o:Oper} {a:Act} {Q:EP} (hgd:o.guard=none) (l c:Operand) (t:TypeId)
  (ho:o.op=Op.makeSlice t l c) (e:TypeId) (z:Value) (bytes:Nat) (ht:P.underlying t=some (.slice e))
  (hinfo:(P.info? e).map (fun i=>(i.zero,i.size,i.bytes))=some (some z,1,bytes)) (hzs:z.cells=#[z])
  (kl kc:IntKind) (L C:Int) (n:Nat) (hl:a.eval l=.int kl L) (hc:a.eval c=.int kc C) (hL:L=(n:Int)) (hC:C=(n:Int))
  (hroom:bytes*n<=281474976710656) (hml:n<=9223372036854775807)
  (h:∀ w',w'.ownsRow w.heap.size e 1 (.slice (some ⟨w.heap.size,0,none⟩) n n) n (List.replicate n z)->w.grownBy w' none->Below w.heap.size w w'->wpList P ops Q rest (a.put o.dst (.slice (some ⟨w.heap.size,0,none⟩) n n)) w'):wpList P ops Q (o::rest) a w:=by
 obtain ⟨i,hi,hz,hsz,hby⟩:=info_parts hinfo
 refine wpList_make_full w hgd l c t ho w.heap.size e i z 1 ht hi hz hsz kl kc L C n hl hc hL hC (by rw [hby]; exact hroom) (by unfold maxLen; omega) (Nat.le_refl _) ?_
 intro w' ho' hg
 rw [hzs,Nat.mul_one,toList_madeCells_one] at ho'
 exact h w' ho' hg ((Below.refl _ _).grown hg (Nat.le_refl _) (fun k hk=>by cases hk))
end
end Go.Proofs.YtnapapijhhldpaaGreatDoor

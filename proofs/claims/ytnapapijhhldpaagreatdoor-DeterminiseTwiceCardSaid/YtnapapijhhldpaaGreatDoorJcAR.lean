/-
  Texts joined by program: De, TwG, TwH, TwI. No condition of its own.
-/
import Derived.Test.YtnapapijhhldpaaGreatDoorJcAQ
namespace Go.Proofs.YtnapapijhhldpaaGreatDoor
set_option linter.unusedSimpArgs false
set_option linter.unusedVariables false
section
theorem Dst.row {N:List Ac} {us:List Bool} {syms k st C:Nat} (hN:∀ x∈N,cst x≤C) (hus:us.length=st):∀ (n l:Nat) {X Y:Ds},Dst N us syms k l X→Dok st C k X→k<X.subs.length→1≤l→l+n≤syms+1→rowS N us k n l X=some Y →
  Dst N us syms k (l+n) Y∧Dok st C k Y∧(∃ B,Y.subs=X.subs++B)∧∃ A,Y.arcs=X.arcs++A∧∀ x∈A,x.1=k∧l≤x.2.1
 | 0,l,X,Y,h,ho,hk,h1,h2,hs=>by
  cases hs
  exact ⟨h,ho,⟨[],by simp⟩,[],by simp,fun x hx=>by cases hx⟩
 | n+1,l,X,Y,h,ho,hk,h1,h2,hs=>by
  unfold rowS at hs
  split at hs
  ·cases hs
  ·rename_i Z hZ
   obtain ⟨d1,⟨B,hB⟩,d2⟩:=h.one hk h1 (by omega) (fun v hv=>by rw [ho.len v hv,hus]; exact Nat.le_refl _) hZ
   obtain ⟨o1,o2⟩:=ho.one hk hN hZ
   obtain ⟨e1,e2,⟨B',hB'⟩,A,e3,e4⟩:=Dst.row hN hus n (l+1) d1 o1 (Nat.lt_of_lt_of_le hk o2) (by omega) (by omega) hs
   rw [show l+1+n=l+(n+1) by omega] at e1
   refine ⟨e1,e2,⟨B++B',by rw [hB',hB,List.append_assoc]⟩,?_⟩
   rcases d2 with d2 | ⟨num,c,d2,_⟩
   ·exact ⟨A,by rw [e3,d2],fun x hx=>⟨(e4 x hx).1,by have:=(e4 x hx).2; omega⟩⟩
   ·refine ⟨(k,l,num,some c)::A,by rw [e3,d2,List.append_assoc]; rfl,fun x hx=>?_⟩
    rcases List.mem_cons.1 hx with rfl | hx
    ·exact ⟨rfl,Nat.le_refl _⟩
    ·exact ⟨(e4 x hx).1,by have:=(e4 x hx).2; omega⟩
theorem Dst.up {N:List Ac} {us:List Bool} {syms k:Nat} {X:Ds} (h:Dst N us syms k (1+syms) X):Dst N us syms (k+1) 1 X :=
 ⟨fun x hx=>by rcases h.bef x hx with e | ⟨e,_⟩<;>exact .inl (by omega),h.ss,h.sound,fun i j v c nx hij h1 h2 hv hn=>h.full i j v c nx (by omega) h1 h2 hv hn,h.from_,h.sub⟩
theorem Dst.run {N:List Ac} {us:List Bool} {syms st C:Nat} (hN:∀ x∈N,cst x≤C) (hus:us.length=st):∀ (f k:Nat) {X Z:Ds},Dst N us syms k 1 X→Dok st C k X→runS N us syms f k X=some Z →
  (∃ k',Dst N us syms k' 1 Z∧Dok st C k' Z∧Z.subs.length≤k')∧(∃ B,Z.subs=X.subs++B)∧∃ A,Z.arcs=X.arcs++A∧∀ x∈A,k≤x.1
 | 0,k,X,Z,h,ho,hs=>by cases hs
 | f+1,k,X,Z,h,ho,hs=>by
  unfold runS at hs
  split at hs
  ·rename_i hk
   cases hs
   exact ⟨⟨k,h,ho,hk⟩,⟨[],by simp⟩,[],by simp,fun x hx=>by cases hx⟩
  ·rename_i hk
   split at hs
   ·cases hs
   ·rename_i Y hY
    obtain ⟨d1,d2,⟨B,hB⟩,A,e1,e2⟩:=Dst.row hN hus syms 1 h ho (by omega) (Nat.le_refl _) (by omega) hY
    obtain ⟨⟨k',g1,g2,g3⟩,⟨B',hB'⟩,A',g4,g5⟩:=Dst.run hN hus f (k+1) d1.up d2.next hs
    refine ⟨⟨k',g1,g2,g3⟩,⟨B++B',by rw [hB',hB,List.append_assoc]⟩,A++A',by rw [g4,e1,List.append_assoc],fun x hx=>?_⟩
    rcases List.mem_append.1 hx with hx | hx
    ·have:=(e2 x hx).1; omega
    ·have:=g5 x hx; omega
theorem stp_app (A B:List Ac) (k l:Nat):stp (A++B) k l=stp A k l++stp B k l:=by unfold stp; rw [List.filter_append]
theorem stp_none {A:List Ac} {k l:Nat} (h:∀ x∈A,¬ (x.1=k∧x.2.1=l)):stp A k l=[]:=by
 unfold stp
 rw [List.filter_eq_nil_iff]
 intro x hx
 simpa using h x hx
theorem sim_one {N F:List Ac} {us:List Bool} {n k l:Nat} {X Y:Ds} (hk:k<X.subs.length) (hX:∀ x∈X.arcs,bef k l x) (hY:∃ L,F=Y.arcs++L∧∀ x∈L,¬ (x.1=k∧x.2.1=l)) (hn:Y.subs.length≤n) (hs:oneS N us k l X=some Y) :
  oneS F (List.replicate n true) k l ⟨basis n X.subs.length,X.arcs⟩=some ⟨basis n Y.subs.length,Y.arcs⟩:=by
 obtain ⟨L,hF,hL⟩:=hY
 have hXs:stp X.arcs k l=[]:=stp_none fun x hx ⟨e1,e2⟩=>by
  rcases hX x hx with h | ⟨_,h⟩<;>omega
 unfold oneS at hs
 have hXn:X.subs.length≤Y.subs.length:=by
  split at hs
  ·cases hs; exact Nat.le_refl _
  ·split at hs
   ·cases hs; exact Nat.le_refl _
   ·split at hs
    ·cases hs
    ·cases hs; simp
 have hkn:k<n:=by omega
 obtain ⟨u1,u2⟩:=setl_uv (F:=F) (n:=n) (k:=k) (l:=l) hkn
 have hgetB:(Ds.mk (basis n X.subs.length) X.arcs).subs.getD k []=uv n k:=by
  rw [List.getD_eq_getElem?_getD]
  show ((basis n X.subs.length)[k]?).getD []=_
  rw [basis_get hk]; rfl
 unfold oneS
 rw [hgetB]
 split at hs
 ·cases hs
  rw [u1 (by rw [hF,stp_app,hXs,stp_none hL]; rfl)]
 ·rename_i c nx hset
  split at hs
  ·rename_i num hnum
   cases hs
   have hlt:num<X.subs.length:=(List.findIdx?_eq_some_iff_getElem.1 hnum).1
   have hst:stp F k l=[(k,l,num,some c)]:=by
    rw [hF,stp_app,stp_app,hXs,stp_none hL]
    simp [stp]
   rw [u2 num c (by simp only at hn; omega) hst]
   simp only
   rw [basis_find (by simp only at hn; omega) (by simp only at hn; omega),if_pos hlt]
  ·split at hs
   ·cases hs
   ·rename_i h64
    cases hs
    have hn':X.subs.length+1≤n:=by simpa using hn
    have hst:stp F k l=[(k,l,X.subs.length,some c)]:=by
     rw [hF,stp_app,stp_app,hXs,stp_none hL]
     simp [stp]
    rw [u2 X.subs.length c (by omega) hst]
    simp only
    rw [basis_find (by omega) (by omega),if_neg (Nat.lt_irrefl _)]
    simp only [basis_len]
    rw [if_neg h64]
    congr 2
    rw [basis_succ]
    simp
theorem sim_row {N F:List Ac} {us:List Bool} {syms k st C n:Nat} (hN:∀ x∈N,cst x≤C) (hus:us.length=st):∀ (m l:Nat) {X Y:Ds},Dst N us syms k l X→Dok st C k X→k<X.subs.length→1≤l→l+m≤syms+1 →
  (∃ L,F=Y.arcs++L∧∀ x∈L,k<x.1)→Y.subs.length≤n→rowS N us k m l X=some Y→rowS F (List.replicate n true) k m l ⟨basis n X.subs.length,X.arcs⟩=some ⟨basis n Y.subs.length,Y.arcs⟩
 | 0,l,X,Y,h,ho,hk,h1,h2,hF,hn,hs=>by cases hs; rfl
 | m+1,l,X,Y,h,ho,hk,h1,h2,hF,hn,hs=>by
  unfold rowS at hs
  split at hs
  ·cases hs
  ·rename_i Z hZ
   obtain ⟨d1,⟨B,hB⟩,d2⟩:=h.one hk h1 (by omega) (fun v hv=>by rw [ho.len v hv,hus]; exact Nat.le_refl _) hZ
   obtain ⟨o1,o2⟩:=ho.one hk hN hZ
   obtain ⟨-, -, ⟨B',hB'⟩,A,e3,e4⟩:=Dst.row hN hus m (l+1) d1 o1 (Nat.lt_of_lt_of_le hk o2) (by omega) (by omega) hs
   have hZn:Z.subs.length≤n:=by
    have:=congrArg List.length hB'
    rw [List.length_append] at this
    omega
   obtain ⟨L,hL1,hL2⟩:=hF
   have h3:=sim_one (F:=F) (n:=n) hk h.bef ⟨A++L,by rw [hL1,e3,List.append_assoc],fun x hx ⟨k1,k2⟩=>by
    rcases List.mem_append.1 hx with hx | hx
    ·have:=(e4 x hx).2; omega
    ·have:=hL2 x hx; omega⟩ hZn hZ
   unfold rowS
   rw [h3]
   exact sim_row hN hus m (l+1) d1 o1 (Nat.lt_of_lt_of_le hk o2) (by omega) (by omega) ⟨L,hL1,hL2⟩ hn hs
theorem sim_run {N F:List Ac} {us:List Bool} {syms st C n:Nat} (hN:∀ x∈N,cst x≤C) (hus:us.length=st):∀ (f k:Nat) {X Z:Ds},Dst N us syms k 1 X→Dok st C k X→F=Z.arcs→n=Z.subs.length →
  runS N us syms f k X=some Z→runS F (List.replicate n true) syms f k ⟨basis n X.subs.length,X.arcs⟩=some ⟨basis n n,F⟩
 | 0,k,X,Z,h,ho,hF,hn,hs=>by cases hs
 | f+1,k,X,Z,h,ho,hF,hn,hs=>by
  have hs0:=hs
  unfold runS at hs ⊢
  simp only [basis_len]
  split at hs
  ·rename_i hk
   cases hs
   rw [if_pos hk,hF,hn]
  ·rename_i hk
   rw [if_neg hk]
   split at hs
   ·cases hs
   ·rename_i Y hY
    obtain ⟨d1,d2,⟨B,hB⟩,A,e1,e2⟩:=Dst.row hN hus syms 1 h ho (by omega) (Nat.le_refl _) (by omega) hY
    obtain ⟨-, ⟨B',hB'⟩,A',g4,g5⟩:=Dst.run hN hus f (k+1) d1.up d2.next hs
    have hYn:Y.subs.length≤n:=by rw [hn,hB']; simp
    rw [sim_row hN hus syms 1 h ho (by omega) (Nat.le_refl _) (by omega) ⟨A',by rw [hF,g4],fun x hx=>g5 x hx⟩ hYn hY]
    exact sim_run hN hus f (k+1) d1.up d2.next hF hn hs
theorem firstV_has {us:List Bool} {ini:List Tw} {q r:Nat}:Has (firstV us ini) q r↔us[q]? = some true∧ini[q]? = some (some r):=by
 unfold Has firstV
 rw [List.getElem?_zipWith]
 cases us[q]? with
 | none=>simp
 | some u =>
  cases ini[q]? with
  | none=>simp
  | some w=>cases u<;>simp
theorem us_get {us:List Bool} {q:Nat}:us.getD q false=true↔us[q]? = some true:=by
 rw [List.getD_eq_getElem?_getD]
 cases us[q]? with
 | none=>simp
 | some b=>cases b<;>simp
theorem first_state {us:List Bool} {A:Au} {c:Nat} {f:Vx} {N:List Ac} {syms C:Nat} (hu:us.length=A.st) (hi:A.ini.length=A.st) (hc:∀ w∈A.ini,∀ r,w=some r→r≤C) (h:setl (firstV us A.ini)=some (c,f)) :
  Dst N us syms 0 1 ⟨[f],[]⟩∧Dok A.st C 0 ⟨[f],[]⟩:=by
 obtain ⟨h1,rfl⟩:=setl_some h
 have hlen:(firstV us A.ini).length=A.st:=by simp [firstV,hu,hi]
 refine ⟨⟨fun x hx=>(by cases hx),trivial,fun x hx=>(by cases hx),fun i j v c nx hij h1 h2 hv hn=>by omega,fun i h0 hi'=>by simp at hi'; omega,fun v hv=>?_⟩,⟨fun v hv=>?_,by simp,fun i v hv=>?_,fun x hx=>by cases hx⟩⟩
 ·obtain rfl:v=_:=by simpa using hv
  constructor
  ·intro q r hr
   obtain ⟨u,hu',_⟩:=low_has.1 hr
   exact us_get.2 (firstV_has.1 hu').1
  ·obtain ⟨q,hq⟩:=List.getElem?_of_mem (least_mem h1)
   exact ⟨q,low_has.2 ⟨c,hq,by omega⟩⟩
 ·obtain rfl:v=_:=by simpa using hv
  rw [lowV_len,hlen]
 ·cases i with
  | zero =>
   simp at hv
   subst hv
   intro r hr
   obtain ⟨q,hq⟩:=List.getElem?_of_mem hr
   obtain ⟨u,hu',rfl⟩:=low_has.1 hq
   have:=hc _ (List.mem_of_getElem? (firstV_has.1 hu').2) u rfl
   omega
  | succ i=>simp at hv
theorem endV_some {fin:List Tw} {v:Vx} {q r c:Nat} (h:Has v q r) (hf:fin[q]? = some (some c)):∃ m,endV fin v=some m∧m≤r+c:=by
 have:Has (List.zipWith ends1 v fin) q (r+c):=by
  unfold Has at *
  rw [List.getElem?_zipWith,h,hf]; rfl
 have:=least_le (List.mem_of_getElem? this)
 unfold endV
 cases hl:leastV (List.zipWith ends1 v fin) with
 | none=>rw [hl] at this; exact absurd this (by simp [twLe])
 | some m=>rw [hl] at this; exact ⟨m,rfl,this⟩
theorem endV_uv {fin:List Tw} {n i:Nat} (hi:i<n) (hf:fin.length=n):endV fin (uv n i)=fin[i]'(by omega):=by
 have hz:∀ j r,Has (List.zipWith ends1 (uv n i) fin) j r↔(j=i∧fin[i]'(by omega)=some r):=fun j r=>by
  unfold Has
  rw [List.getElem?_zipWith]
  by_cases hj:j=i
  ·subst hj
   have h1:(uv n j)[j]? = some (some 0):=uv_has.2 ⟨hi,rfl,rfl⟩
   rw [h1,List.getElem?_eq_getElem (by omega:j<fin.length)]
   cases fin[j]'(by omega) with
   | none=>simp [ends1]
   | some c=>simp [ends1]
  ·constructor
   ·intro h
    split at h
    ·rename_i a b ha hb
     cases a with
     | none=>simp [ends1] at h
     | some u=>exact absurd (uv_has.1 ha).2.1 hj
    ·cases h
   ·rintro ⟨h,_⟩; exact absurd h hj
 unfold endV
 cases hc:fin[i]'(by omega) with
 | none =>
  refine least_none fun j r hr=>?_
  have:=(hz j r).1 hr
  rw [hc] at this
  cases this.2
 | some c =>
  refine least_is ((hz i c).2 ⟨rfl,hc⟩) fun j r hr=>?_
  have:=(hz j r).1 hr
  rw [hc] at this
  cases this.2
  exact Nat.le_refl _
theorem det_twice {syms C:Nat} {us:List Bool} {A B:Au} (hA:Aok A syms) (hu:UsOk us A) (hC:∀ x∈A.arcs,cst x≤C) (hi:∀ w∈A.ini,∀ r,w=some r→r≤C) (hf:∀ w∈A.fin,∀ r,w=some r→r≤C) (h:detP syms us A=some B) :
  Aok B syms∧Ss B.arcs∧B.st≤64∧UsOk (List.replicate B.st true) B∧detP syms (List.replicate B.st true) B=some B∧(∀ x∈B.arcs,cst x≤C*66)∧(∀ w∈B.ini,∀ r,w=some r→r≤C)∧(∀ w∈B.fin,∀ r,w=some r→r≤C*66):=by
 unfold detP at h
 split at h
 ·cases h
  refine ⟨⟨rfl,rfl,fun x hx=>by cases hx⟩,trivial,by simp,⟨rfl,fun q hq=>absurd hq (Nat.not_lt_zero _)⟩,rfl,fun x hx=>(by cases hx),fun w hw=>(by cases hw),fun w hw=>by cases hw⟩
 ·rename_i c f hset
  split at h
  ·cases h
  ·rename_i X hX
   cases h
   obtain ⟨s1,s2⟩:=first_state (N:=A.arcs) (syms:=syms) hu.1 hA.ini hi hset
   obtain ⟨⟨k',g1,g2,g3⟩,⟨Bs,hBs⟩,-⟩:=Dst.run hC hu.1 66 0 s1 s2 hX
   obtain ⟨n,hn⟩:∃ n,X.subs.length=n:=⟨_,rfl⟩
   have hn1:1≤n:=by rw [←hn,hBs]; simp
   have hcC:c≤C:=by
    obtain ⟨q,hq⟩:=List.getElem?_of_mem (least_mem (setl_some hset).1)
    exact hi _ (List.mem_of_getElem? (firstV_has.1 hq).2) c rfl
   have hfin:∀ w∈X.subs.map (endV A.fin),∀ r,w=some r→r≤C*66:=by
    intro w hw r hr
    obtain ⟨v,hv,e⟩:=List.mem_map.1 hw
    rw [hr] at e
    obtain ⟨j,hj⟩:=List.getElem?_of_mem (least_mem e)
    rw [List.getElem?_zipWith] at hj
    obtain ⟨i,hiv⟩:=List.getElem?_of_mem hv
    have hb:=g2.bd i v hiv
    have hi64:i<64:=Nat.lt_of_lt_of_le (List.getElem?_eq_some_iff.1 hiv).1 g2.num
    split at hj
    ·rename_i a b ha hb'
     cases a with
     | none=>simp [ends1] at hj
     | some u =>
      cases b with
      | none=>simp [ends1] at hj
      | some d =>
       have h1:=hb u (List.mem_of_getElem? ha)
       have h2:=hf _ (List.mem_of_getElem? hb') d rfl
       have h3:u+d=r:=by simpa [ends1] using hj
       have h4:C*(i+1)+C=C*(i+2):=by rw [Nat.mul_add,Nat.mul_add]; omega
       have h5:C*(i+2)≤C*66:=Nat.mul_le_mul_left _ (by omega)
       omega
    ·cases hj
   have hlenS:∀ i,i<n→∃ v,X.subs[i]? = some v:=fun i h=>⟨_,List.getElem?_eq_getElem (by omega)⟩
   have harc:∀ x∈X.arcs,x.1<n∧x.2.2.1<n∧1≤x.2.1∧x.2.1≤syms∧nz x=true:=fun x hx=>by
    obtain ⟨v,w,d,e1,e2,e3,e4,e5,_⟩:=g1.sound x hx
    exact ⟨by rw [←hn]; exact (List.getElem?_eq_some_iff.1 e1).1,by rw [←hn]; exact (List.getElem?_eq_some_iff.1 e2).1,e4,e5,by unfold nz; rw [e3]; rfl⟩
   have hFrom:∀ i,i<n→FromS X.arcs (some c::List.replicate (n-1) none) i:=by
    intro i
    induction i using Nat.strongRecOn with
    | _ i ih =>
     intro hin
     cases i with
     | zero=>exact .here (c:=c) rfl
     | succ i =>
      obtain ⟨x,hx,e1,e2⟩:=g1.from_ (i+1) (by omega) (by omega)
      have:=FromS.step hx (ih x.1 e2 (by omega))
      rw [e1] at this
      exact this
   have hEnd:∀ q,ToEnd A.arcs A.fin q→FromS A.arcs A.ini q→∀ i v r,X.subs[i]? = some v→Has v q r→ToEnd X.arcs (X.subs.map (endV A.fin)) i:=by
    intro q hq
    induction hq with
    | here hc' =>
     intro _ i v r hv hr
     obtain ⟨m,hm,_⟩:=endV_some hr hc'
     exact .here (c:=m) (by rw [List.getElem?_map,hv]; simp [hm])
    | step hx hto ih =>
     rename_i x
     intro hfr i v r hv hr
     have hfr':=FromS.step hx hfr
     obtain ⟨a1,a2,a3,a4,a5⟩:=hA.arc x hx
     have hus':us.getD x.2.2.1 false=true:=(hu.2 _ a2).2 ⟨hfr',hto⟩
     have hvl:v.length=A.st:=g2.len v (List.mem_of_getElem? hv)
     have hb:=bst_nextV (N:=A.arcs) (us:=us) (R:=v) (l:=x.2.1) (by rw [hvl,hu.1]; exact Nat.le_refl _)
     obtain ⟨m,hm,_⟩:=hb.2 x.2.2.1 _ ⟨x,hx,rfl,rfl,hus',r,hr,rfl⟩
     cases hs:setl (nextV A.arcs us v x.2.1) with
     | none =>
      have:=least_le (List.mem_of_getElem? hm)
      rw [setl_none hs] at this
      exact absurd this (by simp [twLe])
     | some p =>
      obtain ⟨d,nx⟩:=p
      have hil:i<X.subs.length:=(List.getElem?_eq_some_iff.1 hv).1
      obtain ⟨num,e1,e2⟩:=g1.full i x.2.1 v d nx (.inl (by omega)) a3 a4 hv hs
      have hnx:Has nx x.2.2.1 (m-d):=by rw [(setl_some hs).2]; exact low_has.2 ⟨m,hm,rfl⟩
      have:=ToEnd.step e1 (ih hfr' num nx _ e2 hnx)
      exact this
   have hUse:UsOk (List.replicate n true) ⟨n,some c::List.replicate (n-1) none,X.subs.map (endV A.fin),X.arcs⟩:=by
    refine ⟨by simp,fun q hq=>?_⟩
    simp only at hq
    constructor
    ·intro _
     refine ⟨hFrom q hq,?_⟩
     obtain ⟨v,hv⟩:=hlenS q hq
     obtain ⟨s1,p,hp⟩:=g1.sub v (List.mem_of_getElem? hv)
     have hpu:=s1 p 0 hp
     have hpl:p<A.st:=by rw [←hu.1]; exact us_lt hpu
     obtain ⟨t1,t2⟩:=(hu.2 p hpl).1 hpu
     exact hEnd p t2 t1 q v 0 hv hp
    ·intro _; simp [List.getD_eq_getElem?_getD,hq]
   simp only [hn]
   refine ⟨⟨by simp only [List.length_cons,List.length_replicate]; omega,by simp only [List.length_map]; exact hn,fun x hx=>harc x hx⟩,g1.ss,by have:=g2.num; omega,hUse,?_,fun x hx=>?_,fun w hw r hr=>?_,hfin⟩
   ·unfold detP
    have hfirst:setl (firstV (List.replicate n true) (some c::List.replicate (n-1) none))=some (c,uv n 0):=by
     have hh:∀ j r,Has (firstV (List.replicate n true) (some c::List.replicate (n-1) none)) j r↔(j=0∧r=c):=fun j r=>by
      rw [firstV_has]
      cases j with
      | zero =>
       have h0:(List.replicate n true)[0]? = some true:=by rw [List.getElem?_replicate,if_pos (by omega)]
       rw [h0]
       simp only [List.getElem?_cons_zero,true_and,Option.some.injEq]
       exact eq_comm
      | succ j=>simp [List.getElem?_replicate]
     have hl:leastV (firstV (List.replicate n true) (some c::List.replicate (n-1) none))=some c:=least_is ((hh 0 c).2 ⟨rfl,rfl⟩) fun j r hr=>by rw [((hh j r).1 hr).2]; exact Nat.le_refl _
     unfold setl
     rw [hl]
     have hx:lowV (firstV (List.replicate n true) (some c::List.replicate (n-1) none)) c=uv n 0:=by
      refine vx_ext (by rw [lowV_len,uv_len]; unfold firstV; rw [List.length_zipWith,List.length_replicate,List.length_cons,List.length_replicate]; omega) fun j r=>?_
      rw [low_has,uv_has]
      constructor
      ·rintro ⟨u,hu',rfl⟩
       obtain ⟨rfl,rfl⟩:=(hh j u).1 hu'
       exact ⟨by omega,rfl,by omega⟩
      ·rintro ⟨_,rfl,rfl⟩
       exact ⟨c,(hh 0 c).2 ⟨rfl,rfl⟩,by omega⟩
     show some (c,lowV (firstV (List.replicate n true) (some c::List.replicate (n-1) none)) c)=_
     rw [hx]
    simp only
    rw [hfirst]
    have hsim:=sim_run (F:=X.arcs) (n:=n) hC hu.1 66 0 s1 s2 rfl hn.symm hX
    have hb1:basis n 1=[uv n 0]:=rfl
    simp only [List.length_cons,List.length_nil] at hsim
    rw [hb1] at hsim
    simp only
    rw [hsim]
    simp only [basis_len]
    congr 2
    refine List.ext_getElem (by simp [basis_len,hn]) fun i h1 h2=>?_
    have hi':i<n:=by simpa [basis_len] using h1
    rw [List.getElem_map]
    have:(basis n n)[i]'(by rw [basis_len]; exact hi')=uv n i:=by simp [basis]
    rw [this,endV_uv hi' (by simp [hn])]
   ·obtain ⟨-, -, -, d,e1,e2⟩:=g2.arc x hx
    unfold cst
    rw [e1]
    exact e2
   ·rcases List.mem_cons.1 hw with rfl | hw
    ·cases hr; exact hcC
    ·rw [List.mem_replicate] at hw
     rw [hw.2] at hr
     cases hr
end
section
open Go.RowKit
def oI (o:Option Nat):Int:=match o with
 | none => -1
 | some r=>(r:Int)
def oV (o:Option Nat):Value:=.int .i64 (oI o)
theorem oI_none:oI none = -1:=rfl
theorem oI_some (r:Nat):oI (some r)=(r:Int):=rfl
def fS (S:Vx) (j:Nat):Value:=oV (S.getD j none)
def Sb (w:World) (base g:Nat) (S:Vx):Prop:=Rw 3 w base (.slice (some ⟨g,0,none⟩) S.length S.length) S.length (fS S)
theorem fS_set (S:Vx) (q:Nat) (hq:q<S.length) (r:Nat):∀ i,updF (fS S) q (.int .i64 (r:Int)) i=fS (S.set q (some r)) i:=fun i=>by
 unfold updF fS
 rw [List.getD_eq_getElem?_getD,List.getD_eq_getElem?_getD,List.getElem?_set]
 split
 ·rename_i e; subst e; first | (rw [if_pos rfl,if_pos hq]; rfl) | (rw [if_pos rfl]; rfl) | rfl
 ·rename_i e; rw [if_neg (fun h=>e h.symm)]
theorem results_cellC1 {P:Program} {fn:Func} {p:Tmp} {ty:TypeId} (h:fn.results=#[.cell p ty]) (tmps:Array Value) (w:World) (g:Nat) (cs:List Value) (d:TypeDesc)
  (hp:tmps.getD p undef=.pointer (some ⟨g,0,none⟩)) (hc:Cs w g 0 cs)
  (hu:P.underlying ty=some d) (hd:(match d with | .struct _ | .array _ _=>true | _=>false)=true) (hi:(P.info? ty).map (·.size)=some cs.length) :
  (results fn tmps).run P w=.ok (.agg cs.toArray) w:=by
 have hp':tmps[p]?.getD undef=.pointer (some ⟨g,0,none⟩):=by simpa using hp
 simp [results,h,hp',asAddr,run_loadC w ty g 0 cs d hc hu hd hi]
theorem cost_any (o:Option Nat) (w:World):Calls Tryz.prog 31 #[oV o] w fun e w'=>e=.returned (.agg #[.bool false,.slice none 0 0,.slice none 0 0,.int .i64 (tc (o):Int),.bool (ti (o)),.int .u64 0,.slice none 0 0,.slice none 0 0])∧Below w.heap.size w w':=by
 cases o with
 | none =>
  unfold oV
  rw [oI_none]
  go_enter Tryz.func31,Tryz.ntmps31
  go_wp2_with fail
  exact bodyPost_ret (results_cellC1 rfl _ _ w.heap.size (twC none) _ rfl (Bl.fresh w (twC none) 45).cs Tryz.underlying45 rfl Tryz.sizeTw) rfl ⟨rfl,below_alloc _⟩
 | some r =>
  unfold oV
  rw [oI_some]
  have c1:((r:Int) == -1)=false:=by rw [beq_eq_false_iff_ne]; omega
  have c2:¬ (r:Int) = -1:=by omega
  go_enter Tryz.func31,Tryz.ntmps31
  go_wp2_with fail
  exact bodyPost_ret (results_cellC1 rfl _ _ w.heap.size (twC (some r)) _ rfl (Bl.fresh w (twC (some r)) 45).cs Tryz.underlying45 rfl Tryz.sizeTw) rfl ⟨rfl,below_alloc _⟩
theorem note_any (base g q r:Nat) (S:Vx) (hq:q<S.length) (w:World) (h:Sb w base g S) :
  Calls Tryz.prog 27 #[.slice (some ⟨g,0,none⟩) S.length S.length,.int .i64 (q:Int),.int .i64 (r:Int)] w fun e w'=>e=.returned (.tuple #[])∧Sb w' base g (noteV S q r)∧Fr (fun k=>k=g) w w':=by
 have hbd:=h.rdS.2.bound
 obtain ⟨n,hn⟩:∃ n,S.length=n:=⟨_,rfl⟩
 have c1:=h.cell hq
 have c2:=h.free q
 have hset:=hid (fS_set S q hq r)
 unfold Sb at *
 rw [noteV_len]
 have i0:(0:Int)≤(q:Int):=by omega
 have i1:(q:Int)<(n:Int):=by omega
 have hS:∀ o,S[q]? = some o→fS S q=oV o:=fun o ho=>by unfold fS; rw [List.getD_eq_getElem?_getD,ho]; rfl
 obtain ⟨o,ho⟩:∃ o,S[q]? = some o:=⟨_,List.getElem?_eq_getElem hq⟩
 rw [hS o ho] at c1
 have Ho:=hid ho
 rw [hn] at h ⊢
 have Hn:=hid hn
 clear hS ho hn hq
 have hst:=hid h
 cases o with
 | none =>
  unfold oV at c1
  rw [oI_none] at c1
  have hnv:Hid (noteV S q r=S.set q (some r)):=hid (by unfold noteV; rw [Ho.out])
  clear h
  go_enter Tryz.func27,Tryz.ntmps27
  go_wp2_with fail
  go_end0
  exact ⟨rfl,by rw [hnv.out]; exact (hst.out.put q _).congr (fun i _=>hset.out i),Fr.set (T:=fun k=>k=g) _ (p:=⟨g,q,none⟩) rfl _⟩
 | some u =>
  unfold oV at c1
  rw [oI_some] at c1
  have k1:((u:Int) == -1)=false:=by rw [beq_eq_false_iff_ne]; omega
  have k2:¬ (u:Int) = -1:=by omega
  by_cases hlt:r<u
  ·have hnv:Hid (noteV S q r=S.set q (some r)):=hid (by unfold noteV; rw [Ho.out]; simp only; rw [if_pos hlt])
   have k3:(r:Int)<(u:Int):=by omega
   clear h
   go_enter Tryz.func27,Tryz.ntmps27
   go_wp2_with fail
   go_end0
   exact ⟨rfl,by rw [hnv.out]; exact (hst.out.put q _).congr (fun i _=>hset.out i),Fr.set (T:=fun k=>k=g) _ (p:=⟨g,q,none⟩) rfl _⟩
  ·have hnv:Hid (noteV S q r=S):=hid (by unfold noteV; rw [Ho.out]; simp only; rw [if_neg hlt])
   have k3:¬ (r:Int)<(u:Int):=by omega
   clear h
   go_enter Tryz.func27,Tryz.ntmps27
   go_wp2_with fail
   go_end0
   exact ⟨rfl,by rw [hnv.out]; exact hst.out,Fr.refl _ _⟩
end
section
open Go.RowKit
theorem twPlus_assoc (a b c:Tw):twPlus (twPlus a b) c=twPlus a (twPlus b c):=by
 cases a<;>cases b<;>cases c<;>simp only [twPlus_none,none_twPlus,twPlus_some,Nat.min_assoc]
theorem leastV_snoc (A:Vx) (x:Option Nat):leastV (A++[x])=twPlus (leastV A) x:=by
 induction A with
 | nil=>show twPlus x none=twPlus none x; rw [twPlus_none,none_twPlus]
 | cons a r ih=>show twPlus a (leastV (r++[x]))=twPlus (twPlus a (leastV r)) x; rw [ih,twPlus_assoc]
def lowN (S:Vx) (m k j:Nat):Option Nat:=if j<k then (S.getD j none).map (· - m) else S.getD j none
theorem lowN_skip {S:Vx} {m k:Nat} (h:S[k]? = some none):∀ j,oV (lowN S m k j)=oV (lowN S m (k+1) j):=fun j=>by
 unfold lowN
 by_cases hj:j<k
 ·rw [if_pos hj,if_pos (by omega)]
 ·rw [if_neg hj]
  by_cases he:j=k
  ·subst he; rw [if_pos (by omega),List.getD_eq_getElem?_getD,h]; rfl
  ·rw [if_neg (by omega)]
theorem lowN_step {S:Vx} {m k r:Nat} (h:S[k]? = some (some r)):∀ j,updF (fun j=>oV (lowN S m k j)) k (.int .i64 ((r-m:Nat):Int)) j=oV (lowN S m (k+1) j):=fun j=>by
 unfold updF
 split
 ·rename_i e; subst e
  unfold lowN
  rw [if_pos (by omega),List.getD_eq_getElem?_getD,h]; rfl
 ·rename_i e
  show oV (lowN S m k j)=oV (lowN S m (k+1) j)
  unfold lowN
  by_cases hj:j<k
  ·rw [if_pos hj,if_pos (by omega)]
  ·rw [if_neg hj,if_neg (by omega)]
theorem lowN_end {S:Vx} {m k:Nat} (hk:S.length=k):∀ j,j<k→oV (lowN S m k j)=fS (lowV S m) j:=fun j hj=>by
 unfold lowN fS lowV
 rw [if_pos hj,List.getD_eq_getElem?_getD,List.getD_eq_getElem?_getD,List.getElem?_map]
 have:j<S.length:=by omega
 simp [this]
set_option maxHeartbeats 2000000 in
theorem settle_any (base g:Nat) (S:Vx) (hn:S.length≤64) (hB:Bd 1000000000000000 S) (w:World) (h:Sb w base g S) :
  Calls Tryz.prog 28 #[.slice (some ⟨g,0,none⟩) S.length S.length] w fun e w'=>e=.returned (oV (leastV S))∧Sb w' base g (lowV S ((leastV S).getD 0))∧Fr (fun k=>k=g) w w':=by
 have hB:=hid hB
 obtain ⟨n,hnn⟩:∃ n,S.length=n:=⟨_,rfl⟩
 unfold Sb at *
 rw [lowV_len]
 rw [hnn] at h hn ⊢
 have Hn:=hid hnn
 have hst:=hid h
 have hcell:=hid (fun k (hk:k<n)=>h.cell hk)
 clear hnn h
 go_enter Tryz.func28,Tryz.ntmps28
 go_wp2_with fail
 go_loopw [3,10] (fun lv iv wr=>∃ k:Nat,k≤n∧iv=.int .i64 (k:Int)∧lv=oV (leastV (S.take k))∧wr=w) (fun _ iv _=>n-(intOf iv).toNat)
 case atStart=>exact ⟨0,by omega,rfl,rfl,rfl⟩
 case round =>
  obtain ⟨k,hk,rfl,rfl,rfl⟩:=hrel
  by_cases hlt:k<n
  ·have i1:(k:Int)<(n:Int):=by omega
   have i0:(0:Int)≤(k:Int):=by omega
   obtain ⟨o,ho⟩:∃ o,S[k]? = some o:=⟨_,List.getElem?_eq_getElem (by have:=Hn.out; omega)⟩
   have hsn:Hid (leastV (S.take (k+1))=twPlus (leastV (S.take k)) o):=hid (by
    rw [List.take_succ_eq_append_getElem (List.getElem?_eq_some_iff.1 ho).1,(List.getElem?_eq_some_iff.1 ho).2,leastV_snoc])
   have c1:=hcell.out k hlt
   have e1:fS S k=oV o:=by unfold fS; rw [List.getD_eq_getElem?_getD,ho]; rfl
   rw [e1] at c1
   obtain ⟨L,hL⟩:∃ L,leastV (S.take k)=L:=⟨_,rfl⟩
   rw [hL] at hsn ⊢
   clear e1 hL ho
   unfold oV at c1
   unfold oV
   cases o with
   | none =>
    rw [oI_none] at c1
    have h2:Hid (leastV (S.take (k+1))=L):=hid (by rw [hsn.out,twPlus_none])
    go_wp2_with fail
    go_roundw
    case rel=>exact ⟨k+1,by omega,by go_num,by rw [h2.out],by trivial⟩
    case measure=>simp [intOf]; omega
   | some r =>
    rw [oI_some] at c1
    have k1:((r:Int) != -1)=true:=by simp
    have k1':((r:Int) == -1)=false:=by rw [beq_eq_false_iff_ne]; omega
    have k2:¬ (r:Int) = -1:=by omega
    cases L with
    | none =>
     rw [oI_none]
     have h2:Hid (leastV (S.take (k+1))=some r):=hid (by rw [hsn.out,none_twPlus])
     go_wp2_with fail
     go_roundw
     case rel=>exact ⟨k+1,by omega,by go_num,by rw [h2.out]; rfl,by trivial⟩
     case measure=>simp [intOf]; omega
    | some m =>
     rw [oI_some]
     have k3:((m:Int) == -1)=false:=by rw [beq_eq_false_iff_ne]; omega
     have k4:¬ (m:Int) = -1:=by omega
     by_cases hrm:r<m
     ·have h2:Hid (leastV (S.take (k+1))=some r):=hid (by rw [hsn.out,twPlus_some,Nat.min_eq_right (by omega)])
      have k5:(r:Int)<(m:Int):=by omega
      go_wp2_with fail
      go_roundw
      case rel=>exact ⟨k+1,by omega,by go_num,by rw [h2.out]; rfl,by trivial⟩
      case measure=>simp [intOf]; omega
     ·have h2:Hid (leastV (S.take (k+1))=some m):=hid (by rw [hsn.out,twPlus_some,Nat.min_eq_left (by omega)])
      have k5:¬ (r:Int)<(m:Int):=by omega
      go_wp2_with fail
      go_roundw
      case rel=>exact ⟨k+1,by omega,by go_num,by rw [h2.out]; rfl,by trivial⟩
      case measure=>simp [intOf]; omega
  ·obtain rfl:k=n:=by omega
   have i1:¬ (k:Int)<(k:Int):=by omega
   have htk:S.take k=S:=List.take_of_length_le (by rw [Hn.out]; exact Nat.le_refl _)
   rw [htk]
   clear htk hcell
   have hle:Hid (∀ r,some r∈S→(leastV S).getD 0≤r∧(leastV S).isSome=true):=hid fun r hr=>by
    have:=least_le hr
    cases hl:leastV S with
    | none=>rw [hl] at this; cases this
    | some m=>rw [hl] at this; exact ⟨this,rfl⟩
   obtain ⟨L,hL⟩:∃ L,leastV S=L:=⟨_,rfl⟩
   rw [hL] at hle ⊢
   have HL:=hid hL
   clear hL
   obtain ⟨m,hm⟩:∃ m,L.getD 0=m:=⟨_,rfl⟩
   rw [hm] at hle
   have Hm:=hid hm
   clear hm
   obtain ⟨lv,hlv⟩:∃ lv,oV L=lv:=⟨_,rfl⟩
   rw [hlv]
   have Hlv:=hid hlv
   clear hlv
   go_wp2_with fail
   go_loopw [29] (fun iv wq=>∃ j:Nat,j≤k∧iv=.int .i64 (j:Int)∧Rw 3 wq base (.slice (some ⟨g,0,none⟩) k k) k (fun i=>oV (lowN S m j i))∧Fr (fun i=>i=g) wr wq) (fun iv _=>k-(intOf iv).toNat)
   case atStart=>exact ⟨0,by omega,rfl,hst.out.congr (fun i _=>by unfold lowN fS; rw [if_neg (by omega)]),Fr.refl _ _⟩
   case round =>
    obtain ⟨j,hj,rfl,hrow,hfr⟩:=hrel
    by_cases hlt:j<k
    ·have i1:(j:Int)<(k:Int):=by omega
     have i0:(0:Int)≤(j:Int):=by omega
     obtain ⟨o,ho⟩:∃ o,S[j]? = some o:=⟨_,List.getElem?_eq_getElem (by have:=Hn.out; omega)⟩
     have c1:=hrow.cell hlt
     have c2:=hrow.free j
     have e1:lowN S m j j=o:=by unfold lowN; rw [if_neg (by omega),List.getD_eq_getElem?_getD,ho]; rfl
     simp only [e1] at c1
     clear e1
     unfold oV at c1
     cases o with
     | none =>
      rw [oI_none] at c1
      have hsk:=hid (lowN_skip (m:=m) ho)
      clear ho
      go_wp2_with fail
      go_roundw
      case rel=>exact ⟨j+1,by omega,by go_num,hrow.congr (fun i _=>hsk.out i),hfr⟩
      case measure=>simp [intOf]; omega
     | some r =>
      rw [oI_some] at c1
      have hrm:=hle.out r (List.mem_of_getElem? ho)
      have hsk:=hid (lowN_step (m:=m) ho)
      have hrB:=hB.out r (List.mem_of_getElem? ho)
      clear ho
      have hLm:L=some m:=by
       have h1:=Hm.out
       cases L with
       | none=>exact absurd hrm.2 (by simp)
       | some x=>simp at h1; rw [h1]
      have hlv2:lv=.int .i64 (m:Int):=by rw [←Hlv.out,hLm]; rfl
      clear hLm
      subst hlv2
      have k1:((r:Int) != -1)=true:=by simp
      have k1':((r:Int) == -1)=false:=by rw [beq_eq_false_iff_ne]; omega
      have k2:¬ (r:Int) = -1:=by omega
      have k3:=hrm.1
      have k4:((r-m:Nat):Int)=(r:Int)-(m:Int):=by omega
      rw [k4] at hsk
      clear k4
      go_wp2_with fail
      go_roundw
      case rel=>exact ⟨j+1,by omega,by go_num,(hrow.put j _).congr (fun i _=>hsk.out i),hfr.trans (Fr.set (T:=fun i=>i=g) _ (p:=⟨g,j,none⟩) rfl _)⟩
      case measure=>simp [intOf]; omega
    ·obtain rfl:j=k:=by omega
     have i1:¬ (j:Int)<(j:Int):=by omega
     have hend:=hid (lowN_end (m:=m) Hn.out)
     go_wp2_with fail
     go_ret
     exact ⟨congrArg Ending.returned (by rw [HL.out]; exact Hlv.out.symm),by rw [HL.out,Hm.out]; exact hrow.congr (fun i hi=>hend.out i hi),hfr⟩
end
section
open Go.RowKit
theorem oI_le {B:Nat} {S:Vx} (hB:Bd B S) {k:Nat} {o:Option Nat} (h:S[k]? = some o) : -1≤oI o∧oI o≤(B:Int):=by
 cases o with
 | none=>exact ⟨by rw [oI_none]; omega,by rw [oI_none]; omega⟩
 | some r=>have:=hB r (List.mem_of_getElem? h); exact ⟨by rw [oI_some]; omega,by rw [oI_some]; omega⟩
set_option maxHeartbeats 2000000 in
theorem max_any (B:Nat) (hB2:B≤1000000000000000) (S:Vx) (hn:S.length≤64) (h0:0<S.length) (hB:Bd B S) (base g:Nat) (w:World) (h:Sb w base g S) :
  Calls Tryz.prog 33 #[.slice (some ⟨g,0,none⟩) S.length S.length] w fun e w'=>(∃ z:Int,e=.returned (.int .i64 z)∧z≤(B:Int))∧w=w':=by
 have hval:Hid (∀ k,k<S.length→∃ x:Int,w.cell? ⟨g,k,none⟩=some (.int .i64 x) ∧ -1≤x∧x≤(B:Int)):=hid fun k hk=>by
  have ho:S[k]? = some S[k]:=List.getElem?_eq_getElem hk
  refine ⟨oI S[k],?_,oI_le hB ho⟩
  rw [h.cell hk]
  unfold fS
  rw [List.getD_eq_getElem?_getD,ho]; rfl
 obtain ⟨n,hnn⟩:∃ n,S.length=n:=⟨_,rfl⟩
 rw [hnn] at hval hn h0 ⊢
 clear h hnn hB
 obtain ⟨x0,y0,y1,y2⟩:=hval.out 0 h0
 have i1:(0:Int)<(n:Int):=by omega
 have i2:¬ (n:Int)<1:=by omega
 go_enter Tryz.func33,Tryz.ntmps33
 go_wp2_with fail
 go_loopw [3,4] (fun mv iv wr=>∃ (k:Nat) (z:Int),1≤k∧k≤n∧iv=.int .i64 (k:Int)∧mv=.int .i64 z ∧ -1≤z∧z≤(B:Int)∧wr=w) (fun _ iv _=>n-(intOf iv).toNat)
 case atStart=>exact ⟨1,x0,by omega,by omega,rfl,rfl,y1,y2,rfl⟩
 case round =>
  obtain ⟨k,z,hk1,hk,rfl,rfl,hz1,hz2,rfl⟩:=hrel
  by_cases hlt:k<n
  ·have j1:(k:Int)<(n:Int):=by omega
   have j0:(0:Int)≤(k:Int):=by omega
   obtain ⟨x,c1,c2,c3⟩:=hval.out k hlt
   go_wp2_with fail
   go_roundw
   case rel=>exact ⟨k+1,_,by omega,by omega,by go_num,rfl,by omega,by omega,by trivial⟩
   case measure=>simp [intOf]; omega
  ·have j1:¬ (k:Int)<(n:Int):=by omega
   go_wp2_with fail
   go_ret
   exact ⟨⟨z,rfl,hz2⟩,rfl⟩
end
end Go.Proofs.YtnapapijhhldpaaGreatDoor

/-
  Texts joined by program: TwH, Dt, Tva, TwI, TwJ, Shi. No condition of its own.
-/
import Derived.Test.YtnapapijhhldpaaGreatDoorJkAM
namespace Go.Proofs.YtnapapijhhldpaaGreatDoor
set_option linter.unusedSimpArgs false
set_option linter.unusedVariables false
set_option maxRecDepth 100000
set_option maxHeartbeats 4000000
section
open Go.RowKit
theorem q7t (a b c:Tw):qP (qP a b) c=qP a (qP b c):=by
 cases a<;>cases b<;>cases c<;>simp only [jU,zB,zY,Nat.min_assoc]
theorem q0a (A:Vx) (x:Option Nat):qG (A++[x])=qP (qG A) x:=by
 induction A with
 | nil=>show qP x none=qP none x; rw [jU,zB]
 | cons a r ih=>show qP a (qG (r++[x]))=qP (qP a (qG r)) x; rw [ih,q7t]
def j0n (S:Vx) (m k j:Nat):Option Nat:=if j<k then (S.getD j none).map (· - m) else S.getD j none
theorem j6j {S:Vx} {m k:Nat} (h:S[k]? = some none):∀ j,oV (j0n S m k j)=oV (j0n S m (k+1) j):=fun j=>by
 unfold j0n
 by_cases hj:j<k
 ·rw [if_pos hj,if_pos (by omega)]
 ·rw [if_neg hj]
  by_cases he:j=k
  ·subst he; rw [if_pos (by omega),List.getD_eq_getElem?_getD,h]; rfl
  ·rw [if_neg (by omega)]
theorem j6i {S:Vx} {m k r:Nat} (h:S[k]? = some (some r)):∀ j,q3r (fun j=>oV (j0n S m k j)) k (.int .i64 ((r-m:Nat):Int)) j=oV (j0n S m (k+1) j):=fun j=>by
 unfold q3r
 split
 ·rename_i e; subst e
  unfold j0n
  rw [if_pos (by omega),List.getD_eq_getElem?_getD,h]; rfl
 ·rename_i e
  show oV (j0n S m k j)=oV (j0n S m (k+1) j)
  unfold j0n
  by_cases hj:j<k
  ·rw [if_pos hj,if_pos (by omega)]
  ·rw [if_neg hj,if_neg (by omega)]
theorem j9o {S:Vx} {m k:Nat} (hk:S.length=k):∀ j,j<k->oV (j0n S m k j)=fS (vR S m) j:=fun j hj=>by
 unfold j0n fS vR
 rw [if_pos hj,List.getD_eq_getElem?_getD,List.getD_eq_getElem?_getD,List.getElem?_map]
 have:j<S.length:=by omega
 simp [this]
theorem q5n (base g:Nat) (S:Vx) (hn:S.length<=64) (hB:Bd 1000000000000000 S) (w:World) (h:Sb w base g S) :
  Calls Tryz.prog 28 #[.slice (some ⟨g,0,none⟩) S.length S.length] w fun e w'=>e=.returned (oV (qG S))/\Sb w' base g (vR S ((qG S).getD 0))/\Fr (fun k=>k=g) w w':=by
 have hB:=hid hB
 obtain ⟨n,hnn⟩:∃ n,S.length=n:=⟨_,rfl⟩
 unfold Sb at *
 rw [vZ]
 rw [hnn] at h hn ⊢
 have Hn:=hid hnn
 have hst:=hid h
 have hcell:=hid (fun k (hk:k<n)=>h.cell hk)
 clear hnn h
 go_enter Tryz.func28,Tryz.ntmps28
 go_wp2_with fail
 go_loopw [3,10] (fun lv iv wr=>∃ k:Nat,k<=n/\iv=.int .i64 (k:Int)/\lv=oV (qG (S.take k))/\wr=w) (fun _ iv _=>n-(intOf iv).toNat)
 case atStart=>exact ⟨0,by omega,rfl,rfl,rfl⟩
 case round =>
  obtain ⟨k,hk,rfl,rfl,rfl⟩:=hrel
  by_cases hlt:k<n
  ·have i1:(k:Int)<(n:Int):=by omega
   have i0:(0:Int)<=(k:Int):=by omega
   obtain ⟨o,ho⟩:∃ o,S[k]? = some o:=⟨_,List.getElem?_eq_getElem (by have:=Hn.out; omega)⟩
   have hsn:Hid (qG (S.take (k+1))=qP (qG (S.take k)) o):=hid (by
    rw [List.take_succ_eq_append_getElem (List.getElem?_eq_some_iff.1 ho).1,(List.getElem?_eq_some_iff.1 ho).2,q0a])
   have c1:=hcell.out k hlt
   have e1:fS S k=oV o:=by unfold fS; rw [List.getD_eq_getElem?_getD,ho]; rfl
   rw [e1] at c1
   obtain ⟨L,hL⟩:∃ L,qG (S.take k)=L:=⟨_,rfl⟩
   rw [hL] at hsn ⊢
   clear e1 hL ho
   unfold oV at c1
   unfold oV
   cases o with
   | none =>
    rw [zP] at c1
    have h2:Hid (qG (S.take (k+1))=L):=hid (by rw [hsn.out,jU])
    go_wp2_with fail
    go_roundw
    case rel=>exact ⟨k+1,by omega,by go_num,by rw [h2.out],by trivial⟩
    case measure=>simp [intOf]; omega
   | some r =>
    rw [zN] at c1
    have k1:((r:Int) != -1)=true:=by simp
    have k1':((r:Int) == -1)=false:=by rw [beq_eq_false_iff_ne]; omega
    have k2:¬ (r:Int) = -1:=by omega
    cases L with
    | none =>
     rw [zP]
     have h2:Hid (qG (S.take (k+1))=some r):=hid (by rw [hsn.out,zB])
     go_wp2_with fail
     go_roundw
     case rel=>exact ⟨k+1,by omega,by go_num,by rw [h2.out]; rfl,by trivial⟩
     case measure=>simp [intOf]; omega
    | some m =>
     rw [zN]
     have k3:((m:Int) == -1)=false:=by rw [beq_eq_false_iff_ne]; omega
     have k4:¬ (m:Int) = -1:=by omega
     by_cases hrm:r<m
     ·have h2:Hid (qG (S.take (k+1))=some r):=hid (by rw [hsn.out,zY,Nat.min_eq_right (by omega)])
      have k5:(r:Int)<(m:Int):=by omega
      go_wp2_with fail
      go_roundw
      case rel=>exact ⟨k+1,by omega,by go_num,by rw [h2.out]; rfl,by trivial⟩
      case measure=>simp [intOf]; omega
     ·have h2:Hid (qG (S.take (k+1))=some m):=hid (by rw [hsn.out,zY,Nat.min_eq_left (by omega)])
      have k5:¬ (r:Int)<(m:Int):=by omega
      go_wp2_with fail
      go_roundw
      case rel=>exact ⟨k+1,by omega,by go_num,by rw [h2.out]; rfl,by trivial⟩
      case measure=>simp [intOf]; omega
  ·obtain rfl:k=n:=by omega
   have i1:¬ (k:Int)<(k:Int):=by omega
   have htk:S.take k=S:=List.take_of_length_le (by rw [Hn.out]; exact Nat.le_refl _)
   rw [htk]
   clear htk hcell
   have hle:Hid (∀ r,some r∈S->(qG S).getD 0<=r/\(qG S).isSome=true):=hid fun r hr=>by
    have:=kW hr
    cases hl:qG S with
    | none=>rw [hl] at this; cases this
    | some m=>rw [hl] at this; exact ⟨this,rfl⟩
   obtain ⟨L,hL⟩:∃ L,qG S=L:=⟨_,rfl⟩
   rw [hL] at hle ⊢
   have HL:=hid hL
   clear hL
   obtain ⟨m,hm⟩:∃ m,L.getD 0=m:=⟨_,rfl⟩
   rw [hm] at hle
   have Hm:=hid hm
   clear hm
   obtain ⟨lv,hlv⟩:∃ lv,oV L=lv:=⟨_,rfl⟩
   rw [hlv]
   have Hlv:=hid hlv
   clear hlv
   go_wp2_with fail
   go_loopw [29] (fun iv wq=>∃ j:Nat,j<=k/\iv=.int .i64 (j:Int)/\Rw 3 wq base (.slice (some ⟨g,0,none⟩) k k) k (fun i=>oV (j0n S m j i))/\Fr (fun i=>i=g) wr wq) (fun iv _=>k-(intOf iv).toNat)
   case atStart=>exact ⟨0,by omega,rfl,hst.out.congr (fun i _=>by unfold j0n fS; rw [if_neg (by omega)]),Fr.refl _ _⟩
   case round =>
    obtain ⟨j,hj,rfl,hrow,hfr⟩:=hrel
    by_cases hlt:j<k
    ·have i1:(j:Int)<(k:Int):=by omega
     have i0:(0:Int)<=(j:Int):=by omega
     obtain ⟨o,ho⟩:∃ o,S[j]? = some o:=⟨_,List.getElem?_eq_getElem (by have:=Hn.out; omega)⟩
     have c1:=hrow.cell hlt
     have c2:=hrow.free j
     have e1:j0n S m j j=o:=by unfold j0n; rw [if_neg (by omega),List.getD_eq_getElem?_getD,ho]; rfl
     simp only [e1] at c1
     clear e1
     unfold oV at c1
     cases o with
     | none =>
      rw [zP] at c1
      have hsk:=hid (j6j (m:=m) ho)
      clear ho
      go_wp2_with fail
      go_roundw
      case rel=>exact ⟨j+1,by omega,by go_num,hrow.congr (fun i _=>hsk.out i),hfr⟩
      case measure=>simp [intOf]; omega
     | some r =>
      rw [zN] at c1
      have hrm:=hle.out r (List.mem_of_getElem? ho)
      have hsk:=hid (j6i (m:=m) ho)
      have hrB:=hB.out r (List.mem_of_getElem? ho)
      clear ho
      have hLm:L=some m:=by
       have h1:=Hm.out
       cases L with
       | none=>exact absurd hrm.2 (by simp)
       | some x=>simp at h1; rw [h1]
      have hlv2:lv=.int .i64 (m:Int):=by rw [<-Hlv.out,hLm]; rfl
      clear hLm
      subst hlv2
      have k1:((r:Int) != -1)=true:=by simp
      have k1':((r:Int) == -1)=false:=by rw [beq_eq_false_iff_ne]; omega
      have k2:¬ (r:Int) = -1:=by omega
      have k3:=hrm.1
      have k4:((r-m:Nat):Int)=(r:Int)-(m:Int):=by omega
      rw [k4] at hsk
      clear k4
      go_wp2_with fail
      go_roundw
      case rel=>exact ⟨j+1,by omega,by go_num,(hrow.put j _).congr (fun i _=>hsk.out i),hfr.trans (Fr.set (T:=fun i=>i=g) _ (p:=⟨g,j,none⟩) rfl _)⟩
      case measure=>simp [intOf]; omega
    ·obtain rfl:j=k:=by omega
     have i1:¬ (j:Int)<(j:Int):=by omega
     have hend:=hid (j9o (m:=m) Hn.out)
     go_wp2_with fail
     go_ret
     exact ⟨congrArg Ending.returned (by rw [HL.out]; exact Hlv.out.symm),by rw [HL.out,Hm.out]; exact hrow.congr (fun i hi=>hend.out i hi),hfr⟩
end
section
def q1y (us:List Bool):List Nat:=(List.range us.length).filter fun q=>us.getD q false
def q1z (us:List Bool) (q:Nat):Nat:=((List.range q).filter fun p=>us.getD p false).length
def zS (us:List Bool) (N:List Ac):List Ac:=(N.filter fun x=>us.getD x.1 false&&us.getD x.2.2.1 false).map fun x=>(q1z us x.1,x.2.1,q1z us x.2.2.1,x.2.2.2)
def pr (us:List Bool) (S:List (Option Nat)):List (Option Nat):=(q1y us).map fun q=>S.getD q none
def q0w (us:List Bool) (A:Au):Au:=⟨(q1y us).length,pr us A.ini,pr us A.fin,zS us A.arcs⟩
theorem j0a {n q:Nat} (h:q<n):List.range n=List.range q++q::(List.range (n-q-1)).map (· + (q+1)):=by
 obtain ⟨m,rfl⟩:∃ m,n=q+(m+1):=⟨n-q-1,by omega⟩
 rw [List.range_add,show q+(m+1)-q-1=m by omega,List.range_succ_eq_map,List.map_cons,List.map_map]
 congr 2
 refine List.map_congr_left fun i _=>?_
 show q+(i+1)=i+(q+1)
 omega
theorem q4r {us:List Bool} {q:Nat} (h:us.getD q false=true):(q1y us)[q1z us q]? = some q:=by
 have hq:=j8g h
 unfold q1y q1z
 rw [j0a hq,List.filter_append,List.filter_cons,if_pos h,List.getElem?_append_right (Nat.le_refl _),Nat.sub_self]
 rfl
theorem z1i {us:List Bool} {q:Nat} (h:us.getD q false=true):q1z us q<(q1y us).length:=(List.getElem?_eq_some_iff.1 (q4r h)).1
theorem z1g {us:List Bool} {j q:Nat} (h:(q1y us)[j]? = some q):us.getD q false=true:=by
 have:=List.mem_of_getElem? h
 unfold q1y at this
 exact (List.mem_filter.1 this).2
theorem z2r {us:List Bool} {j q:Nat} (h:(q1y us)[j]? = some q):q1z us q=j:=by
 have h1:=q4r (z1g h)
 have hn:(q1y us).Pairwise (· < ·):=List.Pairwise.filter _ List.pairwise_lt_range
 have hj:=(List.getElem?_eq_some_iff.1 h).1
 have hk:=(List.getElem?_eq_some_iff.1 h1).1
 have e1:=(List.getElem?_eq_some_iff.1 h).2
 have e2:=(List.getElem?_eq_some_iff.1 h1).2
 rcases Nat.lt_trichotomy (q1z us q) j with k | k | k
 ·have:=List.pairwise_iff_getElem.1 hn _ _ hk hj k
  omega
 ·exact k
 ·have:=List.pairwise_iff_getElem.1 hn _ _ hj hk k
  omega
theorem q1d {us:List Bool} {S:Vx} {j r:Nat}:Has (pr us S) j r↔∃ q,(q1y us)[j]? = some q/\Has S q r:=by
 unfold Has pr
 rw [List.getElem?_map]
 cases (q1y us)[j]? with
 | none=>simp
 | some q =>
  simp only [Option.map_some,Option.some.injEq,exists_eq_left',List.getD_eq_getElem?_getD]
  cases S[q]? with
  | none=>simp
  | some o=>simp
theorem q3l (us:List Bool) (S:Vx):(pr us S).length=(q1y us).length:=by simp [pr]
def Su (us:List Bool) (S:Vx):Prop:=∀ q r,Has S q r->us.getD q false=true
theorem q8i {us:List Bool} {S:Vx} (h:Su us S) {q r:Nat}:Has S q r↔(us.getD q false=true/\Has (pr us S) (q1z us q) r):=by
 constructor
 ·intro k
  have hu:=h q r k
  exact ⟨hu,q1d.2 ⟨q,q4r hu,k⟩⟩
 ·rintro ⟨hu,k⟩
  obtain ⟨p,hp,k⟩:=q1d.1 k
  rw [q4r hu] at hp
  cases hp
  exact k
theorem z5a {us:List Bool} {S T:Vx} (hS:Su us S) (hT:Su us T) (hl:S.length=T.length) (h:pr us S=pr us T):S=T:=q5k hl fun j r=>by rw [q8i hS,q8i hT,h]
theorem j7w {S T:Vx} (h:∀ r,(∃ j,Has S j r)↔∃ j,Has T j r):qG S=qG T:=by
 cases hs:qG S with
 | none =>
  symm
  refine kQ fun j r hr=>?_
  obtain ⟨i,hi⟩:=(h r).2 ⟨j,hr⟩
  have:=kW (List.mem_of_getElem? hi)
  rw [hs] at this
  exact absurd this (by simp [q5h])
 | some m =>
  obtain ⟨i,hi⟩:=List.getElem?_of_mem (zZ hs)
  obtain ⟨j,hj⟩:=(h m).1 ⟨i,hi⟩
  symm
  refine q1r hj fun k r hr=>?_
  obtain ⟨i',hi'⟩:=(h r).2 ⟨k,hr⟩
  have:=kW (List.mem_of_getElem? hi')
  rw [hs] at this
  exact this
theorem j9f {us:List Bool} {S:Vx} (h:Su us S):qG (pr us S)=qG S:=j7w fun r=>by
 constructor
 ·rintro ⟨j,hj⟩
  obtain ⟨q,_,hq⟩:=q1d.1 hj
  exact ⟨q,hq⟩
 ·rintro ⟨q,hq⟩
  exact ⟨q1z us q,((q8i h).1 hq).2⟩
theorem z4z {us:List Bool} {S:Vx} (m:Nat):pr us (vR S m)=vR (pr us S) m:=q5k (by rw [q3l,vZ,q3l]) fun j r=>by
 rw [q1d,vV]
 constructor
 ·rintro ⟨q,h1,h2⟩
  obtain ⟨u,hu,e⟩:=vV.1 h2
  exact ⟨u,q1d.2 ⟨q,h1,hu⟩,e⟩
 ·rintro ⟨u,hu,e⟩
  obtain ⟨q,h1,h2⟩:=q1d.1 hu
  exact ⟨q,h1,vV.2 ⟨u,h2,e⟩⟩
theorem j5a {N:List Ac} {us:List Bool} {R:Vx} {l:Nat} (hl:us.length<=R.length):Su us (vQ N us R l):=fun q r hr=>by
 obtain ⟨x,_,_,_,k,_⟩:=(vK hl).1 q r hr
 exact k
theorem z1b {us:List Bool} {S:Vx} {m:Nat} (h:Su us S):Su us (vR S m):=fun q r hr=>by
 obtain ⟨u,hu,_⟩:=vV.1 hr
 exact h q u hu
theorem q6f {S T:Vx} {C:Nat->Nat->Prop} (h:Bst S C) (k:Bst T C) (hl:S.length=T.length):S=T:=q5k hl fun j r=>by
 have key:∀ {S T:Vx},Bst S C->Bst T C->Has S j r->Has T j r:=fun {S T} h k hr=>by
  obtain ⟨u,hu,h1⟩:=k.2 j r (h.1 j r hr)
  obtain ⟨v,hv,h2⟩:=h.2 j u (k.1 j u hu)
  have:=hv.unique hr
  have:u=r:=by omega
  rw [<-this]; exact hu
 exact ⟨key h k,key k h⟩
theorem z2l {N:List Ac} {us:List Bool} {R:Vx} {l:Nat} (hl:us.length=R.length) (hR:Su us R):vQ (zS us N) (List.replicate (q1y us).length true) (pr us R) l=pr us (vQ N us R l):=by
 have h1:=vK (N:=zS us N) (us:=List.replicate (q1y us).length true) (R:=pr us R) (l:=l) (by rw [q3l]; simp)
 have h0:=vK (N:=N) (us:=us) (R:=R) (l:=l) (Nat.le_of_eq hl)
 have hc:∀ j m,j8b (zS us N) (List.replicate (q1y us).length true) (pr us R) l j m↔∃ q,(q1y us)[j]? = some q/\j8b N us R l q m:=fun j m=>by
  constructor
  ·rintro ⟨x,hx,k1,k2,k3,r,k4,k5⟩
   unfold zS at hx
   obtain ⟨y,hy,rfl⟩:=List.mem_map.1 hx
   obtain ⟨hy1,hy2⟩:=List.mem_filter.1 hy
   simp only [Bool.and_eq_true] at hy2
   refine ⟨y.2.2.1,?_,y,hy1,k1,rfl,hy2.2,r,?_,k5⟩
   ·rw [<-k2]; exact q4r hy2.2
   ·exact (q8i hR).2 ⟨hy2.1,k4⟩
  ·rintro ⟨q,hq,x,hx,k1,k2,k3,r,k4,k5⟩
   have hx1:=hR _ _ k4
   refine ⟨(q1z us x.1,x.2.1,q1z us x.2.2.1,x.2.2.2),?_,k1,?_,?_,r,((q8i hR).1 k4).2,k5⟩
   ·unfold zS
    refine List.mem_map.2 ⟨x,List.mem_filter.2 ⟨hx,?_⟩,rfl⟩
    rw [hx1,k2,k3]; rfl
   ·simp only; rw [k2]; exact z2r hq
   ·have:=(List.getElem?_eq_some_iff.1 hq).1
    simp [List.getD_eq_getElem?_getD,this]
 refine q6f (h1.congr hc) ⟨fun j m h=>?_,fun j m ⟨q,hq,h⟩=>?_⟩ (by rw [kB,q3l,q3l])
 ·obtain ⟨q,hq,k⟩:=q1d.1 h
  exact ⟨q,hq,h0.1 q m k⟩
 ·obtain ⟨u,hu,k⟩:=h0.2 q m h
  exact ⟨u,q1d.2 ⟨q,hq,hu⟩,k⟩
theorem j5u {us:List Bool} {S:Vx} (h:Su us S):q3h (pr us S)=(q3h S).map fun p=>(p.1,pr us p.2):=by
 unfold q3h
 rw [j9f h]
 cases qG S with
 | none=>rfl
 | some m=>simp [z4z]
def prD (us:List Bool) (X:Ds) (A:List Ac):Ds:=⟨X.subs.map (pr us),A⟩
theorem z3d {us:List Bool} {L:List Vx} {v:Vx} {n:Nat} (hL:∀ w∈L,Su us w/\w.length=n) (hv:Su us v/\v.length=n):(L.map (pr us)).findIdx? (· == pr us v)=L.findIdx? (· == v):=by
 induction L with
 | nil=>rfl
 | cons w L ih =>
  have hw:=hL w List.mem_cons_self
  rw [List.map_cons,List.findIdx?_cons,List.findIdx?_cons,ih fun x hx=>hL x (List.mem_cons_of_mem _ hx)]
  have:(pr us w==pr us v)=(w==v):=by
   by_cases e:w=v
   ·subst e; simp
   ·have:¬ pr us w=pr us v:=fun k=>e (z5a hw.1 hv.1 (by rw [hw.2,hv.2]) k)
    rw [beq_eq_false_iff_ne.2 e,beq_eq_false_iff_ne.2 this]
  rw [this]
theorem z5d {N:List Ac} {us:List Bool} {k l:Nat} {X:Ds} {A:List Ac} (hk:k<X.subs.length) (hX:∀ w∈X.subs,Su us w/\w.length=us.length) :
  (∀ Y,q0m N us k l X=some Y->(∀ w∈Y.subs,Su us w/\w.length=us.length)/\∃ A',q0m (zS us N) (List.replicate (q1y us).length true) k l (prD us X A)=some (prD us Y A')) /\
  (q0m N us k l X=none->q0m (zS us N) (List.replicate (q1y us).length true) k l (prD us X A)=none):=by
 obtain ⟨v,hv⟩:∃ v,X.subs[k]? = some v:=⟨_,List.getElem?_eq_getElem hk⟩
 have hget:X.subs.getD k []=v:=by rw [List.getD_eq_getElem?_getD,hv]; rfl
 have hgetP:(prD us X A).subs.getD k []=pr us v:=by
  rw [List.getD_eq_getElem?_getD]
  show ((X.subs.map (pr us))[k]?).getD []=_
  rw [List.getElem?_map,hv]; rfl
 obtain ⟨hv1,hv2⟩:=hX v (List.mem_of_getElem? hv)
 unfold q0m
 rw [hget,hgetP,z2l (N:=N) (l:=l) hv2.symm hv1,j5u (j5a (Nat.le_of_eq hv2.symm))]
 cases hs:q3h (vQ N us v l) with
 | none=>exact ⟨fun Y h=>by cases h; exact ⟨hX,A,rfl⟩,fun h=>by cases h⟩
 | some p =>
  obtain ⟨c,nx⟩:=p
  obtain ⟨e1,e2⟩:=vM hs
  have hnx:Su us nx/\nx.length=us.length:=by
   rw [e2]
   exact ⟨z1b (j5a (Nat.le_of_eq hv2.symm)),by rw [vZ,kB,hv2]⟩
  simp only [Option.map_some]
  have hf:=z3d (L:=X.subs) hX hnx
  rw [show (prD us X A).subs=X.subs.map (pr us) from rfl,hf]
  cases X.subs.findIdx? (· == nx) with
  | some num=>exact ⟨fun Y h=>by cases h; exact ⟨hX,_,rfl⟩,fun h=>by cases h⟩
  | none =>
   simp only [List.length_map]
   by_cases h64:X.subs.length=64
   ·rw [if_pos h64,if_pos h64]
    exact ⟨fun Y h=>(by cases h),fun _=>rfl⟩
   ·rw [if_neg h64,if_neg h64]
    refine ⟨fun Y h=>?_,fun h=>by cases h⟩
    cases h
    refine ⟨fun w hw=>?_,_,by unfold prD; rw [List.map_append]; rfl⟩
    rcases List.mem_append.1 hw with hw | hw
    ·exact hX w hw
    ·obtain rfl:w=nx:=by simpa using hw
     exact hnx
theorem z2o {N:List Ac} {us:List Bool} {k l:Nat} {X Y:Ds} (h:q0m N us k l X=some Y):X.subs.length<=Y.subs.length:=by
 unfold q0m at h
 split at h
 ·cases h; exact Nat.le_refl _
 ·split at h
  ·cases h; exact Nat.le_refl _
  ·split at h
   ·cases h
   ·cases h; simp
theorem z1d {N:List Ac} {us:List Bool} {k:Nat}:∀ (n l:Nat) {X:Ds} {A:List Ac},k<X.subs.length->(∀ w∈X.subs,Su us w/\w.length=us.length) ->
  (∀ Y,q0j N us k n l X=some Y->X.subs.length<=Y.subs.length/\(∀ w∈Y.subs,Su us w/\w.length=us.length)/\∃ A',q0j (zS us N) (List.replicate (q1y us).length true) k n l (prD us X A)=some (prD us Y A')) /\
  (q0j N us k n l X=none->q0j (zS us N) (List.replicate (q1y us).length true) k n l (prD us X A)=none)
 | 0,l,X,A,hk,hX=>⟨fun Y h=>by cases h; exact ⟨Nat.le_refl _,hX,A,rfl⟩,fun h=>by cases h⟩
 | n+1,l,X,A,hk,hX=>by
  obtain ⟨h1,h2⟩:=z5d (N:=N) (l:=l) (A:=A) hk hX
  unfold q0j
  cases ho:q0m N us k l X with
  | none=>rw [h2 ho]; exact ⟨fun Y h=>(by cases h),fun _=>rfl⟩
  | some Z =>
   obtain ⟨hZ,A',hA'⟩:=h1 Z ho
   rw [hA']
   have hlen:=z2o ho
   obtain ⟨g1,g2⟩:=z1d n (l+1) (N:=N) (A:=A') (Nat.lt_of_lt_of_le hk hlen) hZ
   refine ⟨fun Y h=>?_,g2⟩
   obtain ⟨k1,k2⟩:=g1 Y h
   exact ⟨by omega,k2⟩
theorem z1c {N:List Ac} {us:List Bool} {syms:Nat}:∀ (f k:Nat) {X:Ds} {A:List Ac},(∀ w∈X.subs,Su us w/\w.length=us.length) ->
  (q0q N us syms f k X).isSome=(q0q (zS us N) (List.replicate (q1y us).length true) syms f k (prD us X A)).isSome
 | 0,k,X,A,hX=>rfl
 | f+1,k,X,A,hX=>by
  unfold q0q
  rw [show (prD us X A).subs.length=X.subs.length by simp [prD]]
  by_cases hk:X.subs.length<=k
  ·rw [if_pos hk,if_pos hk]; rfl
  ·rw [if_neg hk,if_neg hk]
   obtain ⟨g1,g2⟩:=z1d syms 1 (N:=N) (A:=A) (Nat.lt_of_not_le hk) hX
   cases hr:q0j N us k syms 1 X with
   | none=>rw [g2 hr]
   | some Y =>
    obtain ⟨-, k2,A',k3⟩:=g1 Y hr
    rw [k3]
    exact z1c f (k+1) k2
theorem z0g {syms:Nat} {us:List Bool} {A:Au} (hi:A.ini.length=us.length):(q1v syms us A).isSome=(q1v syms (List.replicate (q1y us).length true) (q0w us A)).isSome:=by
 have hsu:Su us (jX us A.ini):=fun q r hr=>q7s.2 (zM.1 hr).1
 have hlen:(jX us A.ini).length=us.length:=by simp [jX,hi]
 have hf:jX (List.replicate (q1y us).length true) (q0w us A).ini=pr us (jX us A.ini):=q5k (by rw [q3l]; simp [jX,q0w,pr]) fun j r=>by
  rw [zM,q1d]
  constructor
  ·rintro ⟨h1,h2⟩
   have h2':Has (pr us A.ini) j r:=h2
   obtain ⟨q,hq,h3⟩:=q1d.1 h2'
   exact ⟨q,hq,zM.2 ⟨q7s.1 (z1g hq),h3⟩⟩
  ·rintro ⟨q,hq,h⟩
   obtain ⟨h1,h2⟩:=zM.1 h
   have hj:=(List.getElem?_eq_some_iff.1 hq).1
   exact ⟨by simp [List.getElem?_replicate,hj],q1d.2 ⟨q,hq,h2⟩⟩
 unfold q1v
 rw [hf,j5u hsu]
 cases hs:q3h (jX us A.ini) with
 | none=>rfl
 | some p =>
  obtain ⟨c,f⟩:=p
  obtain ⟨e1,e2⟩:=vM hs
  simp only [Option.map_some]
  have hX:∀ w∈(Ds.mk [f] []).subs,Su us w/\w.length=us.length:=fun w hw=>by
   obtain rfl:w=f:=by simpa using hw
   rw [e2]
   exact ⟨z1b hsu,by rw [vZ,hlen]⟩
  have:=z1c (N:=A.arcs) (syms:=syms) 66 0 (A:=[]) hX
  rw [show prD us ⟨[f],[]⟩ []=⟨[pr us f],[]⟩ from rfl] at this
  rw [show (q0w us A).arcs=zS us A.arcs from rfl]
  cases h1:q0q A.arcs us syms 66 0 ⟨[f],[]⟩<;>cases h2:q0q (zS us A.arcs) (List.replicate (q1y us).length true) syms 66 0 ⟨[pr us f],[]⟩<;>rw [h1,h2] at this<;>simp at this ⊢
end
section
def j1x (v:Vx) (x:Ac) (S:Vx):Vx:=S.set x.2.2.1 (qP (S.getD x.2.2.1 none) (jH (v.getD x.1 none) (wt x)))
def q2w (l:Nat) (v:Vx) (L:List Ac) (S:Vx):Vx:=L.foldl (fun S x=>if x.2.1=l then j1x v x S else S) S
theorem j9m (v:Vx) (x:Ac) (S:Vx):(j1x v x S).length=S.length:=by unfold j1x; simp
theorem q0x (l:Nat) (v:Vx):∀ (L:List Ac) (S:Vx),(q2w l v L S).length=S.length
 | [],S=>rfl
 | x::L,S=>by
  show (q2w l v L (if x.2.1=l then j1x v x S else S)).length=_
  rw [q0x l v L]
  split
  ·exact j9m v x S
  ·rfl
theorem q7y (l:Nat) (v:Vx) {L:List Ac} {k:Nat} {x:Ac} (h:L[k]? = some x) (S:Vx):q2w l v (L.take (k+1)) S=if x.2.1=l then j1x v x (q2w l v (L.take k) S) else q2w l v (L.take k) S:=by
 unfold q2w
 rw [List.take_add_one,h,List.foldl_append]; rfl
theorem j6h {v:Vx} {x:Ac} {S:Vx} (h:v.getD x.1 none=none) (hq:x.2.2.1<S.length):j1x v x S=S:=by
 unfold j1x
 rw [h]
 have:jH none (wt x)=none:=by cases wt x<;>rfl
 rw [this,jU,List.getD_eq_getElem?_getD,List.getElem?_eq_getElem hq]
 simp
theorem j6g {v:Vx} {x:Ac} {S:Vx} {r c:Nat} (h:v.getD x.1 none=some r) (hc:wt x=some c) (hb:r+c<=1099511627776) (hq:x.2.2.1<S.length):j1x v x S=vY S x.2.2.1 (r+c):=by
 unfold j1x
 rw [h,hc]
 have ht:jH (some r) (some c)=some (r+c):=by
  show (if r+c<=1099511627776 then some (r+c) else none)=_
  rw [if_pos hb]
 rw [ht]
 obtain ⟨o,ho⟩:∃ o,S[x.2.2.1]? = some o:=⟨_,List.getElem?_eq_getElem hq⟩
 have hg:S.getD x.2.2.1 none=o:=by rw [List.getD_eq_getElem?_getD,ho]; rfl
 rw [hg]
 cases o with
 | none =>
  rw [zB]
  unfold vY; rw [ho]
 | some u =>
  rw [zY]
  unfold vY; rw [ho]
  simp only
  split
  ·rw [Nat.min_eq_right (by omega)]
  ·rw [Nat.min_eq_left (by omega)]
   have he:=(List.getElem?_eq_some_iff.1 ho).2
   rw [<-he]; simp
theorem q3z {l B C:Nat} {v:Vx} (hv:Bd B v) (hBC:B+C<=1099511627776):∀ (L:List Ac) {S:Vx} {D:Nat->Nat->Prop},(∀ x∈L,x.2.2.1<S.length/\nz x=true/\cst x<=C)->Bst S D ->
  Bst (q2w l v L S) (fun j m=>D j m\/∃ x∈L,x.2.1=l/\x.2.2.1=j/\∃ r,Has v x.1 r/\m=r+cst x)
 | [],S,D,_,h=>h.congr fun j m=>⟨fun h=>.inl h,fun h=>by
   rcases h with h | ⟨x,hx,_⟩
   ·exact h
   ·cases hx⟩
 | x::L,S,D,hL,h=>by
  obtain ⟨h1,h2,h3⟩:=hL x List.mem_cons_self
  have hL':∀ S':Vx,S'.length=S.length->∀ y∈L,y.2.2.1<S'.length/\nz y=true/\cst y<=C:=fun S' e y hy=>by rw [e]; exact hL y (List.mem_cons_of_mem _ hy)
  show Bst (q2w l v L (if x.2.1=l then j1x v x S else S)) _
  by_cases hl:x.2.1=l
  ·rw [if_pos hl]
   obtain ⟨c,hc⟩:∃ c,wt x=some c:=by
    unfold nz at h2
    cases e:wt x with
    | none=>rw [e] at h2; cases h2
    | some c=>exact ⟨c,rfl⟩
   have hcx:cst x=c:=by unfold cst; rw [hc]; rfl
   cases e:v.getD x.1 none with
   | none =>
    rw [j6h e h1]
    refine (q3z hv hBC L (hL' S rfl) h).congr fun j m=>⟨fun k=>?_,fun k=>?_⟩
    ·rcases k with k | ⟨y,hy,k⟩
     ·exact .inl k
     ·exact .inr ⟨y,List.mem_cons_of_mem _ hy,k⟩
    ·rcases k with k | ⟨y,hy,k1,k2,r,k3,k4⟩
     ·exact .inl k
     ·rcases List.mem_cons.1 hy with rfl | hy
      ·unfold Has at k3
       rw [List.getD_eq_getElem?_getD,k3] at e; cases e
      ·exact .inr ⟨y,hy,k1,k2,r,k3,k4⟩
   | some r =>
    have hr:Has v x.1 r:=by
     unfold Has
     rw [List.getD_eq_getElem?_getD] at e
     cases e2:v[x.1]? with
     | none=>rw [e2] at e; cases e
     | some o=>rw [e2] at e; rw [show o=some r from e]
    have hrB:=hv r (List.mem_of_getElem? hr)
    rw [j6g e hc (by omega) h1]
    refine (q3z hv hBC L (hL' _ (q2o _ _ _)) (h.note (r:=r+c) h1)).congr fun j m=>⟨fun k=>?_,fun k=>?_⟩
    ·rcases k with (k | ⟨rfl,rfl⟩) | ⟨y,hy,k⟩
     ·exact .inl k
     ·exact .inr ⟨x,List.mem_cons_self,hl,rfl,r,hr,by rw [hcx]⟩
     ·exact .inr ⟨y,List.mem_cons_of_mem _ hy,k⟩
    ·rcases k with k | ⟨y,hy,k1,k2,r',k3,k4⟩
     ·exact .inl (.inl k)
     ·rcases List.mem_cons.1 hy with rfl | hy
      ·have:=k3.unique hr
       subst this
       exact .inl (.inr ⟨k2.symm,by rw [k4,hcx]⟩)
      ·exact .inr ⟨y,hy,k1,k2,r',k3,k4⟩
  ·rw [if_neg hl]
   refine (q3z hv hBC L (hL' S rfl) h).congr fun j m=>⟨fun k=>?_,fun k=>?_⟩
   ·rcases k with k | ⟨y,hy,k⟩
    ·exact .inl k
    ·exact .inr ⟨y,List.mem_cons_of_mem _ hy,k⟩
   ·rcases k with k | ⟨y,hy,k1,k⟩
    ·exact .inl k
    ·rcases List.mem_cons.1 hy with rfl | hy
     ·exact absurd k1 hl
     ·exact .inr ⟨y,hy,k1,k⟩
theorem j4x {A:Au} {syms l B C:Nat} {v:Vx} (hA:Aok A syms) (hC:∀ x∈A.arcs,cst x<=C) (hv:Bd B v) (hl:v.length=A.st) (hBC:B+C<=1099511627776):q2w l v A.arcs (List.replicate A.st none)=q0p A v l:=by
 have h0:Bst (List.replicate A.st (none:Option Nat)) (fun _ _=>False):=⟨fun j m h=>(by
  unfold Has at h
  rw [List.getElem?_replicate] at h
  split at h
  ·cases h
  ·cases h),fun j m h=>False.elim h⟩
 have h1:=q3z (l:=l) hv hBC A.arcs (S:=List.replicate A.st none) (fun x hx=>by
  obtain ⟨a,b,c,d,e⟩:=hA.arc x hx
  exact ⟨by rw [List.length_replicate]; exact b,e,hC x hx⟩) h0
 have h2:Bst (q0p A v l) (j8b A.arcs (List.replicate A.st true) v l):=vK (by rw [List.length_replicate,hl]; exact Nat.le_refl _)
 refine q6f (h1.congr (D:=j8b A.arcs (List.replicate A.st true) v l) fun j m=>⟨fun h=>?_,fun h=>?_⟩) h2 (by rw [q0x,List.length_replicate,q2i,hl])
 ·rcases h with h | ⟨x,hx,e1,e2,r,hr,e3⟩
  ·exact False.elim h
  ·exact ⟨x,hx,e1,e2,by rw [<-e2]; exact q6r (hA.arc x hx).2.1,r,hr,e3⟩
 ·obtain ⟨x,hx,e1,e2,_,r,hr,e3⟩:=h
  exact .inr ⟨x,hx,e1,e2,r,hr,e3⟩
theorem z0k {A:Au} {l B C:Nat} {v:Vx} (hC:∀ x∈A.arcs,cst x<=C) (hv:Bd B v):Bd (B+C) (q0p A v l):=q0v hv hC _
def q7f (v w:List Tw) (n:Nat):Tw:=(List.range n).foldl (fun a i=>qP a (jH (v.getD i none) (w.getD i none))) none
theorem q2u (v w:List Tw) (n:Nat):q7f v w (n+1)=qP (q7f v w n) (jH (v.getD n none) (w.getD n none)):=by
 unfold q7f; rw [List.range_succ,List.foldl_append]; rfl
theorem j3z {a b:Tw} (h:∀ x y,a=some x->b=some y->x+y<=1099511627776):jH a b=vJ a b:=by
 cases a with
 | none=>cases b<;>rfl
 | some x =>
  cases b with
  | none=>rfl
  | some y =>
   show (if x+y<=1099511627776 then some (x+y) else none)=_
   rw [if_pos (h x y rfl rfl)]; rfl
theorem j7h {v w:Vx} (hl:v.length=w.length) (hb:∀ i x y:Nat,v[i]? = some (some x)->w[i]? = some (some y)->x+y<=1099511627776):∀ n,n<=v.length->q7f v w n=qG ((List.zipWith vJ v w).take n)
 | 0,_=>rfl
 | n+1,hn=>by
  obtain ⟨a,ha⟩:∃ a,v[n]? = some a:=⟨_,List.getElem?_eq_getElem (by omega)⟩
  obtain ⟨b,hb'⟩:∃ b,w[n]? = some b:=⟨_,List.getElem?_eq_getElem (by omega)⟩
  have hz:(List.zipWith vJ v w)[n]? = some (vJ a b):=by rw [List.getElem?_zipWith,ha,hb']
  rw [q2u,jR hz,q0a,<-j7h hl hb n (by omega),List.getD_eq_getElem?_getD,List.getD_eq_getElem?_getD,ha,hb']
  simp only [Option.getD_some]
  rw [j3z fun x y e1 e2=>hb n x y (by rw [ha,e1]) (by rw [hb',e2])]
theorem z0c {v w:Vx} (hl:v.length=w.length) (hb:∀ i x y:Nat,v[i]? = some (some x)->w[i]? = some (some y)->x+y<=1099511627776):q7f v w v.length=q0i w v:=by
 rw [j7h hl hb v.length (Nat.le_refl _),List.take_of_length_le (by rw [List.length_zipWith]; omega)]; rfl
end
section
open Go.RowKit
theorem z5h {B:Nat} {S:Vx} (hB:Bd B S) {k:Nat} {o:Option Nat} (h:S[k]? = some o) : -1<=oI o/\oI o<=(B:Int):=by
 cases o with
 | none=>exact ⟨by rw [zP]; omega,by rw [zP]; omega⟩
 | some r=>have:=hB r (List.mem_of_getElem? h); exact ⟨by rw [zN]; omega,by rw [zN]; omega⟩
theorem z2u (B:Nat) (hB2:B<=1000000000000000) (S:Vx) (hn:S.length<=64) (h0:0<S.length) (hB:Bd B S) (base g:Nat) (w:World) (h:Sb w base g S) :
  Calls Tryz.prog 33 #[.slice (some ⟨g,0,none⟩) S.length S.length] w fun e w'=>(∃ z:Int,e=.returned (.int .i64 z)/\z<=(B:Int))/\w=w':=by
 have hval:Hid (∀ k,k<S.length->∃ x:Int,w.cell? ⟨g,k,none⟩=some (.int .i64 x) /\ -1<=x/\x<=(B:Int)):=hid fun k hk=>by
  have ho:S[k]? = some S[k]:=List.getElem?_eq_getElem hk
  refine ⟨oI S[k],?_,z5h hB ho⟩
  rw [h.cell hk]
  unfold fS
  rw [List.getD_eq_getElem?_getD,ho]; rfl
 obtain ⟨n,hnn⟩:∃ n,S.length=n:=⟨_,rfl⟩
 rw [hnn] at hval hn h0 ⊢
 clear h hnn hB
 obtain ⟨x0,y0,y1,y2⟩:=hval.out 0 h0
 have i1:(0:Int)<(n:Int):=by omega
 have i2:¬ (n:Int)<1:=by omega
 go_enter Tryz.func33,Tryz.ntmps33
 go_wp2_with fail
 go_loopw [3,4] (fun mv iv wr=>∃ (k:Nat) (z:Int),1<=k/\k<=n/\iv=.int .i64 (k:Int)/\mv=.int .i64 z /\ -1<=z/\z<=(B:Int)/\wr=w) (fun _ iv _=>n-(intOf iv).toNat)
 case atStart=>exact ⟨1,x0,by omega,by omega,rfl,rfl,y1,y2,rfl⟩
 case round =>
  obtain ⟨k,z,hk1,hk,rfl,rfl,hz1,hz2,rfl⟩:=hrel
  by_cases hlt:k<n
  ·have j1:(k:Int)<(n:Int):=by omega
   have j0:(0:Int)<=(k:Int):=by omega
   obtain ⟨x,c1,c2,c3⟩:=hval.out k hlt
   go_wp2_with fail
   go_roundw
   case rel=>exact ⟨k+1,_,by omega,by omega,by go_num,rfl,by omega,by omega,by trivial⟩
   case measure=>simp [intOf]; omega
  ·have j1:¬ (k:Int)<(n:Int):=by omega
   go_wp2_with fail
   go_ret
   exact ⟨⟨z,rfl,hz2⟩,rfl⟩
end
section
open Go.Shelf Go.RowKit
theorem Tryz.infoI64:(Tryz.prog.info? 3).map (fun i=>(i.zero,i.size,i.bytes))=some (some (.int .i64 0),1,8):=by kernel_rfl
def Tryz.lays212_ren:Go.Shelf.Ren:=⟨fun | 212=>91 | 263=>133 | 264=>134 | n=>n,fun | 46=>141 | 51=>170 | 146=>182 | 53=>42 | 148=>184 | n=>n,fun | n=>n⟩
theorem Tryz.lays212:Go.Proofs.Lays.n212 Tryz.prog Tryz.lays212_ren:={
 mixed:=by kernel_rfl
 f212:=Tryz.func91.trans (congrArg some (by kernel_rfl))
 f263:=Tryz.func133.trans (congrArg some (by kernel_rfl))
 f264:=Tryz.func134.trans (congrArg some (by kernel_rfl))
 t46:=Tryz.underlying141
 a46:=Tryz.isAgg141
 z46:=Tryz.sizeOf141
 v46:=Tryz.zeroValue141
 t51:=Tryz.underlying170
 a51:=Tryz.isAgg170
 z51:=Tryz.sizeOf170
 v51:=Tryz.zeroValue170
 t53:=Tryz.underlying42
 a53:=Tryz.isAgg42
 z53:=Tryz.sizeOf42
 v53:=Tryz.zeroValue42
 t146:=Tryz.underlying182
 a146:=Tryz.isAgg182
 z146:=Tryz.sizeOf182
 v146:=Tryz.zeroValue182
 t148:=Tryz.underlying184
 a148:=Tryz.isAgg184
 z148:=Tryz.sizeOf184
 v148:=Tryz.zeroValue184 }
theorem Tryz.bits_Mul (x y:Nat) (hx:x<18446744073709551616) (hy:y<18446744073709551616) (w:World) :
  Calls Tryz.prog 91 #[.int .u64 x,.int .u64 y] w fun e w'=>e=.returned (.tuple #[.int .u64 ((x*y/18446744073709551616:Nat):Int),.int .u64 ((x*y%18446744073709551616:Nat):Int)])/\w'=w:=Any.bits_Mul Tryz.lays212 x y hx hy w
def q5q (c k:Nat) (x:Int):List Value:=List.replicate k (.int .i64 x)++List.replicate (c-k) (.int .i64 0)
theorem j1n {c k:Nat} (h:k<=c) (x:Int):(q5q c k x).length=c:=by simp [q5q]; omega
def j5l (m:Nat) (x:Int):List Value:=List.replicate m (.int .i64 x)
theorem q1p (m:Nat) (x:Int):(j5l m x).length=m:=by simp [j5l]
theorem q4l {c k m:Nat} (h:k+m<=c) (x:Int):splice (q5q c k x) k (j5l m x)=q5q c (k+m) x:=by
 unfold splice q5q j5l
 rw [List.take_append_of_le_length (by simp),List.take_of_length_le (by simp),List.length_replicate,List.drop_append,List.drop_of_length_le (by simp)]
 simp only [List.length_replicate,List.nil_append,List.drop_replicate]
 rw [<-List.append_assoc,<-List.replicate_append_replicate]
 congr 2; omega
theorem z2f {c k j:Nat} (h:j<k) (x:Int):(q5q c k x)[j]? = some (.int .i64 x):=by
 unfold q5q
 rw [List.getElem?_append_left (by simp; omega)]
 simp [h]
theorem j1o (m:Nat) (x:Int):∀ v∈j5l m x,v.oneCell'=true:=by
 intro v hv; rw [(List.mem_replicate.1 hv).2]; rfl
theorem j5k {m j:Nat} {v:Value} {x:Int} (h:(j5l m x)[j]? = some v):j<m/\v=.int .i64 x:=by
 obtain ⟨h1,h2⟩:=List.getElem?_eq_some_iff.1 h
 simp [j5l] at h1 h2
 exact ⟨h1,h2.symm⟩
theorem j3d (x:Int) (c:Nat) (hc2:c<=1000000) (ao:OA) (cap:Nat) (w:World) (h:Sl w ao 1 cap [.int .i64 x]) :
  Calls Tryz.prog 63 #[.slice ao 1 cap,.int .i64 (c:Int)] w fun e w'=>(∃ g,e=.returned (.slice (some ⟨g,0,none⟩) c c)/\Rw 3 w' w.heap.size (.slice (some ⟨g,0,none⟩) c c) c (fun _=>.int .i64 x))/\Below w.heap.size w w':=by
 obtain ⟨b,off,rfl,hcell⟩:=h.at_ 0 _ rfl
 obtain ⟨m0,hm0⟩:∃ m,Nat.min 1 c=m:=⟨_,rfl⟩
 have q1:m0<=c:=by rw [<-hm0]; exact Nat.min_le_right _ _
 have q2:m0<=1:=by rw [<-hm0]; exact Nat.min_le_left _ _
 have q3:1<=m0\/c=0:=by rw [<-hm0]; by_cases hc:c=0; exact .inr hc; exact .inl (Nat.le_min.2 ⟨Nat.le_refl _,by omega⟩)
 have Hm0:=hid hm0
 clear hm0
 have hmul:1*c/18446744073709551616=0/\1*c%18446744073709551616=c:=by omega
 have Hmul:=hid hmul
 clear hmul
 go_enter Tryz.func63,Tryz.ntmps63
 go_wp2_with fail
 refine (Tryz.bits_Mul 1 c (by decide) (by omega) _).mono ?_; rintro e w0 ⟨rfl,rfl⟩
 rw [Hmul.out.1,Hmul.out.2]
 go_wp2_with (at_make; go_loud (refine j4n rfl (.tmp 29) (.tmp 29) 68 rfl 3 _ 8 Tryz.underlying68 Tryz.infoI64 rfl _ _ _ _ c rfl rfl rfl rfl (by omega) (by omega) ?_))
 intro w1 hown _ hb1
 have hg0:w1.heap[w0.heap.size]? = some (.cells (q5q c 0 x).toArray 3 (0,0)):=by
  rcases hown.2 with ⟨hv,_⟩ | ⟨g,cap',cur,hv,_,hh,_,_,hsz,ht⟩
  ·cases hv
  ·injection hv with e1 e2 e3
   injection e1 with e1
   injection e1 with e1 _ _
   subst e1 e3
   have:cur=(q5q c 0 x).toArray:=by
    apply Array.toList_inj.1
    rw [Nat.mul_one] at ht hsz
    rw [List.take_of_length_le (by rw [Array.length_toList]; omega)] at ht
    rw [ht]; simp [q5q]
   rw [<-this]; exact hh
 have Hg0:=hid hg0
 clear hown hg0
 have hl1:=q1p m0 x
 have hcell1:=hid ((hb1.cell (p:=⟨b,off+0,none⟩) (World.block_lt_of_cell? w0 _ hcell)).trans hcell)
 go_wp2_with (with_reducible refine wpList_copy_splice rfl (.tmp 31) (.tmp 32) 68 68 rfl 3 Tryz.underlying68 (by kernel_rfl) (some ⟨w0.heap.size,0,none⟩) (some ⟨b,off,none⟩) c c 1 cap rfl rfl w0.heap.size 0 (q5q c 0 x) 3 Hg0.out (j5l m0 x) (by rw [q1p]; exact Hm0.out.symm) (fun _=>⟨rfl,_,rfl,fun j v hv=>by
  obtain ⟨hj,rfl⟩:=j5k hv
  obtain rfl:j=0:=by omega
  rw [Addr.add_lit]; exact hcell1.out⟩) (by rw [q1p,j1n (by omega)]; omega) (j1o m0 x) w0.heap.size w0 hb1 (Nat.le_refl _) ?_)
 intro w2 hg2 hb2
 have hg2:Hid (w2.heap[w0.heap.size]? = some (.cells (q5q c m0 x).toArray 3 (0,0))):=hid (by
  have:=hg2.out
  rwa [q4l (by omega),Nat.zero_add] at this)
 go_wp2_with fail
 go_loopw [8] (fun i wr=>∃ k:Nat,(1<=k\/c=0)/\k<=c/\i=.int .i64 k/\Hid (wr.heap[w0.heap.size]? = some (.cells (q5q c k x).toArray 3 (0,0)))/\Below w0.heap.size w0 wr) (fun i _=>c-(intOf i).toNat)
 case atStart=>exact ⟨m0,q3,q1,rfl,hg2,hb2⟩
 case round =>
  clear hg2 hb2 hcell1 Hg0 hb1 hl1 Hmul hcell
  obtain ⟨k,hk1,hkc,rfl,hg,hbel⟩:=hrel
  by_cases hlt:k<c
  ·have hk1:1<=k:=by omega
   obtain ⟨m,hm⟩:∃ m,Nat.min k (c-k)=m:=⟨_,rfl⟩
   have hm1:1<=m:=by rw [<-hm]; exact Nat.le_min.2 ⟨hk1,by omega⟩
   have hm2:m<=k:=by rw [<-hm]; exact Nat.min_le_left _ _
   have hm3:m<=c-k:=by rw [<-hm]; exact Nat.min_le_right _ _
   have hml:=q1p m x
   have Hm:=hid hm
   clear hm
   have hgd:wr.drew.heap[w0.heap.size]? = some (.cells (q5q c k x).toArray 3 (0,0)):=hg.out
   have Hgd:=hid hgd
   clear hgd
   have i1:(0:Int)<=(k:Int):=by omega
   have i2:(k:Int)<=(c:Int):=by omega
   have i3:c≠k:=by omega
   go_wp2_with fail
   have hcells:∀ j v,(j5l m x)[j]? = some v->wr.drew.cell? ((⟨w0.heap.size,0,none⟩:Addr).add j)=some v:=by
    intro j v hv
    obtain ⟨hj,rfl⟩:=j5k hv
    rw [Addr.add_lit,cell_of_row _ _ _ _ _ _ Hgd.out,List.getElem?_toArray,Nat.zero_add]
    exact z2f (by omega) x
   have Hcells:=hid hcells
   clear hcells
   have hfit:k+(j5l m x).length<=(q5q c k x).length:=by rw [q1p,j1n (by omega)]; omega
   have hbd:=hbel.drew
   have hwk:IntKind.i64.wrap ((k:Int)+(m:Int))=(k:Int)+(m:Int):=by rw [IntKind.wrap_i64]; omega
   go_region_held3 (fun _=>True) (trivial)
    ((refine step_copy_splice (by rfl) (.tmp 41) (.tmp 44) 68 68 (by rfl) 3 Tryz.underlying68 (by kernel_rfl) (some ⟨w0.heap.size,k,none⟩) (some ⟨w0.heap.size,0,none⟩) (c-k) (c-k) k c (by rfl) (by rfl) w0.heap.size k (q5q c k x) 3 Hgd.out (j5l m x) (by rw [q1p]; exact Hm.out.symm) (fun _=>⟨rfl,_,rfl,Hcells.out⟩) hfit (j1o m x) w0.heap.size w0 hbd (Nat.le_refl _) ?_; intro w3 hg3 hb3))
   have hg3:Hid (w3.heap[w0.heap.size]? = some (.cells (q5q c (k+m) x).toArray 3 (0,0))):=hid (by
    have:=hg3.out
    rwa [q4l (by omega)] at this)
   clear hwk
   go_wp2_with fail
   go_roundw
   case rel=>exact ⟨k+m,by omega,by omega,by go_num,hg3,hb3⟩
   case measure=>simp [intOf]; omega
  ·obtain rfl:k=c:=by omega
   go_wp2_with fail
   go_ret
   exact ⟨⟨_,rfl,by simp [q0k],.inr ⟨w0.heap.size,k,(q5q k k x).toArray,rfl,Nat.le_refl _,hg.out,Nat.le_refl _,by unfold maxLen; omega,by simp [q5q],by simp [q5q,j0v]; exact List.take_of_length_le (by rw [q0k]; exact Nat.le_refl _)⟩⟩,hbel⟩
theorem q4u (n:Nat) (hn:n<=64) (w:World) :
  Calls Tryz.prog 25 #[.int .i64 (n:Int)] w fun e w'=>(∃ g,e=.returned (.slice (some ⟨g,0,none⟩) n n)/\Sb w' w.heap.size g (List.replicate n none))/\Below w.heap.size w w':=by
 go_enter Tryz.func25,Tryz.ntmps25
 go_wp2_with fail
 have hb:=qJ (w:=w) (.cells #[.int .i64 (-1)] 3)
 have hS:Sl (w.alloc (.cells #[.int .i64 (-1)] 3)) (some ⟨w.heap.size,0,none⟩) 1 1 [.int .i64 (-1)]:=Sl.lit w [.int .i64 (-1)] 3 (by simp [maxLen])
 refine (j3d (-1) n (by omega) _ _ _ hS).mono ?_
 rintro e w1 ⟨⟨g,rfl,h1⟩,hb1⟩
 go_wp2_with fail
 go_ret
 refine ⟨⟨g,rfl,?_⟩,hb.trans (hb1.mono hb.size)⟩
 have:=h1.mono hb.size
 unfold Sb
 rw [List.length_replicate]
 exact this.congr fun i hi=>by unfold fS; simp [List.getD,hi]; rfl
end
section
open Go.Shelf Go.RowKit Go.Lib Go.Sort
def Tryz.laysM171_ren:Go.Shelf.Ren:=⟨fun | 171=>66 | 243=>94 | 246=>140 | 283=>175 | 284=>176 | 285=>177 | 286=>178 | 129=>248 | 317=>247 | 318=>249 | 319=>250 | 320=>251 | 337=>296 | 338=>297 | n=>n,fun | 3=>3 | 9=>9 | 2=>2 | 4=>4 | 171=>210 | 0=>0 | 53=>42 | 37=>112 | 5=>5 | 173=>213 | 212=>237 | 51=>170 | 20=>20 | 213=>238 | 46=>141 | 232=>307 | 233=>308 | n=>n,fun | 17=>0 | 18=>1 | 19=>2 | n=>n⟩
theorem Tryz.laysM171:Go.Proofs.LaysM.n171 Tryz.prog Tryz.laysM171_ren:={
 mixed:=by kernel_rfl
 f129:=Tryz.func248.trans (congrArg some (by kernel_rfl))
 f171:=Tryz.func66.trans (congrArg some (by kernel_rfl))
 f243:=Tryz.func94.trans (congrArg some (by kernel_rfl))
 f246:=Tryz.func140.trans (congrArg some (by kernel_rfl))
 f283:=Tryz.func175.trans (congrArg some (by kernel_rfl))
 f284:=Tryz.func176.trans (congrArg some (by kernel_rfl))
 f285:=Tryz.func177.trans (congrArg some (by kernel_rfl))
 f286:=Tryz.func178.trans (congrArg some (by kernel_rfl))
 f317:=Tryz.func247.trans (congrArg some (by kernel_rfl))
 f318:=Tryz.func249.trans (congrArg some (by kernel_rfl))
 f319:=Tryz.func250.trans (congrArg some (by kernel_rfl))
 f320:=Tryz.func251.trans (congrArg some (by kernel_rfl))
 f337:=Tryz.func296.trans (congrArg some (by kernel_rfl))
 f338:=Tryz.func297.trans (congrArg some (by kernel_rfl))
 t0:=Tryz.underlying0
 a0:=Tryz.isAgg0
 z0:=Tryz.sizeOf0
 v0:=Tryz.zeroValue0
 t2:=Tryz.underlying2
 a2:=Tryz.isAgg2
 z2:=Tryz.sizeOf2
 v2:=Tryz.zeroValue2
 t3:=Tryz.underlying3
 a3:=Tryz.isAgg3
 z3:=Tryz.sizeOf3
 v3:=Tryz.zeroValue3
 t4:=Tryz.underlying4
 a4:=Tryz.isAgg4
 z4:=Tryz.sizeOf4
 v4:=Tryz.zeroValue4
 t5:=Tryz.underlying5
 a5:=Tryz.isAgg5
 z5:=Tryz.sizeOf5
 v5:=Tryz.zeroValue5
 t9:=Tryz.underlying9
 a9:=Tryz.isAgg9
 z9:=Tryz.sizeOf9
 v9:=Tryz.zeroValue9
 t20:=Tryz.underlying20
 a20:=Tryz.isAgg20
 z20:=Tryz.sizeOf20
 v20:=Tryz.zeroValue20
 t37:=Tryz.underlying112
 a37:=Tryz.isAgg112
 z37:=Tryz.sizeOf112
 v37:=Tryz.zeroValue112
 t46:=Tryz.underlying141
 a46:=Tryz.isAgg141
 z46:=Tryz.sizeOf141
 v46:=Tryz.zeroValue141
 t51:=Tryz.underlying170
 a51:=Tryz.isAgg170
 z51:=Tryz.sizeOf170
 v51:=Tryz.zeroValue170
 t53:=Tryz.underlying42
 a53:=Tryz.isAgg42
 z53:=Tryz.sizeOf42
 v53:=Tryz.zeroValue42
 t171:=Tryz.underlying210
 a171:=Tryz.isAgg210
 z171:=Tryz.sizeOf210
 v171:=Tryz.zeroValue210
 t173:=Tryz.underlying213
 a173:=Tryz.isAgg213
 z173:=Tryz.sizeOf213
 v173:=Tryz.zeroValue213
 t212:=Tryz.underlying237
 a212:=Tryz.isAgg237
 z212:=Tryz.sizeOf237
 v212:=Tryz.zeroValue237
 t213:=Tryz.underlying238
 a213:=Tryz.isAgg238
 z213:=Tryz.sizeOf238
 t232:=Tryz.underlying307
 a232:=Tryz.isAgg307
 z232:=Tryz.sizeOf307
 v232:=Tryz.zeroValue307
 t233:=Tryz.underlying308
 a233:=Tryz.isAgg308
 z233:=Tryz.sizeOf308
 v233:=Tryz.zeroValue308
 g17:=by kernel_rfl
 g18:=by kernel_rfl
 g19:=by kernel_rfl
 i0:=by kernel_rfl
 i2:=by kernel_rfl
 i3:=by kernel_rfl
 i4:=by kernel_rfl
 i5:=by kernel_rfl
 i9:=by kernel_rfl
 i20:=by kernel_rfl
 i37:=by kernel_rfl
 i46:=by kernel_rfl
 i51:=by kernel_rfl
 i53:=by kernel_rfl
 i171:=by kernel_rfl
 i173:=by kernel_rfl
 i212:=by kernel_rfl
 i232:=by kernel_rfl
 i233:=by kernel_rfl
 m17:=by kernel_rfl
 m18:=by kernel_rfl
 m19:=by kernel_rfl }
open Go.RowKit Go.Sort Go.Lib in
theorem Tryz.strconv_Itoa (n:Int) (h0 : -9223372036854775808<=n) (h1:n<=9223372036854775807) (w:World) (htab:Lib.TabIs Tryz.prog w "internal/strconv.uint64pow10" .u64 Lib.pow10Tab) :
  Calls Tryz.prog 66 #[.int .i64 n] w fun e w'=>e=.returned (.string ⟨(Lib.itoa n).toArray⟩)/\∃ k os,w'=grow (w.drewN k) os:=Any.strconv_Itoa Tryz.laysM171 n h0 h1 w htab
def Pow (w:World):Prop:=Lib.TabIs Tryz.prog w "internal/strconv.uint64pow10" .u64 Lib.pow10Tab
theorem j1p:Tryz.prog.globalNamed "internal/strconv.uint64pow10"=some 0:=by kernel_rfl
theorem Pow.next {w w':World} (h:Pow w) (hb:Below w.heap.size w w'):Pow w':=Go.Joins.tab_stays j1p h hb (Nat.le_refl _)
theorem j4g (w:World) (k:Nat) (os:Array Obj):Below w.heap.size w (Go.Sort.grow (w.drewN k) os):=by
 refine ⟨rfl,rfl,rfl,?_,fun j hj=>?_⟩
 ·simp
 ·show (w.heap++os)[j]? = w.heap[j]?
  rw [Array.getElem?_append,if_pos hj]
def z1n (w:World) (l:List UInt8) (e:Ending) (w':World):Prop:=∃ s:ByteArray,e=.returned (.string s)/\s.data.toList=l/\Below w.heap.size w w'
theorem j6r (N:Int) (h0 : -9223372036854775808<=N) (h1:N<=9223372036854775807) (w:World) (hp:Pow w):Calls Tryz.prog 66 #[.int .i64 N] w (z1n w (Lib.itoa N)):=by
 refine (Tryz.strconv_Itoa N h0 h1 w hp).mono ?_
 rintro e w' ⟨rfl,k,os,rfl⟩
 exact ⟨_,rfl,rfl,j4g w k os⟩
end
end Go.Proofs.YtnapapijhhldpaaGreatDoor

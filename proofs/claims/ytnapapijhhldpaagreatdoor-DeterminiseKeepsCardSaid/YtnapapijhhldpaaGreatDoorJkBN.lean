/-
  Texts joined by program: Tvj, Tvn, DoorT, Open, OpenT. No condition of its own.
-/
import Derived.Test.YtnapapijhhldpaaGreatDoorJkBM
import Derived.Test.YtnapapijhhldpaaGreatDoorRows
namespace Go.Proofs.YtnapapijhhldpaaGreatDoor
set_option linter.unusedSimpArgs false
set_option linter.unusedVariables false
set_option maxRecDepth 100000
set_option maxHeartbeats 4000000
section
open Go.RowKit
def z1o (syms:Nat) (w:World) (v:Value) (w':World):Prop:=∃ (word:List Nat) (lo:OA) (n:Nat),v=.slice lo n n/\Sl w' lo n n (j3w (wI word))/\(∀ l∈word,1<=l/\l<=syms)/\word.length<=256/\Below w.heap.size w w'
def NI (syms k s l:Nat):Prop:=1<=s/\((syms=1/\s=1/\k+l<=59)\/(2<=syms/\((l=0/\s=1/\k<=399)\/(2<=s/\s<=1200/\k+2*l<=400))))
theorem NI.step {syms k s l:Nat} (h:NI syms k s l) (h1:1<=syms) (h3:syms<=3) (hk:s<=k):NI syms (k-s) (s*syms) (l+1):=by
 have hc:syms=1\/syms=2\/syms=3:=by omega
 unfold NI at *
 rcases hc with rfl | rfl | rfl<;>omega
theorem NI.le {syms k s l:Nat} (h:NI syms k s l):k<=400/\1<=s/\s<=1200/\l<=200:=by unfold NI at h; omega
theorem j1v {w w':World} {syms g l:Nat} {f:Nat->Nat} (hl:l<=200) (hr:Rw 3 w' w.heap.size (.slice (some ⟨g,0,none⟩) l l) l (fun q=>.int .i64 ((f q:Nat):Int))) (hf:∀ q,q<l->1<=f q/\f q<=syms) (hb:Below w.heap.size w w'):z1o syms w (.slice (some ⟨g,0,none⟩) l l) w':=by
 refine ⟨(List.range l).map f,_,l,rfl,?_,fun x hx=>?_,by simp; omega,hb⟩
 ·have h:=hr.rdS.2
  unfold Rd fnl at h
  unfold j3w wI
  rw [List.map_map,List.map_map]
  exact h
 ·obtain ⟨q,hq,rfl⟩:=List.mem_map.1 hx
  exact hf q (List.mem_range.1 hq)
theorem j3k (kk:Int) (syms:Nat) (h1:1<=syms) (h3:syms<=3) (w:World) :
  Calls Tryz.prog 11 #[.int .i64 kk,.int .i64 (syms:Int)] w fun e w'=>∃ v,e=.returned v/\z1o syms w v w':=by
 obtain ⟨m,hm⟩:∃ m:Nat,kk%400=(m:Int):=⟨(kk%400).toNat,by omega⟩
 have hm4:m<400:=by omega
 go_enter Tryz.func11,Tryz.ntmps11
 go_wp2_with fail
 refine (vG kk 400 (by decide) (by decide) _).mono ?_; rintro e w0 ⟨rfl,rfl⟩
 rw [hm]
 by_cases hs:syms<2
 ·have s2:(syms:Int)<2:=by omega
  obtain ⟨m6,hm6⟩:∃ m6:Nat,(m:Int)%60=(m6:Int):=⟨((m:Int)%60).toNat,by omega⟩
  have hN0:NI syms m6 1 0:=by unfold NI; omega
  go_wp2_with fail
  refine (vG (m:Int) 60 (by decide) (by decide) _).mono ?_; rintro e w0 ⟨rfl,rfl⟩
  rw [hm6]
  go_wp2_with fail
  go_loopw [0,5,6] (fun kv sv lv wr=>∃ k s l:Nat,kv=.int .i64 (k:Int)/\sv=.int .i64 (s:Int)/\lv=.int .i64 (l:Int)/\Hid (NI syms k s l)/\w=wr) (fun kv _ _ _=>(intOf kv).toNat)
  case atStart=>exact ⟨m6,1,0,rfl,rfl,rfl,hid hN0,rfl⟩
  case round =>
   clear hN0
   obtain ⟨k,s,l,rfl,rfl,rfl,hN,rfl⟩:=hrel
   obtain ⟨n1,n2,n3,n4⟩:=hN.out.le
   by_cases hle:s<=k
   ·have c1:(s:Int)<=(k:Int):=by omega
    obtain ⟨p,hp⟩:∃ p,s*syms=p:=⟨_,rfl⟩
    obtain ⟨q,hq⟩:∃ q,k-s=q:=⟨_,rfl⟩
    have hst:=hN.out.step h1 h3 hle
    rw [hp,hq] at hst
    have n6:=hst.le
    have hpi:(s:Int)*(syms:Int)=(p:Int):=by rw [<-hp,Int.natCast_mul]
    have w1:IntKind.i64.wrap ((k:Int)-(s:Int))=(q:Int):=by rw [IntKind.wrap_i64]; omega
    have w2:IntKind.i64.wrap ((s:Int)*(syms:Int))=(p:Int):=by rw [hpi,IntKind.wrap_i64]; omega
    have w3:IntKind.i64.wrap ((l:Int)+1)=((l+1:Nat):Int):=by rw [IntKind.wrap_i64]; omega
    replace hst:=hid hst
    have hlt:q<k:=by omega
    clear hpi hp hq n6
    go_wp2_with fail
    go_roundw
    case rel=>exact ⟨q,p,l+1,rfl,rfl,by go_num,hst,trivial⟩
    case measure=>simp [intOf]; omega
   ·have c1:¬ (s:Int)<=(k:Int):=by omega
    have w4:IntKind.i64.wrap ((l:Int)-1)=(l:Int)-1:=by rw [IntKind.wrap_i64]; omega
    have n5:(0:Int)<=(l:Int):=by omega
    replace hN:=hid hN
    go_upto_region 12 with (at_make; (with_reducible refine q1k rfl _ _ 22 rfl 3 (.int .i64 0) 8 Tryz.underlying22 Tryz.infoInt ?_ .i64 .i64 (l:Int) (l:Int) l ?_ ?_ ?_ ?_ ?_ ?_ ?_); exact rfl; exact rfl; exact rfl; exact rfl; exact rfl; omega; omega; intro w1 g hR1 hb1)
    have i1:(l:Int)-1<(l:Int):=by omega
    have hR0:=hid (hR1.congr (G:=fun q=>.int .i64 (((fun _:Nat=>(0:Nat)) q:Nat):Int)) fun _ _=>rfl)
    clear hR1
    go_loopw [0,8] (fun kv iv wr=>∃ (k j:Nat) (f:Nat->Nat),kv=.int .i64 (k:Int)/\k<=400/\j<=l/\iv=.int .i64 ((j:Int)-1)/\Rw 3 wr w.heap.size (.slice (some ⟨g,0,none⟩) l l) l (fun q=>.int .i64 ((f q:Nat):Int))/\Hid (∀ q,j<=q->q<l->1<=f q/\f q<=syms)/\Below w.heap.size w wr) (fun _ iv _=>(intOf iv+1).toNat)
    case atStart=>exact ⟨k,l,_,rfl,n1,Nat.le_refl _,rfl,hR0.out,hid (fun q a b=>by omega),hb1⟩
    case round =>
     clear hR0 hb1 n1
     obtain ⟨k,j,f,rfl,hk4,hjl,rfl,hR,hf,hb⟩:=hrel
     rcases Nat.eq_zero_or_pos j with rfl | hj
     ·have j1:¬ (0:Int)<=((0:Nat):Int)-1:=by omega
      have hfin:=hid (j1v n4 hR (fun q hq=>hf.out q (Nat.zero_le _) hq) hb)
      clear hR hb
      go_wp2_with fail
      go_ret
      exact ⟨_,rfl,hfin.out⟩
     ·obtain ⟨q,rfl⟩:∃ q,j=q+1:=⟨j-1,by omega⟩
      rw [show (((q+1:Nat):Int)-1)=(q:Int) by omega]
      have q0:(0:Int)<=(q:Int):=by omega
      have q1:(q:Int)<(l:Int):=by omega
      have hql:q<l:=by omega
      have sy:¬ (syms:Int)=0:=by omega
      have ht:Int.tmod (k:Int) (syms:Int)=((k%syms:Nat):Int):=rfl
      have hd:Int.tdiv (k:Int) (syms:Int)=((k/syms:Nat):Int):=rfl
      have hmb:k%syms<syms:=Nat.mod_lt _ (by omega)
      have hdb:k/syms<=k:=Nat.div_le_self _ _
      obtain ⟨r,hr⟩:∃ r,k%syms=r:=⟨_,rfl⟩
      obtain ⟨u,hu⟩:∃ u,k/syms=u:=⟨_,rfl⟩
      rw [hr] at ht hmb
      rw [hu] at hd hdb
      have hvv:Hid (wrap64 (1+(k:Int)%(syms:Int))=((1+r:Nat):Int)):=hid (by
       rw [show (k:Int)%(syms:Int)=(r:Int) by rw [<-hr]; exact (Int.natCast_emod k syms).symm]
       unfold wrap64; omega)
      have huu:Hid ((k:Int)/(syms:Int)=(u:Int)):=hid (by rw [<-hu]; exact (Int.natCast_ediv k syms).symm)
      have hu2:Hid (wrap64 ((k:Int)/(syms:Int))=(u:Int)):=hid (by rw [huu.out]; unfold wrap64; omega)
      have w8:IntKind.i64.wrap ((q:Int)-1)=(q:Int)-1:=by rw [IntKind.wrap_i64]; omega
      have c1:=hR.cell hql
      have c2:=hR.free q
      have hput:=hR.put q (.int .i64 ((1+r:Nat):Int))
      have hg:w.heap.size<=g:=(hR.lt rfl).1
      have hb2:Below w.heap.size w (wr.setCell ⟨g,q,none⟩ (.int .i64 ((1+r:Nat):Int))):=hb.trans ((Fr.set (T:=fun k=>k=g) wr rfl _).below (fun x e=>by have e':x=g:=e; omega) hb.size)
      have hR2:=hid (hput.congr (G:=fun x=>.int .i64 (((fun x=>if x=q then 1+r else f x) x:Nat):Int)) fun x _=>by
       show q3r _ q _ x=.int .i64 ((if x=q then 1+r else f x:Nat):Int)
       unfold q3r; split<;>rfl)
      have hf2:Hid (∀ x,q<=x->x<l->1<=(fun x=>if x=q then 1+r else f x) x/\(fun x=>if x=q then 1+r else f x) x<=syms):=hid (fun x a b=>by
       show 1<=(if x=q then 1+r else f x)/\(if x=q then 1+r else f x)<=syms
       split
       ·omega
       ·exact hf.out x (by omega) b)
      replace hb2:=hid hb2
      clear hput hR hb hf ht hd hr hu
      go_wp2_with fail
      go_roundw
      case rel=>exact ⟨u,q,fun x=>if x=q then 1+r else f x,by rw [hu2.out],by omega,by omega,rfl,by rw [hvv.out]; exact hR2.out,hf2,by rw [hvv.out]; exact hb2.out⟩
      case measure=>first | (simp [intOf]; done) | (simp [intOf]; omega)
 ·have s2:¬ (syms:Int)<2:=by omega
  have hN0:NI syms m 1 0:=by unfold NI; omega
  go_wp2_with fail
  go_loopw [0,5,6] (fun kv sv lv wr=>∃ k s l:Nat,kv=.int .i64 (k:Int)/\sv=.int .i64 (s:Int)/\lv=.int .i64 (l:Int)/\Hid (NI syms k s l)/\w=wr) (fun kv _ _ _=>(intOf kv).toNat)
  case atStart=>exact ⟨m,1,0,rfl,rfl,rfl,hid hN0,rfl⟩
  case round =>
   clear hN0
   obtain ⟨k,s,l,rfl,rfl,rfl,hN,rfl⟩:=hrel
   obtain ⟨n1,n2,n3,n4⟩:=hN.out.le
   by_cases hle:s<=k
   ·have c1:(s:Int)<=(k:Int):=by omega
    obtain ⟨p,hp⟩:∃ p,s*syms=p:=⟨_,rfl⟩
    obtain ⟨q,hq⟩:∃ q,k-s=q:=⟨_,rfl⟩
    have hst:=hN.out.step h1 h3 hle
    rw [hp,hq] at hst
    have n6:=hst.le
    have hpi:(s:Int)*(syms:Int)=(p:Int):=by rw [<-hp,Int.natCast_mul]
    have w1:IntKind.i64.wrap ((k:Int)-(s:Int))=(q:Int):=by rw [IntKind.wrap_i64]; omega
    have w2:IntKind.i64.wrap ((s:Int)*(syms:Int))=(p:Int):=by rw [hpi,IntKind.wrap_i64]; omega
    have w3:IntKind.i64.wrap ((l:Int)+1)=((l+1:Nat):Int):=by rw [IntKind.wrap_i64]; omega
    replace hst:=hid hst
    have hlt:q<k:=by omega
    clear hpi hp hq n6
    go_wp2_with fail
    go_roundw
    case rel=>exact ⟨q,p,l+1,rfl,rfl,by go_num,hst,trivial⟩
    case measure=>simp [intOf]; omega
   ·have c1:¬ (s:Int)<=(k:Int):=by omega
    have w4:IntKind.i64.wrap ((l:Int)-1)=(l:Int)-1:=by rw [IntKind.wrap_i64]; omega
    have n5:(0:Int)<=(l:Int):=by omega
    replace hN:=hid hN
    go_upto_region 12 with (at_make; (with_reducible refine q1k rfl _ _ 22 rfl 3 (.int .i64 0) 8 Tryz.underlying22 Tryz.infoInt ?_ .i64 .i64 (l:Int) (l:Int) l ?_ ?_ ?_ ?_ ?_ ?_ ?_); exact rfl; exact rfl; exact rfl; exact rfl; exact rfl; omega; omega; intro w1 g hR1 hb1)
    have i1:(l:Int)-1<(l:Int):=by omega
    have hR0:=hid (hR1.congr (G:=fun q=>.int .i64 (((fun _:Nat=>(0:Nat)) q:Nat):Int)) fun _ _=>rfl)
    clear hR1
    go_loopw [0,8] (fun kv iv wr=>∃ (k j:Nat) (f:Nat->Nat),kv=.int .i64 (k:Int)/\k<=400/\j<=l/\iv=.int .i64 ((j:Int)-1)/\Rw 3 wr w.heap.size (.slice (some ⟨g,0,none⟩) l l) l (fun q=>.int .i64 ((f q:Nat):Int))/\Hid (∀ q,j<=q->q<l->1<=f q/\f q<=syms)/\Below w.heap.size w wr) (fun _ iv _=>(intOf iv+1).toNat)
    case atStart=>exact ⟨k,l,_,rfl,n1,Nat.le_refl _,rfl,hR0.out,hid (fun q a b=>by omega),hb1⟩
    case round =>
     clear hR0 hb1 n1
     obtain ⟨k,j,f,rfl,hk4,hjl,rfl,hR,hf,hb⟩:=hrel
     rcases Nat.eq_zero_or_pos j with rfl | hj
     ·have j1:¬ (0:Int)<=((0:Nat):Int)-1:=by omega
      have hfin:=hid (j1v n4 hR (fun q hq=>hf.out q (Nat.zero_le _) hq) hb)
      clear hR hb
      go_wp2_with fail
      go_ret
      exact ⟨_,rfl,hfin.out⟩
     ·obtain ⟨q,rfl⟩:∃ q,j=q+1:=⟨j-1,by omega⟩
      rw [show (((q+1:Nat):Int)-1)=(q:Int) by omega]
      have q0:(0:Int)<=(q:Int):=by omega
      have q1:(q:Int)<(l:Int):=by omega
      have hql:q<l:=by omega
      have sy:¬ (syms:Int)=0:=by omega
      have ht:Int.tmod (k:Int) (syms:Int)=((k%syms:Nat):Int):=rfl
      have hd:Int.tdiv (k:Int) (syms:Int)=((k/syms:Nat):Int):=rfl
      have hmb:k%syms<syms:=Nat.mod_lt _ (by omega)
      have hdb:k/syms<=k:=Nat.div_le_self _ _
      obtain ⟨r,hr⟩:∃ r,k%syms=r:=⟨_,rfl⟩
      obtain ⟨u,hu⟩:∃ u,k/syms=u:=⟨_,rfl⟩
      rw [hr] at ht hmb
      rw [hu] at hd hdb
      have hvv:Hid (wrap64 (1+(k:Int)%(syms:Int))=((1+r:Nat):Int)):=hid (by
       rw [show (k:Int)%(syms:Int)=(r:Int) by rw [<-hr]; exact (Int.natCast_emod k syms).symm]
       unfold wrap64; omega)
      have huu:Hid ((k:Int)/(syms:Int)=(u:Int)):=hid (by rw [<-hu]; exact (Int.natCast_ediv k syms).symm)
      have hu2:Hid (wrap64 ((k:Int)/(syms:Int))=(u:Int)):=hid (by rw [huu.out]; unfold wrap64; omega)
      have w8:IntKind.i64.wrap ((q:Int)-1)=(q:Int)-1:=by rw [IntKind.wrap_i64]; omega
      have c1:=hR.cell hql
      have c2:=hR.free q
      have hput:=hR.put q (.int .i64 ((1+r:Nat):Int))
      have hg:w.heap.size<=g:=(hR.lt rfl).1
      have hb2:Below w.heap.size w (wr.setCell ⟨g,q,none⟩ (.int .i64 ((1+r:Nat):Int))):=hb.trans ((Fr.set (T:=fun k=>k=g) wr rfl _).below (fun x e=>by have e':x=g:=e; omega) hb.size)
      have hR2:=hid (hput.congr (G:=fun x=>.int .i64 (((fun x=>if x=q then 1+r else f x) x:Nat):Int)) fun x _=>by
       show q3r _ q _ x=.int .i64 ((if x=q then 1+r else f x:Nat):Int)
       unfold q3r; split<;>rfl)
      have hf2:Hid (∀ x,q<=x->x<l->1<=(fun x=>if x=q then 1+r else f x) x/\(fun x=>if x=q then 1+r else f x) x<=syms):=hid (fun x a b=>by
       show 1<=(if x=q then 1+r else f x)/\(if x=q then 1+r else f x)<=syms
       split
       ·omega
       ·exact hf.out x (by omega) b)
      replace hb2:=hid hb2
      clear hput hR hb hf ht hd hr hu
      go_wp2_with fail
      go_roundw
      case rel=>exact ⟨u,q,fun x=>if x=q then 1+r else f x,by rw [hu2.out],by omega,by omega,rfl,by rw [hvv.out]; exact hR2.out,hf2,by rw [hvv.out]; exact hb2.out⟩
      case measure=>first | (simp [intOf]; done) | (simp [intOf]; omega)
end
section
open Go.RowKit
theorem j6p (kst ksy:Int) (fw sg:Bool) (lo:OA) (n cap:Nat) (zs:List Int) (qo:OA) (nq cq:Nat) (qs:List Int) (w:World) (hL:Sl w lo n cap (zs.map (.int .i64))) (hlo:∀ b o,lo=some ⟨b,o,none⟩->b<w.heap.size) (hn:n<=9223372036854775807) (hQ:Sl w qo nq cq (qs.map (.int .i64))) (hp:Pow w) :
  Calls Tryz.prog 4 #[.agg #[.int .i64 kst,.int .i64 ksy,.bool fw,.bool sg,.slice lo n cap],.slice qo nq cq] w fun e w'=>e=.returned (.bool true)/\Below w.heap.size w w':=by
 have hb0:Below w.heap.size w (w.alloc (.cells #[.int .i64 kst,.int .i64 ksy,.bool fw,.bool sg,.slice lo n cap] 24)):=qJ _
 have hP:=Bl.fresh w [.int .i64 kst,.int .i64 ksy,.bool fw,.bool sg,.slice lo n cap] 24
 have y0:=hP.cell (i:=0) rfl
 have y1:=hP.cell (i:=1) rfl
 have y2:=hP.cell (i:=2) rfl
 have y3:=hP.cell (i:=3) rfl
 have y4:=hP.cell (i:=4) rfl
 have hau:=hid (z0l kst ksy fw sg lo n cap 4 (by decide) zs _ (hL.next hb0) (fun b o e=>Nat.lt_of_lt_of_le (hlo b o e) hb0.size) hn)
 have hp0:=hid (hp.next hb0)
 have hQ0:=hid (hQ.next hb0)
 replace hb0:=hid hb0
 have hqm:=hid hQ.bound
 have hql:=hid hQ.lenMap
 clear hP hL hlo hp hQ
 go_enter Tryz.func4,Tryz.ntmps4
 go_wp2_with fail
 refine hau.out.mono ?_; rintro e w1 ⟨syms,A,v,hA,rfl,io,ci,fo,cf,ro,nr,cr,rfl,hMo,hb1⟩
 have hb01:=hid (qQ hb0.out hb1)
 have hp1:=hid (hp0.out.next hb1)
 have hQ1:=hid (hQ0.out.next hb1)
 clear y0 y1 y2 y3 y4 hau hb1
 have hbX:Below w1.heap.size w1 (w1.alloc (.cells (auC syms A.st (.slice io A.st ci) (.slice fo A.st cf) (.slice ro nr cr)).toArray 30)):=qJ _
 have hX:=Bl.fresh w1 (auC syms A.st (.slice io A.st ci) (.slice fo A.st cf) (.slice ro nr cr)) 30
 go_upto_region 2 with ((with_reducible refine zQ rfl _ _ rfl _ _ ?_ (auC syms A.st (.slice io A.st ci) (.slice fo A.st cf) (.slice ro nr cr)) ?_ ?_ ?_ (kV _ _ _ _ _ _ _ _ _ _ _) ?_); exact rfl; exact rfl; exact rfl; exact rfl)
 generalize hW2:(w1.alloc (.cells (auC syms A.st (.slice io A.st ci) (.slice fo A.st cf) (.slice ro nr cr)).toArray 30))=w2 at *
 obtain ⟨X,hXe⟩:∃ X,w1.heap.size=X:=⟨_,rfl⟩
 rw [hXe] at hX ⊢
 have hM2:=hid ((hMo.mo syms).next hbX)
 have hb2:=hid (qQ hb01.out hbX)
 have hp2:=hid (hp1.out.next hbX)
 have hQ2:=hid (hQ1.out.next hbX)
 clear hW2 hXe hbX hMo
 have hVo:=hA.vo (by decide)
 have hLw:=hA.lw
 have hdet:=hid (j7n syms 5 A hVo (.inl (by have:=hA.num; omega)) hA.li hA.lf hLw hA.cs (by decide) io ci fo cf ro nr cr w2 hM2.out hp2.out)
 have hXc:=hX.cs
 go_wp2_with ((with_reducible refine qM rfl _ rfl X 0 ?_ (auC syms A.st (.slice io A.st ci) (.slice fo A.st cf) (.slice ro nr cr)) rfl hXc ?_); exact rfl)
 refine hdet.out.mono ?_; rintro e w3 ⟨K,us,hK,hu,hb3,hout⟩
 have hX3:=hX.next hb3
 have hM3:=hid (hM2.out.next hb3)
 have hb03:=hid (qQ hb2.out hb3)
 have hp3:=hid (hp2.out.next hb3)
 have hQ3:=hid (hQ2.out.next hb3)
 clear hdet hXc hX hb3
 rcases hout with ⟨hno,rfl⟩ | ⟨B,jo,di,go,df,so,ns,ds,hB,rfl,hMB⟩
 ·have hbY:Below w3.heap.size w3 (w3.alloc (.cells #[.int .i64 0,.slice none 0 0,.int .i64 0,.int .i64 0,.slice none 0 0,.slice none 0 0,.slice none 0 0] 30)):=qJ _
  have hX4:=hX3.next hbY
  have hrd:=hid (j9d syms 5 A hVo hA.li hA.lf hLw hA.cs (by decide) io ci fo cf ro nr cr _ (hM3.out.next hbY))
  have hb04:=hid (qQ hb03.out hbY)
  have hp4:=hid (hp3.out.next hbY)
  have hX4c:=hX4.cs
  have hli:=hA.li
  replace hA:=hid hA
  replace hVo:=hid hVo
  replace hLw:=hid hLw
  clear hX3 hX4 hbY
  go_wp2_with (first | ((with_reducible refine qM rfl _ rfl X 0 ?_ (auC syms A.st (.slice io A.st ci) (.slice fo A.st cf) (.slice ro nr cr)) rfl hX4c ?_); exact rfl) | ((with_reducible refine zQ rfl _ _ rfl _ _ ?_ [.int .i64 0,.slice none 0 0,.int .i64 0,.int .i64 0,.slice none 0 0,.slice none 0 0,.slice none 0 0] ?_ ?_ ?_ j8d ?_); exact rfl; exact rfl; exact rfl; exact rfl))
  refine hrd.out.mono ?_; rintro e w5 ⟨K',E,hK',hE,hb5,hout⟩
  have hno2:=j7l hli hK hK' hu hE hno
  rcases hout with ⟨_,rfl⟩ | ⟨B,v,hB,_⟩
  ·have hbZ:Below w5.heap.size w5 (w5.alloc (.cells #[.int .i64 0,.slice none 0 0,.int .i64 0,.int .i64 0,.slice none 0 0,.slice none 0 0,.slice none 0 0] 30)):=qJ _
   have hkn:=hid (q8l _ ((hp4.out.next hb5).next hbZ))
   have hb06:=hid (qQ (qQ hb04.out hb5) hbZ)
   clear hrd hX4c hno2 hno hK hK' hu hE hb5 hbZ hli
   go_wp2_with ((with_reducible refine zQ rfl _ _ rfl _ _ ?_ [.int .i64 0,.slice none 0 0,.int .i64 0,.int .i64 0,.slice none 0 0,.slice none 0 0,.slice none 0 0] ?_ ?_ ?_ j8d ?_); exact rfl; exact rfl; exact rfl; exact rfl)
   refine hkn.out.mono ?_; rintro e w7 ⟨rfl,hb7⟩
   have hb07:=hid (qQ hb06.out hb7)
   clear hkn hb7
   go_wp2_with fail
   go_ret
   exact ⟨rfl,hb07.out⟩
  ·rw [hno2] at hB; cases hB
 ·obtain ⟨v1,v2,v3,v4,v5,v6,v7,v8⟩:=j7o hA hK hu hB
  obtain ⟨d1,d2,d3,d4,d5⟩:=z0d hA hK hu hB
  have hVoX:=hid hVo
  have hsA:A.arcs.length<20\/UpA A.arcs:=.inl (by have:=hA.num; omega)
  have hliA:=hA.li
  have hlfA:=hA.lf
  have hl1A:∀ x∈A.arcs,1<=x.2.1:=fun x hx=>(hA.ok x hx).2.2.1
  have hsym:=hA.sym
  have hbY:Below w3.heap.size w3 (w3.alloc (.cells (auC syms B.st (.slice jo B.st di) (.slice go B.st df) (.slice so ns ds)).toArray 30)):=qJ _
  have hY:=Bl.fresh w3 (auC syms B.st (.slice jo B.st di) (.slice go B.st df) (.slice so ns ds)) 30
  have hMB3:=hMB.mo syms
  replace v1:=hid v1
  replace hsA:=hid hsA
  replace d5:=hid d5
  clear hMB v5 v6 v7 v8 hLw hK hu hB hVo
  go_upto_region 3 with ((with_reducible refine zQ rfl _ _ rfl _ _ ?_ (auC syms B.st (.slice jo B.st di) (.slice go B.st df) (.slice so ns ds)) ?_ ?_ ?_ (kV _ _ _ _ _ _ _ _ _ _ _) ?_); exact rfl; exact rfl; exact rfl; exact rfl)
  generalize hW4:(w3.alloc (.cells (auC syms B.st (.slice jo B.st di) (.slice go B.st df) (.slice so ns ds)).toArray 30))=w4 at *
  obtain ⟨Y,hYe⟩:∃ Y,w3.heap.size=Y:=⟨_,rfl⟩
  rw [hYe] at hY ⊢
  have hM4:=hid (hM3.out.next hbY)
  have hN4:=hid (hMB3.next hbY)
  have hX4:=hid (hX3.next hbY)
  have hb04:=hid (qQ hb03.out hbY)
  have hp4:=hid (hp3.out.next hbY)
  have hQ4:=hid (hQ3.out.next hbY)
  replace hY:=hid hY
  clear hW4 hYe hbY hMB3 hX3 hM3 hb03 hp3 hQ3 hM2 hb2 hp2 hQ2 hb01 hp1 hQ1 hb0 hp0 hQ0
  replace hA:=hid hA
  go_wp2_with fail
  go_loopw [10] (fun iv wr=>∃ i:Nat,i<=6/\iv=.int .i64 (i:Int)/\Hid (Bl X (auC syms A.st (.slice io A.st ci) (.slice fo A.st cf) (.slice ro nr cr)) 30 wr)/\Hid (Bl Y (auC syms B.st (.slice jo B.st di) (.slice go B.st df) (.slice so ns ds)) 30 wr)/\Hid (Mo wr syms A io ci fo cf ro nr cr)/\Hid (Mo wr syms B jo di go df so ns ds)/\Hid (Sl wr qo nq cq (qs.map (.int .i64)))/\Hid (Pow wr)/\Hid (Below w.heap.size w wr)) (fun iv _=>6-(intOf iv).toNat)
  case atStart=>exact ⟨0,by omega,rfl,hX4,hY,hM4,hN4,hQ4,hp4,hb04⟩
  case round =>
   clear hX4 hY hM4 hN4 hQ4 hp4 hb04
   obtain ⟨i,hi,rfl,hX,hY,hM,hN,hQ,hp,hb⟩:=hrel
   by_cases hlt:i<nq/\i<6
   ·obtain ⟨hi1,hi2⟩:=hlt
    have q1:(i:Int)<(nq:Int):=by omega
    have q0:(0:Int)<=(i:Int):=by omega
    have q2:(i:Int)<6:=by omega
    obtain ⟨z,hz,bq,oq,rfl,hzc⟩:=hQ.out.get hi1
    go_upto_region 9 with fail
    have hdr:=(Below.refl wr.heap.size wr).drew
    have hXd:=hX.out.next hdr
    have hS:wr.drew.cell? ⟨bq,oq+i,none⟩=some (.int .i64 z)/\wr.drew.cell? ⟨X,2,none⟩=some (.int .i64 (syms:Int)):=⟨cell_later hdr hzc,hXd.cell (i:=2) rfl⟩
    clear hXd
    refine qV (fun w'=>w'.cell? ⟨bq,oq+i,none⟩=some (.int .i64 z)/\w'.cell? ⟨X,2,none⟩=some (.int .i64 (syms:Int))) [] (by kernel_rfl) ?_
    refine wAp 0 (some 46) rfl rfl hS ?_
    refine wAp 1 (some 47) rfl rfl hS ?_
    refine wAp 2 (some 48) rfl rfl hS ?_
    refine wAl 3 (some 49) (v:=?_) rfl rfl ?_ hS ?_
    rotate_left
    ·intro wz hw; skip; refine qW bq (oq+i) ?_ (.int .i64 z) hw.1; go_simp
    refine wAp 4 (some 50) rfl rfl hS ?_
    refine wAl 5 (some 51) (v:=?_) rfl rfl ?_ hS ?_
    rotate_left
    ·intro wz hw; skip; refine qW X 2 ?_ (.int .i64 (syms:Int)) hw.2; go_simp
    go_simp
    refine wpO (i:=6) rfl fun KK hKK=>?_
    go_simp
    go_at_call 11
    refine (j3k z syms hsym.1 hsym.2 _).mono ?_; rintro e w5 ⟨v,rfl,word,ho,nw,rfl,hW5,hwl,hw256,hb5⟩
    have hbd:=qQ hdr hb5
    have hX5:=hX.out.next hbd
    have hY5:=hid (hY.out.next hbd)
    have hM5:=hid (hM.out.next hbd)
    have hN5:=hid (hN.out.next hbd)
    have hQ5:=hid (hQ.out.next hbd)
    have hp5:=hid (hp.out.next hbd)
    have hb5x:=hid (qQ hb.out hbd)
    replace hW5:=hid hW5
    try go_simp
    refine hKK _ _ ⟨fun _=>(⟨cell_later hb5 (hS).1,cell_later hb5 (hS).2⟩),?_⟩; clear hKK KK
    refine wAp 7 (some 11) rfl rfl (⟨cell_later hb5 (hS).1,cell_later hb5 (hS).2⟩) ?_
    refine qZ (by kernel_rfl) ?_ _
    clear hS hdr hbd hb5 hzc hX hY hM hN hQ hp hb
    have hXc5:=hX5.cs
    have hwt:=hid (q9q syms A hVoX.out hsA.out hliA hlfA hl1A word hwl hw256 io ci fo cf ro nr cr ho nw nw _ hM5.out hW5.out)
    replace hX5:=hid hX5
    go_wp2_with ((with_reducible refine qM rfl _ rfl X 0 ?_ (auC syms A.st (.slice io A.st ci) (.slice fo A.st cf) (.slice ro nr cr)) rfl hXc5 ?_); exact rfl)
    refine hwt.out.mono ?_; rintro e w6 ⟨⟨C,hC,rfl⟩,hb6⟩
    rw [d5.out C word hC hwl hw256]
    have hW6:=hid (hW5.out.next hb6)
    have hX6:=hid (hX5.out.next hb6)
    have hY6:=hid (hY5.out.next hb6)
    have hM6:=hid (hM5.out.next hb6)
    have hN6:=hid (hN5.out.next hb6)
    have hQ6:=hid (hQ5.out.next hb6)
    have hp6:=hid (hp5.out.next hb6)
    have hb6x:=hid (qQ hb5x.out hb6)
    clear hX5 hY5 hM5 hN5 hQ5 hp5 hb5x hb6
    clear hwt hXc5 hW5 hC
    obtain ⟨x,hx⟩:∃ x,q4b B word=x:=⟨_,rfl⟩
    rw [hx]
    replace hx:=hid hx
    have hb7:Below w6.heap.size w6 (w6.alloc (.cells (twC x).toArray 45)):=qJ _
    have hU7:=Bl.fresh w6 (twC x) 45
    go_upto_region 11 with ((with_reducible refine zR rfl _ _ rfl _ _ ?_ x ?_ ?_ ?_); exact rfl; exact rfl; exact rfl)
    generalize hW7e:(w6.alloc (.cells (twC x).toArray 45))=w7 at *
    obtain ⟨U,hUe⟩:∃ U,w6.heap.size=U:=⟨_,rfl⟩
    rw [hUe] at hU7 ⊢
    have hW7:=hid (hW6.out.next hb7)
    have hX7:=hid (hX6.out.next hb7)
    have hY7:=hid (hY6.out.next hb7)
    have hM7:=hid (hM6.out.next hb7)
    have hN7:=hid (hN6.out.next hb7)
    have hQ7:=hid (hQ6.out.next hb7)
    have hp7:=hid (hp6.out.next hb7)
    have hb7x:=hid (qQ hb6x.out hb7)
    clear hX6 hY6 hM6 hN6 hQ6 hp6 hb6x hb7
    clear hW7e hUe hW6
    have hYc7:=hY7.out.cs
    have hrt:=hid (j0b syms B v1.out v3 v4 d1 word hwl hw256 jo di go df so ns ds ho nw nw _ hN7.out hW7.out)
    go_wp2_with ((with_reducible refine qM rfl _ rfl Y 0 ?_ (auC syms B.st (.slice jo B.st di) (.slice go B.st df) (.slice so ns ds)) rfl hYc7 ?_); exact rfl)
    refine hrt.out.mono ?_; rintro e w8 ⟨rfl,hb8⟩
    rw [hx.out]
    have hU8:=hU7.next hb8
    have hX8:=hid (hX7.out.next hb8)
    have hY8:=hid (hY7.out.next hb8)
    have hM8:=hid (hM7.out.next hb8)
    have hN8:=hid (hN7.out.next hb8)
    have hQ8:=hid (hQ7.out.next hb8)
    have hp8:=hid (hp7.out.next hb8)
    have hb8x:=hid (qQ hb7x.out hb8)
    clear hX7 hY7 hM7 hN7 hQ7 hp7 hb7x hb8
    clear hrt hYc7 hW7 hU7 hx
    have hb9:Below w8.heap.size w8 (w8.alloc (.cells (twC x).toArray 45)):=qJ _
    have hV9:=Bl.fresh w8 (twC x) 45
    have hU9:=hU8.next hb9
    go_upto_region 12 with ((with_reducible refine zR rfl _ _ rfl _ _ ?_ x ?_ ?_ ?_); exact rfl; exact rfl; exact rfl)
    generalize hW9e:(w8.alloc (.cells (twC x).toArray 45))=w9 at *
    obtain ⟨V,hVe⟩:∃ V,w8.heap.size=V:=⟨_,rfl⟩
    rw [hVe] at hV9 ⊢
    have hX9:=hid (hX8.out.next hb9)
    have hY9:=hid (hY8.out.next hb9)
    have hM9:=hid (hM8.out.next hb9)
    have hN9:=hid (hN8.out.next hb9)
    have hQ9:=hid (hQ8.out.next hb9)
    have hp9:=hid (hp8.out.next hb9)
    have hb9x:=hid (qQ hb8x.out hb9)
    clear hX8 hY8 hM8 hN8 hQ8 hp8 hb8x hb9
    clear hW9e hVe hU8
    obtain ⟨⟨c0,c1,c2,c3⟩,c4,c5,c6,c7⟩:=hU9.eight
    obtain ⟨⟨e0,e1,e2,e3⟩,e4,e5,e6,e7⟩:=hV9.eight
    have heq:=hid ((q5u x x w9).mono (R':=fun e w'=>e=.returned (.bool true)/\Below w9.heap.size w9 w') (by rintro e w' ⟨rfl,h⟩; exact ⟨by rw [decide_eq_true rfl],h⟩))
    clear hU9 hV9
    go_wp2_with fail
    refine heq.out.mono ?_; rintro ez wx ⟨rfl,hbx⟩
    have hX10:=hid (hX9.out.next hbx)
    have hY10:=hid (hY9.out.next hbx)
    have hM10:=hid (hM9.out.next hbx)
    have hN10:=hid (hN9.out.next hbx)
    have hQ10:=hid (hQ9.out.next hbx)
    have hp10:=hid (hp9.out.next hbx)
    have hb10x:=hid (qQ hb9x.out hbx)
    clear hX9 hY9 hM9 hN9 hQ9 hp9 hb9x hbx
    clear heq c0 c1 c2 c3 c4 c5 c6 c7 e0 e1 e2 e3 e4 e5 e6 e7
    go_wp2_with fail
    go_roundw
    case rel=>exact ⟨i+1,by omega,by go_num,hX10,hY10,hM10,hN10,hQ10,hp10,hb10x⟩
    case measure=>simp [intOf]; omega
   ·have hkn:=hid (q8l wr hp.out)
    by_cases hi1:i<nq
    ·have q1:(i:Int)<(nq:Int):=by omega
     obtain rfl:i=6:=by omega
     go_wp2_with fail
     refine hkn.out.mono ?_; rintro e w2 ⟨rfl,hb2⟩
     have hY2:=hY.out.next hb2
     have hN2:=hid (hN.out.next hb2)
     have hb2x:=hid (qQ hb.out hb2)
     obtain ⟨⟨a0,a1,a2,a3⟩,a4,a5,a6⟩:=hY2.seven
     have hrv:=hid (kN syms B v1.out jo di go df so ns ds w2 hN2.out)
     replace hY2:=hid hY2
     clear hkn hX hY hM hN hQ hp hb hb2
     go_wp2_with fail
     refine hrv.out.mono ?_; rintro e w3 ⟨rfl,hb3⟩
     have hY3:=hY2.out.next hb3
     have hN3:=hid (hN2.out.next hb3)
     have hb3x:=hid (qQ hb2x.out hb3)
     obtain ⟨⟨a0,a1,a2,a3⟩,a4,a5,a6⟩:=hY3.seven
     have hsg:=hid (q5m syms B v1.out.st v1.out.num d2 d3 d4 jo di go df so ns ds w3 hN3.out)
     clear hrv hY2 hN2 hb2x hb3 hY3
     go_wp2_with fail
     refine hsg.out.mono ?_; rintro e w4 ⟨rfl,hb4⟩
     have hb4x:=hid (qQ hb3x.out hb4)
     clear hsg hb4 a0 a1 a2 a3 a4 a5 a6
     go_wp2_with fail
     go_ret
     exact ⟨rfl,hb4x.out⟩
    ·have q1:¬ (i:Int)<(nq:Int):=by omega
     go_wp2_with fail
     refine hkn.out.mono ?_; rintro e w2 ⟨rfl,hb2⟩
     have hY2:=hY.out.next hb2
     have hN2:=hid (hN.out.next hb2)
     have hb2x:=hid (qQ hb.out hb2)
     obtain ⟨⟨a0,a1,a2,a3⟩,a4,a5,a6⟩:=hY2.seven
     have hrv:=hid (kN syms B v1.out jo di go df so ns ds w2 hN2.out)
     replace hY2:=hid hY2
     clear hkn hX hY hM hN hQ hp hb hb2
     go_wp2_with fail
     refine hrv.out.mono ?_; rintro e w3 ⟨rfl,hb3⟩
     have hY3:=hY2.out.next hb3
     have hN3:=hid (hN2.out.next hb3)
     have hb3x:=hid (qQ hb2x.out hb3)
     obtain ⟨⟨a0,a1,a2,a3⟩,a4,a5,a6⟩:=hY3.seven
     have hsg:=hid (q5m syms B v1.out.st v1.out.num d2 d3 d4 jo di go df so ns ds w3 hN3.out)
     clear hrv hY2 hN2 hb2x hb3 hY3
     go_wp2_with fail
     refine hsg.out.mono ?_; rintro e w4 ⟨rfl,hb4⟩
     have hb4x:=hid (qQ hb3x.out hb4)
     clear hsg hb4 a0 a1 a2 a3 a4 a5 a6
     go_wp2_with fail
     go_ret
     exact ⟨rfl,hb4x.out⟩
theorem walkKeeps (w:World) (hp:Pow w) (kst ksy:Int) (fw sg:Bool) (lo:OA) (n cap:Nat) (zs:List Int) (hL:Sl w lo n cap (zs.map (.int .i64))) (hlo:∀ b o,lo=some ⟨b,o,none⟩->b<w.heap.size) (hn:n<=9223372036854775807) (qs:List Int) (qo:OA) (nq cq:Nat) (hQ:Sl w qo nq cq (qs.map (.int .i64))) (_:qo=none->cq=0) (_:∀ z∈qs,-9223372036854775808<=z/\z<=9223372036854775807) :
  Calls Tryz.prog 4 #[.agg #[.int .i64 kst,.int .i64 ksy,.bool fw,.bool sg,.slice lo n cap],.slice qo nq cq] w fun e w'=>e=.returned (.bool true)/\Below w.heap.size w w':=j6p kst ksy fw sg lo n cap zs qo nq cq qs w hL hlo hn hQ hp
end
section
open Go.RowKit Go.ChangeAt
def laidL:List (String×DataW Unit):=Rows.determiniseTwiceRow.laid
theorem laid_shaped (os:Os):(World.laidAll Tryz.prog os laidL).Shaped Tryz.prog:=World.shaped_of_ZipB (by kernel_rfl) (by kernel_rfl)
theorem laid_wit (os:Os) (args:Array Value):laidMetH Tryz.prog laidL ((World.laidAll Tryz.prog os laidL).forCall (fun _ _=>0) ⟨#[],args,[]⟩).memory:=by
 rw [MakeChecks.laidMetH_plain _ _ _ (by kernel_rfl)]
 exact laidMet_laidAll _ (by kernel_rfl) (by kernel_rfl)
theorem pow_of_laid {W:World} (h:laidMetH Tryz.prog laidL W):Pow W:=by
 rw [MakeChecks.laidMetH_plain _ _ _ (by kernel_rfl)] at h
 have h2:=h.tail.tail
 exact Lib.tabIs_of_head (rest:=laidL.tail.tail.tail) (t:=237) (e:=42) (n:=20) j1p (by kernel_rfl) Tryz.underlying237 Tryz.underlying42 (by kernel_rfl) (by kernel_rfl) h2
end
section
open Go.ChangeShapes Go.WideShapes Go.RowKit
theorem Sl.ofCells {w:World} {a:Addr} {n cap:Nat} {xs:List Value} (hl:xs.length=n) (hn:n<=cap) (hm:cap<=maxLen) (h:∀ i x,xs[i]? = some x->w.cell? (a.add i)=some x):Sl w (some a) n cap xs:=by
 refine ⟨hl,hn,hm,fun i x hx=>?_⟩
 have h0:∃ y,xs[0]? = some y:=by
  have:i<xs.length:=(List.getElem?_eq_some_iff.1 hx).1
  exact ⟨xs[0],by simp [show 0<xs.length by omega]⟩
 obtain ⟨y,hy⟩:=h0
 have hc:=h 0 y hy
 have hsp:a.spot=none:=by
  cases hs:a.spot with
  | none=>rfl
  | some s =>
   rw [show a.add 0=a by simp [Addr.add]] at hc
   unfold World.cell? at hc
   rw [hs] at hc
   split at hc<;>simp at hc
 obtain ⟨b,off,spot⟩:=a
 simp only at hsp
 subst hsp
 refine ⟨b,off,rfl,?_⟩
 have:=h i x hx
 rwa [Addr.add_lit] at this
section
variable {H:Type} {enc:TypeId×Value->H} {P:Program} {w:World} {base:Nat} {spare:Nat->Bool} {held:Bool}
theorem slInts {t e:TypeId} {fuel:Nat} {a:OA} {len cap:Nat} {x:DataW H×List MemPlace} (ht:P.underlying t=some (.slice e)) (he:P.underlying e=some (.int .i64)) (hc:P.cellsOf e=1)
  (h:DataW.trod enc P w base spare held fuel t (Value.slice a len cap).cells.toList=some x) :
  ∃ zs:List Int,Sl w a len cap (zs.map (.int .i64))/\(a=none->cap=0)/\∀ z∈zs,-9223372036854775808<=z/\z<=9223372036854775807:=by
 rcases open_ints ht he hc h with ⟨hcs,_⟩ | ⟨y,l,c,zs,hcs,_,hl,hm,hz,_,hcell,hwz⟩
 ·simp [Value.cells] at hcs
  obtain ⟨rfl,rfl,rfl⟩:=hcs
  exact ⟨[],Sl.nil w,fun _=>rfl,by simp⟩
 ·simp [Value.cells] at hcs
  obtain ⟨rfl,rfl,rfl⟩:=hcs
  have hle:len<=zs.length:=by rw [hz]; split<;>omega
  refine ⟨zs.take len,Sl.ofCells (by simp; omega) hl hm fun i z hx=>?_,fun h=>(by cases h),fun z hz'=>?_⟩
  ·rw [List.getElem?_map,List.getElem?_take] at hx
   split at hx
   ·have hi:i<zs.length:=by omega
    rw [List.getElem?_eq_getElem hi] at hx
    simp at hx
    subst hx
    rw [hcell i hi]
    simp [List.getD,hi]
   ·cases hx
  ·have:=hwz z (List.mem_of_mem_take hz')
   simpa [Lit.wf,IntKind.min,IntKind.max,IntKind.bits,IntKind.signed] using this
end
end
section
open Go.ChangeShapes Go.WideShapes Go.RowKit Go.Deep
section
variable {H:Type} {enc:TypeId×Value->H} {P:Program} {w:World} {base:Nat} {spare:Nat->Bool} {held:Bool}
theorem z6d {t e:TypeId} {fuel:Nat} {cs:List Value} {x:DataW H×List MemPlace} (ht:P.underlying t=some (.slice e)) (he:P.underlying e=some (.int .i64)) (hc:P.cellsOf e=1)
  (h:DataW.trod enc P w base spare held fuel t cs=some x) :
  ∃ (a:OA) (len cap:Nat) (N:List Int),cs=[.slice a len cap]/\Sl w a len cap (N.map (.int .i64)):=by
 rcases open_ints ht he hc h with ⟨hcs,_⟩ | ⟨y,len,cap,zs,hcs,_,hl,hm,hz,_,hcell,_⟩
 ·exact ⟨none,0,0,[],hcs,Sl.nil w⟩
 ·have hle:len<=zs.length:=by rw [hz]; split<;>omega
  refine ⟨some y,len,cap,zs.take len,hcs,Sl.ofCells (by simp; omega) hl hm fun i z hx=>?_⟩
  rw [List.getElem?_map,List.getElem?_take] at hx
  split at hx
  ·have hi:i<zs.length:=by omega
   rw [List.getElem?_eq_getElem hi] at hx
   simp at hx
   subst hx
   rw [hcell i hi]
   simp [List.getD,hi]
  ·cases hx
theorem q7w {t:TypeId} {f0 f1 f2 f3 f4:Field} {fuel:Nat} {cs:List Value} {x:DataW H×List MemPlace} (ht:P.underlying t=some (.struct #[f0,f1,f2,f3,f4])) (h:DataW.trod enc P w base spare held fuel t cs=some x) :
  ∃ y0 y1 y2 y3 y4 n,cs.length=P.cellsOf t/\DataW.trod enc P w base spare held n f0.type ((cs.drop f0.offset).take (P.cellsOf f0.type))=some y0 /\
   DataW.trod enc P w base spare held n f1.type ((cs.drop f1.offset).take (P.cellsOf f1.type))=some y1/\DataW.trod enc P w base spare held n f2.type ((cs.drop f2.offset).take (P.cellsOf f2.type))=some y2 /\
   DataW.trod enc P w base spare held n f3.type ((cs.drop f3.offset).take (P.cellsOf f3.type))=some y3/\DataW.trod enc P w base spare held n f4.type ((cs.drop f4.offset).take (P.cellsOf f4.type))=some y4:=by
 obtain ⟨xs,n,_,rfl,hl,hlen,hf⟩:=DataW.trod_struct ht h
 match xs,hlen with
 | [y0,y1,y2,y3,y4],_=>exact ⟨y0,y1,y2,y3,y4,n,hl,by simpa using hf 0 f0 rfl,by simpa using hf 1 f1 rfl,by simpa using hf 2 f2 rfl,by simpa using hf 3 f3 rfl,by simpa using hf 4 f4 rfl⟩
end
theorem openPlan {H:Type} {enc:TypeId×Value->H} {w:World} {base:Nat} {spare:Nat->Bool} {held:Bool} {fuel:Nat} {cs:Array Value} {x:DataW H×List MemPlace}
  (h:DataW.trod enc Tryz.prog w base spare held fuel 24 cs.toList=some x) :
  ∃ (kst ksy:Int) (fw sg:Bool) (lo:OA) (n cap:Nat) (zs:List Int),cs=#[.int .i64 kst,.int .i64 ksy,.bool fw,.bool sg,.slice lo n cap]/\Sl w lo n cap (zs.map (.int .i64)):=by
 have c0:Tryz.prog.cellsOf 3=1:=by kernel_rfl
 have c1:Tryz.prog.cellsOf 4=1:=by kernel_rfl
 have c2:Tryz.prog.cellsOf 22=1:=by kernel_rfl
 have c3:Tryz.prog.cellsOf 24=5:=by kernel_rfl
 obtain ⟨y0,y1,y2,y3,y4,n,hl,h0,h1,h2,h3,h4⟩:=q7w Tryz.underlying24 h
 simp only [c0,c1,c2] at h0 h1 h2 h3 h4
 rw [c3] at hl
 obtain ⟨u,hu⟩:∃ u,cs.toList=u:=⟨_,rfl⟩
 rw [hu] at h0 h1 h2 h3 h4 hl
 match u,hl,hu with
 | [p,q,r,s,t],_,hu =>
  obtain ⟨a,e0,_⟩:=DataW.trod_int Tryz.underlying3 h0
  obtain ⟨b,e1,_⟩:=DataW.trod_int Tryz.underlying3 h1
  obtain ⟨c,e2,_⟩:=DataW.trod_bool Tryz.underlying4 h2
  obtain ⟨d,e3,_⟩:=DataW.trod_bool Tryz.underlying4 h3
  obtain ⟨lo,m,cap,zs,e4,s4⟩:=z6d Tryz.underlying22 Tryz.underlying3 (by kernel_rfl) h4
  simp at e0 e1 e2 e3 e4
  subst e0 e1 e2 e3 e4
  refine ⟨a,b,c,d,lo,m,cap,zs,?_,s4⟩
  cases cs
  simpa using hu
theorem j8u {W:World} {base:Nat} {a:Addr} {n cap:Nat} (h:Cell.okWide Tryz.prog W .any base 22 (.slice (some a) n cap)):a.block<W.heap.size:=by
 simp only [Cell.okWide,Cell.ok,Tryz.underlying22] at h
 obtain ⟨_,_,_,_,row,cells,hs,_⟩:=h
 unfold World.shape? at hs
 by_cases hb:a.block<W.heap.size
 ·exact hb
 ·rw [Array.getElem?_eq_none (by omega)] at hs
  simp at hs
theorem plan_lt {W:World} {base:Nat} {kst ksy:Int} {fw sg:Bool} {lo:OA} {n cap:Nat} (h:Value.okWide Tryz.prog W .any base 24 (.agg #[.int .i64 kst,.int .i64 ksy,.bool fw,.bool sg,.slice lo n cap])) :
  ∀ b o,lo=some ⟨b,o,none⟩->b<W.heap.size:=by
 rintro b o rfl
 simp only [Value.okWide,Tryz.underlying24] at h
 obtain ⟨cs,e,_,ts,hts,_,hc⟩:=h
 obtain rfl:=Value.agg.inj e
 have ht:Tryz.prog.cellTypes Tryz.prog.depth 24=some [3,3,4,4,22]:=by kernel_rfl
 rw [ht] at hts
 cases hts
 obtain ⟨u,hu,ho⟩:=hc 4 _ rfl
 simp at hu
 subst hu
 exact j8u ho
end
end Go.Proofs.YtnapapijhhldpaaGreatDoor

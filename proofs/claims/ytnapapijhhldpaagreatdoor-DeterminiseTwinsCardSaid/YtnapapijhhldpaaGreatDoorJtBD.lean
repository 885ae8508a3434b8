/-
  Texts joined by program: Txi, Txj. No condition of its own.
-/
import Derived.Test.YtnapapijhhldpaaGreatDoorJtBC
namespace Go.Proofs.YtnapapijhhldpaaGreatDoor
set_option linter.unusedSimpArgs false
set_option linter.unusedVariables false
set_option maxRecDepth 100000
set_option maxHeartbeats 4000000
section
open Go.RowKit
def sq0:Sqr:=⟨fun _=>false,fun _=>[],fun _=>[],[]⟩
theorem sq0_I (A:Au) (n:Nat):SqI A n [] sq0:=⟨fun i m h=>(by cases h),fun i j g=>⟨fun h=>(by cases h),fun h=>by cases h⟩,fun i h=>(by cases h),fun i h=>(by cases h),fun i h=>(by cases h),fun i h=>by cases h⟩
theorem TwI.sqM {w0 w:World} {N:Au} {n nn syms:Nat} {iv fv rv vv v27 v29 v31 v33 v34 v35 v7:Value} {eb fb tb sb G:Nat} {E:Nat->Bool} (h:TwI w0 w N n nn syms iv fv rv vv true true true true true true true v27 v29 v31 v33 v34 v35 v7 eb fb tb sb G E) :
  SqM w w0.heap.size G nn syms n iv fv rv vv (rwV eb n) sq0 fb tb sb (.slice none 0 0) (fun _=>.slice none 0 0) (fun _=>.slice none 0 0)/\Rw 4 w w0.heap.size (rwV eb n) n (fBo E)/\¬ SqB G nn fb tb sb (.slice none 0 0) (fun _=>.slice none 0 0) (fun _=>.slice none 0 0) eb:=by
 obtain ⟨_,h2,h2'⟩:=h.f2 rfl
 obtain ⟨_,h4⟩:=h.f4 rfl
 obtain ⟨_,h6⟩:=h.f6 rfl
 obtain ⟨_,h8⟩:=h.f8 rfl
 obtain ⟨_,h10,h10'⟩:=h.f10 rfl
 refine ⟨⟨h10',h10,RR.new (g:=0) (cap:=0) h4,RR.new (g:=0) (cap:=0) h6,h8,FO.nil _ _ _ _,fun g hg hg'=>?_⟩,h2,fun hB=>?_⟩
 ·rcases hg with hg | ⟨i,_,hg⟩
  ·rcases hg' with hg' | ⟨i,_,hg'⟩
   ·cases hg; cases hg'; exact h.n1 rfl rfl rfl
   ·cases hg'
  ·cases hg
 ·rcases hB with e | e | hB | hB | hB
  ·exact bl_ne h10' h2 (by decide) (by rw [<-e]; rfl)
  ·exact h.n2 rfl rfl e
  ·rcases hB with hB | ⟨i,_,hB⟩
   ·exact rw_rw_ne h2 h4 (by decide) eb rfl hB
   ·cases hB
  ·rcases hB with hB | ⟨i,_,hB⟩
   ·exact rw_rw_ne h2 h6 (by decide) eb rfl hB
   ·cases hB
  ·cases hB
def TwR (W0:World) (G nn syms fb tb sb nr eb:Nat) (iv fv rv vv:Value) (N:Au) (E:Nat->Bool) (done:Pr->Prop) (w:World):Prop :=
 ∃ (S:Sqr) (ov:Value) (F T:Nat->Value),SqM w W0.heap.size G nn syms N.st iv fv rv vv (rwV eb N.st) S fb tb sb ov F T/\SqI N N.st [] S/\(∃ m,Len S m/\m+eL nr*cU S N.st<=900000)/\Rw 4 w W0.heap.size (rwV eb N.st) N.st (fBo E)/\¬ SqB G nn fb tb sb ov F T eb/\(∀ Q,Bg N Q->done Q->S.seen (nuI N.st Q)=true)/\Below W0.heap.size W0 w
section
variable {W0 w w':World} {G nn syms fb tb sb nr eb:Nat} {iv fv rv vv:Value} {N:Au} {E:Nat->Bool} {done done':Pr->Prop}
theorem TwR.below (h:TwR W0 G nn syms fb tb sb nr eb iv fv rv vv N E done w):Below W0.heap.size W0 w:=by obtain ⟨_,_,_,_,_,_,_,_,_,_,h⟩:=h; exact h
theorem TwR.en (h:TwR W0 G nn syms fb tb sb nr eb iv fv rv vv N E done w):Rw 4 w W0.heap.size (rwV eb N.st) N.st (fBo E):=by obtain ⟨_,_,_,_,_,_,_,h,_⟩:=h; exact h
theorem TwR.c8 (h:TwR W0 G nn syms fb tb sb nr eb iv fv rv vv N E done w):w.cell? ⟨G,8,none⟩=some (rwV eb N.st):=by obtain ⟨_,_,_,_,h,_⟩:=h; exact h.blk.cell (i:=8) rfl
theorem TwR.next (h:TwR W0 G nn syms fb tb sb nr eb iv fv rv vv N E done w) (hb:Below w.heap.size w w'):TwR W0 G nn syms fb tb sb nr eb iv fv rv vv N E done w':=by
 obtain ⟨S,ov,F,T,h1,h2,h3,h4,h5,h6,h7⟩:=h
 exact ⟨S,ov,F,T,h1.next hb,h2,h3,h4.next hb,h5,h6,below_chain h7 hb⟩
theorem TwR.skip (h:TwR W0 G nn syms fb tb sb nr eb iv fv rv vv N E done w) (hd:∀ Q,Bg N Q->done' Q->done Q):TwR W0 G nn syms fb tb sb nr eb iv fv rv vv N E done' w:=by
 obtain ⟨S,ov,F,T,h1,h2,h3,h4,h5,h6,h7⟩:=h
 exact ⟨S,ov,F,T,h1,h2,h3,h4,h5,fun Q hQ hq=>h6 Q hQ (hd Q hQ hq),h7⟩
theorem TwR.go (h:TwR W0 G nn syms fb tb sb nr eb iv fv rv vv N E done w) {P:Pr} {i:Nat} {io:OA} {ci:Nat} {fo:OA} {cf:Nat} {ro:OA} {cr:Nat} {vo:OA} {cv:Nat} (hK:SqK W0 syms nn N io ci fo cf ro nr cr vo cv eb E) (hiv:iv=.slice io N.st ci) (hfv:fv=.slice fo N.st cf) (hrv:rv=.slice ro nr cr) (hvv:vv=.slice vo (N.st+1) cv) (hi:i=nuI N.st P) (hB:Bg N P) (h1:P.1<N.st) (h2:P.2<N.st) (hd:∀ Q,Bg N Q->done' Q->done Q\/Q=P) :
  Calls Tryz.prog 55 #[.pointer (some ⟨G,0,none⟩),.int .i64 (i:Int)] w fun e w'=>e=.returned (.tuple #[])/\TwR W0 G nn syms fb tb sb nr eb iv fv rv vv N E done' w':=by
 subst hiv hfv hrv hvv hi
 obtain ⟨S,ov,F,T,k1,k2,⟨m,k3,k3'⟩,k4,k5,k6,k7⟩:=h
 have hP:prI N.st (nuI N.st P)=P:=prI_nuI h2
 refine (explore_any hK G fb tb sb _ S ov F T [] (nuI N.st P) m w (Nat.le_refl _) k1 k2 k7 k4 k5 k3 (by omega) (by rw [hK.sq]; exact nuI_lt h1 h2) (by rw [hP]; exact .here hB)).mono ?_
 rintro e w' ⟨S',ov',F',T',rfl,s1,s2,s3,s4,s5,s6⟩
 obtain ⟨e1,e2⟩:=en_next k4 k5 s6
 obtain ⟨m',g1,g2⟩:=s4 m k3
 refine ⟨rfl,S',ov',F',T',s1,s2,⟨m',g1,by omega⟩,e1,e2,fun Q hQ hq=>?_,s6.back k7 fun g hg=>(k1.ge g hg).1⟩
 rcases hd Q hQ hq with h | rfl
 ·exact s3.seen _ (k6 Q hQ h)
 ·exact s5
end
theorem uq_filter {K L:List Ac} (hK:Nf K L) (hu:Uq L):∀ x∈K.filter nz,∀ y∈K.filter nz,x.1=y.1->x.2.1=y.2.1->x=y:=fun x hx y hy h1 h2=>by
 obtain ⟨a,ha,ka,wa⟩:=nf_mem hK x hx
 obtain ⟨c,hc,kc,wc⟩:=nf_mem hK y hy
 have e1:a.1=x.1:=congrArg (fun q:Ky=>q.1) ka
 have e2:a.2.1=x.2.1:=congrArg (fun q:Ky=>q.2.1) ka
 have e3:c.1=y.1:=congrArg (fun q:Ky=>q.1) kc
 have e4:c.2.1=y.2.1:=congrArg (fun q:Ky=>q.2.1) kc
 have e:=hu a ha c hc (by rw [e1,e3,h1]) (by rw [e2,e4,h2])
 subst e
 have k:ky x=ky y:=ka.symm.trans kc
 have w:wt x=wt y:=wa.symm.trans wc
 have f1:x.2.2.1=y.2.2.1:=congrArg (fun q:Ky=>q.2.2) k
 exact Prod.ext h1 (Prod.ext h2 (Prod.ext f1 w))
def TwO (A:Au) (w:World) (e:Ending) (w':World):Prop:=∃ (K:List Ac) (b:Bool),Nf K A.arcs/\e=.returned (.tuple #[.bool b,.int .i64 0])/\(b=true->Bal ⟨A.st,A.ini,A.fin,K.filter nz⟩)/\(Uq A.arcs->(∀ q c,A.ini[q]? = some (some c)->q=0)->b=true)/\Below w.heap.size w w'
theorem twins_any {most syms:Nat} {sg:Bool} {A:Au} (hA:AuO most syms sg A) (hmost:most<=8) (io:OA) (ci:Nat) (fo:OA) (cf:Nat) (ro:OA) (nr cr:Nat) (w:World) (h:Mo w syms A io ci fo cf ro nr cr) :
  Calls Tryz.prog 17 #[.agg (auC syms A.st (.slice io A.st ci) (.slice fo A.st cf) (.slice ro nr cr)).toArray] w (TwO A w):=by
 have hV:=hA.vo (Nat.le_trans hmost (by decide))
 have hb0:Below w.heap.size w (w.alloc (.cells (auC syms A.st (.slice io A.st ci) (.slice fo A.st cf) (.slice ro nr cr)).toArray 30)):=below_alloc _
 have hG:=Bl.fresh w (auC syms A.st (.slice io A.st ci) (.slice fo A.st cf) (.slice ro nr cr)) 30
 have hm:=hid (h.next hb0)
 clear h
 go_enter Tryz.func17,Tryz.ntmps17
 go_upto_region 1 with fail
 generalize hW0:(w.alloc (.cells (auC syms A.st (.slice io A.st ci) (.slice fo A.st cf) (.slice ro nr cr)).toArray 30))=W0 at *
 have hW0:=hid hW0
 obtain ⟨⟨x0,x1,x2,x3⟩,x4,x5,x6⟩:=hG.seven
 have hst8:A.st<=8:=Nat.le_trans hA.st hmost
 clear hW0
 go_wp2_with fail
 refine (light_any syms A hV (.inl (by have:=hA.num; omega)) hA.li hA.lf hA.lw io ci fo cf ro nr cr _ hm.out).mono ?_; rintro e w1 ⟨⟨io',ci',fo',cf',ro',nr',cr',vo',cv',K,rfl,hm1,hnf⟩,hb1⟩
 clear x0 x1 x2 x3 x4 x5 x6
 replace hm1:=hid hm1
 replace hnf:=hid hnf
 have hb1':=hid (below_chain hb0 hb1)
 have hWm:W0.heap.size<=w1.heap.size:=hb1.size
 replace hb1:=hid hb1
 have hbX:Below w1.heap.size w1 (w1.alloc (.cells (viC syms A.st (.slice io' A.st ci') (.slice fo' A.st cf') (.slice ro' nr' cr') (.slice vo' (A.st+1) cv')).toArray 63)):=below_alloc _
 have hX:=Bl.fresh w1 (viC syms A.st (.slice io' A.st ci') (.slice fo' A.st cf') (.slice ro' nr' cr') (.slice vo' (A.st+1) cv')) 63
 go_upto_region 2 with ((with_reducible refine wp_storeVView rfl _ _ rfl _ _ ?_ (viC syms A.st (.slice io' A.st ci') (.slice fo' A.st cf') (.slice ro' nr' cr') (.slice vo' (A.st+1) cv')) rfl rfl rfl ?_ ?_); exact rfl; exact viC_1 _ _ _ _ _ _ _ _ _ _ _ _ _ _)
 have hm2:=hid (hm1.out.next hbX)
 have hb2:=hid (below_chain hb1'.out hbX)
 have hVl:=hX.lt
 obtain ⟨V,hVe⟩:∃ V,w1.heap.size=V:=⟨_,rfl⟩
 rw [hVe] at hX hVl ⊢
 generalize hW2:(w1.alloc (.cells (viC syms A.st (.slice io' A.st ci') (.slice fo' A.st cf') (.slice ro' nr' cr') (.slice vo' (A.st+1) cv')).toArray 63))=W2 at *
 clear hW2 hbX hm1 hb1 hb1'
 have hn14:Hid (nr'<=14):=hid (by
  have h1:=nf_len hnf.out (fun z hz=>(hV.arcs z hz))
  have h2:=List.length_filter_le nz K
  have h3:=hA.num
  have h4:=fo_n hm2.out.mo.arcs
  simp only [List.length_map] at h4
  omega)
 obtain ⟨hAok,hcst⟩:=hA.aok hnf.out
 have hok:Hid (∀ x∈K.filter nz,x.1<A.st/\x.2.2.1<A.st):=hid fun x hx=>⟨(hAok.arc x hx).1,(hAok.arc x hx).2.1⟩
 have hrow:Hid (ro'=none\/∃ b,ro'=some ⟨b,0,none⟩):=hid hm2.out.mo.arcs.place
 have hlie:Hid (∀ b o,ro'=some ⟨b,o,none⟩->b<W2.heap.size):=hid fun b o e=>(by subst e; exact (hm2.out.mo.arcs.lt rfl).2)
 obtain ⟨nn,hnn⟩:∃ nn,A.st*A.st=nn:=⟨_,rfl⟩
 have hnn64:nn<=64:=by rw [<-hnn]; exact Nat.le_trans (Nat.mul_le_mul hst8 hst8) (by decide)
 have hmul:IntKind.i64.wrap ((A.st:Int)*(A.st:Int))=(nn:Int):=by
  have e:(A.st:Int)*(A.st:Int)=(nn:Int):=by rw [<-hnn]; exact (Int.natCast_mul _ _).symm
  rw [e,IntKind.wrap_i64]; omega
 have y3:=hX.cell (i:=3) rfl
 have hss:=hid (Ss.filter nz hnf.out.1)
 replace hnn:=hid hnn
 replace hAok:=hid hAok
 replace hcst:=hid hcst
 go_upto_region 5 with fail
 clear y3 hmul
 refine tw_new V syms nn ⟨A.st,A.ini,A.fin,K.filter nz⟩ io' ci' fo' cf' ro' nr' cr' vo' cv' W2 hX.cs (hm2.out.vm syms) hok.out hA.lf (by show A.st<=64; omega) (by have:=hn14.out; omega) (by omega) (fun _ _ d _ _ h=>by cases d<;>exact h) ?_
 intro _ _ _ _ _ v27 v29 v31 v33 v34 v35 eb fb tb sb G E w3 hI
 obtain ⟨hq3,hen3,hnB3⟩:=hI.sqM
 obtain ⟨-, -, hsnd⟩:=hI.f2 rfl
 have hdr:=(Below.refl W2.heap.size W2).drew
 have hK:SqK W2.drew syms nn ⟨A.st,A.ini,A.fin,K.filter nz⟩ io' ci' fo' cf' ro' nr' cr' vo' cv' eb E:=⟨(hm2.out.vm syms).next hdr,hss.out,hrow.out,fun b o e=>Nat.lt_of_lt_of_le (hlie.out b o e) hdr.size,by show A.st<=64; omega,by have:=hn14.out; omega,hok.out,fun x hx=>Nat.le_trans (hcst.out x hx) (by decide),hsnd,hnn.out.symm⟩
 have hXD0:=hX.next hdr
 have hX3:=hid (hX.next (hdr.trans (hI.below.mono hdr.size)))
 have hb3:=hid hI.below
 have hbD:=hid (below_chain hb2.out hdr)
 have hVD:V<W2.drew.heap.size:=Nat.lt_of_lt_of_le hVl hdr.size
 have hini:Hid (Fl 8 W2.drew io' A.st ci' (A.ini.map twC)):=hid ((hm2.out.vm syms).next hdr).mo.ini
 have hpot:=hid (show (0:Nat)+eL nr'*cU sq0 A.st<=900000 by
  have h1:cU sq0 A.st<=nn:=by unfold cU; rw [hnn.out]; exact Nat.le_trans (List.length_filter_le _ _) (by simp)
  have h2:eL nr'<=197:=by have:=Nat.mul_le_mul hn14.out hn14.out; unfold eL; omega
  have h3:=Nat.mul_le_mul h2 (Nat.le_trans h1 hnn64)
  omega)
 generalize hWDe:W2.drew=WD at *
 replace hq3:=hid hq3
 replace hen3:=hid hen3
 replace hnB3:=hid hnB3
 have hK:=hid hK
 clear hI hsnd hX hm2 hdr hWDe hlie hrow
 have hXD:=hid hXD0
 have hT3:Hid (TwR WD G nn syms fb tb sb nr' eb (.slice io' A.st ci') (.slice fo' A.st cf') (.slice ro' nr' cr') (.slice vo' (A.st+1) cv') ⟨A.st,A.ini,A.fin,K.filter nz⟩ E (fun Q=>Q.1<0) w3) :=
  hid ⟨sq0,_,_,_,hq3.out,sq0_I _ _,⟨0,⟨fun i=>⟨Nat.le_refl _,Nat.le_refl _⟩,Nat.le_refl _⟩,hpot.out⟩,hen3.out,hnB3.out,fun Q _ h=>absurd h (Nat.not_lt_zero _),hb3.out⟩
 have y3:=hX3.out.cell (i:=3) rfl
 clear hq3 hen3 hnB3 hpot hX3 hb3
 have hnf2:=hid hnf.out
 clear hnf
 go_wp2_with fail
 go_loopw [39] (fun pv wr=>∃ p:Nat,p<=A.st/\pv=.int .i64 (p:Int)/\Hid (TwR WD G nn syms fb tb sb nr' eb (.slice io' A.st ci') (.slice fo' A.st cf') (.slice ro' nr' cr') (.slice vo' (A.st+1) cv') ⟨A.st,A.ini,A.fin,K.filter nz⟩ E (fun Q=>Q.1<p) wr)) (fun pv _=>A.st-(intOf pv).toNat)
 case atStart=>exact ⟨0,Nat.zero_le _,rfl,hT3⟩
 case round =>
  clear hT3 y3
  obtain ⟨p,hp,rfl,hT⟩:=hrel
  have y3:=(hXD.out.under hT.out.below hVD).cell (i:=3) rfl
  by_cases hlt:p<A.st
  ·have p1:(p:Int)<(A.st:Int):=by omega
   have p0:(0:Int)<=(p:Int):=by omega
   obtain ⟨v1,hv1⟩:∃ v1,A.ini[p]? = some v1:=⟨_,List.getElem?_eq_getElem (by rw [hA.li]; exact hlt)⟩
   have hv1:=hid hv1
   have hT0:=hid (hT.out.skip (done':=fun Q=>Q.1<p\/(Q.1=p/\Q.2<0)) fun Q _ h=>h.elim id fun h=>absurd h.2 (Nat.not_lt_zero _))
   clear hT
   obtain ⟨wo,rfl⟩:∃ wo:World,wo=wr:=⟨_,rfl⟩
   go_wp2_with fail
   go_loopw [45] (fun qv wr=>∃ q:Nat,q<=A.st/\qv=.int .i64 (q:Int)/\Hid (TwR WD G nn syms fb tb sb nr' eb (.slice io' A.st ci') (.slice fo' A.st cf') (.slice ro' nr' cr') (.slice vo' (A.st+1) cv') ⟨A.st,A.ini,A.fin,K.filter nz⟩ E (fun Q=>Q.1<p\/(Q.1=p/\Q.2<q)) wr)) (fun qv _=>A.st-(intOf qv).toNat)
   case atStart=>exact ⟨0,Nat.zero_le _,rfl,hT0⟩
   case round =>
    clear hT0 y3
    obtain ⟨q,hq,rfl,hT⟩:=hrel
    by_cases hlq:q<A.st
    ·have q1:(q:Int)<(A.st:Int):=by omega
     have q0:(0:Int)<=(q:Int):=by omega
     obtain ⟨v2,hv2⟩:∃ v2,A.ini[q]? = some v2:=⟨_,List.getElem?_eq_getElem (by rw [hA.li]; exact hlq)⟩
     have hv2:=hid hv2
     have hbg1:=hid (begins_any syms A.st (.slice fo' A.st cf') (.slice ro' nr' cr') (.slice vo' (A.st+1) cv') io' ci' A.ini p v1 hv1.out wr (Fl.next hini.out hT.out.below))
     have hno:=hid (show ∀ w',(¬ Bg ⟨A.st,A.ini,A.fin,K.filter nz⟩ (p,q))->TwR WD G nn syms fb tb sb nr' eb (.slice io' A.st ci') (.slice fo' A.st cf') (.slice ro' nr' cr') (.slice vo' (A.st+1) cv') ⟨A.st,A.ini,A.fin,K.filter nz⟩ E (fun Q=>Q.1<p\/(Q.1=p/\Q.2<q)) w'->TwR WD G nn syms fb tb sb nr' eb (.slice io' A.st ci') (.slice fo' A.st cf') (.slice ro' nr' cr') (.slice vo' (A.st+1) cv') ⟨A.st,A.ini,A.fin,K.filter nz⟩ E (fun Q=>Q.1<p\/(Q.1=p/\Q.2<q+1)) w' from fun w' hn h=>h.skip fun Q hQ hd=>by
      rcases hd with hd | ⟨h1,h2⟩
      ·exact .inl hd
      ·by_cases e:Q.2=q
       ·exact absurd (show Bg ⟨A.st,A.ini,A.fin,K.filter nz⟩ (p,q) by rw [<-h1,<-e]; exact hQ) hn
       ·exact .inr ⟨h1,by omega⟩)
     obtain ⟨⟨x0,x1,x2,x3⟩,x4,x5,x6,x7⟩:=(hXD.out.under hT.out.below hVD).eight
     cases v1 with
     | none =>
      replace hbg1:=hid (hbg1.out.mono (R':=fun e w'=>e=.returned (.bool false)/\Below wr.heap.size wr w') fun e w' h=>⟨h.1,h.2⟩)
      go_wp2_with fail
      refine hbg1.out.mono ?_; rintro e w4 ⟨rfl,hb4⟩
      have hTs:=hid (hno.out _ (fun h=>by obtain ⟨⟨c,h⟩,_⟩:=h; have h:A.ini[p]? = some (some c):=h; rw [hv1.out] at h; cases h) (hT.out.next hb4))
      clear hno hT hbg1 x0 x1 x2 x3 x4 x5 x6 x7 hb4
      go_wp2_with fail
      go_roundw
      case rel=>exact ⟨q+1,by omega,by go_num,hTs⟩
      case measure=>simp [intOf]; omega
     | some c1 =>
      replace hbg1:=hid (hbg1.out.mono (R':=fun e w'=>e=.returned (.bool true)/\Below wr.heap.size wr w') fun e w' h=>⟨h.1,h.2⟩)
      go_wp2_with fail
      refine hbg1.out.mono ?_; rintro e w4 ⟨rfl,hb4⟩
      have hT4:=hid (hT.out.next hb4)
      have hbg2:=hid (begins_any syms A.st (.slice fo' A.st cf') (.slice ro' nr' cr') (.slice vo' (A.st+1) cv') io' ci' A.ini q v2 hv2.out w4 (Fl.next hini.out hT4.out.below))
      clear x0 x1 x2 x3 x4 x5 x6 x7 hbg1 hb4
      obtain ⟨⟨x0,x1,x2,x3⟩,x4,x5,x6,x7⟩:=(hXD.out.under hT4.out.below hVD).eight
      cases v2 with
      | none =>
       replace hbg2:=hid (hbg2.out.mono (R':=fun e w'=>e=.returned (.bool false)/\Below w4.heap.size w4 w') fun e w' h=>⟨h.1,h.2⟩)
       go_wp2_with fail
       refine hbg2.out.mono ?_; rintro e w5 ⟨rfl,hb5⟩
       have hTs:=hid (hno.out _ (fun h=>by obtain ⟨_,⟨c,h⟩,_⟩:=h; have h:A.ini[q]? = some (some c):=h; rw [hv2.out] at h; cases h) (hT4.out.next hb5))
       clear hno hT hbg2 x0 x1 x2 x3 x4 x5 x6 x7 hb5 hT4
       go_wp2_with fail
       go_roundw
       case rel=>exact ⟨q+1,by omega,by go_num,hTs⟩
       case measure=>simp [intOf]; omega
      | some c2 =>
       replace hbg2:=hid (hbg2.out.mono (R':=fun e w'=>e=.returned (.bool true)/\Below w4.heap.size w4 w') fun e w' h=>⟨h.1,h.2⟩)
       go_wp2_with fail
       refine hbg2.out.mono ?_; rintro e w5 ⟨rfl,hb5⟩
       have hT5:=hid (hT4.out.next hb5)
       have g8:=hT5.out.c8
       have e1:w5.cell? ⟨eb,p,none⟩=some (.bool (E p)):=hT5.out.en.cell hlt
       have e2:w5.cell? ⟨eb,q,none⟩=some (.bool (E q)):=hT5.out.en.cell hlq
       clear x0 x1 x2 x3 x4 x5 x6 x7 hbg2 hb5 hT4
       by_cases hEE:E p=true/\E q=true
       ·obtain ⟨hE1,hE2⟩:=hEE
        rw [hE1] at e1
        rw [hE2] at e2
        have hB:Hid (Bg ⟨A.st,A.ini,A.fin,K.filter nz⟩ (p,q)):=hid ⟨⟨c1,hv1.out⟩,⟨c2,hv2.out⟩,(hK.out.snd p hlt).1 hE1,(hK.out.snd q hlq).1 hE2⟩
        have y3:=(hXD.out.under hT5.out.below hVD).cell (i:=3) rfl
        obtain ⟨a1,ha1⟩:∃ a1,p*A.st=a1:=⟨_,rfl⟩
        obtain ⟨ix,hix⟩:∃ ix,a1+q=ix:=⟨_,rfl⟩
        have ha2:a1<=64:=by rw [<-ha1]; have:=Nat.mul_le_mul (Nat.le_of_lt hlt) (Nat.le_refl A.st); have:=Nat.mul_le_mul hst8 hst8; omega
        have m1:IntKind.i64.wrap ((p:Int)*(A.st:Int))=(a1:Int):=by
         have e:(p:Int)*(A.st:Int)=(a1:Int):=by rw [<-ha1]; exact (Int.natCast_mul _ _).symm
         rw [e,IntKind.wrap_i64]; omega
        have m2:IntKind.i64.wrap ((a1:Int)+(q:Int))=(ix:Int):=by rw [IntKind.wrap_i64]; omega
        have hgo:=hid (hT5.out.go (i:=ix) (P:=(p,q)) (done':=fun Q=>Q.1<p\/(Q.1=p/\Q.2<q+1)) hK.out rfl rfl rfl rfl (by unfold nuI; show ix=p*A.st+q; omega) hB.out hlt hlq fun Q _ hd=>by
         rcases hd with hd | ⟨h1,h2⟩
         ·exact .inl (.inl hd)
         ·by_cases e:Q.2=q
          ·exact .inr (Prod.ext h1 e)
          ·exact .inl (.inr ⟨h1,by omega⟩))
        clear hE1 hE2 hno hT hT5 ha1 hix hB
        go_wp2_with fail
        refine hgo.out.mono ?_; rintro e w6 ⟨rfl,hT6⟩
        have hT6:=hid hT6
        clear hgo g8 e1 e2 y3 m1 m2
        go_wp2_with fail
        go_roundw
        case rel=>exact ⟨q+1,by omega,by go_num,hT6⟩
        case measure=>simp [intOf]; omega
       ·have hTs:=hid (hno.out _ (fun h=>hEE ⟨(hK.out.snd p hlt).2 h.2.2.1,(hK.out.snd q hlq).2 h.2.2.2⟩) hT5.out)
        cases hE1:E p with
        | false =>
         rw [hE1] at e1
         clear hno hT hT5 hEE hE1
         go_wp2_with fail
         go_roundw
         case rel=>exact ⟨q+1,by omega,by go_num,hTs⟩
         case measure=>simp [intOf]; omega
        | true =>
         cases hE2:E q with
         | true=>exact absurd ⟨hE1,hE2⟩ hEE
         | false =>
          rw [hE1] at e1
          rw [hE2] at e2
          clear hno hT hT5 hEE hE1 hE2
          go_wp2_with fail
          go_roundw
          case rel=>exact ⟨q+1,by omega,by go_num,hTs⟩
          case measure=>simp [intOf]; omega
    ·obtain rfl:q=A.st:=by omega
     have q1:¬ (A.st:Int)<(A.st:Int):=by omega
     have hTn:=hid (hT.out.skip (done':=fun Q=>Q.1<p+1) fun Q hQ h=>by
      obtain ⟨_,⟨d,hd⟩,_⟩:=hQ
      have h2:Q.2<A.st:=by rw [<-hA.li]; exact (List.getElem?_eq_some_iff.1 hd).1
      by_cases e:Q.1=p
      ·exact .inr ⟨e,h2⟩
      ·exact .inl (by omega))
     clear hT
     go_wp2_with fail
     go_roundw
     case rel=>exact ⟨p+1,by omega,by go_num,hTn⟩
     case measure=>simp [intOf]; omega
  ·obtain rfl:p=A.st:=by omega
   have p1:¬ (A.st:Int)<(A.st:Int):=by omega
   obtain ⟨S,ov,F,T,k1,k2,⟨m,k3,k3'⟩,k4,k5,k6,k7⟩:=hT.out
   have hpos:=hid k2
   have hMv:MvK nn 1048576 S:=⟨fun i mm hmm=>by
    have h1:=(k2.dual mm.1 i mm.2).2 hmm
    obtain ⟨h2,h3,h4,_⟩:=k2.snd _ _ h1
    refine ⟨by rw [<-hnn.out]; exact h3,?_⟩
    obtain ⟨x,hx,y,hy,_,_,_,_,_,_,_,hg⟩:=h2
    have c1:=hcst.out x hx
    have c2:=hcst.out y hy
    rw [show mm.2=(cst x:Int)-(cst y:Int) from hg]
    omega,by omega⟩
   have hbl:=hid (balanced_any (A:=⟨A.st,A.ini,A.fin,K.filter nz⟩) (n:=A.st) k2 hok.out hnn.out.symm hMv (by have:=k3.2; omega) wr k1)
   have hfin:=hid (show (∃ pt ht,Hts S pt ht)->Bal ⟨A.st,A.ini,A.fin,K.filter nz⟩ from fun ⟨pt,ht,hh⟩=>bal_of (n:=A.st) hok.out hA.li k2 (fun P hP=>k6 P hP (by
    obtain ⟨⟨d,hd⟩,_⟩:=hP
    show P.1<A.st
    rw [<-hA.li]; exact (List.getElem?_eq_some_iff.1 hd).1)) hh)
   have hdet:=hid (show Uq A.arcs->(∀ q c,A.ini[q]? = some (some c)->q=0)->∀ i m,m∈S.fr i->m.2=0 from fun hu hi i m hm=>det_gap (A:=⟨A.st,A.ini,A.fin,K.filter nz⟩) (uq_filter hnf2.out hu) hi k2 i m hm)
   have hbz:=hid (below_chain hbD.out k7)
   clear k1 k2 k3 k3' k4 k5 k6 k7 hpos hMv hT y3
   go_wp2_with fail
   refine hbl.out.mono ?_; rintro e w9 ⟨bb,rfl,hb1,hb2',hb3⟩
   have hbq:=hid (below_chain hbz.out hb3)
   have hb1:=hid hb1
   have hb2':=hid hb2'
   clear hbl hb3
   go_wp2_with fail
   go_ret2
   exact ⟨K,bb,hnf2.out,rfl,fun e=>hfin.out (hb1.out e),fun hu hi=>hb2'.out (hdet.out hu hi),hbq.out⟩
end
section
open Go.RowKit
theorem ss_lt {L:List Ac} (h:Ss L) {i k:Nat} {x y:Ac} (hx:L[i]? = some x) (hy:L[k]? = some y) (hk:k<i):y≠x:=by
 have key:∀ {L:List Ac} {i k:Nat} {x y:Ac},Ss L->L[i]? = some x->L[k]? = some y->k<i->klt (ky y) (ky x):=by
  intro L
  induction L with
  | nil=>intro i k x y _ hx; simp at hx
  | cons z r ih =>
   intro i k x y h hx hy hk
   cases i with
   | zero=>omega
   | succ i =>
    rw [List.getElem?_cons_succ] at hx
    cases k with
    | zero =>
     obtain rfl:z=y:=by simpa using hy
     exact h.1 x (List.mem_of_getElem? hx)
    | succ k =>
     rw [List.getElem?_cons_succ] at hy
     exact ih h.2 hx hy (by omega)
 intro e
 subst e
 exact klt_irrefl _ (key h hx hy hk)
noncomputable def vR (n:Nat):Code:=(Tryz.f57.body.bind (findR n)).getD .skip
theorem vd_eq (syms V nr cr:Nat) (N:Au) (io:OA) (ci:Nat) (fo:OA) (cf:Nat) (vo:OA) (cv b o j k:Nat) (x y:Ac) (hf:x.1=y.1) (hl:¬ x.2.1=y.2.1) (i1:(j:Int)<(nr:Int)) (i0:(0:Int)<=(j:Int)) (k1:(k:Int)<(nr:Int)) (k0:(0:Int)<=(k:Int)) (hwk:IntKind.i64.wrap ((j:Int)-1)=(k:Int)) (w:World) (hS0:Cs w V 0 (viC syms N.st (.slice io N.st ci) (.slice fo N.st cf) (.slice (some ⟨b,o,none⟩) nr cr) (.slice vo (N.st+1) cv))/\Cs w b (o+j*11) (acC x)/\Cs w b (o+k*11) (acC y))
  {c0 c2 c3 c4 c6 c7 c8 c9 Aa Ab Ad Ae Af Ag Ah Ak Al Am An Ao Ap Aq Ar As Av Aw Ax Ay Az Ba Bb Bc Be Bf Bh Bi Bj Bk Bm Bn Bo Bp Bq Br Bs Bt Bu Bv Bw Bx By Bz Ca Cb Cc Cd Ce Cf Cg Ch:Value} {Q0:EP} (hpan:∀ c (a:Act) d v w,Q0 (.panic c) (a.put d v) w->Q0 (.panic c) a w)
  (hexit:∀ (Ci Cj Ck Cl Cm Cn Co Cp Cq Cr Ct Cu Cv Cw Cx Cy Cz Da Db Dc Dd De Df Dg Dh Di Dj Dk Dl Dn Dp Dq Dr:Value) (w':World),Below w.heap.size w w'->Q0 .normal ⟨#[c0,.pointer (some ⟨V,0,none⟩),c2,c3,c4,.int .i64 (j:Int),c6,c7,c8,c9,Aa,Ab,Ad,Ae,Af,Ag,Ah,Ak,Al,Am,An,Ao,Ap,Aq,Ar,As,Ci,Cj,Ck,Cl,Cm,Cn,Co,Cp,Cq,Cr,Ct,Cu,Cv,Cw,Cx,Cy,Cz,Da,Db,Dc,Dd,De,Df,Dg,Dh,Di,Dj,Dk,Dl,Dn,Dp,Dq,Dr,.bool false,Cg,Ch],[]⟩ w') :
  Code.wp Tryz.prog (vR 11) Q0 ⟨#[c0,.pointer (some ⟨V,0,none⟩),c2,c3,c4,.int .i64 (j:Int),c6,c7,c8,c9,Aa,Ab,Ad,Ae,Af,Ag,Ah,Ak,Al,Am,An,Ao,Ap,Aq,Ar,As,Av,Aw,Ax,Ay,Az,Ba,Bb,Bc,Be,Bf,Bh,Bi,Bj,Bk,Bm,Bn,Bo,Bp,Bq,Br,Bs,Bt,Bu,Bv,Bw,Bx,By,Bz,Ca,Cb,Cc,Cd,Ce,Cf,Cg,Ch],[]⟩ w:=by
 conv=>arg 2; whnf
 have hexit:=hid hexit
 have hdr:=(Below.refl w.heap.size w).drew
 have hS:Cs w.drew V 0 (viC syms N.st (.slice io N.st ci) (.slice fo N.st cf) (.slice (some ⟨b,o,none⟩) nr cr) (.slice vo (N.st+1) cv))/\Cs w.drew b (o+j*11) (acC x)/\Cs w.drew b (o+k*11) (acC y):=⟨hS0.1.next hdr,hS0.2.1.next hdr,hS0.2.2.next hdr⟩
 have f1:(x.1:Int)=(y.1:Int):=by omega
 have f2:¬ (x.2.1:Int)=(y.2.1:Int):=by omega
 clear hf hl
 refine wp_region_D (fun w'=>Cs w' V 0 (viC syms N.st (.slice io N.st ci) (.slice fo N.st cf) (.slice (some ⟨b,o,none⟩) nr cr) (.slice vo (N.st+1) cv))/\Cs w' b (o+j*11) (acC x)/\Cs w' b (o+k*11) (acC y)) [] (by kernel_rfl) ?_
 refine tkBp 0 hpan (some 26) rfl rfl hS ?_
 refine tkBp 1 hpan (some 27) rfl rfl hS ?_
 refine tkBl 2 hpan (some 28) (v:=?_) rfl rfl ?_ hS ?_
 rotate_left
 ·intro wz hw; refine exec_load1 V 6 ?_ (.slice (some ⟨b,o,none⟩) nr cr) (hw.1 6 _ rfl) _ Tryz.underlying28 (by rfl); go_simp
 refine tkBp 3 hpan (some 29) rfl rfl hS ?_
 refine tkBp 4 hpan (some 30) rfl rfl hS ?_
 refine tkBp 5 hpan (some 31) rfl rfl hS ?_
 refine tkBl 6 hpan (some 32) (v:=?_) rfl rfl ?_ hS ?_
 rotate_left
 ·intro wz hw; refine exec_loadI b (o+j*11) ?_ (.int .i64 ((x.1:Nat):Int)) (hw.2.1 0 _ rfl); go_simp
 refine tkBp 7 hpan (some 33) rfl rfl hS ?_
 refine tkBp 8 hpan (some 34) rfl rfl hS ?_
 refine tkBl 9 hpan (some 35) (v:=?_) rfl rfl ?_ hS ?_
 rotate_left
 ·intro wz hw; refine exec_load1 V 6 ?_ (.slice (some ⟨b,o,none⟩) nr cr) (hw.1 6 _ rfl) _ Tryz.underlying28 (by rfl); go_simp
 refine tkBp 10 hpan (some 36) rfl rfl hS ?_
 refine tkBp 11 hpan (some 37) rfl rfl hS ?_
 refine tkBp 12 hpan (some 38) rfl rfl hS ?_
 refine tkBp 13 hpan (some 39) rfl rfl hS ?_
 refine tkBl 14 hpan (some 40) (v:=?_) rfl rfl ?_ hS ?_
 rotate_left
 ·intro wz hw; refine exec_loadI b (o+k*11) ?_ (.int .i64 ((y.1:Nat):Int)) (hw.2.2 0 _ rfl); go_simp
 refine tkBl 15 hpan (some 41) (v:=.bool true) rfl rfl ?_ hS ?_
 ·intro wz _; first | (go_simp; done) | (go_simp; with_reducible rfl)
 refine tkBp 16 hpan (some 42) rfl rfl hS ?_
 refine tkBg 17 hpan (some 43) rfl rfl hS ?_
 refine tkBg 18 hpan (some 44) rfl rfl hS ?_
 refine tkBm 19 hpan (some 45) (v:=?_) rfl rfl ?_ hS ?_
 rotate_left
 ·intro wz hw; refine exec_load1 V 6 ?_ (.slice (some ⟨b,o,none⟩) nr cr) (hw.1 6 _ rfl) _ Tryz.underlying28 (by rfl); go_simp
 refine tkBg 20 hpan (some 46) rfl rfl hS ?_
 refine tkBg 21 hpan (some 47) rfl rfl hS ?_
 refine tkBg 22 hpan (some 48) rfl rfl hS ?_
 refine tkBm 23 hpan (some 49) (v:=?_) rfl rfl ?_ hS ?_
 rotate_left
 ·intro wz hw; refine exec_loadI b (o+j*11+1) ?_ (.int .i64 ((x.2.1:Nat):Int)) (hw.2.1 1 _ rfl); go_simp
 refine tkBg 24 hpan (some 50) rfl rfl hS ?_
 refine tkBg 25 hpan (some 51) rfl rfl hS ?_
 refine tkBm 26 hpan (some 52) (v:=?_) rfl rfl ?_ hS ?_
 rotate_left
 ·intro wz hw; refine exec_load1 V 6 ?_ (.slice (some ⟨b,o,none⟩) nr cr) (hw.1 6 _ rfl) _ Tryz.underlying28 (by rfl); go_simp
 refine tkBg 27 hpan (some 53) rfl rfl hS ?_
 refine tkBg 28 hpan (some 54) rfl rfl hS ?_
 refine tkBg 29 hpan (some 55) rfl rfl hS ?_
 refine tkBg 30 hpan (some 56) rfl rfl hS ?_
 refine tkBm 31 hpan (some 57) (v:=?_) rfl rfl ?_ hS ?_
 rotate_left
 ·intro wz hw; refine exec_loadI b (o+k*11+1) ?_ (.int .i64 ((y.2.1:Nat):Int)) (hw.2.2 1 _ rfl); go_simp
 refine tkBm 32 hpan (some 58) (v:=.bool false) rfl rfl ?_ hS ?_
 ·intro wz _; first | (go_simp; done) | (go_simp; with_reducible rfl)
 refine tkBl 33 hpan (some 59) (v:=.bool false) rfl rfl ?_ hS ?_
 ·intro wz _; first | (go_simp; done) | (go_simp; with_reducible rfl)
 go_simp
 refine wpAnyD_done (by kernel_rfl) ?_ _
 exact hexit.out _ _ _ _ _ _ _ _ _ _ _ _ _ _ _ _ _ _ _ _ _ _ _ _ _ _ _ _ _ _ _ _ _ _ hdr
theorem vd_ne (syms V nr cr:Nat) (N:Au) (io:OA) (ci:Nat) (fo:OA) (cf:Nat) (vo:OA) (cv b o j k:Nat) (x y:Ac) (hf:¬ x.1=y.1) (i1:(j:Int)<(nr:Int)) (i0:(0:Int)<=(j:Int)) (k1:(k:Int)<(nr:Int)) (k0:(0:Int)<=(k:Int)) (hwk:IntKind.i64.wrap ((j:Int)-1)=(k:Int)) (w:World) (hS0:Cs w V 0 (viC syms N.st (.slice io N.st ci) (.slice fo N.st cf) (.slice (some ⟨b,o,none⟩) nr cr) (.slice vo (N.st+1) cv))/\Cs w b (o+j*11) (acC x)/\Cs w b (o+k*11) (acC y))
  {c0 c2 c3 c4 c6 c7 c8 c9 Aa Ab Ad Ae Af Ag Ah Ak Al Am An Ao Ap Aq Ar As Av Aw Ax Ay Az Ba Bb Bc Be Bf Bh Bi Bj Bk Bm Bn Bo Bp Bq Br Bs Bt Bu Bv Bw Bx By Bz Ca Cb Cc Cd Ce Cf Cg Ch:Value} {Q0:EP} (hpan:∀ c (a:Act) d v w,Q0 (.panic c) (a.put d v) w->Q0 (.panic c) a w)
  (hexit:∀ (Ci Cj Ck Cl Cm Cn Co Cp Cq Cr Ct Cu Cv Cw Cx Cy Cz Da Db Dc Dd De Df Dg Dh Di Dj Dk Dl Dn Dp Dq Dr:Value) (w':World),Below w.heap.size w w'->Q0 .normal ⟨#[c0,.pointer (some ⟨V,0,none⟩),c2,c3,c4,.int .i64 (j:Int),c6,c7,c8,c9,Aa,Ab,Ad,Ae,Af,Ag,Ah,Ak,Al,Am,An,Ao,Ap,Aq,Ar,As,Ci,Cj,Ck,Cl,Cm,Cn,Co,Cp,Cq,Cr,Ct,Cu,Cv,Cw,Cx,Cy,Cz,Da,Db,Dc,Dd,De,Df,Dg,Dh,Di,Dj,Dk,Dl,Dn,Dp,Dq,Dr,.bool false,Cg,Ch],[]⟩ w') :
  Code.wp Tryz.prog (vR 11) Q0 ⟨#[c0,.pointer (some ⟨V,0,none⟩),c2,c3,c4,.int .i64 (j:Int),c6,c7,c8,c9,Aa,Ab,Ad,Ae,Af,Ag,Ah,Ak,Al,Am,An,Ao,Ap,Aq,Ar,As,Av,Aw,Ax,Ay,Az,Ba,Bb,Bc,Be,Bf,Bh,Bi,Bj,Bk,Bm,Bn,Bo,Bp,Bq,Br,Bs,Bt,Bu,Bv,Bw,Bx,By,Bz,Ca,Cb,Cc,Cd,Ce,Cf,Cg,Ch],[]⟩ w:=by
 conv=>arg 2; whnf
 have hexit:=hid hexit
 have hdr:=(Below.refl w.heap.size w).drew
 have hS:Cs w.drew V 0 (viC syms N.st (.slice io N.st ci) (.slice fo N.st cf) (.slice (some ⟨b,o,none⟩) nr cr) (.slice vo (N.st+1) cv))/\Cs w.drew b (o+j*11) (acC x)/\Cs w.drew b (o+k*11) (acC y):=⟨hS0.1.next hdr,hS0.2.1.next hdr,hS0.2.2.next hdr⟩
 have f1:¬ (x.1:Int)=(y.1:Int):=by omega
 clear hf
 refine wp_region_D (fun w'=>Cs w' V 0 (viC syms N.st (.slice io N.st ci) (.slice fo N.st cf) (.slice (some ⟨b,o,none⟩) nr cr) (.slice vo (N.st+1) cv))/\Cs w' b (o+j*11) (acC x)/\Cs w' b (o+k*11) (acC y)) [] (by kernel_rfl) ?_
 refine tkBp 0 hpan (some 26) rfl rfl hS ?_
 refine tkBp 1 hpan (some 27) rfl rfl hS ?_
 refine tkBl 2 hpan (some 28) (v:=?_) rfl rfl ?_ hS ?_
 rotate_left
 ·intro wz hw; refine exec_load1 V 6 ?_ (.slice (some ⟨b,o,none⟩) nr cr) (hw.1 6 _ rfl) _ Tryz.underlying28 (by rfl); go_simp
 refine tkBp 3 hpan (some 29) rfl rfl hS ?_
 refine tkBp 4 hpan (some 30) rfl rfl hS ?_
 refine tkBp 5 hpan (some 31) rfl rfl hS ?_
 refine tkBl 6 hpan (some 32) (v:=?_) rfl rfl ?_ hS ?_
 rotate_left
 ·intro wz hw; refine exec_loadI b (o+j*11) ?_ (.int .i64 ((x.1:Nat):Int)) (hw.2.1 0 _ rfl); go_simp
 refine tkBp 7 hpan (some 33) rfl rfl hS ?_
 refine tkBp 8 hpan (some 34) rfl rfl hS ?_
 refine tkBl 9 hpan (some 35) (v:=?_) rfl rfl ?_ hS ?_
 rotate_left
 ·intro wz hw; refine exec_load1 V 6 ?_ (.slice (some ⟨b,o,none⟩) nr cr) (hw.1 6 _ rfl) _ Tryz.underlying28 (by rfl); go_simp
 refine tkBp 10 hpan (some 36) rfl rfl hS ?_
 refine tkBp 11 hpan (some 37) rfl rfl hS ?_
 refine tkBp 12 hpan (some 38) rfl rfl hS ?_
 refine tkBp 13 hpan (some 39) rfl rfl hS ?_
 refine tkBl 14 hpan (some 40) (v:=?_) rfl rfl ?_ hS ?_
 rotate_left
 ·intro wz hw; refine exec_loadI b (o+k*11) ?_ (.int .i64 ((y.1:Nat):Int)) (hw.2.2 0 _ rfl); go_simp
 refine tkBl 15 hpan (some 41) (v:=.bool false) rfl rfl ?_ hS ?_
 ·intro wz _; first | (go_simp; done) | (go_simp; with_reducible rfl)
 refine tkBp 16 hpan (some 42) rfl rfl hS ?_
 refine tkBu 17 hpan (some 43) rfl rfl hS ?_
 refine tkBu 18 hpan (some 44) rfl rfl hS ?_
 refine tkBu 19 hpan (some 45) rfl rfl hS ?_
 refine tkBu 20 hpan (some 46) rfl rfl hS ?_
 refine tkBu 21 hpan (some 47) rfl rfl hS ?_
 refine tkBu 22 hpan (some 48) rfl rfl hS ?_
 refine tkBu 23 hpan (some 49) rfl rfl hS ?_
 refine tkBu 24 hpan (some 50) rfl rfl hS ?_
 refine tkBu 25 hpan (some 51) rfl rfl hS ?_
 refine tkBu 26 hpan (some 52) rfl rfl hS ?_
 refine tkBu 27 hpan (some 53) rfl rfl hS ?_
 refine tkBu 28 hpan (some 54) rfl rfl hS ?_
 refine tkBu 29 hpan (some 55) rfl rfl hS ?_
 refine tkBu 30 hpan (some 56) rfl rfl hS ?_
 refine tkBu 31 hpan (some 57) rfl rfl hS ?_
 refine tkBu 32 hpan (some 58) rfl rfl hS ?_
 refine tkBl 33 hpan (some 59) (v:=.bool false) rfl rfl ?_ hS ?_
 ·intro wz _; first | (go_simp; done) | (go_simp; with_reducible rfl)
 go_simp
 refine wpAnyD_done (by kernel_rfl) ?_ _
 exact hexit.out _ _ _ _ _ _ _ _ _ _ _ _ _ _ _ _ _ _ _ _ _ _ _ _ _ _ _ _ _ _ _ _ _ _ hdr
theorem viewDet_any (syms:Nat) (N:Au) (hss:Ss N.arcs) (huq:∀ x∈N.arcs,∀ y∈N.arcs,x.1=y.1->x.2.1=y.2.1->x=y) (hi0:∀ q c,N.ini[q]? = some (some c)->q=0) (hli:N.ini.length=N.st) (hst:N.st<=64) (io:OA) (ci:Nat) (fo:OA) (cf:Nat) (ro:OA) (nr cr:Nat) (vo:OA) (cv:Nat) (hnr:nr<=4096) (w:World) (h:Vm w syms N io ci fo cf ro nr cr vo cv) :
  Calls Tryz.prog 57 #[.agg (viC syms N.st (.slice io N.st ci) (.slice fo N.st cf) (.slice ro nr cr) (.slice vo (N.st+1) cv)).toArray] w fun e w'=>e=.returned (.bool true)/\Below w.heap.size w w':=by
 have hb0:Below w.heap.size w (w.alloc (.cells (viC syms N.st (.slice io N.st ci) (.slice fo N.st cf) (.slice ro nr cr) (.slice vo (N.st+1) cv)).toArray 63)):=below_alloc _
 have hB:=Bl.fresh w (viC syms N.st (.slice io N.st ci) (.slice fo N.st cf) (.slice ro nr cr) (.slice vo (N.st+1) cv)) 63
 replace h:=h.next hb0
 go_enter Tryz.func57,Tryz.ntmps57
 go_upto_region 1 with fail
 generalize hW1:(w.alloc (.cells (viC syms N.st (.slice io N.st ci) (.slice fo N.st cf) (.slice ro nr cr) (.slice vo (N.st+1) cv)).toArray 63))=W1 at *
 clear hW1
 have hb0:=hid hb0
 have hBl:=hB.lt
 obtain ⟨V,hVe⟩:∃ V,w.heap.size=V:=⟨_,rfl⟩
 rw [hVe] at hB hBl ⊢
 have hini:=hid h.mo.ini
 have harc:=hid h.mo.arcs
 have hVe:=hid hVe
 have y3:=hB.cell (i:=3) rfl
 have hB:=hid hB
 clear h
 go_wp2_with fail
 go_loopw [3,9] (fun sv iv wr=>∃ k s:Nat,k<=N.st/\iv=.int .i64 (k:Int)/\sv=.int .i64 (s:Int)/\Hid (s<=1/\(k=0->s=0))/\Hid (Below W1.heap.size W1 wr)) (fun _ iv _=>N.st-(intOf iv).toNat)
 case atStart=>exact ⟨0,0,Nat.zero_le _,rfl,rfl,hid ⟨Nat.zero_le _,fun _=>rfl⟩,hid (Below.refl _ _)⟩
 case round =>
  clear y3
  obtain ⟨k,s,hk,rfl,rfl,hs,hb⟩:=hrel
  have hs1:=hs.out.1
  by_cases hlt:k<N.st
  ·obtain ⟨v,hv⟩:∃ v,N.ini[k]? = some v:=⟨_,List.getElem?_eq_getElem (by rw [hli]; exact hlt)⟩
   have i1:(k:Int)<(N.st:Int):=by omega
   have i0:(0:Int)<=(k:Int):=by omega
   have hbg:=hid (begins_any syms N.st (.slice fo N.st cf) (.slice ro nr cr) (.slice vo (N.st+1) cv) io ci N.ini k v hv wr (Fl.next hini.out hb.out))
   have hVc:=(hB.out.under hb.out hBl).cs
   cases v with
   | none =>
    replace hbg:=hid (hbg.out.mono (R':=fun e w'=>e=.returned (.bool false)/\Below wr.heap.size wr w') fun e w' h=>⟨h.1,h.2⟩)
    replace hs:=hid (show s<=1/\(k+1=0->s=0) from ⟨hs1,fun e=>by omega⟩)
    clear hv
    go_wp2_with ((with_reducible refine wp_loadView rfl _ rfl V 0 ?_ (viC syms N.st (.slice io N.st ci) (.slice fo N.st cf) (.slice ro nr cr) (.slice vo (N.st+1) cv)) rfl hVc ?_); exact rfl)
    refine hbg.out.mono ?_; rintro e w4 ⟨rfl,hb4⟩
    have hb4:=hid (below_chain hb.out hb4)
    clear hbg hVc hb
    go_wp2_with fail
    go_roundw
    case rel=>exact ⟨k+1,s,by omega,by go_num,rfl,hs,hb4⟩
    case measure=>simp [intOf]; omega
   | some c =>
    replace hbg:=hid (hbg.out.mono (R':=fun e w'=>e=.returned (.bool true)/\Below wr.heap.size wr w') fun e w' h=>⟨h.1,h.2⟩)
    obtain rfl:=hi0 k c hv
    obtain rfl:=hs.out.2 rfl
    clear hv
    go_wp2_with ((with_reducible refine wp_loadView rfl _ rfl V 0 ?_ (viC syms N.st (.slice io N.st ci) (.slice fo N.st cf) (.slice ro nr cr) (.slice vo (N.st+1) cv)) rfl hVc ?_); exact rfl)
    refine hbg.out.mono ?_; rintro e w4 ⟨rfl,hb4⟩
    have hb4:=hid (below_chain hb.out hb4)
    clear hbg hVc hb
    go_wp2_with fail
    go_roundw
    case rel=>exact ⟨1,1,by omega,rfl,rfl,hid ⟨Nat.le_refl _,fun e=>by omega⟩,hb4⟩
    case measure=>simp [intOf]; omega
  ·obtain rfl:k=N.st:=by omega
   have i1:¬ (N.st:Int)<(N.st:Int):=by omega
   have c1:(s:Int)<=1:=by omega
   have hnl:=hid harc.out.lenMap
   obtain ⟨wo,rfl⟩:∃ wo:World,wo=wr:=⟨_,rfl⟩
   go_wp2_with fail
   go_loopw [5] (fun iv wr=>∃ i:Nat,(i<=nr\/i=1)/\1<=i/\iv=.int .i64 (i:Int)/\Hid (Below W1.heap.size W1 wr)) (fun iv _=>nr-(intOf iv).toNat)
   case atStart=>exact ⟨1,.inr rfl,Nat.le_refl _,rfl,hb⟩
   case round =>
    clear hb
    obtain ⟨i,hi,hi1,rfl,hb⟩:=hrel
    have hBr:=hB.out.under hb.out hBl
    have y6:=hBr.cell (i:=6) rfl
    by_cases hlt:i<nr
    ·have i1:(i:Int)<(nr:Int):=by omega
     have i0:(0:Int)<=(i:Int):=by omega
     have hfl:=Fl.next harc.out hb.out
     obtain ⟨x,hxi,b,o,e0,hcx⟩:=hfl.get hlt
     obtain ⟨y,hyk,b1,o1,e1,hcy⟩:=hfl.get (i:=i-1) (by omega)
     subst e0
     cases e1
     have hne:=ss_lt hss hxi hyk (by omega)
     have hnk:¬ (x.1=y.1/\x.2.1=y.2.1):=fun e=>hne (huq y (List.mem_of_getElem? hyk) x (List.mem_of_getElem? hxi) e.1.symm e.2.symm)
     obtain ⟨k,hk⟩:∃ k,i=k+1:=⟨i-1,by omega⟩
     subst hk
     rw [Nat.add_sub_cancel] at hcy
     have hwk:IntKind.i64.wrap (((k+1:Nat):Int)-1)=(k:Int):=by rw [IntKind.wrap_i64]; omega
     have k1:(k:Int)<(nr:Int):=by omega
     have k0:(0:Int)<=(k:Int):=by omega
     obtain ⟨j,hj⟩:∃ j,k+1=j:=⟨_,rfl⟩
     rw [hj] at hcx i1 i0 hwk
     clear hne hyk hxi hfl
     simp only [hj]
     go_upto_region 11 with fail
     have hS0:Cs wr V 0 (viC syms N.st (.slice io N.st ci) (.slice fo N.st cf) (.slice (some ⟨b,o,none⟩) nr cr) (.slice vo (N.st+1) cv))/\Cs wr b (o+j*11) (acC x)/\Cs wr b (o+k*11) (acC y):=⟨hBr.cs,hcx,hcy⟩
     clear hcy hcx hBr y6
     by_cases hf:x.1=y.1
     ·have hl2:¬ x.2.1=y.2.1:=fun e=>hnk ⟨hf,e⟩
      refine vd_eq syms V nr cr N io ci fo cf vo cv b o j k x y hf hl2 i1 i0 k1 k0 hwk wr hS0 (fun _ _ d _ _ h=>by cases d<;>exact h) ?_
      intro _ _ _ _ _ _ _ _ _ _ _ _ _ _ _ _ _ _ _ _ _ _ _ _ _ _ _ _ _ _ _ _ _ w4 hb4
      have hb5:=hid (below_chain hb.out hb4)
      clear hS0 hb4 hb
      go_wp2_with fail
      go_roundw
      case rel=>exact ⟨j+1,by omega,by omega,by go_num,hb5⟩
      case measure=>simp [intOf]; omega
     ·refine vd_ne syms V nr cr N io ci fo cf vo cv b o j k x y hf i1 i0 k1 k0 hwk wr hS0 (fun _ _ d _ _ h=>by cases d<;>exact h) ?_
      intro _ _ _ _ _ _ _ _ _ _ _ _ _ _ _ _ _ _ _ _ _ _ _ _ _ _ _ _ _ _ _ _ _ w4 hb4
      have hb5:=hid (below_chain hb.out hb4)
      clear hS0 hb4 hb
      go_wp2_with fail
      go_roundw
      case rel=>exact ⟨j+1,by omega,by omega,by go_num,hb5⟩
      case measure=>simp [intOf]; omega
    ·have i1:¬ (i:Int)<(nr:Int):=by omega
     clear hBr
     go_wp2_with fail
     go_ret
     exact ⟨rfl,by rw [<-hVe.out]; exact below_chain hb0.out hb.out⟩
end
end Go.Proofs.YtnapapijhhldpaaGreatDoor

/-
  Texts joined by program: Trt, Tru, Trv, Trw. No condition of its own.
-/
import Derived.Test.YtnapapijhhldpaaGreatDoorJkAW
namespace Go.Proofs.YtnapapijhhldpaaGreatDoor
set_option linter.unusedSimpArgs false
set_option linter.unusedVariables false
set_option maxRecDepth 100000
set_option maxHeartbeats 4000000
section
open Go.RowKit
theorem j2t {us:List Bool} {L:List Ac} {k:Nat} {x:Ac} (h:L[k]? = some x):zS us (L.take (k+1))=zS us (L.take k)++(if us.getD x.1 false&&us.getD x.2.2.1 false then [(q1z us x.1,x.2.1,q1z us x.2.2.1,wt x)] else []):=by
 unfold zS
 rw [jR h,List.filter_append,List.map_append]
 refine congrArg _ ?_
 by_cases hc:(us.getD x.1 false&&us.getD x.2.2.1 false)=true
 ·rw [if_pos hc]; simp only [List.filter,hc]; rfl
 ·have hc2:(us.getD x.1 false&&us.getD x.2.2.1 false)=false:=by simpa using hc
  rw [if_neg hc]; simp only [List.filter,hc2]; rfl
theorem j4t (us:List Bool) (L:List Ac):(zS us L).length<=L.length:=by unfold zS; rw [List.length_map]; exact List.length_filter_le _ _
theorem z1a {us:List Bool} {n q:Nat} (hq:q<n) (h:us.getD q false=true):toF us n q=.int .i64 ((q1z us q:Nat):Int):=if_pos ⟨hq,h⟩
theorem j6q (W1:World) (syms:Nat) (A:Au) (io:OA) (ci:Nat) (fo:OA) (cf:Nat) (ro:OA) (nr cr:Nat) (E:Nat->Bool) (U:List Bool) (hU:Hid (∀ q,q<A.st->U.getD q false=E q)) (hst:A.st<=64) (hnr:nr<=2048) (hA:Hid (∀ x∈A.arcs,x.1<A.st/\x.2.2.1<A.st)) (hm:Hid (Mo W1 syms A io ci fo cf ro nr cr)) (ko:OA) (kc:Nat) (hk:Hid (Rd W1 ko A.st kc (fBo E))) (G O t n:Nat) (hG:Bl G (auC syms A.st (.slice io A.st ci) (.slice fo A.st cf) (.slice ro nr cr)) 30 W1) (hO1:W1.heap.size<=O) (iv fv:Value) (ini fin:List Tw) (w:World) (hb:Below W1.heap.size W1 w) (hOm:Om w O syms n iv fv (.slice none 0 0) ini fin []) (ht:Rw 3 w (O+1) (.slice (some ⟨t,0,none⟩) A.st A.st) A.st (toF U A.st))
  {c0 c3 c4 c7 c9 Aa Ab Ad Ae Af Ag Ah Ak Al Am An Ao Ap Aq Ar As Av Aw Ax Ay Az Ba Bb Bc Be Bf Bh Bi Bj Bk Bm Bn Bo Bp Bq Br Bs Bt Bu Bv Bw Bx By Bz Ca Cb Cc Cd Ce Cf Cg Ch Ci Cj Ck Cl Cm Cn Co Cp Cq Cr Ct Cu Cv Cw Cx Cy Cz Da Db Dc Dd De Df Dg Dh Di Dj Dk Dl Dn Dp Dq Dr Dt Du Dv Dw Dx Dy Dz:Value} {Q0:EP} (hpan:∀ c (a:Act) d v w,Q0 (.panic c) (a.put d v) w->Q0 (.panic c) a w)
  (hexit:∀ (u8 u9 Ea Eb Ec Ed Ee Ef Eg Eh Ei Ej Ek El Em En Eo Ep Eq Er Es Et Eu Ev Ew Ex Ey Ez Fa Fb Fc Fd Fe Ff Fg Fh Fi Fj Fk Fm Fn Fo Fp Fq Fs Ft:Value) (av':Value) (w':World),Om w' O syms n iv fv av' ini fin (zS U A.arcs)->Below W1.heap.size W1 w'->Q0 .normal ⟨#[c0,.slice ko A.st kc,.pointer (some ⟨G,0,none⟩),c3,c4,.pointer (some ⟨O,0,none⟩),.slice (some ⟨t,0,none⟩) A.st A.st,c7,u8,u9,Aa,Ab,Ad,Ae,Af,Ag,Ah,Ak,Al,Am,An,Ao,Ap,Aq,Ar,As,Av,Aw,Ax,Ay,Az,Ba,Bb,Bc,Be,Bf,Bh,Bi,Bj,Bk,Bm,Bn,Bo,Bp,Bq,Br,Bs,Bt,Bu,Bv,Bw,Bx,By,Bz,Ca,Cb,Cc,Ea,Eb,Ec,Ed,Ee,Ef,Eg,Eh,Ei,Ej,Ek,El,Em,En,Eo,Ep,Eq,Er,Es,Et,Eu,Ev,Ew,Ex,Ey,Ez,Fa,Fb,Fc,Fd,Fe,Ff,Fg,Fh,Fi,Fj,Fk,Fm,Fn,Fo,Fp,Fq,Fs,Ft,Dz],[]⟩ w') :
  Code.wp Tryz.prog (rK 2) Q0 ⟨#[c0,.slice ko A.st kc,.pointer (some ⟨G,0,none⟩),c3,c4,.pointer (some ⟨O,0,none⟩),.slice (some ⟨t,0,none⟩) A.st A.st,c7,.int .i64 0,c9,Aa,Ab,Ad,Ae,Af,Ag,Ah,Ak,Al,Am,An,Ao,Ap,Aq,Ar,As,Av,Aw,Ax,Ay,Az,Ba,Bb,Bc,Be,Bf,Bh,Bi,Bj,Bk,Bm,Bn,Bo,Bp,Bq,Br,Bs,Bt,Bu,Bv,Bw,Bx,By,Bz,Ca,Cb,Cc,Cd,Ce,Cf,Cg,Ch,Ci,Cj,Ck,Cl,Cm,Cn,Co,Cp,Cq,Cr,Ct,Cu,Cv,Cw,Cx,Cy,Cz,Da,Db,Dc,Dd,De,Df,Dg,Dh,Di,Dj,Dk,Dl,Dn,Dp,Dq,Dr,Dt,Du,Dv,Dw,Dx,Dy,Dz],[]⟩ w:=by
 conv=>arg 2; whnf
 have hG0:=hid hG
 have hnl:=hid hm.out.arcs.lenMap
 have hnb:=hm.out.arcs.bound
 replace hb:=hid hb
 have hOm0:=hid hOm
 have ht0:=hid ht
 clear hG hOm ht
 go_wp2_with fail
 go_loopw [8] (fun iv_ wr=>∃ (k:Nat) (av:Value),k<=nr/\iv_=.int .i64 (k:Int)/\Om wr O syms n iv fv av ini fin (zS U (A.arcs.take k))/\Rw 3 wr (O+1) (.slice (some ⟨t,0,none⟩) A.st A.st) A.st (toF U A.st)/\Below W1.heap.size W1 wr) (fun iv_ _=>nr-(intOf iv_).toNat)
 case atStart=>exact ⟨0,_,Nat.zero_le _,rfl,hOm0.out,ht0.out,hb.out⟩
 case round =>
  obtain ⟨k,av,hkn,rfl,hOm,ht,hbw⟩:=hrel
  have y6:=(hG0.out.next hbw).cell (i:=6) rfl
  by_cases hlt:k<nr
  ·have i1:(k:Int)<(nr:Int):=by omega
   have i0:(0:Int)<=(k:Int):=by omega
   obtain ⟨x,hxk,b,off,hro,hcs⟩:=(hm.out.arcs.next hbw).get hlt
   subst hro
   have hxA:=hA.out x (List.mem_of_getElem? hxk)
   have htk:=hid (j2t (us:=U) hxk)
   have hln:(zS U (A.arcs.take k)).length<=4096:=Nat.le_trans (j4t _ _) (by rw [List.length_take]; omega)
   have q1:(x.1:Int)<(A.st:Int):=by omega
   have q2:(x.2.2.1:Int)<(A.st:Int):=by omega
   have q3:(0:Int)<=(x.1:Int):=by omega
   have q4:(0:Int)<=(x.2.2.1:Int):=by omega
   clear hxk
   have hbX:Below wr.heap.size wr (wr.alloc (.cells (acC x).toArray 54)):=qJ _
   have hX:=Bl.fresh wr (acC x) 54
   go_upto_region 14 with ((first | ((with_reducible refine jV rfl _ rfl b (off+k*11) ?_ x hcs ?_); exact rfl) | ((with_reducible refine jZ rfl _ _ rfl _ _ ?_ x ?_ ?_ ?_); exact rfl; exact rfl; exact rfl)))
   have hOX:wr.heap.size≠O:=fun e=>by have:=hOm.blk.lt; omega
   have haX:av.ownBlock≠some wr.heap.size:=fun e=>by have:=(hOm.arcs.lt e).2; omega
   have hOm2:=hid (hOm.next hbX)
   have ht2:=hid (ht.next hbX)
   have hb2:=hid (hbw.trans (hbX.mono hbw.size))
   obtain ⟨X,hXe⟩:∃ X,wr.heap.size=X:=⟨_,rfl⟩
   rw [hXe] at hX hOX haX ⊢
   generalize (wr.alloc (.cells (acC x).toArray 54))=W2 at *
   obtain ⟨kb1,ko1,hka1,hkc1⟩:=(hk.out.next hb2.out).get hxA.1
   obtain ⟨kb2,ko2,hka2,hkc2⟩:=(hk.out.next hb2.out).get hxA.2
   have hkk:=hka1.symm.trans hka2
   injection hkk with hkk
   injection hkk with hk1 hk2
   subst hk1 hk2
   subst hka1
   clear hka2
   simp only [fBo] at hkc1 hkc2
   have hu1:=hU.out x.1 hxA.1
   have hu2:=hU.out x.2.2.1 hxA.2
   obtain ⟨e1,he1⟩:∃ e1,E x.1=e1:=⟨_,rfl⟩
   obtain ⟨e2,he2⟩:∃ e2,E x.2.2.1=e2:=⟨_,rfl⟩
   rw [he1] at hkc1 hu1
   rw [he2] at hkc2 hu2
   replace htk:=htk.out
   rw [hu1,hu2] at htk
   replace htk:=hid htk
   have z0:=hX.cell (i:=0) rfl
   have z2:=hX.cell (i:=2) rfl
   have hc1:=hid (fun (h:U.getD x.1 false=true)=>by have h2:=ht2.out.cell hxA.1; rw [z1a hxA.1 h] at h2; exact h2)
   have hc2:=hid (fun (h:U.getD x.2.2.1 false=true)=>by have h2:=ht2.out.cell hxA.2; rw [z1a hxA.2 h] at h2; exact h2)
   replace hu1:=hid hu1
   replace hu2:=hid hu2
   clear he1 he2 hcs hOm ht hbw hbX hXe
   cases e1 with
   | false =>
    have hend:Hid (zS U (A.arcs.take (k+1))=zS U (A.arcs.take k)):=hid (by rw [htk.out]; simp)
    go_wp2_with fail
    go_roundw
    case rel=>exact ⟨k+1,av,by omega,by go_num,by rw [hend.out]; exact hOm2.out,ht2.out,hb2.out⟩
    case measure=>simp [intOf]; omega
   | true =>
    cases e2 with
    | false =>
     have hend:Hid (zS U (A.arcs.take (k+1))=zS U (A.arcs.take k)):=hid (by rw [htk.out]; simp)
     go_wp2_with fail
     go_roundw
     case rel=>exact ⟨k+1,av,by omega,by go_num,by rw [hend.out]; exact hOm2.out,ht2.out,hb2.out⟩
     case measure=>simp [intOf]; omega
    | true =>
     have hend:Hid (zS U (A.arcs.take (k+1))=zS U (A.arcs.take k)++[(q1z U x.1,x.2.1,q1z U x.2.2.1,wt x)]):=hid (by rw [htk.out]; simp)
     have hXc:=hid hX.cs
     go_upto_region 15 with fail
     refine j9s O syms n X t A.st A.st (q1z U x.1) (q1z U x.2.2.1) x hxA.1 hxA.2 hst iv fv av ini fin (zS U (A.arcs.take k)) W2 hOm2.out hln hXc.out hOX haX (hc1.out hu1.out) (hc2.out hu2.out) hpan ?_
     intro z_81 z_82 z_83 z_84 z_85 z_86 z_87 z_88 z_89 z_90 z_91 z_92 z_93 z_94 z_95 z_96 z_97 z_98 z_99 z_100 av' w3 hOm3 hf3
     have ht3:=hid (ht2.out.fr hf3 (fun g hg e=>by
      have e2:t=g:=Option.some.inj hg
      subst e2
      rcases e with e | e
      ·have:=(ht2.out.lt (g:=t) rfl).1; omega
      ·rcases q0t hOm2.out.arcs.1 ht2.out (by decide) with h | h
       ·rw [h] at e; cases e
       ·exact h (e.trans rfl)))
     have hb3:=hid (hb2.out.trans (hf3.below (fun j e=>by
      rcases e with rfl | e
      ·exact hO1
      ·have:=(hOm2.out.arcs.lt e).1; omega) hb2.out.size))
     replace hOm3:=hid hOm3
     clear hf3
     go_wp2_with fail
     go_roundw
     case rel=>exact ⟨k+1,av',by omega,by go_num,by rw [hend.out]; exact hOm3.out,ht3.out,hb3.out⟩
     case measure=>simp [intOf]; omega
  ·obtain rfl:k=nr:=by omega
   have i1:¬ (k:Int)<(k:Int):=by omega
   rw [List.take_of_length_le (by rw [hnl.out]; exact Nat.le_refl _)] at hOm
   replace hOm:=hid hOm
   replace ht:=hid ht
   go_wp2_with fail
   exact hexit _ _ _ _ _ _ _ _ _ _ _ _ _ _ _ _ _ _ _ _ _ _ _ _ _ _ _ _ _ _ _ _ _ _ _ _ _ _ _ _ _ _ _ _ _ _ av wr hOm.out hbw
end
section
open Go.RowKit
def q9k (syms:Nat) (B:Au) (w:World) (v:Value) (w':World):Prop:=∃ (io:OA) (ci:Nat) (fo:OA) (cf:Nat) (ro:OA) (nr cr:Nat),v=.agg (auC syms B.st (.slice io B.st ci) (.slice fo B.st cf) (.slice ro nr cr)).toArray/\MoF w' w.heap.size B io ci fo cf ro nr cr/\Below w.heap.size w w'
theorem z1h (us:List Bool) {n:Nat} (h:us.length=n):j0l us n=q1y us:=by subst h; rfl
theorem j5s (syms:Nat) (A:Au) (io:OA) (ci:Nat) (fo:OA) (cf:Nat) (ro:OA) (nr cr:Nat) (E:Nat->Bool) (hst:A.st<=64) (hnr0:A.arcs.length<=2048) (hA:∀ x∈A.arcs,x.1<A.st/\x.2.2.1<A.st) (ko:OA) (kc:Nat) (w:World) (h:Mo w syms A io ci fo cf ro nr cr) (hk:Rd w ko A.st kc (fBo E)) :
  Calls Tryz.prog 71 #[.agg (auC syms A.st (.slice io A.st ci) (.slice fo A.st cf) (.slice ro nr cr)).toArray,.slice ko A.st kc] w fun e w'=>∃ v,e=.returned v/\q9k syms (q0w (usL E A.st) A) w v w':=by
 have hb0:Below w.heap.size w ((w.alloc (.cells (auC syms A.st (.slice io A.st ci) (.slice fo A.st cf) (.slice ro nr cr)).toArray 30)).alloc (.cells #[.int .i64 0,.slice none 0 0,.int .i64 0,.int .i64 0,.slice none 0 0,.slice none 0 0,.slice none 0 0] 30)):=qQ (qJ _) (qJ _)
 have hG:=(Bl.fresh w (auC syms A.st (.slice io A.st ci) (.slice fo A.st cf) (.slice ro nr cr)) 30).new (.cells #[.int .i64 0,.slice none 0 0,.int .i64 0,.int .i64 0,.slice none 0 0,.slice none 0 0,.slice none 0 0] 30)
 have hR:=Bl.fresh' (G:=w.heap.size+1) (w.alloc (.cells (auC syms A.st (.slice io A.st ci) (.slice fo A.st cf) (.slice ro nr cr)).toArray 30)) [.int .i64 0,.slice none 0 0,.int .i64 0,.int .i64 0,.slice none 0 0,.slice none 0 0,.slice none 0 0] 30 (by simp)
 have hnr:nr<=2048:=by rw [<-h.arcs.lenMap]; exact hnr0
 have hm:=hid (h.next hb0)
 replace hk:=hid (hk.next hb0)
 replace hA:=hid hA
 clear h
 go_enter Tryz.func71,Tryz.ntmps71
 go_upto_region 1 with fail
 obtain ⟨W1,hW1⟩:∃ W1,W1=((w.alloc (.cells (auC syms A.st (.slice io A.st ci) (.slice fo A.st cf) (.slice ro nr cr)).toArray 30)).alloc (.cells #[.int .i64 0,.slice none 0 0,.int .i64 0,.int .i64 0,.slice none 0 0,.slice none 0 0,.slice none 0 0] 30)):=⟨_,rfl⟩
 rw [<-hW1] at hb0 hG hR hm hk
 have hz:W1.heap.size=w.heap.size+1+1:=by rw [hW1]; simp
 have hbO:Below W1.heap.size W1 (W1.alloc (.cells ([.int .i64 2,.slice none 0 0,.int .i64 (syms:Int),.int .i64 0,.slice none 0 0,.slice none 0 0,.slice none 0 0]:List Value).toArray 30)):=qJ _
 have hO3:=Bl.fresh W1 ([.int .i64 2,.slice none 0 0,.int .i64 (syms:Int),.int .i64 0,.slice none 0 0,.slice none 0 0,.slice none 0 0]:List Value) 30
 rw [hz] at hO3
 have hG3:=hG.next hbO
 obtain ⟨⟨x0,x1,x2,x3⟩,x4,x5,x6⟩:=hG.seven
 subst hW1
 go_upto_region 2 with ((with_reducible refine kS rfl 30 _ _ rfl _ _ ?_ ([.int .i64 2,.slice none 0 0,.int .i64 (syms:Int),.int .i64 0,.slice none 0 0,.slice none 0 0,.slice none 0 0]:List Value) ?_ ?_ ?_ ?_ ?_); exact rfl; exact rfl; exact rfl; exact kV syms 0 _ _ _ _ _ _ _ _ _; exact Tryz.sizeAuto)
 obtain ⟨W1,hW1⟩:∃ W1,W1=((w.alloc (.cells (auC syms A.st (.slice io A.st ci) (.slice fo A.st cf) (.slice ro nr cr)).toArray 30)).alloc (.cells #[.int .i64 0,.slice none 0 0,.int .i64 0,.int .i64 0,.slice none 0 0,.slice none 0 0,.slice none 0 0] 30)):=⟨_,rfl⟩
 rw [<-hW1] at hb0 hG hR hm hk hz hbO hO3 hG3
 have hzO:W1.heap.size<=w.heap.size+1+1:=by omega
 obtain ⟨O,hOe⟩:∃ O,w.heap.size+1+1=O:=⟨_,rfl⟩
 rw [hOe] at hO3 hzO ⊢
 have hRO:w.heap.size+1<O:=by omega
 have hbd:=hbO
 obtain ⟨W2,hW2⟩:∃ W2,W2=W1.alloc (.cells ([.int .i64 2,.slice none 0 0,.int .i64 (syms:Int),.int .i64 0,.slice none 0 0,.slice none 0 0,.slice none 0 0]:List Value).toArray 30):=⟨_,rfl⟩
 rw [<-hW2] at hO3 hG3 hbd
 have y3:=hG3.cell (i:=3) rfl
 rw [hW2,hW1] at y3
 clear x0 x1 x2 x3 x4 x5 x6
 have hO3l:=hO3.lt
 subst hW2
 subst hW1
 go_upto_region 3 with (at_make; (with_reducible refine q1k rfl _ _ 22 rfl 3 (.int .i64 0) 8 Tryz.underlying22 Tryz.infoInt ?_ .i64 .i64 (A.st:Int) (A.st:Int) A.st ?_ ?_ ?_ ?_ ?_ ?_ ?_); exact rfl; exact rfl; exact rfl; exact rfl; exact rfl; omega; omega; intro w4 t ht4 hb4)
 obtain ⟨W1,hW1⟩:∃ W1,W1=((w.alloc (.cells (auC syms A.st (.slice io A.st ci) (.slice fo A.st cf) (.slice ro nr cr)).toArray 30)).alloc (.cells #[.int .i64 0,.slice none 0 0,.int .i64 0,.int .i64 0,.slice none 0 0,.slice none 0 0,.slice none 0 0] 30)):=⟨_,rfl⟩
 rw [<-hW1] at hb0 hG hR hm hk hz hbd hzO hO3 hG3 hb4 ht4
 clear hW1 y3
 have htl:=(ht4.lt (g:=t) rfl)
 have hOm:Om w4 O syms 0 (.slice none 0 0) (.slice none 0 0) (.slice none 0 0) [] [] []:=⟨(show Bl O (auC syms 0 (.slice none 0 0) (.slice none 0 0) (.slice none 0 0)) 30 w4 from hO3.next hb4),FO.nil _ _ _ _,FO.nil _ _ _ _,FO.nil _ _ _ _,fun g hg=>by cases hg⟩
 have hOt:O<t:=Nat.lt_of_lt_of_le hO3.lt htl.1
 have ht5:=hid (ht4.mono hO3.lt)
 replace hbd:=hid (hbd.trans (hb4.mono hbd.size))
 replace hOm:=hid hOm
 have hz:=hzO
 clear ht4 hb4
 go_upto_block 0 with fail
 refine j9r W1 syms A io ci fo cf ro nr cr E hst hm ko kc hk w.heap.size O t hG hz hOt w4 hbd.out hOm.out ht5.out (fun _ _ d _ _ h=>by cases d<;>exact h) ?_
 intro x7 Aa Ab Ad Ae Af Ag Ah Ak Al Am An Ao Ap Aq Ar As Av Aw Ax Ay Az Ba Bb Bc Be Bf Bh Bi Bj Bk Bm Bn Bo Bp Bq Br Bs Bt Bu iv fv w5 hOm5 ht6 hb5
 replace hOm5:=hid hOm5
 replace ht6:=hid ht6
 replace hb5:=hid hb5
 go_upto_block 2 with fail
 refine j6q W1 syms A io ci fo cf ro nr cr E (usL E A.st) (hid fun q hq=>q9s hq) hst hnr hA hm ko kc hk w.heap.size O t _ hG hz iv fv _ _ w5 hb5.out hOm5.out ht6.out (fun _ _ d _ _ h=>by cases d<;>exact h) ?_
 intro z8 z9 Bv Bw Bx By Bz Ca Cb Cc Cd Ce Cf Cg Ch Ci Cj Ck Cl Cm Cn Co Cp Cq Cr Ct Cu Cv Cw Cx Cy Cz Da Db Dc Dd De Df Dg Dh Di Dj Dk Dl Dn Dp av w6 hOm6 hb6
 obtain ⟨ai,ki,hiv⟩:=hOm6.ini.form
 obtain ⟨af,kf,hfv⟩:=hOm6.fin.form
 obtain ⟨aa,ka,hav⟩:=hOm6.arcs.form
 subst hiv hfv hav
 simp only [List.length_map,q0h] at hOm6
 have hO6c:=hOm6.blk.cs
 have hR6:=hR.next hb6
 have hst2:Hid (q1z (usL E A.st) A.st=(q0w (usL E A.st) A).st):=hid (by rw [<-q0h,z1h _ (q4d E A.st)]; rfl)
 have hMo:=hid (show MoF w6 (O+1) (q0w (usL E A.st) A) ai ki af kf aa (zS (usL E A.st) A.arcs).length ka from by
  have e:j0l (usL E A.st) A.st=q1y (usL E A.st):=z1h _ (q4d E A.st)
  refine ⟨?_,?_,hOm6.arcs⟩
  ·have h:=hOm6.ini; rw [hst2.out,e] at h; exact h
  ·have h:=hOm6.fin; rw [hst2.out,e] at h; exact h)
 rw [hst2.out] at hO6c
 replace hb6:=hid hb6
 replace hOm6:=hid hOm6
 go_wp2_with (first | ((with_reducible refine qM rfl _ rfl O 0 ?_ (auC syms (q0w (usL E A.st) A).st (.slice ai (q0w (usL E A.st) A).st ki) (.slice af (q0w (usL E A.st) A).st kf) (.slice aa (zS (usL E A.st) A.arcs).length ka)) rfl hO6c ?_); exact rfl) | ((with_reducible refine jG rfl _ _ rfl (w.heap.size+1) 30 _ hR6 ?_ (auC syms (q0w (usL E A.st) A).st (.slice ai (q0w (usL E A.st) A).st ki) (.slice af (q0w (usL E A.st) A).st kf) (.slice aa (zS (usL E A.st) A.arcs).length ka)) rfl rfl ?_ (kV _ _ _ _ _ _ _ _ _ _ _) ?_); exact rfl; exact rfl; intro w9 hR9 hfr9))
 exact bodyPost_ret (qN rfl _ _ (w.heap.size+1) _ _ rfl hR9.cs Tryz.underlying30 rfl Tryz.sizeAuto) rfl ⟨_,rfl,ai,ki,af,kf,aa,(zS (usL E A.st) A.arcs).length,ka,rfl,(hMo.out.fr hfr9 (by omega)).mono (by have:=hb0.size; omega),(qQ hb0 hb6.out).trans (hfr9.below (fun k e=>by omega) (qQ hb0 hb6.out).size)⟩
end
section
open Go.RowKit
def nrm (A:Au) (K:List Ac):Au:=⟨A.st,A.ini,A.fin,K.filter nz⟩
theorem j6f {syms:Nat} {A:Au} (hV:Vo syms A) {K:List Ac} (hK:Nf K A.arcs):∀ x∈K.filter nz,x.1<A.st/\x.2.2.1<A.st:=fun x hx=>by
 obtain ⟨⟨z,hz,hk,_⟩,_⟩:=hK.2.1 x (List.mem_filter.1 hx).1
 have h1:=hV.arcs z hz
 have h2:z.1=x.1:=congrArg (fun q:Ky=>q.1) hk
 have h3:z.2.2.1=x.2.2.1:=congrArg (fun q:Ky=>q.2.2) hk
 rw [<-h2,<-h3]; exact ⟨h1.1,h1.2.1⟩
def z4h (syms:Nat) (A:Au) (w:World) (e:Ending) (w':World):Prop:=∃ (v:Value) (K:List Ac) (E:Nat->Bool),e=.returned (.tuple #[v,.int .i64 0])/\Nf K A.arcs/\UsE (nrm A K) E/\q9k syms (q0w (usL E A.st) (nrm A K)) w v w'
theorem j5q (syms:Nat) (A:Au) (hV:Vo syms A) (io:OA) (ci:Nat) (fo:OA) (cf:Nat) (ro:OA) (nr cr:Nat) (w:World) (h:Mo w syms A io ci fo cf ro nr cr) :
  Calls Tryz.prog 35 #[.agg (auC syms A.st (.slice io A.st ci) (.slice fo A.st cf) (.slice ro nr cr)).toArray] w (z4h syms A w):=by
 have hb0:Below w.heap.size w ((w.alloc (.cells (auC syms A.st (.slice io A.st ci) (.slice fo A.st cf) (.slice ro nr cr)).toArray 30)).alloc (.cells #[.int .i64 0,.slice none 0 0,.int .i64 0,.int .i64 0,.slice none 0 0,.slice none 0 0,.slice none 0 0] 30)):=qQ (qJ _) (qJ _)
 have hG:=(Bl.fresh w (auC syms A.st (.slice io A.st ci) (.slice fo A.st cf) (.slice ro nr cr)) 30).new (.cells #[.int .i64 0,.slice none 0 0,.int .i64 0,.int .i64 0,.slice none 0 0,.slice none 0 0,.slice none 0 0] 30)
 have hR:=Bl.fresh' (G:=w.heap.size+1) (w.alloc (.cells (auC syms A.st (.slice io A.st ci) (.slice fo A.st cf) (.slice ro nr cr)).toArray 30)) [.int .i64 0,.slice none 0 0,.int .i64 0,.int .i64 0,.slice none 0 0,.slice none 0 0,.slice none 0 0] 30 (by simp)
 have hm:=hid (h.next hb0)
 clear h
 go_enter Tryz.func35,Tryz.ntmps35
 go_upto_region 1 with fail
 obtain ⟨W1,hW1⟩:∃ W1,W1=((w.alloc (.cells (auC syms A.st (.slice io A.st ci) (.slice fo A.st cf) (.slice ro nr cr)).toArray 30)).alloc (.cells #[.int .i64 0,.slice none 0 0,.int .i64 0,.int .i64 0,.slice none 0 0,.slice none 0 0,.slice none 0 0] 30)):=⟨_,rfl⟩
 rw [<-hW1] at hb0 hG hR hm
 have hGc:=hG.cs
 subst hW1
 go_wp2_with ((with_reducible refine qM rfl _ rfl w.heap.size 0 ?_ (auC syms A.st (.slice io A.st ci) (.slice fo A.st cf) (.slice ro nr cr)) rfl hGc ?_); exact rfl)
 refine (kN syms A hV io ci fo cf ro nr cr _ hm.out).mono ?_; rintro e w1 ⟨rfl,hb1⟩
 have hm1:=hid (hm.out.next hb1)
 replace hG:=hG.next hb1
 replace hR:=hR.next hb1
 replace hb0:=qQ hb0 hb1
 clear hGc hb1
 have hGc:=hG.cs
 go_wp2_with ((with_reducible refine qM rfl _ rfl w.heap.size 0 ?_ (auC syms A.st (.slice io A.st ci) (.slice fo A.st cf) (.slice ro nr cr)) rfl hGc ?_); exact rfl)
 refine (q4q syms A hV io ci fo cf ro nr cr _ hm1.out).mono ?_; rintro e w2 ⟨v,rfl,K,io',ci',fo',cf',ro',nr',cr',rfl,hK,hMo,hb2⟩
 have hR2:=hR.next hb2
 have hG2:=hG.next hb2
 have hMo2:=hMo.mono hR.lt
 replace hb0:=qQ hb0 hb2
 have hNA:=hid (j6f hV hK)
 have hNl:(nrm A K).arcs.length<=2048:=by
  have h1:=q5z hK (fun z hz=>(hV.arcs z hz))
  have h2:=List.length_filter_le nz K
  have h3:=hV.num
  show (K.filter nz).length<=2048
  omega
 have hst:=hV.st
 replace hK:=hid hK
 clear hGc hb2 hMo hG hR
 go_upto_region 4 with ((with_reducible refine jG rfl _ _ rfl w.heap.size 30 _ hG2 ?_ (auC syms A.st (.slice io' A.st ci') (.slice fo' A.st cf') (.slice ro' nr' cr')) rfl rfl ?_ (kV _ _ _ _ _ _ _ _ _ _ _) ?_); exact rfl; exact rfl; intro w3 hG3 hfr3)
 have hR3:=hR2.fr hfr3 (by omega)
 have hM3:=hid ((hMo2.fr hfr3 (by omega)).mo syms)
 replace hb0:=hb0.trans (hfr3.below (fun k e=>by omega) hb0.size)
 clear hG2 hR2 hfr3 hMo2
 have hdr:=(Below.refl w3.heap.size w3).drew
 have hS:Cs w3.drew w.heap.size 0 (auC syms A.st (.slice io' A.st ci') (.slice fo' A.st cf') (.slice ro' nr' cr')):=(hG3.next hdr).cs
 have hM4:=hid (hM3.out.next hdr)
 have hR4:=hR3.next hdr
 have hb4:=qQ hb0 hdr
 clear hG3 hR3 hdr hb0
 refine qV (fun w'=>Cs w' w.heap.size 0 (auC syms A.st (.slice io' A.st ci') (.slice fo' A.st cf') (.slice ro' nr' cr'))) [4,5] (by kernel_rfl) ?_
 refine wAl 0 (some 10) (v:=?_) rfl rfl ?_ hS ?_
 rotate_left
 ·intro wz hw; refine kH w.heap.size 0 ?_ (auC syms A.st (.slice io' A.st ci') (.slice fo' A.st cf') (.slice ro' nr' cr')) rfl hw; go_simp
 refine wAl 1 (some 11) (v:=?_) rfl rfl ?_ hS ?_
 rotate_left
 ·intro wz hw; refine kH w.heap.size 0 ?_ (auC syms A.st (.slice io' A.st ci') (.slice fo' A.st cf') (.slice ro' nr' cr')) rfl hw; go_simp
 go_simp
 refine wpO (i:=2) rfl fun KK hKK=>?_
 go_simp
 go_at_call 72
 refine (j0f syms (nrm A K) hst hNl hNA.out io' ci' fo' cf' ro' nr' cr' _ hM4.out).mono ?_; rintro e w5 ⟨v5,E,rfl,hr5,hE,hb5⟩
 have hM5:=hid (hM4.out.next hb5)
 have hR5:=hR4.next hb5
 have hb6:=qQ hb4 hb5
 obtain ⟨ko,kc,rfl,hrd⟩:=hr5.rd
 try go_simp
 refine hKK _ _ ⟨fun _=>(Cs.next hS hb5),?_⟩; clear hKK KK
 refine wpO (i:=3) rfl fun KK hKK=>?_
 go_simp
 go_at_call 71
 refine (j5s syms (nrm A K) io' ci' fo' cf' ro' nr' cr' E hst hNl hNA.out ko kc _ hM5.out hrd).mono ?_; rintro e w7 ⟨v7,rfl,jo,di,go,df,so,ns,ds,rfl,hMo7,hb7⟩
 have hR7:=hR5.next hb7
 have hb8:=qQ hb6 hb7
 have hMo8:=hMo7.mono hR5.lt
 try go_simp
 refine hKK _ _ ⟨fun _=>(Cs.next (Cs.next hS hb5) hb7),?_⟩; clear hKK KK
 refine wpO (i:=4) rfl fun KK hKK=>?_
 rw [if_pos (by rfl)]
 with_reducible refine qB 30 (.tmp 2) (.tmp 13) ?_ (w.heap.size+1) 30 [.int .i64 0,.slice none 0 0,.int .i64 0,.int .i64 0,.slice none 0 0,.slice none 0 0,.slice none 0 0] hR7 ?_ (auC syms (q0w (usL E (nrm A K).st) (nrm A K)).st (.slice jo (q0w (usL E (nrm A K).st) (nrm A K)).st di) (.slice go (q0w (usL E (nrm A K).st) (nrm A K)).st df) (.slice so ns ds)) ?_ ?_ ?_ ?_ ?_
 ·rfl
 ·rfl
 ·rfl
 ·rfl
 ·exact kV _ _ _ _ _ _ _ _ _ _ _
 ·exact Tryz.sizeAuto
 intro w9 hR9 hfr9
 refine lN hKK ?_; clear hKK KK
 refine wpO (i:=5) rfl fun KK hKK=>?_
 go_simp
 refine lN hKK ?_; clear hKK KK
 refine qZ (by kernel_rfl) ?_ _
 have hMo9:=hid ((hMo8.fr hfr9 (Nat.lt_succ_self _)).mono (show w.heap.size<=w.heap.size+1+1 by omega))
 replace hE:=hid hE
 go_wp2_with fail
 exact bodyPost_ret (jY rfl _ _ (w.heap.size+1) _ _ rfl hR9.cs Tryz.underlying30 rfl Tryz.sizeAuto) rfl ⟨_,K,E,rfl,hK.out,hE.out,jo,di,go,df,so,ns,ds,rfl,hMo9.out,hb8.trans (hfr9.below (fun k e=>by omega) hb8.size)⟩
end
section
open Go.RowKit
noncomputable def lowR (n:Nat):Code:=(Tryz.f38.body.bind (q3e n)).getD .skip
def q0z (S:Vx) (k:Nat):List (Nat×Nat):=(List.range k).filterMap fun q=>(S.getD q none).map fun r=>(q,r)
def sup (S:Vx):List (Nat×Nat):=q0z S S.length
theorem q2y {S:Vx} {k r:Nat} (h:S[k]? = some (some r)):q0z S (k+1)=q0z S k++[(k,r)]:=by
 unfold q0z; rw [List.range_succ,List.filterMap_append,List.filterMap_cons,List.getD_eq_getElem?_getD,h]; rfl
theorem q2z {S:Vx} {k:Nat} (h:S[k]? = some none):q0z S (k+1)=q0z S k:=by
 unfold q0z; rw [List.range_succ,List.filterMap_append,List.filterMap_cons,List.getD_eq_getElem?_getD,h]; simp
theorem q0o (S:Vx) (k:Nat):(q0z S k).length<=k:=by unfold q0z; exact Nat.le_trans (List.length_filterMap_le _ _) (by simp)
def i1C (x:Nat):List Value:=[.int .i64 (x:Int)]
theorem j0t (L:List Nat):∀ cs∈L.map i1C,cs.length=1:=by intro cs hc; obtain ⟨x,_,rfl⟩:=List.mem_map.1 hc; rfl
theorem j0s (L:List Nat):∀ cs∈L.map i1C,∀ u∈cs,u.oneCell'=true:=by
 intro cs hc u hu; obtain ⟨x,_,rfl⟩:=List.mem_map.1 hc; rw [List.mem_singleton.1 hu]; rfl
structure Sq (w:World) (O:Nat) (sv rv:Value) (P:List (Nat×Nat)):Prop where
 sts:FO 3 1 w O sv ((P.map Prod.fst).map i1C)
 rst:FO 3 1 w O rv ((P.map Prod.snd).map i1C)
 ne:∀ g,sv.ownBlock=some g->rv.ownBlock≠some g
theorem Sq.next {w w':World} {O:Nat} {sv rv:Value} {P:List (Nat×Nat)} (h:Sq w O sv rv P) (hb:Below w.heap.size w w'):Sq w' O sv rv P:=⟨h.sts.next hb,h.rst.next hb,h.ne⟩
theorem Sq.fr {K:Nat->Prop} {w w':World} {O:Nat} {sv rv:Value} {P:List (Nat×Nat)} (h:Sq w O sv rv P) (hf:Fr K w w') (h1:∀ g,sv.ownBlock=some g->¬ K g) (h2:∀ g,rv.ownBlock=some g->¬ K g):Sq w' O sv rv P:=⟨h.sts.fr hf h1,h.rst.fr hf h2,h.ne⟩
theorem jW {dst:Option Tmp} {ty':TypeId} {pos:String} {after:Array Edge} {guard:Option (Nat×Bool)} {x:Operand} {a:Act} {w:World} (b off:Nat) (hx:a.eval x=.pointer (some ⟨b,off,none⟩)) (v:Value) (hc:w.cell? ⟨b,off,none⟩=some v) :
  (execOp a.eval ⟨dst,.load 22 x,ty',pos,after,guard⟩).run Tryz.prog w=.ok (.value v) w:=qK b off hx v hc _ Tryz.underlying22 rfl
theorem qW {dst:Option Tmp} {ty':TypeId} {pos:String} {after:Array Edge} {guard:Option (Nat×Bool)} {x:Operand} {a:Act} {w:World} (b off:Nat) (hx:a.eval x=.pointer (some ⟨b,off,none⟩)) (v:Value) (hc:w.cell? ⟨b,off,none⟩=some v) :
  (execOp a.eval ⟨dst,.load 3 x,ty',pos,after,guard⟩).run Tryz.prog w=.ok (.value v) w:=qK b off hx v hc _ Tryz.underlying3 rfl
theorem z2v (O g n cap q r m:Nat) (hq:q<n) (hmr:m<=r) (hr:r<=1000000000000000) (sv rv:Value) (P:List (Nat×Nat)) (w:World) (hn:n<=64) (hO:Bl O [sv,rv] 84 w) (h:Sq w (O+1) sv rv P) (hl:P.length<=64) (hc:w.cell? ⟨g,q,none⟩=some (.int .i64 (r:Int))) (hg:g<O)
  {c1 c2 c3 c4 c6 c9 Aa Ab Ad Ae Af Ag Ah Ak Al Am An Ao Ap Aq Ar As Av Aw Ax Ay Az Ba Bb Bc Be Bf Bh Bi Bj Bk Bm Bn Bo Bp Bq Br Bs Bt Bu Bv Bw Bx By Bz Ca Cb Cc Cd Ce Cf Cg Ch Ci Cj Ck Cl Cm Cn Co:Value} {Q0:EP} (hpan:∀ c (a:Act) d v w,Q0 (.panic c) (a.put d v) w->Q0 (.panic c) a w)
  (hexit:∀ (Cp Cq Cr Ct Cu Cv Cw Cx Cy Cz Da Db Dc Dd De Df Dg:Value) (sv' rv':Value) (w':World),Bl O [sv',rv'] 84 w'->Sq w' (O+1) sv' rv' (P++[(q,r-m)])->Below O w w'->Q0 .normal ⟨#[.slice (some ⟨g,0,none⟩) n cap,c1,c2,c3,c4,.int .i64 (m:Int),c6,.pointer (some ⟨O,0,none⟩),.int .i64 (q:Int),c9,Aa,Ab,Ad,Ae,Af,Ag,Ah,Ak,Al,Am,An,Ao,Ap,Aq,Ar,As,Av,Aw,Ax,Ay,Az,Ba,Bb,Bc,Be,Bf,Bh,Bi,Bj,Bk,Bm,Bn,Bo,Bp,Bq,Br,Bs,Bt,Cp,Cq,Cr,Ct,Cu,Cv,Cw,Cx,Cy,Cz,Da,Db,Dc,Dd,De,Df,Dg,Cl,Cm,Cn,Co],[]⟩ w') :
  Code.wp Tryz.prog (lowR 12) Q0 ⟨#[.slice (some ⟨g,0,none⟩) n cap,c1,c2,c3,c4,.int .i64 (m:Int),c6,.pointer (some ⟨O,0,none⟩),.int .i64 (q:Int),c9,Aa,Ab,Ad,Ae,Af,Ag,Ah,Ak,Al,Am,An,Ao,Ap,Aq,Ar,As,Av,Aw,Ax,Ay,Az,Ba,Bb,Bc,Be,Bf,Bh,Bi,Bj,Bk,Bm,Bn,Bo,Bp,Bq,Br,Bs,Bt,Bu,Bv,Bw,Bx,By,Bz,Ca,Cb,Cc,Cd,Ce,Cf,Cg,Ch,Ci,Cj,Ck,Cl,Cm,Cn,Co],[]⟩ w:=by
 conv=>arg 2; whnf
 have i1:(q:Int)<(n:Int):=by omega
 have i0:(0:Int)<=(q:Int):=by omega
 have k3:(m:Int)<=(r:Int):=by omega
 have k5:(r:Int)<=1000000000000000:=by omega
 have hdr:=(Below.refl w.heap.size w).drew
 have h1:=h.next hdr
 have hO1:=hO.next hdr
 have hS:(w.drew.cell? ⟨O,0,none⟩=some sv/\w.drew.cell? ⟨O,1,none⟩=some rv)/\w.drew.cell? ⟨g,q,none⟩=some (.int .i64 (r:Int)):=⟨⟨hO1.cell rfl,hO1.cell rfl⟩,qR hc hdr⟩
 have hK:∀ w',Below (O+1) w.drew w'->((w'.cell? ⟨O,0,none⟩=some sv/\w'.cell? ⟨O,1,none⟩=some rv)/\w'.cell? ⟨g,q,none⟩=some (.int .i64 (r:Int))):=fun w' hb =>
  ⟨⟨(hb.cell (p:=⟨O,0,none⟩) (Nat.lt_succ_self _)).trans hS.1.1,(hb.cell (p:=⟨O,1,none⟩) (Nat.lt_succ_self _)).trans hS.1.2⟩,(hb.cell (p:=⟨g,q,none⟩) (Nat.lt_succ_of_lt hg)).trans hS.2⟩
 have hbx:Below (O+1) w.drew w.drew:=Below.refl _ _
 have hFr:Fr (fun k=>sv.ownBlock=some k\/rv.ownBlock=some k) w.drew w.drew:=Fr.refl _ _
 have hI:=h1.sts
 have hFn:=h1.rst
 have hne:=h1.ne
 have hdw:w.drew.heap.size=w.heap.size:=rfl
 have hOw:O+1<=w.drew.heap.size:=hO1.lt
 have hIw:∀ k,sv.ownBlock=some k->k<w.drew.heap.size:=fun k e=>(hI.lt e).2
 have hwr:IntKind.i64.wrap ((r:Int)-(m:Int))=(r:Int)-(m:Int):=by rw [IntKind.wrap_i64]; omega
 have hsub:((r-m:Nat):Int)=(r:Int)-(m:Int):=by omega
 have hsub:=hid hsub
 have hnr:i1C (r-m)=[.int .i64 ((r:Int)-(m:Int))]:=by unfold i1C; rw [hsub.out]
 obtain ⟨NR,hNR⟩:∃ NR,i1C (r-m)=NR:=⟨_,rfl⟩
 have hNL:NR.length=1:=by rw [<-hNR]; rfl
 have hNO:∀ u∈NR,u.oneCell'=true:=fun u hu=>by rw [<-hNR] at hu; rw [List.mem_singleton.1 hu]; rfl
 rw [hNR] at hnr
 replace hNR:=hid hNR
 refine qV (fun w'=>(w'.cell? ⟨O,0,none⟩=some sv/\w'.cell? ⟨O,1,none⟩=some rv)/\w'.cell? ⟨g,q,none⟩=some (.int .i64 (r:Int))) [16,17,18] (by kernel_rfl) ?_
 refine wBp 0 hpan (some 48) rfl rfl hS ?_
 refine wBl 1 hpan (some 49) (v:=?_) rfl rfl ?_ hS ?_
 rotate_left
 ·intro wz hw; refine jW O 0 ?_ (sv) (hw.1.1); go_simp
 refine wBp 2 hpan (some 50) rfl rfl hS ?_
 refine wBp 5 hpan (some 53) rfl rfl hS ?_
 refine wBl 6 hpan (some 54) (v:=?_) rfl rfl ?_ hS ?_
 rotate_left
 ·intro wz hw; refine jW O 1 ?_ (rv) (hw.1.2); go_simp
 refine wBp 7 hpan (some 55) rfl rfl hS ?_
 refine wBp 8 hpan (some 56) rfl rfl hS ?_
 refine wBp 9 hpan (some 57) rfl rfl hS ?_
 refine wBl 10 hpan (some 58) (v:=?_) rfl rfl ?_ hS ?_
 rotate_left
 ·intro wz hw; refine qW g q ?_ (.int .i64 (r:Int)) hw.2; go_simp
 refine wBp 11 hpan (some 59) rfl rfl hS ?_
 refine wBl 12 hpan (some 60) (v:=.int .i64 ((r:Int)-(m:Int))) rfl rfl ?_ hS ?_
 ·intro wz _; first | (go_simp; done) | (go_simp; with_reducible rfl)
 go_simp
 refine jM (i:=3) (j:=13) ?_ rfl rfl (fun KK hKK=>?_) (fun KK hKK=>?_)
 ·kernel_rfl
 ·skip
  have hbN3:Below w.drew.heap.size w.drew (w.drew.alloc (.cells #[.int .i64 (q:Int)] 3)):=qJ _
  have hn3:=Cs.fresh w.drew [.int .i64 (q:Int)] 3
  replace hI:=hI.next hbN3
  replace hFn:=hFn.next hbN3
  replace hO1:=hO1.next hbN3
  replace hbx:=hbx.trans (hbN3.mono (Nat.le_trans hOw hFr.size))
  replace hFr:=hFr.trans (qH hbN3 _)
  go_simp
  refine hKK _ _ ⟨fun _=>(hK _ hbx),?_⟩; clear hKK KK
  refine jM (i:=4) (j:=13) ?_ rfl rfl (fun KK hKK=>?_) (fun KK hKK=>?_)
  ·kernel_rfl
  ·skip
   rw [if_pos (by rfl)]
   have hOl:=hO1
   refine jP (.tmp 49) (.tmp 51) 22 rfl 3 (.int .i64 0) 1 8 Tryz.underlying22 Tryz.infoInt rfl (by decide) (O+1) sv _ rfl hI w.heap.size 0 1 1 [i1C q] rfl rfl (by decide) (j0t [q]) (by simp only [List.flatten_cons,List.flatten_nil,List.append_nil]; first | exact hn3 | (rw [hnr]; exact hn13)) (j0s [q]) (by rw [List.length_map,List.length_map]; omega) (by rw [List.length_map,List.length_map]; omega) hOl.lt ?_
   intro sv' w8 hI8 hg8 hb8 ho8
   have hF8:Fr (fun k=>sv.ownBlock=some k) _ w8:=qS hg8 fun g hg=>hg
   have hr8:∀ g,sv'.ownBlock=some g->rv.ownBlock≠some g:=fun g hg hg'=>by
    rcases ho8 with h | h
    ·exact hne g (h▸hg) hg'
    ·have e1:=Option.some.inj (h.symm.trans hg)
     have:=(hFn.lt hg').2
     exact absurd this (by rw [<-e1]; exact Nat.lt_irrefl _)
   replace hFn:FO 3 1 w8 (O+1) rv ((P.map Prod.snd).map i1C):=hFn.fr hF8 (fun g hg hg'=>hne g hg' hg)
   replace hO1:=hO1.under hb8 (Nat.lt_succ_self _)
   replace hbx:=hbx.trans hb8
   replace hFr:=hFr.trans (hF8.mono fun k _ e=>.inl e)
   refine hKK _ _ ⟨fun _=>(hK _ hbx),?_⟩; clear hKK KK
   refine wBp 15 hpan (some 63) rfl rfl (hK _ hbx) ?_
   refine wpO (i:=13) rfl fun KK hKK=>?_
   have hbN13:Below w8.heap.size w8 (w8.alloc (.cells #[.int .i64 ((r:Int)-(m:Int))] 3)):=qJ _
   have hn13:=Cs.fresh w8 [.int .i64 ((r:Int)-(m:Int))] 3
   replace hI8:=hI8.next hbN13
   replace hFn:=hFn.next hbN13
   replace hO1:=hO1.next hbN13
   replace hbx:=hbx.trans (hbN13.mono (Nat.le_trans hOw hFr.size))
   replace hFr:=hFr.trans (qH hbN13 _)
   go_simp
   refine hKK _ _ ⟨fun _=>(hK _ hbx),?_⟩; clear hKK KK
   refine wpO (i:=14) rfl fun KK hKK=>?_
   rw [if_pos (by rfl)]
   have hOl:=hO1
   refine jP (.tmp 54) (.tmp 61) 22 rfl 3 (.int .i64 0) 1 8 Tryz.underlying22 Tryz.infoInt rfl (by decide) (O+1) rv _ rfl hFn w8.heap.size 0 1 1 [NR] rfl rfl (by decide) (by intro cs hc; rw [List.mem_singleton.1 hc]; exact hNL) (by simp only [List.flatten_cons,List.flatten_nil,List.append_nil]; first | exact hn13 | (rw [hnr]; exact hn13)) (by intro cs hc; rw [List.mem_singleton.1 hc]; exact hNO) (by rw [List.length_map,List.length_map]; omega) (by rw [List.length_map,List.length_map]; omega) hOl.lt ?_
   intro rv' w17 hf17 hg17 hb17 ho17
   have hF17:Fr (fun k=>rv.ownBlock=some k) _ w17:=qS hg17 fun g hg=>hg
   have hr17:∀ g,sv'.ownBlock=some g->rv'.ownBlock≠some g:=fun g hg hg'=>by
    rcases ho17 with h | h
    ·exact hr8 g hg (h▸hg')
    ·have e1:=Option.some.inj (h.symm.trans hg')
     have:=(hI8.lt hg).2
     exact absurd this (by rw [<-e1]; exact Nat.lt_irrefl _)
   have hi17:FO 3 1 w17 (O+1) sv' ((P.map Prod.fst).map i1C++[i1C q]):=hI8.fr hF17 (fun g hg hg'=>hr8 g hg hg')
   have hO17:=hO1.under hb17 (Nat.lt_succ_self _)
   replace hbx:=hbx.trans hb17
   obtain ⟨ai,ki,hiv⟩:=hi17.form
   obtain ⟨af,kf,hfv⟩:=hf17.form
   subst hiv hfv
   have y4:=hO17.cell (i:=0) rfl
   have y4f:=hO17.free 0
   have y5:=hO17.cell (i:=1) rfl
   have y5f:=hO17.free 1
   refine hKK _ _ ⟨fun _=>(hK _ hbx),?_⟩; clear hKK KK
   refine wpO (i:=16) rfl fun KK hKK=>?_
   go_simp
   refine lN hKK ?_; clear hKK KK
   refine wpO (i:=17) rfl fun KK hKK=>?_
   go_simp
   refine lN hKK ?_; clear hKK KK
   refine wpO (i:=18) rfl fun KK hKK=>?_
   go_simp
   refine lN hKK ?_; clear hKK KK
   refine qZ (by kernel_rfl) ?_ _
   have hF9:Fr (fun k=>k=O) w17 ((w17.setCell ⟨O,0,none⟩ (.slice ai (P.length+1) ki)).setCell ⟨O,1,none⟩ (.slice af (P.length+1) kf)):=(Fr.set (T:=fun k=>k=O) w17 (p:=⟨O,0,none⟩) rfl _).trans (Fr.set (T:=fun k=>k=O) _ (p:=⟨O,1,none⟩) rfl _)
   simp only [List.length_append,List.length_map,List.length_cons,List.length_nil,Nat.zero_add] at hi17 hf17 hr17 ⊢
   refine hexit _ _ _ _ _ _ _ _ _ _ _ _ _ _ _ _ _ (.slice ai (P.length+1) ki) (.slice af (P.length+1) kf) _ ?_ ?_ ?_
   ·exact (hO17.put 0 _).put 1 _
   ·refine ⟨?_,?_,hr17⟩
    ·rw [List.map_append,List.map_append]; exact hi17.fr hF9 (fun g hg e=>by have:=(hi17.lt hg).1; omega)
    ·rw [List.map_append,List.map_append]; show FO _ _ _ _ _ (_++[i1C (r-m)]); rw [hNR.out]; exact hf17.fr hF9 (fun g hg e=>by have:=(hf17.lt hg).1; omega)
   ·exact ((hdr.mono (Nat.le_of_succ_le hOw)).trans (hbx.mono (Nat.le_succ _))).trans (hF9.below (fun k e=>by omega) (by have:=hO17.lt; omega))
  ·skip
   have hbN13:Below (w.drew.alloc (.cells #[.int .i64 (q:Int)] 3)).heap.size (w.drew.alloc (.cells #[.int .i64 (q:Int)] 3)) ((w.drew.alloc (.cells #[.int .i64 (q:Int)] 3)).alloc (.cells #[.int .i64 ((r:Int)-(m:Int))] 3)):=qJ _
   have hn13:=Cs.fresh (w.drew.alloc (.cells #[.int .i64 (q:Int)] 3)) [.int .i64 ((r:Int)-(m:Int))] 3
   have hz13:(w.drew.alloc (.cells #[.int .i64 (q:Int)] 3)).heap.size=w.heap.size+1:=by simp
   rw [hz13] at hn13
   replace hn3:=hn3.next hbN13
   replace hI:=hI.next hbN13
   replace hFn:=hFn.next hbN13
   replace hO1:=hO1.next hbN13
   replace hbx:=hbx.trans (hbN13.mono (Nat.le_trans hOw hFr.size))
   replace hFr:=hFr.trans (qH hbN13 _)
   go_simp
   refine hKK _ _ ⟨fun _=>(hK _ hbx),?_⟩; clear hKK KK
   refine wpO (i:=4) rfl fun KK hKK=>?_
   rw [if_pos (by rfl)]
   have hOl:=hO1
   refine jP (.tmp 49) (.tmp 51) 22 rfl 3 (.int .i64 0) 1 8 Tryz.underlying22 Tryz.infoInt rfl (by decide) (O+1) sv _ rfl hI w.heap.size 0 1 1 [i1C q] rfl rfl (by decide) (j0t [q]) (by simp only [List.flatten_cons,List.flatten_nil,List.append_nil]; first | exact hn3 | (rw [hnr]; exact hn13)) (j0s [q]) (by rw [List.length_map,List.length_map]; omega) (by rw [List.length_map,List.length_map]; omega) hOl.lt ?_
   intro sv' w8 hI8 hg8 hb8 ho8
   have hF8:Fr (fun k=>sv.ownBlock=some k) _ w8:=qS hg8 fun g hg=>hg
   replace hn13:=hn13.fr hF8 (fun e=>by have:=hIw _ e; omega)
   have hr8:∀ g,sv'.ownBlock=some g->rv.ownBlock≠some g:=fun g hg hg'=>by
    rcases ho8 with h | h
    ·exact hne g (h▸hg) hg'
    ·have e1:=Option.some.inj (h.symm.trans hg)
     have:=(hFn.lt hg').2
     exact absurd this (by rw [<-e1]; exact Nat.lt_irrefl _)
   replace hFn:FO 3 1 w8 (O+1) rv ((P.map Prod.snd).map i1C):=hFn.fr hF8 (fun g hg hg'=>hne g hg' hg)
   replace hO1:=hO1.under hb8 (Nat.lt_succ_self _)
   replace hbx:=hbx.trans hb8
   replace hFr:=hFr.trans (hF8.mono fun k _ e=>.inl e)
   refine hKK _ _ ⟨fun _=>(hK _ hbx),?_⟩; clear hKK KK
   refine wBp 15 hpan (some 63) rfl rfl (hK _ hbx) ?_
   refine wpO (i:=14) rfl fun KK hKK=>?_
   rw [if_pos (by rfl)]
   have hOl:=hO1
   refine jP (.tmp 54) (.tmp 61) 22 rfl 3 (.int .i64 0) 1 8 Tryz.underlying22 Tryz.infoInt rfl (by decide) (O+1) rv _ rfl hFn (w.heap.size+1) 0 1 1 [NR] rfl rfl (by decide) (by intro cs hc; rw [List.mem_singleton.1 hc]; exact hNL) (by simp only [List.flatten_cons,List.flatten_nil,List.append_nil]; first | exact hn13 | (rw [hnr]; exact hn13)) (by intro cs hc; rw [List.mem_singleton.1 hc]; exact hNO) (by rw [List.length_map,List.length_map]; omega) (by rw [List.length_map,List.length_map]; omega) hOl.lt ?_
   intro rv' w17 hf17 hg17 hb17 ho17
   have hF17:Fr (fun k=>rv.ownBlock=some k) _ w17:=qS hg17 fun g hg=>hg
   have hr17:∀ g,sv'.ownBlock=some g->rv'.ownBlock≠some g:=fun g hg hg'=>by
    rcases ho17 with h | h
    ·exact hr8 g hg (h▸hg')
    ·have e1:=Option.some.inj (h.symm.trans hg')
     have:=(hI8.lt hg).2
     exact absurd this (by rw [<-e1]; exact Nat.lt_irrefl _)
   have hi17:FO 3 1 w17 (O+1) sv' ((P.map Prod.fst).map i1C++[i1C q]):=hI8.fr hF17 (fun g hg hg'=>hr8 g hg hg')
   have hO17:=hO1.under hb17 (Nat.lt_succ_self _)
   replace hbx:=hbx.trans hb17
   obtain ⟨ai,ki,hiv⟩:=hi17.form
   obtain ⟨af,kf,hfv⟩:=hf17.form
   subst hiv hfv
   have y4:=hO17.cell (i:=0) rfl
   have y4f:=hO17.free 0
   have y5:=hO17.cell (i:=1) rfl
   have y5f:=hO17.free 1
   refine hKK _ _ ⟨fun _=>(hK _ hbx),?_⟩; clear hKK KK
   refine wpO (i:=16) rfl fun KK hKK=>?_
   go_simp
   refine lN hKK ?_; clear hKK KK
   refine wpO (i:=17) rfl fun KK hKK=>?_
   go_simp
   refine lN hKK ?_; clear hKK KK
   refine wpO (i:=18) rfl fun KK hKK=>?_
   go_simp
   refine lN hKK ?_; clear hKK KK
   refine qZ (by kernel_rfl) ?_ _
   have hF9:Fr (fun k=>k=O) w17 ((w17.setCell ⟨O,0,none⟩ (.slice ai (P.length+1) ki)).setCell ⟨O,1,none⟩ (.slice af (P.length+1) kf)):=(Fr.set (T:=fun k=>k=O) w17 (p:=⟨O,0,none⟩) rfl _).trans (Fr.set (T:=fun k=>k=O) _ (p:=⟨O,1,none⟩) rfl _)
   simp only [List.length_append,List.length_map,List.length_cons,List.length_nil,Nat.zero_add] at hi17 hf17 hr17 ⊢
   refine hexit _ _ _ _ _ _ _ _ _ _ _ _ _ _ _ _ _ (.slice ai (P.length+1) ki) (.slice af (P.length+1) kf) _ ?_ ?_ ?_
   ·exact (hO17.put 0 _).put 1 _
   ·refine ⟨?_,?_,hr17⟩
    ·rw [List.map_append,List.map_append]; exact hi17.fr hF9 (fun g hg e=>by have:=(hi17.lt hg).1; omega)
    ·rw [List.map_append,List.map_append]; show FO _ _ _ _ _ (_++[i1C (r-m)]); rw [hNR.out]; exact hf17.fr hF9 (fun g hg e=>by have:=(hf17.lt hg).1; omega)
   ·exact ((hdr.mono (Nat.le_of_succ_le hOw)).trans (hbx.mono (Nat.le_succ _))).trans (hF9.below (fun k e=>by omega) (by have:=hO17.lt; omega))
 ·skip
  have hbN13:Below w.drew.heap.size w.drew (w.drew.alloc (.cells #[.int .i64 ((r:Int)-(m:Int))] 3)):=qJ _
  have hn13:=Cs.fresh w.drew [.int .i64 ((r:Int)-(m:Int))] 3
  replace hI:=hI.next hbN13
  replace hFn:=hFn.next hbN13
  replace hO1:=hO1.next hbN13
  replace hbx:=hbx.trans (hbN13.mono (Nat.le_trans hOw hFr.size))
  replace hFr:=hFr.trans (qH hbN13 _)
  go_simp
  refine hKK _ _ ⟨fun _=>(hK _ hbx),?_⟩; clear hKK KK
  refine wpO (i:=3) rfl fun KK hKK=>?_
  have hbN3:Below (w.drew.alloc (.cells #[.int .i64 ((r:Int)-(m:Int))] 3)).heap.size (w.drew.alloc (.cells #[.int .i64 ((r:Int)-(m:Int))] 3)) ((w.drew.alloc (.cells #[.int .i64 ((r:Int)-(m:Int))] 3)).alloc (.cells #[.int .i64 (q:Int)] 3)):=qJ _
  have hn3:=Cs.fresh (w.drew.alloc (.cells #[.int .i64 ((r:Int)-(m:Int))] 3)) [.int .i64 (q:Int)] 3
  have hz3:(w.drew.alloc (.cells #[.int .i64 ((r:Int)-(m:Int))] 3)).heap.size=w.heap.size+1:=by simp
  rw [hz3] at hn3
  replace hn13:=hn13.next hbN3
  replace hI:=hI.next hbN3
  replace hFn:=hFn.next hbN3
  replace hO1:=hO1.next hbN3
  replace hbx:=hbx.trans (hbN3.mono (Nat.le_trans hOw hFr.size))
  replace hFr:=hFr.trans (qH hbN3 _)
  go_simp
  refine hKK _ _ ⟨fun _=>(hK _ hbx),?_⟩; clear hKK KK
  refine wpO (i:=4) rfl fun KK hKK=>?_
  rw [if_pos (by rfl)]
  have hOl:=hO1
  refine jP (.tmp 49) (.tmp 51) 22 rfl 3 (.int .i64 0) 1 8 Tryz.underlying22 Tryz.infoInt rfl (by decide) (O+1) sv _ rfl hI (w.heap.size+1) 0 1 1 [i1C q] rfl rfl (by decide) (j0t [q]) (by simp only [List.flatten_cons,List.flatten_nil,List.append_nil]; first | exact hn3 | (rw [hnr]; exact hn13)) (j0s [q]) (by rw [List.length_map,List.length_map]; omega) (by rw [List.length_map,List.length_map]; omega) hOl.lt ?_
  intro sv' w8 hI8 hg8 hb8 ho8
  have hF8:Fr (fun k=>sv.ownBlock=some k) _ w8:=qS hg8 fun g hg=>hg
  replace hn13:=hn13.fr hF8 (fun e=>by have:=hIw _ e; omega)
  have hr8:∀ g,sv'.ownBlock=some g->rv.ownBlock≠some g:=fun g hg hg'=>by
   rcases ho8 with h | h
   ·exact hne g (h▸hg) hg'
   ·have e1:=Option.some.inj (h.symm.trans hg)
    have:=(hFn.lt hg').2
    exact absurd this (by rw [<-e1]; exact Nat.lt_irrefl _)
  replace hFn:FO 3 1 w8 (O+1) rv ((P.map Prod.snd).map i1C):=hFn.fr hF8 (fun g hg hg'=>hne g hg' hg)
  replace hO1:=hO1.under hb8 (Nat.lt_succ_self _)
  replace hbx:=hbx.trans hb8
  replace hFr:=hFr.trans (hF8.mono fun k _ e=>.inl e)
  refine hKK _ _ ⟨fun _=>(hK _ hbx),?_⟩; clear hKK KK
  refine wBp 15 hpan (some 63) rfl rfl (hK _ hbx) ?_
  refine wpO (i:=14) rfl fun KK hKK=>?_
  rw [if_pos (by rfl)]
  have hOl:=hO1
  refine jP (.tmp 54) (.tmp 61) 22 rfl 3 (.int .i64 0) 1 8 Tryz.underlying22 Tryz.infoInt rfl (by decide) (O+1) rv _ rfl hFn w.heap.size 0 1 1 [NR] rfl rfl (by decide) (by intro cs hc; rw [List.mem_singleton.1 hc]; exact hNL) (by simp only [List.flatten_cons,List.flatten_nil,List.append_nil]; first | exact hn13 | (rw [hnr]; exact hn13)) (by intro cs hc; rw [List.mem_singleton.1 hc]; exact hNO) (by rw [List.length_map,List.length_map]; omega) (by rw [List.length_map,List.length_map]; omega) hOl.lt ?_
  intro rv' w17 hf17 hg17 hb17 ho17
  have hF17:Fr (fun k=>rv.ownBlock=some k) _ w17:=qS hg17 fun g hg=>hg
  have hr17:∀ g,sv'.ownBlock=some g->rv'.ownBlock≠some g:=fun g hg hg'=>by
   rcases ho17 with h | h
   ·exact hr8 g hg (h▸hg')
   ·have e1:=Option.some.inj (h.symm.trans hg')
    have:=(hI8.lt hg).2
    exact absurd this (by rw [<-e1]; exact Nat.lt_irrefl _)
  have hi17:FO 3 1 w17 (O+1) sv' ((P.map Prod.fst).map i1C++[i1C q]):=hI8.fr hF17 (fun g hg hg'=>hr8 g hg hg')
  have hO17:=hO1.under hb17 (Nat.lt_succ_self _)
  replace hbx:=hbx.trans hb17
  obtain ⟨ai,ki,hiv⟩:=hi17.form
  obtain ⟨af,kf,hfv⟩:=hf17.form
  subst hiv hfv
  have y4:=hO17.cell (i:=0) rfl
  have y4f:=hO17.free 0
  have y5:=hO17.cell (i:=1) rfl
  have y5f:=hO17.free 1
  refine hKK _ _ ⟨fun _=>(hK _ hbx),?_⟩; clear hKK KK
  refine wpO (i:=16) rfl fun KK hKK=>?_
  go_simp
  refine lN hKK ?_; clear hKK KK
  refine wpO (i:=17) rfl fun KK hKK=>?_
  go_simp
  refine lN hKK ?_; clear hKK KK
  refine wpO (i:=18) rfl fun KK hKK=>?_
  go_simp
  refine lN hKK ?_; clear hKK KK
  refine qZ (by kernel_rfl) ?_ _
  have hF9:Fr (fun k=>k=O) w17 ((w17.setCell ⟨O,0,none⟩ (.slice ai (P.length+1) ki)).setCell ⟨O,1,none⟩ (.slice af (P.length+1) kf)):=(Fr.set (T:=fun k=>k=O) w17 (p:=⟨O,0,none⟩) rfl _).trans (Fr.set (T:=fun k=>k=O) _ (p:=⟨O,1,none⟩) rfl _)
  simp only [List.length_append,List.length_map,List.length_cons,List.length_nil,Nat.zero_add] at hi17 hf17 hr17 ⊢
  refine hexit _ _ _ _ _ _ _ _ _ _ _ _ _ _ _ _ _ (.slice ai (P.length+1) ki) (.slice af (P.length+1) kf) _ ?_ ?_ ?_
  ·exact (hO17.put 0 _).put 1 _
  ·refine ⟨?_,?_,hr17⟩
   ·rw [List.map_append,List.map_append]; exact hi17.fr hF9 (fun g hg e=>by have:=(hi17.lt hg).1; omega)
   ·rw [List.map_append,List.map_append]; show FO _ _ _ _ _ (_++[i1C (r-m)]); rw [hNR.out]; exact hf17.fr hF9 (fun g hg e=>by have:=(hf17.lt hg).1; omega)
  ·exact ((hdr.mono (Nat.le_of_succ_le hOw)).trans (hbx.mono (Nat.le_succ _))).trans (hF9.below (fun k e=>by omega) (by have:=hO17.lt; omega))
end
end Go.Proofs.YtnapapijhhldpaaGreatDoor

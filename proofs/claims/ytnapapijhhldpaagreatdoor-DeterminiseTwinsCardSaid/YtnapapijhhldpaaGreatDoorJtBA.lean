/-
  Texts joined by program: Ttf, Ttg, Tth, Tti, Tub, DoorT. No condition of its own.
-/
import Derived.Test.YtnapapijhhldpaaGreatDoorJtAX
import Derived.Test.YtnapapijhhldpaaGreatDoorRows
namespace Go.Proofs.YtnapapijhhldpaaGreatDoor
set_option linter.unusedSimpArgs false
set_option linter.unusedVariables false
set_option maxRecDepth 100000
set_option maxHeartbeats 4000000
section
open Go.RowKit
structure Aj (w:World) (O syms st:Nat) (sg:Bool) (iv fv av:Value) (ini fin:List Tw) (arcs:List Ac):Prop where
 om:Om w O syms st iv fv av ini fin arcs
 ok:∀ x∈arcs,x.1<st/\x.2.2.1<st/\1<=x.2.1/\x.2.1<=syms/\tc (wt x)<=5
 uq:sg=true->Uq arcs
theorem Aj.fr {K:Nat->Prop} {w w':World} {O syms st:Nat} {sg:Bool} {iv fv av:Value} {ini fin:List Tw} {arcs:List Ac} (h:Aj w O syms st sg iv fv av ini fin arcs) (hf:Fr K w w') (hK:∀ k,OmB O iv fv av k->¬ K k):Aj w' O syms st sg iv fv av ini fin arcs:=⟨h.om.fr hf hK,h.ok,h.uq⟩
theorem uq_more {L:List Ac} {x:Ac} (h:Uq L) (hx:∀ y∈L,¬ (y.1=x.1/\y.2.1=x.2.1)):Uq (L++[x]):=by
 intro a ha b hb e1 e2
 rcases List.mem_append.1 ha with ha | ha<;>rcases List.mem_append.1 hb with hb | hb
 ·exact h a ha b hb e1 e2
 ·rw [List.mem_singleton.1 hb] at e1 e2; exact absurd ⟨e1,e2⟩ (hx a ha)
 ·rw [List.mem_singleton.1 ha] at e1 e2; exact absurd ⟨e1.symm,e2.symm⟩ (hx b hb)
 ·rw [List.mem_singleton.1 ha,List.mem_singleton.1 hb]
theorem acC_swap (x:Ac):((acC x).set 0 (.int .i64 (x.2.2.1:Int))).set 2 (.int .i64 (x.1:Int))=acC (x.2.2.1,x.2.1,x.1,x.2.2.2):=rfl
theorem aut_turn (T:Nat) (lo:OA) (n cap:Nat) (PB O syms st:Nat) (kst ksy:Int) (fw sg:Bool) (iv fv av:Value) (ini fin:List Tw) (arcs:List Ac) (w:World) (hP:Bl PB [.int .i64 kst,.int .i64 ksy,.bool fw,.bool sg,.slice lo n cap] 24 w) (hTa:Ta w T lo n cap) (hPT:PB<T) (hTO:T<O) (hst:1<=st/\st<=64) (hsy:1<=syms/\syms<=32) (hla:arcs.length<=64) (hA:Aj w O syms st sg iv fv av ini fin arcs)
  {c0 c2 c4 c5 c6 c9 Aa Ab Ad Ae Af Ag Ah Ak Al Am An Ao Ap Aq Ar As Av Aw Ax Ay Az Ba Bb Bc Be Bf Bh Bi Bj Bk Bm Bn Bo Bp Bq Br Bs Bt Bu Bv Bw Bx By Bz Ca Cb Cc Cd Ce Cf Cg Ch Ci Cj Ck Cl Cm Cn Co Cp Cq Cr Ct Cu Cv Cw Cx Cy Cz Da Db Dc Dd De Df Dg Dh Di Dj Dk Dl Dn Dp Dq Dr Dt Du Dv Dw Dx Dy Dz Ea Eb Ec Ed Ee Ef Eg Eh Ei Ej Ek El Em En Eo Ep Eq Er Es Et Eu Ev Ew Ex Ey Ez Fa Fb Fc Fd Fe Ff Fg Fh Fi Fj Fk Fm Fn Fo Fp Fq Fs Ft Fu Fv Fw Fx Fy Fz Ga Gb Gc Gd Ge Gf Gg Gh Gi Gj Gk Gl Gm Gn Go Gp Gq Gr Gs Gt Gu Gv Gw Gx Gy Gz Ha Hb Hc Hd He Hf Hg:Value} {Q0:EP} (hpan:∀ c (a:Act) d v w,Q0 (.panic c) (a.put d v) w->Q0 (.panic c) a w)
  (hexit:∀ (Hh Hi Hj Hk Hl Hm Hn Ho Hp Hq Hr Hs Ht Hu Hv Hw Hx Hy Hz Ia Ib Ic Id Ie Ig Ih Ii Ij Ik Il Im Io Ip Iq Ir It Iu Iv Iw Ix Iy Iz Ja Jb Jc Jd Je Jf Jg Jh Ji Jj Jk Jl Jm Jn Jo Jp Jq Jr Js Jt Ju Jv Jw Jx Jy Jz Ka Kb Kc Kd Ke Kf Kg Kh Ki Kj Kk:Value) (av':Value) (arcs':List Ac) (w':World),Aj w' O syms st sg iv fv av' ini fin arcs'->arcs'.length<=arcs.length+1->Ta w' T lo n cap->Below T w w'->Q0 .normal ⟨#[c0,.int .i64 2,c2,.pointer (some ⟨PB,0,none⟩),c4,c5,c6,.pointer (some ⟨T,0,none⟩),.pointer (some ⟨O,0,none⟩),c9,Aa,Ab,Ad,Hh,Hi,Hj,Ah,Ak,Al,Am,An,Ao,Ap,Aq,Ar,As,Av,Aw,Ax,Ay,Az,Ba,Bb,Bc,Be,Bf,Bh,Bi,Bj,Bk,Bm,Bn,Bo,Bp,Bq,Br,Bs,Bt,Bu,Bv,Bw,Bx,By,Bz,Ca,Cb,Cc,Cd,Ce,Cf,Cg,Ch,Ci,Cj,Ck,Cl,Cm,Cn,Co,Cp,Cq,Cr,Ct,Cu,Cv,Cw,Cx,Cy,Cz,Da,Db,Dc,Dd,De,Df,Dg,Dh,Di,Dj,Dk,Dl,Dn,Dp,Dq,Dr,Dt,Du,Dv,Dw,Dx,Dy,Dz,Ea,Eb,Ec,Ed,Ee,Ef,Hk,Hl,Hm,Hn,Ho,Hp,Hq,Hr,Hs,Ht,Hu,Hv,Hw,Hx,Hy,Hz,Ia,Ib,Ic,Id,Ie,Ig,Ih,Ii,Ij,Ik,Il,Im,Io,Ip,Iq,Ir,It,Iu,Iv,Iw,Ix,Iy,Iz,Ja,Jb,Jc,Jd,Je,Jf,Jg,Jh,Ji,Jj,Jk,Jl,Jm,Jn,Jo,Jp,Jq,Jr,Js,Jt,Ju,Jv,Jw,Jx,Jy,Jz,Ka,Kb,Kc,Kd,Ke,Kf,Kg,Kh,Ki,Kj,Kk,Hg],[]⟩ w') :
  Code.wp Tryz.prog (wB 3) Q0 ⟨#[c0,.int .i64 2,c2,.pointer (some ⟨PB,0,none⟩),c4,c5,c6,.pointer (some ⟨T,0,none⟩),.pointer (some ⟨O,0,none⟩),c9,Aa,Ab,Ad,Ae,Af,Ag,Ah,Ak,Al,Am,An,Ao,Ap,Aq,Ar,As,Av,Aw,Ax,Ay,Az,Ba,Bb,Bc,Be,Bf,Bh,Bi,Bj,Bk,Bm,Bn,Bo,Bp,Bq,Br,Bs,Bt,Bu,Bv,Bw,Bx,By,Bz,Ca,Cb,Cc,Cd,Ce,Cf,Cg,Ch,Ci,Cj,Ck,Cl,Cm,Cn,Co,Cp,Cq,Cr,Ct,Cu,Cv,Cw,Cx,Cy,Cz,Da,Db,Dc,Dd,De,Df,Dg,Dh,Di,Dj,Dk,Dl,Dn,Dp,Dq,Dr,Dt,Du,Dv,Dw,Dx,Dy,Dz,Ea,Eb,Ec,Ed,Ee,Ef,Eg,Eh,Ei,Ej,Ek,El,Em,En,Eo,Ep,Eq,Er,Es,Et,Eu,Ev,Ew,Ex,Ey,Ez,Fa,Fb,Fc,Fd,Fe,Ff,Fg,Fh,Fi,Fj,Fk,Fm,Fn,Fo,Fp,Fq,Fs,Ft,Fu,Fv,Fw,Fx,Fy,Fz,Ga,Gb,Gc,Gd,Ge,Gf,Gg,Gh,Gi,Gj,Gk,Gl,Gm,Gn,Go,Gp,Gq,Gr,Gs,Gt,Gu,Gv,Gw,Gx,Gy,Gz,Ha,Hb,Hc,Hd,He,Hf,Hg],[]⟩ w:=by
 conv=>arg 2; whnf
 have hTl:=hTa.lt
 have hexit:=hid hexit
 replace hA:=hid hA
 have hO23:w.cell? ⟨O,3,none⟩=some (.int .i64 (st:Int))/\w.cell? ⟨O,2,none⟩=some (.int .i64 (syms:Int)):=⟨hA.out.om.blk.cell rfl,hA.out.om.blk.cell rfl⟩
 have hOl:=hA.out.om.blk.lt
 go_upto_region 15 with fail
 refine aut_new T lo n cap O syms st w hO23 hst hsy hTa hTO hpan ?_
 intro Kl Km Kn Ko Kp Kq Kr Ks Kt Ku Kv Kw Kx Kz La Lb Lc G x w1 hX1 hwG hx1 hx2 hx3 hx4 hx5 hT1 hf1
 have hA1:=hid (hA.out.fr hf1 (fun k hk e=>by have:=hA.out.om.lt hk; omega))
 have hb1:=hid (hf1.below (B:=T) (fun q e=>by omega) (Nat.le_of_lt hTl))
 have hP1:=hid (hP.under hb1.out hPT)
 have p2:=hP1.out.cell (i:=2) rfl
 replace hX1:=hid hX1
 replace hT1:=hid hT1
 replace hf1:=hid hf1
 clear hO23
 cases fw with
 | false =>
  go_upto_block 4 with fail
  refine aut_there O syms st G iv fv av ini fin arcs x w1 hA1.out.om hla hX1.out hpan ?_
  intro Ld Le Lf Lg Lh Li Lj Lk Ll Lm Ln Lo Lp Lq Lr Lt Lu Lv Lx Ly Lz Ma Mb Mc Md Me Mf Mg Mh Mi Mj b w5 hnb hf5
  have hA5:=hid (hA1.out.fr hf5 (fun k _ h=>h))
  have hX5:=hid (hX1.out.fr hf5 (fun h=>h))
  have hb5:=hid (hb1.out.trans (hf5.below (fun q e=>e.elim) (Nat.le_trans (Nat.le_of_lt hTl) hb1.out.size)))
  have hT5:=hid (hT1.out.fr hf5 (fun q e=>e.elim))
  have p3:=(hP1.out.fr hf5 (fun h=>h)).cell (i:=3) rfl
  replace hnb:=hid hnb
  replace hf5:=hid hf5
  have hfin:∀ av6 w6,Om w6 O syms st iv fv av6 ini fin (arcs++[x])->Fr (fun k=>k=O\/av.ownBlock=some k) w5 w6->(sg=true->b=false)->Aj w6 O syms st sg iv fv av6 ini fin (arcs++[x])/\Ta w6 T lo n cap/\Below T w w6:=fun av6 w6 hO6 hf6 hsb=>by
   have hge:∀ q,(q=O\/av.ownBlock=some q)->T<q:=fun q e=>by
    rcases e with rfl | e
    ·exact hTO
    ·have:=(hA5.out.om.arcs.lt e).1; omega
   refine ⟨⟨hO6,fun y hy=>?_,fun h=>uq_more (hA5.out.uq h) (hnb.out (hsb h))⟩,hT5.out.fr hf6 hge,hb5.out.trans (hf6.below (fun q e=>Nat.le_of_lt (hge q e)) (Nat.le_trans (Nat.le_of_lt hTl) hb5.out.size))⟩
   rcases List.mem_append.1 hy with hy | hy
   ·exact hA5.out.ok y hy
   ·rw [List.mem_singleton.1 hy]; exact ⟨hx1,hx2,hx3,hx4,hx5⟩
  replace hfin:=hid hfin
  cases sg with
  | true =>
   cases b with
   | true =>
    go_wp2_with fail
    exact hexit.out _ _ _ _ _ _ _ _ _ _ _ _ _ _ _ _ _ _ _ _ _ _ _ _ _ _ _ _ _ _ _ _ _ _ _ _ _ _ _ _ _ _ _ _ _ _ _ _ _ _ _ _ _ _ _ _ _ _ _ _ _ _ _ _ _ _ _ _ _ _ _ _ _ _ _ _ _ _ _ av arcs w5 hA5.out (by omega) hT5.out hb5.out
   | false =>
    go_upto_region 26 with fail
    refine aut_arc O syms st G iv fv av ini fin arcs x w5 hA5.out.om hla hX5.out hpan ?_
    intro Ml Mm Mn Mp Mq Mr av6 w6 hO6 hf6
    obtain ⟨r1,r2,r3⟩:=hfin.out av6 w6 hO6 hf6 (fun _=>rfl)
    replace hO6:=hid hO6
    replace hf6:=hid hf6
    go_wp2_with fail
    exact hexit.out _ _ _ _ _ _ _ _ _ _ _ _ _ _ _ _ _ _ _ _ _ _ _ _ _ _ _ _ _ _ _ _ _ _ _ _ _ _ _ _ _ _ _ _ _ _ _ _ _ _ _ _ _ _ _ _ _ _ _ _ _ _ _ _ _ _ _ _ _ _ _ _ _ _ _ _ _ _ _ av6 _ w6 r1 (by simp) r2 r3
  | false =>
   go_upto_region 26 with fail
   refine aut_arc O syms st G iv fv av ini fin arcs x w5 hA5.out.om hla hX5.out hpan ?_
   intro Ml Mm Mn Mp Mq Mr av6 w6 hO6 hf6
   obtain ⟨r1,r2,r3⟩:=hfin.out av6 w6 hO6 hf6 (fun h=>by cases h)
   replace hO6:=hid hO6
   replace hf6:=hid hf6
   go_wp2_with fail
   exact hexit.out _ _ _ _ _ _ _ _ _ _ _ _ _ _ _ _ _ _ _ _ _ _ _ _ _ _ _ _ _ _ _ _ _ _ _ _ _ _ _ _ _ _ _ _ _ _ _ _ _ _ _ _ _ _ _ _ _ _ _ _ _ _ _ _ _ _ _ _ _ _ _ _ _ _ _ _ _ _ _ av6 _ w6 r1 (by simp) r2 r3
 | true =>
  have q0:=hX1.out.cell (i:=0) rfl
  have q2:=hX1.out.cell (i:=2) rfl
  by_cases he:x.1=x.2.2.1
  ·have k1:((x.1:Int)==(x.2.2.1:Int))=true:=by rw [beq_iff_eq]; omega
   have k1':(x.1:Int)=(x.2.2.1:Int):=by omega
   replace he:=hid he
   go_wp2_with fail
   exact hexit.out _ _ _ _ _ _ _ _ _ _ _ _ _ _ _ _ _ _ _ _ _ _ _ _ _ _ _ _ _ _ _ _ _ _ _ _ _ _ _ _ _ _ _ _ _ _ _ _ _ _ _ _ _ _ _ _ _ _ _ _ _ _ _ _ _ _ _ _ _ _ _ _ _ _ _ _ _ _ _ av arcs w1 hA1.out (by omega) hT1.out hb1.out
  ·have k1:((x.1:Int)==(x.2.2.1:Int))=false:=by rw [beq_eq_false_iff_ne]; omega
   have k1':¬ (x.1:Int)=(x.2.2.1:Int):=by omega
   replace he:=hid he
   by_cases hg:x.2.2.1<x.1
   ·have k2:(x.2.2.1:Int)<(x.1:Int):=by omega
    have f0:=hX1.out.free 0
    have f2:=hX1.out.free 2
    have hX2:Hid (Bl G (acC (x.2.2.1,x.2.1,x.1,x.2.2.2)) 54 ((w1.setCell ⟨G,0,none⟩ (.int .i64 (x.2.2.1:Int))).setCell ⟨G,2,none⟩ (.int .i64 (x.1:Int)))):=hid (by rw [<-acC_swap]; exact (hX1.out.put 0 _).put 2 _)
    have hf2:Fr (fun k=>k=G) w1 ((w1.setCell ⟨G,0,none⟩ (.int .i64 (x.2.2.1:Int))).setCell ⟨G,2,none⟩ (.int .i64 (x.1:Int))):=(Fr.set (T:=fun k=>k=G) w1 (p:=⟨G,0,none⟩) rfl _).trans (Fr.set (T:=fun k=>k=G) _ (p:=⟨G,2,none⟩) rfl _)
    have hA2:=hid (hA1.out.fr hf2 (fun k hk e=>by have:=(hA.out.om.lt hk).2; omega))
    have hb2:=hid (hb1.out.trans (hf2.below (B:=T) (fun q e=>by omega) (by have:=hb1.out.size; omega)))
    have hT2:=hid (hT1.out.fr hf2 (fun q e=>by omega))
    have hP2:=hid (hP.under hb2.out hPT)
    replace hf2:=hid hf2
    go_upto_block 4 with fail
    refine aut_there O syms st G iv fv av ini fin arcs (x.2.2.1,x.2.1,x.1,x.2.2.2) _ hA2.out.om hla hX2.out hpan ?_
    intro Ld Le Lf Lg Lh Li Lj Lk Ll Lm Ln Lo Lp Lq Lr Lt Lu Lv Lx Ly Lz Ma Mb Mc Md Me Mf Mg Mh Mi Mj b w5 hnb hf5
    have hA5:=hid (hA2.out.fr hf5 (fun k _ h=>h))
    have hX5:=hid (hX2.out.fr hf5 (fun h=>h))
    have hb5:=hid (hb2.out.trans (hf5.below (fun q e=>e.elim) (Nat.le_trans (Nat.le_of_lt hTl) hb2.out.size)))
    have hT5:=hid (hT2.out.fr hf5 (fun q e=>e.elim))
    have p3:=(hP2.out.fr hf5 (fun h=>h)).cell (i:=3) rfl
    replace hnb:=hid hnb
    replace hf5:=hid hf5
    have hfin:∀ av6 w6,Om w6 O syms st iv fv av6 ini fin (arcs++[(x.2.2.1,x.2.1,x.1,x.2.2.2)])->Fr (fun k=>k=O\/av.ownBlock=some k) w5 w6->(sg=true->b=false)->Aj w6 O syms st sg iv fv av6 ini fin (arcs++[(x.2.2.1,x.2.1,x.1,x.2.2.2)])/\Ta w6 T lo n cap/\Below T w w6:=fun av6 w6 hO6 hf6 hsb=>by
     have hge:∀ q,(q=O\/av.ownBlock=some q)->T<q:=fun q e=>by
      rcases e with rfl | e
      ·exact hTO
      ·have:=(hA5.out.om.arcs.lt e).1; omega
     refine ⟨⟨hO6,fun y hy=>?_,fun h=>uq_more (hA5.out.uq h) (hnb.out (hsb h))⟩,hT5.out.fr hf6 hge,hb5.out.trans (hf6.below (fun q e=>Nat.le_of_lt (hge q e)) (Nat.le_trans (Nat.le_of_lt hTl) hb5.out.size))⟩
     rcases List.mem_append.1 hy with hy | hy
     ·exact hA5.out.ok y hy
     ·rw [List.mem_singleton.1 hy]; exact ⟨hx2,hx1,hx3,hx4,hx5⟩
    replace hfin:=hid hfin
    cases sg with
    | true =>
     cases b with
     | true =>
      go_wp2_with fail
      exact hexit.out _ _ _ _ _ _ _ _ _ _ _ _ _ _ _ _ _ _ _ _ _ _ _ _ _ _ _ _ _ _ _ _ _ _ _ _ _ _ _ _ _ _ _ _ _ _ _ _ _ _ _ _ _ _ _ _ _ _ _ _ _ _ _ _ _ _ _ _ _ _ _ _ _ _ _ _ _ _ _ av arcs w5 hA5.out (by omega) hT5.out hb5.out
     | false =>
      go_upto_region 26 with fail
      refine aut_arc O syms st G iv fv av ini fin arcs (x.2.2.1,x.2.1,x.1,x.2.2.2) w5 hA5.out.om hla hX5.out hpan ?_
      intro Ml Mm Mn Mp Mq Mr av6 w6 hO6 hf6
      obtain ⟨r1,r2,r3⟩:=hfin.out av6 w6 hO6 hf6 (fun _=>rfl)
      replace hO6:=hid hO6
      replace hf6:=hid hf6
      go_wp2_with fail
      exact hexit.out _ _ _ _ _ _ _ _ _ _ _ _ _ _ _ _ _ _ _ _ _ _ _ _ _ _ _ _ _ _ _ _ _ _ _ _ _ _ _ _ _ _ _ _ _ _ _ _ _ _ _ _ _ _ _ _ _ _ _ _ _ _ _ _ _ _ _ _ _ _ _ _ _ _ _ _ _ _ _ av6 _ w6 r1 (by simp) r2 r3
    | false =>
     go_upto_region 26 with fail
     refine aut_arc O syms st G iv fv av ini fin arcs (x.2.2.1,x.2.1,x.1,x.2.2.2) w5 hA5.out.om hla hX5.out hpan ?_
     intro Ml Mm Mn Mp Mq Mr av6 w6 hO6 hf6
     obtain ⟨r1,r2,r3⟩:=hfin.out av6 w6 hO6 hf6 (fun h=>by cases h)
     replace hO6:=hid hO6
     replace hf6:=hid hf6
     go_wp2_with fail
     exact hexit.out _ _ _ _ _ _ _ _ _ _ _ _ _ _ _ _ _ _ _ _ _ _ _ _ _ _ _ _ _ _ _ _ _ _ _ _ _ _ _ _ _ _ _ _ _ _ _ _ _ _ _ _ _ _ _ _ _ _ _ _ _ _ _ _ _ _ _ _ _ _ _ _ _ _ _ _ _ _ _ av6 _ w6 r1 (by simp) r2 r3
   ·have k2:¬ (x.2.2.1:Int)<(x.1:Int):=by omega
    go_upto_block 4 with fail
    refine aut_there O syms st G iv fv av ini fin arcs x w1 hA1.out.om hla hX1.out hpan ?_
    intro Ld Le Lf Lg Lh Li Lj Lk Ll Lm Ln Lo Lp Lq Lr Lt Lu Lv Lx Ly Lz Ma Mb Mc Md Me Mf Mg Mh Mi Mj b w5 hnb hf5
    have hA5:=hid (hA1.out.fr hf5 (fun k _ h=>h))
    have hX5:=hid (hX1.out.fr hf5 (fun h=>h))
    have hb5:=hid (hb1.out.trans (hf5.below (fun q e=>e.elim) (Nat.le_trans (Nat.le_of_lt hTl) hb1.out.size)))
    have hT5:=hid (hT1.out.fr hf5 (fun q e=>e.elim))
    have p3:=(hP1.out.fr hf5 (fun h=>h)).cell (i:=3) rfl
    replace hnb:=hid hnb
    replace hf5:=hid hf5
    have hfin:∀ av6 w6,Om w6 O syms st iv fv av6 ini fin (arcs++[x])->Fr (fun k=>k=O\/av.ownBlock=some k) w5 w6->(sg=true->b=false)->Aj w6 O syms st sg iv fv av6 ini fin (arcs++[x])/\Ta w6 T lo n cap/\Below T w w6:=fun av6 w6 hO6 hf6 hsb=>by
     have hge:∀ q,(q=O\/av.ownBlock=some q)->T<q:=fun q e=>by
      rcases e with rfl | e
      ·exact hTO
      ·have:=(hA5.out.om.arcs.lt e).1; omega
     refine ⟨⟨hO6,fun y hy=>?_,fun h=>uq_more (hA5.out.uq h) (hnb.out (hsb h))⟩,hT5.out.fr hf6 hge,hb5.out.trans (hf6.below (fun q e=>Nat.le_of_lt (hge q e)) (Nat.le_trans (Nat.le_of_lt hTl) hb5.out.size))⟩
     rcases List.mem_append.1 hy with hy | hy
     ·exact hA5.out.ok y hy
     ·rw [List.mem_singleton.1 hy]; exact ⟨hx1,hx2,hx3,hx4,hx5⟩
    replace hfin:=hid hfin
    cases sg with
    | true =>
     cases b with
     | true =>
      go_wp2_with fail
      exact hexit.out _ _ _ _ _ _ _ _ _ _ _ _ _ _ _ _ _ _ _ _ _ _ _ _ _ _ _ _ _ _ _ _ _ _ _ _ _ _ _ _ _ _ _ _ _ _ _ _ _ _ _ _ _ _ _ _ _ _ _ _ _ _ _ _ _ _ _ _ _ _ _ _ _ _ _ _ _ _ _ av arcs w5 hA5.out (by omega) hT5.out hb5.out
     | false =>
      go_upto_region 26 with fail
      refine aut_arc O syms st G iv fv av ini fin arcs x w5 hA5.out.om hla hX5.out hpan ?_
      intro Ml Mm Mn Mp Mq Mr av6 w6 hO6 hf6
      obtain ⟨r1,r2,r3⟩:=hfin.out av6 w6 hO6 hf6 (fun _=>rfl)
      replace hO6:=hid hO6
      replace hf6:=hid hf6
      go_wp2_with fail
      exact hexit.out _ _ _ _ _ _ _ _ _ _ _ _ _ _ _ _ _ _ _ _ _ _ _ _ _ _ _ _ _ _ _ _ _ _ _ _ _ _ _ _ _ _ _ _ _ _ _ _ _ _ _ _ _ _ _ _ _ _ _ _ _ _ _ _ _ _ _ _ _ _ _ _ _ _ _ _ _ _ _ av6 _ w6 r1 (by simp) r2 r3
    | false =>
     go_upto_region 26 with fail
     refine aut_arc O syms st G iv fv av ini fin arcs x w5 hA5.out.om hla hX5.out hpan ?_
     intro Ml Mm Mn Mp Mq Mr av6 w6 hO6 hf6
     obtain ⟨r1,r2,r3⟩:=hfin.out av6 w6 hO6 hf6 (fun h=>by cases h)
     replace hO6:=hid hO6
     replace hf6:=hid hf6
     go_wp2_with fail
     exact hexit.out _ _ _ _ _ _ _ _ _ _ _ _ _ _ _ _ _ _ _ _ _ _ _ _ _ _ _ _ _ _ _ _ _ _ _ _ _ _ _ _ _ _ _ _ _ _ _ _ _ _ _ _ _ _ _ _ _ _ _ _ _ _ _ _ _ _ _ _ _ _ _ _ _ _ _ _ _ _ _ av6 _ w6 r1 (by simp) r2 r3
end
section
open Go.RowKit
theorem aut_all (T:Nat) (lo:OA) (n cap:Nat) (PB O syms st:Nat) (kst ksy:Int) (fw sg:Bool) (iv fv:Value) (ini fin:List Tw) (w:World) (hP:Bl PB [.int .i64 kst,.int .i64 ksy,.bool fw,.bool sg,.slice lo n cap] 24 w) (hTa:Ta w T lo n cap) (hPT:PB<T) (hTO:T<O) (hst:st<=64) (hsy:1<=syms/\syms<=32) (hA:Aj w O syms st sg iv fv (.slice none 0 0) ini fin [])
  {c0 c2 c4 c5 c6 c9 Aa Ab Ad Ae Af Ag Ah Ak Al Am An Ao Ap Aq Ar As Av Aw Ax Ay Az Ba Bb Bc Be Bf Bh Bi Bj Bk Bm Bn Bo Bp Bq Br Bs Bt Bu Bv Bw Bx By Bz Ca Cb Cc Cd Ce Cf Cg Ch Ci Cj Ck Cl Cm Cn Co Cp Cq Cr Ct Cu Cv Cw Cx Cy Cz Da Db Dc Dd De Df Dg Dh Di Dj Dk Dl Dn Dp Dq Dr Dt Du Dv Dw Dx Dy Dz Ea Eb Ec Ed Ee Ef Eg Eh Ei Ej Ek El Em En Eo Ep Eq Er Es Et Eu Ev Ew Ex Ey Ez Fa Fb Fc Fd Fe Ff Fg Fh Fi Fj Fk Fm Fn Fo Fp Fq Fs Ft Fu Fv Fw Fx Fy Fz Ga Gb Gc Gd Ge Gf Gg Gh Gi Gj Gk Gl Gm Gn Go Gp Gq Gr Gs Gt Gu Gv Gw Gx Gy Gz Ha Hb Hc Hd He Hf:Value} {Q0:EP} (hpan:∀ c (a:Act) d v w,Q0 (.panic c) (a.put d v) w->Q0 (.panic c) a w)
  (hexit:∀ (Hg Hh Hi Hj Hk Hl Hm Hn Ho Hp Hq Hr Hs Ht Hu Hv Hw Hx Hy Hz Ia Ib Ic Id Ie Ig Ih Ii Ij Ik Il Im Io Ip Iq Ir It Iu Iv Iw Ix Iy Iz Ja Jb Jc Jd Je Jf Jg Jh Ji Jj Jk Jl Jm Jn Jo Jp Jq Jr Js Jt Ju Jv Jw Jx Jy Jz Ka Kb Kc Kd Ke Kf Kg Kh Ki Kj Kk Kl Km Kn Ko Kp Kq Kr Ks Kt Ku Kv Kw Kx Kz La Lb Lc Ld Le Lf Lg:Value) (av':Value) (arcs':List Ac) (w':World),arcs'.length<=14->Aj w' O syms st sg iv fv av' ini fin arcs'->Below T w w'->Q0 .normal ⟨#[c0,.int .i64 2,c2,.pointer (some ⟨PB,0,none⟩),c4,c5,c6,.pointer (some ⟨T,0,none⟩),.pointer (some ⟨O,0,none⟩),c9,Aa,Ab,Hg,Hh,Hi,Hj,Ag,Ah,Ak,Al,Am,An,Ao,Ap,Aq,Ar,As,Av,Aw,Ax,Ay,Az,Ba,Bb,Bc,Be,Bf,Bh,Bi,Bj,Bk,Bm,Bn,Bo,Bp,Bq,Br,Bs,Bt,Bu,Bv,Bw,Bx,By,Bz,Ca,Cb,Cc,Cd,Ce,Cf,Cg,Ch,Ci,Cj,Ck,Cl,Cm,Cn,Co,Cp,Cq,Cr,Ct,Cu,Cv,Cw,Cx,Cy,Cz,Da,Db,Dc,Dd,De,Df,Dg,Hk,Hl,Hm,Hn,Ho,Hp,Hq,Hr,Hs,Ht,Hu,Hv,Hw,Hx,Hy,Hz,Ia,Ib,Ic,Id,Ie,Ig,Ih,Ii,Ij,Ik,Il,Im,Io,Ip,Iq,Ir,It,Iu,Iv,Iw,Ix,Iy,Iz,Ja,Jb,Jc,Jd,Je,Jf,Jg,Jh,Ji,Jj,Jk,Jl,Jm,Jn,Jo,Jp,Jq,Jr,Js,Jt,Ju,Jv,Jw,Jx,Jy,Jz,Ka,Kb,Kc,Kd,Ke,Kf,Kg,Kh,Ki,Kj,Kk,Kl,Km,Kn,Ko,Kp,Kq,Kr,Ks,Kt,Ku,Kv,Kw,Kx,Kz,La,Lb,Lc,Ld,Le,Lf,Lg,Hf],[]⟩ w') :
  Code.wp Tryz.prog (wB 2) Q0 ⟨#[c0,.int .i64 2,c2,.pointer (some ⟨PB,0,none⟩),c4,c5,c6,.pointer (some ⟨T,0,none⟩),.pointer (some ⟨O,0,none⟩),c9,Aa,Ab,.int .i64 0,Ad,Ae,Af,Ag,Ah,Ak,Al,Am,An,Ao,Ap,Aq,Ar,As,Av,Aw,Ax,Ay,Az,Ba,Bb,Bc,Be,Bf,Bh,Bi,Bj,Bk,Bm,Bn,Bo,Bp,Bq,Br,Bs,Bt,Bu,Bv,Bw,Bx,By,Bz,Ca,Cb,Cc,Cd,Ce,Cf,Cg,Ch,Ci,Cj,Ck,Cl,Cm,Cn,Co,Cp,Cq,Cr,Ct,Cu,Cv,Cw,Cx,Cy,Cz,Da,Db,Dc,Dd,De,Df,Dg,Dh,Di,Dj,Dk,Dl,Dn,Dp,Dq,Dr,Dt,Du,Dv,Dw,Dx,Dy,Dz,Ea,Eb,Ec,Ed,Ee,Ef,Eg,Eh,Ei,Ej,Ek,El,Em,En,Eo,Ep,Eq,Er,Es,Et,Eu,Ev,Ew,Ex,Ey,Ez,Fa,Fb,Fc,Fd,Fe,Ff,Fg,Fh,Fi,Fj,Fk,Fm,Fn,Fo,Fp,Fq,Fs,Ft,Fu,Fv,Fw,Fx,Fy,Fz,Ga,Gb,Gc,Gd,Ge,Gf,Gg,Gh,Gi,Gj,Gk,Gl,Gm,Gn,Go,Gp,Gq,Gr,Gs,Gt,Gu,Gv,Gw,Gx,Gy,Gz,Ha,Hb,Hc,Hd,He,Hf],[]⟩ w:=by
 conv=>arg 2; whnf
 have hexit:=hid hexit
 have hTl:=hTa.lt
 replace hA:=hid hA
 replace hTa:=hid hTa
 go_wp2_with fail
 go_simp
 go_loopw [12] (fun kv wr=>∃ (k:Nat) (av1:Value) (arcs1:List Ac),k<=14/\kv=.int .i64 (k:Int)/\arcs1.length<=k/\Aj wr O syms st sg iv fv av1 ini fin arcs1/\Ta wr T lo n cap/\Below T w wr) (fun kv _=>14-(intOf kv).toNat)
 case atStart=>exact ⟨0,_,[],Nat.zero_le _,rfl,by simp,hA.out,hTa.out,Below.refl _ _⟩
 case round =>
  obtain ⟨k,av1,arcs1,hk,rfl,hla,hA1,hT1,hb1⟩:=hrel
  have y3:=hA1.om.blk.cell (i:=3) rfl
  replace hA1:=hid hA1
  replace hT1:=hid hT1
  replace hb1:=hid hb1
  go_upto_region 13 with fail
  refine aut_test T lo n cap O k st wr y3 hT1.out hpan ?_
  intro Lh Li Lj Lk Ll Lm Ln Lo Lp Lq Lr Lt Lu Lv Lx Ly Lz Ma b w2 hb2 hf2
  have hA2:=hid (hA1.out.fr hf2 (fun k _ h=>h))
  have hT2:=hid (hT1.out.fr hf2 (fun q e=>e.elim))
  have hbw2:=hid (hb1.out.trans (hf2.below (fun q e=>e.elim) (Nat.le_trans (Nat.le_of_lt hTl) hb1.out.size)))
  replace hf2:=hid hf2
  replace hla:=hid hla
  clear y3
  cases b with
  | true =>
   obtain ⟨hst1,hk14⟩:=hb2 rfl
   clear hb2
   go_upto_block 3 with fail
   refine aut_turn T lo n cap PB O syms st kst ksy fw sg iv fv av1 ini fin arcs1 w2 (hP.under hbw2.out hPT) hT2.out hPT hTO ⟨hst1,hst⟩ hsy (by have:=hla.out; omega) hA2.out hpan ?_
   intro Mb Mc Md Me Mf Mg Mh Mi Mj Ml Mm Mn Mp Mq Mr Ms Mt Mu Mw Mx My Mz Na Nb Nc Nd Ne Ng Nh Ni Nj Nk Nl Nm Nn Np Nq Nr Ns Nt Nu Nv Nw Nx Ny Nz Oa Ob Oc Od Oe Og Oh Oi Oj Ok Ol Oo Op Oq Os Ot Ou Ov Ow Ox Oy Oz Pa Pb Pc Pd Pe Pf Pg Ph Pi Pj Pk av3 arcs3 w3 hA3 hl3 hT3 hb3
   have hA3:=hid hA3
   have hT3:=hid hT3
   have hb3:=hid (hbw2.out.trans hb3)
   have hl3:=hid (Nat.le_trans hl3 (Nat.succ_le_succ hla.out))
   go_wp2_with fail
   go_roundw
   case rel=>exact ⟨k+1,av3,arcs3,by omega,by go_num,hl3.out,hA3.out,hT3.out,hb3.out⟩
   case measure=>simp [intOf]; omega
  | false =>
   clear hb2
   go_wp2_with fail
   exact hexit.out _ _ _ _ _ _ _ _ _ _ _ _ _ _ _ _ _ _ _ _ _ _ _ _ _ _ _ _ _ _ _ _ _ _ _ _ _ _ _ _ _ _ _ _ _ _ _ _ _ _ _ _ _ _ _ _ _ _ _ _ _ _ _ _ _ _ _ _ _ _ _ _ _ _ _ _ _ _ _ _ _ _ _ _ _ _ _ _ _ _ _ _ _ _ _ _ _ _ _ _ _ av1 arcs1 w2 (Nat.le_trans hla.out hk) hA2.out hbw2.out
end
section
open Go.RowKit
theorem aut_var (T:Nat) (lo:OA) (n cap:Nat) (PB most:Nat) (kst ksy:Int) (fw sg:Bool) (w:World) (hP:Bl PB [.int .i64 kst,.int .i64 ksy,.bool fw,.bool sg,.slice lo n cap] 24 w) (hm:most<=60)
  {c0 c4 c5 c6 c7 c8 c9 Aa Ab Ad Ae Af Ag Ah Ak Al Am An Ao Ap Aq Ar As Av Aw Ax Ay Az Ba Bb Bc Be Bf Bh Bi Bj Bk Bm Bn Bo Bp Bq Br Bs Bt Bu Bv Bw Bx By Bz Ca Cb Cc Cd Ce Cf Cg Ch Ci Cj Ck Cl Cm Cn Co Cp Cq Cr Ct Cu Cv Cw Cx Cy Cz Da Db Dc Dd De Df Dg Dh Di Dj Dk Dl Dn Dp Dq Dr Dt Du Dv Dw Dx Dy Dz Ea Eb Ec Ed Ee Ef Eg Eh Ei Ej Ek El Em En Eo Ep Eq Er Es Et Eu Ev Ew Ex Ey Ez Fa Fb Fc Fd Fe Ff Fg Fh Fi Fj Fk Fm Fn Fo Fp Fq Fs Ft Fu Fv Fw Fx Fy Fz Ga Gb Gc Gd Ge Gf Gg Gh Gi Gj Gk Gl Gm Gn Go Gp Gq Gr Gs Gt Gu Gv Gw Gx Gy Gz Ha Hb Hc Hd He Hf Hg:Value} {Q0:EP} (hpan:∀ c (a:Act) d v w,Q0 (.panic c) (a.put d v) w->Q0 (.panic c) a w)
  (hexit:∀ (Hh Hi Hj Hk Hl Hm Hn Ho Hp Hq Hr Hs:Value) (G syms st:Nat) (w':World),Om w' G syms st (.slice none 0 0) (.slice none 0 0) (.slice none 0 0) [] [] []->w.heap.size<=G->(1<=syms/\syms<=3)->st<=most->Below w.heap.size w w'->Q0 .normal ⟨#[c0,.int .i64 2,.int .i64 (most:Int),.pointer (some ⟨PB,0,none⟩),c4,c5,c6,c7,.pointer (some ⟨G,0,none⟩),c9,Aa,Ab,Ad,Ae,Af,Ag,Ah,Ak,Al,Am,Hh,Hi,Hj,Hk,Hl,Hm,Hn,Ho,Hp,Hq,Hr,Hs,Bb,Bc,Be,Bf,Bh,Bi,Bj,Bk,Bm,Bn,Bo,Bp,Bq,Br,Bs,Bt,Bu,Bv,Bw,Bx,By,Bz,Ca,Cb,Cc,Cd,Ce,Cf,Cg,Ch,Ci,Cj,Ck,Cl,Cm,Cn,Co,Cp,Cq,Cr,Ct,Cu,Cv,Cw,Cx,Cy,Cz,Da,Db,Dc,Dd,De,Df,Dg,Dh,Di,Dj,Dk,Dl,Dn,Dp,Dq,Dr,Dt,Du,Dv,Dw,Dx,Dy,Dz,Ea,Eb,Ec,Ed,Ee,Ef,Eg,Eh,Ei,Ej,Ek,El,Em,En,Eo,Ep,Eq,Er,Es,Et,Eu,Ev,Ew,Ex,Ey,Ez,Fa,Fb,Fc,Fd,Fe,Ff,Fg,Fh,Fi,Fj,Fk,Fm,Fn,Fo,Fp,Fq,Fs,Ft,Fu,Fv,Fw,Fx,Fy,Fz,Ga,Gb,Gc,Gd,Ge,Gf,Gg,Gh,Gi,Gj,Gk,Gl,Gm,Gn,Go,Gp,Gq,Gr,Gs,Gt,Gu,Gv,Gw,Gx,Gy,Gz,Ha,Hb,Hc,Hd,He,Hf,Hg],[]⟩ w') :
  Code.wp Tryz.prog (wR 2) Q0 ⟨#[c0,.int .i64 2,.int .i64 (most:Int),.pointer (some ⟨PB,0,none⟩),c4,c5,c6,c7,c8,c9,Aa,Ab,Ad,Ae,Af,Ag,Ah,Ak,Al,Am,An,Ao,Ap,Aq,Ar,As,Av,Aw,Ax,Ay,Az,Ba,Bb,Bc,Be,Bf,Bh,Bi,Bj,Bk,Bm,Bn,Bo,Bp,Bq,Br,Bs,Bt,Bu,Bv,Bw,Bx,By,Bz,Ca,Cb,Cc,Cd,Ce,Cf,Cg,Ch,Ci,Cj,Ck,Cl,Cm,Cn,Co,Cp,Cq,Cr,Ct,Cu,Cv,Cw,Cx,Cy,Cz,Da,Db,Dc,Dd,De,Df,Dg,Dh,Di,Dj,Dk,Dl,Dn,Dp,Dq,Dr,Dt,Du,Dv,Dw,Dx,Dy,Dz,Ea,Eb,Ec,Ed,Ee,Ef,Eg,Eh,Ei,Ej,Ek,El,Em,En,Eo,Ep,Eq,Er,Es,Et,Eu,Ev,Ew,Ex,Ey,Ez,Fa,Fb,Fc,Fd,Fe,Ff,Fg,Fh,Fi,Fj,Fk,Fm,Fn,Fo,Fp,Fq,Fs,Ft,Fu,Fv,Fw,Fx,Fy,Fz,Ga,Gb,Gc,Gd,Ge,Gf,Gg,Gh,Gi,Gj,Gk,Gl,Gm,Gn,Go,Gp,Gq,Gr,Gs,Gt,Gu,Gv,Gw,Gx,Gy,Gz,Ha,Hb,Hc,Hd,He,Hf,Hg],[]⟩ w:=by
 conv=>arg 2; whnf
 have hdr:=(Below.refl w.heap.size w).drew
 have y0:=(hP.next hdr).cell (i:=0) rfl
 have y1:=(hP.next hdr).cell (i:=1) rfl
 obtain ⟨s1,hs1⟩:∃ s1:Nat,ksy%3=(s1:Int):=⟨(ksy%3).toNat,by omega⟩
 obtain ⟨s2,hs2⟩:∃ s2:Nat,kst%((most:Int)+1)=(s2:Int):=⟨(kst%((most:Int)+1)).toNat,by have:=Int.emod_nonneg kst (show ((most:Int)+1)≠0 by omega); omega⟩
 have hl1:s1<3:=by omega
 have hl2:s2<most+1:=by have:=Int.emod_lt_of_pos kst (show (0:Int)<(most:Int)+1 by omega); omega
 have h1e:=hid hs1
 have h2e:=hid hs2
 have hwm:IntKind.i64.wrap ((most:Int)+1)=(most:Int)+1:=by rw [IntKind.wrap_i64]; omega
 have hws:IntKind.i64.wrap (1+(s1:Int))=1+(s1:Int):=by rw [IntKind.wrap_i64]; omega
 clear hs1 hs2
 have hS:w.drew.cell? ⟨PB,1,none⟩=some (.int .i64 ksy)/\w.drew.cell? ⟨PB,0,none⟩=some (.int .i64 kst):=⟨y1,y0⟩
 refine wp_region_D (fun w'=>w'.cell? ⟨PB,1,none⟩=some (.int .i64 ksy)/\w'.cell? ⟨PB,0,none⟩=some (.int .i64 kst)) [13] (by kernel_rfl) ?_
 refine tkBp 0 hpan (some 20) rfl rfl hS ?_
 refine tkBp 1 hpan (some 21) rfl rfl hS ?_
 refine tkBp 2 hpan (some 22) rfl rfl hS ?_
 refine tkBl 3 hpan (some 23) (v:=?_) rfl rfl ?_ hS ?_
 rotate_left
 ·intro wz hw; refine exec_loadI PB 1 ?_ (.int .i64 ksy) hw.1; go_simp
 refine tkBp 6 hpan (some 26) rfl rfl hS ?_
 refine tkBl 7 hpan (some 27) (v:=?_) rfl rfl ?_ hS ?_
 rotate_left
 ·intro wz hw; refine exec_loadI PB 0 ?_ (.int .i64 kst) hw.2; go_simp
 refine tkBp 8 hpan (some 28) rfl rfl hS ?_
 refine tkBp 9 hpan (some 29) rfl rfl hS ?_
 go_simp
 refine wpAnyD_two (i:=4) (j:=12) ?_ rfl rfl (fun KK hKK=>?_) (fun KK hKK=>?_)
 ·kernel_rfl
 ·skip
  go_simp
  go_at_call 19
  refine (within_any ksy 3 (by omega) (by omega) _).mono ?_; rintro e w2 ⟨rfl,rfl⟩
  rw [h1e.out]
  try go_simp
  refine hKK _ _ ⟨fun _=>(hS),?_⟩; clear hKK KK
  refine tkBp 5 hpan (some 25) rfl rfl (hS) ?_
  refine wpAnyD_two (i:=10) (j:=12) ?_ rfl rfl (fun KK hKK=>?_) (fun KK hKK=>?_)
  ·kernel_rfl
  ·skip
   go_simp
   go_at_call 19
   refine (within_any kst ((most:Int)+1) (by omega) (by omega) _).mono ?_; rintro e w2 ⟨rfl,rfl⟩
   rw [h2e.out]
   try go_simp
   refine hKK _ _ ⟨fun _=>((hS)),?_⟩; clear hKK KK
   refine tkBp 11 hpan (some 31) rfl rfl ((hS)) ?_
   refine wpO (i:=12) rfl fun KK hKK=>?_
   rw [if_pos (by kernel_rfl)]
   with_reducible refine op_allocB 30 ?_ [.int .i64 0,.slice none 0 0,.int .i64 0,.int .i64 0,.slice none 0 0,.slice none 0 0,.slice none 0 0] ?_ ?_
   ·rfl
   ·exact fun _=>by kernel_rfl
   intro wg G hG hbg hzg
   have hF:=hid (below_chain hdr hbg)
   have hwG:w.heap.size<=G:=hzg
   have hS2:wg.cell? ⟨PB,1,none⟩=some (.int .i64 ksy)/\wg.cell? ⟨PB,0,none⟩=some (.int .i64 kst):=⟨cell_later hbg hS.1,cell_later hbg hS.2⟩
   refine hKK _ _ ⟨fun _=>(hS2),?_⟩; clear hKK KK
   refine wpO (i:=13) rfl fun KK hKK=>?_
   rw [if_pos (by rfl)]
   with_reducible refine op_storeB 30 (.tmp 8) (.tmp 31) ?_ G 30 [.int .i64 0,.slice none 0 0,.int .i64 0,.int .i64 0,.slice none 0 0,.slice none 0 0,.slice none 0 0] hG ?_ (auC (1+s1) s2 (.slice none 0 0) (.slice none 0 0) (.slice none 0 0)) ?_ ?_ ?_ ?_ ?_
   ·rfl
   ·go_simp
   ·rfl
   ·show Value.agg _=Value.agg _; rw [show (1+(s1:Int))=((1+s1:Nat):Int) by omega]; try rfl
   ·exact auC_1 _ _ _ _ _ _ _ _ _ _ _
   ·exact Tryz.sizeAuto
   intro wz hGz hfz
   refine lN hKK ?_; clear hKK KK
   refine wpAnyD_done (by kernel_rfl) ?_ _
   refine hexit _ _ _ _ _ _ _ _ _ _ _ _ G (1+s1) s2 wz ⟨hGz,FO.nil _ _ _ _,FO.nil _ _ _ _,FO.nil _ _ _ _,fun g hg e=>by cases e⟩ hwG (by omega) (by omega) (hF.out.trans (hfz.below (B:=w.heap.size) (fun q e=>by subst e; exact hwG) hF.out.size))
  ·skip
   rw [if_pos (by kernel_rfl)]
   with_reducible refine op_allocB 30 ?_ [.int .i64 0,.slice none 0 0,.int .i64 0,.int .i64 0,.slice none 0 0,.slice none 0 0,.slice none 0 0] ?_ ?_
   ·rfl
   ·exact fun _=>by kernel_rfl
   intro wg G hG hbg hzg
   have hF:=hid (below_chain hdr hbg)
   have hwG:w.heap.size<=G:=hzg
   have hS2:wg.cell? ⟨PB,1,none⟩=some (.int .i64 ksy)/\wg.cell? ⟨PB,0,none⟩=some (.int .i64 kst):=⟨cell_later hbg hS.1,cell_later hbg hS.2⟩
   refine hKK _ _ ⟨fun _=>(hS2),?_⟩; clear hKK KK
   refine wpO (i:=10) rfl fun KK hKK=>?_
   go_simp
   go_at_call 19
   refine (within_any kst ((most:Int)+1) (by omega) (by omega) _).mono ?_; rintro e w2 ⟨rfl,rfl⟩
   rw [h2e.out]
   try go_simp
   refine hKK _ _ ⟨fun _=>((hS2)),?_⟩; clear hKK KK
   refine tkBp 11 hpan (some 31) rfl rfl ((hS2)) ?_
   refine wpO (i:=13) rfl fun KK hKK=>?_
   rw [if_pos (by rfl)]
   with_reducible refine op_storeB 30 (.tmp 8) (.tmp 31) ?_ G 30 [.int .i64 0,.slice none 0 0,.int .i64 0,.int .i64 0,.slice none 0 0,.slice none 0 0,.slice none 0 0] hG ?_ (auC (1+s1) s2 (.slice none 0 0) (.slice none 0 0) (.slice none 0 0)) ?_ ?_ ?_ ?_ ?_
   ·rfl
   ·go_simp
   ·rfl
   ·show Value.agg _=Value.agg _; rw [show (1+(s1:Int))=((1+s1:Nat):Int) by omega]; try rfl
   ·exact auC_1 _ _ _ _ _ _ _ _ _ _ _
   ·exact Tryz.sizeAuto
   intro wz hGz hfz
   refine lN hKK ?_; clear hKK KK
   refine wpAnyD_done (by kernel_rfl) ?_ _
   refine hexit _ _ _ _ _ _ _ _ _ _ _ _ G (1+s1) s2 wz ⟨hGz,FO.nil _ _ _ _,FO.nil _ _ _ _,FO.nil _ _ _ _,fun g hg e=>by cases e⟩ hwG (by omega) (by omega) (hF.out.trans (hfz.below (B:=w.heap.size) (fun q e=>by subst e; exact hwG) hF.out.size))
 ·skip
  rw [if_pos (by kernel_rfl)]
  with_reducible refine op_allocB 30 ?_ [.int .i64 0,.slice none 0 0,.int .i64 0,.int .i64 0,.slice none 0 0,.slice none 0 0,.slice none 0 0] ?_ ?_
  ·rfl
  ·exact fun _=>by kernel_rfl
  intro wg G hG hbg hzg
  have hF:=hid (below_chain hdr hbg)
  have hwG:w.heap.size<=G:=hzg
  have hS2:wg.cell? ⟨PB,1,none⟩=some (.int .i64 ksy)/\wg.cell? ⟨PB,0,none⟩=some (.int .i64 kst):=⟨cell_later hbg hS.1,cell_later hbg hS.2⟩
  refine hKK _ _ ⟨fun _=>(hS2),?_⟩; clear hKK KK
  refine wpO (i:=4) rfl fun KK hKK=>?_
  go_simp
  go_at_call 19
  refine (within_any ksy 3 (by omega) (by omega) _).mono ?_; rintro e w2 ⟨rfl,rfl⟩
  rw [h1e.out]
  try go_simp
  refine hKK _ _ ⟨fun _=>((hS2)),?_⟩; clear hKK KK
  refine tkBp 5 hpan (some 25) rfl rfl ((hS2)) ?_
  refine wpO (i:=10) rfl fun KK hKK=>?_
  go_simp
  go_at_call 19
  refine (within_any kst ((most:Int)+1) (by omega) (by omega) _).mono ?_; rintro e w2 ⟨rfl,rfl⟩
  rw [h2e.out]
  try go_simp
  refine hKK _ _ ⟨fun _=>(((hS2))),?_⟩; clear hKK KK
  refine tkBp 11 hpan (some 31) rfl rfl (((hS2))) ?_
  refine wpO (i:=13) rfl fun KK hKK=>?_
  rw [if_pos (by rfl)]
  with_reducible refine op_storeB 30 (.tmp 8) (.tmp 31) ?_ G 30 [.int .i64 0,.slice none 0 0,.int .i64 0,.int .i64 0,.slice none 0 0,.slice none 0 0,.slice none 0 0] hG ?_ (auC (1+s1) s2 (.slice none 0 0) (.slice none 0 0) (.slice none 0 0)) ?_ ?_ ?_ ?_ ?_
  ·rfl
  ·go_simp
  ·rfl
  ·show Value.agg _=Value.agg _; rw [show (1+(s1:Int))=((1+s1:Nat):Int) by omega]; try rfl
  ·exact auC_1 _ _ _ _ _ _ _ _ _ _ _
  ·exact Tryz.sizeAuto
  intro wz hGz hfz
  refine lN hKK ?_; clear hKK KK
  refine wpAnyD_done (by kernel_rfl) ?_ _
  refine hexit _ _ _ _ _ _ _ _ _ _ _ _ G (1+s1) s2 wz ⟨hGz,FO.nil _ _ _ _,FO.nil _ _ _ _,FO.nil _ _ _ _,fun g hg e=>by cases e⟩ hwG (by omega) (by omega) (hF.out.trans (hfz.below (B:=w.heap.size) (fun q e=>by subst e; exact hwG) hF.out.size))
end
section
open Go.RowKit
structure AuO (most syms:Nat) (sg:Bool) (A:Au):Prop where
 sym:1<=syms/\syms<=3
 st:A.st<=most
 li:A.ini.length=A.st
 lf:A.fin.length=A.st
 bi:∀ v∈A.ini,tc v<=5
 bf:∀ v∈A.fin,tc v<=5
 num:A.arcs.length<=14
 ok:∀ x∈A.arcs,x.1<A.st/\x.2.2.1<A.st/\1<=x.2.1/\x.2.1<=syms/\tc (wt x)<=5
 one:sg=true->∀ q c,A.ini[q]? = some (some c)->q=0
 uq:sg=true->Uq A.arcs
def AuOut (most:Nat) (sg:Bool) (w:World) (e:Ending) (w':World):Prop:=∃ (syms:Nat) (A:Au) (v:Value),AuO most syms sg A/\e=.returned v/\ModOut syms A w v w'
theorem auto_any (kst ksy:Int) (fw sg:Bool) (lo:OA) (n cap most:Nat) (hm:most<=60) (zs:List Int) (w:World) (hL:Sl w lo n cap (zs.map (.int .i64))) (hlo:∀ b o,lo=some ⟨b,o,none⟩->b<w.heap.size) (hn:n<=9223372036854775807) :
  Calls Tryz.prog 6 #[.agg #[.int .i64 kst,.int .i64 ksy,.bool fw,.bool sg,.slice lo n cap],.int .i64 2,.int .i64 (most:Int)] w (AuOut most sg w):=by
 have hb0:Below w.heap.size w ((w.alloc (.cells #[.int .i64 kst,.int .i64 ksy,.bool fw,.bool sg,.slice lo n cap] 24)).alloc (.cells #[.int .i64 0,.slice none 0 0,.int .i64 0,.int .i64 0,.slice none 0 0,.slice none 0 0,.slice none 0 0] 30)):=below_chain (below_alloc _) (below_alloc _)
 have hP:=(Bl.fresh w [.int .i64 kst,.int .i64 ksy,.bool fw,.bool sg,.slice lo n cap] 24).new (.cells #[.int .i64 0,.slice none 0 0,.int .i64 0,.int .i64 0,.slice none 0 0,.slice none 0 0,.slice none 0 0] 30)
 have hR:=Bl.fresh' (G:=w.heap.size+1) (w.alloc (.cells #[.int .i64 kst,.int .i64 ksy,.bool fw,.bool sg,.slice lo n cap] 24)) [.int .i64 0,.slice none 0 0,.int .i64 0,.int .i64 0,.slice none 0 0,.slice none 0 0,.slice none 0 0] 30 (by simp)
 have hb1:Below w.heap.size w (((w.alloc (.cells #[.int .i64 kst,.int .i64 ksy,.bool fw,.bool sg,.slice lo n cap] 24)).alloc (.cells #[.int .i64 0,.slice none 0 0,.int .i64 0,.int .i64 0,.slice none 0 0,.slice none 0 0,.slice none 0 0] 30)).alloc (.cells #[.slice lo n cap,.int .i64 0] 57)):=below_chain hb0 (below_alloc _)
 have hP1:=hP.new (.cells #[.slice lo n cap,.int .i64 0] 57)
 have hR1:=hid (hR.new (.cells #[.slice lo n cap,.int .i64 0] 57))
 have hT1:=Bl.fresh' (G:=w.heap.size+2) ((w.alloc (.cells #[.int .i64 kst,.int .i64 ksy,.bool fw,.bool sg,.slice lo n cap] 24)).alloc (.cells #[.int .i64 0,.slice none 0 0,.int .i64 0,.int .i64 0,.slice none 0 0,.slice none 0 0,.slice none 0 0] 30)) [.slice lo n cap,.int .i64 0] 57 (by simp)
 have y4:=hP.cell (i:=4) rfl
 go_enter Tryz.func6,Tryz.ntmps6
 go_upto_region 2 with fail
 generalize hW1:(((w.alloc (.cells #[.int .i64 kst,.int .i64 ksy,.bool fw,.bool sg,.slice lo n cap] 24)).alloc (.cells #[.int .i64 0,.slice none 0 0,.int .i64 0,.int .i64 0,.slice none 0 0,.slice none 0 0,.slice none 0 0] 30)).alloc (.cells #[.slice lo n cap,.int .i64 0] 57))=W1 at *
 have hW1s:W1.heap.size=w.heap.size+3:=by rw [<-hW1]; simp
 have hTa1:Ta W1 (w.heap.size+2) lo n cap:=⟨⟨0,Nat.zero_le _,hT1⟩,⟨zs,hL.next hb1,fun b o e=>by have:=hlo b o e; omega⟩,hn⟩
 obtain ⟨PB,hPB⟩:∃ PB,w.heap.size=PB:=⟨_,rfl⟩
 obtain ⟨RB,hRB⟩:∃ RB,w.heap.size+1=RB:=⟨_,rfl⟩
 obtain ⟨T,hT⟩:∃ T,w.heap.size+2=T:=⟨_,rfl⟩
 have hP1:Hid (Bl PB [.int .i64 kst,.int .i64 ksy,.bool fw,.bool sg,.slice lo n cap] 24 W1):=hid (by rw [<-hPB]; exact hP1)
 have hR1:Hid (Bl RB [.int .i64 0,.slice none 0 0,.int .i64 0,.int .i64 0,.slice none 0 0,.slice none 0 0,.slice none 0 0] 30 W1):=hid (by rw [<-hRB]; exact hR1.out)
 have hTa1:Hid (Ta W1 T lo n cap):=hid (by rw [<-hT]; exact hTa1)
 have hPT:PB<T:=by omega
 have hRT:RB<T:=by omega
 have hTW:T<W1.heap.size:=by omega
 have hwR:w.heap.size<=RB:=by omega
 rw [show w.heap.size+1+1=T from hT,hRB,hPB]
 have hw0:=hid hPB
 have hb1:=hid hb1
 clear hW1 hPB hRB hT hP hR hb0 hT1 y4 hW1s
 refine aut_var T lo n cap PB most kst ksy fw sg W1 hP1.out hm (fun _ _ d _ _ h=>by cases d<;>exact h) ?_
 intro Aa Ab Ad Ae Af Ag Ah Ak Al Am An Ao O syms st w2 hO2 hWO hsy hst hb2
 have hP2:=hid (hP1.out.next hb2)
 have hR2:=hid (hR1.out.next hb2)
 have hT2:=hid (hTa1.out.next hb2)
 have hbw2:=hid (below_chain hb1.out hb2)
 have hTO:T<O:=by omega
 have hA2:=hid (show Ai w2 O syms st 0 sg (.slice none 0 0) (.slice none 0 0) [] [] from ⟨hO2,rfl,rfl,fun v hv=>(by cases hv),fun v hv=>(by cases hv),fun _ q c hq=>by simp at hq⟩)
 replace hb2:=hid hb2
 clear hO2
 go_upto_block 0 with fail
 refine aut_sts T lo n cap PB O syms st kst ksy fw sg w2 hP2.out hT2.out hPT hTO (by omega) hA2.out (fun _ _ d _ _ h=>by cases d<;>exact h) ?_
 intro x9 Ap Aq Ar As Av Aw Ax Ay Az Ba Bb Bc Be Bf Bh Bi Bj Bk Bm Bn Bo Bp Bq Br Bs Bt Bu Bv Bw Bx By Bz Ca Cb Cc Cd Ce Cf Cg Ch Ci Cj Ck Cl Cm Cn Co Cp Cq Cr Ct Cu Cv Cw Cx Cy Cz iv fv ini fin w3 hA3 hT3 hb3
 have hP3:=hid (hP2.out.under hb3 hPT)
 have hR3:=hid (hR2.out.under hb3 hRT)
 have hbw3:=hid (hbw2.out.trans (hb3.mono (by omega)))
 have hJ3:=hid (show Aj w3 O syms st sg iv fv (.slice none 0 0) ini fin [] from ⟨hA3.om,fun x hx=>(by cases hx),fun _ x hx=>by cases hx⟩)
 replace hA3:=hid hA3
 replace hT3:=hid hT3
 replace hb3:=hid hb3
 go_upto_block 2 with fail
 refine aut_all T lo n cap PB O syms st kst ksy fw sg iv fv ini fin w3 hP3.out hT3.out hPT hTO (by omega) ⟨hsy.1,by omega⟩ hJ3.out (fun _ _ d _ _ h=>by cases d<;>exact h) ?_
 intro Da Db Dc Dd De Df Dg Dh Di Dj Dk Dl Dn Dp Dq Dr Dt Du Dv Dw Dx Dy Dz Ea Eb Ec Ed Ee Ef Eg Eh Ei Ej Ek El Em En Eo Ep Eq Er Es Et Eu Ev Ew Ex Ey Ez Fa Fb Fc Fd Fe Ff Fg Fh Fi Fj Fk Fm Fn Fo Fp Fq Fs Ft Fu Fv Fw Fx Fy Fz Ga Gb Gc Gd Ge Gf Gg Gh Gi Gj Gk Gl Gm Gn Go Gp Gq Gr Gs Gt Gu Gv Gw Gx Gy Gz Ha Hb av arcs w4 hla hJ4 hb4
 have hR4:=hR3.out.under hb4 hRT
 have hbw4:=hid (hbw3.out.trans (hb4.mono (by omega)))
 obtain ⟨⟨hO4,hi4,hf4,ha4,hne4⟩,hok4,huq4⟩:=hJ4
 obtain ⟨ai,ki,hiv⟩:=hi4.form
 obtain ⟨af,kf,hfv⟩:=hf4.form
 obtain ⟨aa,ka,hav⟩:=ha4.form
 subst hiv hfv hav
 simp only [List.length_map] at hO4 hi4 hf4 ha4
 rw [hA3.out.li] at hO4 hi4
 rw [hA3.out.lf] at hO4 hf4
 have hc4:=hO4.cs
 have hMo:MoF w4 (O+1) ⟨st,ini,fin,arcs⟩ ai ki af kf aa arcs.length ka:=⟨hi4,hf4,ha4⟩
 replace hMo:=hid hMo
 replace hb4:=hid hb4
 go_wp2_with (first | ((with_reducible refine wp_loadAuto rfl _ rfl O 0 ?_ (auC syms st (.slice ai st ki) (.slice af st kf) (.slice aa arcs.length ka)) rfl hc4 ?_); exact rfl) | ((with_reducible refine wp_storeBAuto rfl _ _ rfl RB 30 _ hR4 ?_ (auC syms st (.slice ai st ki) (.slice af st kf) (.slice aa arcs.length ka)) rfl rfl ?_ (auC_1 _ _ _ _ _ _ _ _ _ _ _) ?_); exact rfl; exact rfl; intro w5 hR5 hfr5))
 have hb5:=hbw4.out.trans (hfr5.below (B:=w.heap.size) (fun k e=>by omega) hbw4.out.size)
 exact bodyPost_ret (results_cellC1 rfl _ _ RB (auC syms st (.slice ai st ki) (.slice af st kf) (.slice aa arcs.length ka)) _ rfl hR5.cs Tryz.underlying30 rfl Tryz.sizeAuto) rfl ⟨syms,⟨st,ini,fin,arcs⟩,_,⟨hsy,hst,hA3.out.li,hA3.out.lf,hA3.out.bi,hA3.out.bf,hla,hok4,hA3.out.one,huq4⟩,rfl,ai,ki,af,kf,aa,arcs.length,ka,rfl,(hMo.out.fr hfr5 (by omega)).mono (by omega),hb5⟩
end
section
open Go.RowKit
theorem row_arcs {N:List Ac} {us:List Bool} {k:Nat}:∀ (n l:Nat) {X Y:Ds},rowS N us k n l X=some Y->Y.arcs.length<=X.arcs.length+n
 | 0,l,X,Y,h=>by injection h with h; subst h; exact Nat.le_refl _
 | n+1,l,X,Y,h=>by
  cases h1:oneS N us k l X with
  | none=>rw [rowS_none h1] at h; cases h
  | some Z =>
   rw [rowS_some h1] at h
   have h2:=one_arcs h1
   have h3:=row_arcs n (l+1) h
   omega
theorem run_arcs {N:List Ac} {us:List Bool} {syms m:Nat}:∀ (f k:Nat) {X Y:Ds},runS N us syms f k X=some Y->Y.subs.length<=m->Y.arcs.length<=X.arcs.length+(m-k)*syms
 | 0,_,X,Y,h,_=>by cases h
 | f+1,k,X,Y,h,hm=>by
  by_cases hk:X.subs.length<=k
  ·rw [run_end hk] at h; injection h with h; subst h; omega
  ·cases hr:rowS N us k syms 1 X with
   | none=>rw [run_none (by omega) hr] at h; cases h
   | some Z =>
    rw [run_some (by omega) hr] at h
    have h1:=run_arcs f (k+1) h hm
    have h2:=row_arcs _ _ hr
    have h3:=run_len f (k+1) h
    obtain ⟨L,e⟩:=row_pre _ _ hr
    rw [e,List.length_append] at h3
    have h4:(m-k)*syms=(m-(k+1))*syms+syms:=by
     obtain ⟨j,hj⟩:∃ j,m-k=j+1:=⟨m-k-1,by omega⟩
     rw [hj,Nat.add_mul,show m-(k+1)=j by omega]; omega
    omega
theorem det_arcs {syms:Nat} {us:List Bool} {A B:Au} (h:detP syms us A=some B) (hB:B.st<=64):B.arcs.length<=64*syms:=by
 unfold detP at h
 split at h
 ·cases h; simp
 ·rename_i c f hs
  split at h
  ·cases h
  ·rename_i X hX
   cases h
   have:=run_arcs 66 0 hX hB
   simpa using this
theorem ss_up {L:List Ac} (h:Ss L):UpA L:=by
 induction L with
 | nil=>exact List.Pairwise.nil
 | cons x r ih=>exact List.Pairwise.cons (fun y hy k=>klt_asymm (h.1 y hy) k) (ih h.2)
theorem AuO.vo {most syms:Nat} {sg:Bool} {A:Au} (h:AuO most syms sg A) (hm:most<=60):Vo syms A :=
 ⟨⟨h.sym.1,by have:=h.sym.2; omega⟩,by have:=h.st; omega,by have:=h.num; omega,fun v hv=>Nat.le_trans (h.bi v hv) (by decide),fun v hv=>Nat.le_trans (h.bf v hv) (by decide),fun x hx=>by
  obtain ⟨a,b,c,d,e⟩:=h.ok x hx
  exact ⟨a,b,d,Nat.le_trans e (by decide)⟩⟩
theorem AuO.lw {most syms:Nat} {sg:Bool} {A:Au} (h:AuO most syms sg A):Lw A :=
 ⟨fun v hv=>Nat.le_trans (h.bi v hv) (by decide),fun v hv=>Nat.le_trans (h.bf v hv) (by decide),fun x hx=>by
  obtain ⟨a,b,c,d,e⟩:=h.ok x hx
  exact ⟨Nat.le_trans e (by decide),c⟩⟩
theorem AuO.cs {most syms:Nat} {sg:Bool} {A:Au} (h:AuO most syms sg A):(∀ x∈A.arcs,cst x<=5)/\(∀ v∈A.ini,tc v<=5)/\∀ v∈A.fin,tc v<=5:=⟨fun x hx=>(h.ok x hx).2.2.2.2,h.bi,h.bf⟩
theorem nf_mem {K L:List Ac} (hK:Nf K L):∀ x∈K.filter nz,∃ z∈L,ky z=ky x/\wt z=wt x:=fun x hx=>by
 obtain ⟨⟨z,hz,hk,hw⟩,_⟩:=hK.2.1 x (List.mem_filter.1 hx).1
 exact ⟨z,hz,hk,hw⟩
theorem AuO.aok {most syms:Nat} {sg:Bool} {A:Au} (h:AuO most syms sg A) {K:List Ac} (hK:Nf K A.arcs):Aok ⟨A.st,A.ini,A.fin,K.filter nz⟩ syms/\∀ x∈K.filter nz,cst x<=5:=by
 have key:∀ x∈K.filter nz,x.1<A.st/\x.2.2.1<A.st/\1<=x.2.1/\x.2.1<=syms/\cst x<=5:=fun x hx=>by
  obtain ⟨z,hz,hk,hw⟩:=nf_mem hK x hx
  obtain ⟨a,b,c,d,e⟩:=h.ok z hz
  have h1:z.1=x.1:=congrArg (fun q:Ky=>q.1) hk
  have h2:z.2.1=x.2.1:=congrArg (fun q:Ky=>q.2.1) hk
  have h3:z.2.2.1=x.2.2.1:=congrArg (fun q:Ky=>q.2.2) hk
  have h4:tc (wt z)=cst x:=by unfold cst tc; rw [hw]
  exact ⟨by omega,by omega,by omega,by omega,by omega⟩
 exact ⟨⟨h.li,h.lf,fun x hx=>⟨(key x hx).1,(key x hx).2.1,(key x hx).2.2.1,(key x hx).2.2.2.1,(List.mem_filter.1 hx).2⟩⟩,fun x hx=>(key x hx).2.2.2.2⟩
theorem tc_some {w:Tw} {r C:Nat} (h:tc w<=C) (e:w=some r):r<=C:=by rw [e] at h; exact h
theorem det_again {most syms:Nat} {sg:Bool} {A B:Au} (h:AuO most syms sg A) {K:List Ac} {us:List Bool} (hK:Nf K A.arcs) (hu:UsOk us ⟨A.st,A.ini,A.fin,K.filter nz⟩) (hd:detP syms us ⟨A.st,A.ini,A.fin,K.filter nz⟩=some B) :
  Vo syms B/\(B.arcs.length<20\/UpA B.arcs)/\B.ini.length=B.st/\B.fin.length=B.st/\Lw B/\((∀ x∈B.arcs,cst x<=330)/\(∀ v∈B.ini,tc v<=330)/\∀ v∈B.fin,tc v<=330)/\(∀ y∈B.arcs,ArB y) /\
   ∀ K' us',Nf K' B.arcs->UsOk us' ⟨B.st,B.ini,B.fin,K'.filter nz⟩->detP syms us' ⟨B.st,B.ini,B.fin,K'.filter nz⟩=some B:=by
 obtain ⟨hA,hc⟩:=h.aok hK
 obtain ⟨h1,h2,h3,h4,h5,h6,h7,h8⟩:=det_twice hA hu hc (fun w hw r e=>tc_some (h.bi w hw) e) (fun w hw r e=>tc_some (h.bf w hw) e) hd
 have hn:=det_arcs hd h3
 have hs:=h.sym
 have b1:∀ v∈B.ini,tc v<=5:=fun v hv=>by
  cases v with
  | none=>exact Nat.zero_le _
  | some r=>exact h7 _ hv r rfl
 have b2:∀ v∈B.fin,tc v<=330:=fun v hv=>by
  cases v with
  | none=>exact Nat.zero_le _
  | some r=>exact h8 _ hv r rfl
 have b3:∀ x∈B.arcs,tc (wt x)<=330:=h6
 have hz:B.arcs.filter nz=B.arcs:=List.filter_eq_self.2 fun x hx=>(h1.arc x hx).2.2.2.2
 refine ⟨⟨⟨hs.1,by omega⟩,h3,by have:64*syms<=64*3:=Nat.mul_le_mul_left _ hs.2; omega,fun v hv=>Nat.le_trans (b1 v hv) (by decide),fun v hv=>Nat.le_trans (b2 v hv) (by decide),fun x hx=>?_⟩,.inr (ss_up h2),h1.ini,h1.fin,⟨fun v hv=>Nat.le_trans (b1 v hv) (by decide),fun v hv=>Nat.le_trans (b2 v hv) (by decide),fun x hx=>⟨Nat.le_trans (b3 x hx) (by decide),(h1.arc x hx).2.2.1⟩⟩,⟨h6,fun v hv=>Nat.le_trans (b1 v hv) (by decide),b2⟩,fun y hy=>?_,fun K' us' hK' hu'=>?_⟩
 ·obtain ⟨a,b,c,d,e⟩:=h1.arc x hx
  exact ⟨a,b,d,Nat.le_trans (b3 x hx) (by decide)⟩
 ·obtain ⟨a,b,c,d,e⟩:=h1.arc y hy
  exact ⟨by omega,by omega,by omega⟩
 ·obtain rfl:=hK'.unique (Nf.self h2)
  rw [hz] at hu' ⊢
  have hu'':UsOk us' B:=hu'
  rw [hu''.unique h4]
  exact h5
end
section
open Go.RowKit Go.ChangeAt
def laidL:List (String×DataW Unit):=Rows.determiniseTwiceRow.laid
theorem laid_shaped (os:Os):(World.laidAll Tryz.prog os laidL).Shaped Tryz.prog:=World.shaped_of_ZipB (by kernel_rfl) (by kernel_rfl)
theorem laid_wit (os:Os) (args:Array Value):laidMetH Tryz.prog laidL ((World.laidAll Tryz.prog os laidL).forCall (fun _ _=>0) ⟨#[],args,[]⟩).memory:=by
 rw [MakeChecks.laidMetH_plain _ _ _ (by kernel_rfl)]
 exact laidMet_laidAll _ (by kernel_rfl) (by kernel_rfl)
theorem pow_of_laid {W:World} (h:laidMetH Tryz.prog laidL W):Pow W:=by
 rw [MakeChecks.laidMetH_plain _ _ _ (by kernel_rfl)] at h
 have h2:=h.tail.tail
 exact Lib.tabIs_of_head (rest:=laidL.tail.tail.tail) (t:=237) (e:=42) (n:=20) pow_glob (by kernel_rfl) Tryz.underlying237 Tryz.underlying42 (by kernel_rfl) (by kernel_rfl) h2
end
end Go.Proofs.YtnapapijhhldpaaGreatDoor

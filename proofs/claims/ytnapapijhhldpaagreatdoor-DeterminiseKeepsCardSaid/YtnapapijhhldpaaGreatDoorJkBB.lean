/-
  Texts joined by program: Tsa, Tsb. No condition of its own.
-/
import Derived.Test.YtnapapijhhldpaaGreatDoorJkBA
namespace Go.Proofs.YtnapapijhhldpaaGreatDoor
set_option linter.unusedSimpArgs false
set_option linter.unusedVariables false
set_option maxRecDepth 100000
set_option maxHeartbeats 4000000
section
open Go.RowKit
noncomputable def eB (n:Nat):Code:=(Tryz.f8.body.bind (q3p n)).getD .skip
noncomputable def eR (n:Nat):Code:=(Tryz.f8.body.bind (q3e n)).getD .skip
structure Rta (W:World) (V syms C:Nat) (A:Au) (io:OA) (ci:Nat) (fo:OA) (cf:Nat) (ro:OA) (nr cr:Nat):Prop where
 mo:Mo W syms A io ci fo cf ro nr cr
 vw:Bl V (auC syms A.st (.slice io A.st ci) (.slice fo A.st cf) (.slice ro nr cr)) 30 W
 st:A.st<=64
 num:nr<=4096
 arc:∀ x∈A.arcs,x.1<A.st/\x.2.2.1<A.st
 cst:(∀ x∈A.arcs,cst x<=C)/\(∀ v∈A.ini,tc v<=C)/\∀ v∈A.fin,tc v<=C
 cC:C<=1048576
 sym:syms<=32
theorem Rta.next {W W':World} {V syms C:Nat} {A:Au} {io fo ro:OA} {ci cf nr cr:Nat} (h:Rta W V syms C A io ci fo cf ro nr cr) (hb:Below W.heap.size W W'):Rta W' V syms C A io ci fo cf ro nr cr:=⟨h.mo.next hb,h.vw.next hb,h.st,h.num,h.arc,h.cst,h.cC,h.sym⟩
theorem Fr.drewN {K:Nat->Prop} {a b:World} (h:Fr K a b) (n:Nat):Fr K a (b.drewN n):=⟨h.os,h.tape,h.output,h.size,h.block⟩
theorem z1w {A:List Ac} {j:Nat} {x:Ac} {q l:Nat} (h:A[j]? = some x) (h1:x.1=q) (h2:x.2.1=l):stp (A.take (j+1)) q l=stp (A.take j) q l++[x]:=by
 unfold stp; rw [jR h,List.filter_append,List.filter_cons_of_pos (by simp [h1,h2])]; rfl
theorem z4m {A:List Ac} {j:Nat} {x:Ac} {q l:Nat} (h:A[j]? = some x) (h1:¬ (x.1=q/\x.2.1=l)):stp (A.take (j+1)) q l=stp (A.take j) q l:=by
 unfold stp; rw [jR h,List.filter_append,List.filter_cons_of_neg (by simpa using fun e=>fun e2=>h1 ⟨e,e2⟩)]; simp
theorem j6d {S:Vx} {q r:Nat} (h:S[q]? = some none):vY S q r=S.set q (some r):=by unfold vY; rw [h]
theorem j3l {S:Vx} {q r u:Nat} (h:S[q]? = some (some u)) (hr:r<u):vY S q r=S.set q (some r):=by unfold vY; rw [h]; exact if_pos hr
theorem j3m {S:Vx} {q r u:Nat} (h:S[q]? = some (some u)) (hr:¬ r<u):vY S q r=S:=by unfold vY; rw [h]; exact if_neg hr
theorem z2k (W:World) (V syms C:Nat) (A:Au) (io:OA) (ci:Nat) (fo:OA) (cf:Nat) (ro:OA) (nr cr:Nat) (hS:Hid (Rta W V syms C A io ci fo cf ro nr cr)) (lb loff ln lc k:Nat) (hk:k<ln) (hln:ln<=64) (so:OA) (sc:Nat) (uo:OA) (uc pn:Nat) (P:List (Nat×Nat)) (hE:Hid (Cs W lb (loff+k*2) [.slice so pn sc,.slice uo pn uc])) (hR:Hid (Rs W so sc uo uc pn P)) (base g q r l i:Nat) (S:Vx) (hSl:Hid (S.length=A.st)) (hP:Hid (P[i]? = some (q,r))) (hi:i<pn) (hpn:pn<=64) (hr:r<=1000000000) (w:World) (hb:Below W.heap.size W w) (hgb:W.heap.size<=g) (hg:Sb w base g S)
  {c0 c1 c2 c3 c4 c6 c7 c8 c9 Aa Ab Ad Ae Af Ag Ah Ak Al Am An Ao Ap Aq Ar As Av Aw Ax Ay Az Ba Bb Bc Be Bf Bh Bi Bj Bk Bm Bn Bo Bp Bq Br Bs Bt Bu Bv Bw Bx By Bz Ca Cb Cc Cd Ce Cf Cg Ch Ci Cj Ck Cl Cm Cn Co Cp Cq Cr Ct Cu Cv Cw Cx Cy Cz Da Db Dc Dd De Df Dg Dh Di Dj Dk Dl Dn Dp Dq Dr Dt Du Dv Dw Dx Dy Dz Ea Eb Ec Ed Ee Ef Eg Eh Ei Ej Ek El Em En Eo Ep Eq Er Es Et Eu Ev Ew Ex Ey Ez Fa Fb Fc Fd Fe Ff Fg Fh Fi Fj Fk Fm Fn Fo Fp Fq Fs Ft Fu Fv Fw Fx Fy Fz Ga Gb Gc Gd Ge Gf Gg Gh Gi Gj Gk Gl Gm Gn Go Gp Gq Gr Gs Gt Gu Gv Gw Gx Gy Gz Ha Hb Hc Hd He Hf Hg Hh Hi Hj Hk Hl Hm Hn Ho Hp Hq Hr Hs Ht Hu Hv Hw Hx Hy Hz Ia Ib Ic Id Ie Ig Ih Ii Ij Ik Il Im Io Ip Iq Ir It Iu Iv Iw Ix Iy Iz Ja Jb Jc Jd Je Jf Jg Jh Ji Jj Jk Jl Jm Jn Jo Jp Jq Jr Js Jt Ju Jv Jw Jx Jy Jz Ka Kb Kc Kd Ke Kf Kg Kh Ki Kj Kk Kl Km Kn Ko Kp Kq Kr Ks Kt Ku Kv Kw Kx Kz La Lb Lc Ld Le Lf Lg Lh Li Lj Lk Ll Lm Ln Lo Lp Lq Lr Lt Lu Lv Lx Ly Lz Ma Mb Mc:Value} {Q0:EP} (hpan:∀ c (a:Act) d v w,Q0 (.panic c) (a.put d v) w->Q0 (.panic c) a w)
  (hexit:∀ (Md Me Mf Mg Mh Mi Mj Ml Mm Mn Mp Mq Mr Ms Mt Mu Mw Mx My Mz Na Nb Nc Nd Ne Ng Nh Ni Nj Nk Nl Nm Nn Np Nq Nr Ns Nt Nu Nv Nw Nx Ny Nz Oa Ob Oc Od Oe Og Oh Oi Oj Ok Ol Oo Op Oq Os Ot Ou Ov Ow Ox Oy Oz:Value) (w':World),Sb w' base g (stepQ (List.replicate A.st true) r (stp A.arcs q l) S)->Fr (fun k=>k=g) w w'->Q0 .normal ⟨#[c0,c1,c2,c3,c4,.pointer (some ⟨V,0,none⟩),c6,c7,c8,c9,Aa,Ab,Ad,.slice (some ⟨lb,loff,none⟩) ln lc,.int .i64 (k:Int),Ae,Af,Ag,.int .i64 (l:Int),.slice (some ⟨g,0,none⟩) A.st A.st,.int .i64 (i:Int),Md,Me,Mf,Al,Am,An,Ao,Ap,Aq,Ar,As,Av,Aw,Ax,Ay,Az,Ba,Bb,Bc,Be,Bf,Bh,Bi,Bj,Bk,Bm,Bn,Bo,Bp,Bq,Br,Bs,Bt,Bu,Bv,Bw,Bx,By,Bz,Ca,Cb,Cc,Cd,Ce,Cf,Cg,Ch,Ci,Cj,Ck,Cl,Cm,Cn,Co,Cp,Cq,Cr,Ct,Cu,Cv,Cw,Cx,Cy,Cz,Da,Db,Dc,Dd,De,Df,Dg,Dh,Di,Dj,Dk,Dl,Dn,Dp,Dq,Dr,Dt,Du,Dv,Dw,Dx,Dy,Dz,Ea,Eb,Ec,Ed,Ee,Ef,Eg,Eh,Ei,Ej,Ek,El,Em,En,Eo,Ep,Eq,Er,Es,Et,Eu,Ev,Ew,Ex,Ey,Ez,Fa,Fb,Fc,Fd,Fe,Ff,Fg,Fh,Fi,Fj,Fk,Fm,Fn,Fo,Fp,Fq,Fs,Ft,Fu,Fv,Fw,Fx,Fy,Fz,Ga,Gb,Gc,Gd,Ge,Gf,Gg,Gh,Gi,Gj,Gk,Gl,Gm,Gn,Mg,Mh,Mi,Mj,Ml,Mm,Mn,Mp,Mq,Mr,Ms,Mt,Mu,Mw,Mx,My,Mz,Na,Nb,Nc,Nd,Ne,Ng,Nh,Ni,Nj,Nk,Nl,Nm,Nn,Np,Nq,Nr,Ns,Nt,Nu,Nv,Nw,Nx,Ny,Nz,Oa,Ob,Oc,Od,Oe,Og,Oh,Oi,Oj,Ok,Ol,Oo,Op,Oq,Os,Ot,Ou,Ov,Ow,Ox,Oy,Oz,Jc,Jd,Je,Jf,Jg,Jh,Ji,Jj,Jk,Jl,Jm,Jn,Jo,Jp,Jq,Jr,Js,Jt,Ju,Jv,Jw,Jx,Jy,Jz,Ka,Kb,Kc,Kd,Ke,Kf,Kg,Kh,Ki,Kj,Kk,Kl,Km,Kn,Ko,Kp,Kq,Kr,Ks,Kt,Ku,Kv,Kw,Kx,Kz,La,Lb,Lc,Ld,Le,Lf,Lg,Lh,Li,Lj,Lk,Ll,Lm,Ln,Lo,Lp,Lq,Lr,Lt,Lu,Lv,Lx,Ly,Lz,Ma,Mb,Mc],[]⟩ w') :
  Code.wp Tryz.prog (eB 10) Q0 ⟨#[c0,c1,c2,c3,c4,.pointer (some ⟨V,0,none⟩),c6,c7,c8,c9,Aa,Ab,Ad,.slice (some ⟨lb,loff,none⟩) ln lc,.int .i64 (k:Int),Ae,Af,Ag,.int .i64 (l:Int),.slice (some ⟨g,0,none⟩) A.st A.st,.int .i64 (i:Int),.int .i64 0,Ah,Ak,Al,Am,An,Ao,Ap,Aq,Ar,As,Av,Aw,Ax,Ay,Az,Ba,Bb,Bc,Be,Bf,Bh,Bi,Bj,Bk,Bm,Bn,Bo,Bp,Bq,Br,Bs,Bt,Bu,Bv,Bw,Bx,By,Bz,Ca,Cb,Cc,Cd,Ce,Cf,Cg,Ch,Ci,Cj,Ck,Cl,Cm,Cn,Co,Cp,Cq,Cr,Ct,Cu,Cv,Cw,Cx,Cy,Cz,Da,Db,Dc,Dd,De,Df,Dg,Dh,Di,Dj,Dk,Dl,Dn,Dp,Dq,Dr,Dt,Du,Dv,Dw,Dx,Dy,Dz,Ea,Eb,Ec,Ed,Ee,Ef,Eg,Eh,Ei,Ej,Ek,El,Em,En,Eo,Ep,Eq,Er,Es,Et,Eu,Ev,Ew,Ex,Ey,Ez,Fa,Fb,Fc,Fd,Fe,Ff,Fg,Fh,Fi,Fj,Fk,Fm,Fn,Fo,Fp,Fq,Fs,Ft,Fu,Fv,Fw,Fx,Fy,Fz,Ga,Gb,Gc,Gd,Ge,Gf,Gg,Gh,Gi,Gj,Gk,Gl,Gm,Gn,Go,Gp,Gq,Gr,Gs,Gt,Gu,Gv,Gw,Gx,Gy,Gz,Ha,Hb,Hc,Hd,He,Hf,Hg,Hh,Hi,Hj,Hk,Hl,Hm,Hn,Ho,Hp,Hq,Hr,Hs,Ht,Hu,Hv,Hw,Hx,Hy,Hz,Ia,Ib,Ic,Id,Ie,Ig,Ih,Ii,Ij,Ik,Il,Im,Io,Ip,Iq,Ir,It,Iu,Iv,Iw,Ix,Iy,Iz,Ja,Jb,Jc,Jd,Je,Jf,Jg,Jh,Ji,Jj,Jk,Jl,Jm,Jn,Jo,Jp,Jq,Jr,Js,Jt,Ju,Jv,Jw,Jx,Jy,Jz,Ka,Kb,Kc,Kd,Ke,Kf,Kg,Kh,Ki,Kj,Kk,Kl,Km,Kn,Ko,Kp,Kq,Kr,Ks,Kt,Ku,Kv,Kw,Kx,Kz,La,Lb,Lc,Ld,Le,Lf,Lg,Lh,Li,Lj,Lk,Ll,Lm,Ln,Lo,Lp,Lq,Lr,Lt,Lu,Lv,Lx,Ly,Lz,Ma,Mb,Mc],[]⟩ w:=by
 conv=>arg 2; whnf
 have hg0:=hid hg
 have hb0:=hid hb
 have hexit:=hid hexit
 have hst:=hS.out.st
 have hnum:=hS.out.num
 obtain ⟨q0,r0,b1,o1,b2,o2,hP0,rfl,rfl,_,_⟩:=hR.out.get hi
 obtain ⟨hq0,hr0⟩:q0=q/\r0=r:=by have h:=hP0.symm.trans hP.out; injection h with h; injection h with h1 h2; exact ⟨h1,h2⟩
 subst hq0 hr0
 have ik:(k:Int)<(ln:Int):=by omega
 have ik0:(0:Int)<=(k:Int):=by omega
 have ii:(i:Int)<(pn:Int):=by omega
 have ii0:(0:Int)<=(i:Int):=by omega
 have hlt0:q0<A.st\/A.st<=q0:=Nat.lt_or_ge _ _
 clear hg hb hP0
 go_wp2_with fail
 go_loopw [21] (fun iv wr=>∃ j:Nat,j<=nr/\iv=.int .i64 (j:Int)/\Sb wr base g (stepQ (List.replicate A.st true) r0 (stp (A.arcs.take j) q0 l) S)/\Fr (fun k=>k=g) w wr) (fun iv _=>nr-(intOf iv).toNat)
 case atStart=>exact ⟨0,by omega,rfl,hg0.out,Fr.refl _ _⟩
 case round =>
  obtain ⟨j,hj,rfl,hrow,hfr⟩:=hrel
  have hbr:Below W.heap.size W wr:=hb0.out.trans (hfr.below (fun k e=>by subst e; exact hgb) hb0.out.size)
  have y6:=(hS.out.vw.next hbr).cell (i:=6) rfl
  by_cases hlt:j<nr
  ·obtain ⟨x,hxk,b,off,hro,hcs⟩:=(hS.out.mo.arcs.next hbr).get hlt
   subst hro
   obtain ⟨q1,r1,b1',o1',b2',o2',hP1,e1,e2,p1,p2⟩:=(hR.out.next hbr).get hi
   obtain ⟨hq1,hr1⟩:q1=q0/\r1=r0:=by have h:=hP1.symm.trans hP.out; injection h with h; injection h with h1 h2; exact ⟨h1,h2⟩
   subst hq1 hr1
   injection e1 with e1; injection e1 with e1 e1'; subst e1 e1'
   injection e2 with e2; injection e2 with e2 e2'; subst e2 e2'
   have hxN:=List.mem_of_getElem? hxk
   have ht:=hS.out.arc x hxN
   have hcx:tc (wt x)<=C:=hS.out.cst.1 x hxN
   have hC:=hS.out.cC
   have i1:(j:Int)<(nr:Int):=by omega
   have i0:(0:Int)<=(j:Int):=by omega
   have i2:(x.2.2.1:Int)<(A.st:Int):=by omega
   have i3:(0:Int)<=(x.2.2.1:Int):=by omega
   have i4:(tc (wt x):Int)<=1048576:=by omega
   have i5:(0:Int)<=(tc (wt x):Int):=by omega
   have i6:(r1:Int)<=1000000000:=by omega
   have i7:(0:Int)<=(r1:Int):=by omega
   have hbX:Below wr.heap.size wr (wr.alloc (.cells (acC x).toArray 54)):=qJ _
   have hX:=Bl.fresh wr (acC x) 54
   have z0:=hX.cell (i:=0) rfl
   have z1:=hX.cell (i:=1) rfl
   have z2:=hX.cell (i:=2) rfl
   have z6:=hX.cell (i:=6) rfl
   have hE2:=(hE.out.next hbr).next hbX
   have l0:=hE2 0 _ rfl
   have l1:=hE2 1 _ rfl
   simp only [Nat.add_zero] at l0
   have p1':=qR p1 hbX
   have p2':=qR p2 hbX
   have hrow2:=hrow.next hbX
   have hfr2:=hid (hfr.trans (qH hbX _))
   obtain ⟨Sj,hSj⟩:∃ Sj,stepQ (List.replicate A.st true) r1 (stp (A.arcs.take j) q1 l) S=Sj:=⟨_,rfl⟩
   have hSjl:Sj.length=A.st:=by rw [<-hSj,q1b]; exact hSl.out
   have hnx:∀ (S':Vx),(¬ (x.1=q1/\x.2.1=l)->S'=Sj)->((x.1=q1/\x.2.1=l)->S'=vY Sj x.2.2.1 (r1+tc (wt x)))->stepQ (List.replicate A.st true) r1 (stp (A.arcs.take (j+1)) q1 l) S=S':=fun S' h1 h2=>by
    by_cases hm:x.1=q1/\x.2.1=l
    ·rw [z1w hxk hm.1 hm.2,q4i,hSj,h2 hm]
     show (if _ then _ else _)=_
     rw [if_pos (by rw [List.getD_eq_getElem?_getD,List.getElem?_replicate,if_pos ht.2]; rfl)]; rfl
    ·rw [z4m hxk hm,hSj,h1 hm]
   have hnx:=hid hnx
   rw [hSj] at hrow2
   clear hSj hxk hrow hfr hxN hcx hC p1 p2 hX hP1 hE2
   rw [hSjl] at hrow2
   have c1:=hrow2.cell ht.2
   have c2:=hrow2.free x.2.2.1
   go_upto_region 39 with ((first | ((with_reducible refine jV rfl _ rfl b (off+j*11) ?_ x hcs ?_); exact rfl) | ((with_reducible refine jZ rfl _ _ rfl _ _ ?_ x ?_ ?_ ?_); exact rfl; exact rfl; exact rfl)))
   generalize hW2:(wr.alloc (.cells (acC x).toArray 54))=W2 at *
   clear hW2 hbX
   by_cases hm:x.1=q1/\x.2.1=l
   ·have k1:((x.1:Int)==(q1:Int))=true:=by rw [beq_iff_eq]; omega
    have k1':(x.1:Int)=(q1:Int):=by omega
    have k2:((x.2.1:Int)==(l:Int))=true:=by rw [beq_iff_eq]; omega
    have k2':(x.2.1:Int)=(l:Int):=by omega
    obtain ⟨o,ho⟩:∃ o,Sj[x.2.2.1]? = some o:=⟨_,List.getElem?_eq_getElem (by rw [hSjl]; exact ht.2)⟩
    have e1:fS Sj x.2.2.1=oV o:=by unfold fS; rw [List.getD_eq_getElem?_getD,ho]; rfl
    rw [e1] at c1
    clear e1
    unfold oV at c1
    have hset:vY Sj x.2.2.1 (r1+tc (wt x))=Sj.set x.2.2.1 (some (r1+tc (wt x)))->Hid (stepQ (List.replicate A.st true) r1 (stp (A.arcs.take (j+1)) q1 l) S=Sj.set x.2.2.1 (some (r1+tc (wt x)))):=fun h=>hid (by rw [hnx.out (vY Sj x.2.2.1 (r1+tc (wt x))) (fun h=>absurd hm h) (fun _=>rfl),h])
    have hrow3:=hid hrow2
    have hsum:Hid ((r1:Int)+(tc (wt x):Int)=((r1+tc (wt x):Nat):Int)):=hid (by omega)
    cases o with
    | none =>
     rw [zP] at c1
     have hn:=hset (j6d ho)
     clear ho hset hrow2
     go_quiet (fail)
     go_upto_region 40 with fail
     go_quiet (fail)
     go_wp2_with fail
     go_roundw
     case rel=>exact ⟨j+1,by omega,by go_num,by rw [hn.out]; unfold Sb; rw [List.length_set,hSjl]; exact (hrow3.out.put x.2.2.1 (.int .i64 ((r1:Int)+(tc (wt x):Int)))).congr (fun i _=>by rw [hsum.out]; exact j2f Sj x.2.2.1 (by rw [hSjl]; exact ht.2) _ i),(hfr2.out.drewN _).trans (Fr.set (T:=fun k=>k=g) _ (p:=⟨g,x.2.2.1,none⟩) rfl _)⟩
     case measure=>simp [intOf]; omega
    | some u =>
     rw [zN] at c1
     have k3:¬ (u:Int)<0:=by omega
     by_cases hc:r1+tc (wt x)<u
     ·have k4:(r1:Int)+(tc (wt x):Int)<(u:Int):=by omega
      have hn:=hset (j3l ho hc)
      clear ho hset hrow2
      go_quiet (fail)
      go_upto_region 40 with fail
      go_quiet (fail)
      go_wp2_with fail
      go_roundw
      case rel=>exact ⟨j+1,by omega,by go_num,by rw [hn.out]; unfold Sb; rw [List.length_set,hSjl]; exact (hrow3.out.put x.2.2.1 (.int .i64 ((r1:Int)+(tc (wt x):Int)))).congr (fun i _=>by rw [hsum.out]; exact j2f Sj x.2.2.1 (by rw [hSjl]; exact ht.2) _ i),(hfr2.out.drewN _).trans (Fr.set (T:=fun k=>k=g) _ (p:=⟨g,x.2.2.1,none⟩) rfl _)⟩
      case measure=>simp [intOf]; omega
     ·have k4:¬ (r1:Int)+(tc (wt x):Int)<(u:Int):=by omega
      have hn:=hid (hnx.out Sj (fun _=>rfl) (fun _=>(j3m ho hc).symm))
      clear ho hset hrow2
      go_quiet (fail)
      go_upto_region 40 with fail
      go_quiet (fail)
      go_wp2_with fail
      go_roundw
      case rel=>exact ⟨j+1,by omega,by go_num,by rw [hn.out]; unfold Sb; rw [hSjl]; exact hrow3.out,hfr2.out.drewN _⟩
      case measure=>simp [intOf]; omega
   ·have hn:=hid (hnx.out Sj (fun _=>rfl) (fun h=>absurd h hm))
    have hrow3:=hid hrow2
    by_cases hm1:x.1=q1
    ·have hm2:¬ x.2.1=l:=fun e=>hm ⟨hm1,e⟩
     have k1:((x.1:Int)==(q1:Int))=true:=by rw [beq_iff_eq]; omega
     have k1':(x.1:Int)=(q1:Int):=by omega
     have k2:((x.2.1:Int)==(l:Int))=false:=by rw [beq_eq_false_iff_ne]; omega
     have k2':¬ (x.2.1:Int)=(l:Int):=by omega
     go_quiet (fail)
     go_upto_region 40 with fail
     go_quiet (fail)
     go_wp2_with fail
     go_roundw
     case rel=>exact ⟨j+1,by omega,by go_num,by rw [hn.out]; unfold Sb; rw [hSjl]; exact hrow3.out,hfr2.out.drewN _⟩
     case measure=>simp [intOf]; omega
    ·have k1:((x.1:Int)==(q1:Int))=false:=by rw [beq_eq_false_iff_ne]; omega
     have k1':¬ (x.1:Int)=(q1:Int):=by omega
     go_quiet (fail)
     go_upto_region 40 with fail
     go_quiet (fail)
     go_wp2_with fail
     go_roundw
     case rel=>exact ⟨j+1,by omega,by go_num,by rw [hn.out]; unfold Sb; rw [hSjl]; exact hrow3.out,hfr2.out.drewN _⟩
     case measure=>simp [intOf]; omega
  ·obtain rfl:j=nr:=by omega
   have i1:¬ (j:Int)<(j:Int):=by omega
   have htk:A.arcs.take j=A.arcs:=List.take_of_length_le (by rw [hS.out.mo.arcs.lenMap]; exact Nat.le_refl _)
   rw [htk] at hrow
   clear htk
   have hrow:=hid hrow
   go_wp2_with fail
   exact hexit.out _ _ _ _ _ _ _ _ _ _ _ _ _ _ _ _ _ _ _ _ _ _ _ _ _ _ _ _ _ _ _ _ _ _ _ _ _ _ _ _ _ _ _ _ _ _ _ _ _ _ _ _ _ _ _ _ _ _ _ _ _ _ _ _ _ _ _ hrow.out hfr
end
section
open Go.RowKit
def j4z (A:Au) (l:Nat) (P:List (Nat×Nat)) (S:Vx):Vx:=P.foldl (fun S p=>stepQ (List.replicate A.st true) p.2 (stp A.arcs p.1 l) S) S
theorem j1i (A:Au) (l:Nat):∀ (P:List (Nat×Nat)) (S:Vx),(j4z A l P S).length=S.length
 | [],S=>rfl
 | p::P,S=>by
  show (j4z A l P _).length=_
  rw [j1i A l P,q1b]
theorem j4y (A:Au) (l:Nat) {P:List (Nat×Nat)} {i:Nat} {p:Nat×Nat} (h:P[i]? = some p) (S:Vx):j4z A l (P.take (i+1)) S=stepQ (List.replicate A.st true) p.2 (stp A.arcs p.1 l) (j4z A l (P.take i) S):=by
 unfold j4z; rw [jR h,List.foldl_append]; rfl
theorem q2h (A:Au) (l:Nat) (R:Vx):∀ q,j4z A l (q0z R q) (List.replicate R.length none)=vH A.arcs (List.replicate A.st true) R l q
 | 0=>rfl
 | q+1=>by
  cases h:R[q]? with
  | none =>
   have h1:q0z R (q+1)=q0z R q:=by
    unfold q0z; rw [List.range_succ,List.filterMap_append,List.filterMap_cons,List.getD_eq_getElem?_getD,h]; simp
   rw [h1,q2h A l R q]
   show _=(match R[q]? with | some (some r)=>_ | _=>_)
   rw [h]
  | some o =>
   cases o with
   | none=>rw [q2z h,q2h A l R q,q4w h]
   | some r =>
    rw [q2y h,q4v h,<-q2h A l R q]
    unfold j4z; rw [List.foldl_append]; rfl
theorem j8r (A:Au) (l:Nat) (R:Vx):j4z A l (sup R) (List.replicate R.length none)=vQ A.arcs (List.replicate A.st true) R l:=q2h A l R R.length
theorem z4q (W:World) (V syms C:Nat) (A:Au) (io:OA) (ci:Nat) (fo:OA) (cf:Nat) (ro:OA) (nr cr:Nat) (hS:Hid (Rta W V syms C A io ci fo cf ro nr cr)) (lb loff ln lc k:Nat) (hk:k<ln) (hln:ln<=64) (so:OA) (sc:Nat) (uo:OA) (uc pn:Nat) (P:List (Nat×Nat)) (hE:Hid (Cs W lb (loff+k*2) [.slice so pn sc,.slice uo pn uc])) (hR:Hid (Rs W so sc uo uc pn P)) (base g l:Nat) (S:Vx) (hSl:Hid (S.length=A.st)) (hpn:pn<=64) (hr:Hid (∀ p∈P,p.2<=1000000000)) (w:World) (hb:Below W.heap.size W w) (hgb:W.heap.size<=g) (hg:Sb w base g S)
  {c0 c1 c2 c3 c4 c6 c7 c8 c9 Aa Ab Ad Ae Af Ag Ah Ak Al Am An Ao Ap Aq Ar As Av Aw Ax Ay Az Ba Bb Bc Be Bf Bh Bi Bj Bk Bm Bn Bo Bp Bq Br Bs Bt Bu Bv Bw Bx By Bz Ca Cb Cc Cd Ce Cf Cg Ch Ci Cj Ck Cl Cm Cn Co Cp Cq Cr Ct Cu Cv Cw Cx Cy Cz Da Db Dc Dd De Df Dg Dh Di Dj Dk Dl Dn Dp Dq Dr Dt Du Dv Dw Dx Dy Dz Ea Eb Ec Ed Ee Ef Eg Eh Ei Ej Ek El Em En Eo Ep Eq Er Es Et Eu Ev Ew Ex Ey Ez Fa Fb Fc Fd Fe Ff Fg Fh Fi Fj Fk Fm Fn Fo Fp Fq Fs Ft Fu Fv Fw Fx Fy Fz Ga Gb Gc Gd Ge Gf Gg Gh Gi Gj Gk Gl Gm Gn Go Gp Gq Gr Gs Gt Gu Gv Gw Gx Gy Gz Ha Hb Hc Hd He Hf Hg Hh Hi Hj Hk Hl Hm Hn Ho Hp Hq Hr Hs Ht Hu Hv Hw Hx Hy Hz Ia Ib Ic Id Ie Ig Ih Ii Ij Ik Il Im Io Ip Iq Ir It Iu Iv Iw Ix Iy Iz Ja Jb Jc Jd Je Jf Jg Jh Ji Jj Jk Jl Jm Jn Jo Jp Jq Jr Js Jt Ju Jv Jw Jx Jy Jz Ka Kb Kc Kd Ke Kf Kg Kh Ki Kj Kk Kl Km Kn Ko Kp Kq Kr Ks Kt Ku Kv Kw Kx Kz La Lb Lc Ld Le Lf Lg Lh Li Lj Lk Ll Lm Ln Lo Lp Lq Lr Lt Lu Lv Lx Ly Lz Ma Mb Mc Md:Value} {Q0:EP} (hpan:∀ c (a:Act) d v w,Q0 (.panic c) (a.put d v) w->Q0 (.panic c) a w)
  (hexit:∀ (Me Mf Mg Mh Mi Mj Ml Mm Mn Mp Mq Mr Ms Mt Mu Mw Mx My Mz Na Nb Nc Nd Ne Ng Nh Ni Nj Nk Nl Nm Nn Np Nq Nr Ns Nt Nu Nv Nw Nx Ny Nz Oa Ob Oc Od Oe Og Oh Oi Oj Ok Ol Oo Op Oq Os Ot Ou Ov Ow Ox Oy Oz Pa Pb Pc Pd Pe Pf Pg Ph Pi Pj Pk Pl:Value) (w':World),Sb w' base g (j4z A l P S)->Fr (fun k=>k=g) w w'->Q0 .normal ⟨#[c0,c1,c2,c3,c4,.pointer (some ⟨V,0,none⟩),c6,c7,c8,c9,Aa,Ab,Ad,.slice (some ⟨lb,loff,none⟩) ln lc,.int .i64 (k:Int),Ae,Af,Ag,.int .i64 (l:Int),.slice (some ⟨g,0,none⟩) A.st A.st,Me,Mf,Mg,Mh,Am,An,Ao,Ap,Aq,Ar,As,Av,Aw,Ax,Ay,Az,Ba,Bb,Bc,Be,Bf,Bh,Bi,Bj,Bk,Bm,Bn,Bo,Bp,Bq,Br,Bs,Bt,Bu,Bv,Bw,Bx,By,Bz,Ca,Cb,Cc,Cd,Ce,Cf,Cg,Ch,Ci,Cj,Ck,Cl,Cm,Cn,Co,Cp,Cq,Cr,Ct,Cu,Cv,Cw,Cx,Cy,Cz,Da,Db,Dc,Dd,De,Df,Dg,Dh,Di,Dj,Dk,Dl,Dn,Dp,Dq,Dr,Dt,Du,Dv,Dw,Dx,Dy,Dz,Ea,Eb,Ec,Ed,Ee,Ef,Eg,Eh,Ei,Ej,Ek,El,Em,En,Eo,Ep,Eq,Er,Es,Et,Eu,Ev,Ew,Ex,Ey,Ez,Fa,Fb,Fc,Fd,Fe,Ff,Fg,Fh,Fi,Fj,Fk,Fm,Fn,Fo,Fp,Fq,Fs,Ft,Fu,Fv,Fw,Fx,Fy,Fz,Ga,Gb,Gc,Gd,Ge,Mi,Mj,Ml,Mm,Mn,Mp,Mq,Mr,Ms,Mt,Mu,Mw,Mx,My,Mz,Na,Nb,Nc,Nd,Ne,Ng,Nh,Ni,Nj,Nk,Nl,Nm,Nn,Np,Nq,Nr,Ns,Nt,Nu,Nv,Nw,Nx,Ny,Nz,Oa,Ob,Oc,Od,Oe,Og,Oh,Oi,Oj,Ok,Ol,Oo,Op,Oq,Os,Ot,Ou,Ov,Ow,Ox,Oy,Oz,Pa,Pb,Pc,Pd,Pe,Pf,Pg,Ph,Pi,Pj,Pk,Pl,Jd,Je,Jf,Jg,Jh,Ji,Jj,Jk,Jl,Jm,Jn,Jo,Jp,Jq,Jr,Js,Jt,Ju,Jv,Jw,Jx,Jy,Jz,Ka,Kb,Kc,Kd,Ke,Kf,Kg,Kh,Ki,Kj,Kk,Kl,Km,Kn,Ko,Kp,Kq,Kr,Ks,Kt,Ku,Kv,Kw,Kx,Kz,La,Lb,Lc,Ld,Le,Lf,Lg,Lh,Li,Lj,Lk,Ll,Lm,Ln,Lo,Lp,Lq,Lr,Lt,Lu,Lv,Lx,Ly,Lz,Ma,Mb,Mc,Md],[]⟩ w') :
  Code.wp Tryz.prog (eB 8) Q0 ⟨#[c0,c1,c2,c3,c4,.pointer (some ⟨V,0,none⟩),c6,c7,c8,c9,Aa,Ab,Ad,.slice (some ⟨lb,loff,none⟩) ln lc,.int .i64 (k:Int),Ae,Af,Ag,.int .i64 (l:Int),.slice (some ⟨g,0,none⟩) A.st A.st,.int .i64 0,Ah,Ak,Al,Am,An,Ao,Ap,Aq,Ar,As,Av,Aw,Ax,Ay,Az,Ba,Bb,Bc,Be,Bf,Bh,Bi,Bj,Bk,Bm,Bn,Bo,Bp,Bq,Br,Bs,Bt,Bu,Bv,Bw,Bx,By,Bz,Ca,Cb,Cc,Cd,Ce,Cf,Cg,Ch,Ci,Cj,Ck,Cl,Cm,Cn,Co,Cp,Cq,Cr,Ct,Cu,Cv,Cw,Cx,Cy,Cz,Da,Db,Dc,Dd,De,Df,Dg,Dh,Di,Dj,Dk,Dl,Dn,Dp,Dq,Dr,Dt,Du,Dv,Dw,Dx,Dy,Dz,Ea,Eb,Ec,Ed,Ee,Ef,Eg,Eh,Ei,Ej,Ek,El,Em,En,Eo,Ep,Eq,Er,Es,Et,Eu,Ev,Ew,Ex,Ey,Ez,Fa,Fb,Fc,Fd,Fe,Ff,Fg,Fh,Fi,Fj,Fk,Fm,Fn,Fo,Fp,Fq,Fs,Ft,Fu,Fv,Fw,Fx,Fy,Fz,Ga,Gb,Gc,Gd,Ge,Gf,Gg,Gh,Gi,Gj,Gk,Gl,Gm,Gn,Go,Gp,Gq,Gr,Gs,Gt,Gu,Gv,Gw,Gx,Gy,Gz,Ha,Hb,Hc,Hd,He,Hf,Hg,Hh,Hi,Hj,Hk,Hl,Hm,Hn,Ho,Hp,Hq,Hr,Hs,Ht,Hu,Hv,Hw,Hx,Hy,Hz,Ia,Ib,Ic,Id,Ie,Ig,Ih,Ii,Ij,Ik,Il,Im,Io,Ip,Iq,Ir,It,Iu,Iv,Iw,Ix,Iy,Iz,Ja,Jb,Jc,Jd,Je,Jf,Jg,Jh,Ji,Jj,Jk,Jl,Jm,Jn,Jo,Jp,Jq,Jr,Js,Jt,Ju,Jv,Jw,Jx,Jy,Jz,Ka,Kb,Kc,Kd,Ke,Kf,Kg,Kh,Ki,Kj,Kk,Kl,Km,Kn,Ko,Kp,Kq,Kr,Ks,Kt,Ku,Kv,Kw,Kx,Kz,La,Lb,Lc,Ld,Le,Lf,Lg,Lh,Li,Lj,Lk,Ll,Lm,Ln,Lo,Lp,Lq,Lr,Lt,Lu,Lv,Lx,Ly,Lz,Ma,Mb,Mc,Md],[]⟩ w:=by
 conv=>arg 2; whnf
 have hg0:=hid hg
 have hb0:=hid hb
 have hexit:=hid hexit
 have ik:(k:Int)<(ln:Int):=by omega
 have ik0:(0:Int)<=(k:Int):=by omega
 clear hg hb
 go_wp2_with fail
 go_loopw [20] (fun iv wr=>∃ i:Nat,i<=pn/\iv=.int .i64 (i:Int)/\Sb wr base g (j4z A l (P.take i) S)/\Fr (fun k=>k=g) w wr) (fun iv _=>pn-(intOf iv).toNat)
 case atStart=>exact ⟨0,by omega,rfl,hg0.out,Fr.refl _ _⟩
 case round =>
  obtain ⟨i,hi,rfl,hrow,hfr⟩:=hrel
  have hbr:Below W.heap.size W wr:=hb0.out.trans (hfr.below (fun k e=>by subst e; exact hgb) hb0.out.size)
  have l0:=(hE.out.next hbr) 0 _ rfl
  simp only [Nat.add_zero] at l0
  by_cases hlt:i<pn
  ·obtain ⟨q,r,_,_,_,_,hP,_,_,_,_⟩:=hR.out.get hlt
   have i1:(i:Int)<(pn:Int):=by omega
   have i0:(0:Int)<=(i:Int):=by omega
   have hsn:=hid (j4y A l hP S)
   have hrr:=hr.out _ (List.mem_of_getElem? hP)
   have hl2:Hid ((j4z A l (P.take i) S).length=A.st):=hid (by rw [j1i]; exact hSl.out)
   have hP2:=hid hP
   have hrow2:=hid hrow
   have hfr2:=hid hfr
   have hbr2:=hid hbr
   clear hP hrow hfr hbr
   go_upto_block 10 with fail
   refine z2k W V syms C A io ci fo cf ro nr cr hS lb loff ln lc k hk hln so sc uo uc pn P hE hR base g q r l i _ hl2 hP2 hlt hpn hrr wr hbr2.out hgb hrow2.out hpan ?_
   intro _ _ _ _ _ _ _ _ _ _ _ _ _ _ _ _ _ _ _ _ _ _ _ _ _ _ _ _ _ _ _ _ _ _ _ _ _ _ _ _ _ _ _ _ _ _ _ _ _ _ _ _ _ _ _ _ _ _ _ _ _ _ _ _ _ _ w3 hg3 hf3
   have hg3:=hid hg3
   have hf3:=hid (hfr2.out.trans hf3)
   go_wp2_with fail
   go_roundw
   case rel=>exact ⟨i+1,by omega,by go_num,by rw [hsn.out]; exact hg3.out,hf3.out⟩
   case measure=>simp [intOf]; omega
  ·obtain rfl:i=pn:=by omega
   have i1:¬ (i:Int)<(i:Int):=by omega
   rw [List.take_of_length_le (by rw [hR.out.len]; exact Nat.le_refl _)] at hrow
   have hrow:=hid hrow
   go_wp2_with fail
   exact hexit.out _ _ _ _ _ _ _ _ _ _ _ _ _ _ _ _ _ _ _ _ _ _ _ _ _ _ _ _ _ _ _ _ _ _ _ _ _ _ _ _ _ _ _ _ _ _ _ _ _ _ _ _ _ _ _ _ _ _ _ _ _ _ _ _ _ _ _ _ _ _ _ _ _ _ _ _ _ _ hrow.out hfr
end
end Go.Proofs.YtnapapijhhldpaaGreatDoor

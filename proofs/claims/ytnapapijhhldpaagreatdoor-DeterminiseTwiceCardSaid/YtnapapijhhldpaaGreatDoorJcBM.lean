/-
  Texts joined by program: Trz, Tsa, Tsb. No condition of its own.
-/
import Derived.Test.YtnapapijhhldpaaGreatDoorJcBL
namespace Go.Proofs.YtnapapijhhldpaaGreatDoor
set_option linter.unusedSimpArgs false
set_option linter.unusedVariables false
section
open Go.RowKit
theorem lw_nf {A:Au} (hL:Lw A) {K:List Ac} (hK:Nf K A.arcs):∀ x∈K.filter nz,tc (wt x)≤1048576∧1≤x.2.1:=fun x hx=>by
 obtain ⟨⟨z,hz,hk,hw⟩,_⟩:=hK.2.1 x (List.mem_filter.1 hx).1
 have h1:=hL.2.2 z hz
 have h2:z.2.1=x.2.1:=congrArg (fun q:Ky=>q.2.1) hk
 rw [←h2,←hw]; exact h1
set_option maxRecDepth 100000 in
set_option maxHeartbeats 4000000 in
theorem rLight_any (syms:Nat) (A:Au) (hV:Vo syms A) (hL:Lw A) (io:Option Addr) (ci:Nat) (fo:Option Addr) (cf:Nat) (ro:Option Addr) (nr cr:Nat) (w:World) (h:Mo w syms A io ci fo cf ro nr cr) :
  Calls Tryz.prog 34 #[.agg (auC syms A.st (.slice io A.st ci) (.slice fo A.st cf) (.slice ro nr cr)).toArray] w fun e w'=>e=.returned (.int .i64 0)∧Below w.heap.size w w':=by
 have hb0:Below w.heap.size w (w.alloc (.cells (auC syms A.st (.slice io A.st ci) (.slice fo A.st cf) (.slice ro nr cr)).toArray 30)):=below_alloc _
 have hG:=Bl.fresh w (auC syms A.st (.slice io A.st ci) (.slice fo A.st cf) (.slice ro nr cr)) 30
 have hm:=hid (h.next hb0)
 have hst:=hV.st
 replace hL:=hid hL
 clear h
 go_enter Tryz.func34,Tryz.ntmps34
 go_upto_region 1 with fail
 obtain ⟨W1,hW1⟩:∃ W1,W1=(w.alloc (.cells (auC syms A.st (.slice io A.st ci) (.slice fo A.st cf) (.slice ro nr cr)).toArray 30)):=⟨_,rfl⟩
 rw [←hW1] at hb0 hG hm
 have hGc:=hG.cs
 subst hW1
 go_wp2_with ((with_reducible refine wp_loadAuto rfl _ rfl w.heap.size 0 ?_ (auC syms A.st (.slice io A.st ci) (.slice fo A.st cf) (.slice ro nr cr)) rfl hGc ?_); exact rfl)
 refine (rValid_any syms A hV io ci fo cf ro nr cr _ hm.out).mono ?_; rintro e w1 ⟨rfl,hb1⟩
 have hm1:=hid (hm.out.next hb1)
 replace hG:=hG.next hb1
 replace hb0:=below_chain hb0 hb1
 clear hGc hb1
 have hGc:=hG.cs
 have y0:=hG.cell (i:=0) rfl
 go_wp2_with ((with_reducible refine wp_loadAuto rfl _ rfl w.heap.size 0 ?_ (auC syms A.st (.slice io A.st ci) (.slice fo A.st cf) (.slice ro nr cr)) rfl hGc ?_); exact rfl)
 refine (rNormal_any syms A hV io ci fo cf ro nr cr _ hm1.out).mono ?_; rintro e w2 ⟨v,rfl,K,io',ci',fo',cf',ro',nr',cr',rfl,hK,hMo,hb2⟩
 have hbN:Below w2.heap.size w2 (w2.alloc (.cells #[.int .i64 0,.slice none 0 0,.int .i64 0,.int .i64 0,.slice none 0 0,.slice none 0 0,.slice none 0 0] 30)):=below_alloc _
 have hX:=Bl.fresh w2 [.int .i64 0,.slice none 0 0,.int .i64 0,.int .i64 0,.slice none 0 0,.slice none 0 0,.slice none 0 0] 30
 have hG2:=hid (hG.next hb2)
 have hm2:=hid (hm1.out.next hb2)
 have hMo2:=hid (hMo.mo syms)
 have hKl:=hid (lw_nf hL.out hK)
 replace hb0:=hid (below_chain hb0 hb2)
 have hbN:=hid hbN
 clear hK hMo hGc hG hb2 y0 hm1
 go_upto_region 6 with ((with_reducible refine wp_storeBAuto rfl _ _ rfl w2.heap.size 30 _ hX ?_ (auC syms A.st (.slice io' A.st ci') (.slice fo' A.st cf') (.slice ro' nr' cr')) rfl rfl ?_ (auC_1 _ _ _ _ _ _ _ _ _ _ _) ?_); exact rfl; exact rfl; intro w3 hX3 hfr3)
 have hb3:Below w2.heap.size w2 w3:=hbN.out.trans (hfr3.below (fun k e=>by subst e; exact Nat.le_refl _) hbN.out.size)
 have hG3:=hG2.out.next hb3
 have hm3:=hid (hm2.out.next hb3)
 have hM3:=hid (hMo2.out.next hb3)
 have hbW:=hid (below_chain hb0.out hb3)
 have y6:=hX3.cell (i:=6) rfl
 have x3:=hG3.cell (i:=3) rfl
 have x4:=hG3.cell (i:=4) rfl
 have x5:=hG3.cell (i:=5) rfl
 clear hX hX3 hfr3 hb3 hG3 hG2 hm2 hMo2 hb0 hbN
 go_wp2_with fail
 go_loopw [5] (fun iv wr=>∃ i:Nat,i≤nr'∧iv=.int .i64 (i:Int)∧wr=w3) (fun iv _=>nr'-(intOf iv).toNat)
 case atStart=>exact ⟨0,by omega,rfl,rfl⟩
 case round =>
  obtain ⟨i,hi,rfl,rfl⟩:=hrel
  by_cases hlt:i<nr'
  ·obtain ⟨x,hx,b,off,hro,hcs⟩:=hM3.out.arcs.get hlt
   subst hro
   have hk:=(hKl.out x (List.mem_of_getElem? hx)).2
   have z1:=hcs 1 _ rfl
   clear hx hcs
   have hnb:=hM3.out.arcs.bound
   have i1:(i:Int)<(nr':Int):=by omega
   have i0:(0:Int)≤(i:Int):=by omega
   have k1:((x.2.1:Int)==0)=false:=by rw [beq_eq_false_iff_ne]; omega
   have k2:¬ (x.2.1:Int)=0:=by omega
   go_wp2_with fail
   go_roundw
   case rel=>exact ⟨i+1,by omega,by go_num,by trivial⟩
   case measure=>simp [intOf]; omega
  ·obtain rfl:i=nr':=by omega
   have i1:¬ (i:Int)<(i:Int):=by omega
   go_wp2_with fail
   go_loopw [6] (fun iv wq=>∃ j:Nat,j≤i∧iv=.int .i64 (j:Int)∧wq=wr) (fun iv _=>i-(intOf iv).toNat)
   case atStart=>exact ⟨0,by omega,rfl,rfl⟩
   case round =>
    obtain ⟨j,hj,rfl,rfl⟩:=hrel
    by_cases hlt:j<i
    ·obtain ⟨x,hx,b,off,hro,hcs⟩:=hM3.out.arcs.get hlt
     subst hro
     have hk:=(hKl.out x (List.mem_of_getElem? hx)).1
     have z6:=hcs 6 _ rfl
     clear hx hcs
     have hnb:=hM3.out.arcs.bound
     have i1:(j:Int)<(i:Int):=by omega
     have i0:(0:Int)≤(j:Int):=by omega
     have k2:¬ (1048576:Int)<(tc (wt x):Int):=by omega
     go_wp2_with fail
     go_roundw
     case rel=>exact ⟨j+1,by omega,by go_num,by trivial⟩
     case measure=>simp [intOf]; omega
    ·obtain rfl:j=i:=by omega
     have i1:¬ (j:Int)<(j:Int):=by omega
     go_wp2_with fail
     go_loopw [7] (fun iv wq=>∃ k:Nat,k≤A.st∧iv=.int .i64 (k:Int)∧wq=wr) (fun iv _=>A.st-(intOf iv).toNat)
     case atStart=>exact ⟨0,by omega,rfl,rfl⟩
     case round =>
      obtain ⟨k,hk,rfl,rfl⟩:=hrel
      by_cases hlt:k<A.st
      ·obtain ⟨x,hx,b1,o1,hio,hcx⟩:=hm3.out.ini.get hlt
       obtain ⟨y,hy,b2,o2,hfo,hcy⟩:=hm3.out.fin.get hlt
       subst hio hfo
       have q1:=hL.out.1 x (List.mem_of_getElem? hx)
       have q2:=hL.out.2.1 y (List.mem_of_getElem? hy)
       have z3:=hcx 3 _ rfl
       have z4:=hcy 3 _ rfl
       clear hx hcx hy hcy
       have i1:(k:Int)<(A.st:Int):=by omega
       have i0:(0:Int)≤(k:Int):=by omega
       have k2:¬ (1048576:Int)<(tc x:Int):=by omega
       have k3:¬ (1048576:Int)<(tc y:Int):=by omega
       go_wp2_with fail
       go_roundw
       case rel=>exact ⟨k+1,by omega,by go_num,by trivial⟩
       case measure=>simp [intOf]; omega
      ·obtain rfl:k=A.st:=by omega
       have i1:¬ (A.st:Int)<(A.st:Int):=by omega
       go_wp2_with fail
       go_ret
       exact ⟨rfl,hbW.out⟩
end
section
open Go.RowKit
noncomputable def eB (n:Nat):Code:=(Tryz.f8.body.bind (findB n)).getD .skip
noncomputable def eR (n:Nat):Code:=(Tryz.f8.body.bind (findR n)).getD .skip
structure Rta (W:World) (V syms C:Nat) (A:Au) (io:Option Addr) (ci:Nat) (fo:Option Addr) (cf:Nat) (ro:Option Addr) (nr cr:Nat):Prop where
 mo:Mo W syms A io ci fo cf ro nr cr
 vw:Bl V (auC syms A.st (.slice io A.st ci) (.slice fo A.st cf) (.slice ro nr cr)) 30 W
 st:A.st≤64
 num:nr≤4096
 arc:∀ x∈A.arcs,x.1<A.st∧x.2.2.1<A.st
 cst:(∀ x∈A.arcs,cst x≤C)∧(∀ v∈A.ini,tc v≤C)∧∀ v∈A.fin,tc v≤C
 cC:C≤1048576
 sym:syms≤32
theorem Rta.next {W W':World} {V syms C:Nat} {A:Au} {io fo ro:Option Addr} {ci cf nr cr:Nat} (h:Rta W V syms C A io ci fo cf ro nr cr) (hb:Below W.heap.size W W'):Rta W' V syms C A io ci fo cf ro nr cr:=⟨h.mo.next hb,h.vw.next hb,h.st,h.num,h.arc,h.cst,h.cC,h.sym⟩
theorem Fr.drewN {K:Nat→Prop} {a b:World} (h:Fr K a b) (n:Nat):Fr K a (b.drewN n):=⟨h.os,h.tape,h.output,h.size,h.block⟩
theorem stp_yes {A:List Ac} {j:Nat} {x:Ac} {q l:Nat} (h:A[j]? = some x) (h1:x.1=q) (h2:x.2.1=l):stp (A.take (j+1)) q l=stp (A.take j) q l++[x]:=by
 unfold stp; rw [take_snoc h,List.filter_append,List.filter_cons_of_pos (by simp [h1,h2])]; rfl
theorem stp_no {A:List Ac} {j:Nat} {x:Ac} {q l:Nat} (h:A[j]? = some x) (h1:¬ (x.1=q∧x.2.1=l)):stp (A.take (j+1)) q l=stp (A.take j) q l:=by
 unfold stp; rw [take_snoc h,List.filter_append,List.filter_cons_of_neg (by simpa using fun e=>fun e2=>h1 ⟨e,e2⟩)]; simp
theorem noteV_new {S:Vx} {q r:Nat} (h:S[q]? = some none):noteV S q r=S.set q (some r):=by unfold noteV; rw [h]
theorem noteV_less {S:Vx} {q r u:Nat} (h:S[q]? = some (some u)) (hr:r<u):noteV S q r=S.set q (some r):=by unfold noteV; rw [h]; exact if_pos hr
theorem noteV_keep {S:Vx} {q r u:Nat} (h:S[q]? = some (some u)) (hr:¬ r<u):noteV S q r=S:=by unfold noteV; rw [h]; exact if_neg hr
set_option maxRecDepth 100000 in
set_option maxHeartbeats 4000000 in
theorem rd_arcs (W:World) (V syms C:Nat) (A:Au) (io:Option Addr) (ci:Nat) (fo:Option Addr) (cf:Nat) (ro:Option Addr) (nr cr:Nat) (hS:Hid (Rta W V syms C A io ci fo cf ro nr cr)) (lb loff ln lc k:Nat) (hk:k<ln) (hln:ln≤64) (so:Option Addr) (sc:Nat) (uo:Option Addr) (uc pn:Nat) (P:List (Nat×Nat)) (hE:Hid (Cs W lb (loff+k*2) [.slice so pn sc,.slice uo pn uc])) (hR:Hid (Rs W so sc uo uc pn P)) (base g q r l i:Nat) (S:Vx) (hSl:Hid (S.length=A.st)) (hP:Hid (P[i]? = some (q,r))) (hi:i<pn) (hpn:pn≤64) (hr:r≤1000000000) (w:World) (hb:Below W.heap.size W w) (hgb:W.heap.size≤g) (hg:Sb w base g S)
  (c0 c1 c2 c3 c4 c6 c7 c8 c9 Aa Ab Ad Ae Af Ag Ah Ak Al Am An Ao Ap Aq Ar As Av Aw Ax Ay Az Ba Bb Bc Be Bf Bh Bi Bj Bk Bm Bn Bo Bp Bq Br Bs Bt Bu Bv Bw Bx By Bz Ca Cb Cc Cd Ce Cf Cg Ch Ci Cj Ck Cl Cm Cn Co Cp Cq Cr Ct Cu Cv Cw Cx Cy Cz Da Db Dc Dd De Df Dg Dh Di Dj Dk Dl Dn Dp Dq Dr Dt Du Dv Dw Dx Dy Dz Ea Eb Ec Ed Ee Ef Eg Eh Ei Ej Ek El Em En Eo Ep Eq Er Es Et Eu Ev Ew Ex Ey Ez Fa Fb Fc Fd Fe Ff Fg Fh Fi Fj Fk Fm Fn Fo Fp Fq Fs Ft Fu Fv Fw Fx Fy Fz Ga Gb Gc Gd Ge Gf Gg Gh Gi Gj Gk Gl Gm Gn Go Gp Gq Gr Gs Gt Gu Gv Gw Gx Gy Gz Ha Hb Hc Hd He Hf Hg Hh Hi Hj Hk Hl Hm Hn Ho Hp Hq Hr Hs Ht Hu Hv Hw Hx Hy Hz Ia Ib Ic Id Ie Ig Ih Ii Ij Ik Il Im Io Ip Iq Ir It Iu Iv Iw Ix Iy Iz Ja Jb Jc Jd Je Jf Jg Jh Ji Jj Jk Jl Jm Jn Jo Jp Jq Jr Js Jt Ju Jv Jw Jx Jy Jz Ka Kb Kc Kd Ke Kf Kg Kh Ki Kj Kk Kl Km Kn Ko Kp Kq Kr Ks Kt Ku Kv Kw Kx Kz La Lb Lc Ld Le Lf Lg Lh Li Lj Lk Ll Lm Ln Lo Lp Lq Lr Lt Lu Lv Lx Ly Lz Ma Mb Mc:Value) (Q0:Exit→Act→World→Prop) (hpan:∀ c (a:Act) d v w,Q0 (.panic c) (a.put d v) w→Q0 (.panic c) a w)
  (hexit:∀ (Md Me Mf Mg Mh Mi Mj Ml Mm Mn Mp Mq Mr Ms Mt Mu Mw Mx My Mz Na Nb Nc Nd Ne Ng Nh Ni Nj Nk Nl Nm Nn Np Nq Nr Ns Nt Nu Nv Nw Nx Ny Nz Oa Ob Oc Od Oe Og Oh Oi Oj Ok Ol Oo Op Oq Os Ot Ou Ov Ow Ox Oy Oz:Value) (w':World),Sb w' base g (stepQ (List.replicate A.st true) r (stp A.arcs q l) S)→Fr (fun k=>k=g) w w'→Q0 .normal ⟨#[c0,c1,c2,c3,c4,.pointer (some ⟨V,0,none⟩),c6,c7,c8,c9,Aa,Ab,Ad,.slice (some ⟨lb,loff,none⟩) ln lc,.int .i64 (k:Int),Ae,Af,Ag,.int .i64 (l:Int),.slice (some ⟨g,0,none⟩) A.st A.st,.int .i64 (i:Int),Md,Me,Mf,Al,Am,An,Ao,Ap,Aq,Ar,As,Av,Aw,Ax,Ay,Az,Ba,Bb,Bc,Be,Bf,Bh,Bi,Bj,Bk,Bm,Bn,Bo,Bp,Bq,Br,Bs,Bt,Bu,Bv,Bw,Bx,By,Bz,Ca,Cb,Cc,Cd,Ce,Cf,Cg,Ch,Ci,Cj,Ck,Cl,Cm,Cn,Co,Cp,Cq,Cr,Ct,Cu,Cv,Cw,Cx,Cy,Cz,Da,Db,Dc,Dd,De,Df,Dg,Dh,Di,Dj,Dk,Dl,Dn,Dp,Dq,Dr,Dt,Du,Dv,Dw,Dx,Dy,Dz,Ea,Eb,Ec,Ed,Ee,Ef,Eg,Eh,Ei,Ej,Ek,El,Em,En,Eo,Ep,Eq,Er,Es,Et,Eu,Ev,Ew,Ex,Ey,Ez,Fa,Fb,Fc,Fd,Fe,Ff,Fg,Fh,Fi,Fj,Fk,Fm,Fn,Fo,Fp,Fq,Fs,Ft,Fu,Fv,Fw,Fx,Fy,Fz,Ga,Gb,Gc,Gd,Ge,Gf,Gg,Gh,Gi,Gj,Gk,Gl,Gm,Gn,Mg,Mh,Mi,Mj,Ml,Mm,Mn,Mp,Mq,Mr,Ms,Mt,Mu,Mw,Mx,My,Mz,Na,Nb,Nc,Nd,Ne,Ng,Nh,Ni,Nj,Nk,Nl,Nm,Nn,Np,Nq,Nr,Ns,Nt,Nu,Nv,Nw,Nx,Ny,Nz,Oa,Ob,Oc,Od,Oe,Og,Oh,Oi,Oj,Ok,Ol,Oo,Op,Oq,Os,Ot,Ou,Ov,Ow,Ox,Oy,Oz,Jc,Jd,Je,Jf,Jg,Jh,Ji,Jj,Jk,Jl,Jm,Jn,Jo,Jp,Jq,Jr,Js,Jt,Ju,Jv,Jw,Jx,Jy,Jz,Ka,Kb,Kc,Kd,Ke,Kf,Kg,Kh,Ki,Kj,Kk,Kl,Km,Kn,Ko,Kp,Kq,Kr,Ks,Kt,Ku,Kv,Kw,Kx,Kz,La,Lb,Lc,Ld,Le,Lf,Lg,Lh,Li,Lj,Lk,Ll,Lm,Ln,Lo,Lp,Lq,Lr,Lt,Lu,Lv,Lx,Ly,Lz,Ma,Mb,Mc],[]⟩ w') :
  Code.wp Tryz.prog (eB 10) Q0 ⟨#[c0,c1,c2,c3,c4,.pointer (some ⟨V,0,none⟩),c6,c7,c8,c9,Aa,Ab,Ad,.slice (some ⟨lb,loff,none⟩) ln lc,.int .i64 (k:Int),Ae,Af,Ag,.int .i64 (l:Int),.slice (some ⟨g,0,none⟩) A.st A.st,.int .i64 (i:Int),.int .i64 0,Ah,Ak,Al,Am,An,Ao,Ap,Aq,Ar,As,Av,Aw,Ax,Ay,Az,Ba,Bb,Bc,Be,Bf,Bh,Bi,Bj,Bk,Bm,Bn,Bo,Bp,Bq,Br,Bs,Bt,Bu,Bv,Bw,Bx,By,Bz,Ca,Cb,Cc,Cd,Ce,Cf,Cg,Ch,Ci,Cj,Ck,Cl,Cm,Cn,Co,Cp,Cq,Cr,Ct,Cu,Cv,Cw,Cx,Cy,Cz,Da,Db,Dc,Dd,De,Df,Dg,Dh,Di,Dj,Dk,Dl,Dn,Dp,Dq,Dr,Dt,Du,Dv,Dw,Dx,Dy,Dz,Ea,Eb,Ec,Ed,Ee,Ef,Eg,Eh,Ei,Ej,Ek,El,Em,En,Eo,Ep,Eq,Er,Es,Et,Eu,Ev,Ew,Ex,Ey,Ez,Fa,Fb,Fc,Fd,Fe,Ff,Fg,Fh,Fi,Fj,Fk,Fm,Fn,Fo,Fp,Fq,Fs,Ft,Fu,Fv,Fw,Fx,Fy,Fz,Ga,Gb,Gc,Gd,Ge,Gf,Gg,Gh,Gi,Gj,Gk,Gl,Gm,Gn,Go,Gp,Gq,Gr,Gs,Gt,Gu,Gv,Gw,Gx,Gy,Gz,Ha,Hb,Hc,Hd,He,Hf,Hg,Hh,Hi,Hj,Hk,Hl,Hm,Hn,Ho,Hp,Hq,Hr,Hs,Ht,Hu,Hv,Hw,Hx,Hy,Hz,Ia,Ib,Ic,Id,Ie,Ig,Ih,Ii,Ij,Ik,Il,Im,Io,Ip,Iq,Ir,It,Iu,Iv,Iw,Ix,Iy,Iz,Ja,Jb,Jc,Jd,Je,Jf,Jg,Jh,Ji,Jj,Jk,Jl,Jm,Jn,Jo,Jp,Jq,Jr,Js,Jt,Ju,Jv,Jw,Jx,Jy,Jz,Ka,Kb,Kc,Kd,Ke,Kf,Kg,Kh,Ki,Kj,Kk,Kl,Km,Kn,Ko,Kp,Kq,Kr,Ks,Kt,Ku,Kv,Kw,Kx,Kz,La,Lb,Lc,Ld,Le,Lf,Lg,Lh,Li,Lj,Lk,Ll,Lm,Ln,Lo,Lp,Lq,Lr,Lt,Lu,Lv,Lx,Ly,Lz,Ma,Mb,Mc],[]⟩ w:=by
 conv=>arg 2; whnf
 have hg0:=hid hg
 have hb0:=hid hb
 have hexit:=hid hexit
 have hst:=hS.out.st
 have hnum:=hS.out.num
 obtain ⟨q0,r0,b1,o1,b2,o2,hP0,rfl,rfl,_,_⟩:=hR.out.get hi
 obtain ⟨hq0,hr0⟩:q0=q∧r0=r:=by have h:=hP0.symm.trans hP.out; injection h with h; injection h with h1 h2; exact ⟨h1,h2⟩
 subst hq0 hr0
 have ik:(k:Int)<(ln:Int):=by omega
 have ik0:(0:Int)≤(k:Int):=by omega
 have ii:(i:Int)<(pn:Int):=by omega
 have ii0:(0:Int)≤(i:Int):=by omega
 have hlt0:q0<A.st∨A.st≤q0:=Nat.lt_or_ge _ _
 clear hg hb hP0
 go_wp2_with fail
 go_loopw [21] (fun iv wr=>∃ j:Nat,j≤nr∧iv=.int .i64 (j:Int)∧Sb wr base g (stepQ (List.replicate A.st true) r0 (stp (A.arcs.take j) q0 l) S)∧Fr (fun k=>k=g) w wr) (fun iv _=>nr-(intOf iv).toNat)
 case atStart=>exact ⟨0,by omega,rfl,hg0.out,Fr.refl _ _⟩
 case round =>
  obtain ⟨j,hj,rfl,hrow,hfr⟩:=hrel
  have hbr:Below W.heap.size W wr:=hb0.out.trans (hfr.below (fun k e=>by subst e; exact hgb) hb0.out.size)
  have y6:=(hS.out.vw.next hbr).cell (i:=6) rfl
  by_cases hlt:j<nr
  ·obtain ⟨x,hxk,b,off,hro,hcs⟩:=(hS.out.mo.arcs.next hbr).get hlt
   subst hro
   obtain ⟨q1,r1,b1',o1',b2',o2',hP1,e1,e2,p1,p2⟩:=(hR.out.next hbr).get hi
   obtain ⟨hq1,hr1⟩:q1=q0∧r1=r0:=by have h:=hP1.symm.trans hP.out; injection h with h; injection h with h1 h2; exact ⟨h1,h2⟩
   subst hq1 hr1
   injection e1 with e1; injection e1 with e1 e1'; subst e1 e1'
   injection e2 with e2; injection e2 with e2 e2'; subst e2 e2'
   have hxN:=List.mem_of_getElem? hxk
   have ht:=hS.out.arc x hxN
   have hcx:tc (wt x)≤C:=hS.out.cst.1 x hxN
   have hC:=hS.out.cC
   have i1:(j:Int)<(nr:Int):=by omega
   have i0:(0:Int)≤(j:Int):=by omega
   have i2:(x.2.2.1:Int)<(A.st:Int):=by omega
   have i3:(0:Int)≤(x.2.2.1:Int):=by omega
   have i4:(tc (wt x):Int)≤1048576:=by omega
   have i5:(0:Int)≤(tc (wt x):Int):=by omega
   have i6:(r1:Int)≤1000000000:=by omega
   have i7:(0:Int)≤(r1:Int):=by omega
   have hbX:Below wr.heap.size wr (wr.alloc (.cells (acC x).toArray 54)):=below_alloc _
   have hX:=Bl.fresh wr (acC x) 54
   have z0:=hX.cell (i:=0) rfl
   have z1:=hX.cell (i:=1) rfl
   have z2:=hX.cell (i:=2) rfl
   have z6:=hX.cell (i:=6) rfl
   have hE2:=(hE.out.next hbr).next hbX
   have l0:=hE2 0 _ rfl
   have l1:=hE2 1 _ rfl
   simp only [Nat.add_zero] at l0
   have p1':=cellN p1 hbX
   have p2':=cellN p2 hbX
   have hrow2:=hrow.next hbX
   have hfr2:=hid (hfr.trans (below_fr hbX _))
   obtain ⟨Sj,hSj⟩:∃ Sj,stepQ (List.replicate A.st true) r1 (stp (A.arcs.take j) q1 l) S=Sj:=⟨_,rfl⟩
   have hSjl:Sj.length=A.st:=by rw [←hSj,stepQ_len]; exact hSl.out
   have hnx:∀ (S':Vx),(¬ (x.1=q1∧x.2.1=l)→S'=Sj)→((x.1=q1∧x.2.1=l)→S'=noteV Sj x.2.2.1 (r1+tc (wt x)))→stepQ (List.replicate A.st true) r1 (stp (A.arcs.take (j+1)) q1 l) S=S':=fun S' h1 h2=>by
    by_cases hm:x.1=q1∧x.2.1=l
    ·rw [stp_yes hxk hm.1 hm.2,stepQ_app,hSj,h2 hm]
     show (if _ then _ else _)=_
     rw [if_pos (by rw [List.getD_eq_getElem?_getD,List.getElem?_replicate,if_pos ht.2]; rfl)]; rfl
    ·rw [stp_no hxk hm,hSj,h1 hm]
   have hnx:=hid hnx
   rw [hSj] at hrow2
   clear hSj hxk hrow hfr hxN hcx hC p1 p2 hX hP1 hE2
   rw [hSjl] at hrow2
   have c1:=hrow2.cell ht.2
   have c2:=hrow2.free x.2.2.1
   go_upto_region 39 with ((first | ((with_reducible refine wp_loadArc rfl _ rfl b (off+j*11) ?_ x hcs ?_); exact rfl) | ((with_reducible refine wp_storeVArc rfl _ _ rfl _ _ ?_ x ?_ ?_ ?_); exact rfl; exact rfl; exact rfl)))
   generalize hW2:(wr.alloc (.cells (acC x).toArray 54))=W2 at *
   clear hW2 hbX
   by_cases hm:x.1=q1∧x.2.1=l
   ·have k1:((x.1:Int)==(q1:Int))=true:=by rw [beq_iff_eq]; omega
    have k1':(x.1:Int)=(q1:Int):=by omega
    have k2:((x.2.1:Int)==(l:Int))=true:=by rw [beq_iff_eq]; omega
    have k2':(x.2.1:Int)=(l:Int):=by omega
    obtain ⟨o,ho⟩:∃ o,Sj[x.2.2.1]? = some o:=⟨_,List.getElem?_eq_getElem (by rw [hSjl]; exact ht.2)⟩
    have e1:fS Sj x.2.2.1=oV o:=by unfold fS; rw [List.getD_eq_getElem?_getD,ho]; rfl
    rw [e1] at c1
    clear e1
    unfold oV at c1
    have hset:noteV Sj x.2.2.1 (r1+tc (wt x))=Sj.set x.2.2.1 (some (r1+tc (wt x)))→Hid (stepQ (List.replicate A.st true) r1 (stp (A.arcs.take (j+1)) q1 l) S=Sj.set x.2.2.1 (some (r1+tc (wt x)))):=fun h=>hid (by rw [hnx.out (noteV Sj x.2.2.1 (r1+tc (wt x))) (fun h=>absurd hm h) (fun _=>rfl),h])
    have hrow3:=hid hrow2
    have hsum:Hid ((r1:Int)+(tc (wt x):Int)=((r1+tc (wt x):Nat):Int)):=hid (by omega)
    cases o with
    | none =>
     rw [oI_none] at c1
     have hn:=hset (noteV_new ho)
     clear ho hset hrow2
     go_quiet (fail)
     go_upto_region 40 with fail
     go_quiet (fail)
     go_wp2_with fail
     go_roundw
     case rel=>exact ⟨j+1,by omega,by go_num,by rw [hn.out]; unfold Sb; rw [List.length_set,hSjl]; exact (hrow3.out.put x.2.2.1 (.int .i64 ((r1:Int)+(tc (wt x):Int)))).congr (fun i _=>by rw [hsum.out]; exact fS_set Sj x.2.2.1 (by rw [hSjl]; exact ht.2) _ i),(hfr2.out.drewN _).trans (Fr.set (T:=fun k=>k=g) _ (p:=⟨g,x.2.2.1,none⟩) rfl _)⟩
     case measure=>simp [intOf]; omega
    | some u =>
     rw [oI_some] at c1
     have k3:¬ (u:Int)<0:=by omega
     by_cases hc:r1+tc (wt x)<u
     ·have k4:(r1:Int)+(tc (wt x):Int)<(u:Int):=by omega
      have hn:=hset (noteV_less ho hc)
      clear ho hset hrow2
      go_quiet (fail)
      go_upto_region 40 with fail
      go_quiet (fail)
      go_wp2_with fail
      go_roundw
      case rel=>exact ⟨j+1,by omega,by go_num,by rw [hn.out]; unfold Sb; rw [List.length_set,hSjl]; exact (hrow3.out.put x.2.2.1 (.int .i64 ((r1:Int)+(tc (wt x):Int)))).congr (fun i _=>by rw [hsum.out]; exact fS_set Sj x.2.2.1 (by rw [hSjl]; exact ht.2) _ i),(hfr2.out.drewN _).trans (Fr.set (T:=fun k=>k=g) _ (p:=⟨g,x.2.2.1,none⟩) rfl _)⟩
      case measure=>simp [intOf]; omega
     ·have k4:¬ (r1:Int)+(tc (wt x):Int)<(u:Int):=by omega
      have hn:=hid (hnx.out Sj (fun _=>rfl) (fun _=>(noteV_keep ho hc).symm))
      clear ho hset hrow2
      go_quiet (fail)
      go_upto_region 40 with fail
      go_quiet (fail)
      go_wp2_with fail
      go_roundw
      case rel=>exact ⟨j+1,by omega,by go_num,by rw [hn.out]; unfold Sb; rw [hSjl]; exact hrow3.out,hfr2.out.drewN _⟩
      case measure=>simp [intOf]; omega
   ·have hn:=hid (hnx.out Sj (fun _=>rfl) (fun h=>absurd h hm))
    have hrow3:=hid hrow2
    by_cases hm1:x.1=q1
    ·have hm2:¬ x.2.1=l:=fun e=>hm ⟨hm1,e⟩
     have k1:((x.1:Int)==(q1:Int))=true:=by rw [beq_iff_eq]; omega
     have k1':(x.1:Int)=(q1:Int):=by omega
     have k2:((x.2.1:Int)==(l:Int))=false:=by rw [beq_eq_false_iff_ne]; omega
     have k2':¬ (x.2.1:Int)=(l:Int):=by omega
     go_quiet (fail)
     go_upto_region 40 with fail
     go_quiet (fail)
     go_wp2_with fail
     go_roundw
     case rel=>exact ⟨j+1,by omega,by go_num,by rw [hn.out]; unfold Sb; rw [hSjl]; exact hrow3.out,hfr2.out.drewN _⟩
     case measure=>simp [intOf]; omega
    ·have k1:((x.1:Int)==(q1:Int))=false:=by rw [beq_eq_false_iff_ne]; omega
     have k1':¬ (x.1:Int)=(q1:Int):=by omega
     go_quiet (fail)
     go_upto_region 40 with fail
     go_quiet (fail)
     go_wp2_with fail
     go_roundw
     case rel=>exact ⟨j+1,by omega,by go_num,by rw [hn.out]; unfold Sb; rw [hSjl]; exact hrow3.out,hfr2.out.drewN _⟩
     case measure=>simp [intOf]; omega
  ·obtain rfl:j=nr:=by omega
   have i1:¬ (j:Int)<(j:Int):=by omega
   have htk:A.arcs.take j=A.arcs:=List.take_of_length_le (by rw [hS.out.mo.arcs.lenMap]; exact Nat.le_refl _)
   rw [htk] at hrow
   clear htk
   have hrow:=hid hrow
   go_wp2_with fail
   exact hexit.out _ _ _ _ _ _ _ _ _ _ _ _ _ _ _ _ _ _ _ _ _ _ _ _ _ _ _ _ _ _ _ _ _ _ _ _ _ _ _ _ _ _ _ _ _ _ _ _ _ _ _ _ _ _ _ _ _ _ _ _ _ _ _ _ _ _ _ hrow.out hfr
end
section
open Go.RowKit
def subQ (A:Au) (l:Nat) (P:List (Nat×Nat)) (S:Vx):Vx:=P.foldl (fun S p=>stepQ (List.replicate A.st true) p.2 (stp A.arcs p.1 l) S) S
theorem subQ_len (A:Au) (l:Nat):∀ (P:List (Nat×Nat)) (S:Vx),(subQ A l P S).length=S.length
 | [],S=>rfl
 | p::P,S=>by
  show (subQ A l P _).length=_
  rw [subQ_len A l P,stepQ_len]
theorem subQ_snoc (A:Au) (l:Nat) {P:List (Nat×Nat)} {i:Nat} {p:Nat×Nat} (h:P[i]? = some p) (S:Vx):subQ A l (P.take (i+1)) S=stepQ (List.replicate A.st true) p.2 (stp A.arcs p.1 l) (subQ A l (P.take i) S):=by
 unfold subQ; rw [take_snoc h,List.foldl_append]; rfl
theorem subQ_next (A:Au) (l:Nat) (R:Vx):∀ q,subQ A l (supTo R q) (List.replicate R.length none)=nextTo A.arcs (List.replicate A.st true) R l q
 | 0=>rfl
 | q+1=>by
  cases h:R[q]? with
  | none =>
   have h1:supTo R (q+1)=supTo R q:=by
    unfold supTo; rw [List.range_succ,List.filterMap_append,List.filterMap_cons,List.getD_eq_getElem?_getD,h]; simp
   rw [h1,subQ_next A l R q]
   show _=(match R[q]? with | some (some r)=>_ | _=>_)
   rw [h]
  | some o =>
   cases o with
   | none=>rw [supTo_none h,subQ_next A l R q,nextTo_none h]
   | some r =>
    rw [supTo_some h,nextTo_some h,←subQ_next A l R q]
    unfold subQ; rw [List.foldl_append]; rfl
theorem subQ_all (A:Au) (l:Nat) (R:Vx):subQ A l (sup R) (List.replicate R.length none)=nextV A.arcs (List.replicate A.st true) R l:=subQ_next A l R R.length
set_option maxRecDepth 100000 in
set_option maxHeartbeats 4000000 in
theorem rd_sts (W:World) (V syms C:Nat) (A:Au) (io:Option Addr) (ci:Nat) (fo:Option Addr) (cf:Nat) (ro:Option Addr) (nr cr:Nat) (hS:Hid (Rta W V syms C A io ci fo cf ro nr cr)) (lb loff ln lc k:Nat) (hk:k<ln) (hln:ln≤64) (so:Option Addr) (sc:Nat) (uo:Option Addr) (uc pn:Nat) (P:List (Nat×Nat)) (hE:Hid (Cs W lb (loff+k*2) [.slice so pn sc,.slice uo pn uc])) (hR:Hid (Rs W so sc uo uc pn P)) (base g l:Nat) (S:Vx) (hSl:Hid (S.length=A.st)) (hpn:pn≤64) (hr:Hid (∀ p∈P,p.2≤1000000000)) (w:World) (hb:Below W.heap.size W w) (hgb:W.heap.size≤g) (hg:Sb w base g S)
  (c0 c1 c2 c3 c4 c6 c7 c8 c9 Aa Ab Ad Ae Af Ag Ah Ak Al Am An Ao Ap Aq Ar As Av Aw Ax Ay Az Ba Bb Bc Be Bf Bh Bi Bj Bk Bm Bn Bo Bp Bq Br Bs Bt Bu Bv Bw Bx By Bz Ca Cb Cc Cd Ce Cf Cg Ch Ci Cj Ck Cl Cm Cn Co Cp Cq Cr Ct Cu Cv Cw Cx Cy Cz Da Db Dc Dd De Df Dg Dh Di Dj Dk Dl Dn Dp Dq Dr Dt Du Dv Dw Dx Dy Dz Ea Eb Ec Ed Ee Ef Eg Eh Ei Ej Ek El Em En Eo Ep Eq Er Es Et Eu Ev Ew Ex Ey Ez Fa Fb Fc Fd Fe Ff Fg Fh Fi Fj Fk Fm Fn Fo Fp Fq Fs Ft Fu Fv Fw Fx Fy Fz Ga Gb Gc Gd Ge Gf Gg Gh Gi Gj Gk Gl Gm Gn Go Gp Gq Gr Gs Gt Gu Gv Gw Gx Gy Gz Ha Hb Hc Hd He Hf Hg Hh Hi Hj Hk Hl Hm Hn Ho Hp Hq Hr Hs Ht Hu Hv Hw Hx Hy Hz Ia Ib Ic Id Ie Ig Ih Ii Ij Ik Il Im Io Ip Iq Ir It Iu Iv Iw Ix Iy Iz Ja Jb Jc Jd Je Jf Jg Jh Ji Jj Jk Jl Jm Jn Jo Jp Jq Jr Js Jt Ju Jv Jw Jx Jy Jz Ka Kb Kc Kd Ke Kf Kg Kh Ki Kj Kk Kl Km Kn Ko Kp Kq Kr Ks Kt Ku Kv Kw Kx Kz La Lb Lc Ld Le Lf Lg Lh Li Lj Lk Ll Lm Ln Lo Lp Lq Lr Lt Lu Lv Lx Ly Lz Ma Mb Mc Md:Value) (Q0:Exit→Act→World→Prop) (hpan:∀ c (a:Act) d v w,Q0 (.panic c) (a.put d v) w→Q0 (.panic c) a w)
  (hexit:∀ (Me Mf Mg Mh Mi Mj Ml Mm Mn Mp Mq Mr Ms Mt Mu Mw Mx My Mz Na Nb Nc Nd Ne Ng Nh Ni Nj Nk Nl Nm Nn Np Nq Nr Ns Nt Nu Nv Nw Nx Ny Nz Oa Ob Oc Od Oe Og Oh Oi Oj Ok Ol Oo Op Oq Os Ot Ou Ov Ow Ox Oy Oz Pa Pb Pc Pd Pe Pf Pg Ph Pi Pj Pk Pl:Value) (w':World),Sb w' base g (subQ A l P S)→Fr (fun k=>k=g) w w'→Q0 .normal ⟨#[c0,c1,c2,c3,c4,.pointer (some ⟨V,0,none⟩),c6,c7,c8,c9,Aa,Ab,Ad,.slice (some ⟨lb,loff,none⟩) ln lc,.int .i64 (k:Int),Ae,Af,Ag,.int .i64 (l:Int),.slice (some ⟨g,0,none⟩) A.st A.st,Me,Mf,Mg,Mh,Am,An,Ao,Ap,Aq,Ar,As,Av,Aw,Ax,Ay,Az,Ba,Bb,Bc,Be,Bf,Bh,Bi,Bj,Bk,Bm,Bn,Bo,Bp,Bq,Br,Bs,Bt,Bu,Bv,Bw,Bx,By,Bz,Ca,Cb,Cc,Cd,Ce,Cf,Cg,Ch,Ci,Cj,Ck,Cl,Cm,Cn,Co,Cp,Cq,Cr,Ct,Cu,Cv,Cw,Cx,Cy,Cz,Da,Db,Dc,Dd,De,Df,Dg,Dh,Di,Dj,Dk,Dl,Dn,Dp,Dq,Dr,Dt,Du,Dv,Dw,Dx,Dy,Dz,Ea,Eb,Ec,Ed,Ee,Ef,Eg,Eh,Ei,Ej,Ek,El,Em,En,Eo,Ep,Eq,Er,Es,Et,Eu,Ev,Ew,Ex,Ey,Ez,Fa,Fb,Fc,Fd,Fe,Ff,Fg,Fh,Fi,Fj,Fk,Fm,Fn,Fo,Fp,Fq,Fs,Ft,Fu,Fv,Fw,Fx,Fy,Fz,Ga,Gb,Gc,Gd,Ge,Mi,Mj,Ml,Mm,Mn,Mp,Mq,Mr,Ms,Mt,Mu,Mw,Mx,My,Mz,Na,Nb,Nc,Nd,Ne,Ng,Nh,Ni,Nj,Nk,Nl,Nm,Nn,Np,Nq,Nr,Ns,Nt,Nu,Nv,Nw,Nx,Ny,Nz,Oa,Ob,Oc,Od,Oe,Og,Oh,Oi,Oj,Ok,Ol,Oo,Op,Oq,Os,Ot,Ou,Ov,Ow,Ox,Oy,Oz,Pa,Pb,Pc,Pd,Pe,Pf,Pg,Ph,Pi,Pj,Pk,Pl,Jd,Je,Jf,Jg,Jh,Ji,Jj,Jk,Jl,Jm,Jn,Jo,Jp,Jq,Jr,Js,Jt,Ju,Jv,Jw,Jx,Jy,Jz,Ka,Kb,Kc,Kd,Ke,Kf,Kg,Kh,Ki,Kj,Kk,Kl,Km,Kn,Ko,Kp,Kq,Kr,Ks,Kt,Ku,Kv,Kw,Kx,Kz,La,Lb,Lc,Ld,Le,Lf,Lg,Lh,Li,Lj,Lk,Ll,Lm,Ln,Lo,Lp,Lq,Lr,Lt,Lu,Lv,Lx,Ly,Lz,Ma,Mb,Mc,Md],[]⟩ w') :
  Code.wp Tryz.prog (eB 8) Q0 ⟨#[c0,c1,c2,c3,c4,.pointer (some ⟨V,0,none⟩),c6,c7,c8,c9,Aa,Ab,Ad,.slice (some ⟨lb,loff,none⟩) ln lc,.int .i64 (k:Int),Ae,Af,Ag,.int .i64 (l:Int),.slice (some ⟨g,0,none⟩) A.st A.st,.int .i64 0,Ah,Ak,Al,Am,An,Ao,Ap,Aq,Ar,As,Av,Aw,Ax,Ay,Az,Ba,Bb,Bc,Be,Bf,Bh,Bi,Bj,Bk,Bm,Bn,Bo,Bp,Bq,Br,Bs,Bt,Bu,Bv,Bw,Bx,By,Bz,Ca,Cb,Cc,Cd,Ce,Cf,Cg,Ch,Ci,Cj,Ck,Cl,Cm,Cn,Co,Cp,Cq,Cr,Ct,Cu,Cv,Cw,Cx,Cy,Cz,Da,Db,Dc,Dd,De,Df,Dg,Dh,Di,Dj,Dk,Dl,Dn,Dp,Dq,Dr,Dt,Du,Dv,Dw,Dx,Dy,Dz,Ea,Eb,Ec,Ed,Ee,Ef,Eg,Eh,Ei,Ej,Ek,El,Em,En,Eo,Ep,Eq,Er,Es,Et,Eu,Ev,Ew,Ex,Ey,Ez,Fa,Fb,Fc,Fd,Fe,Ff,Fg,Fh,Fi,Fj,Fk,Fm,Fn,Fo,Fp,Fq,Fs,Ft,Fu,Fv,Fw,Fx,Fy,Fz,Ga,Gb,Gc,Gd,Ge,Gf,Gg,Gh,Gi,Gj,Gk,Gl,Gm,Gn,Go,Gp,Gq,Gr,Gs,Gt,Gu,Gv,Gw,Gx,Gy,Gz,Ha,Hb,Hc,Hd,He,Hf,Hg,Hh,Hi,Hj,Hk,Hl,Hm,Hn,Ho,Hp,Hq,Hr,Hs,Ht,Hu,Hv,Hw,Hx,Hy,Hz,Ia,Ib,Ic,Id,Ie,Ig,Ih,Ii,Ij,Ik,Il,Im,Io,Ip,Iq,Ir,It,Iu,Iv,Iw,Ix,Iy,Iz,Ja,Jb,Jc,Jd,Je,Jf,Jg,Jh,Ji,Jj,Jk,Jl,Jm,Jn,Jo,Jp,Jq,Jr,Js,Jt,Ju,Jv,Jw,Jx,Jy,Jz,Ka,Kb,Kc,Kd,Ke,Kf,Kg,Kh,Ki,Kj,Kk,Kl,Km,Kn,Ko,Kp,Kq,Kr,Ks,Kt,Ku,Kv,Kw,Kx,Kz,La,Lb,Lc,Ld,Le,Lf,Lg,Lh,Li,Lj,Lk,Ll,Lm,Ln,Lo,Lp,Lq,Lr,Lt,Lu,Lv,Lx,Ly,Lz,Ma,Mb,Mc,Md],[]⟩ w:=by
 conv=>arg 2; whnf
 have hg0:=hid hg
 have hb0:=hid hb
 have hexit:=hid hexit
 have ik:(k:Int)<(ln:Int):=by omega
 have ik0:(0:Int)≤(k:Int):=by omega
 clear hg hb
 go_wp2_with fail
 go_loopw [20] (fun iv wr=>∃ i:Nat,i≤pn∧iv=.int .i64 (i:Int)∧Sb wr base g (subQ A l (P.take i) S)∧Fr (fun k=>k=g) w wr) (fun iv _=>pn-(intOf iv).toNat)
 case atStart=>exact ⟨0,by omega,rfl,hg0.out,Fr.refl _ _⟩
 case round =>
  obtain ⟨i,hi,rfl,hrow,hfr⟩:=hrel
  have hbr:Below W.heap.size W wr:=hb0.out.trans (hfr.below (fun k e=>by subst e; exact hgb) hb0.out.size)
  have l0:=(hE.out.next hbr) 0 _ rfl
  simp only [Nat.add_zero] at l0
  by_cases hlt:i<pn
  ·obtain ⟨q,r,_,_,_,_,hP,_,_,_,_⟩:=hR.out.get hlt
   have i1:(i:Int)<(pn:Int):=by omega
   have i0:(0:Int)≤(i:Int):=by omega
   have hsn:=hid (subQ_snoc A l hP S)
   have hrr:=hr.out _ (List.mem_of_getElem? hP)
   have hl2:Hid ((subQ A l (P.take i) S).length=A.st):=hid (by rw [subQ_len]; exact hSl.out)
   have hP2:=hid hP
   have hrow2:=hid hrow
   have hfr2:=hid hfr
   have hbr2:=hid hbr
   clear hP hrow hfr hbr
   go_upto_block 10 with fail
   refine rd_arcs W V syms C A io ci fo cf ro nr cr hS lb loff ln lc k hk hln so sc uo uc pn P hE hR base g q r l i _ hl2 hP2 hlt hpn hrr wr hbr2.out hgb hrow2.out _ _ _ _ _ _ _ _ _ _ _ _ _ _ _ _ _ _ _ _ _ _ _ _ _ _ _ _ _ _ _ _ _ _ _ _ _ _ _ _ _ _ _ _ _ _ _ _ _ _ _ _ _ _ _ _ _ _ _ _ _ _ _ _ _ _ _ _ _ _ _ _ _ _ _ _ _ _ _ _ _ _ _ _ _ _ _ _ _ _ _ _ _ _ _ _ _ _ _ _ _ _ _ _ _ _ _ _ _ _ _ _ _ _ _ _ _ _ _ _ _ _ _ _ _ _ _ _ _ _ _ _ _ _ _ _ _ _ _ _ _ _ _ _ _ _ _ _ _ _ _ _ _ _ _ _ _ _ _ _ _ _ _ _ _ _ _ _ _ _ _ _ _ _ _ _ _ _ _ _ _ _ _ _ _ _ _ _ _ _ _ _ _ _ _ _ _ _ _ _ _ _ _ _ _ _ _ _ _ _ _ _ _ _ _ _ _ _ _ _ _ _ _ _ _ _ _ _ _ _ _ _ _ _ _ _ _ _ _ _ _ _ _ _ _ _ _ _ _ _ _ _ _ _ _ _ _ _ _ _ _ _ _ _ _ _ _ _ _ _ _ _ _ _ _ _ _ _ _ _ _ _ _ _ _ _ _ _ _ _ _ _ _ _ _ _ _ _ _ _ _ _ _ _ _ hpan ?_
   intro _ _ _ _ _ _ _ _ _ _ _ _ _ _ _ _ _ _ _ _ _ _ _ _ _ _ _ _ _ _ _ _ _ _ _ _ _ _ _ _ _ _ _ _ _ _ _ _ _ _ _ _ _ _ _ _ _ _ _ _ _ _ _ _ _ _ w3 hg3 hf3
   have hg3:=hid hg3
   have hf3:=hid (hfr2.out.trans hf3)
   go_wp2_with fail
   go_roundw
   case rel=>exact ⟨i+1,by omega,by go_num,by rw [hsn.out]; exact hg3.out,hf3.out⟩
   case measure=>simp [intOf]; omega
  ·obtain rfl:i=pn:=by omega
   have i1:¬ (i:Int)<(i:Int):=by omega
   rw [List.take_of_length_le (by rw [hR.out.len]; exact Nat.le_refl _)] at hrow
   have hrow:=hid hrow
   go_wp2_with fail
   exact hexit.out _ _ _ _ _ _ _ _ _ _ _ _ _ _ _ _ _ _ _ _ _ _ _ _ _ _ _ _ _ _ _ _ _ _ _ _ _ _ _ _ _ _ _ _ _ _ _ _ _ _ _ _ _ _ _ _ _ _ _ _ _ _ _ _ _ _ _ _ _ _ _ _ _ _ _ _ _ _ hrow.out hfr
end
end Go.Proofs.YtnapapijhhldpaaGreatDoor

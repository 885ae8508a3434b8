/-
  Texts joined by program: TwNh, TwNi. No condition of its own.
-/
import Derived.Test.YtnapapijhhldpaaGreatDoorJcAV
namespace Go.Proofs.YtnapapijhhldpaaGreatDoor
set_option linter.unusedSimpArgs false
set_option linter.unusedVariables false
section
open Go.RowKit
theorem one_arcs {N:List Ac} {us:List Bool} {k l:Nat} {X Y:Ds} (h:oneS N us k l X=some Y):Y.arcs.length≤X.arcs.length+1:=by
 unfold oneS at h
 split at h
 ·cases h; exact Nat.le_succ _
 ·split at h
  ·cases h; simp
  ·split at h
   ·cases h
   ·cases h; simp
theorem rowS_none {N:List Ac} {us:List Bool} {k n l:Nat} {X:Ds} (h:oneS N us k l X=none):rowS N us k (n+1) l X=none:=by
 show (match oneS N us k l X with | none=>none | some Y=>rowS N us k n (l+1) Y)=none
 rw [h]
theorem rowS_some {N:List Ac} {us:List Bool} {k n l:Nat} {X Y:Ds} (h:oneS N us k l X=some Y):rowS N us k (n+1) l X=rowS N us k n (l+1) Y:=by
 show (match oneS N us k l X with | none=>none | some Y=>rowS N us k n (l+1) Y)=_
 rw [h]
set_option maxRecDepth 100000 in
set_option maxHeartbeats 4000000 in
theorem det_row (W:World) (V gu syms C:Nat) (N:Au) (us:List Bool) (io:Option Addr) (ci:Nat) (fo:Option Addr) (cf:Nat) (ro:Option Addr) (nr cr:Nat) (vo:Option Addr) (cv:Nat) (hS:Hid (Sta W V gu syms C N us io ci fo cf ro nr cr vo cv)) (G0 RB O mb k:Nat) (sv iv fv av:Value) (gs:List Nat) (ini fin:List Tw) (X:Ds) (w:World) (hb:Below W.heap.size W w) (hk:k<X.subs.length) (hX:Hid (Dok N.st C k X)) (hD:Dm w W.heap.size O N.st mb sv gs X.subs) (hO:Om w O syms 0 iv fv av ini fin X.arcs) (hla:X.arcs.length≤3900) (hG:G0≤RB∧RB<W.heap.size) (hOW:W.heap.size≤O) (hmb:W.heap.size≤mb) (hRB:Bl RB [.int .i64 0,.slice none 0 0,.int .i64 0,.int .i64 0,.slice none 0 0,.slice none 0 0,.slice none 0 0] 30 W)
  (c0 c1 c3 c5 c7 c8 Aa Ab Ad Ae Af Ag Ah Ak Al Am An Ao Ap Aq Ar As Av Aw Ax Ay Az Ba Bb Bc Be Bf Bh Bi Bj Bk Bm Bn Bo Bp Bq Br Bs Bt Bu Bv Bw Bx By Bz Ca Cb Cc Cd Ce Cf Cg Ch Ci Cj Ck Cl Cm Cn Co Cp Cq Cr Ct Cu Cv Cw Cx Cy Cz Da Db Dc Dd De Df Dg Dh Di Dj Dk Dl Dn Dp Dq Dr Dt Du Dv Dw Dx Dy Dz Ea Eb Ec Ed Ee Ef Eg Eh Ei Ej Ek El Em En Eo Ep Eq Er Es Et Eu Ev Ew Ex Ey Ez Fa Fb Fc Fd Fe Ff Fg Fh Fi Fj Fk Fm Fn Fo Fp Fq Fs Ft Fu Fv Fw Fx Fy Fz Ga Gb Gc Gd Ge Gf Gg Gh Gi Gj Gk Gl Gm Gn Go Gp Gq Gr Gs Gt Gu Gv Gw Gx Gy Gz Ha Hb Hc Hd He Hf Hg Hh Hi Hj Hk Hl Hm Hn Ho Hp Hq Hr Hs Ht Hu Hv Hw Hx Hy Hz Ia Ib Ic Id Ie Ig Ih Ii Ij Ik Il Im Io Ip Iq Ir It Iu Iv Iw Ix Iy Iz Ja Jb Jc Jd Je Jf Jg Jh Ji Jj Jk Jl Jm Jn Jo Jp Jq Jr Js Jt Ju:Value) (Q0:Exit→Act→World→Prop) (hpan:∀ c (a:Act) d v w,Q0 (.panic c) (a.put d v) w→Q0 (.panic c) a w)
  (hexit:∀ (u3 Jv Jw Jx Jy Jz Ka Kb Kc Kd Ke Kf Kg Kh Ki Kj Kk Kl Km Kn Ko Kp Kq Kr Ks Kt Ku Kv Kw Kx Kz La Lb Lc Ld Le Lf Lg Lh Li Lj Lk Ll Lm Ln Lo Lp Lq Lr Lt Lu Lv Lx Ly Lz Ma Mb Mc Md Me Mf Mg Mh Mi Mj Ml Mm Mn Mp Mq Mr Ms Mt Mu Mw Mx My Mz Na Nb Nc Nd Ne Ng Nh Ni Nj Nk Nl Nm Nn Np Nq Nr Ns Nt Nu Nv Nw Nx Ny Nz Oa Ob:Value) (Y:Ds) (sv' av':Value) (gs':List Nat) (w':World),rowS N.arcs us k syms 1 X=some Y→Dok N.st C k Y→X.subs.length≤Y.subs.length→Y.arcs.length≤X.arcs.length+syms→Dm w' W.heap.size O N.st mb sv' gs' Y.subs→Om w' O syms 0 iv fv av' ini fin Y.arcs→Below W.heap.size W w'→Q0 .normal ⟨#[c0,c1,.pointer (some ⟨RB,0,none⟩),u3,.pointer (some ⟨V,0,none⟩),c5,.slice (some ⟨gu,0,none⟩) N.st N.st,c7,c8,.pointer (some ⟨O,0,none⟩),Aa,sv',.map (some mb),.int .i64 (k:Int),Ab,Ad,Ae,Jv,Jw,Jx,Jy,Ak,Jz,Ka,Kb,Kc,Ap,Aq,Ar,As,Av,Aw,Ax,Ay,Az,Ba,Bb,Bc,Be,Bf,Bh,Bi,Bj,Bk,Bm,Bn,Bo,Bp,Bq,Br,Bs,Bt,Bu,Bv,Bw,Bx,By,Bz,Ca,Cb,Cc,Cd,Ce,Cf,Cg,Ch,Ci,Cj,Ck,Cl,Cm,Cn,Co,Cp,Cq,Cr,Ct,Cu,Cv,Cw,Cx,Cy,Cz,Da,Db,Dc,Dd,De,Df,Dg,Dh,Di,Dj,Dk,Dl,Dn,Dp,Dq,Dr,Dt,Du,Dv,Dw,Dx,Dy,Dz,Ea,Eb,Ec,Ed,Ee,Ef,Eg,Eh,Ei,Ej,Ek,El,Em,En,Eo,Ep,Eq,Er,Es,Et,Eu,Ev,Ew,Ex,Ey,Ez,Fa,Fb,Fc,Fd,Fe,Ff,Fg,Fh,Fi,Fj,Fk,Fm,Fn,Fo,Fp,Fq,Kd,Ke,Kf,Kg,Kh,Ki,Kj,Kk,Kl,Km,Kn,Ko,Kp,Kq,Kr,Ks,Kt,Ku,Kv,Kw,Kx,Kz,La,Lb,Lc,Ld,Le,Lf,Lg,Lh,Li,Lj,Lk,Ll,Lm,Ln,Lo,Lp,Lq,Lr,Lt,Lu,Lv,Lx,Ly,Lz,Ma,Mb,Mc,Md,Me,Mf,Mg,Mh,Mi,Mj,Ml,Mm,Mn,Mp,Mq,Mr,Ms,Mt,Mu,Mw,Mx,My,Mz,Na,Nb,Nc,Nd,Ne,Ng,Nh,Ni,Nj,Nk,Nl,Nm,Nn,Np,Nq,Nr,Ns,Nt,Nu,Nv,Nw,Nx,Ny,Nz,Oa,Ob,Jm,Jn,Jo,Jp,Jq,Jr,Js,Jt,Ju],[]⟩ w')
  (hret:∀ (Oc Jv Jw Jx Jy Jz Ka Kb Kc Kd Ke Kf Kg Kh Ki Kj Kk Kl Km Kn Ko Kp Kq Kr Ks Kt Ku Kv Kw Kx Kz La Lb Lc Ld Le Lf Lg Lh Li Lj Lk Ll Lm Ln Lo Lp Lq Lr Lt Lu Lv Lx Ly Lz Ma Mb Mc Md Me Mf Mg Mh Mi Mj Ml Mm Mn Mp Mq Mr Ms Mt Mu Mw Mx My Mz Na Nb Nc Nd Ne Ng Nh Ni Nj Nk Nl Nm Nn Np Nq Nr Ns Nt Nu Nv Nw Nx Ny Nz Oa Ob:Value) (w':World),rowS N.arcs us k syms 1 X=none→Bl RB [.int .i64 0,.slice none 0 0,.int .i64 0,.int .i64 0,.slice none 0 0,.slice none 0 0,.slice none 0 0] 30 w'→Below G0 W w'→Q0 .ret ⟨#[c0,c1,.pointer (some ⟨RB,0,none⟩),.int .i64 2,.pointer (some ⟨V,0,none⟩),c5,.slice (some ⟨gu,0,none⟩) N.st N.st,c7,c8,.pointer (some ⟨O,0,none⟩),Aa,Oc,.map (some mb),.int .i64 (k:Int),Ab,Ad,Ae,Jv,Jw,Jx,Jy,Ak,Jz,Ka,Kb,Kc,Ap,Aq,Ar,As,Av,Aw,Ax,Ay,Az,Ba,Bb,Bc,Be,Bf,Bh,Bi,Bj,Bk,Bm,Bn,Bo,Bp,Bq,Br,Bs,Bt,Bu,Bv,Bw,Bx,By,Bz,Ca,Cb,Cc,Cd,Ce,Cf,Cg,Ch,Ci,Cj,Ck,Cl,Cm,Cn,Co,Cp,Cq,Cr,Ct,Cu,Cv,Cw,Cx,Cy,Cz,Da,Db,Dc,Dd,De,Df,Dg,Dh,Di,Dj,Dk,Dl,Dn,Dp,Dq,Dr,Dt,Du,Dv,Dw,Dx,Dy,Dz,Ea,Eb,Ec,Ed,Ee,Ef,Eg,Eh,Ei,Ej,Ek,El,Em,En,Eo,Ep,Eq,Er,Es,Et,Eu,Ev,Ew,Ex,Ey,Ez,Fa,Fb,Fc,Fd,Fe,Ff,Fg,Fh,Fi,Fj,Fk,Fm,Fn,Fo,Fp,Fq,Kd,Ke,Kf,Kg,Kh,Ki,Kj,Kk,Kl,Km,Kn,Ko,Kp,Kq,Kr,Ks,Kt,Ku,Kv,Kw,Kx,Kz,La,Lb,Lc,Ld,Le,Lf,Lg,Lh,Li,Lj,Lk,Ll,Lm,Ln,Lo,Lp,Lq,Lr,Lt,Lu,Lv,Lx,Ly,Lz,Ma,Mb,Mc,Md,Me,Mf,Mg,Mh,Mi,Mj,Ml,Mm,Mn,Mp,Mq,Mr,Ms,Mt,Mu,Mw,Mx,My,Mz,Na,Nb,Nc,Nd,Ne,Ng,Nh,Ni,Nj,Nk,Nl,Nm,Nn,Np,Nq,Nr,Ns,Nt,Nu,Nv,Nw,Nx,Ny,Nz,Oa,Ob,Jm,Jn,Jo,Jp,Jq,Jr,Js,Jt,Ju],[]⟩ w') :
  Code.wp Tryz.prog (dB 6) Q0 ⟨#[c0,c1,.pointer (some ⟨RB,0,none⟩),c3,.pointer (some ⟨V,0,none⟩),c5,.slice (some ⟨gu,0,none⟩) N.st N.st,c7,c8,.pointer (some ⟨O,0,none⟩),Aa,sv,.map (some mb),.int .i64 (k:Int),Ab,Ad,Ae,.int .i64 1,Af,Ag,Ah,Ak,Al,Am,An,Ao,Ap,Aq,Ar,As,Av,Aw,Ax,Ay,Az,Ba,Bb,Bc,Be,Bf,Bh,Bi,Bj,Bk,Bm,Bn,Bo,Bp,Bq,Br,Bs,Bt,Bu,Bv,Bw,Bx,By,Bz,Ca,Cb,Cc,Cd,Ce,Cf,Cg,Ch,Ci,Cj,Ck,Cl,Cm,Cn,Co,Cp,Cq,Cr,Ct,Cu,Cv,Cw,Cx,Cy,Cz,Da,Db,Dc,Dd,De,Df,Dg,Dh,Di,Dj,Dk,Dl,Dn,Dp,Dq,Dr,Dt,Du,Dv,Dw,Dx,Dy,Dz,Ea,Eb,Ec,Ed,Ee,Ef,Eg,Eh,Ei,Ej,Ek,El,Em,En,Eo,Ep,Eq,Er,Es,Et,Eu,Ev,Ew,Ex,Ey,Ez,Fa,Fb,Fc,Fd,Fe,Ff,Fg,Fh,Fi,Fj,Fk,Fm,Fn,Fo,Fp,Fq,Fs,Ft,Fu,Fv,Fw,Fx,Fy,Fz,Ga,Gb,Gc,Gd,Ge,Gf,Gg,Gh,Gi,Gj,Gk,Gl,Gm,Gn,Go,Gp,Gq,Gr,Gs,Gt,Gu,Gv,Gw,Gx,Gy,Gz,Ha,Hb,Hc,Hd,He,Hf,Hg,Hh,Hi,Hj,Hk,Hl,Hm,Hn,Ho,Hp,Hq,Hr,Hs,Ht,Hu,Hv,Hw,Hx,Hy,Hz,Ia,Ib,Ic,Id,Ie,Ig,Ih,Ii,Ij,Ik,Il,Im,Io,Ip,Iq,Ir,It,Iu,Iv,Iw,Ix,Iy,Iz,Ja,Jb,Jc,Jd,Je,Jf,Jg,Jh,Ji,Jj,Jk,Jl,Jm,Jn,Jo,Jp,Jq,Jr,Js,Jt,Ju],[]⟩ w:=by
 conv=>arg 2; whnf
 have hsy:=hS.out.sym
 replace hb:=hid hb
 replace hD:=hid hD
 replace hO:=hid hO
 go_wp2_with fail
 go_loopw [11,17] (fun sv1 lv wr=>∃ (l:Nat) (X1:Ds) (av1:Value) (gs1:List Nat),1≤l∧l≤syms+1∧lv=.int .i64 (l:Int)∧Hid (rowS N.arcs us k (syms+1-l) l X1=rowS N.arcs us k syms 1 X)∧Hid (Dok N.st C k X1)∧Hid (X.subs.length≤X1.subs.length)∧Hid (X1.arcs.length+1≤X.arcs.length+l)∧Dm wr W.heap.size O N.st mb sv1 gs1 X1.subs∧Om wr O syms 0 iv fv av1 ini fin X1.arcs∧Below W.heap.size W wr) (fun _ lv _=>syms+1-(intOf lv).toNat)
 case atStart=>exact ⟨1,X,av,gs,Nat.le_refl _,by omega,rfl,hid rfl,hX,hid (Nat.le_refl _),hid (Nat.le_refl _),hD.out,hO.out,hb.out⟩
 case round =>
  obtain ⟨l,X1,av1,gs1,hl1,hl2,rfl,hrw,hX1,hsl,hal,hD1,hO1,hb1⟩:=hrel
  replace hD1:=hid hD1
  replace hO1:=hid hO1
  have y2:=(hS.out.next hb1).vw.cell (i:=2) rfl
  replace hb1:=hid hb1
  by_cases hlt:l≤syms
  ·have i1:(l:Int)≤(syms:Int):=by omega
   have i2:decide ((l:Int)≤(syms:Int))=true:=decide_eq_true i1
   have i0:(0:Int)≤(l:Int):=by omega
   obtain ⟨n,hn⟩:∃ n,syms+1-l=n+1:=⟨syms-l,by omega⟩
   replace hn:=hid hn
   go_upto_block 7 with fail
   refine det_label W V gu syms C N us io ci fo cf ro nr cr vo cv hS G0 RB O mb k l _ iv fv av1 gs1 ini fin X1 wr hb1.out (by omega) (Nat.lt_of_lt_of_le hk hsl.out) hX1 hD1.out hO1.out (by have:=hal.out; omega) hG hOW hmb hRB _ _ _ _ _ _ _ _ _ _ _ _ _ _ _ _ _ _ _ _ _ _ _ _ _ _ _ _ _ _ _ _ _ _ _ _ _ _ _ _ _ _ _ _ _ _ _ _ _ _ _ _ _ _ _ _ _ _ _ _ _ _ _ _ _ _ _ _ _ _ _ _ _ _ _ _ _ _ _ _ _ _ _ _ _ _ _ _ _ _ _ _ _ _ _ _ _ _ _ _ _ _ _ _ _ _ _ _ _ _ _ _ _ _ _ _ _ _ _ _ _ _ _ _ _ _ _ _ _ _ _ _ _ _ _ _ _ _ _ _ _ _ _ _ _ _ _ _ _ _ _ _ _ _ _ _ _ _ _ _ _ _ _ _ _ _ _ _ _ _ _ _ _ _ _ _ _ _ _ _ _ _ _ _ _ _ _ _ _ _ _ _ _ _ _ _ _ _ _ _ _ _ _ _ _ _ _ _ _ _ _ _ _ _ _ _ _ _ _ _ _ _ _ _ _ _ _ _ _ _ _ _ _ _ _ _ _ _ _ _ _ _ _ _ _ (fun c a d v w h=>hpan c a d v w h) ?_ ?_
   ·intro x3 Od Oe Og Oh Oi Oj Ok Ol Oo Op Oq Os Ot Ou Ov Ow Ox Oy Oz Pa Pb Pc Pd Pe Pf Pg Ph Pi Pj Pk Pl Pm Pn Po Pp Pq Ps Pt Pu Pv Pw Px Py Pz Qa Qb Qc Qd Qe Qf Qg Qh Qi Qj Qk Ql Qm Qn Qo Qp Qq Qr Qs Qt Qu Qv Qw Qx Qy Qz Ra Rb Rc Re Rf Rg Rh Ri Rj Rk Rl Rm Rn Ro Rp Rq Rr Rt Ru Rv Rx Ry Rz Sa Sc Y sv2 av2 gs2 w2 hone hD2 hO2 hb2
    have hdk:=hX1.out.one (Nat.lt_of_lt_of_le hk hsl.out) hS.out.cst.1 hone
    have hoa:=one_arcs hone
    replace hone:=hid hone
    replace hdk:=hid hdk
    replace hoa:=hid hoa
    replace hD2:=hid hD2
    replace hO2:=hid hO2
    replace hb2:=hid hb2
    go_wp2_with fail
    go_roundw
    case rel=>exact ⟨l+1,Y,av2,gs2,by omega,by omega,by go_num,hid (by rw [←hrw.out,hn.out,rowS_some hone.out,show syms+1-(l+1)=n by have:=hn.out; omega]),hid hdk.out.1,hid (Nat.le_trans hsl.out hdk.out.2),hid (by have:=hal.out; have:=hoa.out; omega),hD2.out,hO2.out,hb2.out⟩
    case measure=>simp [intOf]; omega
   ·intro Sd Od Oe Og Oh Oi Oj Ok Ol Oo Op Oq Os Ot Ou Ov Ow Ox Oy Oz Pa Pb Pc Pd Pe Pf Pg Ph Pi Pj Pk Pl Pm Pn Po Pp Pq Ps Pt Pu Pv Pw Px Py Pz Qa Qb Qc Qd Qe Qf Qg Qh Qi Qj Qk Ql Qm Qn Qo Qp Qq Qr Qs Qt Qu Qv Qw Qx Qy Qz Ra Rb Rc Re Rf Rg Rh Ri Rj Rk Rl Rm Rn Ro Rp Rq Rr Rt Ru Rv Rx Ry Rz Sa Sc w2 hone hR2 hb2
    exact hret _ _ _ _ _ _ _ _ _ _ _ _ _ _ _ _ _ _ _ _ _ _ _ _ _ _ _ _ _ _ _ _ _ _ _ _ _ _ _ _ _ _ _ _ _ _ _ _ _ _ _ _ _ _ _ _ _ _ _ _ _ _ _ _ _ _ _ _ _ _ _ _ _ _ _ _ _ _ _ _ _ _ _ _ _ _ _ _ _ _ _ _ _ _ _ _ _ _ _ _ _ _ _ _ w2 (by rw [←hrw.out,hn.out,rowS_none hone]) hR2 hb2
  ·obtain rfl:l=syms+1:=by omega
   have i1:¬ ((syms+1:Nat):Int)≤(syms:Int):=by omega
   have i2:decide (((syms+1:Nat):Int)≤(syms:Int))=false:=decide_eq_false i1
   have hend:rowS N.arcs us k (syms+1-(syms+1)) (syms+1) X1=some X1:=by rw [Nat.sub_self]; rfl
   replace hend:=hid hend
   go_wp2_with fail
   exact hexit _ _ _ _ _ _ _ _ _ _ _ _ _ _ _ _ _ _ _ _ _ _ _ _ _ _ _ _ _ _ _ _ _ _ _ _ _ _ _ _ _ _ _ _ _ _ _ _ _ _ _ _ _ _ _ _ _ _ _ _ _ _ _ _ _ _ _ _ _ _ _ _ _ _ _ _ _ _ _ _ _ _ _ _ _ _ _ _ _ _ _ _ _ _ _ _ _ _ _ _ _ _ _ _ X1 _ av1 gs1 wr (by rw [←hrw.out]; exact hend.out) hX1.out hsl.out (by have:=hal.out; omega) hD1.out hO1.out hb1.out
end
section
open Go.RowKit
set_option maxRecDepth 100000 in
set_option maxHeartbeats 4000000 in
theorem det_turn (W:World) (V gu syms C:Nat) (N:Au) (us:List Bool) (io:Option Addr) (ci:Nat) (fo:Option Addr) (cf:Nat) (ro:Option Addr) (nr cr:Nat) (vo:Option Addr) (cv:Nat) (hS:Hid (Sta W V gu syms C N us io ci fo cf ro nr cr vo cv)) (G0 RB O mb k:Nat) (b:Tw) (sv iv fv av:Value) (gs:List Nat) (ini fin:List Tw) (X:Ds) (w:World) (hb:Below W.heap.size W w) (hk:k<X.subs.length) (hX:Hid (Dok N.st C k X)) (hD:Dm w W.heap.size O N.st mb sv gs X.subs) (hO:Om w O syms 0 iv fv av ini fin X.arcs) (hla:X.arcs.length≤3900) (hil:ini.length≤64) (hfl:fin.length≤64) (hG:G0≤RB∧RB<W.heap.size) (hOW:W.heap.size≤O) (hmb:W.heap.size≤mb) (hRB:Bl RB [.int .i64 0,.slice none 0 0,.int .i64 0,.int .i64 0,.slice none 0 0,.slice none 0 0,.slice none 0 0] 30 W)
  (c0 c1 c3 c5 c7 c8 Aa Ab Ad Ae Af Ag Ah Ak Al Am An Ao Ap Aq Ar As Av Aw Ax Ay Az Ba Bb Bc Be Bf Bh Bi Bj Bk Bm Bn Bo Bp Bq Br Bs Bt Bu Bv Bw Bx By Bz Ca Cb Cc Cd Ce Cf Cg Ch Ci Cj Ck Cl Cm Cn Co Cp Cq Cr Ct Cu Cv Cw Cx Cy Cz Da Db Dc Dd De Df Dg Dh Di Dj Dk Dl Dn Dp Dq Dr Dt Du Dv Dw Dx Dy Dz Ea Eb Ec Ed Ee Ef Eg Eh Ei Ej Ek El Em En Eo Ep Eq Er Es Et Eu Ev Ew Ex Ey Ez Fa Fb Fc Fd Fe Ff Fg Fh Fi Fj Fk Fm Fn Fo Fp Fq Fs Ft Fu Fv Fw Fx Fy Fz Ga Gb Gc Gd Ge Gf Gg Gh Gi Gj Gk Gl Gm Gn Go Gp Gq Gr Gs Gt Gu Gv Gw Gx Gy Gz Ha Hb Hc Hd He Hf Hg Hh Hi Hj Hk Hl Hm Hn Ho Hp Hq Hr Hs Ht Hu Hv Hw Hx Hy Hz Ia Ib Ic Id Ie Ig Ih Ii Ij Ik Il Im Io Ip Iq Ir It Iu Iv Iw Ix Iy Iz Ja Jb Jc Jd Je Jf Jg Jh Ji Jj Jk Jl Jm Jn Jo Jp Jq Jr Js Jt Ju:Value) (Q0:Exit→Act→World→Prop) (hpan:∀ c (a:Act) d v w,Q0 (.panic c) (a.put d v) w→Q0 (.panic c) a w)
  (hexit:∀ (u3 Jv Jw Jx Jy Jz Ka Kb Kc Kd Ke Kf Kg Kh Ki Kj Kk Kl Km Kn Ko Kp Kq Kr Ks Kt Ku Kv Kw Kx Kz La Lb Lc Ld Le Lf Lg Lh Li Lj Lk Ll Lm Ln Lo Lp Lq Lr Lt Lu Lv Lx Ly Lz Ma Mb Mc Md Me Mf Mg Mh Mi Mj Ml Mm Mn Mp Mq Mr Ms Mt Mu Mw Mx My Mz Na Nb Nc Nd Ne Ng Nh Ni Nj Nk Nl Nm Nn Np Nq Nr Ns Nt Nu Nv Nw Nx Ny Nz Oa Ob Oc Od Oe Og Oh Oi Oj Ok Ol Oo Op Oq Os Ot Ou Ov Ow Ox Oy Oz Pa Pb Pc Pd Pe Pf Pg Ph Pi Pj Pk Pl Pm Pn Po Pp Pq Ps Pt Pu Pv Pw Px Py Pz Qa Qb Qc Qd Qe Qf Qg Qh Qi Qj Qk Ql Qm Qn Qo Qp:Value) (Y:Ds) (sv' iv' fv' av':Value) (gs':List Nat) (w':World),rowS N.arcs us k syms 1 X=some Y→Dok N.st C k Y→X.subs.length≤Y.subs.length→Y.arcs.length≤X.arcs.length+syms→Dm w' W.heap.size O N.st mb sv' gs' Y.subs→Om w' O syms 0 iv' fv' av' (ini++[b]) (fin++[endV N.fin (X.subs.getD k [])]) Y.arcs→Below W.heap.size W w'→Q0 .normal ⟨#[c0,c1,.pointer (some ⟨RB,0,none⟩),u3,.pointer (some ⟨V,0,none⟩),c5,.slice (some ⟨gu,0,none⟩) N.st N.st,c7,c8,.pointer (some ⟨O,0,none⟩),.int .i64 (-1),sv',.map (some mb),.int .i64 (k:Int),Jv,Jw,Jx,Jy,Jz,Ka,Kb,Ak,Kc,Kd,Ke,Kf,Ap,Aq,Ar,As,Av,Aw,Ax,Ay,Az,Ba,Bb,Bc,Be,Bf,Bh,Bi,Bj,Bk,Bm,Bn,Bo,Bp,Bq,Br,Bs,Bt,Bu,Bv,Bw,Bx,By,Bz,Ca,Cb,Cc,Cd,Ce,Cf,Cg,Ch,Ci,Cj,Ck,Cl,Cm,Cn,Co,Cp,Cq,Cr,Ct,Cu,Cv,Cw,Cx,Cy,Cz,Da,Db,Dc,Dd,De,Df,Dg,Kg,Kh,Ki,Kj,Kk,Kl,Km,Kn,Ko,Kp,Kq,Kr,Ks,Kt,Ku,Kv,Kw,Kx,Kz,La,Lb,Lc,Ld,Le,Lf,Lg,Lh,Li,Lj,Lk,Ll,Lm,Ln,Lo,Lp,Lq,Lr,Lt,Lu,Lv,Lx,Ly,Lz,Ma,Mb,Mc,Md,Me,Mf,Mg,Mh,Mi,Mj,Ml,Mm,Mn,Mp,Mq,Mr,Ms,Mt,Mu,Mw,Mx,My,Mz,Na,Nb,Nc,Nd,Ne,Ng,Nh,Ni,Nj,Nk,Nl,Nm,Nn,Np,Nq,Nr,Ns,Nt,Nu,Nv,Nw,Nx,Ny,Nz,Oa,Ob,Oc,Od,Oe,Og,Oh,Oi,Oj,Ok,Ol,Oo,Op,Oq,Os,Ot,Ou,Ov,Ow,Ox,Oy,Oz,Pa,Pb,Pc,Pd,Pe,Pf,Pg,Ph,Pi,Pj,Pk,Pl,Pm,Pn,Po,Pp,Pq,Ps,Pt,Pu,Pv,Pw,Px,Py,Pz,Qa,Qb,Qc,Qd,Qe,Qf,Qg,Qh,Qi,Qj,Qk,Ql,Qm,Qn,Qo,Qp,Jm,Jn,Jo,Jp,Jq,Jr,Js,Jt,Ju],[]⟩ w')
  (hret:∀ (Qq Qr Jv Jw Jx Jy Jz Ka Kb Kc Kd Ke Kf Kg Kh Ki Kj Kk Kl Km Kn Ko Kp Kq Kr Ks Kt Ku Kv Kw Kx Kz La Lb Lc Ld Le Lf Lg Lh Li Lj Lk Ll Lm Ln Lo Lp Lq Lr Lt Lu Lv Lx Ly Lz Ma Mb Mc Md Me Mf Mg Mh Mi Mj Ml Mm Mn Mp Mq Mr Ms Mt Mu Mw Mx My Mz Na Nb Nc Nd Ne Ng Nh Ni Nj Nk Nl Nm Nn Np Nq Nr Ns Nt Nu Nv Nw Nx Ny Nz Oa Ob Oc Od Oe Og Oh Oi Oj Ok Ol Oo Op Oq Os Ot Ou Ov Ow Ox Oy Oz Pa Pb Pc Pd Pe Pf Pg Ph Pi Pj Pk Pl Pm Pn Po Pp Pq Ps Pt Pu Pv Pw Px Py Pz Qa Qb Qc Qd Qe Qf Qg Qh Qi Qj Qk Ql Qm Qn Qo Qp:Value) (w':World),rowS N.arcs us k syms 1 X=none→Bl RB [.int .i64 0,.slice none 0 0,.int .i64 0,.int .i64 0,.slice none 0 0,.slice none 0 0,.slice none 0 0] 30 w'→Below G0 W w'→Q0 .ret ⟨#[c0,c1,.pointer (some ⟨RB,0,none⟩),.int .i64 2,.pointer (some ⟨V,0,none⟩),c5,.slice (some ⟨gu,0,none⟩) N.st N.st,c7,c8,.pointer (some ⟨O,0,none⟩),Qq,Qr,.map (some mb),.int .i64 (k:Int),Jv,Jw,Jx,Jy,Jz,Ka,Kb,Ak,Kc,Kd,Ke,Kf,Ap,Aq,Ar,As,Av,Aw,Ax,Ay,Az,Ba,Bb,Bc,Be,Bf,Bh,Bi,Bj,Bk,Bm,Bn,Bo,Bp,Bq,Br,Bs,Bt,Bu,Bv,Bw,Bx,By,Bz,Ca,Cb,Cc,Cd,Ce,Cf,Cg,Ch,Ci,Cj,Ck,Cl,Cm,Cn,Co,Cp,Cq,Cr,Ct,Cu,Cv,Cw,Cx,Cy,Cz,Da,Db,Dc,Dd,De,Df,Dg,Kg,Kh,Ki,Kj,Kk,Kl,Km,Kn,Ko,Kp,Kq,Kr,Ks,Kt,Ku,Kv,Kw,Kx,Kz,La,Lb,Lc,Ld,Le,Lf,Lg,Lh,Li,Lj,Lk,Ll,Lm,Ln,Lo,Lp,Lq,Lr,Lt,Lu,Lv,Lx,Ly,Lz,Ma,Mb,Mc,Md,Me,Mf,Mg,Mh,Mi,Mj,Ml,Mm,Mn,Mp,Mq,Mr,Ms,Mt,Mu,Mw,Mx,My,Mz,Na,Nb,Nc,Nd,Ne,Ng,Nh,Ni,Nj,Nk,Nl,Nm,Nn,Np,Nq,Nr,Ns,Nt,Nu,Nv,Nw,Nx,Ny,Nz,Oa,Ob,Oc,Od,Oe,Og,Oh,Oi,Oj,Ok,Ol,Oo,Op,Oq,Os,Ot,Ou,Ov,Ow,Ox,Oy,Oz,Pa,Pb,Pc,Pd,Pe,Pf,Pg,Ph,Pi,Pj,Pk,Pl,Pm,Pn,Po,Pp,Pq,Ps,Pt,Pu,Pv,Pw,Px,Py,Pz,Qa,Qb,Qc,Qd,Qe,Qf,Qg,Qh,Qi,Qj,Qk,Ql,Qm,Qn,Qo,Qp,Jm,Jn,Jo,Jp,Jq,Jr,Js,Jt,Ju],[]⟩ w') :
  Code.wp Tryz.prog (dB 3) Q0 ⟨#[c0,c1,.pointer (some ⟨RB,0,none⟩),c3,.pointer (some ⟨V,0,none⟩),c5,.slice (some ⟨gu,0,none⟩) N.st N.st,c7,c8,.pointer (some ⟨O,0,none⟩),oV b,sv,.map (some mb),.int .i64 (k:Int),Aa,Ab,Ad,Ae,Af,Ag,Ah,Ak,Al,Am,An,Ao,Ap,Aq,Ar,As,Av,Aw,Ax,Ay,Az,Ba,Bb,Bc,Be,Bf,Bh,Bi,Bj,Bk,Bm,Bn,Bo,Bp,Bq,Br,Bs,Bt,Bu,Bv,Bw,Bx,By,Bz,Ca,Cb,Cc,Cd,Ce,Cf,Cg,Ch,Ci,Cj,Ck,Cl,Cm,Cn,Co,Cp,Cq,Cr,Ct,Cu,Cv,Cw,Cx,Cy,Cz,Da,Db,Dc,Dd,De,Df,Dg,Dh,Di,Dj,Dk,Dl,Dn,Dp,Dq,Dr,Dt,Du,Dv,Dw,Dx,Dy,Dz,Ea,Eb,Ec,Ed,Ee,Ef,Eg,Eh,Ei,Ej,Ek,El,Em,En,Eo,Ep,Eq,Er,Es,Et,Eu,Ev,Ew,Ex,Ey,Ez,Fa,Fb,Fc,Fd,Fe,Ff,Fg,Fh,Fi,Fj,Fk,Fm,Fn,Fo,Fp,Fq,Fs,Ft,Fu,Fv,Fw,Fx,Fy,Fz,Ga,Gb,Gc,Gd,Ge,Gf,Gg,Gh,Gi,Gj,Gk,Gl,Gm,Gn,Go,Gp,Gq,Gr,Gs,Gt,Gu,Gv,Gw,Gx,Gy,Gz,Ha,Hb,Hc,Hd,He,Hf,Hg,Hh,Hi,Hj,Hk,Hl,Hm,Hn,Ho,Hp,Hq,Hr,Hs,Ht,Hu,Hv,Hw,Hx,Hy,Hz,Ia,Ib,Ic,Id,Ie,Ig,Ih,Ii,Ij,Ik,Il,Im,Io,Ip,Iq,Ir,It,Iu,Iv,Iw,Ix,Iy,Iz,Ja,Jb,Jc,Jd,Je,Jf,Jg,Jh,Ji,Jj,Jk,Jl,Jm,Jn,Jo,Jp,Jq,Jr,Js,Jt,Ju],[]⟩ w:=by
 conv=>arg 2; whnf
 have hCC:=hS.out.cC
 obtain ⟨gk,hgk,hkS,hkl,hklt⟩:=hD.sbs.get hk
 have hgd:gs.getD k 0=gk:=by rw [List.getD_eq_getElem?_getD,hgk]; rfl
 obtain ⟨v,hv⟩:∃ v,X.subs[k]? = some v:=⟨_,List.getElem?_eq_getElem hk⟩
 have hvR:X.subs.getD k []=v:=by rw [List.getD_eq_getElem?_getD,hv]; rfl
 have hnum:=hX.out.num
 have hvB:=hX.out.bd k v hv
 rw [hvR] at hkS hkl hexit
 have hbdR:Hid (Bd 1000000000000 v):=hid (hvB.mono (by have:C*(k+1)≤1048576*64:=Nat.mul_le_mul hCC (by omega); omega))
 obtain ⟨gr,cap,hsv,hgr1,hgr2⟩:=hD.row.place (by omega)
 subst hsv
 have hrc:=hD.row.cell hk
 simp only [hgd] at hrc
 unfold sbV at hrc
 replace hkl:=hid hkl
 replace hkS:=hid hkS
 replace hb:=hid hb
 replace hO:=hid hO
 obtain ⟨m,hm⟩:∃ m,X.subs.length=m:=⟨_,rfl⟩
 rw [hm] at hk hnum hD ⊢
 replace hD:=hid hD
 replace hm:=hid hm
 clear hgd hv hvB hvR hgk
 go_upto_block 4 with fail
 refine det_end W V gu syms C N us io ci fo cf ro nr cr vo cv hS W.heap.size gk v hkl w hb.out hbdR hkS.out _ _ _ _ _ _ _ _ _ _ _ _ _ _ _ _ _ _ _ _ _ _ _ _ _ _ _ _ _ _ _ _ _ _ _ _ _ _ _ _ _ _ _ _ _ _ _ _ _ _ _ _ _ _ _ _ _ _ _ _ _ _ _ _ _ _ _ _ _ _ _ _ _ _ _ _ _ _ _ _ _ _ _ _ _ _ _ _ _ _ _ _ _ _ _ _ _ _ _ _ _ _ _ _ _ _ _ _ _ _ _ _ _ _ _ _ _ _ _ _ _ _ _ _ _ _ _ _ _ _ _ _ _ _ _ _ _ _ _ _ _ _ _ _ _ _ _ _ _ _ _ _ _ _ _ _ _ _ _ _ _ _ _ _ _ _ _ _ _ _ _ _ _ _ _ _ _ _ _ _ _ _ _ _ _ _ _ _ _ _ _ _ _ _ _ _ _ _ _ _ _ _ _ _ _ _ _ _ _ _ _ _ _ _ _ _ _ _ _ _ _ _ _ _ _ _ _ _ _ _ _ _ _ _ _ _ _ _ _ _ _ _ _ _ _ _ _ _ ?_
 intro Qs Qt Qu Qv Qw Qx Qy Qz Ra Rb Rc Re Rf Rg Rh Ri Rj Rk Rl Rm Rn Ro Rp Rq Rr Rt Ru Rv Rx Ry Rz Sa Sc Sd Se Sf Sg Sh Si Sj Sk w1 hb1
 have hbW1:=hid (hb.out.trans (hb1.mono hb.out.size))
 have hO1:=hid (hO.out.next hb1)
 have hD1:=hid (hD.out.next hb1)
 replace hb1:=hid hb1
 clear hrc
 go_upto_region 27 with fail
 refine det_app O syms 0 iv fv av ini fin X.arcs b (endV N.fin v) w1 hO1.out hil hfl _ _ _ _ _ _ _ _ _ _ _ _ _ _ _ _ _ _ _ _ _ _ _ _ _ _ _ _ _ _ _ _ _ _ _ _ _ _ _ _ _ _ _ _ _ _ _ _ _ _ _ _ _ _ _ _ _ _ _ _ _ _ _ _ _ _ _ _ _ _ _ _ _ _ _ _ _ _ _ _ _ _ _ _ _ _ _ _ _ _ _ _ _ _ _ _ _ _ _ _ _ _ _ _ _ _ _ _ _ _ _ _ _ _ _ _ _ _ _ _ _ _ _ _ _ _ _ _ _ _ _ _ _ _ _ _ _ _ _ _ _ _ _ _ _ _ _ _ _ _ _ _ _ _ _ _ _ _ _ _ _ _ _ _ _ _ _ _ _ _ _ _ _ _ _ _ _ _ _ _ _ _ _ _ _ _ _ _ _ _ _ _ _ _ _ _ _ _ _ _ _ _ _ _ _ _ _ _ _ _ _ _ _ _ _ _ _ _ _ _ _ _ _ _ _ _ _ _ _ _ _ _ _ _ _ _ _ _ _ _ _ _ _ _ _ _ _ _ _ _ (fun c a d v w h=>hpan c a d v w h) ?_
 intro Sm Sn So Sr St Sv Sx Sy Sz Tb Tc Td Te Tf iv' fv' w2 hO2 hf2
 have hD2:=hid (hD1.out.out hO1.out (hf2.mono fun q _ e=>by
  rcases e with rfl | e | e
  ·exact .inl rfl
  ·exact .inr (.inl e)
  ·exact .inr (.inr (.inl e))))
 have hbW2:=hid (hbW1.out.trans (hf2.below (fun q e=>by
  rcases e with rfl | e | e
  ·exact hOW
  ·have:=hO1.out.lt (.inr (.inl e)); omega
  ·have:=hO1.out.lt (.inr (.inr (.inl e))); omega) hbW1.out.size))
 replace hO2:=hid hO2
 replace hf2:=hid hf2
 go_upto_block 6 with fail
 refine det_row W V gu syms C N us io ci fo cf ro nr cr vo cv hS G0 RB O mb k _ iv' fv' av gs (ini++[b]) (fin++[endV N.fin v]) X w2 hbW2.out (by rw [hm.out]; exact hk) hX hD2.out hO2.out hla hG hOW hmb hRB _ _ _ _ _ _ _ _ _ _ _ _ _ _ _ _ _ _ _ _ _ _ _ _ _ _ _ _ _ _ _ _ _ _ _ _ _ _ _ _ _ _ _ _ _ _ _ _ _ _ _ _ _ _ _ _ _ _ _ _ _ _ _ _ _ _ _ _ _ _ _ _ _ _ _ _ _ _ _ _ _ _ _ _ _ _ _ _ _ _ _ _ _ _ _ _ _ _ _ _ _ _ _ _ _ _ _ _ _ _ _ _ _ _ _ _ _ _ _ _ _ _ _ _ _ _ _ _ _ _ _ _ _ _ _ _ _ _ _ _ _ _ _ _ _ _ _ _ _ _ _ _ _ _ _ _ _ _ _ _ _ _ _ _ _ _ _ _ _ _ _ _ _ _ _ _ _ _ _ _ _ _ _ _ _ _ _ _ _ _ _ _ _ _ _ _ _ _ _ _ _ _ _ _ _ _ _ _ _ _ _ _ _ _ _ _ _ _ _ _ _ _ _ _ _ _ _ _ _ _ _ _ _ _ _ _ _ _ _ _ _ _ _ _ _ (fun c a d v w h=>hpan c a d v w h) ?_ ?_
 ·intro x3 Tg Th Ti Tj Tk Tl Tm Tn Tq Tr Ts Tt Tu Tv Tx Ty Tz Ua Ub Uc Ud Ue Uf Ug Uh Ui Uj Uk Ul Um Un Uo Up Ur Ut Uu Uv Uw Ux Uy Uz Va Vb Vc Vd Ve Vf Vg Vh Vi Vj Vk Vl Vm Vn Vp Vq Vr Vs Vt Vu Vv Vw Vy Vz Wa Wb Wc We Wf Wg Wh Wi Wj Wl Wm Wn Wo Wp Wq Wr Ws Wt Wu Wv Ww Wx Wy Wz Xa Xb Xc Xd Xe Xf Xg Xh Xi Xj Xk Xl Xm Xn Y sv3 av3 gs3 w3 hrow hY hsl hal hD3 hO3 hb3
  replace hrow:=hid hrow
  replace hD3:=hid hD3
  replace hO3:=hid hO3
  replace hb3:=hid hb3
  go_wp2_with fail
  exact hexit _ _ _ _ _ _ _ _ _ _ _ _ _ _ _ _ _ _ _ _ _ _ _ _ _ _ _ _ _ _ _ _ _ _ _ _ _ _ _ _ _ _ _ _ _ _ _ _ _ _ _ _ _ _ _ _ _ _ _ _ _ _ _ _ _ _ _ _ _ _ _ _ _ _ _ _ _ _ _ _ _ _ _ _ _ _ _ _ _ _ _ _ _ _ _ _ _ _ _ _ _ _ _ _ _ _ _ _ _ _ _ _ _ _ _ _ _ _ _ _ _ _ _ _ _ _ _ _ _ _ _ _ _ _ _ _ _ _ _ _ _ _ _ _ _ _ _ _ _ _ _ _ _ _ _ _ _ _ _ _ _ _ _ _ _ Y sv3 iv' fv' av3 gs3 w3 hrow.out hY hsl hal hD3.out hO3.out hb3.out
 ·intro Xo Tg Th Ti Tj Tk Tl Tm Tn Tq Tr Ts Tt Tu Tv Tx Ty Tz Ua Ub Uc Ud Ue Uf Ug Uh Ui Uj Uk Ul Um Un Uo Up Ur Ut Uu Uv Uw Ux Uy Uz Va Vb Vc Vd Ve Vf Vg Vh Vi Vj Vk Vl Vm Vn Vp Vq Vr Vs Vt Vu Vv Vw Vy Vz Wa Wb Wc We Wf Wg Wh Wi Wj Wl Wm Wn Wo Wp Wq Wr Ws Wt Wu Wv Ww Wx Wy Wz Xa Xb Xc Xd Xe Xf Xg Xh Xi Xj Xk Xl Xm Xn w3 hrow hR3 hb3
  exact hret _ _ _ _ _ _ _ _ _ _ _ _ _ _ _ _ _ _ _ _ _ _ _ _ _ _ _ _ _ _ _ _ _ _ _ _ _ _ _ _ _ _ _ _ _ _ _ _ _ _ _ _ _ _ _ _ _ _ _ _ _ _ _ _ _ _ _ _ _ _ _ _ _ _ _ _ _ _ _ _ _ _ _ _ _ _ _ _ _ _ _ _ _ _ _ _ _ _ _ _ _ _ _ _ _ _ _ _ _ _ _ _ _ _ _ _ _ _ _ _ _ _ _ _ _ _ _ _ _ _ _ _ _ _ _ _ _ _ _ _ _ _ _ _ _ _ _ _ _ _ _ _ _ _ _ _ _ _ _ _ _ _ _ _ _ _ w3 hrow hR3 hb3
end
end Go.Proofs.YtnapapijhhldpaaGreatDoor

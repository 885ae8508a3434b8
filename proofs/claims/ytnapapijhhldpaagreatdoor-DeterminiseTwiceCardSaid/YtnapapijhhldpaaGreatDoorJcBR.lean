/-
  Texts joined by program: Tsm, Tsn. No condition of its own.
-/
import Derived.Test.YtnapapijhhldpaaGreatDoorJcBQ
namespace Go.Proofs.YtnapapijhhldpaaGreatDoor
set_option linter.unusedSimpArgs false
set_option linter.unusedVariables false
section
open Go.RowKit
set_option maxRecDepth 100000 in
set_option maxHeartbeats 4000000 in
theorem rd_row (W:World) (V syms C:Nat) (A:Au) (io:Option Addr) (ci:Nat) (fo:Option Addr) (cf:Nat) (ro:Option Addr) (nr cr:Nat) (hS:Hid (Rta W V syms C A io ci fo cf ro nr cr)) (aio:Option Addr) (aci:Nat) (afo:Option Addr) (acf:Nat) (aro:Option Addr) (anr acr ast G:Nat) (hGb:Bl G (auC syms ast (.slice aio ast aci) (.slice afo ast acf) (.slice aro anr acr)) 30 W) (G0 RB O k b0:Nat) (lv iv fv av:Value) (vs:List (Value×Value)) (fin:List Tw) (X:Ds) (w:World) (hb:Below W.heap.size W w) (hk:k<X.subs.length) (hX:Hid (Dok A.st C k X)) (hL:Ls w O lv vs X.subs) (hO:Om w O syms 0 iv fv av (iniK b0 X.subs.length) fin X.arcs) (hla:X.arcs.length+syms≤2048) (hG:G0≤RB∧RB<W.heap.size) (hOW:W.heap.size≤O) (hRB:Bl RB [.int .i64 0,.slice none 0 0,.int .i64 0,.int .i64 0,.slice none 0 0,.slice none 0 0,.slice none 0 0] 30 W)
  (c0 c3 c4 c6 c8 c9 Aa Ab Ad Ae Af Ag Ah Ak Al Am An Ao Ap Aq Ar As Av Aw Ax Ay Az Ba Bb Bc Be Bf Bh Bi Bj Bk Bm Bn Bo Bp Bq Br Bs Bt Bu Bv Bw Bx By Bz Ca Cb Cc Cd Ce Cf Cg Ch Ci Cj Ck Cl Cm Cn Co Cp Cq Cr Ct Cu Cv Cw Cx Cy Cz Da Db Dc Dd De Df Dg Dh Di Dj Dk Dl Dn Dp Dq Dr Dt Du Dv Dw Dx Dy Dz Ea Eb Ec Ed Ee Ef Eg Eh Ei Ej Ek El Em En Eo Ep Eq Er Es Et Eu Ev Ew Ex Ey Ez Fa Fb Fc Fd Fe Ff Fg Fh Fi Fj Fk Fm Fn Fo Fp Fq Fs Ft Fu Fv Fw Fx Fy Fz Ga Gb Gc Gd Ge Gf Gg Gh Gi Gj Gk Gl Gm Gn Go Gp Gq Gr Gs Gt Gu Gv Gw Gx Gy Gz Ha Hb Hc Hd He Hf Hg Hh Hi Hj Hk Hl Hm Hn Ho Hp Hq Hr Hs Ht Hu Hv Hw Hx Hy Hz Ia Ib Ic Id Ie Ig Ih Ii Ij Ik Il Im Io Ip Iq Ir It Iu Iv Iw Ix Iy Iz Ja Jb Jc Jd Je Jf Jg Jh Ji Jj Jk Jl Jm Jn Jo Jp Jq Jr Js Jt Ju Jv Jw Jx Jy Jz Ka Kb Kc Kd Ke Kf Kg Kh Ki Kj Kk Kl Km Kn Ko Kp Kq Kr Ks Kt Ku Kv Kw Kx Kz La Lb Lc Ld Le Lf Lg Lh Li Lj Lk Ll Lm Ln Lo Lp Lq Lr Lt Lu Lv Lx Ly Lz Ma Mb Mc Md Me Mf:Value) (Q0:Exit→Act→World→Prop) (hpan:∀ c (a:Act) d v w,Q0 (.panic c) (a.put d v) w→Q0 (.panic c) a w)
  (hexit:∀ (u3 Mg Mh Mi Mj Ml Mm Mn Mp Mq Mr Ms Mt Mu Mw Mx My Mz Na Nb Nc Nd Ne Ng Nh Ni Nj Nk Nl Nm Nn Np Nq Nr Ns Nt Nu Nv Nw Nx Ny Nz Oa Ob Oc Od Oe Og Oh Oi Oj Ok Ol Oo Op Oq Os Ot Ou Ov Ow Ox Oy Oz Pa Pb Pc Pd Pe Pf Pg Ph Pi Pj Pk Pl Pm Pn Po Pp Pq Ps Pt Pu Pv Pw Px Py Pz Qa Qb Qc Qd Qe Qf Qg Qh Qi Qj Qk Ql Qm Qn Qo Qp Qq Qr Qs Qt Qu Qv Qw Qx Qy Qz Ra Rb Rc Re Rf Rg Rh Ri Rj Rk Rl Rm Rn Ro Rp Rq Rr Rt Ru Rv Rx Ry Rz Sa Sc Sd Se Sf Sg Sh Si Sj Sk Sm Sn So Sr St Sv Sx Sy Sz Tb Tc Td Te Tf Tg Th Ti Tj:Value) (Y:Ds) (lv' iv' av':Value) (vs':List (Value×Value)) (w':World),rowS A.arcs (List.replicate A.st true) k syms 1 X=some Y→Dok A.st C k Y→X.subs.length≤Y.subs.length→Y.arcs.length≤X.arcs.length+syms→Ls w' O lv' vs' Y.subs→Om w' O syms 0 iv' fv av' (iniK b0 Y.subs.length) fin Y.arcs→Below W.heap.size W w'→Q0 .normal ⟨#[c0,.pointer (some ⟨G,0,none⟩),.pointer (some ⟨RB,0,none⟩),u3,c4,.pointer (some ⟨V,0,none⟩),c6,.pointer (some ⟨O,0,none⟩),c8,c9,Aa,Ab,Ad,lv',.int .i64 (k:Int),Ae,Af,Ag,Mg,Mh,Mi,Mj,Ml,Mm,Mn,Mp,Mq,Mr,Ms,Av,Aw,Ax,Ay,Az,Ba,Bb,Bc,Be,Bf,Bh,Bi,Bj,Bk,Bm,Bn,Bo,Bp,Bq,Br,Bs,Bt,Bu,Bv,Bw,Bx,By,Bz,Ca,Cb,Cc,Cd,Ce,Cf,Cg,Ch,Ci,Cj,Ck,Cl,Cm,Cn,Co,Cp,Cq,Cr,Ct,Cu,Cv,Cw,Cx,Cy,Cz,Da,Db,Dc,Dd,De,Df,Dg,Dh,Di,Dj,Dk,Dl,Dn,Dp,Dq,Dr,Dt,Du,Dv,Dw,Dx,Dy,Dz,Ea,Eb,Ec,Ed,Ee,Ef,Eg,Eh,Ei,Ej,Ek,El,Em,En,Eo,Ep,Eq,Er,Es,Et,Eu,Ev,Ew,Ex,Ey,Ez,Fa,Fb,Fc,Fd,Fe,Ff,Fg,Fh,Fi,Fj,Fk,Fm,Fn,Fo,Fp,Fq,Fs,Ft,Fu,Fv,Fw,Fx,Mt,Mu,Mw,Mx,My,Mz,Na,Nb,Nc,Nd,Ne,Ng,Nh,Ni,Nj,Nk,Nl,Nm,Nn,Np,Nq,Nr,Ns,Nt,Nu,Nv,Nw,Nx,Ny,Nz,Oa,Ob,Oc,Od,Oe,Og,Oh,Oi,Oj,Ok,Ol,Oo,Op,Oq,Os,Ot,Ou,Ov,Ow,Ox,Oy,Oz,Pa,Pb,Pc,Pd,Pe,Pf,Pg,Ph,Pi,Pj,Pk,Pl,Pm,Pn,Po,Pp,Pq,Ps,Pt,Pu,Pv,Pw,Px,Py,Pz,Qa,Qb,Qc,Qd,Qe,Qf,Qg,Qh,Qi,Qj,Qk,Ql,Qm,Qn,Qo,Qp,Qq,Qr,Qs,Qt,Qu,Qv,Qw,Qx,Qy,Qz,Ra,Rb,Rc,Re,Rf,Rg,Rh,Ri,Rj,Rk,Rl,Rm,Rn,Ro,Rp,Rq,Rr,Rt,Ru,Rv,Rx,Ry,Rz,Sa,Sc,Sd,Se,Sf,Sg,Sh,Si,Sj,Sk,Sm,Sn,So,Sr,St,Sv,Sx,Sy,Sz,Tb,Tc,Td,Te,Tf,Tg,Th,Ti,Tj,Mc,Md,Me,Mf],[]⟩ w')
  (hret:∀ (Tk Mg Mh Mi Mj Ml Mm Mn Mp Mq Mr Ms Mt Mu Mw Mx My Mz Na Nb Nc Nd Ne Ng Nh Ni Nj Nk Nl Nm Nn Np Nq Nr Ns Nt Nu Nv Nw Nx Ny Nz Oa Ob Oc Od Oe Og Oh Oi Oj Ok Ol Oo Op Oq Os Ot Ou Ov Ow Ox Oy Oz Pa Pb Pc Pd Pe Pf Pg Ph Pi Pj Pk Pl Pm Pn Po Pp Pq Ps Pt Pu Pv Pw Px Py Pz Qa Qb Qc Qd Qe Qf Qg Qh Qi Qj Qk Ql Qm Qn Qo Qp Qq Qr Qs Qt Qu Qv Qw Qx Qy Qz Ra Rb Rc Re Rf Rg Rh Ri Rj Rk Rl Rm Rn Ro Rp Rq Rr Rt Ru Rv Rx Ry Rz Sa Sc Sd Se Sf Sg Sh Si Sj Sk Sm Sn So Sr St Sv Sx Sy Sz Tb Tc Td Te Tf Tg Th Ti Tj:Value) (w':World),rowS A.arcs (List.replicate A.st true) k syms 1 X=none→Bl RB [.int .i64 0,.slice none 0 0,.int .i64 0,.int .i64 0,.slice none 0 0,.slice none 0 0,.slice none 0 0] 30 w'→Below G0 W w'→Q0 .ret ⟨#[c0,.pointer (some ⟨G,0,none⟩),.pointer (some ⟨RB,0,none⟩),.int .i64 2,c4,.pointer (some ⟨V,0,none⟩),c6,.pointer (some ⟨O,0,none⟩),c8,c9,Aa,Ab,Ad,Tk,.int .i64 (k:Int),Ae,Af,Ag,Mg,Mh,Mi,Mj,Ml,Mm,Mn,Mp,Mq,Mr,Ms,Av,Aw,Ax,Ay,Az,Ba,Bb,Bc,Be,Bf,Bh,Bi,Bj,Bk,Bm,Bn,Bo,Bp,Bq,Br,Bs,Bt,Bu,Bv,Bw,Bx,By,Bz,Ca,Cb,Cc,Cd,Ce,Cf,Cg,Ch,Ci,Cj,Ck,Cl,Cm,Cn,Co,Cp,Cq,Cr,Ct,Cu,Cv,Cw,Cx,Cy,Cz,Da,Db,Dc,Dd,De,Df,Dg,Dh,Di,Dj,Dk,Dl,Dn,Dp,Dq,Dr,Dt,Du,Dv,Dw,Dx,Dy,Dz,Ea,Eb,Ec,Ed,Ee,Ef,Eg,Eh,Ei,Ej,Ek,El,Em,En,Eo,Ep,Eq,Er,Es,Et,Eu,Ev,Ew,Ex,Ey,Ez,Fa,Fb,Fc,Fd,Fe,Ff,Fg,Fh,Fi,Fj,Fk,Fm,Fn,Fo,Fp,Fq,Fs,Ft,Fu,Fv,Fw,Fx,Mt,Mu,Mw,Mx,My,Mz,Na,Nb,Nc,Nd,Ne,Ng,Nh,Ni,Nj,Nk,Nl,Nm,Nn,Np,Nq,Nr,Ns,Nt,Nu,Nv,Nw,Nx,Ny,Nz,Oa,Ob,Oc,Od,Oe,Og,Oh,Oi,Oj,Ok,Ol,Oo,Op,Oq,Os,Ot,Ou,Ov,Ow,Ox,Oy,Oz,Pa,Pb,Pc,Pd,Pe,Pf,Pg,Ph,Pi,Pj,Pk,Pl,Pm,Pn,Po,Pp,Pq,Ps,Pt,Pu,Pv,Pw,Px,Py,Pz,Qa,Qb,Qc,Qd,Qe,Qf,Qg,Qh,Qi,Qj,Qk,Ql,Qm,Qn,Qo,Qp,Qq,Qr,Qs,Qt,Qu,Qv,Qw,Qx,Qy,Qz,Ra,Rb,Rc,Re,Rf,Rg,Rh,Ri,Rj,Rk,Rl,Rm,Rn,Ro,Rp,Rq,Rr,Rt,Ru,Rv,Rx,Ry,Rz,Sa,Sc,Sd,Se,Sf,Sg,Sh,Si,Sj,Sk,Sm,Sn,So,Sr,St,Sv,Sx,Sy,Sz,Tb,Tc,Td,Te,Tf,Tg,Th,Ti,Tj,Mc,Md,Me,Mf],[]⟩ w') :
  Code.wp Tryz.prog (eB 6) Q0 ⟨#[c0,.pointer (some ⟨G,0,none⟩),.pointer (some ⟨RB,0,none⟩),c3,c4,.pointer (some ⟨V,0,none⟩),c6,.pointer (some ⟨O,0,none⟩),c8,c9,Aa,Ab,Ad,lv,.int .i64 (k:Int),Ae,Af,Ag,.int .i64 1,Ah,Ak,Al,Am,An,Ao,Ap,Aq,Ar,As,Av,Aw,Ax,Ay,Az,Ba,Bb,Bc,Be,Bf,Bh,Bi,Bj,Bk,Bm,Bn,Bo,Bp,Bq,Br,Bs,Bt,Bu,Bv,Bw,Bx,By,Bz,Ca,Cb,Cc,Cd,Ce,Cf,Cg,Ch,Ci,Cj,Ck,Cl,Cm,Cn,Co,Cp,Cq,Cr,Ct,Cu,Cv,Cw,Cx,Cy,Cz,Da,Db,Dc,Dd,De,Df,Dg,Dh,Di,Dj,Dk,Dl,Dn,Dp,Dq,Dr,Dt,Du,Dv,Dw,Dx,Dy,Dz,Ea,Eb,Ec,Ed,Ee,Ef,Eg,Eh,Ei,Ej,Ek,El,Em,En,Eo,Ep,Eq,Er,Es,Et,Eu,Ev,Ew,Ex,Ey,Ez,Fa,Fb,Fc,Fd,Fe,Ff,Fg,Fh,Fi,Fj,Fk,Fm,Fn,Fo,Fp,Fq,Fs,Ft,Fu,Fv,Fw,Fx,Fy,Fz,Ga,Gb,Gc,Gd,Ge,Gf,Gg,Gh,Gi,Gj,Gk,Gl,Gm,Gn,Go,Gp,Gq,Gr,Gs,Gt,Gu,Gv,Gw,Gx,Gy,Gz,Ha,Hb,Hc,Hd,He,Hf,Hg,Hh,Hi,Hj,Hk,Hl,Hm,Hn,Ho,Hp,Hq,Hr,Hs,Ht,Hu,Hv,Hw,Hx,Hy,Hz,Ia,Ib,Ic,Id,Ie,Ig,Ih,Ii,Ij,Ik,Il,Im,Io,Ip,Iq,Ir,It,Iu,Iv,Iw,Ix,Iy,Iz,Ja,Jb,Jc,Jd,Je,Jf,Jg,Jh,Ji,Jj,Jk,Jl,Jm,Jn,Jo,Jp,Jq,Jr,Js,Jt,Ju,Jv,Jw,Jx,Jy,Jz,Ka,Kb,Kc,Kd,Ke,Kf,Kg,Kh,Ki,Kj,Kk,Kl,Km,Kn,Ko,Kp,Kq,Kr,Ks,Kt,Ku,Kv,Kw,Kx,Kz,La,Lb,Lc,Ld,Le,Lf,Lg,Lh,Li,Lj,Lk,Ll,Lm,Ln,Lo,Lp,Lq,Lr,Lt,Lu,Lv,Lx,Ly,Lz,Ma,Mb,Mc,Md,Me,Mf],[]⟩ w:=by
 conv=>arg 2; whnf
 have hsy:=hS.out.sym
 replace hb:=hid hb
 replace hL:=hid hL
 replace hO:=hid hO
 go_wp2_with fail
 go_loopw [13,18] (fun lv1 lb wr=>∃ (l:Nat) (X1:Ds) (iv1 av1:Value) (vs1:List (Value×Value)),1≤l∧l≤syms+1∧lb=.int .i64 (l:Int)∧Hid (rowS A.arcs (List.replicate A.st true) k (syms+1-l) l X1=rowS A.arcs (List.replicate A.st true) k syms 1 X)∧Hid (Dok A.st C k X1)∧Hid (X.subs.length≤X1.subs.length)∧Hid (X1.arcs.length+1≤X.arcs.length+l)∧Ls wr O lv1 vs1 X1.subs∧Om wr O syms 0 iv1 fv av1 (iniK b0 X1.subs.length) fin X1.arcs∧Below W.heap.size W wr) (fun _ lb _=>syms+1-(intOf lb).toNat)
 case atStart=>exact ⟨1,X,iv,av,vs,Nat.le_refl _,by omega,rfl,hid rfl,hX,hid (Nat.le_refl _),hid (Nat.le_refl _),hL.out,hO.out,hb.out⟩
 case round =>
  obtain ⟨l,X1,iv1,av1,vs1,hl1,hl2,rfl,hrw,hX1,hsl,hal,hL1,hO1,hb1⟩:=hrel
  replace hL1:=hid hL1
  replace hO1:=hid hO1
  have y2:=(hGb.next hb1).cell (i:=2) rfl
  replace hb1:=hid hb1
  by_cases hlt:l≤syms
  ·have i1:(l:Int)≤(syms:Int):=by omega
   have i2:decide ((l:Int)≤(syms:Int))=true:=decide_eq_true i1
   have i0:(0:Int)≤(l:Int):=by omega
   obtain ⟨n,hn⟩:∃ n,syms+1-l=n+1:=⟨syms-l,by omega⟩
   replace hn:=hid hn
   go_upto_block 7 with fail
   refine rd_label W V syms C A io ci fo cf ro nr cr hS G0 RB O k l b0 _ iv1 fv av1 vs1 fin X1 wr hb1.out (by omega) (Nat.lt_of_lt_of_le hk hsl.out) hX1 hL1.out hO1.out (by have:=hal.out; omega) hG hOW hRB _ _ _ _ _ _ _ _ _ _ _ _ _ _ _ _ _ _ _ _ _ _ _ _ _ _ _ _ _ _ _ _ _ _ _ _ _ _ _ _ _ _ _ _ _ _ _ _ _ _ _ _ _ _ _ _ _ _ _ _ _ _ _ _ _ _ _ _ _ _ _ _ _ _ _ _ _ _ _ _ _ _ _ _ _ _ _ _ _ _ _ _ _ _ _ _ _ _ _ _ _ _ _ _ _ _ _ _ _ _ _ _ _ _ _ _ _ _ _ _ _ _ _ _ _ _ _ _ _ _ _ _ _ _ _ _ _ _ _ _ _ _ _ _ _ _ _ _ _ _ _ _ _ _ _ _ _ _ _ _ _ _ _ _ _ _ _ _ _ _ _ _ _ _ _ _ _ _ _ _ _ _ _ _ _ _ _ _ _ _ _ _ _ _ _ _ _ _ _ _ _ _ _ _ _ _ _ _ _ _ _ _ _ _ _ _ _ _ _ _ _ _ _ _ _ _ _ _ _ _ _ _ _ _ _ _ _ _ _ _ _ _ _ _ _ _ _ _ _ _ _ _ _ _ _ _ _ _ _ _ _ _ _ _ _ _ _ _ _ _ _ _ _ _ _ _ _ _ _ _ _ _ _ _ _ _ _ _ _ _ _ _ _ _ _ _ _ _ _ _ _ _ _ _ _ _ (fun c a d v w h=>hpan c a d v w h) ?_ ?_
   ·intro x3 Tl Tm Tn Tq Tr Ts Tt Tu Tv Tx Ty Tz Ua Ub Uc Ud Ue Uf Ug Uh Ui Uj Uk Ul Um Un Uo Up Ur Ut Uu Uv Uw Ux Uy Uz Va Vb Vc Vd Ve Vf Vg Vh Vi Vj Vk Vl Vm Vn Vp Vq Vr Vs Vt Vu Vv Vw Vy Vz Wa Wb Wc We Wf Wg Wh Wi Wj Wl Wm Wn Wo Wp Wq Wr Ws Wt Wu Wv Ww Wx Wy Wz Xa Xb Xc Xd Xe Xf Xg Xh Xi Xj Xk Xl Xm Xn Xo Xp Xq Xr Xs Xt Xu Xv Xw Xx Xy Xz Ya Yb Yc Yd Ye Yf Yg Yh Yi Yj Yk Yl Ym Yn Yo Yp Yq Yr Ys Yt Yu Yv Yw Yx Yy Yz Za Zb Zc Zd Ze Zf Zg Zh Zi Zj Zk Zl Zm Zn Zo Zp Zq Zr Zs Zt Zu Zv Y lv2 iv2 av2 vs2 w2 hone hL2 hO2 hb2
    have hdk:=hX1.out.one (Nat.lt_of_lt_of_le hk hsl.out) hS.out.cst.1 hone
    have hoa:=one_arcs hone
    replace hone:=hid hone
    replace hdk:=hid hdk
    replace hoa:=hid hoa
    replace hL2:=hid hL2
    replace hO2:=hid hO2
    replace hb2:=hid hb2
    go_wp2_with fail
    go_roundw
    case rel=>exact ⟨l+1,Y,iv2,av2,vs2,by omega,by omega,by go_num,hid (by rw [←hrw.out,hn.out,rowS_some hone.out,show syms+1-(l+1)=n by have:=hn.out; omega]),hid hdk.out.1,hid (Nat.le_trans hsl.out hdk.out.2),hid (by have:=hal.out; have:=hoa.out; omega),hL2.out,hO2.out,hb2.out⟩
    case measure=>simp [intOf]; omega
   ·intro Zw Tl Tm Tn Tq Tr Ts Tt Tu Tv Tx Ty Tz Ua Ub Uc Ud Ue Uf Ug Uh Ui Uj Uk Ul Um Un Uo Up Ur Ut Uu Uv Uw Ux Uy Uz Va Vb Vc Vd Ve Vf Vg Vh Vi Vj Vk Vl Vm Vn Vp Vq Vr Vs Vt Vu Vv Vw Vy Vz Wa Wb Wc We Wf Wg Wh Wi Wj Wl Wm Wn Wo Wp Wq Wr Ws Wt Wu Wv Ww Wx Wy Wz Xa Xb Xc Xd Xe Xf Xg Xh Xi Xj Xk Xl Xm Xn Xo Xp Xq Xr Xs Xt Xu Xv Xw Xx Xy Xz Ya Yb Yc Yd Ye Yf Yg Yh Yi Yj Yk Yl Ym Yn Yo Yp Yq Yr Ys Yt Yu Yv Yw Yx Yy Yz Za Zb Zc Zd Ze Zf Zg Zh Zi Zj Zk Zl Zm Zn Zo Zp Zq Zr Zs Zt Zu Zv w2 hone hR2 hb2
    exact hret _ _ _ _ _ _ _ _ _ _ _ _ _ _ _ _ _ _ _ _ _ _ _ _ _ _ _ _ _ _ _ _ _ _ _ _ _ _ _ _ _ _ _ _ _ _ _ _ _ _ _ _ _ _ _ _ _ _ _ _ _ _ _ _ _ _ _ _ _ _ _ _ _ _ _ _ _ _ _ _ _ _ _ _ _ _ _ _ _ _ _ _ _ _ _ _ _ _ _ _ _ _ _ _ _ _ _ _ _ _ _ _ _ _ _ _ _ _ _ _ _ _ _ _ _ _ _ _ _ _ _ _ _ _ _ _ _ _ _ _ _ _ _ _ _ _ _ _ _ _ _ _ _ _ _ _ _ _ _ _ _ _ _ _ _ _ w2 (by rw [←hrw.out,hn.out,rowS_none hone]) hR2 hb2
  ·obtain rfl:l=syms+1:=by omega
   have i1:¬ ((syms+1:Nat):Int)≤(syms:Int):=by omega
   have i2:decide (((syms+1:Nat):Int)≤(syms:Int))=false:=decide_eq_false i1
   have hend:rowS A.arcs (List.replicate A.st true) k (syms+1-(syms+1)) (syms+1) X1=some X1:=by rw [Nat.sub_self]; rfl
   replace hend:=hid hend
   go_wp2_with fail
   exact hexit _ _ _ _ _ _ _ _ _ _ _ _ _ _ _ _ _ _ _ _ _ _ _ _ _ _ _ _ _ _ _ _ _ _ _ _ _ _ _ _ _ _ _ _ _ _ _ _ _ _ _ _ _ _ _ _ _ _ _ _ _ _ _ _ _ _ _ _ _ _ _ _ _ _ _ _ _ _ _ _ _ _ _ _ _ _ _ _ _ _ _ _ _ _ _ _ _ _ _ _ _ _ _ _ _ _ _ _ _ _ _ _ _ _ _ _ _ _ _ _ _ _ _ _ _ _ _ _ _ _ _ _ _ _ _ _ _ _ _ _ _ _ _ _ _ _ _ _ _ _ _ _ _ _ _ _ _ _ _ _ _ _ _ _ _ _ X1 _ iv1 av1 vs1 wr (by rw [←hrw.out]; exact hend.out) hX1.out hsl.out (by have:=hal.out; omega) hL1.out hO1.out hb1.out
end
section
open Go.RowKit
set_option maxRecDepth 100000 in
set_option maxHeartbeats 4000000 in
theorem rd_turn (W:World) (V syms C:Nat) (A:Au) (io:Option Addr) (ci:Nat) (fo:Option Addr) (cf:Nat) (ro:Option Addr) (nr cr:Nat) (hS:Hid (Rta W V syms C A io ci fo cf ro nr cr)) (aio:Option Addr) (aci:Nat) (afo:Option Addr) (acf:Nat) (aro:Option Addr) (anr acr ast G:Nat) (hGb:Bl G (auC syms ast (.slice aio ast aci) (.slice afo ast acf) (.slice aro anr acr)) 30 W) (G0 RB O k b0:Nat) (lv iv fv av:Value) (vs:List (Value×Value)) (fin:List Tw) (X:Ds) (w:World) (hb:Below W.heap.size W w) (hk:k<X.subs.length) (hX:Hid (Dok A.st C k X)) (hAf:A.fin.length=A.st) (hL:Ls w O lv vs X.subs) (hO:Om w O syms 0 iv fv av (iniK b0 X.subs.length) fin X.arcs) (hla:X.arcs.length+syms≤2048) (hfl:fin.length≤64) (hG:G0≤RB∧RB<W.heap.size) (hOW:W.heap.size≤O) (hRB:Bl RB [.int .i64 0,.slice none 0 0,.int .i64 0,.int .i64 0,.slice none 0 0,.slice none 0 0,.slice none 0 0] 30 W)
  (c0 c3 c4 c6 c8 c9 Aa Ab Ad Ae Af Ag Ah Ak Al Am An Ao Ap Aq Ar As Av Aw Ax Ay Az Ba Bb Bc Be Bf Bh Bi Bj Bk Bm Bn Bo Bp Bq Br Bs Bt Bu Bv Bw Bx By Bz Ca Cb Cc Cd Ce Cf Cg Ch Ci Cj Ck Cl Cm Cn Co Cp Cq Cr Ct Cu Cv Cw Cx Cy Cz Da Db Dc Dd De Df Dg Dh Di Dj Dk Dl Dn Dp Dq Dr Dt Du Dv Dw Dx Dy Dz Ea Eb Ec Ed Ee Ef Eg Eh Ei Ej Ek El Em En Eo Ep Eq Er Es Et Eu Ev Ew Ex Ey Ez Fa Fb Fc Fd Fe Ff Fg Fh Fi Fj Fk Fm Fn Fo Fp Fq Fs Ft Fu Fv Fw Fx Fy Fz Ga Gb Gc Gd Ge Gf Gg Gh Gi Gj Gk Gl Gm Gn Go Gp Gq Gr Gs Gt Gu Gv Gw Gx Gy Gz Ha Hb Hc Hd He Hf Hg Hh Hi Hj Hk Hl Hm Hn Ho Hp Hq Hr Hs Ht Hu Hv Hw Hx Hy Hz Ia Ib Ic Id Ie Ig Ih Ii Ij Ik Il Im Io Ip Iq Ir It Iu Iv Iw Ix Iy Iz Ja Jb Jc Jd Je Jf Jg Jh Ji Jj Jk Jl Jm Jn Jo Jp Jq Jr Js Jt Ju Jv Jw Jx Jy Jz Ka Kb Kc Kd Ke Kf Kg Kh Ki Kj Kk Kl Km Kn Ko Kp Kq Kr Ks Kt Ku Kv Kw Kx Kz La Lb Lc Ld Le Lf Lg Lh Li Lj Lk Ll Lm Ln Lo Lp Lq Lr Lt Lu Lv Lx Ly Lz Ma Mb Mc Md Me Mf Mg:Value) (Q0:Exit→Act→World→Prop) (hpan:∀ c (a:Act) d v w,Q0 (.panic c) (a.put d v) w→Q0 (.panic c) a w)
  (hexit:∀ (u3 Mh Mi Mj Ml Mm Mn Mp Mq Mr Ms Mt Mu Mw Mx My Mz Na Nb Nc Nd Ne Ng Nh Ni Nj Nk Nl Nm Nn Np Nq Nr Ns Nt Nu Nv Nw Nx Ny Nz Oa Ob Oc Od Oe Og Oh Oi Oj Ok Ol Oo Op Oq Os Ot Ou Ov Ow Ox Oy Oz Pa Pb Pc Pd Pe Pf Pg Ph Pi Pj Pk Pl Pm Pn Po Pp Pq Ps Pt Pu Pv Pw Px Py Pz Qa Qb Qc Qd Qe Qf Qg Qh Qi Qj Qk Ql Qm Qn Qo Qp Qq Qr Qs Qt Qu Qv Qw Qx Qy Qz Ra Rb Rc Re Rf Rg Rh Ri Rj Rk Rl Rm Rn Ro Rp Rq Rr Rt Ru Rv Rx Ry Rz Sa Sc Sd Se Sf Sg Sh Si Sj Sk Sm Sn So Sr St Sv Sx Sy Sz Tb Tc Td Te Tf Tg Th Ti Tj Tk Tl Tm Tn Tq Tr Ts Tt Tu Tv Tx Ty Tz Ua Ub Uc Ud Ue Uf Ug Uh Ui Uj Uk Ul Um Un Uo Up Ur Ut Uu Uv Uw Ux Uy Uz Va Vb Vc Vd Ve Vf Vg Vh Vi Vj Vk Vl Vm Vn Vp Vq Vr Vs Vt Vu Vv Vw Vy Vz Wa Wb Wc We Wf Wg:Value) (Y:Ds) (lv' iv' fv' av':Value) (vs':List (Value×Value)) (w':World),rowS A.arcs (List.replicate A.st true) k syms 1 X=some Y→Dok A.st C k Y→X.subs.length≤Y.subs.length→Y.arcs.length≤X.arcs.length+syms→Ls w' O lv' vs' Y.subs→Om w' O syms 0 iv' fv' av' (iniK b0 Y.subs.length) (fin++[endV A.fin (X.subs.getD k [])]) Y.arcs→Below W.heap.size W w'→Q0 .normal ⟨#[c0,.pointer (some ⟨G,0,none⟩),.pointer (some ⟨RB,0,none⟩),u3,c4,.pointer (some ⟨V,0,none⟩),c6,.pointer (some ⟨O,0,none⟩),c8,c9,Aa,Ab,Ad,lv',.int .i64 (k:Int),Mh,Mi,Mj,Ml,Mm,Mn,Mp,Mq,Mr,Ms,Mt,Mu,Mw,Mx,Aw,Ax,Ay,Az,Ba,Bb,Bc,Be,Bf,Bh,Bi,Bj,Bk,Bm,Bn,Bo,Bp,Bq,Br,Bs,Bt,Bu,Bv,Bw,Bx,By,Bz,Ca,Cb,Cc,Cd,Ce,Cf,Cg,Ch,Ci,Cj,Ck,Cl,Cm,Cn,Co,Cp,Cq,Cr,Ct,Cu,Cv,Cw,Cx,Cy,Cz,Da,Db,Dc,Dd,De,Df,Dg,Dh,Di,My,Mz,Na,Nb,Nc,Nd,Ne,Ng,Nh,Ni,Nj,Nk,Nl,Nm,Nn,Np,Nq,Nr,Ns,Nt,Nu,Nv,Nw,Nx,Ny,Nz,Oa,Ob,Oc,Od,Oe,Og,Oh,Oi,Oj,Ok,Ol,Oo,Op,Oq,Os,Ot,Ou,Ov,Ow,Ox,Oy,Oz,Pa,Pb,Pc,Pd,Pe,Pf,Pg,Ph,Pi,Pj,Pk,Pl,Pm,Pn,Po,Pp,Pq,Ps,Pt,Pu,Pv,Pw,Px,Py,Pz,Qa,Qb,Qc,Qd,Qe,Qf,Qg,Qh,Qi,Qj,Qk,Ql,Qm,Qn,Qo,Qp,Qq,Qr,Qs,Qt,Qu,Qv,Qw,Qx,Qy,Qz,Ra,Rb,Rc,Re,Rf,Rg,Rh,Ri,Rj,Rk,Rl,Rm,Rn,Ro,Rp,Rq,Rr,Rt,Ru,Rv,Rx,Ry,Rz,Sa,Sc,Sd,Se,Sf,Sg,Sh,Si,Sj,Sk,Sm,Sn,So,Sr,St,Sv,Sx,Sy,Sz,Tb,Tc,Td,Te,Tf,Tg,Th,Ti,Tj,Tk,Tl,Tm,Tn,Tq,Tr,Ts,Tt,Tu,Tv,Tx,Ty,Tz,Ua,Ub,Uc,Ud,Ue,Uf,Ug,Uh,Ui,Uj,Uk,Ul,Um,Un,Uo,Up,Ur,Ut,Uu,Uv,Uw,Ux,Uy,Uz,Va,Vb,Vc,Vd,Ve,Vf,Vg,Vh,Vi,Vj,Vk,Vl,Vm,Vn,Vp,Vq,Vr,Vs,Vt,Vu,Vv,Vw,Vy,Vz,Wa,Wb,Wc,We,Wf,Wg,Md,Me,Mf,Mg],[]⟩ w')
  (hret:∀ (Wh Mh Mi Mj Ml Mm Mn Mp Mq Mr Ms Mt Mu Mw Mx My Mz Na Nb Nc Nd Ne Ng Nh Ni Nj Nk Nl Nm Nn Np Nq Nr Ns Nt Nu Nv Nw Nx Ny Nz Oa Ob Oc Od Oe Og Oh Oi Oj Ok Ol Oo Op Oq Os Ot Ou Ov Ow Ox Oy Oz Pa Pb Pc Pd Pe Pf Pg Ph Pi Pj Pk Pl Pm Pn Po Pp Pq Ps Pt Pu Pv Pw Px Py Pz Qa Qb Qc Qd Qe Qf Qg Qh Qi Qj Qk Ql Qm Qn Qo Qp Qq Qr Qs Qt Qu Qv Qw Qx Qy Qz Ra Rb Rc Re Rf Rg Rh Ri Rj Rk Rl Rm Rn Ro Rp Rq Rr Rt Ru Rv Rx Ry Rz Sa Sc Sd Se Sf Sg Sh Si Sj Sk Sm Sn So Sr St Sv Sx Sy Sz Tb Tc Td Te Tf Tg Th Ti Tj Tk Tl Tm Tn Tq Tr Ts Tt Tu Tv Tx Ty Tz Ua Ub Uc Ud Ue Uf Ug Uh Ui Uj Uk Ul Um Un Uo Up Ur Ut Uu Uv Uw Ux Uy Uz Va Vb Vc Vd Ve Vf Vg Vh Vi Vj Vk Vl Vm Vn Vp Vq Vr Vs Vt Vu Vv Vw Vy Vz Wa Wb Wc We Wf Wg:Value) (w':World),rowS A.arcs (List.replicate A.st true) k syms 1 X=none→Bl RB [.int .i64 0,.slice none 0 0,.int .i64 0,.int .i64 0,.slice none 0 0,.slice none 0 0,.slice none 0 0] 30 w'→Below G0 W w'→Q0 .ret ⟨#[c0,.pointer (some ⟨G,0,none⟩),.pointer (some ⟨RB,0,none⟩),.int .i64 2,c4,.pointer (some ⟨V,0,none⟩),c6,.pointer (some ⟨O,0,none⟩),c8,c9,Aa,Ab,Ad,Wh,.int .i64 (k:Int),Mh,Mi,Mj,Ml,Mm,Mn,Mp,Mq,Mr,Ms,Mt,Mu,Mw,Mx,Aw,Ax,Ay,Az,Ba,Bb,Bc,Be,Bf,Bh,Bi,Bj,Bk,Bm,Bn,Bo,Bp,Bq,Br,Bs,Bt,Bu,Bv,Bw,Bx,By,Bz,Ca,Cb,Cc,Cd,Ce,Cf,Cg,Ch,Ci,Cj,Ck,Cl,Cm,Cn,Co,Cp,Cq,Cr,Ct,Cu,Cv,Cw,Cx,Cy,Cz,Da,Db,Dc,Dd,De,Df,Dg,Dh,Di,My,Mz,Na,Nb,Nc,Nd,Ne,Ng,Nh,Ni,Nj,Nk,Nl,Nm,Nn,Np,Nq,Nr,Ns,Nt,Nu,Nv,Nw,Nx,Ny,Nz,Oa,Ob,Oc,Od,Oe,Og,Oh,Oi,Oj,Ok,Ol,Oo,Op,Oq,Os,Ot,Ou,Ov,Ow,Ox,Oy,Oz,Pa,Pb,Pc,Pd,Pe,Pf,Pg,Ph,Pi,Pj,Pk,Pl,Pm,Pn,Po,Pp,Pq,Ps,Pt,Pu,Pv,Pw,Px,Py,Pz,Qa,Qb,Qc,Qd,Qe,Qf,Qg,Qh,Qi,Qj,Qk,Ql,Qm,Qn,Qo,Qp,Qq,Qr,Qs,Qt,Qu,Qv,Qw,Qx,Qy,Qz,Ra,Rb,Rc,Re,Rf,Rg,Rh,Ri,Rj,Rk,Rl,Rm,Rn,Ro,Rp,Rq,Rr,Rt,Ru,Rv,Rx,Ry,Rz,Sa,Sc,Sd,Se,Sf,Sg,Sh,Si,Sj,Sk,Sm,Sn,So,Sr,St,Sv,Sx,Sy,Sz,Tb,Tc,Td,Te,Tf,Tg,Th,Ti,Tj,Tk,Tl,Tm,Tn,Tq,Tr,Ts,Tt,Tu,Tv,Tx,Ty,Tz,Ua,Ub,Uc,Ud,Ue,Uf,Ug,Uh,Ui,Uj,Uk,Ul,Um,Un,Uo,Up,Ur,Ut,Uu,Uv,Uw,Ux,Uy,Uz,Va,Vb,Vc,Vd,Ve,Vf,Vg,Vh,Vi,Vj,Vk,Vl,Vm,Vn,Vp,Vq,Vr,Vs,Vt,Vu,Vv,Vw,Vy,Vz,Wa,Wb,Wc,We,Wf,Wg,Md,Me,Mf,Mg],[]⟩ w') :
  Code.wp Tryz.prog (eB 3) Q0 ⟨#[c0,.pointer (some ⟨G,0,none⟩),.pointer (some ⟨RB,0,none⟩),c3,c4,.pointer (some ⟨V,0,none⟩),c6,.pointer (some ⟨O,0,none⟩),c8,c9,Aa,Ab,Ad,lv,.int .i64 (k:Int),Ae,Af,Ag,Ah,Ak,Al,Am,An,Ao,Ap,Aq,Ar,As,Av,Aw,Ax,Ay,Az,Ba,Bb,Bc,Be,Bf,Bh,Bi,Bj,Bk,Bm,Bn,Bo,Bp,Bq,Br,Bs,Bt,Bu,Bv,Bw,Bx,By,Bz,Ca,Cb,Cc,Cd,Ce,Cf,Cg,Ch,Ci,Cj,Ck,Cl,Cm,Cn,Co,Cp,Cq,Cr,Ct,Cu,Cv,Cw,Cx,Cy,Cz,Da,Db,Dc,Dd,De,Df,Dg,Dh,Di,Dj,Dk,Dl,Dn,Dp,Dq,Dr,Dt,Du,Dv,Dw,Dx,Dy,Dz,Ea,Eb,Ec,Ed,Ee,Ef,Eg,Eh,Ei,Ej,Ek,El,Em,En,Eo,Ep,Eq,Er,Es,Et,Eu,Ev,Ew,Ex,Ey,Ez,Fa,Fb,Fc,Fd,Fe,Ff,Fg,Fh,Fi,Fj,Fk,Fm,Fn,Fo,Fp,Fq,Fs,Ft,Fu,Fv,Fw,Fx,Fy,Fz,Ga,Gb,Gc,Gd,Ge,Gf,Gg,Gh,Gi,Gj,Gk,Gl,Gm,Gn,Go,Gp,Gq,Gr,Gs,Gt,Gu,Gv,Gw,Gx,Gy,Gz,Ha,Hb,Hc,Hd,He,Hf,Hg,Hh,Hi,Hj,Hk,Hl,Hm,Hn,Ho,Hp,Hq,Hr,Hs,Ht,Hu,Hv,Hw,Hx,Hy,Hz,Ia,Ib,Ic,Id,Ie,Ig,Ih,Ii,Ij,Ik,Il,Im,Io,Ip,Iq,Ir,It,Iu,Iv,Iw,Ix,Iy,Iz,Ja,Jb,Jc,Jd,Je,Jf,Jg,Jh,Ji,Jj,Jk,Jl,Jm,Jn,Jo,Jp,Jq,Jr,Js,Jt,Ju,Jv,Jw,Jx,Jy,Jz,Ka,Kb,Kc,Kd,Ke,Kf,Kg,Kh,Ki,Kj,Kk,Kl,Km,Kn,Ko,Kp,Kq,Kr,Ks,Kt,Ku,Kv,Kw,Kx,Kz,La,Lb,Lc,Ld,Le,Lf,Lg,Lh,Li,Lj,Lk,Ll,Lm,Ln,Lo,Lp,Lq,Lr,Lt,Lu,Lv,Lx,Ly,Lz,Ma,Mb,Mc,Md,Me,Mf,Mg],[]⟩ w:=by
 conv=>arg 2; whnf
 have hSw:=hid (hS.out.next hb)
 have hCC:=hSw.out.cC
 have hst:=hSw.out.st
 obtain ⟨v,hv⟩:∃ v,X.subs[k]? = some v:=⟨_,List.getElem?_eq_getElem hk⟩
 have hvR:X.subs.getD k []=v:=by rw [List.getD_eq_getElem?_getD,hv]; rfl
 rw [hvR] at hexit
 have hvl:=hX.out.len v (List.mem_of_getElem? hv)
 have hnum:=hX.out.num
 have hvB:=hX.out.bd k v hv
 have hbdR:Hid (∀ p∈sup v,p.1<A.st∧p.2≤1000000000):=hid fun p hp=>by
  have h0:=sup_has.1 (show (p.1,p.2)∈sup v from hp)
  have h1:=hvB p.2 (List.mem_of_getElem? h0)
  have h2:C*(k+1)≤1048576*64:=Nat.mul_le_mul hCC (by omega)
  have h3:=(List.getElem?_eq_some_iff.1 h0).1
  exact ⟨by omega,by omega⟩
 have hend:Hid (endQ A.fin (sup v)=endV A.fin v):=hid (endQ_all A.fin v (by rw [hAf,hvl]))
 obtain ⟨lb,lc,so,sc,uo,uc,hlv,hcs,hRs⟩:=hL.get hv
 subst hlv
 have hpn:(sup v).length≤64:=Nat.le_trans (supTo_len _ _) (by rw [hvl]; exact hst)
 obtain ⟨pn,hpe⟩:∃ pn,(sup v).length=pn:=⟨_,rfl⟩
 rw [hpe] at hcs hRs hpn
 obtain ⟨m,hm⟩:∃ m,X.subs.length=m:=⟨_,rfl⟩
 have hLk:=hid hL
 have hOk:=hid hO
 rw [hm] at hk hnum hLk ⊢
 replace hm:=hid hm
 replace hL:=hid hL
 replace hO:=hid hO
 replace hcs:=hid hcs
 replace hRs:=hid hRs
 have hOl:=hid hO.out.blk.lt
 clear hv hvB hpe hvR hvl
 have hbZ:=hid (below_alloc (w:=w) (.cells (twC none).toArray 45))
 go_upto_region 20 with fail
 have hZ0:Bl w.heap.size (twC none) 45 (w.alloc (.cells (twC none).toArray 45)):=Bl.fresh w (twC none) 45
 go_upto_block 4 with ((with_reducible refine wp_storeVTw rfl _ _ rfl _ _ ?_ none ?_ ?_ ?_); exact rfl; exact rfl; exact rfl)
 refine rd_fin w V syms C A io ci fo cf ro nr cr hSw lb 0 m lc k hk hnum so sc uo uc pn (sup v) hcs hRs w.heap.size hpn hbdR _ hbZ.out (Nat.le_refl _) hZ0 _ _ _ _ _ _ _ _ _ _ _ _ _ _ _ _ _ _ _ _ _ _ _ _ _ _ _ _ _ _ _ _ _ _ _ _ _ _ _ _ _ _ _ _ _ _ _ _ _ _ _ _ _ _ _ _ _ _ _ _ _ _ _ _ _ _ _ _ _ _ _ _ _ _ _ _ _ _ _ _ _ _ _ _ _ _ _ _ _ _ _ _ _ _ _ _ _ _ _ _ _ _ _ _ _ _ _ _ _ _ _ _ _ _ _ _ _ _ _ _ _ _ _ _ _ _ _ _ _ _ _ _ _ _ _ _ _ _ _ _ _ _ _ _ _ _ _ _ _ _ _ _ _ _ _ _ _ _ _ _ _ _ _ _ _ _ _ _ _ _ _ _ _ _ _ _ _ _ _ _ _ _ _ _ _ _ _ _ _ _ _ _ _ _ _ _ _ _ _ _ _ _ _ _ _ _ _ _ _ _ _ _ _ _ _ _ _ _ _ _ _ _ _ _ _ _ _ _ _ _ _ _ _ _ _ _ _ _ _ _ _ _ _ _ _ _ _ _ _ _ _ _ _ _ _ _ _ _ _ _ _ _ _ _ _ _ _ _ _ _ _ _ _ _ _ _ _ _ _ _ _ _ _ _ _ _ _ _ _ _ _ _ _ _ _ _ _ _ _ _ _ _ _ _ _ _ _ (fun c a d v w h=>hpan c a d v w h) ?_
 intro Wi Wj Wl Wm Wn Wo Wp Wq Wr Ws Wt Wu Wv Ww Wx Wy Wz Xa Xb Xc Xd Xe Xf Xg Xh Xi Xj Xk Xl Xm Xn Xo Xp Xq Xr Xs Xt Xu Xv Xw Xx Xy Xz Ya Yb Yc Yd Ye Yf Yg Yh Yi Yj Yk Yl Ym Yn Yo w2 hZ2 hf2
 rw [hend.out] at hZ2
 have hbw2:Hid (Below w.heap.size w w2):=hid (hbZ.out.trans (hf2.below (fun q e=>by subst e; exact Nat.le_refl _) hbZ.out.size))
 have hbW2:=hid (hb.trans (hbw2.out.mono hb.size))
 have hO2:=hid (hO.out.next hbw2.out)
 have hL2:=hid (hLk.out.next hbw2.out)
 replace hf2:=hid hf2
 clear hZ0
 go_upto_region 27 with fail
 refine rd_app27 O syms 0 iv fv av (iniK b0 X.subs.length) fin X.arcs w.heap.size (endV A.fin v) w2 hO2.out hfl hZ2 _ _ _ _ _ _ _ _ _ _ _ _ _ _ _ _ _ _ _ _ _ _ _ _ _ _ _ _ _ _ _ _ _ _ _ _ _ _ _ _ _ _ _ _ _ _ _ _ _ _ _ _ _ _ _ _ _ _ _ _ _ _ _ _ _ _ _ _ _ _ _ _ _ _ _ _ _ _ _ _ _ _ _ _ _ _ _ _ _ _ _ _ _ _ _ _ _ _ _ _ _ _ _ _ _ _ _ _ _ _ _ _ _ _ _ _ _ _ _ _ _ _ _ _ _ _ _ _ _ _ _ _ _ _ _ _ _ _ _ _ _ _ _ _ _ _ _ _ _ _ _ _ _ _ _ _ _ _ _ _ _ _ _ _ _ _ _ _ _ _ _ _ _ _ _ _ _ _ _ _ _ _ _ _ _ _ _ _ _ _ _ _ _ _ _ _ _ _ _ _ _ _ _ _ _ _ _ _ _ _ _ _ _ _ _ _ _ _ _ _ _ _ _ _ _ _ _ _ _ _ _ _ _ _ _ _ _ _ _ _ _ _ _ _ _ _ _ _ _ _ _ _ _ _ _ _ _ _ _ _ _ _ _ _ _ _ _ _ _ _ _ _ _ _ _ _ _ _ _ _ _ _ _ _ _ _ _ _ _ _ _ _ _ _ _ _ _ _ _ _ _ _ _ _ _ _ _ _ _ _ (fun c a d v w h=>hpan c a d v w h) ?_
 intro Yp Yq Yr Ys Yt Yu fv3 w3 hO3 hf3
 have hno3:∀ q,(q=O∨fv.ownBlock=some q)→OmB O iv fv av q:=fun q hq=>by
  rcases hq with rfl | hq
  ·exact .inl rfl
  ·exact .inr (.inr (.inl hq))
 have hL3:=hid (hL2.out.out hO2.out (hf3.mono fun q _ h=>hno3 q h))
 have hbW3:=hid (hbW2.out.trans (hf3.below (fun q e=>by
  rcases e with rfl | e
  ·exact hOW
  ·have:=(hO2.out.fin.lt e).1; omega) hbW2.out.size))
 replace hO3:=hid hO3
 replace hf3:=hid hf3
 go_upto_block 6 with fail
 refine rd_row W V syms C A io ci fo cf ro nr cr hS aio aci afo acf aro anr acr ast G hGb G0 RB O k b0 _ iv fv3 av vs (fin++[endV A.fin v]) X w3 hbW3.out (by rw [hm.out]; exact hk) hX hL3.out hO3.out hla hG hOW hRB _ _ _ _ _ _ _ _ _ _ _ _ _ _ _ _ _ _ _ _ _ _ _ _ _ _ _ _ _ _ _ _ _ _ _ _ _ _ _ _ _ _ _ _ _ _ _ _ _ _ _ _ _ _ _ _ _ _ _ _ _ _ _ _ _ _ _ _ _ _ _ _ _ _ _ _ _ _ _ _ _ _ _ _ _ _ _ _ _ _ _ _ _ _ _ _ _ _ _ _ _ _ _ _ _ _ _ _ _ _ _ _ _ _ _ _ _ _ _ _ _ _ _ _ _ _ _ _ _ _ _ _ _ _ _ _ _ _ _ _ _ _ _ _ _ _ _ _ _ _ _ _ _ _ _ _ _ _ _ _ _ _ _ _ _ _ _ _ _ _ _ _ _ _ _ _ _ _ _ _ _ _ _ _ _ _ _ _ _ _ _ _ _ _ _ _ _ _ _ _ _ _ _ _ _ _ _ _ _ _ _ _ _ _ _ _ _ _ _ _ _ _ _ _ _ _ _ _ _ _ _ _ _ _ _ _ _ _ _ _ _ _ _ _ _ _ _ _ _ _ _ _ _ _ _ _ _ _ _ _ _ _ _ _ _ _ _ _ _ _ _ _ _ _ _ _ _ _ _ _ _ _ _ _ _ _ _ _ _ _ _ _ _ _ _ _ _ _ _ _ _ _ _ _ _ (fun c a d v w h=>hpan c a d v w h) ?_ ?_
 ·intro x3 Yv Yw Yx Yy Yz Za Zb Zc Zd Ze Zf Zg Zh Zi Zj Zk Zl Zm Zn Zo Zp Zq Zr Zs Zt Zu Zv Zw Zx Zy Zz AA AB AC AD AE AF AG AH AI AJ AK AL AM AN AO AP AQ AR AS AT AU AV AW AX AY AZ BA BB BC BD BE BF BG BH BI BJ BK BL BM BN BO BP BQ BR BS BT BU BV BW BX BY BZ CA CB CC CD CE CF CG CH CI CJ CK CL CM CN CO CP CQ CR CS CT CU CV CW CX CY CZ DA DB DC DD DE DF DG DH DI DJ DK DL DM DN DO DP DQ DR DS DT DU DV DW DX DY DZ EA EB EC ED EE EF EG EH EI EJ EK EL EM EN EO EP EQ ER ES ET EU EV EW EX EY EZ FA FB FC FD Y lv4 iv4 av4 vs4 w4 hrow hY hsl hal hL4 hO4 hb4
  replace hrow:=hid hrow
  replace hL4:=hid hL4
  replace hO4:=hid hO4
  replace hb4:=hid hb4
  go_wp2_with fail
  exact hexit _ _ _ _ _ _ _ _ _ _ _ _ _ _ _ _ _ _ _ _ _ _ _ _ _ _ _ _ _ _ _ _ _ _ _ _ _ _ _ _ _ _ _ _ _ _ _ _ _ _ _ _ _ _ _ _ _ _ _ _ _ _ _ _ _ _ _ _ _ _ _ _ _ _ _ _ _ _ _ _ _ _ _ _ _ _ _ _ _ _ _ _ _ _ _ _ _ _ _ _ _ _ _ _ _ _ _ _ _ _ _ _ _ _ _ _ _ _ _ _ _ _ _ _ _ _ _ _ _ _ _ _ _ _ _ _ _ _ _ _ _ _ _ _ _ _ _ _ _ _ _ _ _ _ _ _ _ _ _ _ _ _ _ _ _ _ _ _ _ _ _ _ _ _ _ _ _ _ _ _ _ _ _ _ _ _ _ _ _ _ _ _ _ _ _ _ _ _ _ _ _ _ _ _ _ _ _ _ _ _ _ _ _ _ _ _ _ _ _ _ _ _ _ _ _ _ _ _ _ _ _ _ Y lv4 iv4 fv3 av4 vs4 w4 hrow.out hY hsl hal hL4.out hO4.out hb4.out
 ·intro FE Yv Yw Yx Yy Yz Za Zb Zc Zd Ze Zf Zg Zh Zi Zj Zk Zl Zm Zn Zo Zp Zq Zr Zs Zt Zu Zv Zw Zx Zy Zz AA AB AC AD AE AF AG AH AI AJ AK AL AM AN AO AP AQ AR AS AT AU AV AW AX AY AZ BA BB BC BD BE BF BG BH BI BJ BK BL BM BN BO BP BQ BR BS BT BU BV BW BX BY BZ CA CB CC CD CE CF CG CH CI CJ CK CL CM CN CO CP CQ CR CS CT CU CV CW CX CY CZ DA DB DC DD DE DF DG DH DI DJ DK DL DM DN DO DP DQ DR DS DT DU DV DW DX DY DZ EA EB EC ED EE EF EG EH EI EJ EK EL EM EN EO EP EQ ER ES ET EU EV EW EX EY EZ FA FB FC FD w4 hrow hR4 hb4
  exact hret _ _ _ _ _ _ _ _ _ _ _ _ _ _ _ _ _ _ _ _ _ _ _ _ _ _ _ _ _ _ _ _ _ _ _ _ _ _ _ _ _ _ _ _ _ _ _ _ _ _ _ _ _ _ _ _ _ _ _ _ _ _ _ _ _ _ _ _ _ _ _ _ _ _ _ _ _ _ _ _ _ _ _ _ _ _ _ _ _ _ _ _ _ _ _ _ _ _ _ _ _ _ _ _ _ _ _ _ _ _ _ _ _ _ _ _ _ _ _ _ _ _ _ _ _ _ _ _ _ _ _ _ _ _ _ _ _ _ _ _ _ _ _ _ _ _ _ _ _ _ _ _ _ _ _ _ _ _ _ _ _ _ _ _ _ _ _ _ _ _ _ _ _ _ _ _ _ _ _ _ _ _ _ _ _ _ _ _ _ _ _ _ _ _ _ _ _ _ _ _ _ _ _ _ _ _ _ _ _ _ _ _ _ _ _ _ _ _ _ _ _ _ _ _ _ _ _ _ _ _ _ _ w4 hrow hR4 hb4
end
end Go.Proofs.YtnapapijhhldpaaGreatDoor

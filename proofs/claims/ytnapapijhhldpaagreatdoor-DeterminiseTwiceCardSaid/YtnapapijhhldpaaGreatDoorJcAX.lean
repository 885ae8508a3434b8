/-
  Texts joined by program: TwNj, TwNk. No condition of its own.
-/
import Derived.Test.YtnapapijhhldpaaGreatDoorJcAW
namespace Go.Proofs.YtnapapijhhldpaaGreatDoor
set_option linter.unusedSimpArgs false
set_option linter.unusedVariables false
section
open Go.RowKit
theorem one_pre {N:List Ac} {us:List Bool} {k l:Nat} {X Y:Ds} (h:oneS N us k l X=some Y):∃ L,Y.subs=X.subs++L:=by
 unfold oneS at h
 split at h
 ·cases h; exact ⟨[],by simp⟩
 ·split at h
  ·cases h; exact ⟨[],by simp⟩
  ·split at h
   ·cases h
   ·cases h; exact ⟨_,rfl⟩
theorem row_pre {N:List Ac} {us:List Bool} {k:Nat}:∀ (n l:Nat) {X Y:Ds},rowS N us k n l X=some Y→∃ L,Y.subs=X.subs++L
 | 0,_,X,Y,h=>by injection h with h; subst h; exact ⟨[],by simp⟩
 | n+1,l,X,Y,h=>by
  cases h1:oneS N us k l X with
  | none=>rw [rowS_none h1] at h; cases h
  | some Z =>
   rw [rowS_some h1] at h
   obtain ⟨L1,e1⟩:=one_pre h1
   obtain ⟨L2,e2⟩:=row_pre n (l+1) h
   exact ⟨L1++L2,by rw [e2,e1,List.append_assoc]⟩
theorem run_end {N:List Ac} {us:List Bool} {syms f k:Nat} {X:Ds} (h:X.subs.length≤k):runS N us syms (f+1) k X=some X:=by
 show (if X.subs.length≤k then some X else _)=_
 rw [if_pos h]
theorem run_none {N:List Ac} {us:List Bool} {syms f k:Nat} {X:Ds} (h:k<X.subs.length) (hr:rowS N us k syms 1 X=none):runS N us syms (f+1) k X=none:=by
 show (if X.subs.length≤k then some X else match rowS N us k syms 1 X with | none=>none | some Y=>runS N us syms f (k+1) Y)=_
 rw [if_neg (by omega),hr]
theorem run_some {N:List Ac} {us:List Bool} {syms f k:Nat} {X Y:Ds} (h:k<X.subs.length) (hr:rowS N us k syms 1 X=some Y):runS N us syms (f+1) k X=runS N us syms f (k+1) Y:=by
 show (if X.subs.length≤k then some X else match rowS N us k syms 1 X with | none=>none | some Y=>runS N us syms f (k+1) Y)=_
 rw [if_neg (by omega),hr]
def bK (c k:Nat):Tw:=if k=0 then some c else none
def iniK (c k:Nat):List Tw:=(List.range k).map (bK c)
theorem iniK_succ (c k:Nat):iniK c k++[bK c k]=iniK c (k+1):=by unfold iniK; rw [List.range_succ,List.map_append]; rfl
theorem iniK_len (c k:Nat):(iniK c k).length=k:=by simp [iniK]
def finK (fin:List Tw) (X:Ds) (k:Nat):List Tw:=(X.subs.take k).map (endV fin)
theorem finK_succ {fin:List Tw} {X Y:Ds} {k:Nat} (hk:k<X.subs.length) (h:∃ L,Y.subs=X.subs++L):finK fin X k++[endV fin (X.subs.getD k [])]=finK fin Y (k+1):=by
 obtain ⟨L,e⟩:=h
 unfold finK
 rw [e,List.take_append_of_le_length (by omega),List.take_succ_eq_append_getElem hk,List.map_append]
 congr 2
 rw [List.getD_eq_getElem?_getD,List.getElem?_eq_getElem hk]; rfl
theorem finK_len {fin:List Tw} {X:Ds} {k:Nat} (hk:k≤X.subs.length):(finK fin X k).length=k:=by unfold finK; rw [List.length_map,List.length_take]; omega
theorem oV_bK0 (c:Nat):oV (some c)=oV (bK c 0):=rfl
theorem oV_bKs (c k:Nat):Value.int .i64 (-1)=oV (bK c (k+1)):=by unfold bK; rw [if_neg (by omega)]; rfl
set_option maxRecDepth 100000 in
set_option maxHeartbeats 4000000 in
theorem det_all (W:World) (V gu syms C:Nat) (N:Au) (us:List Bool) (io:Option Addr) (ci:Nat) (fo:Option Addr) (cf:Nat) (ro:Option Addr) (nr cr:Nat) (vo:Option Addr) (cv:Nat) (hS:Hid (Sta W V gu syms C N us io ci fo cf ro nr cr vo cv)) (G0 RB O mb c:Nat) (sv iv fv av:Value) (gs:List Nat) (X:Ds) (w:World) (hb:Below W.heap.size W w) (hX:Hid (Dok N.st C 0 X)) (hD:Dm w W.heap.size O N.st mb sv gs X.subs) (hO:Om w O syms 0 iv fv av [] [] X.arcs) (hla:X.arcs=[]) (hG:G0≤RB∧RB<W.heap.size) (hOW:W.heap.size≤O) (hmb:W.heap.size≤mb) (hRB:Bl RB [.int .i64 0,.slice none 0 0,.int .i64 0,.int .i64 0,.slice none 0 0,.slice none 0 0,.slice none 0 0] 30 W)
  (c0 c1 c3 c5 c7 c8 Aa Ab Ad Ae Af Ag Ah Ak Al Am An Ao Ap Aq Ar As Av Aw Ax Ay Az Ba Bb Bc Be Bf Bh Bi Bj Bk Bm Bn Bo Bp Bq Br Bs Bt Bu Bv Bw Bx By Bz Ca Cb Cc Cd Ce Cf Cg Ch Ci Cj Ck Cl Cm Cn Co Cp Cq Cr Ct Cu Cv Cw Cx Cy Cz Da Db Dc Dd De Df Dg Dh Di Dj Dk Dl Dn Dp Dq Dr Dt Du Dv Dw Dx Dy Dz Ea Eb Ec Ed Ee Ef Eg Eh Ei Ej Ek El Em En Eo Ep Eq Er Es Et Eu Ev Ew Ex Ey Ez Fa Fb Fc Fd Fe Ff Fg Fh Fi Fj Fk Fm Fn Fo Fp Fq Fs Ft Fu Fv Fw Fx Fy Fz Ga Gb Gc Gd Ge Gf Gg Gh Gi Gj Gk Gl Gm Gn Go Gp Gq Gr Gs Gt Gu Gv Gw Gx Gy Gz Ha Hb Hc Hd He Hf Hg Hh Hi Hj Hk Hl Hm Hn Ho Hp Hq Hr Hs Ht Hu Hv Hw Hx Hy Hz Ia Ib Ic Id Ie Ig Ih Ii Ij Ik Il Im Io Ip Iq Ir It Iu Iv Iw Ix Iy Iz Ja Jb Jc Jd Je Jf Jg Jh Ji Jj Jk Jl Jm Jn Jo Jp Jq Jr Js Jt Ju:Value) (Q0:Exit→Act→World→Prop) (hpan:∀ c (a:Act) d v w,Q0 (.panic c) (a.put d v) w→Q0 (.panic c) a w)
  (hexit:∀ (u3 Jv Jw Jx Jy Jz Ka Kb Kc Kd Ke Kf Kg Kh Ki Kj Kk Kl Km Kn Ko Kp Kq Kr Ks Kt Ku Kv Kw Kx Kz La Lb Lc Ld Le Lf Lg Lh Li Lj Lk Ll Lm Ln Lo Lp Lq Lr Lt Lu Lv Lx Ly Lz Ma Mb Mc Md Me Mf Mg Mh Mi Mj Ml Mm Mn Mp Mq Mr Ms Mt Mu Mw Mx My Mz Na Nb Nc Nd Ne Ng Nh Ni Nj Nk Nl Nm Nn Np Nq Nr Ns Nt Nu Nv Nw Nx Ny Nz Oa Ob Oc Od Oe Og Oh Oi Oj Ok Ol Oo Op Oq Os Ot Ou Ov Ow Ox Oy Oz Pa Pb Pc Pd Pe Pf Pg Ph Pi Pj Pk Pl Pm Pn Po Pp Pq Ps Pt Pu Pv Pw Px Py Pz Qa Qb Qc Qd Qe Qf Qg Qh Qi Qj Qk Ql Qm Qn Qo Qp Qq Qr Qs Qt Qu Qv Qw Qx:Value) (Y:Ds) (sv' iv' fv' av':Value) (gs':List Nat) (w':World),runS N.arcs us syms 66 0 X=some Y→Y.subs.length≤64→Y.arcs.length≤2048→Dm w' W.heap.size O N.st mb sv' gs' Y.subs→Om w' O syms 0 iv' fv' av' (iniK c Y.subs.length) (Y.subs.map (endV N.fin)) Y.arcs→Below W.heap.size W w'→Q0 .normal ⟨#[c0,c1,.pointer (some ⟨RB,0,none⟩),u3,.pointer (some ⟨V,0,none⟩),c5,.slice (some ⟨gu,0,none⟩) N.st N.st,c7,c8,.pointer (some ⟨O,0,none⟩),Jv,sv',.map (some mb),Jw,Jx,Jy,Jz,Ka,Kb,Kc,Kd,Ak,Ke,Kf,Kg,Kh,Ap,Aq,Ar,As,Av,Aw,Ax,Ay,Az,Ba,Bb,Bc,Be,Bf,Bh,Bi,Bj,Bk,Bm,Bn,Bo,Bp,Bq,Br,Bs,Bt,Bu,Bv,Bw,Bx,By,Bz,Ca,Cb,Cc,Cd,Ce,Cf,Cg,Ch,Ci,Cj,Ck,Cl,Cm,Cn,Co,Cp,Cq,Cr,Ct,Cu,Cv,Cw,Cx,Cy,Cz,Da,Ki,Kj,Kk,Kl,Km,Kn,Ko,Kp,Kq,Kr,Ks,Kt,Ku,Kv,Kw,Kx,Kz,La,Lb,Lc,Ld,Le,Lf,Lg,Lh,Li,Lj,Lk,Ll,Lm,Ln,Lo,Lp,Lq,Lr,Lt,Lu,Lv,Lx,Ly,Lz,Ma,Mb,Mc,Md,Me,Mf,Mg,Mh,Mi,Mj,Ml,Mm,Mn,Mp,Mq,Mr,Ms,Mt,Mu,Mw,Mx,My,Mz,Na,Nb,Nc,Nd,Ne,Ng,Nh,Ni,Nj,Nk,Nl,Nm,Nn,Np,Nq,Nr,Ns,Nt,Nu,Nv,Nw,Nx,Ny,Nz,Oa,Ob,Oc,Od,Oe,Og,Oh,Oi,Oj,Ok,Ol,Oo,Op,Oq,Os,Ot,Ou,Ov,Ow,Ox,Oy,Oz,Pa,Pb,Pc,Pd,Pe,Pf,Pg,Ph,Pi,Pj,Pk,Pl,Pm,Pn,Po,Pp,Pq,Ps,Pt,Pu,Pv,Pw,Px,Py,Pz,Qa,Qb,Qc,Qd,Qe,Qf,Qg,Qh,Qi,Qj,Qk,Ql,Qm,Qn,Qo,Qp,Qq,Qr,Qs,Qt,Qu,Qv,Qw,Qx,Jm,Jn,Jo,Jp,Jq,Jr,Js,Jt,Ju],[]⟩ w')
  (hret:∀ (Jv Qy Jw Jx Jy Jz Ka Kb Kc Kd Ke Kf Kg Kh Ki Kj Kk Kl Km Kn Ko Kp Kq Kr Ks Kt Ku Kv Kw Kx Kz La Lb Lc Ld Le Lf Lg Lh Li Lj Lk Ll Lm Ln Lo Lp Lq Lr Lt Lu Lv Lx Ly Lz Ma Mb Mc Md Me Mf Mg Mh Mi Mj Ml Mm Mn Mp Mq Mr Ms Mt Mu Mw Mx My Mz Na Nb Nc Nd Ne Ng Nh Ni Nj Nk Nl Nm Nn Np Nq Nr Ns Nt Nu Nv Nw Nx Ny Nz Oa Ob Oc Od Oe Og Oh Oi Oj Ok Ol Oo Op Oq Os Ot Ou Ov Ow Ox Oy Oz Pa Pb Pc Pd Pe Pf Pg Ph Pi Pj Pk Pl Pm Pn Po Pp Pq Ps Pt Pu Pv Pw Px Py Pz Qa Qb Qc Qd Qe Qf Qg Qh Qi Qj Qk Ql Qm Qn Qo Qp Qq Qr Qs Qt Qu Qv Qw Qx:Value) (w':World),runS N.arcs us syms 66 0 X=none→Bl RB [.int .i64 0,.slice none 0 0,.int .i64 0,.int .i64 0,.slice none 0 0,.slice none 0 0,.slice none 0 0] 30 w'→Below G0 W w'→Q0 .ret ⟨#[c0,c1,.pointer (some ⟨RB,0,none⟩),.int .i64 2,.pointer (some ⟨V,0,none⟩),c5,.slice (some ⟨gu,0,none⟩) N.st N.st,c7,c8,.pointer (some ⟨O,0,none⟩),Jv,Qy,.map (some mb),Jw,Jx,Jy,Jz,Ka,Kb,Kc,Kd,Ak,Ke,Kf,Kg,Kh,Ap,Aq,Ar,As,Av,Aw,Ax,Ay,Az,Ba,Bb,Bc,Be,Bf,Bh,Bi,Bj,Bk,Bm,Bn,Bo,Bp,Bq,Br,Bs,Bt,Bu,Bv,Bw,Bx,By,Bz,Ca,Cb,Cc,Cd,Ce,Cf,Cg,Ch,Ci,Cj,Ck,Cl,Cm,Cn,Co,Cp,Cq,Cr,Ct,Cu,Cv,Cw,Cx,Cy,Cz,Da,Ki,Kj,Kk,Kl,Km,Kn,Ko,Kp,Kq,Kr,Ks,Kt,Ku,Kv,Kw,Kx,Kz,La,Lb,Lc,Ld,Le,Lf,Lg,Lh,Li,Lj,Lk,Ll,Lm,Ln,Lo,Lp,Lq,Lr,Lt,Lu,Lv,Lx,Ly,Lz,Ma,Mb,Mc,Md,Me,Mf,Mg,Mh,Mi,Mj,Ml,Mm,Mn,Mp,Mq,Mr,Ms,Mt,Mu,Mw,Mx,My,Mz,Na,Nb,Nc,Nd,Ne,Ng,Nh,Ni,Nj,Nk,Nl,Nm,Nn,Np,Nq,Nr,Ns,Nt,Nu,Nv,Nw,Nx,Ny,Nz,Oa,Ob,Oc,Od,Oe,Og,Oh,Oi,Oj,Ok,Ol,Oo,Op,Oq,Os,Ot,Ou,Ov,Ow,Ox,Oy,Oz,Pa,Pb,Pc,Pd,Pe,Pf,Pg,Ph,Pi,Pj,Pk,Pl,Pm,Pn,Po,Pp,Pq,Ps,Pt,Pu,Pv,Pw,Px,Py,Pz,Qa,Qb,Qc,Qd,Qe,Qf,Qg,Qh,Qi,Qj,Qk,Ql,Qm,Qn,Qo,Qp,Qq,Qr,Qs,Qt,Qu,Qv,Qw,Qx,Jm,Jn,Jo,Jp,Jq,Jr,Js,Jt,Ju],[]⟩ w') :
  Code.wp Tryz.prog (dB 2) Q0 ⟨#[c0,c1,.pointer (some ⟨RB,0,none⟩),c3,.pointer (some ⟨V,0,none⟩),c5,.slice (some ⟨gu,0,none⟩) N.st N.st,c7,c8,.pointer (some ⟨O,0,none⟩),oV (some c),sv,.map (some mb),.int .i64 0,Aa,Ab,Ad,Ae,Af,Ag,Ah,Ak,Al,Am,An,Ao,Ap,Aq,Ar,As,Av,Aw,Ax,Ay,Az,Ba,Bb,Bc,Be,Bf,Bh,Bi,Bj,Bk,Bm,Bn,Bo,Bp,Bq,Br,Bs,Bt,Bu,Bv,Bw,Bx,By,Bz,Ca,Cb,Cc,Cd,Ce,Cf,Cg,Ch,Ci,Cj,Ck,Cl,Cm,Cn,Co,Cp,Cq,Cr,Ct,Cu,Cv,Cw,Cx,Cy,Cz,Da,Db,Dc,Dd,De,Df,Dg,Dh,Di,Dj,Dk,Dl,Dn,Dp,Dq,Dr,Dt,Du,Dv,Dw,Dx,Dy,Dz,Ea,Eb,Ec,Ed,Ee,Ef,Eg,Eh,Ei,Ej,Ek,El,Em,En,Eo,Ep,Eq,Er,Es,Et,Eu,Ev,Ew,Ex,Ey,Ez,Fa,Fb,Fc,Fd,Fe,Ff,Fg,Fh,Fi,Fj,Fk,Fm,Fn,Fo,Fp,Fq,Fs,Ft,Fu,Fv,Fw,Fx,Fy,Fz,Ga,Gb,Gc,Gd,Ge,Gf,Gg,Gh,Gi,Gj,Gk,Gl,Gm,Gn,Go,Gp,Gq,Gr,Gs,Gt,Gu,Gv,Gw,Gx,Gy,Gz,Ha,Hb,Hc,Hd,He,Hf,Hg,Hh,Hi,Hj,Hk,Hl,Hm,Hn,Ho,Hp,Hq,Hr,Hs,Ht,Hu,Hv,Hw,Hx,Hy,Hz,Ia,Ib,Ic,Id,Ie,Ig,Ih,Ii,Ij,Ik,Il,Im,Io,Ip,Iq,Ir,It,Iu,Iv,Iw,Ix,Iy,Iz,Ja,Jb,Jc,Jd,Je,Jf,Jg,Jh,Ji,Jj,Jk,Jl,Jm,Jn,Jo,Jp,Jq,Jr,Js,Jt,Ju],[]⟩ w:=by
 conv=>arg 2; whnf
 have hsy:=hS.out.sym
 replace hb:=hid hb
 replace hD:=hid hD
 have hO:Hid (Om w O syms 0 iv fv av (iniK c 0) (finK N.fin X 0) X.arcs):=hid (by simpa [iniK,finK] using hO)
 replace hla:=hid hla
 rw [oV_bK0]
 go_wp2_with fail
 go_loopw [10,11,13] (fun bv sv1 kv wr=>∃ (k:Nat) (X1:Ds) (iv1 fv1 av1:Value) (gs1:List Nat),k≤X1.subs.length∧kv=.int .i64 (k:Int)∧bv=oV (bK c k)∧Hid (runS N.arcs us syms (66-k) k X1=runS N.arcs us syms 66 0 X)∧Hid (Dok N.st C k X1)∧Hid (X1.arcs.length≤k*syms)∧Dm wr W.heap.size O N.st mb sv1 gs1 X1.subs∧Om wr O syms 0 iv1 fv1 av1 (iniK c k) (finK N.fin X1 k) X1.arcs∧Below W.heap.size W wr) (fun _ _ kv _=>65-(intOf kv).toNat)
 case atStart=>exact ⟨0,X,iv,fv,av,gs,Nat.zero_le _,rfl,rfl,hid rfl,hX,hid (by rw [hla.out]; exact Nat.zero_le _),hD.out,hO.out,hb.out⟩
 case round =>
  obtain ⟨k,X1,iv1,fv1,av1,gs1,hk,rfl,rfl,hrn,hX1,hal,hD1,hO1,hb1⟩:=hrel
  have hn64:=hX1.out.num
  obtain ⟨ao,cap,rfl,hrd⟩:=hD1.row.rd
  have hbd:=hrd.bound
  replace hD1:=hid hD1
  replace hO1:=hid hO1
  replace hb1:=hid hb1
  replace hrd:=hid hrd
  obtain ⟨m,hm⟩:∃ m,X1.subs.length=m:=⟨_,rfl⟩
  replace hm:=hid hm
  rw [hm.out] at hk hn64 hbd ⊢
  have hD1':=hD1.out
  rw [hm.out] at hD1'
  replace hD1':=hid hD1'
  obtain ⟨bv,hbv⟩:∃ bv,oV (bK c k)=bv:=⟨_,rfl⟩
  rw [hbv]
  replace hbv:=hid hbv
  by_cases hlt:k<m
  ·have i1:(k:Int)<(m:Int):=by omega
   have i0:(0:Int)≤(k:Int):=by omega
   obtain ⟨f,hf⟩:∃ f,66-k=f+1:=⟨65-k,by omega⟩
   replace hf:=hid hf
   go_upto_block 3 with fail
   rw [←hbv.out]
   refine det_turn W V gu syms C N us io ci fo cf ro nr cr vo cv hS G0 RB O mb k (bK c k) _ iv1 fv1 av1 gs1 (iniK c k) (finK N.fin X1 k) X1 wr hb1.out (by rw [hm.out]; exact hlt) hX1 hD1'.out hO1.out (by have h1:=hal.out; have h2:k*syms≤64*32:=Nat.mul_le_mul (by omega) hsy; omega) (by rw [iniK_len]; omega) (by rw [finK_len (by rw [hm.out]; exact hk)]; omega) hG hOW hmb hRB _ _ _ _ _ _ _ _ _ _ _ _ _ _ _ _ _ _ _ _ _ _ _ _ _ _ _ _ _ _ _ _ _ _ _ _ _ _ _ _ _ _ _ _ _ _ _ _ _ _ _ _ _ _ _ _ _ _ _ _ _ _ _ _ _ _ _ _ _ _ _ _ _ _ _ _ _ _ _ _ _ _ _ _ _ _ _ _ _ _ _ _ _ _ _ _ _ _ _ _ _ _ _ _ _ _ _ _ _ _ _ _ _ _ _ _ _ _ _ _ _ _ _ _ _ _ _ _ _ _ _ _ _ _ _ _ _ _ _ _ _ _ _ _ _ _ _ _ _ _ _ _ _ _ _ _ _ _ _ _ _ _ _ _ _ _ _ _ _ _ _ _ _ _ _ _ _ _ _ _ _ _ _ _ _ _ _ _ _ _ _ _ _ _ _ _ _ _ _ _ _ _ _ _ _ _ _ _ _ _ _ _ _ _ _ _ _ _ _ _ _ _ _ _ _ _ _ _ _ _ _ _ _ _ _ _ _ _ _ _ _ _ _ _ _ (fun c a d v w h=>hpan c a d v w h) ?_ ?_
   ·intro x3 Qz Ra Rb Rc Re Rf Rg Rh Ri Rj Rk Rl Rm Rn Ro Rp Rq Rr Rt Ru Rv Rx Ry Rz Sa Sc Sd Se Sf Sg Sh Si Sj Sk Sm Sn So Sr St Sv Sx Sy Sz Tb Tc Td Te Tf Tg Th Ti Tj Tk Tl Tm Tn Tq Tr Ts Tt Tu Tv Tx Ty Tz Ua Ub Uc Ud Ue Uf Ug Uh Ui Uj Uk Ul Um Un Uo Up Ur Ut Uu Uv Uw Ux Uy Uz Va Vb Vc Vd Ve Vf Vg Vh Vi Vj Vk Vl Vm Vn Vp Vq Vr Vs Vt Vu Vv Vw Vy Vz Wa Wb Wc We Wf Wg Wh Wi Wj Wl Wm Wn Wo Wp Wq Wr Ws Wt Wu Wv Ww Wx Wy Wz Xa Xb Xc Xd Xe Xf Xg Xh Xi Xj Xk Xl Xm Xn Xo Xp Xq Xr Xs Xt Xu Xv Xw Xx Xy Xz Ya Y sv2 iv2 fv2 av2 gs2 w2 hrow hY hsl har hD2 hO2 hb2
    rw [iniK_succ,finK_succ (by rw [hm.out]; exact hlt) (row_pre _ _ hrow)] at hO2
    have hru:Hid (runS N.arcs us syms (66-(k+1)) (k+1) Y=runS N.arcs us syms 66 0 X):=hid (by
     rw [←hrn.out,hf.out,run_some (by rw [hm.out]; exact hlt) hrow,show 66-(k+1)=f by have:=hf.out; omega])
    have har2:Hid (Y.arcs.length≤(k+1)*syms):=hid (by have h1:=hal.out; rw [Nat.add_mul]; omega)
    have hsl2:Hid (k+1≤Y.subs.length):=hid (by have:=hm.out; omega)
    clear hrow hsl har
    replace hD2:=hid hD2
    replace hO2:=hid hO2
    replace hb2:=hid hb2
    go_wp2_with fail
    go_roundw
    case rel=>exact ⟨k+1,Y,iv2,fv2,av2,gs2,hsl2.out,by go_num,oV_bKs c k,hru,hid hY.next,har2,hD2.out,hO2.out,hb2.out⟩
    case measure=>simp [intOf]; omega
   ·intro Yb Yc Qz Ra Rb Rc Re Rf Rg Rh Ri Rj Rk Rl Rm Rn Ro Rp Rq Rr Rt Ru Rv Rx Ry Rz Sa Sc Sd Se Sf Sg Sh Si Sj Sk Sm Sn So Sr St Sv Sx Sy Sz Tb Tc Td Te Tf Tg Th Ti Tj Tk Tl Tm Tn Tq Tr Ts Tt Tu Tv Tx Ty Tz Ua Ub Uc Ud Ue Uf Ug Uh Ui Uj Uk Ul Um Un Uo Up Ur Ut Uu Uv Uw Ux Uy Uz Va Vb Vc Vd Ve Vf Vg Vh Vi Vj Vk Vl Vm Vn Vp Vq Vr Vs Vt Vu Vv Vw Vy Vz Wa Wb Wc We Wf Wg Wh Wi Wj Wl Wm Wn Wo Wp Wq Wr Ws Wt Wu Wv Ww Wx Wy Wz Xa Xb Xc Xd Xe Xf Xg Xh Xi Xj Xk Xl Xm Xn Xo Xp Xq Xr Xs Xt Xu Xv Xw Xx Xy Xz Ya w2 hrow hR2 hb2
    exact hret _ _ _ _ _ _ _ _ _ _ _ _ _ _ _ _ _ _ _ _ _ _ _ _ _ _ _ _ _ _ _ _ _ _ _ _ _ _ _ _ _ _ _ _ _ _ _ _ _ _ _ _ _ _ _ _ _ _ _ _ _ _ _ _ _ _ _ _ _ _ _ _ _ _ _ _ _ _ _ _ _ _ _ _ _ _ _ _ _ _ _ _ _ _ _ _ _ _ _ _ _ _ _ _ _ _ _ _ _ _ _ _ _ _ _ _ _ _ _ _ _ _ _ _ _ _ _ _ _ _ _ _ _ _ _ _ _ _ _ _ _ _ _ _ _ _ _ _ _ _ _ _ _ _ _ _ _ _ _ _ _ _ _ _ _ _ _ _ _ _ _ _ _ w2 (by rw [←hrn.out,hf.out]; exact run_none (by rw [hm.out]; exact hlt) hrow) hR2 hb2
  ·obtain rfl:k=m:=by omega
   have i1:¬ (k:Int)<(k:Int):=by omega
   have hend:Hid (runS N.arcs us syms (66-k) k X1=some X1):=hid (by
    rw [show 66-k=(65-k)+1 by omega]; exact run_end (by rw [hm.out]; exact Nat.le_refl _))
   have hO3:=hO1.out
   unfold finK at hO3
   rw [←hm.out,List.take_length] at hO3
   replace hO3:=hid hO3
   go_wp2_with fail
   exact hexit _ _ _ _ _ _ _ _ _ _ _ _ _ _ _ _ _ _ _ _ _ _ _ _ _ _ _ _ _ _ _ _ _ _ _ _ _ _ _ _ _ _ _ _ _ _ _ _ _ _ _ _ _ _ _ _ _ _ _ _ _ _ _ _ _ _ _ _ _ _ _ _ _ _ _ _ _ _ _ _ _ _ _ _ _ _ _ _ _ _ _ _ _ _ _ _ _ _ _ _ _ _ _ _ _ _ _ _ _ _ _ _ _ _ _ _ _ _ _ _ _ _ _ _ _ _ _ _ _ _ _ _ _ _ _ _ _ _ _ _ _ _ _ _ _ _ _ _ _ _ _ _ _ _ _ _ _ _ _ _ _ _ _ _ _ _ _ _ _ _ _ _ _ X1 _ iv1 fv1 av1 gs1 wr (by rw [←hrn.out]; exact hend.out) hX1.out.num (by have h1:=hal.out; have h2:k*syms≤64*32:=Nat.mul_le_mul (by omega) hsy; omega) hD1'.out hO3.out hb1.out
end
section
open Go.RowKit
def fK (us:List Bool) (ini:List Tw) (n q:Nat):Vx:=(List.range n).map fun j=>if j<q then (firstV us ini).getD j none else none
theorem fK_len (us:List Bool) (ini:List Tw) (n q:Nat):(fK us ini n q).length=n:=by simp [fK]
theorem fK_get {us:List Bool} {ini:List Tw} {n q j:Nat} (h:j<n):(fK us ini n q)[j]? = some (if j<q then (firstV us ini).getD j none else none):=by simp [fK,h]
theorem fK_zero (us:List Bool) (ini:List Tw) (n:Nat):fK us ini n 0=List.replicate n none:=by
 apply List.ext_getElem?
 intro j
 by_cases h:j<n
 ·rw [fK_get h,List.getElem?_replicate,if_pos h,if_neg (by omega)]
 ·rw [List.getElem?_eq_none (by rw [fK_len]; omega),List.getElem?_eq_none (by simp; omega)]
theorem fK_end {us:List Bool} {ini:List Tw} {n:Nat} (hl:(firstV us ini).length=n):fK us ini n n=firstV us ini:=by
 apply List.ext_getElem?
 intro j
 by_cases h:j<n
 ·rw [fK_get h,if_pos h,List.getD_eq_getElem?_getD]
  have:(firstV us ini)[j]? = some ((firstV us ini)[j]'(by omega)):=List.getElem?_eq_getElem _
  rw [this]; rfl
 ·rw [List.getElem?_eq_none (by rw [fK_len]; omega),List.getElem?_eq_none (by omega)]
theorem fK_skip {us:List Bool} {ini:List Tw} {n q:Nat} (h:(firstV us ini).getD q none=none):fK us ini n (q+1)=fK us ini n q:=by
 apply List.ext_getElem?
 intro j
 by_cases hj:j<n
 ·rw [fK_get hj,fK_get hj]
  by_cases e:j=q
  ·subst e; rw [if_pos (by omega),if_neg (by omega),h]
  ·by_cases hq:j<q
   ·rw [if_pos (by omega),if_pos hq]
   ·rw [if_neg (by omega),if_neg hq]
 ·rw [List.getElem?_eq_none (by rw [fK_len]; omega),List.getElem?_eq_none (by rw [fK_len]; omega)]
theorem fK_note {us:List Bool} {ini:List Tw} {n q r:Nat} (hq:q<n) (h:(firstV us ini).getD q none=some r):fK us ini n (q+1)=noteV (fK us ini n q) q r:=by
 have e0:noteV (fK us ini n q) q r=(fK us ini n q).set q (some r):=by
  unfold noteV
  rw [fK_get hq,if_neg (by omega)]
 rw [e0]
 apply List.ext_getElem?
 intro j
 by_cases hj:j<n
 ·rw [fK_get hj,List.getElem?_set]
  by_cases e:q=j
  ·subst e; rw [if_pos (by omega),if_pos rfl,if_pos (by rw [fK_len]; exact hj),h]
  ·rw [if_neg e,fK_get hj]
   by_cases hq:j<q
   ·rw [if_pos (by omega),if_pos hq]
   ·rw [if_neg (by omega),if_neg hq]
 ·rw [List.getElem?_eq_none (by rw [fK_len]; omega),List.getElem?_eq_none (by rw [List.length_set,fK_len]; omega)]
theorem firstV_get {us:List Bool} {ini:List Tw} {q:Nat} {v:Tw} (hq:q<us.length) (hv:ini[q]? = some v):(firstV us ini).getD q none=if us.getD q false then v else none:=by
 unfold firstV
 rw [List.getD_eq_getElem?_getD,List.getD_eq_getElem?_getD,List.getElem?_zipWith,List.getElem?_eq_getElem hq,hv]
 rfl
set_option maxRecDepth 100000 in
set_option maxHeartbeats 4000000 in
theorem det_first (W:World) (V gu syms C:Nat) (N:Au) (us:List Bool) (io:Option Addr) (ci:Nat) (fo:Option Addr) (cf:Nat) (ro:Option Addr) (nr cr:Nat) (vo:Option Addr) (cv:Nat) (hS:Hid (Sta W V gu syms C N us io ci fo cf ro nr cr vo cv)) (base g:Nat) (w:World) (hb:Below W.heap.size W w) (hg:Sb w base g (List.replicate N.st none)) (hgb:W.heap.size≤g)
  (c0 c1 c2 c3 c5 c8 c9 Aa Ab Ad Ae Af Ag Ah Ak Al Am An Ao Ap Aq Ar As Av Aw Ax Ay Az Ba Bb Bc Be Bf Bh Bi Bj Bk Bm Bn Bo Bp Bq Br Bs Bt Bu Bv Bw Bx By Bz Ca Cb Cc Cd Ce Cf Cg Ch Ci Cj Ck Cl Cm Cn Co Cp Cq Cr Ct Cu Cv Cw Cx Cy Cz Da Db Dc Dd De Df Dg Dh Di Dj Dk Dl Dn Dp Dq Dr Dt Du Dv Dw Dx Dy Dz Ea Eb Ec Ed Ee Ef Eg Eh Ei Ej Ek El Em En Eo Ep Eq Er Es Et Eu Ev Ew Ex Ey Ez Fa Fb Fc Fd Fe Ff Fg Fh Fi Fj Fk Fm Fn Fo Fp Fq Fs Ft Fu Fv Fw Fx Fy Fz Ga Gb Gc Gd Ge Gf Gg Gh Gi Gj Gk Gl Gm Gn Go Gp Gq Gr Gs Gt Gu Gv Gw Gx Gy Gz Ha Hb Hc Hd He Hf Hg Hh Hi Hj Hk Hl Hm Hn Ho Hp Hq Hr Hs Ht Hu Hv Hw Hx Hy Hz Ia Ib Ic Id Ie Ig Ih Ii Ij Ik Il Im Io Ip Iq Ir It Iu Iv Iw Ix Iy Iz Ja Jb Jc Jd Je Jf Jg Jh Ji Jj Jk Jl Jm Jn Jo Jp Jq Jr Js Jt Ju Jv Jw:Value) (Q0:Exit→Act→World→Prop)
  (hexit:∀ (u8 Jx Jy Jz Ka Kb Kc Kd Ke Kf Kg Kh Ki Kj Kk Kl Km Kn Ko Kp Kq Kr Ks Kt:Value) (w':World),Sb w' base g (firstV us N.ini)→Below W.heap.size W w'→Q0 .normal ⟨#[c0,c1,c2,c3,.pointer (some ⟨V,0,none⟩),c5,.slice (some ⟨gu,0,none⟩) N.st N.st,.slice (some ⟨g,0,none⟩) N.st N.st,u8,c9,Aa,Ab,Ad,Ae,Af,Ag,Ah,Ak,Al,Am,An,Ao,Ap,Aq,Ar,As,Av,Aw,Ax,Ay,Az,Ba,Bb,Bc,Be,Bf,Bh,Bi,Bj,Bk,Bm,Bn,.int .i64 (N.st:Int),Jx,Jy,Jz,Ka,Kb,Kc,Kd,Ke,Kf,Kg,Kh,Ki,Kj,Kk,Kl,Km,Kn,Ko,Kp,Kq,Kr,Ks,Kt,Ck,Cl,Cm,Cn,Co,Cp,Cq,Cr,Ct,Cu,Cv,Cw,Cx,Cy,Cz,Da,Db,Dc,Dd,De,Df,Dg,Dh,Di,Dj,Dk,Dl,Dn,Dp,Dq,Dr,Dt,Du,Dv,Dw,Dx,Dy,Dz,Ea,Eb,Ec,Ed,Ee,Ef,Eg,Eh,Ei,Ej,Ek,El,Em,En,Eo,Ep,Eq,Er,Es,Et,Eu,Ev,Ew,Ex,Ey,Ez,Fa,Fb,Fc,Fd,Fe,Ff,Fg,Fh,Fi,Fj,Fk,Fm,Fn,Fo,Fp,Fq,Fs,Ft,Fu,Fv,Fw,Fx,Fy,Fz,Ga,Gb,Gc,Gd,Ge,Gf,Gg,Gh,Gi,Gj,Gk,Gl,Gm,Gn,Go,Gp,Gq,Gr,Gs,Gt,Gu,Gv,Gw,Gx,Gy,Gz,Ha,Hb,Hc,Hd,He,Hf,Hg,Hh,Hi,Hj,Hk,Hl,Hm,Hn,Ho,Hp,Hq,Hr,Hs,Ht,Hu,Hv,Hw,Hx,Hy,Hz,Ia,Ib,Ic,Id,Ie,Ig,Ih,Ii,Ij,Ik,Il,Im,Io,Ip,Iq,Ir,It,Iu,Iv,Iw,Ix,Iy,Iz,Ja,Jb,Jc,Jd,Je,Jf,Jg,Jh,Ji,Jj,Jk,Jl,Jm,Jn,Jo,Jp,Jq,Jr,Js,Jt,Ju,Jv,Jw],[]⟩ w') :
  Code.wp Tryz.prog (dB 0) Q0 ⟨#[c0,c1,c2,c3,.pointer (some ⟨V,0,none⟩),c5,.slice (some ⟨gu,0,none⟩) N.st N.st,.slice (some ⟨g,0,none⟩) N.st N.st,c8,c9,Aa,Ab,Ad,Ae,Af,Ag,Ah,Ak,Al,Am,An,Ao,Ap,Aq,Ar,As,Av,Aw,Ax,Ay,Az,Ba,Bb,Bc,Be,Bf,Bh,Bi,Bj,Bk,Bm,Bn,.int .i64 (N.st:Int),.int .i64 0,Bo,Bp,Bq,Br,Bs,Bt,Bu,Bv,Bw,Bx,By,Bz,Ca,Cb,Cc,Cd,Ce,Cf,Cg,Ch,Ci,Cj,Ck,Cl,Cm,Cn,Co,Cp,Cq,Cr,Ct,Cu,Cv,Cw,Cx,Cy,Cz,Da,Db,Dc,Dd,De,Df,Dg,Dh,Di,Dj,Dk,Dl,Dn,Dp,Dq,Dr,Dt,Du,Dv,Dw,Dx,Dy,Dz,Ea,Eb,Ec,Ed,Ee,Ef,Eg,Eh,Ei,Ej,Ek,El,Em,En,Eo,Ep,Eq,Er,Es,Et,Eu,Ev,Ew,Ex,Ey,Ez,Fa,Fb,Fc,Fd,Fe,Ff,Fg,Fh,Fi,Fj,Fk,Fm,Fn,Fo,Fp,Fq,Fs,Ft,Fu,Fv,Fw,Fx,Fy,Fz,Ga,Gb,Gc,Gd,Ge,Gf,Gg,Gh,Gi,Gj,Gk,Gl,Gm,Gn,Go,Gp,Gq,Gr,Gs,Gt,Gu,Gv,Gw,Gx,Gy,Gz,Ha,Hb,Hc,Hd,He,Hf,Hg,Hh,Hi,Hj,Hk,Hl,Hm,Hn,Ho,Hp,Hq,Hr,Hs,Ht,Hu,Hv,Hw,Hx,Hy,Hz,Ia,Ib,Ic,Id,Ie,Ig,Ih,Ii,Ij,Ik,Il,Im,Io,Ip,Iq,Ir,It,Iu,Iv,Iw,Ix,Iy,Iz,Ja,Jb,Jc,Jd,Je,Jf,Jg,Jh,Ji,Jj,Jk,Jl,Jm,Jn,Jo,Jp,Jq,Jr,Js,Jt,Ju,Jv,Jw],[]⟩ w:=by
 conv=>arg 2; whnf
 have hst:=hS.out.st
 have hlu:=hid hS.out.lu
 have hfl:Hid ((firstV us N.ini).length=N.st):=hid (by unfold firstV; rw [List.length_zipWith,hlu.out,hS.out.ini,Nat.min_self])
 rw [←fK_zero us N.ini] at hg
 replace hg:=hid hg
 replace hb:=hid hb
 go_wp2_with fail
 go_loopw [43] (fun iv wr=>∃ q:Nat,q≤N.st∧iv=.int .i64 (q:Int)∧Sb wr base g (fK us N.ini N.st q)∧Below W.heap.size W wr) (fun iv _=>N.st-(intOf iv).toNat)
 case atStart=>exact ⟨0,by omega,rfl,hg.out,hb.out⟩
 case round =>
  obtain ⟨q,hq,rfl,hrow,hbr⟩:=hrel
  replace hrow:=hid hrow
  by_cases hlt:q<N.st
  ·have i1:(q:Int)<(N.st:Int):=by omega
   have i0:(0:Int)≤(q:Int):=by omega
   have hSr:=hid (hS.out.next hbr)
   have y_1:=hSr.out.uf.cell hlt
   obtain ⟨v,hv,b,off,hio,hcs⟩:=hSr.out.vm.mo.ini.get hlt
   subst hio
   have hget:=firstV_get (us:=us) (by rw [hlu.out]; exact hlt) hv
   obtain ⟨e1,he1⟩:∃ e1,us.getD q false=e1:=⟨_,rfl⟩
   simp only [fBo] at y_1
   rw [he1] at y_1 hget
   have hvC:=hSr.out.cst.2.1 v (List.mem_of_getElem? hv)
   have hC:=hSr.out.cC
   have hbeg:=hid (begins_any syms N.st (.slice fo N.st cf) (.slice ro nr cr) (.slice vo (N.st+1) cv) (some ⟨b,off,none⟩) ci N.ini q v hv wr hSr.out.vm.mo.ini)
   clear he1 hv
   cases e1 with
   | false =>
    have hnx:=hid (fK_skip (n:=N.st) (q:=q) (by rw [hget]; rfl))
    clear hget
    replace hbr:=hid hbr
    go_wp2_with fail
    go_roundw
    case rel=>exact ⟨q+1,by omega,by go_num,by rw [hnx.out]; exact hrow.out,hbr.out⟩
    case measure=>simp [intOf]; omega
   | true =>
    cases v with
    | none =>
     have hnx:=hid (fK_skip (n:=N.st) (q:=q) (by rw [hget]; rfl))
     clear hget hcs
     replace hbr:=hid hbr
     obtain ⟨⟨y0,y1,y2,y3⟩,y4,y5,y6,y7⟩:=hSr.out.vw.eight
     go_wp2_with fail
     clear y0 y1 y2 y3 y4 y5 y6 y7
     refine hbeg.out.mono ?_; rintro e w2 ⟨rfl,hb2⟩
     replace hb2:=hid hb2
     go_wp2_with fail
     go_roundw
     case rel=>exact ⟨q+1,by omega,by go_num,by rw [hnx.out]; exact Rw.next hrow.out hb2.out,hbr.out.trans (hb2.out.mono hbr.out.size)⟩
     case measure=>simp [intOf]; omega
    | some c =>
     have hnx:=hid (fK_note (us:=us) (ini:=N.ini) (n:=N.st) (q:=q) (r:=c) hlt (by rw [hget]; rfl))
     have y_3:=hcs 3 _ rfl
     have hce:tc (some c)=c:=rfl
     rw [hce] at y_3
     have i4:(c:Int)≤1048576:=by have:c≤C:=hvC; omega
     have i5:(0:Int)≤(c:Int):=by omega
     clear hget hcs hvC hC hce
     replace y_3:=hid y_3
     replace hbr:=hid hbr
     obtain ⟨⟨y0,y1,y2,y3⟩,y4,y5,y6,y7⟩:=hSr.out.vw.eight
     go_wp2_with fail
     clear y0 y1 y2 y3 y4 y5 y6 y7
     refine hbeg.out.mono ?_; rintro e w2 ⟨rfl,hb2⟩
     have z4:=(hSr.out.next hb2).vw.cell (i:=4) rfl
     have z3:=y_3.out
     have z3:=cell_later hb2 z3
     have hrow2:Sb w2 base g (fK us N.ini N.st q):=Rw.next hrow.out hb2
     have hnote:=note_any base g q c (fK us N.ini N.st q) (by rw [fK_len]; exact hlt) w2 hrow2
     rw [fK_len] at hnote
     replace hnote:=hid hnote
     replace hrow2:=hid hrow2
     replace hb2:=hid hb2
     go_wp2_with fail
     refine hnote.out.mono ?_; rintro e w3 ⟨rfl,hrow3,hfr3⟩
     replace hrow3:=hid hrow3
     replace hfr3:=hid hfr3
     go_wp2_with fail
     go_roundw
     case rel=>exact ⟨q+1,by omega,by go_num,by rw [hnx.out]; exact hrow3.out,(hbr.out.trans (hb2.out.mono hbr.out.size)).trans (hfr3.out.below (fun k e=>by subst e; exact hgb) (by have:=hbr.out.size; have:=hb2.out.size; omega))⟩
     case measure=>simp [intOf]; omega
  ·obtain rfl:q=N.st:=by omega
   have i1:¬ (N.st:Int)<(N.st:Int):=by omega
   have hr2:=hrow.out
   rw [fK_end hfl.out] at hr2
   replace hr2:=hid hr2
   replace hbr:=hid hbr
   go_wp2_with fail
   exact hexit _ _ _ _ _ _ _ _ _ _ _ _ _ _ _ _ _ _ _ _ _ _ _ _ _ hr2.out hbr.out
end
end Go.Proofs.YtnapapijhhldpaaGreatDoor

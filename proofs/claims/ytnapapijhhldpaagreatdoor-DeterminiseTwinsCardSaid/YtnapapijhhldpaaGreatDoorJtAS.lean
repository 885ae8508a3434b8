/-
  Texts joined by program: TwNj, TwNk, TwNl. No condition of its own.
-/
import Derived.Test.YtnapapijhhldpaaGreatDoorJtAR
namespace Go.Proofs.YtnapapijhhldpaaGreatDoor
set_option linter.unusedSimpArgs false
set_option linter.unusedVariables false
set_option maxRecDepth 100000
set_option maxHeartbeats 4000000
section
open Go.RowKit
theorem one_pre {N:List Ac} {us:List Bool} {k l:Nat} {X Y:Ds} (h:oneS N us k l X=some Y):∃ L,Y.subs=X.subs++L:=by
 unfold oneS at h
 split at h
 ·cases h; exact ⟨[],by simp⟩
 ·split at h
  ·cases h; exact ⟨[],by simp⟩
  ·split at h
   ·cases h
   ·cases h; exact ⟨_,rfl⟩
theorem row_pre {N:List Ac} {us:List Bool} {k:Nat}:∀ (n l:Nat) {X Y:Ds},rowS N us k n l X=some Y->∃ L,Y.subs=X.subs++L
 | 0,_,X,Y,h=>by injection h with h; subst h; exact ⟨[],by simp⟩
 | n+1,l,X,Y,h=>by
  cases h1:oneS N us k l X with
  | none=>rw [rowS_none h1] at h; cases h
  | some Z =>
   rw [rowS_some h1] at h
   obtain ⟨L1,e1⟩:=one_pre h1
   obtain ⟨L2,e2⟩:=row_pre n (l+1) h
   exact ⟨L1++L2,by rw [e2,e1,List.append_assoc]⟩
theorem run_end {N:List Ac} {us:List Bool} {syms f k:Nat} {X:Ds} (h:X.subs.length<=k):runS N us syms (f+1) k X=some X:=by
 show (if X.subs.length<=k then some X else _)=_
 rw [if_pos h]
theorem run_none {N:List Ac} {us:List Bool} {syms f k:Nat} {X:Ds} (h:k<X.subs.length) (hr:rowS N us k syms 1 X=none):runS N us syms (f+1) k X=none:=by
 show (if X.subs.length<=k then some X else match rowS N us k syms 1 X with | none=>none | some Y=>runS N us syms f (k+1) Y)=_
 rw [if_neg (by omega),hr]
theorem run_some {N:List Ac} {us:List Bool} {syms f k:Nat} {X Y:Ds} (h:k<X.subs.length) (hr:rowS N us k syms 1 X=some Y):runS N us syms (f+1) k X=runS N us syms f (k+1) Y:=by
 show (if X.subs.length<=k then some X else match rowS N us k syms 1 X with | none=>none | some Y=>runS N us syms f (k+1) Y)=_
 rw [if_neg (by omega),hr]
def bK (c k:Nat):Tw:=if k=0 then some c else none
def iniK (c k:Nat):List Tw:=(List.range k).map (bK c)
theorem iniK_succ (c k:Nat):iniK c k++[bK c k]=iniK c (k+1):=by unfold iniK; rw [List.range_succ,List.map_append]; rfl
theorem iniK_len (c k:Nat):(iniK c k).length=k:=by simp [iniK]
def finK (fin:List Tw) (X:Ds) (k:Nat):List Tw:=(X.subs.take k).map (endV fin)
theorem finK_succ {fin:List Tw} {X Y:Ds} {k:Nat} (hk:k<X.subs.length) (h:∃ L,Y.subs=X.subs++L):finK fin X k++[endV fin (X.subs.getD k [])]=finK fin Y (k+1):=by
 obtain ⟨L,e⟩:=h
 unfold finK
 rw [e,List.take_append_of_le_length (by omega),List.take_succ_eq_append_getElem hk,List.map_append]
 congr 2
 rw [List.getD_eq_getElem?_getD,List.getElem?_eq_getElem hk]; rfl
theorem finK_len {fin:List Tw} {X:Ds} {k:Nat} (hk:k<=X.subs.length):(finK fin X k).length=k:=by unfold finK; rw [List.length_map,List.length_take]; omega
theorem oV_bK0 (c:Nat):oV (some c)=oV (bK c 0):=rfl
theorem oV_bKs (c k:Nat):Value.int .i64 (-1)=oV (bK c (k+1)):=by unfold bK; rw [if_neg (by omega)]; rfl
theorem det_all (W:World) (V gu syms C:Nat) (N:Au) (us:List Bool) (io:OA) (ci:Nat) (fo:OA) (cf:Nat) (ro:OA) (nr cr:Nat) (vo:OA) (cv:Nat) (hS:Hid (Sta W V gu syms C N us io ci fo cf ro nr cr vo cv)) (G0 RB O mb c:Nat) (sv iv fv av:Value) (gs:List Nat) (X:Ds) (w:World) (hb:Below W.heap.size W w) (hX:Hid (Dok N.st C 0 X)) (hD:Dm w W.heap.size O N.st mb sv gs X.subs) (hO:Om w O syms 0 iv fv av [] [] X.arcs) (hla:X.arcs=[]) (hG:G0<=RB/\RB<W.heap.size) (hOW:W.heap.size<=O) (hmb:W.heap.size<=mb) (hRB:Bl RB [.int .i64 0,.slice none 0 0,.int .i64 0,.int .i64 0,.slice none 0 0,.slice none 0 0,.slice none 0 0] 30 W)
  (c0 c1 c3 c5 c7 c8 Aa Ab Ad Ae Af Ag Ah Ak Al Am An Ao Ap Aq Ar As Av Aw Ax Ay Az Ba Bb Bc Be Bf Bh Bi Bj Bk Bm Bn Bo Bp Bq Br Bs Bt Bu Bv Bw Bx By Bz Ca Cb Cc Cd Ce Cf Cg Ch Ci Cj Ck Cl Cm Cn Co Cp Cq Cr Ct Cu Cv Cw Cx Cy Cz Da Db Dc Dd De Df Dg Dh Di Dj Dk Dl Dn Dp Dq Dr Dt Du Dv Dw Dx Dy Dz Ea Eb Ec Ed Ee Ef Eg Eh Ei Ej Ek El Em En Eo Ep Eq Er Es Et Eu Ev Ew Ex Ey Ez Fa Fb Fc Fd Fe Ff Fg Fh Fi Fj Fk Fm Fn Fo Fp Fq Fs Ft Fu Fv Fw Fx Fy Fz Ga Gb Gc Gd Ge Gf Gg Gh Gi Gj Gk Gl Gm Gn Go Gp Gq Gr Gs Gt Gu Gv Gw Gx Gy Gz Ha Hb Hc Hd He Hf Hg Hh Hi Hj Hk Hl Hm Hn Ho Hp Hq Hr Hs Ht Hu Hv Hw Hx Hy Hz Ia Ib Ic Id Ie Ig Ih Ii Ij Ik Il Im Io Ip Iq Ir It Iu Iv Iw Ix Iy Iz Ja Jb Jc Jd Je Jf Jg Jh Ji Jj Jk Jl Jm Jn Jo Jp Jq Jr Js Jt Ju:Value) (Q0:EP) (hpan:∀ c (a:Act) d v w,Q0 (.panic c) (a.put d v) w->Q0 (.panic c) a w)
  (hexit:∀ (u3 Jv Jw Jx Jy Jz Ka Kb Kc Kd Ke Kf Kg Kh Ki Kj Kk Kl Km Kn Ko Kp Kq Kr Ks Kt Ku Kv Kw Kx Kz La Lb Lc Ld Le Lf Lg Lh Li Lj Lk Ll Lm Ln Lo Lp Lq Lr Lt Lu Lv Lx Ly Lz Ma Mb Mc Md Me Mf Mg Mh Mi Mj Ml Mm Mn Mp Mq Mr Ms Mt Mu Mw Mx My Mz Na Nb Nc Nd Ne Ng Nh Ni Nj Nk Nl Nm Nn Np Nq Nr Ns Nt Nu Nv Nw Nx Ny Nz Oa Ob Oc Od Oe Og Oh Oi Oj Ok Ol Oo Op Oq Os Ot Ou Ov Ow Ox Oy Oz Pa Pb Pc Pd Pe Pf Pg Ph Pi Pj Pk Pl Pm Pn Po Pp Pq Ps Pt Pu Pv Pw Px Py Pz Qa Qb Qc Qd Qe Qf Qg Qh Qi Qj Qk Ql Qm Qn Qo Qp Qq Qr Qs Qt Qu Qv Qw Qx:Value) (Y:Ds) (sv' iv' fv' av':Value) (gs':List Nat) (w':World),runS N.arcs us syms 66 0 X=some Y->Y.subs.length<=64->Y.arcs.length<=2048->Dm w' W.heap.size O N.st mb sv' gs' Y.subs->Om w' O syms 0 iv' fv' av' (iniK c Y.subs.length) (Y.subs.map (endV N.fin)) Y.arcs->Below W.heap.size W w'->Q0 .normal ⟨#[c0,c1,.pointer (some ⟨RB,0,none⟩),u3,.pointer (some ⟨V,0,none⟩),c5,.slice (some ⟨gu,0,none⟩) N.st N.st,c7,c8,.pointer (some ⟨O,0,none⟩),Jv,sv',.map (some mb),Jw,Jx,Jy,Jz,Ka,Kb,Kc,Kd,Ak,Ke,Kf,Kg,Kh,Ap,Aq,Ar,As,Av,Aw,Ax,Ay,Az,Ba,Bb,Bc,Be,Bf,Bh,Bi,Bj,Bk,Bm,Bn,Bo,Bp,Bq,Br,Bs,Bt,Bu,Bv,Bw,Bx,By,Bz,Ca,Cb,Cc,Cd,Ce,Cf,Cg,Ch,Ci,Cj,Ck,Cl,Cm,Cn,Co,Cp,Cq,Cr,Ct,Cu,Cv,Cw,Cx,Cy,Cz,Da,Ki,Kj,Kk,Kl,Km,Kn,Ko,Kp,Kq,Kr,Ks,Kt,Ku,Kv,Kw,Kx,Kz,La,Lb,Lc,Ld,Le,Lf,Lg,Lh,Li,Lj,Lk,Ll,Lm,Ln,Lo,Lp,Lq,Lr,Lt,Lu,Lv,Lx,Ly,Lz,Ma,Mb,Mc,Md,Me,Mf,Mg,Mh,Mi,Mj,Ml,Mm,Mn,Mp,Mq,Mr,Ms,Mt,Mu,Mw,Mx,My,Mz,Na,Nb,Nc,Nd,Ne,Ng,Nh,Ni,Nj,Nk,Nl,Nm,Nn,Np,Nq,Nr,Ns,Nt,Nu,Nv,Nw,Nx,Ny,Nz,Oa,Ob,Oc,Od,Oe,Og,Oh,Oi,Oj,Ok,Ol,Oo,Op,Oq,Os,Ot,Ou,Ov,Ow,Ox,Oy,Oz,Pa,Pb,Pc,Pd,Pe,Pf,Pg,Ph,Pi,Pj,Pk,Pl,Pm,Pn,Po,Pp,Pq,Ps,Pt,Pu,Pv,Pw,Px,Py,Pz,Qa,Qb,Qc,Qd,Qe,Qf,Qg,Qh,Qi,Qj,Qk,Ql,Qm,Qn,Qo,Qp,Qq,Qr,Qs,Qt,Qu,Qv,Qw,Qx,Jm,Jn,Jo,Jp,Jq,Jr,Js,Jt,Ju],[]⟩ w')
  (hret:∀ (Jv Qy Jw Jx Jy Jz Ka Kb Kc Kd Ke Kf Kg Kh Ki Kj Kk Kl Km Kn Ko Kp Kq Kr Ks Kt Ku Kv Kw Kx Kz La Lb Lc Ld Le Lf Lg Lh Li Lj Lk Ll Lm Ln Lo Lp Lq Lr Lt Lu Lv Lx Ly Lz Ma Mb Mc Md Me Mf Mg Mh Mi Mj Ml Mm Mn Mp Mq Mr Ms Mt Mu Mw Mx My Mz Na Nb Nc Nd Ne Ng Nh Ni Nj Nk Nl Nm Nn Np Nq Nr Ns Nt Nu Nv Nw Nx Ny Nz Oa Ob Oc Od Oe Og Oh Oi Oj Ok Ol Oo Op Oq Os Ot Ou Ov Ow Ox Oy Oz Pa Pb Pc Pd Pe Pf Pg Ph Pi Pj Pk Pl Pm Pn Po Pp Pq Ps Pt Pu Pv Pw Px Py Pz Qa Qb Qc Qd Qe Qf Qg Qh Qi Qj Qk Ql Qm Qn Qo Qp Qq Qr Qs Qt Qu Qv Qw Qx:Value) (w':World),runS N.arcs us syms 66 0 X=none->Bl RB [.int .i64 0,.slice none 0 0,.int .i64 0,.int .i64 0,.slice none 0 0,.slice none 0 0,.slice none 0 0] 30 w'->Below G0 W w'->Q0 .ret ⟨#[c0,c1,.pointer (some ⟨RB,0,none⟩),.int .i64 2,.pointer (some ⟨V,0,none⟩),c5,.slice (some ⟨gu,0,none⟩) N.st N.st,c7,c8,.pointer (some ⟨O,0,none⟩),Jv,Qy,.map (some mb),Jw,Jx,Jy,Jz,Ka,Kb,Kc,Kd,Ak,Ke,Kf,Kg,Kh,Ap,Aq,Ar,As,Av,Aw,Ax,Ay,Az,Ba,Bb,Bc,Be,Bf,Bh,Bi,Bj,Bk,Bm,Bn,Bo,Bp,Bq,Br,Bs,Bt,Bu,Bv,Bw,Bx,By,Bz,Ca,Cb,Cc,Cd,Ce,Cf,Cg,Ch,Ci,Cj,Ck,Cl,Cm,Cn,Co,Cp,Cq,Cr,Ct,Cu,Cv,Cw,Cx,Cy,Cz,Da,Ki,Kj,Kk,Kl,Km,Kn,Ko,Kp,Kq,Kr,Ks,Kt,Ku,Kv,Kw,Kx,Kz,La,Lb,Lc,Ld,Le,Lf,Lg,Lh,Li,Lj,Lk,Ll,Lm,Ln,Lo,Lp,Lq,Lr,Lt,Lu,Lv,Lx,Ly,Lz,Ma,Mb,Mc,Md,Me,Mf,Mg,Mh,Mi,Mj,Ml,Mm,Mn,Mp,Mq,Mr,Ms,Mt,Mu,Mw,Mx,My,Mz,Na,Nb,Nc,Nd,Ne,Ng,Nh,Ni,Nj,Nk,Nl,Nm,Nn,Np,Nq,Nr,Ns,Nt,Nu,Nv,Nw,Nx,Ny,Nz,Oa,Ob,Oc,Od,Oe,Og,Oh,Oi,Oj,Ok,Ol,Oo,Op,Oq,Os,Ot,Ou,Ov,Ow,Ox,Oy,Oz,Pa,Pb,Pc,Pd,Pe,Pf,Pg,Ph,Pi,Pj,Pk,Pl,Pm,Pn,Po,Pp,Pq,Ps,Pt,Pu,Pv,Pw,Px,Py,Pz,Qa,Qb,Qc,Qd,Qe,Qf,Qg,Qh,Qi,Qj,Qk,Ql,Qm,Qn,Qo,Qp,Qq,Qr,Qs,Qt,Qu,Qv,Qw,Qx,Jm,Jn,Jo,Jp,Jq,Jr,Js,Jt,Ju],[]⟩ w') :
  Code.wp Tryz.prog (dB 2) Q0 ⟨#[c0,c1,.pointer (some ⟨RB,0,none⟩),c3,.pointer (some ⟨V,0,none⟩),c5,.slice (some ⟨gu,0,none⟩) N.st N.st,c7,c8,.pointer (some ⟨O,0,none⟩),oV (some c),sv,.map (some mb),.int .i64 0,Aa,Ab,Ad,Ae,Af,Ag,Ah,Ak,Al,Am,An,Ao,Ap,Aq,Ar,As,Av,Aw,Ax,Ay,Az,Ba,Bb,Bc,Be,Bf,Bh,Bi,Bj,Bk,Bm,Bn,Bo,Bp,Bq,Br,Bs,Bt,Bu,Bv,Bw,Bx,By,Bz,Ca,Cb,Cc,Cd,Ce,Cf,Cg,Ch,Ci,Cj,Ck,Cl,Cm,Cn,Co,Cp,Cq,Cr,Ct,Cu,Cv,Cw,Cx,Cy,Cz,Da,Db,Dc,Dd,De,Df,Dg,Dh,Di,Dj,Dk,Dl,Dn,Dp,Dq,Dr,Dt,Du,Dv,Dw,Dx,Dy,Dz,Ea,Eb,Ec,Ed,Ee,Ef,Eg,Eh,Ei,Ej,Ek,El,Em,En,Eo,Ep,Eq,Er,Es,Et,Eu,Ev,Ew,Ex,Ey,Ez,Fa,Fb,Fc,Fd,Fe,Ff,Fg,Fh,Fi,Fj,Fk,Fm,Fn,Fo,Fp,Fq,Fs,Ft,Fu,Fv,Fw,Fx,Fy,Fz,Ga,Gb,Gc,Gd,Ge,Gf,Gg,Gh,Gi,Gj,Gk,Gl,Gm,Gn,Go,Gp,Gq,Gr,Gs,Gt,Gu,Gv,Gw,Gx,Gy,Gz,Ha,Hb,Hc,Hd,He,Hf,Hg,Hh,Hi,Hj,Hk,Hl,Hm,Hn,Ho,Hp,Hq,Hr,Hs,Ht,Hu,Hv,Hw,Hx,Hy,Hz,Ia,Ib,Ic,Id,Ie,Ig,Ih,Ii,Ij,Ik,Il,Im,Io,Ip,Iq,Ir,It,Iu,Iv,Iw,Ix,Iy,Iz,Ja,Jb,Jc,Jd,Je,Jf,Jg,Jh,Ji,Jj,Jk,Jl,Jm,Jn,Jo,Jp,Jq,Jr,Js,Jt,Ju],[]⟩ w:=by
 conv=>arg 2; whnf
 have hsy:=hS.out.sym
 replace hb:=hid hb
 replace hD:=hid hD
 have hO:Hid (Om w O syms 0 iv fv av (iniK c 0) (finK N.fin X 0) X.arcs):=hid (by simpa [iniK,finK] using hO)
 replace hla:=hid hla
 rw [oV_bK0]
 go_wp2_with fail
 go_loopw [10,11,13] (fun bv sv1 kv wr=>∃ (k:Nat) (X1:Ds) (iv1 fv1 av1:Value) (gs1:List Nat),k<=X1.subs.length/\kv=.int .i64 (k:Int)/\bv=oV (bK c k)/\Hid (runS N.arcs us syms (66-k) k X1=runS N.arcs us syms 66 0 X)/\Hid (Dok N.st C k X1)/\Hid (X1.arcs.length<=k*syms)/\Dm wr W.heap.size O N.st mb sv1 gs1 X1.subs/\Om wr O syms 0 iv1 fv1 av1 (iniK c k) (finK N.fin X1 k) X1.arcs/\Below W.heap.size W wr) (fun _ _ kv _=>65-(intOf kv).toNat)
 case atStart=>exact ⟨0,X,iv,fv,av,gs,Nat.zero_le _,rfl,rfl,hid rfl,hX,hid (by rw [hla.out]; exact Nat.zero_le _),hD.out,hO.out,hb.out⟩
 case round =>
  obtain ⟨k,X1,iv1,fv1,av1,gs1,hk,rfl,rfl,hrn,hX1,hal,hD1,hO1,hb1⟩:=hrel
  have hn64:=hX1.out.num
  obtain ⟨ao,cap,rfl,hrd⟩:=hD1.row.rd
  have hbd:=hrd.bound
  replace hD1:=hid hD1
  replace hO1:=hid hO1
  replace hb1:=hid hb1
  replace hrd:=hid hrd
  obtain ⟨m,hm⟩:∃ m,X1.subs.length=m:=⟨_,rfl⟩
  replace hm:=hid hm
  rw [hm.out] at hk hn64 hbd ⊢
  have hD1':=hD1.out
  rw [hm.out] at hD1'
  replace hD1':=hid hD1'
  obtain ⟨bv,hbv⟩:∃ bv,oV (bK c k)=bv:=⟨_,rfl⟩
  rw [hbv]
  replace hbv:=hid hbv
  by_cases hlt:k<m
  ·have i1:(k:Int)<(m:Int):=by omega
   have i0:(0:Int)<=(k:Int):=by omega
   obtain ⟨f,hf⟩:∃ f,66-k=f+1:=⟨65-k,by omega⟩
   replace hf:=hid hf
   go_upto_block 3 with fail
   rw [<-hbv.out]
   refine det_turn W V gu syms C N us io ci fo cf ro nr cr vo cv hS G0 RB O mb k (bK c k) _ iv1 fv1 av1 gs1 (iniK c k) (finK N.fin X1 k) X1 wr hb1.out (by rw [hm.out]; exact hlt) hX1 hD1'.out hO1.out (by have h1:=hal.out; have h2:k*syms<=64*32:=Nat.mul_le_mul (by omega) hsy; omega) (by rw [iniK_len]; omega) (by rw [finK_len (by rw [hm.out]; exact hk)]; omega) hG hOW hmb hRB hpan ?_ ?_
   ·intro x3 Qz Ra Rb Rc Re Rf Rg Rh Ri Rj Rk Rl Rm Rn Ro Rp Rq Rr Rt Ru Rv Rx Ry Rz Sa Sc Sd Se Sf Sg Sh Si Sj Sk Sm Sn So Sr St Sv Sx Sy Sz Tb Tc Td Te Tf Tg Th Ti Tj Tk Tl Tm Tn Tq Tr Ts Tt Tu Tv Tx Ty Tz Ua Ub Uc Ud Ue Uf Ug Uh Ui Uj Uk Ul Um Un Uo Up Ur Ut Uu Uv Uw Ux Uy Uz Va Vb Vc Vd Ve Vf Vg Vh Vi Vj Vk Vl Vm Vn Vp Vq Vr Vs Vt Vu Vv Vw Vy Vz Wa Wb Wc We Wf Wg Wh Wi Wj Wl Wm Wn Wo Wp Wq Wr Ws Wt Wu Wv Ww Wx Wy Wz Xa Xb Xc Xd Xe Xf Xg Xh Xi Xj Xk Xl Xm Xn Xo Xp Xq Xr Xs Xt Xu Xv Xw Xx Xy Xz Ya Y sv2 iv2 fv2 av2 gs2 w2 hrow hY hsl har hD2 hO2 hb2
    rw [iniK_succ,finK_succ (by rw [hm.out]; exact hlt) (row_pre _ _ hrow)] at hO2
    have hru:Hid (runS N.arcs us syms (66-(k+1)) (k+1) Y=runS N.arcs us syms 66 0 X):=hid (by
     rw [<-hrn.out,hf.out,run_some (by rw [hm.out]; exact hlt) hrow,show 66-(k+1)=f by have:=hf.out; omega])
    have har2:Hid (Y.arcs.length<=(k+1)*syms):=hid (by have h1:=hal.out; rw [Nat.add_mul]; omega)
    have hsl2:Hid (k+1<=Y.subs.length):=hid (by have:=hm.out; omega)
    clear hrow hsl har
    replace hD2:=hid hD2
    replace hO2:=hid hO2
    replace hb2:=hid hb2
    go_wp2_with fail
    go_roundw
    case rel=>exact ⟨k+1,Y,iv2,fv2,av2,gs2,hsl2.out,by go_num,oV_bKs c k,hru,hid hY.next,har2,hD2.out,hO2.out,hb2.out⟩
    case measure=>simp [intOf]; omega
   ·intro Yb Yc Qz Ra Rb Rc Re Rf Rg Rh Ri Rj Rk Rl Rm Rn Ro Rp Rq Rr Rt Ru Rv Rx Ry Rz Sa Sc Sd Se Sf Sg Sh Si Sj Sk Sm Sn So Sr St Sv Sx Sy Sz Tb Tc Td Te Tf Tg Th Ti Tj Tk Tl Tm Tn Tq Tr Ts Tt Tu Tv Tx Ty Tz Ua Ub Uc Ud Ue Uf Ug Uh Ui Uj Uk Ul Um Un Uo Up Ur Ut Uu Uv Uw Ux Uy Uz Va Vb Vc Vd Ve Vf Vg Vh Vi Vj Vk Vl Vm Vn Vp Vq Vr Vs Vt Vu Vv Vw Vy Vz Wa Wb Wc We Wf Wg Wh Wi Wj Wl Wm Wn Wo Wp Wq Wr Ws Wt Wu Wv Ww Wx Wy Wz Xa Xb Xc Xd Xe Xf Xg Xh Xi Xj Xk Xl Xm Xn Xo Xp Xq Xr Xs Xt Xu Xv Xw Xx Xy Xz Ya w2 hrow hR2 hb2
    exact hret _ _ _ _ _ _ _ _ _ _ _ _ _ _ _ _ _ _ _ _ _ _ _ _ _ _ _ _ _ _ _ _ _ _ _ _ _ _ _ _ _ _ _ _ _ _ _ _ _ _ _ _ _ _ _ _ _ _ _ _ _ _ _ _ _ _ _ _ _ _ _ _ _ _ _ _ _ _ _ _ _ _ _ _ _ _ _ _ _ _ _ _ _ _ _ _ _ _ _ _ _ _ _ _ _ _ _ _ _ _ _ _ _ _ _ _ _ _ _ _ _ _ _ _ _ _ _ _ _ _ _ _ _ _ _ _ _ _ _ _ _ _ _ _ _ _ _ _ _ _ _ _ _ _ _ _ _ _ _ _ _ _ _ _ _ _ _ _ _ _ _ _ _ w2 (by rw [<-hrn.out,hf.out]; exact run_none (by rw [hm.out]; exact hlt) hrow) hR2 hb2
  ·obtain rfl:k=m:=by omega
   have i1:¬ (k:Int)<(k:Int):=by omega
   have hend:Hid (runS N.arcs us syms (66-k) k X1=some X1):=hid (by
    rw [show 66-k=(65-k)+1 by omega]; exact run_end (by rw [hm.out]; exact Nat.le_refl _))
   have hO3:=hO1.out
   unfold finK at hO3
   rw [<-hm.out,List.take_length] at hO3
   replace hO3:=hid hO3
   go_wp2_with fail
   exact hexit _ _ _ _ _ _ _ _ _ _ _ _ _ _ _ _ _ _ _ _ _ _ _ _ _ _ _ _ _ _ _ _ _ _ _ _ _ _ _ _ _ _ _ _ _ _ _ _ _ _ _ _ _ _ _ _ _ _ _ _ _ _ _ _ _ _ _ _ _ _ _ _ _ _ _ _ _ _ _ _ _ _ _ _ _ _ _ _ _ _ _ _ _ _ _ _ _ _ _ _ _ _ _ _ _ _ _ _ _ _ _ _ _ _ _ _ _ _ _ _ _ _ _ _ _ _ _ _ _ _ _ _ _ _ _ _ _ _ _ _ _ _ _ _ _ _ _ _ _ _ _ _ _ _ _ _ _ _ _ _ _ _ _ _ _ _ _ _ _ _ _ _ _ X1 _ iv1 fv1 av1 gs1 wr (by rw [<-hrn.out]; exact hend.out) hX1.out.num (by have h1:=hal.out; have h2:k*syms<=64*32:=Nat.mul_le_mul (by omega) hsy; omega) hD1'.out hO3.out hb1.out
end
section
open Go.RowKit
def fK (us:List Bool) (ini:List Tw) (n q:Nat):Vx:=(List.range n).map fun j=>if j<q then (firstV us ini).getD j none else none
theorem fK_len (us:List Bool) (ini:List Tw) (n q:Nat):(fK us ini n q).length=n:=by simp [fK]
theorem fK_get {us:List Bool} {ini:List Tw} {n q j:Nat} (h:j<n):(fK us ini n q)[j]? = some (if j<q then (firstV us ini).getD j none else none):=by simp [fK,h]
theorem fK_zero (us:List Bool) (ini:List Tw) (n:Nat):fK us ini n 0=List.replicate n none:=by
 apply List.ext_getElem?
 intro j
 by_cases h:j<n
 ·rw [fK_get h,List.getElem?_replicate,if_pos h,if_neg (by omega)]
 ·rw [List.getElem?_eq_none (by rw [fK_len]; omega),List.getElem?_eq_none (by simp; omega)]
theorem fK_end {us:List Bool} {ini:List Tw} {n:Nat} (hl:(firstV us ini).length=n):fK us ini n n=firstV us ini:=by
 apply List.ext_getElem?
 intro j
 by_cases h:j<n
 ·rw [fK_get h,if_pos h,List.getD_eq_getElem?_getD]
  have:(firstV us ini)[j]? = some ((firstV us ini)[j]'(by omega)):=List.getElem?_eq_getElem _
  rw [this]; rfl
 ·rw [List.getElem?_eq_none (by rw [fK_len]; omega),List.getElem?_eq_none (by omega)]
theorem fK_skip {us:List Bool} {ini:List Tw} {n q:Nat} (h:(firstV us ini).getD q none=none):fK us ini n (q+1)=fK us ini n q:=by
 apply List.ext_getElem?
 intro j
 by_cases hj:j<n
 ·rw [fK_get hj,fK_get hj]
  by_cases e:j=q
  ·subst e; rw [if_pos (by omega),if_neg (by omega),h]
  ·by_cases hq:j<q
   ·rw [if_pos (by omega),if_pos hq]
   ·rw [if_neg (by omega),if_neg hq]
 ·rw [List.getElem?_eq_none (by rw [fK_len]; omega),List.getElem?_eq_none (by rw [fK_len]; omega)]
theorem fK_note {us:List Bool} {ini:List Tw} {n q r:Nat} (hq:q<n) (h:(firstV us ini).getD q none=some r):fK us ini n (q+1)=noteV (fK us ini n q) q r:=by
 have e0:noteV (fK us ini n q) q r=(fK us ini n q).set q (some r):=by
  unfold noteV
  rw [fK_get hq,if_neg (by omega)]
 rw [e0]
 apply List.ext_getElem?
 intro j
 by_cases hj:j<n
 ·rw [fK_get hj,List.getElem?_set]
  by_cases e:q=j
  ·subst e; rw [if_pos (by omega),if_pos rfl,if_pos (by rw [fK_len]; exact hj),h]
  ·rw [if_neg e,fK_get hj]
   by_cases hq:j<q
   ·rw [if_pos (by omega),if_pos hq]
   ·rw [if_neg (by omega),if_neg hq]
 ·rw [List.getElem?_eq_none (by rw [fK_len]; omega),List.getElem?_eq_none (by rw [List.length_set,fK_len]; omega)]
theorem firstV_get {us:List Bool} {ini:List Tw} {q:Nat} {v:Tw} (hq:q<us.length) (hv:ini[q]? = some v):(firstV us ini).getD q none=if us.getD q false then v else none:=by
 unfold firstV
 rw [List.getD_eq_getElem?_getD,List.getD_eq_getElem?_getD,List.getElem?_zipWith,List.getElem?_eq_getElem hq,hv]
 rfl
theorem det_first (W:World) (V gu syms C:Nat) (N:Au) (us:List Bool) (io:OA) (ci:Nat) (fo:OA) (cf:Nat) (ro:OA) (nr cr:Nat) (vo:OA) (cv:Nat) (hS:Hid (Sta W V gu syms C N us io ci fo cf ro nr cr vo cv)) (base g:Nat) (w:World) (hb:Below W.heap.size W w) (hg:Sb w base g (List.replicate N.st none)) (hgb:W.heap.size<=g)
  {c0 c1 c2 c3 c5 c8 c9 Aa Ab Ad Ae Af Ag Ah Ak Al Am An Ao Ap Aq Ar As Av Aw Ax Ay Az Ba Bb Bc Be Bf Bh Bi Bj Bk Bm Bn Bo Bp Bq Br Bs Bt Bu Bv Bw Bx By Bz Ca Cb Cc Cd Ce Cf Cg Ch Ci Cj Ck Cl Cm Cn Co Cp Cq Cr Ct Cu Cv Cw Cx Cy Cz Da Db Dc Dd De Df Dg Dh Di Dj Dk Dl Dn Dp Dq Dr Dt Du Dv Dw Dx Dy Dz Ea Eb Ec Ed Ee Ef Eg Eh Ei Ej Ek El Em En Eo Ep Eq Er Es Et Eu Ev Ew Ex Ey Ez Fa Fb Fc Fd Fe Ff Fg Fh Fi Fj Fk Fm Fn Fo Fp Fq Fs Ft Fu Fv Fw Fx Fy Fz Ga Gb Gc Gd Ge Gf Gg Gh Gi Gj Gk Gl Gm Gn Go Gp Gq Gr Gs Gt Gu Gv Gw Gx Gy Gz Ha Hb Hc Hd He Hf Hg Hh Hi Hj Hk Hl Hm Hn Ho Hp Hq Hr Hs Ht Hu Hv Hw Hx Hy Hz Ia Ib Ic Id Ie Ig Ih Ii Ij Ik Il Im Io Ip Iq Ir It Iu Iv Iw Ix Iy Iz Ja Jb Jc Jd Je Jf Jg Jh Ji Jj Jk Jl Jm Jn Jo Jp Jq Jr Js Jt Ju Jv Jw:Value} {Q0:EP}
  (hexit:∀ (u8 Jx Jy Jz Ka Kb Kc Kd Ke Kf Kg Kh Ki Kj Kk Kl Km Kn Ko Kp Kq Kr Ks Kt:Value) (w':World),Sb w' base g (firstV us N.ini)->Below W.heap.size W w'->Q0 .normal ⟨#[c0,c1,c2,c3,.pointer (some ⟨V,0,none⟩),c5,.slice (some ⟨gu,0,none⟩) N.st N.st,.slice (some ⟨g,0,none⟩) N.st N.st,u8,c9,Aa,Ab,Ad,Ae,Af,Ag,Ah,Ak,Al,Am,An,Ao,Ap,Aq,Ar,As,Av,Aw,Ax,Ay,Az,Ba,Bb,Bc,Be,Bf,Bh,Bi,Bj,Bk,Bm,Bn,.int .i64 (N.st:Int),Jx,Jy,Jz,Ka,Kb,Kc,Kd,Ke,Kf,Kg,Kh,Ki,Kj,Kk,Kl,Km,Kn,Ko,Kp,Kq,Kr,Ks,Kt,Ck,Cl,Cm,Cn,Co,Cp,Cq,Cr,Ct,Cu,Cv,Cw,Cx,Cy,Cz,Da,Db,Dc,Dd,De,Df,Dg,Dh,Di,Dj,Dk,Dl,Dn,Dp,Dq,Dr,Dt,Du,Dv,Dw,Dx,Dy,Dz,Ea,Eb,Ec,Ed,Ee,Ef,Eg,Eh,Ei,Ej,Ek,El,Em,En,Eo,Ep,Eq,Er,Es,Et,Eu,Ev,Ew,Ex,Ey,Ez,Fa,Fb,Fc,Fd,Fe,Ff,Fg,Fh,Fi,Fj,Fk,Fm,Fn,Fo,Fp,Fq,Fs,Ft,Fu,Fv,Fw,Fx,Fy,Fz,Ga,Gb,Gc,Gd,Ge,Gf,Gg,Gh,Gi,Gj,Gk,Gl,Gm,Gn,Go,Gp,Gq,Gr,Gs,Gt,Gu,Gv,Gw,Gx,Gy,Gz,Ha,Hb,Hc,Hd,He,Hf,Hg,Hh,Hi,Hj,Hk,Hl,Hm,Hn,Ho,Hp,Hq,Hr,Hs,Ht,Hu,Hv,Hw,Hx,Hy,Hz,Ia,Ib,Ic,Id,Ie,Ig,Ih,Ii,Ij,Ik,Il,Im,Io,Ip,Iq,Ir,It,Iu,Iv,Iw,Ix,Iy,Iz,Ja,Jb,Jc,Jd,Je,Jf,Jg,Jh,Ji,Jj,Jk,Jl,Jm,Jn,Jo,Jp,Jq,Jr,Js,Jt,Ju,Jv,Jw],[]⟩ w') :
  Code.wp Tryz.prog (dB 0) Q0 ⟨#[c0,c1,c2,c3,.pointer (some ⟨V,0,none⟩),c5,.slice (some ⟨gu,0,none⟩) N.st N.st,.slice (some ⟨g,0,none⟩) N.st N.st,c8,c9,Aa,Ab,Ad,Ae,Af,Ag,Ah,Ak,Al,Am,An,Ao,Ap,Aq,Ar,As,Av,Aw,Ax,Ay,Az,Ba,Bb,Bc,Be,Bf,Bh,Bi,Bj,Bk,Bm,Bn,.int .i64 (N.st:Int),.int .i64 0,Bo,Bp,Bq,Br,Bs,Bt,Bu,Bv,Bw,Bx,By,Bz,Ca,Cb,Cc,Cd,Ce,Cf,Cg,Ch,Ci,Cj,Ck,Cl,Cm,Cn,Co,Cp,Cq,Cr,Ct,Cu,Cv,Cw,Cx,Cy,Cz,Da,Db,Dc,Dd,De,Df,Dg,Dh,Di,Dj,Dk,Dl,Dn,Dp,Dq,Dr,Dt,Du,Dv,Dw,Dx,Dy,Dz,Ea,Eb,Ec,Ed,Ee,Ef,Eg,Eh,Ei,Ej,Ek,El,Em,En,Eo,Ep,Eq,Er,Es,Et,Eu,Ev,Ew,Ex,Ey,Ez,Fa,Fb,Fc,Fd,Fe,Ff,Fg,Fh,Fi,Fj,Fk,Fm,Fn,Fo,Fp,Fq,Fs,Ft,Fu,Fv,Fw,Fx,Fy,Fz,Ga,Gb,Gc,Gd,Ge,Gf,Gg,Gh,Gi,Gj,Gk,Gl,Gm,Gn,Go,Gp,Gq,Gr,Gs,Gt,Gu,Gv,Gw,Gx,Gy,Gz,Ha,Hb,Hc,Hd,He,Hf,Hg,Hh,Hi,Hj,Hk,Hl,Hm,Hn,Ho,Hp,Hq,Hr,Hs,Ht,Hu,Hv,Hw,Hx,Hy,Hz,Ia,Ib,Ic,Id,Ie,Ig,Ih,Ii,Ij,Ik,Il,Im,Io,Ip,Iq,Ir,It,Iu,Iv,Iw,Ix,Iy,Iz,Ja,Jb,Jc,Jd,Je,Jf,Jg,Jh,Ji,Jj,Jk,Jl,Jm,Jn,Jo,Jp,Jq,Jr,Js,Jt,Ju,Jv,Jw],[]⟩ w:=by
 conv=>arg 2; whnf
 have hst:=hS.out.st
 have hlu:=hid hS.out.lu
 have hfl:Hid ((firstV us N.ini).length=N.st):=hid (by unfold firstV; rw [List.length_zipWith,hlu.out,hS.out.ini,Nat.min_self])
 rw [<-fK_zero us N.ini] at hg
 replace hg:=hid hg
 replace hb:=hid hb
 go_wp2_with fail
 go_loopw [43] (fun iv wr=>∃ q:Nat,q<=N.st/\iv=.int .i64 (q:Int)/\Sb wr base g (fK us N.ini N.st q)/\Below W.heap.size W wr) (fun iv _=>N.st-(intOf iv).toNat)
 case atStart=>exact ⟨0,by omega,rfl,hg.out,hb.out⟩
 case round =>
  obtain ⟨q,hq,rfl,hrow,hbr⟩:=hrel
  replace hrow:=hid hrow
  by_cases hlt:q<N.st
  ·have i1:(q:Int)<(N.st:Int):=by omega
   have i0:(0:Int)<=(q:Int):=by omega
   have hSr:=hid (hS.out.next hbr)
   have y_1:=hSr.out.uf.cell hlt
   obtain ⟨v,hv,b,off,hio,hcs⟩:=hSr.out.vm.mo.ini.get hlt
   subst hio
   have hget:=firstV_get (us:=us) (by rw [hlu.out]; exact hlt) hv
   obtain ⟨e1,he1⟩:∃ e1,us.getD q false=e1:=⟨_,rfl⟩
   simp only [fBo] at y_1
   rw [he1] at y_1 hget
   have hvC:=hSr.out.cst.2.1 v (List.mem_of_getElem? hv)
   have hC:=hSr.out.cC
   have hbeg:=hid (begins_any syms N.st (.slice fo N.st cf) (.slice ro nr cr) (.slice vo (N.st+1) cv) (some ⟨b,off,none⟩) ci N.ini q v hv wr hSr.out.vm.mo.ini)
   clear he1 hv
   cases e1 with
   | false =>
    have hnx:=hid (fK_skip (n:=N.st) (q:=q) (by rw [hget]; rfl))
    clear hget
    replace hbr:=hid hbr
    go_wp2_with fail
    go_roundw
    case rel=>exact ⟨q+1,by omega,by go_num,by rw [hnx.out]; exact hrow.out,hbr.out⟩
    case measure=>simp [intOf]; omega
   | true =>
    cases v with
    | none =>
     have hnx:=hid (fK_skip (n:=N.st) (q:=q) (by rw [hget]; rfl))
     clear hget hcs
     replace hbr:=hid hbr
     obtain ⟨⟨y0,y1,y2,y3⟩,y4,y5,y6,y7⟩:=hSr.out.vw.eight
     go_wp2_with fail
     clear y0 y1 y2 y3 y4 y5 y6 y7
     refine hbeg.out.mono ?_; rintro e w2 ⟨rfl,hb2⟩
     replace hb2:=hid hb2
     go_wp2_with fail
     go_roundw
     case rel=>exact ⟨q+1,by omega,by go_num,by rw [hnx.out]; exact Rw.next hrow.out hb2.out,hbr.out.trans (hb2.out.mono hbr.out.size)⟩
     case measure=>simp [intOf]; omega
    | some c =>
     have hnx:=hid (fK_note (us:=us) (ini:=N.ini) (n:=N.st) (q:=q) (r:=c) hlt (by rw [hget]; rfl))
     have y_3:=hcs 3 _ rfl
     have hce:tc (some c)=c:=rfl
     rw [hce] at y_3
     have i4:(c:Int)<=1048576:=by have:c<=C:=hvC; omega
     have i5:(0:Int)<=(c:Int):=by omega
     clear hget hcs hvC hC hce
     replace y_3:=hid y_3
     replace hbr:=hid hbr
     obtain ⟨⟨y0,y1,y2,y3⟩,y4,y5,y6,y7⟩:=hSr.out.vw.eight
     go_wp2_with fail
     clear y0 y1 y2 y3 y4 y5 y6 y7
     refine hbeg.out.mono ?_; rintro e w2 ⟨rfl,hb2⟩
     have z4:=(hSr.out.next hb2).vw.cell (i:=4) rfl
     have z3:=y_3.out
     have z3:=cell_later hb2 z3
     have hrow2:Sb w2 base g (fK us N.ini N.st q):=Rw.next hrow.out hb2
     have hnote:=note_any base g q c (fK us N.ini N.st q) (by rw [fK_len]; exact hlt) w2 hrow2
     rw [fK_len] at hnote
     replace hnote:=hid hnote
     replace hrow2:=hid hrow2
     replace hb2:=hid hb2
     go_wp2_with fail
     refine hnote.out.mono ?_; rintro e w3 ⟨rfl,hrow3,hfr3⟩
     replace hrow3:=hid hrow3
     replace hfr3:=hid hfr3
     go_wp2_with fail
     go_roundw
     case rel=>exact ⟨q+1,by omega,by go_num,by rw [hnx.out]; exact hrow3.out,(hbr.out.trans (hb2.out.mono hbr.out.size)).trans (hfr3.out.below (fun k e=>by subst e; exact hgb) (by have:=hbr.out.size; have:=hb2.out.size; omega))⟩
     case measure=>simp [intOf]; omega
  ·obtain rfl:q=N.st:=by omega
   have i1:¬ (N.st:Int)<(N.st:Int):=by omega
   have hr2:=hrow.out
   rw [fK_end hfl.out] at hr2
   replace hr2:=hid hr2
   replace hbr:=hid hbr
   go_wp2_with fail
   exact hexit _ _ _ _ _ _ _ _ _ _ _ _ _ _ _ _ _ _ _ _ _ _ _ _ _ hr2.out hbr.out
end
section
open Go.RowKit
def DetOut (syms:Nat) (A:Au) (w:World) (e:Ending) (w':World):Prop:=∃ (K:List Ac) (us:List Bool),Nf K A.arcs/\UsOk us ⟨A.st,A.ini,A.fin,K.filter nz⟩/\Below w.heap.size w w' /\
 ((detP syms us ⟨A.st,A.ini,A.fin,K.filter nz⟩=none/\e=.returned (.tuple #[.agg ([.int .i64 0,.slice none 0 0,.int .i64 0,.int .i64 0,.slice none 0 0,.slice none 0 0,.slice none 0 0]:List Value).toArray,.int .i64 2])) \/
 ∃ (B:Au) (io:OA) (ci:Nat) (fo:OA) (cf:Nat) (ro:OA) (nr cr:Nat),detP syms us ⟨A.st,A.ini,A.fin,K.filter nz⟩=some B /\
  e=.returned (.tuple #[.agg (auC syms B.st (.slice io B.st ci) (.slice fo B.st cf) (.slice ro nr cr)).toArray,.int .i64 0])/\MoF w' w.heap.size B io ci fo cf ro nr cr)
theorem wp_loadAuto {ops:Array Oper} {rest:List Oper} {o:Oper} {a:Act} {w:World} {Q:EP} (hgd:o.guard=none) (x:Operand) (ho:o.op=.load 30 x)
  (b off:Nat) (hx:a.eval x=.pointer (some ⟨b,off,none⟩)) (cs:List Value) (hl:cs.length=7) (hc:Cs w b off cs) (h:wpList Tryz.prog ops Q rest (a.put o.dst (.agg cs.toArray)) w):wpList Tryz.prog ops Q (o::rest) a w :=
 wp_loadC hgd _ x ho b off hx cs hc _ Tryz.underlying30 rfl (by rw [hl]; exact Tryz.sizeAuto) h
theorem detP_none {syms:Nat} {us:List Bool} {A:Au} (h:leastV (firstV us A.ini)=none):detP syms us A=some ⟨0,[],[],[]⟩:=by
 unfold detP; rw [setl_eq,h]; rfl
theorem detP_stop {syms c:Nat} {us:List Bool} {A:Au} (h:leastV (firstV us A.ini)=some c) (hr:runS A.arcs us syms 66 0 ⟨[lowV (firstV us A.ini) c],[]⟩=none):detP syms us A=none:=by
 unfold detP; rw [setl_eq,h]
 show (match runS A.arcs us syms 66 0 ⟨[lowV (firstV us A.ini) c],[]⟩ with | none=>none | some X=>_)=_
 rw [hr]
theorem iniK_is {c n:Nat} (h:1<=n):iniK c n=some c::List.replicate (n-1) none:=by
 obtain ⟨m,rfl⟩:∃ m,n=m+1:=⟨n-1,by omega⟩
 unfold iniK
 rw [List.range_succ_eq_map,List.map_cons,List.map_map]
 show some c::_=some c::_
 congr 1
 apply List.ext_getElem?
 intro j
 by_cases hj:j<m
 ·simp [hj,bK]
 ·simp [hj]
theorem run_len {N:List Ac} {us:List Bool} {syms:Nat}:∀ (f k:Nat) {X Y:Ds},runS N us syms f k X=some Y->X.subs.length<=Y.subs.length
 | 0,_,X,Y,h=>by cases h
 | f+1,k,X,Y,h=>by
  by_cases hk:X.subs.length<=k
  ·rw [run_end hk] at h; injection h with h; subst h; exact Nat.le_refl _
  ·cases hr:rowS N us k syms 1 X with
   | none=>rw [run_none (by omega) hr] at h; cases h
   | some Z =>
    rw [run_some (by omega) hr] at h
    have h1:=run_len f (k+1) h
    obtain ⟨L,e⟩:=row_pre _ _ hr
    rw [e,List.length_append] at h1
    omega
theorem detP_run {syms c:Nat} {us:List Bool} {A:Au} {X:Ds} (h:leastV (firstV us A.ini)=some c) (hr:runS A.arcs us syms 66 0 ⟨[lowV (firstV us A.ini) c],[]⟩=some X) :
  detP syms us A=some ⟨X.subs.length,iniK c X.subs.length,X.subs.map (endV A.fin),X.arcs⟩:=by
 rw [iniK_is (run_len _ _ hr)]
 unfold detP; rw [setl_eq,h]
 show (match runS A.arcs us syms 66 0 ⟨[lowV (firstV us A.ini) c],[]⟩ with | none=>none | some X=>_)=_
 rw [hr]
theorem firstV_bd {us:List Bool} {ini:List Tw} {C:Nat} (h:∀ v∈ini,tc v<=C):Bd C (firstV us ini):=fun r hr=>by
 obtain ⟨q,hq⟩:=List.getElem?_of_mem hr
 have:=(firstV_has.1 (show Has (firstV us ini) q r from hq)).2
 exact h _ (List.mem_of_getElem? this)
theorem FO.place {e:TypeId} {k base n c:Nat} {ao:OA} {w:World} {css:List (List Value)} (h:FO e k w base (.slice ao n c) css):ao=none\/∃ b,ao=some ⟨b,0,none⟩:=by
 rcases h.1.2 with ⟨hv,_⟩ | ⟨g,cap,cur,hv,_⟩
 ·injection hv with hv; exact .inl hv
 ·injection hv with hv; exact .inr ⟨g,hv⟩
theorem Rw.lit1 {T:TypeId} {v:Value} {w:World} {gr base:Nat} {F:Nat->Value} (h:Bl gr [v] T w) (hb:base<=gr) (hF:F 0=v):Rw T w base (.slice (some ⟨gr,0,none⟩) 1 1) 1 F:=by
 refine ⟨by rw [fnl_len],.inr ⟨gr,1,#[v],rfl,hb,h,Nat.le_refl _,by simp [maxLen],by simp,?_⟩⟩
 show [v]=fnl 1 F
 unfold fnl
 simp [hF]
theorem Mk.first {w:World} {b:Nat} (h:Mk w b []) {S:Vx} {s:ByteArray} (hs:s.data.toList=keyT S) (hm:s.size<=maxLen) :
  ∃ w',(Instr.mapUpdate 75 (.map (some b)) (.string s) (.int .i64 0)).run Tryz.prog w=.ok () w'/\Mk w' b [S]/\w.grownBy w' (some b) :=
 h.lay Tryz.underlying75 (S:=S) (by simp) hs hm (by simp)
theorem det_any (syms C:Nat) (A:Au) (hV:Vo syms A) (hs:A.arcs.length<20\/UpA A.arcs) (hli:A.ini.length=A.st) (hlf:A.fin.length=A.st) (hL:Lw A) (hCs:(∀ x∈A.arcs,cst x<=C)/\(∀ v∈A.ini,tc v<=C)/\∀ v∈A.fin,tc v<=C) (hCC:C<=1048576) (io:OA) (ci:Nat) (fo:OA) (cf:Nat) (ro:OA) (nr cr:Nat) (w:World) (h:Mo w syms A io ci fo cf ro nr cr) (hp:Pow w) :
  Calls Tryz.prog 7 #[.agg (auC syms A.st (.slice io A.st ci) (.slice fo A.st cf) (.slice ro nr cr)).toArray] w (DetOut syms A w):=by
 have hb0:Below w.heap.size w ((w.alloc (.cells (auC syms A.st (.slice io A.st ci) (.slice fo A.st cf) (.slice ro nr cr)).toArray 30)).alloc (.cells #[.int .i64 0,.slice none 0 0,.int .i64 0,.int .i64 0,.slice none 0 0,.slice none 0 0,.slice none 0 0] 30)):=below_chain (below_alloc _) (below_alloc _)
 have hG:=(Bl.fresh w (auC syms A.st (.slice io A.st ci) (.slice fo A.st cf) (.slice ro nr cr)) 30).new (.cells #[.int .i64 0,.slice none 0 0,.int .i64 0,.int .i64 0,.slice none 0 0,.slice none 0 0,.slice none 0 0] 30)
 have hR:=Bl.fresh' (G:=w.heap.size+1) (w.alloc (.cells (auC syms A.st (.slice io A.st ci) (.slice fo A.st cf) (.slice ro nr cr)).toArray 30)) [.int .i64 0,.slice none 0 0,.int .i64 0,.int .i64 0,.slice none 0 0,.slice none 0 0,.slice none 0 0] 30 (by simp)
 have hm:=hid (h.next hb0)
 have hp0:=hid (hp.next hb0)
 have hsz0:Hid (w.heap.size<=w.heap.size+1):=hid (Nat.le_succ _)
 clear h
 replace hli:=hid hli
 replace hlf:=hid hlf
 go_enter Tryz.func7,Tryz.ntmps7
 go_upto_region 1 with fail
 generalize hW0:((w.alloc (.cells (auC syms A.st (.slice io A.st ci) (.slice fo A.st cf) (.slice ro nr cr)).toArray 30)).alloc (.cells #[.int .i64 0,.slice none 0 0,.int .i64 0,.int .i64 0,.slice none 0 0,.slice none 0 0,.slice none 0 0] 30))=W0 at *
 have hRl0:=hR.lt
 have hW0:=hid hW0
 obtain ⟨⟨x0,x1,x2,x3⟩,x4,x5,x6⟩:=hG.seven
 obtain ⟨RB,hRBe⟩:∃ RB,w.heap.size+1=RB:=⟨_,rfl⟩
 rw [hRBe] at hR hRl0 ⊢
 have hGR:w.heap.size<=RB:=by omega
 clear hRBe hW0
 go_wp2_with fail
 refine (light_any syms A hV hs hli.out hlf.out hL io ci fo cf ro nr cr _ hm.out).mono ?_; rintro e w1 ⟨⟨io',ci',fo',cf',ro',nr',cr',vo',cv',K,rfl,hm1,hnf⟩,hb1⟩
 clear x0 x1 x2 x3 x4 x5 x6
 replace hm1:=hid hm1
 replace hnf:=hid hnf
 replace hR:=hid (hR.next hb1)
 replace hp1:=hid (hp0.out.next hb1)
 have hb1':=hid (below_chain hb0 hb1)
 have hRl1:RB<w1.heap.size:=Nat.lt_of_lt_of_le hRl0 hb1.size
 replace hb1:=hid hb1
 have hbX:Below w1.heap.size w1 (w1.alloc (.cells (viC syms A.st (.slice io' A.st ci') (.slice fo' A.st cf') (.slice ro' nr' cr') (.slice vo' (A.st+1) cv')).toArray 63)):=below_alloc _
 have hX:=Bl.fresh w1 (viC syms A.st (.slice io' A.st ci') (.slice fo' A.st cf') (.slice ro' nr' cr') (.slice vo' (A.st+1) cv')) 63
 go_upto_region 2 with ((with_reducible refine wp_storeVView rfl _ _ rfl _ _ ?_ (viC syms A.st (.slice io' A.st ci') (.slice fo' A.st cf') (.slice ro' nr' cr') (.slice vo' (A.st+1) cv')) rfl rfl rfl ?_ ?_); exact rfl; exact viC_1 _ _ _ _ _ _ _ _ _ _ _ _ _ _)
 replace hR:=hid (hR.out.next hbX)
 have hm2:=hid (hm1.out.next hbX)
 have hp2:=hid (hp1.out.next hbX)
 have hb2:=hid (below_chain hb1'.out hbX)
 have hVl:=hX.lt
 have hVs:(w1.alloc (.cells (viC syms A.st (.slice io' A.st ci') (.slice fo' A.st cf') (.slice ro' nr' cr') (.slice vo' (A.st+1) cv')).toArray 63)).heap.size=w1.heap.size+1:=by simp
 obtain ⟨V,hVe⟩:∃ V,w1.heap.size=V:=⟨_,rfl⟩
 rw [hVe] at hX hVl hRl1 hVs ⊢
 generalize hW2:(w1.alloc (.cells (viC syms A.st (.slice io' A.st ci') (.slice fo' A.st cf') (.slice ro' nr' cr') (.slice vo' (A.st+1) cv')).toArray 63))=W2 at *
 clear hW2 hVe hbX hm1 hb1 hb1'
 have hnb:Hid (nr'<=4096):=hid (by
  have h1:=nf_len hnf.out (fun z hz=>(hV.arcs z hz))
  have h2:=List.length_filter_le nz K
  have h3:=hV.num
  have h4:=fo_n hm2.out.mo.arcs
  simp only [List.length_map] at h4
  omega)
 have hkm:∀ x∈K.filter nz,∃ z∈A.arcs,ky z=ky x/\wt z=wt x:=fun x hx=>by
  obtain ⟨⟨z,hz,hk,hw⟩,_⟩:=hnf.out.2.1 x (List.mem_filter.1 hx).1
  exact ⟨z,hz,hk,hw⟩
 have harc:Hid (∀ x∈K.filter nz,x.1<A.st/\x.2.2.1<A.st):=hid fun x hx=>by
  obtain ⟨z,hz,hk,_⟩:=hkm x hx
  have h1:=hV.arcs z hz
  have h2:z.1=x.1:=congrArg (fun q:Ky=>q.1) hk
  have h3:z.2.2.1=x.2.2.1:=congrArg (fun q:Ky=>q.2.2) hk
  rw [<-h2,<-h3]; exact ⟨h1.1,h1.2.1⟩
 have hcst:Hid (∀ x∈K.filter nz,cst x<=C):=hid fun x hx=>by
  obtain ⟨z,hz,_,hw⟩:=hkm x hx
  have:=hCs.1 z hz
  unfold cst at *
  rw [<-hw]; exact this
 have hrow:Hid (ro'=none\/∃ b,ro'=some ⟨b,0,none⟩):=hid hm2.out.mo.arcs.place
 replace hCs:=hid hCs
 replace hL:=hid hL
 replace hV:=hid hV
 replace hs:=hid hs
 clear hkm
 have hXc:=hX.cs
 go_wp2_with ((with_reducible refine wp_loadView rfl _ rfl V 0 ?_ (viC syms A.st (.slice io' A.st ci') (.slice fo' A.st cf') (.slice ro' nr' cr') (.slice vo' (A.st+1) cv')) rfl hXc ?_); exact rfl)
 refine (useful_any syms ⟨A.st,A.ini,A.fin,K.filter nz⟩ harc.out hlf.out hli.out io' ci' fo' cf' ro' nr' cr' vo' cv' hV.out.st hnb.out _ (hm2.out.vm syms)).mono ?_; rintro e w3 ⟨⟨gu,us,rfl,hus,hUs⟩,hb3⟩
 have hS:Hid (Sta w3 V gu syms C ⟨A.st,A.ini,A.fin,K.filter nz⟩ us io' ci' fo' cf' ro' nr' cr' vo' cv'):=hid
  ⟨(hm2.out.next hb3).vm syms,hrow.out,hX.next hb3,hus.mono (Nat.zero_le _),Ss.filter nz hnf.out.1,hV.out.st,hnb.out,hli.out,hlf.out,harc.out,hUs.1,⟨hcst.out,hCs.out.2⟩,hCC,hV.out.sym.2,hp2.out.next hb3⟩
 replace hR:=hid (hR.out.next hb3)
 have hRl3:RB<w3.heap.size:=Nat.lt_of_lt_of_le (Nat.lt_trans hRl1 hVl) hb3.size
 have hbw3:=hid (below_chain hb2.out hb3)
 replace hUs:=hid hUs
 have hst:=hV.out.st
 clear hXc hX hb3 hus
 have y3:=hS.out.vw.cell (i:=3) rfl
 go_wp2_with fail
 refine (nothing_any A.st hst w3).mono ?_; rintro e w4 ⟨⟨g,rfl,hg4⟩,hb4⟩
 have hglt:=(hg4.lt).1
 replace hg4:=hid hg4
 replace hb4:=hid hb4
 clear y3
 go_upto_block 0 with fail
 refine det_first w3 V gu syms C ⟨A.st,A.ini,A.fin,K.filter nz⟩ us io' ci' fo' cf' ro' nr' cr' vo' cv' hS w3.heap.size g w4 hb4.out hg4.out hglt ?_
 intro x8 Aa Ab Ad Ae Af Ag Ah Ak Al Am An Ao Ap Aq Ar As Av Aw Ax Ay Az Ba Bb w5 hg5 hb5
 replace hg5:=hid hg5
 obtain ⟨⟨y0,y1,y2,y3⟩,y4,y5,y6,y7⟩:=(hS.out.next hb5).vw.eight
 replace hb5:=hid hb5
 have hbO:Below w5.heap.size w5 (w5.alloc (.cells (auC syms 0 (.slice none 0 0) (.slice none 0 0) (.slice none 0 0)).toArray 30)):=below_alloc _
 have hO6:=Bl.fresh w5 (auC syms 0 (.slice none 0 0) (.slice none 0 0) (.slice none 0 0)) 30
 go_upto_region 13 with ((with_reducible refine wp_storeV rfl 30 _ _ rfl _ _ ?_ (auC syms 0 (.slice none 0 0) (.slice none 0 0) (.slice none 0 0)) ?_ ?_ ?_ ?_ ?_); exact rfl; exact rfl; exact rfl; exact auC_1 _ _ _ _ _ _ _ _ _ _ _; exact Tryz.sizeAuto)
 clear y0 y1 y2 y3 y4 y5 y6 y7
 have hOW:w3.heap.size<=w5.heap.size:=hb5.out.size
 have hg6:=hid (Rw.next hg5.out hbO)
 have hb6:=hid (below_chain hb5.out hbO)
 obtain ⟨O,hOe⟩:∃ O,w5.heap.size=O:=⟨_,rfl⟩
 rw [hOe] at hO6 hOW ⊢
 generalize hW6:(w5.alloc (.cells (auC syms 0 (.slice none 0 0) (.slice none 0 0) (.slice none 0 0)).toArray 30))=W6 at *
 have hgO:g<O:=by have:=hg5.out.lt; omega
 clear hW6 hOe hbO hg5 hg4 hb4
 obtain ⟨F,hF⟩:∃ F,firstV us A.ini=F:=⟨_,rfl⟩
 have hFl:F.length=A.st:=by rw [<-hF]; unfold firstV; rw [List.length_zipWith,hUs.out.1,hli.out,Nat.min_self]
 have hFB:Bd C F:=by rw [<-hF]; exact firstV_bd hCs.out.2.1
 simp only [hF] at hg6
 have hset:=settle_any w3.heap.size g F (by omega) (hFB.mono (by omega)) W6 hg6.out
 rw [hFl] at hset
 replace hset:=hid hset
 replace hF:=hid hF
 replace hFl:=hid hFl
 replace hFB:=hid hFB
 clear hg6
 go_wp2_with fail
 refine hset.out.mono ?_; rintro e w7 ⟨rfl,hg7,hfr7⟩
 have hb7:=hid (hb6.out.trans (hfr7.below (fun k e=>by subst e; exact hglt) hb6.out.size))
 have hO7:=hid (hO6.fr hfr7 (fun e=>by omega))
 clear hfr7 hset hb6 hO6
 cases hLs:leastV F with
 | none =>
  have hdet:=hid (detP_none (syms:=syms) (us:=us) (A:=⟨A.st,A.ini,A.fin,K.filter nz⟩) (by show leastV (firstV us A.ini)=none; rw [hF.out]; exact hLs))
  have hR7:=hid (hR.out.next hb7.out)
  have hO7c:=hO7.out.cs
  have hbw7:=hid (below_chain hbw3.out hb7.out)
  unfold oV
  rw [oI_none]
  clear hg7 hLs
  go_wp2_with (first | ((with_reducible refine wp_loadAuto rfl _ rfl O 0 ?_ (auC syms 0 (.slice none 0 0) (.slice none 0 0) (.slice none 0 0)) rfl hO7c ?_); exact rfl) | ((with_reducible refine wp_storeBAuto rfl _ _ rfl RB 30 _ hR7.out ?_ (auC syms 0 (.slice none 0 0) (.slice none 0 0) (.slice none 0 0)) rfl rfl ?_ (auC_1 _ _ _ _ _ _ _ _ _ _ _) ?_); exact rfl; exact rfl; intro w9 hR9 hfr9))
  refine bodyPost_ret (results_cellC rfl _ _ RB (auC syms 0 (.slice none 0 0) (.slice none 0 0) (.slice none 0 0)) _ rfl hR9.cs Tryz.underlying30 rfl Tryz.sizeAuto) rfl ⟨K,us,hnf.out,hUs.out,hbw7.out.trans (hfr9.below (fun k e=>by subst e; exact hGR) hbw7.out.size),.inr ⟨⟨0,[],[],[]⟩,none,0,none,0,none,0,0,hdet.out,rfl,⟨FO.nil _ _ _ _,FO.nil _ _ _ _,FO.nil _ _ _ _⟩⟩⟩
 | some c =>
  obtain ⟨f,hf⟩:∃ f,lowV F c=f:=⟨_,rfl⟩
  have hg7:Sb w7 w3.heap.size g f:=by rw [<-hf]; rw [hLs] at hg7; exact hg7
  have hfl:f.length=A.st:=by rw [<-hf,lowV_len]; exact hFl.out
  have hfB:Bd C f:=by rw [<-hf]; exact bd_low hFB.out
  have hcF:leastV (firstV us A.ini)=some c:=by rw [hF.out]; exact hLs
  have hX0:Hid (Dok A.st C 0 ⟨[f],[]⟩):=hid ⟨fun v hv=>by rw [List.mem_singleton.1 hv]; exact hfl,by simp,fun i v hi=>by
   cases i with
   | zero=>simp at hi; subst hi; simpa using hfB
   | succ i=>simp at hi,fun x hx=>by simp at hx⟩
  have hklen:Hid ((keyT f).length<=10000000000):=hid (by
   have h:=keyT_len hfB f.length (Nat.le_refl _)
   rw [List.take_length] at h
   refine Nat.le_trans h ?_
   have:f.length*(C+3)<=64*1048579:=Nat.mul_le_mul (by omega) (by omega)
   omega)
  have hky:=fun w' (hb':Below w7.heap.size w7 w') (hp:Pow w')=>key_any C (by omega) f (by omega) hfB w3.heap.size g w' (Rw.next hg7 hb') hp
  simp only [hfl] at hky
  have hcC:c<=C:=hFB.out c (least_mem hLs)
  have k1:((c:Int) == -1)=false:=by rw [beq_eq_false_iff_ne]; omega
  have k2:¬ (c:Int) = -1:=by omega
  have hp7:=hid (hS.out.pow.next hb7.out)
  have hmm:=@run_makeMap Tryz.prog
  have hbA:Below w7.heap.size w7 (w7.alloc (.cells #[.slice (some ⟨g,0,none⟩) A.st A.st] 68)):=below_alloc _
  have hA:=Bl.fresh w7 [sbV A.st g] 68
  have hbM:=below_chain hbA (below_alloc (w:=w7.alloc (.cells #[.slice (some ⟨g,0,none⟩) A.st A.st] 68)) (.map #[] 0))
  have hA:=hA.new (.map #[] 0)
  have hM:=Mk.made (w7.alloc (.cells [sbV A.st g].toArray 68))
  replace hky:=hid hky
  replace hg7:=hid hg7
  replace hfl:=hid hfl
  replace hfB:=hid hfB
  replace hcF:=hid hcF
  replace hf:=hid hf
  replace hLs:=hid hLs
  have hOl:=hO7.out.lt
  unfold oV
  rw [oI_some]
  clear hcC
  go_wp2_with fail
  refine (hky.out _ hbM (hp7.out.next hbM)).mono ?_; rintro e w10 ⟨s,rfl,hs,hb10⟩
  have hsz:s.size<=maxLen:=by
   have:s.size=(keyT f).length:=by rw [<-hs,Array.length_toList]; rfl
   rw [this]; have:=hklen.out; unfold maxLen; omega
  obtain ⟨w11,hrun,hmk,hgr⟩:=(hM.next hb10).first hs hsz
  have hms:(w7.alloc (.cells [sbV A.st g].toArray 68)).heap.size=w7.heap.size+1:=by simp
  have hms':(w7.alloc (.cells #[.slice (some ⟨g,0,none⟩) A.st A.st] 68)).heap.size=w7.heap.size+1:=by simp
  obtain ⟨gr,hgre⟩:∃ gr,w7.heap.size=gr:=⟨_,rfl⟩
  rw [hms] at hrun hmk hgr
  try rw [hms']
  rw [hgre] at hrun hmk hgr hA ⊢
  have hb710:=below_chain hbM hb10
  have hF11:Fr (fun k=>k=gr+1) w10 w11:=grown_fr hgr fun k hk=>by injection hk with hk; exact hk.symm
  have hb711:Hid (Below w7.heap.size w7 w11):=hid (hb710.trans (hF11.below (fun k e=>by omega) hb710.size))
  have hA11:=(hA.next hb10).fr hF11 (by omega)
  clear hky
  go_upto_block 2 with fail
  refine det_all w3 V gu syms C ⟨A.st,A.ini,A.fin,K.filter nz⟩ us io' ci' fo' cf' ro' nr' cr' vo' cv' hS w.heap.size RB O (gr+1) c (.slice (some ⟨gr,0,none⟩) 1 1) (.slice none 0 0) (.slice none 0 0) (.slice none 0 0) [g] ⟨[f],[]⟩ w11 (hb7.out.trans (hb711.out.mono hb7.out.size)) hX0
   ⟨Rw.lit1 hA11 (by omega) rfl,by have h:=Sbs.one (Rw.next hg7.out hb711.out:Sb w11 w3.heap.size g f); rw [hfl.out] at h; exact h,hmk⟩ ⟨hO7.out.next hb711.out,FO.nil _ _ _ _,FO.nil _ _ _ _,FO.nil _ _ _ _,fun g hg=>by cases hg⟩ rfl ⟨hGR,hRl3⟩ hOW (by have:=hb7.out.size; omega) hR.out _ _ _ _ _ _ _ _ _ _ _ _ _ _ _ _ _ _ _ _ _ _ _ _ _ _ _ _ _ _ _ _ _ _ _ _ _ _ _ _ _ _ _ _ _ _ _ _ _ _ _ _ _ _ _ _ _ _ _ _ _ _ _ _ _ _ _ _ _ _ _ _ _ _ _ _ _ _ _ _ _ _ _ _ _ _ _ _ _ _ _ _ _ _ _ _ _ _ _ _ _ _ _ _ _ _ _ _ _ _ _ _ _ _ _ _ _ _ _ _ _ _ _ _ _ _ _ _ _ _ _ _ _ _ _ _ _ _ _ _ _ _ _ _ _ _ _ _ _ _ _ _ _ _ _ _ _ _ _ _ _ _ _ _ _ _ _ _ _ _ _ _ _ _ _ _ _ _ _ _ _ _ _ _ _ _ _ _ _ _ _ _ _ _ _ _ _ _ _ _ _ _ _ _ _ _ _ _ _ _ _ _ _ _ _ _ _ _ _ _ _ _ _ _ _ _ _ _ _ _ _ _ _ _ _ _ _ _ _ _ _ _ _ _ _ (fun _ _ d _ _ h=>by cases d<;>exact h) ?_ ?_
  ·intro x3 Bc Be Bf Bh Bi Bj Bk Bm Bn Bo Bp Bq Br Bs Bt Bu Bv Bw Bx By Bz Ca Cb Cc Cd Ce Cf Cg Ch Ci Cj Ck Cl Cm Cn Co Cp Cq Cr Ct Cu Cv Cw Cx Cy Cz Da Db Dc Dd De Df Dg Dh Di Dj Dk Dl Dn Dp Dq Dr Dt Du Dv Dw Dx Dy Dz Ea Eb Ec Ed Ee Ef Eg Eh Ei Ej Ek El Em En Eo Ep Eq Er Es Et Eu Ev Ew Ex Ey Ez Fa Fb Fc Fd Fe Ff Fg Fh Fi Fj Fk Fm Fn Fo Fp Fq Fs Ft Fu Fv Fw Fx Fy Fz Ga Gb Gc Gd Ge Gf Gg Gh Gi Gj Gk Gl Gm Gn Go Gp Gq Gr Gs Gt Gu Gv Gw Gx Gy Gz Ha Hb Hc Hd He Hf Hg Hh Hi Hj Hk Hl Hm Hn Ho Hp Hq Hr Hs Ht Hu Hv Hw Hx Hy Hz Ia Y sv1 iv1 fv1 av1 gs1 w12 hrn hn64 hal hD12 hO12 hb12
   obtain ⟨sao,scap,rfl,hsrd⟩:=hD12.row.rd
   have hsb:=hsrd.bound
   obtain ⟨ai,ki,hiv⟩:=hO12.ini.form
   obtain ⟨af,kf,hfv⟩:=hO12.fin.form
   obtain ⟨aa,ka,hav⟩:=hO12.arcs.form
   subst hiv hfv hav
   simp only [List.length_map,iniK_len] at hO12
   have hdet:=hid (detP_run (syms:=syms) (us:=us) (A:=⟨A.st,A.ini,A.fin,K.filter nz⟩) hcF.out (by show runS (K.filter nz) us syms 66 0 ⟨[lowV (firstV us A.ini) c],[]⟩=_; rw [hF.out,hf.out]; exact hrn))
   obtain ⟨n,hn⟩:∃ n,Y.subs.length=n:=⟨_,rfl⟩
   obtain ⟨na,hna⟩:∃ na,Y.arcs.length=na:=⟨_,rfl⟩
   rw [hn] at hn64 hsb hO12 ⊢
   rw [hna] at hal hO12
   replace hn:=hid hn
   replace hna:=hid hna
   have y_3:=hO12.blk.cell (i:=3) rfl
   have y_3f:=hO12.blk.free 3
   have y_6:=hO12.blk.cell (i:=6) rfl
   have hO13:Bl O (auC syms n (.slice ai n ki) (.slice af n kf) (.slice aa na ka)) 30 (w12.setCell ⟨O,3,none⟩ (.int .i64 (n:Int))):=hO12.blk.put 3 (.int .i64 (n:Int))
   have hF13:Fr (fun k=>k=O) w12 (w12.setCell ⟨O,3,none⟩ (.int .i64 (n:Int))):=Fr.set (T:=fun k=>k=O) w12 (p:=⟨O,3,none⟩) rfl _
   have hc13:=hO13.cs
   have hR13:=(hR.out.next hb12).fr hF13 (fun e=>by omega)
   have i1:¬ (2048:Int)<(na:Int):=by omega
   have i1':decide ((2048:Int)<(na:Int))=false:=decide_eq_false i1
   have hMo:MoF w12 (O+1) ⟨n,iniK c n,Y.subs.map (endV A.fin),Y.arcs⟩ ai ki af kf aa na ka:=⟨hO12.ini,hO12.fin,hO12.arcs⟩
   have hMo13:=hid (hMo.fr hF13 (Nat.lt_succ_self _))
   have hbw12:=hid ((below_chain hbw3.out hb12).trans (hF13.below (B:=w.heap.size) (fun k e=>by subst e; omega) (by have:=hbw3.out.size; have:=hb12.size; omega)))
   replace hD12:=hid hD12
   replace hO12:=hid hO12
   replace hsrd:=hid hsrd
   replace hb12:=hid hb12
   replace hrn:=hid hrn
   go_wp2_with (first | ((with_reducible refine wp_loadAuto rfl _ rfl O 0 ?_ (auC syms n (.slice ai n ki) (.slice af n kf) (.slice aa na ka)) rfl hc13 ?_); exact rfl) | ((with_reducible refine wp_storeBAuto rfl _ _ rfl RB 30 _ hR13 ?_ (auC syms n (.slice ai n ki) (.slice af n kf) (.slice aa na ka)) rfl rfl ?_ (auC_1 _ _ _ _ _ _ _ _ _ _ _) ?_); exact rfl; exact rfl; intro w14 hR14 hfr14))
   exact bodyPost_ret (results_cellC rfl _ _ RB (auC syms n (.slice ai n ki) (.slice af n kf) (.slice aa na ka)) _ rfl hR14.cs Tryz.underlying30 rfl Tryz.sizeAuto) rfl ⟨K,us,hnf.out,hUs.out,hbw12.out.trans (hfr14.below (fun k e=>by subst e; exact hGR) hbw12.out.size),.inr ⟨⟨n,iniK c n,Y.subs.map (endV A.fin),Y.arcs⟩,ai,ki,af,kf,aa,na,ka,by have h:=hdet.out; rw [hn.out] at h; exact h,rfl,(hMo13.out.fr hfr14 (by omega)).mono (by omega)⟩⟩
  ·intro Bc Ib Be Bf Bh Bi Bj Bk Bm Bn Bo Bp Bq Br Bs Bt Bu Bv Bw Bx By Bz Ca Cb Cc Cd Ce Cf Cg Ch Ci Cj Ck Cl Cm Cn Co Cp Cq Cr Ct Cu Cv Cw Cx Cy Cz Da Db Dc Dd De Df Dg Dh Di Dj Dk Dl Dn Dp Dq Dr Dt Du Dv Dw Dx Dy Dz Ea Eb Ec Ed Ee Ef Eg Eh Ei Ej Ek El Em En Eo Ep Eq Er Es Et Eu Ev Ew Ex Ey Ez Fa Fb Fc Fd Fe Ff Fg Fh Fi Fj Fk Fm Fn Fo Fp Fq Fs Ft Fu Fv Fw Fx Fy Fz Ga Gb Gc Gd Ge Gf Gg Gh Gi Gj Gk Gl Gm Gn Go Gp Gq Gr Gs Gt Gu Gv Gw Gx Gy Gz Ha Hb Hc Hd He Hf Hg Hh Hi Hj Hk Hl Hm Hn Ho Hp Hq Hr Hs Ht Hu Hv Hw Hx Hy Hz Ia w12 hrn hR12 hb12
   exact bodyPost_ret (results_cellC rfl _ _ RB [.int .i64 0,.slice none 0 0,.int .i64 0,.int .i64 0,.slice none 0 0,.slice none 0 0,.slice none 0 0] _ rfl hR12.cs Tryz.underlying30 rfl Tryz.sizeAuto) rfl ⟨K,us,hnf.out,hUs.out,hbw3.out.trans hb12,.inl ⟨detP_stop hcF.out (by rw [hF.out,hf.out]; exact hrn),rfl⟩⟩
end
end Go.Proofs.YtnapapijhhldpaaGreatDoor

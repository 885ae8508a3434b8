/-
  Texts joined by program: Tsn, Tso, Tsp, Tsq. No condition of its own.
-/
import Derived.Test.YtnapapijhhldpaaGreatDoorJkBC
import Derived.Test.YtnapapijhhldpaaGreatDoorJkBE
namespace Go.Proofs.YtnapapijhhldpaaGreatDoor
set_option linter.unusedSimpArgs false
set_option linter.unusedVariables false
set_option maxRecDepth 100000
set_option maxHeartbeats 4000000
section
open Go.RowKit
theorem z2g (W:World) (V syms C:Nat) (A:Au) (io:OA) (ci:Nat) (fo:OA) (cf:Nat) (ro:OA) (nr cr:Nat) (hS:Hid (Rta W V syms C A io ci fo cf ro nr cr)) (aio:OA) (aci:Nat) (afo:OA) (acf:Nat) (aro:OA) (anr acr ast G:Nat) (hGb:Bl G (auC syms ast (.slice aio ast aci) (.slice afo ast acf) (.slice aro anr acr)) 30 W) (G0 RB O k b0:Nat) (lv iv fv av:Value) (vs:List (Value×Value)) (fin:List Tw) (X:Ds) (w:World) (hb:Below W.heap.size W w) (hk:k<X.subs.length) (hX:Hid (Dok A.st C k X)) (hAf:A.fin.length=A.st) (hL:Ls w O lv vs X.subs) (hO:Om w O syms 0 iv fv av (q1s b0 X.subs.length) fin X.arcs) (hla:X.arcs.length+syms<=2048) (hfl:fin.length<=64) (hG:G0<=RB/\RB<W.heap.size) (hOW:W.heap.size<=O) (hRB:Bl RB [.int .i64 0,.slice none 0 0,.int .i64 0,.int .i64 0,.slice none 0 0,.slice none 0 0,.slice none 0 0] 30 W)
  {c0 c3 c4 c6 c8 c9 Aa Ab Ad Ae Af Ag Ah Ak Al Am An Ao Ap Aq Ar As Av Aw Ax Ay Az Ba Bb Bc Be Bf Bh Bi Bj Bk Bm Bn Bo Bp Bq Br Bs Bt Bu Bv Bw Bx By Bz Ca Cb Cc Cd Ce Cf Cg Ch Ci Cj Ck Cl Cm Cn Co Cp Cq Cr Ct Cu Cv Cw Cx Cy Cz Da Db Dc Dd De Df Dg Dh Di Dj Dk Dl Dn Dp Dq Dr Dt Du Dv Dw Dx Dy Dz Ea Eb Ec Ed Ee Ef Eg Eh Ei Ej Ek El Em En Eo Ep Eq Er Es Et Eu Ev Ew Ex Ey Ez Fa Fb Fc Fd Fe Ff Fg Fh Fi Fj Fk Fm Fn Fo Fp Fq Fs Ft Fu Fv Fw Fx Fy Fz Ga Gb Gc Gd Ge Gf Gg Gh Gi Gj Gk Gl Gm Gn Go Gp Gq Gr Gs Gt Gu Gv Gw Gx Gy Gz Ha Hb Hc Hd He Hf Hg Hh Hi Hj Hk Hl Hm Hn Ho Hp Hq Hr Hs Ht Hu Hv Hw Hx Hy Hz Ia Ib Ic Id Ie Ig Ih Ii Ij Ik Il Im Io Ip Iq Ir It Iu Iv Iw Ix Iy Iz Ja Jb Jc Jd Je Jf Jg Jh Ji Jj Jk Jl Jm Jn Jo Jp Jq Jr Js Jt Ju Jv Jw Jx Jy Jz Ka Kb Kc Kd Ke Kf Kg Kh Ki Kj Kk Kl Km Kn Ko Kp Kq Kr Ks Kt Ku Kv Kw Kx Kz La Lb Lc Ld Le Lf Lg Lh Li Lj Lk Ll Lm Ln Lo Lp Lq Lr Lt Lu Lv Lx Ly Lz Ma Mb Mc Md Me Mf Mg:Value} {Q0:EP} (hpan:∀ c (a:Act) d v w,Q0 (.panic c) (a.put d v) w->Q0 (.panic c) a w)
  (hexit:∀ (u3 Mh Mi Mj Ml Mm Mn Mp Mq Mr Ms Mt Mu Mw Mx My Mz Na Nb Nc Nd Ne Ng Nh Ni Nj Nk Nl Nm Nn Np Nq Nr Ns Nt Nu Nv Nw Nx Ny Nz Oa Ob Oc Od Oe Og Oh Oi Oj Ok Ol Oo Op Oq Os Ot Ou Ov Ow Ox Oy Oz Pa Pb Pc Pd Pe Pf Pg Ph Pi Pj Pk Pl Pm Pn Po Pp Pq Ps Pt Pu Pv Pw Px Py Pz Qa Qb Qc Qd Qe Qf Qg Qh Qi Qj Qk Ql Qm Qn Qo Qp Qq Qr Qs Qt Qu Qv Qw Qx Qy Qz Ra Rb Rc Re Rf Rg Rh Ri Rj Rk Rl Rm Rn Ro Rp Rq Rr Rt Ru Rv Rx Ry Rz Sa Sc Sd Se Sf Sg Sh Si Sj Sk Sm Sn So Sr St Sv Sx Sy Sz Tb Tc Td Te Tf Tg Th Ti Tj Tk Tl Tm Tn Tq Tr Ts Tt Tu Tv Tx Ty Tz Ua Ub Uc Ud Ue Uf Ug Uh Ui Uj Uk Ul Um Un Uo Up Ur Ut Uu Uv Uw Ux Uy Uz Va Vb Vc Vd Ve Vf Vg Vh Vi Vj Vk Vl Vm Vn Vp Vq Vr Vs Vt Vu Vv Vw Vy Vz Wa Wb Wc We Wf Wg:Value) (Y:Ds) (lv' iv' fv' av':Value) (vs':List (Value×Value)) (w':World),q0j A.arcs (List.replicate A.st true) k syms 1 X=some Y->Dok A.st C k Y->X.subs.length<=Y.subs.length->Y.arcs.length<=X.arcs.length+syms->Ls w' O lv' vs' Y.subs->Om w' O syms 0 iv' fv' av' (q1s b0 Y.subs.length) (fin++[q0i A.fin (X.subs.getD k [])]) Y.arcs->Below W.heap.size W w'->Q0 .normal ⟨#[c0,.pointer (some ⟨G,0,none⟩),.pointer (some ⟨RB,0,none⟩),u3,c4,.pointer (some ⟨V,0,none⟩),c6,.pointer (some ⟨O,0,none⟩),c8,c9,Aa,Ab,Ad,lv',.int .i64 (k:Int),Mh,Mi,Mj,Ml,Mm,Mn,Mp,Mq,Mr,Ms,Mt,Mu,Mw,Mx,Aw,Ax,Ay,Az,Ba,Bb,Bc,Be,Bf,Bh,Bi,Bj,Bk,Bm,Bn,Bo,Bp,Bq,Br,Bs,Bt,Bu,Bv,Bw,Bx,By,Bz,Ca,Cb,Cc,Cd,Ce,Cf,Cg,Ch,Ci,Cj,Ck,Cl,Cm,Cn,Co,Cp,Cq,Cr,Ct,Cu,Cv,Cw,Cx,Cy,Cz,Da,Db,Dc,Dd,De,Df,Dg,Dh,Di,My,Mz,Na,Nb,Nc,Nd,Ne,Ng,Nh,Ni,Nj,Nk,Nl,Nm,Nn,Np,Nq,Nr,Ns,Nt,Nu,Nv,Nw,Nx,Ny,Nz,Oa,Ob,Oc,Od,Oe,Og,Oh,Oi,Oj,Ok,Ol,Oo,Op,Oq,Os,Ot,Ou,Ov,Ow,Ox,Oy,Oz,Pa,Pb,Pc,Pd,Pe,Pf,Pg,Ph,Pi,Pj,Pk,Pl,Pm,Pn,Po,Pp,Pq,Ps,Pt,Pu,Pv,Pw,Px,Py,Pz,Qa,Qb,Qc,Qd,Qe,Qf,Qg,Qh,Qi,Qj,Qk,Ql,Qm,Qn,Qo,Qp,Qq,Qr,Qs,Qt,Qu,Qv,Qw,Qx,Qy,Qz,Ra,Rb,Rc,Re,Rf,Rg,Rh,Ri,Rj,Rk,Rl,Rm,Rn,Ro,Rp,Rq,Rr,Rt,Ru,Rv,Rx,Ry,Rz,Sa,Sc,Sd,Se,Sf,Sg,Sh,Si,Sj,Sk,Sm,Sn,So,Sr,St,Sv,Sx,Sy,Sz,Tb,Tc,Td,Te,Tf,Tg,Th,Ti,Tj,Tk,Tl,Tm,Tn,Tq,Tr,Ts,Tt,Tu,Tv,Tx,Ty,Tz,Ua,Ub,Uc,Ud,Ue,Uf,Ug,Uh,Ui,Uj,Uk,Ul,Um,Un,Uo,Up,Ur,Ut,Uu,Uv,Uw,Ux,Uy,Uz,Va,Vb,Vc,Vd,Ve,Vf,Vg,Vh,Vi,Vj,Vk,Vl,Vm,Vn,Vp,Vq,Vr,Vs,Vt,Vu,Vv,Vw,Vy,Vz,Wa,Wb,Wc,We,Wf,Wg,Md,Me,Mf,Mg],[]⟩ w')
  (hret:∀ (Wh Mh Mi Mj Ml Mm Mn Mp Mq Mr Ms Mt Mu Mw Mx My Mz Na Nb Nc Nd Ne Ng Nh Ni Nj Nk Nl Nm Nn Np Nq Nr Ns Nt Nu Nv Nw Nx Ny Nz Oa Ob Oc Od Oe Og Oh Oi Oj Ok Ol Oo Op Oq Os Ot Ou Ov Ow Ox Oy Oz Pa Pb Pc Pd Pe Pf Pg Ph Pi Pj Pk Pl Pm Pn Po Pp Pq Ps Pt Pu Pv Pw Px Py Pz Qa Qb Qc Qd Qe Qf Qg Qh Qi Qj Qk Ql Qm Qn Qo Qp Qq Qr Qs Qt Qu Qv Qw Qx Qy Qz Ra Rb Rc Re Rf Rg Rh Ri Rj Rk Rl Rm Rn Ro Rp Rq Rr Rt Ru Rv Rx Ry Rz Sa Sc Sd Se Sf Sg Sh Si Sj Sk Sm Sn So Sr St Sv Sx Sy Sz Tb Tc Td Te Tf Tg Th Ti Tj Tk Tl Tm Tn Tq Tr Ts Tt Tu Tv Tx Ty Tz Ua Ub Uc Ud Ue Uf Ug Uh Ui Uj Uk Ul Um Un Uo Up Ur Ut Uu Uv Uw Ux Uy Uz Va Vb Vc Vd Ve Vf Vg Vh Vi Vj Vk Vl Vm Vn Vp Vq Vr Vs Vt Vu Vv Vw Vy Vz Wa Wb Wc We Wf Wg:Value) (w':World),q0j A.arcs (List.replicate A.st true) k syms 1 X=none->Bl RB [.int .i64 0,.slice none 0 0,.int .i64 0,.int .i64 0,.slice none 0 0,.slice none 0 0,.slice none 0 0] 30 w'->Below G0 W w'->Q0 .ret ⟨#[c0,.pointer (some ⟨G,0,none⟩),.pointer (some ⟨RB,0,none⟩),.int .i64 2,c4,.pointer (some ⟨V,0,none⟩),c6,.pointer (some ⟨O,0,none⟩),c8,c9,Aa,Ab,Ad,Wh,.int .i64 (k:Int),Mh,Mi,Mj,Ml,Mm,Mn,Mp,Mq,Mr,Ms,Mt,Mu,Mw,Mx,Aw,Ax,Ay,Az,Ba,Bb,Bc,Be,Bf,Bh,Bi,Bj,Bk,Bm,Bn,Bo,Bp,Bq,Br,Bs,Bt,Bu,Bv,Bw,Bx,By,Bz,Ca,Cb,Cc,Cd,Ce,Cf,Cg,Ch,Ci,Cj,Ck,Cl,Cm,Cn,Co,Cp,Cq,Cr,Ct,Cu,Cv,Cw,Cx,Cy,Cz,Da,Db,Dc,Dd,De,Df,Dg,Dh,Di,My,Mz,Na,Nb,Nc,Nd,Ne,Ng,Nh,Ni,Nj,Nk,Nl,Nm,Nn,Np,Nq,Nr,Ns,Nt,Nu,Nv,Nw,Nx,Ny,Nz,Oa,Ob,Oc,Od,Oe,Og,Oh,Oi,Oj,Ok,Ol,Oo,Op,Oq,Os,Ot,Ou,Ov,Ow,Ox,Oy,Oz,Pa,Pb,Pc,Pd,Pe,Pf,Pg,Ph,Pi,Pj,Pk,Pl,Pm,Pn,Po,Pp,Pq,Ps,Pt,Pu,Pv,Pw,Px,Py,Pz,Qa,Qb,Qc,Qd,Qe,Qf,Qg,Qh,Qi,Qj,Qk,Ql,Qm,Qn,Qo,Qp,Qq,Qr,Qs,Qt,Qu,Qv,Qw,Qx,Qy,Qz,Ra,Rb,Rc,Re,Rf,Rg,Rh,Ri,Rj,Rk,Rl,Rm,Rn,Ro,Rp,Rq,Rr,Rt,Ru,Rv,Rx,Ry,Rz,Sa,Sc,Sd,Se,Sf,Sg,Sh,Si,Sj,Sk,Sm,Sn,So,Sr,St,Sv,Sx,Sy,Sz,Tb,Tc,Td,Te,Tf,Tg,Th,Ti,Tj,Tk,Tl,Tm,Tn,Tq,Tr,Ts,Tt,Tu,Tv,Tx,Ty,Tz,Ua,Ub,Uc,Ud,Ue,Uf,Ug,Uh,Ui,Uj,Uk,Ul,Um,Un,Uo,Up,Ur,Ut,Uu,Uv,Uw,Ux,Uy,Uz,Va,Vb,Vc,Vd,Ve,Vf,Vg,Vh,Vi,Vj,Vk,Vl,Vm,Vn,Vp,Vq,Vr,Vs,Vt,Vu,Vv,Vw,Vy,Vz,Wa,Wb,Wc,We,Wf,Wg,Md,Me,Mf,Mg],[]⟩ w') :
  Code.wp Tryz.prog (eB 3) Q0 ⟨#[c0,.pointer (some ⟨G,0,none⟩),.pointer (some ⟨RB,0,none⟩),c3,c4,.pointer (some ⟨V,0,none⟩),c6,.pointer (some ⟨O,0,none⟩),c8,c9,Aa,Ab,Ad,lv,.int .i64 (k:Int),Ae,Af,Ag,Ah,Ak,Al,Am,An,Ao,Ap,Aq,Ar,As,Av,Aw,Ax,Ay,Az,Ba,Bb,Bc,Be,Bf,Bh,Bi,Bj,Bk,Bm,Bn,Bo,Bp,Bq,Br,Bs,Bt,Bu,Bv,Bw,Bx,By,Bz,Ca,Cb,Cc,Cd,Ce,Cf,Cg,Ch,Ci,Cj,Ck,Cl,Cm,Cn,Co,Cp,Cq,Cr,Ct,Cu,Cv,Cw,Cx,Cy,Cz,Da,Db,Dc,Dd,De,Df,Dg,Dh,Di,Dj,Dk,Dl,Dn,Dp,Dq,Dr,Dt,Du,Dv,Dw,Dx,Dy,Dz,Ea,Eb,Ec,Ed,Ee,Ef,Eg,Eh,Ei,Ej,Ek,El,Em,En,Eo,Ep,Eq,Er,Es,Et,Eu,Ev,Ew,Ex,Ey,Ez,Fa,Fb,Fc,Fd,Fe,Ff,Fg,Fh,Fi,Fj,Fk,Fm,Fn,Fo,Fp,Fq,Fs,Ft,Fu,Fv,Fw,Fx,Fy,Fz,Ga,Gb,Gc,Gd,Ge,Gf,Gg,Gh,Gi,Gj,Gk,Gl,Gm,Gn,Go,Gp,Gq,Gr,Gs,Gt,Gu,Gv,Gw,Gx,Gy,Gz,Ha,Hb,Hc,Hd,He,Hf,Hg,Hh,Hi,Hj,Hk,Hl,Hm,Hn,Ho,Hp,Hq,Hr,Hs,Ht,Hu,Hv,Hw,Hx,Hy,Hz,Ia,Ib,Ic,Id,Ie,Ig,Ih,Ii,Ij,Ik,Il,Im,Io,Ip,Iq,Ir,It,Iu,Iv,Iw,Ix,Iy,Iz,Ja,Jb,Jc,Jd,Je,Jf,Jg,Jh,Ji,Jj,Jk,Jl,Jm,Jn,Jo,Jp,Jq,Jr,Js,Jt,Ju,Jv,Jw,Jx,Jy,Jz,Ka,Kb,Kc,Kd,Ke,Kf,Kg,Kh,Ki,Kj,Kk,Kl,Km,Kn,Ko,Kp,Kq,Kr,Ks,Kt,Ku,Kv,Kw,Kx,Kz,La,Lb,Lc,Ld,Le,Lf,Lg,Lh,Li,Lj,Lk,Ll,Lm,Ln,Lo,Lp,Lq,Lr,Lt,Lu,Lv,Lx,Ly,Lz,Ma,Mb,Mc,Md,Me,Mf,Mg],[]⟩ w:=by
 conv=>arg 2; whnf
 have hSw:=hid (hS.out.next hb)
 have hCC:=hSw.out.cC
 have hst:=hSw.out.st
 obtain ⟨v,hv⟩:∃ v,X.subs[k]? = some v:=⟨_,List.getElem?_eq_getElem hk⟩
 have hvR:X.subs.getD k []=v:=by rw [List.getD_eq_getElem?_getD,hv]; rfl
 rw [hvR] at hexit
 have hvl:=hX.out.len v (List.mem_of_getElem? hv)
 have hnum:=hX.out.num
 have hvB:=hX.out.bd k v hv
 have hbdR:Hid (∀ p∈sup v,p.1<A.st/\p.2<=1000000000):=hid fun p hp=>by
  have h0:=q4g.1 (show (p.1,p.2)∈sup v from hp)
  have h1:=hvB p.2 (List.mem_of_getElem? h0)
  have h2:C*(k+1)<=1048576*64:=Nat.mul_le_mul hCC (by omega)
  have h3:=(List.getElem?_eq_some_iff.1 h0).1
  exact ⟨by omega,by omega⟩
 have hend:Hid (j7e A.fin (sup v)=q0i A.fin v):=hid (z0b A.fin v (by rw [hAf,hvl]))
 obtain ⟨lb,lc,so,sc,uo,uc,hlv,hcs,hRs⟩:=hL.get hv
 subst hlv
 have hpn:(sup v).length<=64:=Nat.le_trans (q0o _ _) (by rw [hvl]; exact hst)
 obtain ⟨pn,hpe⟩:∃ pn,(sup v).length=pn:=⟨_,rfl⟩
 rw [hpe] at hcs hRs hpn
 obtain ⟨m,hm⟩:∃ m,X.subs.length=m:=⟨_,rfl⟩
 have hLk:=hid hL
 have hOk:=hid hO
 rw [hm] at hk hnum hLk ⊢
 replace hm:=hid hm
 replace hL:=hid hL
 replace hO:=hid hO
 replace hcs:=hid hcs
 replace hRs:=hid hRs
 have hOl:=hid hO.out.blk.lt
 clear hv hvB hpe hvR hvl
 have hbZ:=hid (qJ (w:=w) (.cells (twC none).toArray 45))
 go_upto_region 20 with fail
 have hZ0:Bl w.heap.size (twC none) 45 (w.alloc (.cells (twC none).toArray 45)):=Bl.fresh w (twC none) 45
 go_upto_block 4 with ((with_reducible refine zR rfl _ _ rfl _ _ ?_ none ?_ ?_ ?_); exact rfl; exact rfl; exact rfl)
 refine z4u w V syms C A io ci fo cf ro nr cr hSw lb 0 m lc k hk hnum so sc uo uc pn (sup v) hcs hRs w.heap.size hpn hbdR _ hbZ.out (Nat.le_refl _) hZ0 hpan ?_
 intro Wi Wj Wl Wm Wn Wo Wp Wq Wr Ws Wt Wu Wv Ww Wx Wy Wz Xa Xb Xc Xd Xe Xf Xg Xh Xi Xj Xk Xl Xm Xn Xo Xp Xq Xr Xs Xt Xu Xv Xw Xx Xy Xz Ya Yb Yc Yd Ye Yf Yg Yh Yi Yj Yk Yl Ym Yn Yo w2 hZ2 hf2
 rw [hend.out] at hZ2
 have hbw2:Hid (Below w.heap.size w w2):=hid (hbZ.out.trans (hf2.below (fun q e=>by subst e; exact Nat.le_refl _) hbZ.out.size))
 have hbW2:=hid (hb.trans (hbw2.out.mono hb.size))
 have hO2:=hid (hO.out.next hbw2.out)
 have hL2:=hid (hLk.out.next hbw2.out)
 replace hf2:=hid hf2
 clear hZ0
 go_upto_region 27 with fail
 refine j9a O syms 0 iv fv av (q1s b0 X.subs.length) fin X.arcs w.heap.size (q0i A.fin v) w2 hO2.out hfl hZ2 hpan ?_
 intro Yp Yq Yr Ys Yt Yu fv3 w3 hO3 hf3
 have hno3:∀ q,(q=O\/fv.ownBlock=some q)->OmB O iv fv av q:=fun q hq=>by
  rcases hq with rfl | hq
  ·exact .inl rfl
  ·exact .inr (.inr (.inl hq))
 have hL3:=hid (hL2.out.out hO2.out (hf3.mono fun q _ h=>hno3 q h))
 have hbW3:=hid (hbW2.out.trans (hf3.below (fun q e=>by
  rcases e with rfl | e
  ·exact hOW
  ·have:=(hO2.out.fin.lt e).1; omega) hbW2.out.size))
 replace hO3:=hid hO3
 replace hf3:=hid hf3
 go_upto_block 6 with fail
 refine z4r W V syms C A io ci fo cf ro nr cr hS aio aci afo acf aro anr acr ast G hGb G0 RB O k b0 _ iv fv3 av vs (fin++[q0i A.fin v]) X w3 hbW3.out (by rw [hm.out]; exact hk) hX hL3.out hO3.out hla hG hOW hRB hpan ?_ ?_
 ·intro x3 Yv Yw Yx Yy Yz Za Zb Zc Zd Ze Zf Zg Zh Zi Zj Zk Zl Zm Zn Zo Zp Zq Zr Zs Zt Zu Zv Zw Zx Zy Zz AA AB AC AD AE AF AG AH AI AJ AK AL AM AN AO AP AQ AR AS AT AU AV AW AX AY AZ BA BB BC BD BE BF BG BH BI BJ BK BL BM BN BO BP BQ BR BS BT BU BV BW BX BY BZ CA CB CC CD CE CF CG CH CI CJ CK CL CM CN CO CP CQ CR CS CT CU CV CW CX CY CZ DA DB DC DD DE DF DG DH DI DJ DK DL DM DN DO DP DQ DR DS DT DU DV DW DX DY DZ EA EB EC ED EE EF EG EH EI EJ EK EL EM EN EO EP EQ ER ES ET EU EV EW EX EY EZ FA FB FC FD Y lv4 iv4 av4 vs4 w4 hrow hY hsl hal hL4 hO4 hb4
  replace hrow:=hid hrow
  replace hL4:=hid hL4
  replace hO4:=hid hO4
  replace hb4:=hid hb4
  go_wp2_with fail
  exact hexit _ _ _ _ _ _ _ _ _ _ _ _ _ _ _ _ _ _ _ _ _ _ _ _ _ _ _ _ _ _ _ _ _ _ _ _ _ _ _ _ _ _ _ _ _ _ _ _ _ _ _ _ _ _ _ _ _ _ _ _ _ _ _ _ _ _ _ _ _ _ _ _ _ _ _ _ _ _ _ _ _ _ _ _ _ _ _ _ _ _ _ _ _ _ _ _ _ _ _ _ _ _ _ _ _ _ _ _ _ _ _ _ _ _ _ _ _ _ _ _ _ _ _ _ _ _ _ _ _ _ _ _ _ _ _ _ _ _ _ _ _ _ _ _ _ _ _ _ _ _ _ _ _ _ _ _ _ _ _ _ _ _ _ _ _ _ _ _ _ _ _ _ _ _ _ _ _ _ _ _ _ _ _ _ _ _ _ _ _ _ _ _ _ _ _ _ _ _ _ _ _ _ _ _ _ _ _ _ _ _ _ _ _ _ _ _ _ _ _ _ _ _ _ _ _ _ _ _ _ _ _ _ Y lv4 iv4 fv3 av4 vs4 w4 hrow.out hY hsl hal hL4.out hO4.out hb4.out
 ·intro FE Yv Yw Yx Yy Yz Za Zb Zc Zd Ze Zf Zg Zh Zi Zj Zk Zl Zm Zn Zo Zp Zq Zr Zs Zt Zu Zv Zw Zx Zy Zz AA AB AC AD AE AF AG AH AI AJ AK AL AM AN AO AP AQ AR AS AT AU AV AW AX AY AZ BA BB BC BD BE BF BG BH BI BJ BK BL BM BN BO BP BQ BR BS BT BU BV BW BX BY BZ CA CB CC CD CE CF CG CH CI CJ CK CL CM CN CO CP CQ CR CS CT CU CV CW CX CY CZ DA DB DC DD DE DF DG DH DI DJ DK DL DM DN DO DP DQ DR DS DT DU DV DW DX DY DZ EA EB EC ED EE EF EG EH EI EJ EK EL EM EN EO EP EQ ER ES ET EU EV EW EX EY EZ FA FB FC FD w4 hrow hR4 hb4
  exact hret _ _ _ _ _ _ _ _ _ _ _ _ _ _ _ _ _ _ _ _ _ _ _ _ _ _ _ _ _ _ _ _ _ _ _ _ _ _ _ _ _ _ _ _ _ _ _ _ _ _ _ _ _ _ _ _ _ _ _ _ _ _ _ _ _ _ _ _ _ _ _ _ _ _ _ _ _ _ _ _ _ _ _ _ _ _ _ _ _ _ _ _ _ _ _ _ _ _ _ _ _ _ _ _ _ _ _ _ _ _ _ _ _ _ _ _ _ _ _ _ _ _ _ _ _ _ _ _ _ _ _ _ _ _ _ _ _ _ _ _ _ _ _ _ _ _ _ _ _ _ _ _ _ _ _ _ _ _ _ _ _ _ _ _ _ _ _ _ _ _ _ _ _ _ _ _ _ _ _ _ _ _ _ _ _ _ _ _ _ _ _ _ _ _ _ _ _ _ _ _ _ _ _ _ _ _ _ _ _ _ _ _ _ _ _ _ _ _ _ _ _ _ _ _ _ _ _ _ _ _ _ _ w4 hrow hR4 hb4
end
section
open Go.RowKit
theorem z4v (W:World) (V syms C:Nat) (A:Au) (io:OA) (ci:Nat) (fo:OA) (cf:Nat) (ro:OA) (nr cr:Nat) (hS:Hid (Rta W V syms C A io ci fo cf ro nr cr)) (aio:OA) (aci:Nat) (afo:OA) (acf:Nat) (aro:OA) (anr acr ast G:Nat) (hGb:Bl G (auC syms ast (.slice aio ast aci) (.slice afo ast acf) (.slice aro anr acr)) 30 W) (G0 RB O b0:Nat) (lv iv fv av:Value) (vs:List (Value×Value)) (X:Ds) (w:World) (hb:Below W.heap.size W w) (hX:Hid (Dok A.st C 0 X)) (hAf:A.fin.length=A.st) (hL:Ls w O lv vs X.subs) (hO:Om w O syms 0 iv fv av (q1s b0 X.subs.length) [] X.arcs) (hla:X.arcs=[]) (hG:G0<=RB/\RB<W.heap.size) (hOW:W.heap.size<=O) (hRB:Bl RB [.int .i64 0,.slice none 0 0,.int .i64 0,.int .i64 0,.slice none 0 0,.slice none 0 0,.slice none 0 0] 30 W)
  (c0 c3 c4 c6 c8 c9 Aa Ab Ad Ae Af Ag Ah Ak Al Am An Ao Ap Aq Ar As Av Aw Ax Ay Az Ba Bb Bc Be Bf Bh Bi Bj Bk Bm Bn Bo Bp Bq Br Bs Bt Bu Bv Bw Bx By Bz Ca Cb Cc Cd Ce Cf Cg Ch Ci Cj Ck Cl Cm Cn Co Cp Cq Cr Ct Cu Cv Cw Cx Cy Cz Da Db Dc Dd De Df Dg Dh Di Dj Dk Dl Dn Dp Dq Dr Dt Du Dv Dw Dx Dy Dz Ea Eb Ec Ed Ee Ef Eg Eh Ei Ej Ek El Em En Eo Ep Eq Er Es Et Eu Ev Ew Ex Ey Ez Fa Fb Fc Fd Fe Ff Fg Fh Fi Fj Fk Fm Fn Fo Fp Fq Fs Ft Fu Fv Fw Fx Fy Fz Ga Gb Gc Gd Ge Gf Gg Gh Gi Gj Gk Gl Gm Gn Go Gp Gq Gr Gs Gt Gu Gv Gw Gx Gy Gz Ha Hb Hc Hd He Hf Hg Hh Hi Hj Hk Hl Hm Hn Ho Hp Hq Hr Hs Ht Hu Hv Hw Hx Hy Hz Ia Ib Ic Id Ie Ig Ih Ii Ij Ik Il Im Io Ip Iq Ir It Iu Iv Iw Ix Iy Iz Ja Jb Jc Jd Je Jf Jg Jh Ji Jj Jk Jl Jm Jn Jo Jp Jq Jr Js Jt Ju Jv Jw Jx Jy Jz Ka Kb Kc Kd Ke Kf Kg Kh Ki Kj Kk Kl Km Kn Ko Kp Kq Kr Ks Kt Ku Kv Kw Kx Kz La Lb Lc Ld Le Lf Lg Lh Li Lj Lk Ll Lm Ln Lo Lp Lq Lr Lt Lu Lv Lx Ly Lz Ma Mb Mc Md Me Mf Mg:Value) (Q0:EP) (hpan:∀ c (a:Act) d v w,Q0 (.panic c) (a.put d v) w->Q0 (.panic c) a w)
  (hexit:∀ (u3 Mh Mi Mj Ml Mm Mn Mp Mq Mr Ms Mt Mu Mw Mx My Mz Na Nb Nc Nd Ne Ng Nh Ni Nj Nk Nl Nm Nn Np Nq Nr Ns Nt Nu Nv Nw Nx Ny Nz Oa Ob Oc Od Oe Og Oh Oi Oj Ok Ol Oo Op Oq Os Ot Ou Ov Ow Ox Oy Oz Pa Pb Pc Pd Pe Pf Pg Ph Pi Pj Pk Pl Pm Pn Po Pp Pq Ps Pt Pu Pv Pw Px Py Pz Qa Qb Qc Qd Qe Qf Qg Qh Qi Qj Qk Ql Qm Qn Qo Qp Qq Qr Qs Qt Qu Qv Qw Qx Qy Qz Ra Rb Rc Re Rf Rg Rh Ri Rj Rk Rl Rm Rn Ro Rp Rq Rr Rt Ru Rv Rx Ry Rz Sa Sc Sd Se Sf Sg Sh Si Sj Sk Sm Sn So Sr St Sv Sx Sy Sz Tb Tc Td Te Tf Tg Th Ti Tj Tk Tl Tm Tn Tq Tr Ts Tt Tu Tv Tx Ty Tz Ua Ub Uc Ud Ue Uf Ug Uh Ui Uj Uk Ul Um Un Uo Up Ur Ut Uu Uv Uw Ux Uy Uz Va Vb Vc Vd Ve Vf Vg Vh Vi Vj Vk Vl Vm Vn Vp Vq Vr Vs Vt Vu Vv Vw Vy Vz Wa Wb Wc We Wf Wg Wh Wi Wj Wl Wm Wn Wo:Value) (Y:Ds) (lv' iv' fv' av':Value) (vs':List (Value×Value)) (w':World),q0q A.arcs (List.replicate A.st true) syms 66 0 X=some Y->Y.subs.length<=64->Y.arcs.length<=2048->Ls w' O lv' vs' Y.subs->Om w' O syms 0 iv' fv' av' (q1s b0 Y.subs.length) (Y.subs.map (q0i A.fin)) Y.arcs->Below W.heap.size W w'->Q0 .normal ⟨#[c0,.pointer (some ⟨G,0,none⟩),.pointer (some ⟨RB,0,none⟩),u3,c4,.pointer (some ⟨V,0,none⟩),c6,.pointer (some ⟨O,0,none⟩),c8,c9,Aa,Ab,Ad,lv',Mh,Mi,Mj,Ml,Mm,Mn,Mp,Mq,Mr,Ms,Mt,Mu,Mw,Mx,My,Aw,Ax,Ay,Az,Ba,Bb,Bc,Be,Bf,Bh,Bi,Bj,Bk,Bm,Bn,Bo,Bp,Bq,Br,Bs,Bt,Bu,Bv,Bw,Bx,By,Bz,Ca,Cb,Cc,Cd,Ce,Cf,Cg,Ch,Ci,Cj,Ck,Cl,Cm,Cn,Co,Cp,Cq,Cr,Ct,Cu,Cv,Cw,Cx,Cy,Cz,Da,Db,Dc,Mz,Na,Nb,Nc,Nd,Ne,Ng,Nh,Ni,Nj,Nk,Nl,Nm,Nn,Np,Nq,Nr,Ns,Nt,Nu,Nv,Nw,Nx,Ny,Nz,Oa,Ob,Oc,Od,Oe,Og,Oh,Oi,Oj,Ok,Ol,Oo,Op,Oq,Os,Ot,Ou,Ov,Ow,Ox,Oy,Oz,Pa,Pb,Pc,Pd,Pe,Pf,Pg,Ph,Pi,Pj,Pk,Pl,Pm,Pn,Po,Pp,Pq,Ps,Pt,Pu,Pv,Pw,Px,Py,Pz,Qa,Qb,Qc,Qd,Qe,Qf,Qg,Qh,Qi,Qj,Qk,Ql,Qm,Qn,Qo,Qp,Qq,Qr,Qs,Qt,Qu,Qv,Qw,Qx,Qy,Qz,Ra,Rb,Rc,Re,Rf,Rg,Rh,Ri,Rj,Rk,Rl,Rm,Rn,Ro,Rp,Rq,Rr,Rt,Ru,Rv,Rx,Ry,Rz,Sa,Sc,Sd,Se,Sf,Sg,Sh,Si,Sj,Sk,Sm,Sn,So,Sr,St,Sv,Sx,Sy,Sz,Tb,Tc,Td,Te,Tf,Tg,Th,Ti,Tj,Tk,Tl,Tm,Tn,Tq,Tr,Ts,Tt,Tu,Tv,Tx,Ty,Tz,Ua,Ub,Uc,Ud,Ue,Uf,Ug,Uh,Ui,Uj,Uk,Ul,Um,Un,Uo,Up,Ur,Ut,Uu,Uv,Uw,Ux,Uy,Uz,Va,Vb,Vc,Vd,Ve,Vf,Vg,Vh,Vi,Vj,Vk,Vl,Vm,Vn,Vp,Vq,Vr,Vs,Vt,Vu,Vv,Vw,Vy,Vz,Wa,Wb,Wc,We,Wf,Wg,Wh,Wi,Wj,Wl,Wm,Wn,Wo,Md,Me,Mf,Mg],[]⟩ w')
  (hret:∀ (Wp Mh Mi Mj Ml Mm Mn Mp Mq Mr Ms Mt Mu Mw Mx My Mz Na Nb Nc Nd Ne Ng Nh Ni Nj Nk Nl Nm Nn Np Nq Nr Ns Nt Nu Nv Nw Nx Ny Nz Oa Ob Oc Od Oe Og Oh Oi Oj Ok Ol Oo Op Oq Os Ot Ou Ov Ow Ox Oy Oz Pa Pb Pc Pd Pe Pf Pg Ph Pi Pj Pk Pl Pm Pn Po Pp Pq Ps Pt Pu Pv Pw Px Py Pz Qa Qb Qc Qd Qe Qf Qg Qh Qi Qj Qk Ql Qm Qn Qo Qp Qq Qr Qs Qt Qu Qv Qw Qx Qy Qz Ra Rb Rc Re Rf Rg Rh Ri Rj Rk Rl Rm Rn Ro Rp Rq Rr Rt Ru Rv Rx Ry Rz Sa Sc Sd Se Sf Sg Sh Si Sj Sk Sm Sn So Sr St Sv Sx Sy Sz Tb Tc Td Te Tf Tg Th Ti Tj Tk Tl Tm Tn Tq Tr Ts Tt Tu Tv Tx Ty Tz Ua Ub Uc Ud Ue Uf Ug Uh Ui Uj Uk Ul Um Un Uo Up Ur Ut Uu Uv Uw Ux Uy Uz Va Vb Vc Vd Ve Vf Vg Vh Vi Vj Vk Vl Vm Vn Vp Vq Vr Vs Vt Vu Vv Vw Vy Vz Wa Wb Wc We Wf Wg Wh Wi Wj Wl Wm Wn Wo:Value) (w':World),q0q A.arcs (List.replicate A.st true) syms 66 0 X=none->Bl RB [.int .i64 0,.slice none 0 0,.int .i64 0,.int .i64 0,.slice none 0 0,.slice none 0 0,.slice none 0 0] 30 w'->Below G0 W w'->Q0 .ret ⟨#[c0,.pointer (some ⟨G,0,none⟩),.pointer (some ⟨RB,0,none⟩),.int .i64 2,c4,.pointer (some ⟨V,0,none⟩),c6,.pointer (some ⟨O,0,none⟩),c8,c9,Aa,Ab,Ad,Wp,Mh,Mi,Mj,Ml,Mm,Mn,Mp,Mq,Mr,Ms,Mt,Mu,Mw,Mx,My,Aw,Ax,Ay,Az,Ba,Bb,Bc,Be,Bf,Bh,Bi,Bj,Bk,Bm,Bn,Bo,Bp,Bq,Br,Bs,Bt,Bu,Bv,Bw,Bx,By,Bz,Ca,Cb,Cc,Cd,Ce,Cf,Cg,Ch,Ci,Cj,Ck,Cl,Cm,Cn,Co,Cp,Cq,Cr,Ct,Cu,Cv,Cw,Cx,Cy,Cz,Da,Db,Dc,Mz,Na,Nb,Nc,Nd,Ne,Ng,Nh,Ni,Nj,Nk,Nl,Nm,Nn,Np,Nq,Nr,Ns,Nt,Nu,Nv,Nw,Nx,Ny,Nz,Oa,Ob,Oc,Od,Oe,Og,Oh,Oi,Oj,Ok,Ol,Oo,Op,Oq,Os,Ot,Ou,Ov,Ow,Ox,Oy,Oz,Pa,Pb,Pc,Pd,Pe,Pf,Pg,Ph,Pi,Pj,Pk,Pl,Pm,Pn,Po,Pp,Pq,Ps,Pt,Pu,Pv,Pw,Px,Py,Pz,Qa,Qb,Qc,Qd,Qe,Qf,Qg,Qh,Qi,Qj,Qk,Ql,Qm,Qn,Qo,Qp,Qq,Qr,Qs,Qt,Qu,Qv,Qw,Qx,Qy,Qz,Ra,Rb,Rc,Re,Rf,Rg,Rh,Ri,Rj,Rk,Rl,Rm,Rn,Ro,Rp,Rq,Rr,Rt,Ru,Rv,Rx,Ry,Rz,Sa,Sc,Sd,Se,Sf,Sg,Sh,Si,Sj,Sk,Sm,Sn,So,Sr,St,Sv,Sx,Sy,Sz,Tb,Tc,Td,Te,Tf,Tg,Th,Ti,Tj,Tk,Tl,Tm,Tn,Tq,Tr,Ts,Tt,Tu,Tv,Tx,Ty,Tz,Ua,Ub,Uc,Ud,Ue,Uf,Ug,Uh,Ui,Uj,Uk,Ul,Um,Un,Uo,Up,Ur,Ut,Uu,Uv,Uw,Ux,Uy,Uz,Va,Vb,Vc,Vd,Ve,Vf,Vg,Vh,Vi,Vj,Vk,Vl,Vm,Vn,Vp,Vq,Vr,Vs,Vt,Vu,Vv,Vw,Vy,Vz,Wa,Wb,Wc,We,Wf,Wg,Wh,Wi,Wj,Wl,Wm,Wn,Wo,Md,Me,Mf,Mg],[]⟩ w') :
  Code.wp Tryz.prog (eB 2) Q0 ⟨#[c0,.pointer (some ⟨G,0,none⟩),.pointer (some ⟨RB,0,none⟩),c3,c4,.pointer (some ⟨V,0,none⟩),c6,.pointer (some ⟨O,0,none⟩),c8,c9,Aa,Ab,Ad,lv,.int .i64 0,Ae,Af,Ag,Ah,Ak,Al,Am,An,Ao,Ap,Aq,Ar,As,Av,Aw,Ax,Ay,Az,Ba,Bb,Bc,Be,Bf,Bh,Bi,Bj,Bk,Bm,Bn,Bo,Bp,Bq,Br,Bs,Bt,Bu,Bv,Bw,Bx,By,Bz,Ca,Cb,Cc,Cd,Ce,Cf,Cg,Ch,Ci,Cj,Ck,Cl,Cm,Cn,Co,Cp,Cq,Cr,Ct,Cu,Cv,Cw,Cx,Cy,Cz,Da,Db,Dc,Dd,De,Df,Dg,Dh,Di,Dj,Dk,Dl,Dn,Dp,Dq,Dr,Dt,Du,Dv,Dw,Dx,Dy,Dz,Ea,Eb,Ec,Ed,Ee,Ef,Eg,Eh,Ei,Ej,Ek,El,Em,En,Eo,Ep,Eq,Er,Es,Et,Eu,Ev,Ew,Ex,Ey,Ez,Fa,Fb,Fc,Fd,Fe,Ff,Fg,Fh,Fi,Fj,Fk,Fm,Fn,Fo,Fp,Fq,Fs,Ft,Fu,Fv,Fw,Fx,Fy,Fz,Ga,Gb,Gc,Gd,Ge,Gf,Gg,Gh,Gi,Gj,Gk,Gl,Gm,Gn,Go,Gp,Gq,Gr,Gs,Gt,Gu,Gv,Gw,Gx,Gy,Gz,Ha,Hb,Hc,Hd,He,Hf,Hg,Hh,Hi,Hj,Hk,Hl,Hm,Hn,Ho,Hp,Hq,Hr,Hs,Ht,Hu,Hv,Hw,Hx,Hy,Hz,Ia,Ib,Ic,Id,Ie,Ig,Ih,Ii,Ij,Ik,Il,Im,Io,Ip,Iq,Ir,It,Iu,Iv,Iw,Ix,Iy,Iz,Ja,Jb,Jc,Jd,Je,Jf,Jg,Jh,Ji,Jj,Jk,Jl,Jm,Jn,Jo,Jp,Jq,Jr,Js,Jt,Ju,Jv,Jw,Jx,Jy,Jz,Ka,Kb,Kc,Kd,Ke,Kf,Kg,Kh,Ki,Kj,Kk,Kl,Km,Kn,Ko,Kp,Kq,Kr,Ks,Kt,Ku,Kv,Kw,Kx,Kz,La,Lb,Lc,Ld,Le,Lf,Lg,Lh,Li,Lj,Lk,Ll,Lm,Ln,Lo,Lp,Lq,Lr,Lt,Lu,Lv,Lx,Ly,Lz,Ma,Mb,Mc,Md,Me,Mf,Mg],[]⟩ w:=by
 conv=>arg 2; whnf
 have hsy:=hS.out.sym
 replace hb:=hid hb
 replace hL:=hid hL
 have hO:Hid (Om w O syms 0 iv fv av (q1s b0 X.subs.length) (j0w A.fin X 0) X.arcs):=hid (by simpa [j0w] using hO)
 replace hla:=hid hla
 replace hAf:=hid hAf
 go_wp2_with fail
 go_simp
 go_loopw [13,14] (fun lv1 kv wr=>∃ (k:Nat) (X1:Ds) (iv1 fv1 av1:Value) (vs1:List (Value×Value)),k<=X1.subs.length/\kv=.int .i64 (k:Int)/\Hid (q0q A.arcs (List.replicate A.st true) syms (66-k) k X1=q0q A.arcs (List.replicate A.st true) syms 66 0 X)/\Hid (Dok A.st C k X1)/\Hid (X1.arcs.length<=k*syms)/\Ls wr O lv1 vs1 X1.subs/\Om wr O syms 0 iv1 fv1 av1 (q1s b0 X1.subs.length) (j0w A.fin X1 k) X1.arcs/\Below W.heap.size W wr) (fun _ kv _=>65-(intOf kv).toNat)
 case atStart=>exact ⟨0,X,iv,fv,av,vs,Nat.zero_le _,rfl,hid rfl,hX,hid (by rw [hla.out]; exact Nat.zero_le _),hL.out,hO.out,hb.out⟩
 case round =>
  obtain ⟨k,X1,iv1,fv1,av1,vs1,hk,rfl,hrn,hX1,hal,hL1,hO1,hb1⟩:=hrel
  have hn64:=hX1.out.num
  obtain ⟨lo,lc,hlv⟩:=hL1.row.form
  rw [List.length_map,hL1.num] at hlv
  subst hlv
  replace hL1:=hid hL1
  replace hO1:=hid hO1
  replace hb1:=hid hb1
  obtain ⟨m,hm⟩:∃ m,X1.subs.length=m:=⟨_,rfl⟩
  replace hm:=hid hm
  rw [hm.out] at hk hn64 ⊢
  have hL1':=hL1.out
  rw [hm.out] at hL1'
  replace hL1':=hid hL1'
  by_cases hlt:k<m
  ·have i1:(k:Int)<(m:Int):=by omega
   have i0:(0:Int)<=(k:Int):=by omega
   obtain ⟨f,hf⟩:∃ f,66-k=f+1:=⟨65-k,by omega⟩
   replace hf:=hid hf
   go_upto_block 3 with fail
   refine z2g W V syms C A io ci fo cf ro nr cr hS aio aci afo acf aro anr acr ast G hGb G0 RB O k b0 _ iv1 fv1 av1 vs1 (j0w A.fin X1 k) X1 wr hb1.out (by rw [hm.out]; exact hlt) hX1 hAf.out hL1'.out hO1.out (by have h1:=hal.out; have h2:(k+1)*syms<=64*32:=Nat.mul_le_mul (by omega) hsy; rw [Nat.add_mul] at h2; omega) (by rw [j2e (by rw [hm.out]; exact hk)]; omega) hG hOW hRB hpan ?_ ?_
   ·intro x3 Wq Wr Ws Wt Wu Wv Ww Wx Wy Wz Xa Xb Xc Xd Xe Xf Xg Xh Xi Xj Xk Xl Xm Xn Xo Xp Xq Xr Xs Xt Xu Xv Xw Xx Xy Xz Ya Yb Yc Yd Ye Yf Yg Yh Yi Yj Yk Yl Ym Yn Yo Yp Yq Yr Ys Yt Yu Yv Yw Yx Yy Yz Za Zb Zc Zd Ze Zf Zg Zh Zi Zj Zk Zl Zm Zn Zo Zp Zq Zr Zs Zt Zu Zv Zw Zx Zy Zz AA AB AC AD AE AF AG AH AI AJ AK AL AM AN AO AP AQ AR AS AT AU AV AW AX AY AZ BA BB BC BD BE BF BG BH BI BJ BK BL BM BN BO BP BQ BR BS BT BU BV BW BX BY BZ CA CB CC CD CE CF CG CH CI CJ CK CL CM CN CO CP CQ CR CS CT CU CV CW CX CY CZ DA DB DC DD DE DF DG DH DI DJ DK DL DM DN DO DP DQ DR DS DT DU DV DW DX DY DZ EA EB EC ED EE EF EG EH EI EJ EK EL EM EN EO EP EQ ER ES ET EU EV EW EX EY EZ FA FB FC FD FE FF FG FH FI FJ FK FL FM Y lv2 iv2 fv2 av2 vs2 w2 hrow hY hsl har hL2 hO2 hb2
    rw [q8x (by rw [hm.out]; exact hlt) (q4k _ _ hrow)] at hO2
    have hru:Hid (q0q A.arcs (List.replicate A.st true) syms (66-(k+1)) (k+1) Y=q0q A.arcs (List.replicate A.st true) syms 66 0 X):=hid (by
     rw [<-hrn.out,hf.out,q3u (by rw [hm.out]; exact hlt) hrow,show 66-(k+1)=f by have:=hf.out; omega])
    have har2:Hid (Y.arcs.length<=(k+1)*syms):=hid (by have h1:=hal.out; rw [Nat.add_mul]; omega)
    have hsl2:Hid (k+1<=Y.subs.length):=hid (by have:=hm.out; omega)
    clear hrow hsl har
    replace hL2:=hid hL2
    replace hO2:=hid hO2
    replace hb2:=hid hb2
    go_wp2_with fail
    go_roundw
    case rel=>exact ⟨k+1,Y,iv2,fv2,av2,vs2,hsl2.out,by go_num,hru,hid hY.next,har2,hL2.out,hO2.out,hb2.out⟩
    case measure=>simp [intOf]; omega
   ·intro FN Wq Wr Ws Wt Wu Wv Ww Wx Wy Wz Xa Xb Xc Xd Xe Xf Xg Xh Xi Xj Xk Xl Xm Xn Xo Xp Xq Xr Xs Xt Xu Xv Xw Xx Xy Xz Ya Yb Yc Yd Ye Yf Yg Yh Yi Yj Yk Yl Ym Yn Yo Yp Yq Yr Ys Yt Yu Yv Yw Yx Yy Yz Za Zb Zc Zd Ze Zf Zg Zh Zi Zj Zk Zl Zm Zn Zo Zp Zq Zr Zs Zt Zu Zv Zw Zx Zy Zz AA AB AC AD AE AF AG AH AI AJ AK AL AM AN AO AP AQ AR AS AT AU AV AW AX AY AZ BA BB BC BD BE BF BG BH BI BJ BK BL BM BN BO BP BQ BR BS BT BU BV BW BX BY BZ CA CB CC CD CE CF CG CH CI CJ CK CL CM CN CO CP CQ CR CS CT CU CV CW CX CY CZ DA DB DC DD DE DF DG DH DI DJ DK DL DM DN DO DP DQ DR DS DT DU DV DW DX DY DZ EA EB EC ED EE EF EG EH EI EJ EK EL EM EN EO EP EQ ER ES ET EU EV EW EX EY EZ FA FB FC FD FE FF FG FH FI FJ FK FL FM w2 hrow hR2 hb2
    exact hret _ _ _ _ _ _ _ _ _ _ _ _ _ _ _ _ _ _ _ _ _ _ _ _ _ _ _ _ _ _ _ _ _ _ _ _ _ _ _ _ _ _ _ _ _ _ _ _ _ _ _ _ _ _ _ _ _ _ _ _ _ _ _ _ _ _ _ _ _ _ _ _ _ _ _ _ _ _ _ _ _ _ _ _ _ _ _ _ _ _ _ _ _ _ _ _ _ _ _ _ _ _ _ _ _ _ _ _ _ _ _ _ _ _ _ _ _ _ _ _ _ _ _ _ _ _ _ _ _ _ _ _ _ _ _ _ _ _ _ _ _ _ _ _ _ _ _ _ _ _ _ _ _ _ _ _ _ _ _ _ _ _ _ _ _ _ _ _ _ _ _ _ _ _ _ _ _ _ _ _ _ _ _ _ _ _ _ _ _ _ _ _ _ _ _ _ _ _ _ _ _ _ _ _ _ _ _ _ _ _ _ _ _ _ _ _ _ _ _ _ _ _ _ _ _ _ _ _ _ _ _ _ _ _ _ _ _ _ _ w2 (by rw [<-hrn.out,hf.out]; exact q3v (by rw [hm.out]; exact hlt) hrow) hR2 hb2
  ·obtain rfl:k=m:=by omega
   have i1:¬ (k:Int)<(k:Int):=by omega
   have hend:Hid (q0q A.arcs (List.replicate A.st true) syms (66-k) k X1=some X1):=hid (by
    rw [show 66-k=(65-k)+1 by omega]; exact q6q (by rw [hm.out]; exact Nat.le_refl _))
   have hO3:=hO1.out
   unfold j0w at hO3
   rw [<-hm.out,List.take_length] at hO3
   replace hO3:=hid hO3
   go_wp2_with fail
   exact hexit _ _ _ _ _ _ _ _ _ _ _ _ _ _ _ _ _ _ _ _ _ _ _ _ _ _ _ _ _ _ _ _ _ _ _ _ _ _ _ _ _ _ _ _ _ _ _ _ _ _ _ _ _ _ _ _ _ _ _ _ _ _ _ _ _ _ _ _ _ _ _ _ _ _ _ _ _ _ _ _ _ _ _ _ _ _ _ _ _ _ _ _ _ _ _ _ _ _ _ _ _ _ _ _ _ _ _ _ _ _ _ _ _ _ _ _ _ _ _ _ _ _ _ _ _ _ _ _ _ _ _ _ _ _ _ _ _ _ _ _ _ _ _ _ _ _ _ _ _ _ _ _ _ _ _ _ _ _ _ _ _ _ _ _ _ _ _ _ _ _ _ _ _ _ _ _ _ _ _ _ _ _ _ _ _ _ _ _ _ _ _ _ _ _ _ _ _ _ _ _ _ _ _ _ _ _ _ _ _ _ _ _ _ _ _ _ _ _ _ _ _ _ _ _ _ _ _ _ _ _ _ _ _ _ _ _ _ _ _ X1 _ iv1 fv1 av1 vs1 wr (by rw [<-hrn.out]; exact hend.out) hX1.out.num (by have h1:=hal.out; have h2:k*syms<=64*32:=Nat.mul_le_mul (by omega) hsy; omega) hL1'.out hO3.out hb1.out
end
section
open Go.RowKit
def q1g (S:Vx) (k:Nat):Vx:=S.take k++List.replicate (S.length-k) none
theorem q2q {S:Vx} {k:Nat} (hk:k<=S.length) (i:Nat):(q1g S k)[i]? = if i<k then S[i]? else if i<S.length then some none else none:=by
 unfold q1g
 by_cases h:i<k
 ·rw [if_pos h,List.getElem?_append_left (by rw [List.length_take]; omega),List.getElem?_take,if_pos h]
 ·rw [if_neg h,List.getElem?_append_right (by rw [List.length_take]; omega),List.length_take,List.getElem?_replicate]
  by_cases h2:i<S.length
  ·rw [if_pos h2,if_pos (by omega)]
  ·rw [if_neg h2,if_neg (by omega)]
theorem q8r {S:Vx} {k:Nat} (hk:k<=S.length):(q1g S k).length=S.length:=by unfold q1g; simp; omega
theorem j6s (S:Vx):q1g S S.length=S:=by unfold q1g; simp
theorem j3s {S:Vx} {k:Nat} (h:S[k]? = some none):q1g S (k+1)=q1g S k:=by
 have hk:=(List.getElem?_eq_some_iff.1 h).1
 refine List.ext_getElem? fun i=>?_
 rw [q2q (by omega),q2q (by omega)]
 by_cases h1:i=k
 ·subst h1; rw [if_pos (by omega),if_neg (by omega),if_pos hk,h]
 ·by_cases h2:i<k
  ·rw [if_pos (by omega),if_pos h2]
  ·rw [if_neg (by omega),if_neg h2]
theorem j3r {S:Vx} {k r:Nat} (h:S[k]? = some (some r)):q1g S (k+1)=(q1g S k).set k (some r):=by
 have hk:=(List.getElem?_eq_some_iff.1 h).1
 refine List.ext_getElem? fun i=>?_
 rw [List.getElem?_set,q2q (by omega),q2q (by omega),q8r (by omega)]
 by_cases h1:i=k
 ·subst h1; rw [if_pos (by omega),if_pos rfl,if_pos hk,h]
 ·rw [if_neg (show ¬ k=i from fun e=>h1 e.symm)]
  by_cases h2:i<k
  ·rw [if_pos (by omega),if_pos h2]
  ·rw [if_neg (by omega),if_neg h2]
theorem j8y (W:World) (V syms C:Nat) (A:Au) (io:OA) (ci:Nat) (fo:OA) (cf:Nat) (ro:OA) (nr cr:Nat) (hS:Hid (Rta W V syms C A io ci fo cf ro nr cr)) (base g:Nat) (hAi:Hid (A.ini.length=A.st)) (w:World) (hb:Below W.heap.size W w) (hgb:W.heap.size<=g) (hg:Sb w base g (List.replicate A.st none))
  {c0 c1 c2 c3 c4 c6 c7 Aa Ab Ad Ae Af Ag Ah Ak Al Am An Ao Ap Aq Ar As Av Aw Ax Ay Az Ba Bb Bc Be Bf Bh Bi Bj Bk Bm Bn Bo Bp Bq Br Bs Bt Bu Bv Bw Bx By Bz Ca Cb Cc Cd Ce Cf Cg Ch Ci Cj Ck Cl Cm Cn Co Cp Cq Cr Ct Cu Cv Cw Cx Cy Cz Da Db Dc Dd De Df Dg Dh Di Dj Dk Dl Dn Dp Dq Dr Dt Du Dv Dw Dx Dy Dz Ea Eb Ec Ed Ee Ef Eg Eh Ei Ej Ek El Em En Eo Ep Eq Er Es Et Eu Ev Ew Ex Ey Ez Fa Fb Fc Fd Fe Ff Fg Fh Fi Fj Fk Fm Fn Fo Fp Fq Fs Ft Fu Fv Fw Fx Fy Fz Ga Gb Gc Gd Ge Gf Gg Gh Gi Gj Gk Gl Gm Gn Go Gp Gq Gr Gs Gt Gu Gv Gw Gx Gy Gz Ha Hb Hc Hd He Hf Hg Hh Hi Hj Hk Hl Hm Hn Ho Hp Hq Hr Hs Ht Hu Hv Hw Hx Hy Hz Ia Ib Ic Id Ie Ig Ih Ii Ij Ik Il Im Io Ip Iq Ir It Iu Iv Iw Ix Iy Iz Ja Jb Jc Jd Je Jf Jg Jh Ji Jj Jk Jl Jm Jn Jo Jp Jq Jr Js Jt Ju Jv Jw Jx Jy Jz Ka Kb Kc Kd Ke Kf Kg Kh Ki Kj Kk Kl Km Kn Ko Kp Kq Kr Ks Kt Ku Kv Kw Kx Kz La Lb Lc Ld Le Lf Lg Lh Li Lj Lk Ll Lm Ln Lo Lp Lq Lr Lt Lu Lv Lx Ly Lz Ma Mb Mc Md Me Mf Mg Mh Mi:Value} {Q0:EP} (hpan:∀ c (a:Act) d v w,Q0 (.panic c) (a.put d v) w->Q0 (.panic c) a w)
  (hexit:∀ (u9 Mj Ml Mm Mn Mp Mq Mr Ms Mt Mu Mw Mx My Mz Na Nb Nc Nd Ne Ng Nh:Value) (w':World),Sb w' base g A.ini->Fr (fun q=>q=g) w w'->Q0 .normal ⟨#[c0,c1,c2,c3,c4,.pointer (some ⟨V,0,none⟩),c6,c7,.slice (some ⟨g,0,none⟩) A.st A.st,u9,Aa,Ab,Ad,Ae,Af,Ag,Ah,Ak,Al,Am,An,Ao,Ap,Aq,Ar,As,Av,Aw,Ax,Ay,Az,Ba,Bb,Bc,Be,Bf,Bh,Bi,Bj,Bk,Bm,Bn,Bo,Bp,Bq,Br,Bs,Bt,Mj,Ml,Mm,Mn,Mp,Mq,Mr,Ms,Mt,Mu,Mw,Mx,My,Mz,Na,Nb,Nc,Nd,Ne,Ng,Nh,Cp,Cq,Cr,Ct,Cu,Cv,Cw,Cx,Cy,Cz,Da,Db,Dc,Dd,De,Df,Dg,Dh,Di,Dj,Dk,Dl,Dn,Dp,Dq,Dr,Dt,Du,Dv,Dw,Dx,Dy,Dz,Ea,Eb,Ec,Ed,Ee,Ef,Eg,Eh,Ei,Ej,Ek,El,Em,En,Eo,Ep,Eq,Er,Es,Et,Eu,Ev,Ew,Ex,Ey,Ez,Fa,Fb,Fc,Fd,Fe,Ff,Fg,Fh,Fi,Fj,Fk,Fm,Fn,Fo,Fp,Fq,Fs,Ft,Fu,Fv,Fw,Fx,Fy,Fz,Ga,Gb,Gc,Gd,Ge,Gf,Gg,Gh,Gi,Gj,Gk,Gl,Gm,Gn,Go,Gp,Gq,Gr,Gs,Gt,Gu,Gv,Gw,Gx,Gy,Gz,Ha,Hb,Hc,Hd,He,Hf,Hg,Hh,Hi,Hj,Hk,Hl,Hm,Hn,Ho,Hp,Hq,Hr,Hs,Ht,Hu,Hv,Hw,Hx,Hy,Hz,Ia,Ib,Ic,Id,Ie,Ig,Ih,Ii,Ij,Ik,Il,Im,Io,Ip,Iq,Ir,It,Iu,Iv,Iw,Ix,Iy,Iz,Ja,Jb,Jc,Jd,Je,Jf,Jg,Jh,Ji,Jj,Jk,Jl,Jm,Jn,Jo,Jp,Jq,Jr,Js,Jt,Ju,Jv,Jw,Jx,Jy,Jz,Ka,Kb,Kc,Kd,Ke,Kf,Kg,Kh,Ki,Kj,Kk,Kl,Km,Kn,Ko,Kp,Kq,Kr,Ks,Kt,Ku,Kv,Kw,Kx,Kz,La,Lb,Lc,Ld,Le,Lf,Lg,Lh,Li,Lj,Lk,Ll,Lm,Ln,Lo,Lp,Lq,Lr,Lt,Lu,Lv,Lx,Ly,Lz,Ma,Mb,Mc,Md,Me,Mf,Mg,Mh,Mi],[]⟩ w') :
  Code.wp Tryz.prog (eB 0) Q0 ⟨#[c0,c1,c2,c3,c4,.pointer (some ⟨V,0,none⟩),c6,c7,.slice (some ⟨g,0,none⟩) A.st A.st,.int .i64 0,Aa,Ab,Ad,Ae,Af,Ag,Ah,Ak,Al,Am,An,Ao,Ap,Aq,Ar,As,Av,Aw,Ax,Ay,Az,Ba,Bb,Bc,Be,Bf,Bh,Bi,Bj,Bk,Bm,Bn,Bo,Bp,Bq,Br,Bs,Bt,Bu,Bv,Bw,Bx,By,Bz,Ca,Cb,Cc,Cd,Ce,Cf,Cg,Ch,Ci,Cj,Ck,Cl,Cm,Cn,Co,Cp,Cq,Cr,Ct,Cu,Cv,Cw,Cx,Cy,Cz,Da,Db,Dc,Dd,De,Df,Dg,Dh,Di,Dj,Dk,Dl,Dn,Dp,Dq,Dr,Dt,Du,Dv,Dw,Dx,Dy,Dz,Ea,Eb,Ec,Ed,Ee,Ef,Eg,Eh,Ei,Ej,Ek,El,Em,En,Eo,Ep,Eq,Er,Es,Et,Eu,Ev,Ew,Ex,Ey,Ez,Fa,Fb,Fc,Fd,Fe,Ff,Fg,Fh,Fi,Fj,Fk,Fm,Fn,Fo,Fp,Fq,Fs,Ft,Fu,Fv,Fw,Fx,Fy,Fz,Ga,Gb,Gc,Gd,Ge,Gf,Gg,Gh,Gi,Gj,Gk,Gl,Gm,Gn,Go,Gp,Gq,Gr,Gs,Gt,Gu,Gv,Gw,Gx,Gy,Gz,Ha,Hb,Hc,Hd,He,Hf,Hg,Hh,Hi,Hj,Hk,Hl,Hm,Hn,Ho,Hp,Hq,Hr,Hs,Ht,Hu,Hv,Hw,Hx,Hy,Hz,Ia,Ib,Ic,Id,Ie,Ig,Ih,Ii,Ij,Ik,Il,Im,Io,Ip,Iq,Ir,It,Iu,Iv,Iw,Ix,Iy,Iz,Ja,Jb,Jc,Jd,Je,Jf,Jg,Jh,Ji,Jj,Jk,Jl,Jm,Jn,Jo,Jp,Jq,Jr,Js,Jt,Ju,Jv,Jw,Jx,Jy,Jz,Ka,Kb,Kc,Kd,Ke,Kf,Kg,Kh,Ki,Kj,Kk,Kl,Km,Kn,Ko,Kp,Kq,Kr,Ks,Kt,Ku,Kv,Kw,Kx,Kz,La,Lb,Lc,Ld,Le,Lf,Lg,Lh,Li,Lj,Lk,Ll,Lm,Ln,Lo,Lp,Lq,Lr,Lt,Lu,Lv,Lx,Ly,Lz,Ma,Mb,Mc,Md,Me,Mf,Mg,Mh,Mi],[]⟩ w:=by
 conv=>arg 2; whnf
 have hexit:=hid hexit
 have hst:=hS.out.st
 have hg:Sb w base g (q1g A.ini 0):=by unfold q1g; rw [hAi.out]; exact hg
 replace hg:=hid hg
 replace hb:=hid hb
 go_wp2_with fail
 go_loopw [9] (fun iv wr=>∃ k:Nat,k<=A.st/\iv=.int .i64 (k:Int)/\Sb wr base g (q1g A.ini k)/\Fr (fun q=>q=g) w wr) (fun iv _=>A.st-(intOf iv).toNat)
 case atStart=>exact ⟨0,by omega,rfl,hg.out,Fr.refl _ _⟩
 case round =>
  obtain ⟨k,hk,rfl,hrow,hfr⟩:=hrel
  have hbr:Below W.heap.size W wr:=hb.out.trans (hfr.below (fun q e=>by subst e; exact hgb) hb.out.size)
  have y3:=(hS.out.vw.next hbr).cell (i:=3) rfl
  have y4:=(hS.out.vw.next hbr).cell (i:=4) rfl
  by_cases hlt:k<A.st
  ·obtain ⟨y,hy,b,off,hio,hcs⟩:=(hS.out.mo.ini.next hbr).get hlt
   subst hio
   have i1:(k:Int)<(A.st:Int):=by omega
   have i0:(0:Int)<=(k:Int):=by omega
   obtain ⟨Sk,hSk⟩:∃ Sk,q1g A.ini k=Sk:=⟨_,rfl⟩
   have hSl:Sk.length=A.st:=by rw [<-hSk,q8r (by rw [hAi.out]; omega)]; exact hAi.out
   have hnx:Hid ((y=none->q1g A.ini (k+1)=Sk)/\∀ r,y=some r->q1g A.ini (k+1)=Sk.set k (some r)):=hid (by
    rw [<-hSk]
    exact ⟨fun e=>j3s (by rw [hy,e]),fun r e=>j3r (by rw [hy,e])⟩)
   rw [hSk] at hrow
   replace hrow:=hid hrow
   replace hfr:=hid hfr
   clear hbr
   clear hSk hy
   go_wp2_with ((with_reducible refine jB rfl _ rfl b (off+k*8) ?_ y hcs ?_); exact rfl)
   refine (kP y _).mono ?_; rintro e w2 ⟨rfl,hb2⟩
   have hrow2:=hrow.out.next hb2
   have hfr2:=hid (hfr.out.trans (qH hb2 _))
   have hcs2:=hcs.next hb2
   have y4':=qR y4 hb2
   rw [show Sk.length=A.st from hSl] at hrow2
   cases y with
   | none =>
    have hti:ti none=true:=rfl
    rw [hti]
    have hn:=hid (hnx.out.1 rfl)
    have hrow2:=hid hrow2
    clear hcs hcs2
    go_wp2_with fail
    go_roundw
    case rel=>exact ⟨k+1,by omega,by go_num,by rw [hn.out]; unfold Sb; rw [hSl]; exact hrow2.out,hfr2.out⟩
    case measure=>simp [intOf]; omega
   | some r =>
    have hti:ti (some r)=false:=rfl
    rw [hti]
    have hn:=hid (hnx.out.2 r rfl)
    have q3:=hcs2 3 _ rfl
    have c1:=hrow2.cell hlt
    have c2:=hrow2.free k
    have hrow2:=hid hrow2
    clear hcs hcs2
    go_wp2_with fail
    go_roundw
    case rel=>exact ⟨k+1,by omega,by go_num,by rw [hn.out]; unfold Sb; rw [List.length_set,hSl]; exact (hrow2.out.put k (.int .i64 (r:Int))).congr (fun i _=>j2f Sk k (by rw [hSl]; exact hlt) _ i),hfr2.out.trans (Fr.set (T:=fun k=>k=g) _ (p:=⟨g,k,none⟩) rfl _)⟩
    case measure=>simp [intOf]; omega
  ·obtain rfl:k=A.st:=by omega
   have i1:¬ (A.st:Int)<(A.st:Int):=by omega
   rw [show q1g A.ini A.st=A.ini by rw [<-hAi.out]; exact j6s _] at hrow
   have hrow:=hid hrow
   go_wp2_with fail
   exact hexit.out _ _ _ _ _ _ _ _ _ _ _ _ _ _ _ _ _ _ _ _ _ _ _ hrow.out hfr
end
section
open Go.RowKit
theorem z2h (base g n:Nat) (S:Vx) (hn:S.length=n) (hn6:n<=64) (hB:Bd 1000000000000000 S) (w:World) (hg:Sb w base g S)
  {c0 c1 c2 c3 c4 c5 c6 c7 c9 Aa Ab Ad Ae Af Ag Ah Ak Al Am An Ao Ap Aq Ar As Av Aw Ax Ay Az Ba Bb Bc Be Bf Bh Bi Bj Bk Bm Bn Bo Bp Bq Br Bs Bt Bu Bv Bw Bx By Bz Ca Cb Cc Cd Ce Cf Cg Ch Ci Cj Ck Cl Cm Cn Co Cp Cq Cr Ct Cu Cv Cw Cx Cy Cz Da Db Dc Dd De Df Dg Dh Di Dj Dk Dl Dn Dp Dq Dr Dt Du Dv Dw Dx Dy Dz Ea Eb Ec Ed Ee Ef Eg Eh Ei Ej Ek El Em En Eo Ep Eq Er Es Et Eu Ev Ew Ex Ey Ez Fa Fb Fc Fd Fe Ff Fg Fh Fi Fj Fk Fm Fn Fo Fp Fq Fs Ft Fu Fv Fw Fx Fy Fz Ga Gb Gc Gd Ge Gf Gg Gh Gi Gj Gk Gl Gm Gn Go Gp Gq Gr Gs Gt Gu Gv Gw Gx Gy Gz Ha Hb Hc Hd He Hf Hg Hh Hi Hj Hk Hl Hm Hn Ho Hp Hq Hr Hs Ht Hu Hv Hw Hx Hy Hz Ia Ib Ic Id Ie Ig Ih Ii Ij Ik Il Im Io Ip Iq Ir It Iu Iv Iw Ix Iy Iz Ja Jb Jc Jd Je Jf Jg Jh Ji Jj Jk Jl Jm Jn Jo Jp Jq Jr Js Jt Ju Jv Jw Jx Jy Jz Ka Kb Kc Kd Ke Kf Kg Kh Ki Kj Kk Kl Km Kn Ko Kp Kq Kr Ks Kt Ku Kv Kw Kx Kz La Lb Lc Ld Le Lf Lg Lh Li Lj Lk Ll Lm Ln Lo Lp Lq Lr Lt Lu Lv Lx Ly Lz Ma Mb Mc Md Me Mf Mg Mh Mi:Value} {Q0:EP} (hpan:∀ c (a:Act) d v w,Q0 (.panic c) (a.put d v) w->Q0 (.panic c) a w)
  (hexit:∀ (Mj Ml Mm Mn Mp Mq:Value) (Y:Nat) (sv rv:Value) (w':World),Bl Y [sv,rv] 84 w'->w.heap.size<=Y->Sq w' w.heap.size sv rv (sup (vR S ((qG S).getD 0)))->Below w.heap.size w w'->Q0 .normal ⟨#[c0,c1,c2,c3,c4,c5,c6,c7,.slice (some ⟨g,0,none⟩) n n,c9,.pointer (some ⟨Y,0,none⟩),oV (qG S),.bool (qG S).isSome,Ae,Af,Ag,Ah,Ak,Al,Am,An,Ao,Ap,Aq,Ar,As,Av,Aw,Ax,Ay,Az,Ba,Bb,Bc,Be,Bf,Bh,Bi,Bj,Bk,Bm,Bn,Bo,Bp,Bq,Br,Bs,Bt,Bu,Bv,Bw,Bx,By,Bz,Ca,Cb,Cc,Cd,Ce,Cf,Cg,Ch,Ci,Cj,Ck,Cl,Cm,Cn,Co,Mj,Ml,Mm,Mn,Mp,Mq,Cw,Cx,Cy,Cz,Da,Db,Dc,Dd,De,Df,Dg,Dh,Di,Dj,Dk,Dl,Dn,Dp,Dq,Dr,Dt,Du,Dv,Dw,Dx,Dy,Dz,Ea,Eb,Ec,Ed,Ee,Ef,Eg,Eh,Ei,Ej,Ek,El,Em,En,Eo,Ep,Eq,Er,Es,Et,Eu,Ev,Ew,Ex,Ey,Ez,Fa,Fb,Fc,Fd,Fe,Ff,Fg,Fh,Fi,Fj,Fk,Fm,Fn,Fo,Fp,Fq,Fs,Ft,Fu,Fv,Fw,Fx,Fy,Fz,Ga,Gb,Gc,Gd,Ge,Gf,Gg,Gh,Gi,Gj,Gk,Gl,Gm,Gn,Go,Gp,Gq,Gr,Gs,Gt,Gu,Gv,Gw,Gx,Gy,Gz,Ha,Hb,Hc,Hd,He,Hf,Hg,Hh,Hi,Hj,Hk,Hl,Hm,Hn,Ho,Hp,Hq,Hr,Hs,Ht,Hu,Hv,Hw,Hx,Hy,Hz,Ia,Ib,Ic,Id,Ie,Ig,Ih,Ii,Ij,Ik,Il,Im,Io,Ip,Iq,Ir,It,Iu,Iv,Iw,Ix,Iy,Iz,Ja,Jb,Jc,Jd,Je,Jf,Jg,Jh,Ji,Jj,Jk,Jl,Jm,Jn,Jo,Jp,Jq,Jr,Js,Jt,Ju,Jv,Jw,Jx,Jy,Jz,Ka,Kb,Kc,Kd,Ke,Kf,Kg,Kh,Ki,Kj,Kk,Kl,Km,Kn,Ko,Kp,Kq,Kr,Ks,Kt,Ku,Kv,Kw,Kx,Kz,La,Lb,Lc,Ld,Le,Lf,Lg,Lh,Li,Lj,Lk,Ll,Lm,Ln,Lo,Lp,Lq,Lr,Lt,Lu,Lv,Lx,Ly,Lz,Ma,Mb,Mc,Md,Me,Mf,Mg,Mh,Mi],[]⟩ w') :
  Code.wp Tryz.prog (eR 12) Q0 ⟨#[c0,c1,c2,c3,c4,c5,c6,c7,.slice (some ⟨g,0,none⟩) n n,c9,Aa,Ab,Ad,Ae,Af,Ag,Ah,Ak,Al,Am,An,Ao,Ap,Aq,Ar,As,Av,Aw,Ax,Ay,Az,Ba,Bb,Bc,Be,Bf,Bh,Bi,Bj,Bk,Bm,Bn,Bo,Bp,Bq,Br,Bs,Bt,Bu,Bv,Bw,Bx,By,Bz,Ca,Cb,Cc,Cd,Ce,Cf,Cg,Ch,Ci,Cj,Ck,Cl,Cm,Cn,Co,Cp,Cq,Cr,Ct,Cu,Cv,Cw,Cx,Cy,Cz,Da,Db,Dc,Dd,De,Df,Dg,Dh,Di,Dj,Dk,Dl,Dn,Dp,Dq,Dr,Dt,Du,Dv,Dw,Dx,Dy,Dz,Ea,Eb,Ec,Ed,Ee,Ef,Eg,Eh,Ei,Ej,Ek,El,Em,En,Eo,Ep,Eq,Er,Es,Et,Eu,Ev,Ew,Ex,Ey,Ez,Fa,Fb,Fc,Fd,Fe,Ff,Fg,Fh,Fi,Fj,Fk,Fm,Fn,Fo,Fp,Fq,Fs,Ft,Fu,Fv,Fw,Fx,Fy,Fz,Ga,Gb,Gc,Gd,Ge,Gf,Gg,Gh,Gi,Gj,Gk,Gl,Gm,Gn,Go,Gp,Gq,Gr,Gs,Gt,Gu,Gv,Gw,Gx,Gy,Gz,Ha,Hb,Hc,Hd,He,Hf,Hg,Hh,Hi,Hj,Hk,Hl,Hm,Hn,Ho,Hp,Hq,Hr,Hs,Ht,Hu,Hv,Hw,Hx,Hy,Hz,Ia,Ib,Ic,Id,Ie,Ig,Ih,Ii,Ij,Ik,Il,Im,Io,Ip,Iq,Ir,It,Iu,Iv,Iw,Ix,Iy,Iz,Ja,Jb,Jc,Jd,Je,Jf,Jg,Jh,Ji,Jj,Jk,Jl,Jm,Jn,Jo,Jp,Jq,Jr,Js,Jt,Ju,Jv,Jw,Jx,Jy,Jz,Ka,Kb,Kc,Kd,Ke,Kf,Kg,Kh,Ki,Kj,Kk,Kl,Km,Kn,Ko,Kp,Kq,Kr,Ks,Kt,Ku,Kv,Kw,Kx,Kz,La,Lb,Lc,Ld,Le,Lf,Lg,Lh,Li,Lj,Lk,Ll,Lm,Ln,Lo,Lp,Lq,Lr,Lt,Lu,Lv,Lx,Ly,Lz,Ma,Mb,Mc,Md,Me,Mf,Mg,Mh,Mi],[]⟩ w:=by
 conv=>arg 2; whnf
 have hexit:=hid hexit
 subst hn
 have hcall:=hid (q3k base g S hn6 hB w hg)
 go_wp2_with fail
 refine hcall.out.mono ?_; rintro e w2 ⟨sv,rv,rfl,hSq,hb2⟩
 obtain ⟨so,sc,rfl⟩:=hSq.sts.form
 obtain ⟨uo,uc,rfl⟩:=hSq.rst.form
 have hbN:Below w2.heap.size w2 (w2.alloc (.cells #[.slice none 0 0,.slice none 0 0] 84)):=qJ _
 have hY:=Bl.fresh w2 [.slice none 0 0,.slice none 0 0] 84
 have y0:=hY.cell (i:=0) rfl
 have y1:=hY.cell (i:=1) rfl
 have y0f:=hY.free 0
 have y1f:=hY.free 1
 have hSq2:=hid (hSq.next hbN)
 have hs1:=hid hSq.sts
 have hs2:=hid hSq.rst
 replace hbN:=hid hbN
 replace hb2:=hid hb2
 replace hY:=hid hY
 have hSqK:=hSq
 clear hSq
 have hSq0:=hid (show Sq w2 w.heap.size _ _ (sup (vR S ((qG S).getD 0))) from hSqK)
 simp only [List.length_map] at hSq0
 go_wp2_with fail
 refine hexit.out _ _ _ _ _ _ w2.heap.size _ _ _ (Bl.fresh w2 _ 84) hb2.out.size (hSq0.out.next (qJ _)) (hb2.out.trans ((qJ _).mono hb2.out.size))
end
end Go.Proofs.YtnapapijhhldpaaGreatDoor

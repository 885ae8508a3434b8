/-
  Texts joined by program: Ttg, Tth, Tti. No condition of its own.
-/
import Derived.Test.YtnapapijhhldpaaGreatDoorJcBJ
import Derived.Test.YtnapapijhhldpaaGreatDoorJcBX
namespace Go.Proofs.YtnapapijhhldpaaGreatDoor
set_option linter.unusedSimpArgs false
set_option linter.unusedVariables false
section
open Go.RowKit
set_option maxRecDepth 100000 in
set_option maxHeartbeats 4000000 in
theorem aut_all (T:Nat) (lo:Option Addr) (n cap:Nat) (PB O syms st:Nat) (kst ksy:Int) (fw sg:Bool) (iv fv:Value) (ini fin:List Tw) (w:World) (hP:Bl PB [.int .i64 kst,.int .i64 ksy,.bool fw,.bool sg,.slice lo n cap] 24 w) (hTa:Ta w T lo n cap) (hPT:PB<T) (hTO:T<O) (hst:st≤64) (hsy:1≤syms∧syms≤32) (hA:Aj w O syms st sg iv fv (.slice none 0 0) ini fin [])
  (c0 c2 c4 c5 c6 c9 Aa Ab Ad Ae Af Ag Ah Ak Al Am An Ao Ap Aq Ar As Av Aw Ax Ay Az Ba Bb Bc Be Bf Bh Bi Bj Bk Bm Bn Bo Bp Bq Br Bs Bt Bu Bv Bw Bx By Bz Ca Cb Cc Cd Ce Cf Cg Ch Ci Cj Ck Cl Cm Cn Co Cp Cq Cr Ct Cu Cv Cw Cx Cy Cz Da Db Dc Dd De Df Dg Dh Di Dj Dk Dl Dn Dp Dq Dr Dt Du Dv Dw Dx Dy Dz Ea Eb Ec Ed Ee Ef Eg Eh Ei Ej Ek El Em En Eo Ep Eq Er Es Et Eu Ev Ew Ex Ey Ez Fa Fb Fc Fd Fe Ff Fg Fh Fi Fj Fk Fm Fn Fo Fp Fq Fs Ft Fu Fv Fw Fx Fy Fz Ga Gb Gc Gd Ge Gf Gg Gh Gi Gj Gk Gl Gm Gn Go Gp Gq Gr Gs Gt Gu Gv Gw Gx Gy Gz Ha Hb Hc Hd He Hf:Value) (Q0:Exit→Act→World→Prop) (hpan:∀ c (a:Act) d v w,Q0 (.panic c) (a.put d v) w→Q0 (.panic c) a w)
  (hexit:∀ (Hg Hh Hi Hj Hk Hl Hm Hn Ho Hp Hq Hr Hs Ht Hu Hv Hw Hx Hy Hz Ia Ib Ic Id Ie Ig Ih Ii Ij Ik Il Im Io Ip Iq Ir It Iu Iv Iw Ix Iy Iz Ja Jb Jc Jd Je Jf Jg Jh Ji Jj Jk Jl Jm Jn Jo Jp Jq Jr Js Jt Ju Jv Jw Jx Jy Jz Ka Kb Kc Kd Ke Kf Kg Kh Ki Kj Kk Kl Km Kn Ko Kp Kq Kr Ks Kt Ku Kv Kw Kx Kz La Lb Lc Ld Le Lf Lg:Value) (av':Value) (arcs':List Ac) (w':World),arcs'.length≤14→Aj w' O syms st sg iv fv av' ini fin arcs'→Below T w w'→Q0 .normal ⟨#[c0,.int .i64 2,c2,.pointer (some ⟨PB,0,none⟩),c4,c5,c6,.pointer (some ⟨T,0,none⟩),.pointer (some ⟨O,0,none⟩),c9,Aa,Ab,Hg,Hh,Hi,Hj,Ag,Ah,Ak,Al,Am,An,Ao,Ap,Aq,Ar,As,Av,Aw,Ax,Ay,Az,Ba,Bb,Bc,Be,Bf,Bh,Bi,Bj,Bk,Bm,Bn,Bo,Bp,Bq,Br,Bs,Bt,Bu,Bv,Bw,Bx,By,Bz,Ca,Cb,Cc,Cd,Ce,Cf,Cg,Ch,Ci,Cj,Ck,Cl,Cm,Cn,Co,Cp,Cq,Cr,Ct,Cu,Cv,Cw,Cx,Cy,Cz,Da,Db,Dc,Dd,De,Df,Dg,Hk,Hl,Hm,Hn,Ho,Hp,Hq,Hr,Hs,Ht,Hu,Hv,Hw,Hx,Hy,Hz,Ia,Ib,Ic,Id,Ie,Ig,Ih,Ii,Ij,Ik,Il,Im,Io,Ip,Iq,Ir,It,Iu,Iv,Iw,Ix,Iy,Iz,Ja,Jb,Jc,Jd,Je,Jf,Jg,Jh,Ji,Jj,Jk,Jl,Jm,Jn,Jo,Jp,Jq,Jr,Js,Jt,Ju,Jv,Jw,Jx,Jy,Jz,Ka,Kb,Kc,Kd,Ke,Kf,Kg,Kh,Ki,Kj,Kk,Kl,Km,Kn,Ko,Kp,Kq,Kr,Ks,Kt,Ku,Kv,Kw,Kx,Kz,La,Lb,Lc,Ld,Le,Lf,Lg,Hf],[]⟩ w') :
  Code.wp Tryz.prog (wB 2) Q0 ⟨#[c0,.int .i64 2,c2,.pointer (some ⟨PB,0,none⟩),c4,c5,c6,.pointer (some ⟨T,0,none⟩),.pointer (some ⟨O,0,none⟩),c9,Aa,Ab,.int .i64 0,Ad,Ae,Af,Ag,Ah,Ak,Al,Am,An,Ao,Ap,Aq,Ar,As,Av,Aw,Ax,Ay,Az,Ba,Bb,Bc,Be,Bf,Bh,Bi,Bj,Bk,Bm,Bn,Bo,Bp,Bq,Br,Bs,Bt,Bu,Bv,Bw,Bx,By,Bz,Ca,Cb,Cc,Cd,Ce,Cf,Cg,Ch,Ci,Cj,Ck,Cl,Cm,Cn,Co,Cp,Cq,Cr,Ct,Cu,Cv,Cw,Cx,Cy,Cz,Da,Db,Dc,Dd,De,Df,Dg,Dh,Di,Dj,Dk,Dl,Dn,Dp,Dq,Dr,Dt,Du,Dv,Dw,Dx,Dy,Dz,Ea,Eb,Ec,Ed,Ee,Ef,Eg,Eh,Ei,Ej,Ek,El,Em,En,Eo,Ep,Eq,Er,Es,Et,Eu,Ev,Ew,Ex,Ey,Ez,Fa,Fb,Fc,Fd,Fe,Ff,Fg,Fh,Fi,Fj,Fk,Fm,Fn,Fo,Fp,Fq,Fs,Ft,Fu,Fv,Fw,Fx,Fy,Fz,Ga,Gb,Gc,Gd,Ge,Gf,Gg,Gh,Gi,Gj,Gk,Gl,Gm,Gn,Go,Gp,Gq,Gr,Gs,Gt,Gu,Gv,Gw,Gx,Gy,Gz,Ha,Hb,Hc,Hd,He,Hf],[]⟩ w:=by
 conv=>arg 2; whnf
 have hexit:=hid hexit
 have hTl:=hTa.lt
 replace hA:=hid hA
 replace hTa:=hid hTa
 go_wp2_with fail
 go_simp
 go_loopw [12] (fun kv wr=>∃ (k:Nat) (av1:Value) (arcs1:List Ac),k≤14∧kv=.int .i64 (k:Int)∧arcs1.length≤k∧Aj wr O syms st sg iv fv av1 ini fin arcs1∧Ta wr T lo n cap∧Below T w wr) (fun kv _=>14-(intOf kv).toNat)
 case atStart=>exact ⟨0,_,[],Nat.zero_le _,rfl,by simp,hA.out,hTa.out,Below.refl _ _⟩
 case round =>
  obtain ⟨k,av1,arcs1,hk,rfl,hla,hA1,hT1,hb1⟩:=hrel
  have y3:=hA1.om.blk.cell (i:=3) rfl
  replace hA1:=hid hA1
  replace hT1:=hid hT1
  replace hb1:=hid hb1
  go_upto_region 13 with fail
  refine aut_test T lo n cap O k st wr y3 hT1.out _ _ _ _ _ _ _ _ _ _ _ _ _ _ _ _ _ _ _ _ _ _ _ _ _ _ _ _ _ _ _ _ _ _ _ _ _ _ _ _ _ _ _ _ _ _ _ _ _ _ _ _ _ _ _ _ _ _ _ _ _ _ _ _ _ _ _ _ _ _ _ _ _ _ _ _ _ _ _ _ _ _ _ _ _ _ _ _ _ _ _ _ _ _ _ _ _ _ _ _ _ _ _ _ _ _ _ _ _ _ _ _ _ _ _ _ _ _ _ _ _ _ _ _ _ _ _ _ _ _ _ _ _ _ _ _ _ _ _ _ _ _ _ _ _ _ _ _ _ _ _ _ _ _ _ _ _ _ _ _ _ _ _ _ _ _ _ _ _ _ _ _ _ _ _ _ _ _ _ _ _ _ _ (fun c a d v w h=>hpan c a d v w h) ?_
  intro Lh Li Lj Lk Ll Lm Ln Lo Lp Lq Lr Lt Lu Lv Lx Ly Lz Ma b w2 hb2 hf2
  have hA2:=hid (hA1.out.fr hf2 (fun k _ h=>h))
  have hT2:=hid (hT1.out.fr hf2 (fun q e=>e.elim))
  have hbw2:=hid (hb1.out.trans (hf2.below (fun q e=>e.elim) (Nat.le_trans (Nat.le_of_lt hTl) hb1.out.size)))
  replace hf2:=hid hf2
  replace hla:=hid hla
  clear y3
  cases b with
  | true =>
   obtain ⟨hst1,hk14⟩:=hb2 rfl
   clear hb2
   go_upto_block 3 with fail
   refine aut_turn T lo n cap PB O syms st kst ksy fw sg iv fv av1 ini fin arcs1 w2 (hP.under hbw2.out hPT) hT2.out hPT hTO ⟨hst1,hst⟩ hsy (by have:=hla.out; omega) hA2.out _ _ _ _ _ _ _ _ _ _ _ _ _ _ _ _ _ _ _ _ _ _ _ _ _ _ _ _ _ _ _ _ _ _ _ _ _ _ _ _ _ _ _ _ _ _ _ _ _ _ _ _ _ _ _ _ _ _ _ _ _ _ _ _ _ _ _ _ _ _ _ _ _ _ _ _ _ _ _ _ _ _ _ _ _ _ _ _ _ _ _ _ _ _ _ _ _ _ _ _ _ _ _ _ _ _ _ _ _ _ _ _ _ _ _ _ _ _ _ _ _ _ _ _ _ _ _ _ _ _ _ _ _ _ _ _ _ _ _ _ _ _ _ _ _ _ _ _ _ _ _ _ _ _ _ _ _ _ _ _ _ _ _ _ _ _ _ _ _ _ _ _ _ _ _ _ _ _ _ _ _ _ (fun c a d v w h=>hpan c a d v w h) ?_
   intro Mb Mc Md Me Mf Mg Mh Mi Mj Ml Mm Mn Mp Mq Mr Ms Mt Mu Mw Mx My Mz Na Nb Nc Nd Ne Ng Nh Ni Nj Nk Nl Nm Nn Np Nq Nr Ns Nt Nu Nv Nw Nx Ny Nz Oa Ob Oc Od Oe Og Oh Oi Oj Ok Ol Oo Op Oq Os Ot Ou Ov Ow Ox Oy Oz Pa Pb Pc Pd Pe Pf Pg Ph Pi Pj Pk av3 arcs3 w3 hA3 hl3 hT3 hb3
   have hA3:=hid hA3
   have hT3:=hid hT3
   have hb3:=hid (hbw2.out.trans hb3)
   have hl3:=hid (Nat.le_trans hl3 (Nat.succ_le_succ hla.out))
   go_wp2_with fail
   go_roundw
   case rel=>exact ⟨k+1,av3,arcs3,by omega,by go_num,hl3.out,hA3.out,hT3.out,hb3.out⟩
   case measure=>simp [intOf]; omega
  | false =>
   clear hb2
   go_wp2_with fail
   exact hexit.out _ _ _ _ _ _ _ _ _ _ _ _ _ _ _ _ _ _ _ _ _ _ _ _ _ _ _ _ _ _ _ _ _ _ _ _ _ _ _ _ _ _ _ _ _ _ _ _ _ _ _ _ _ _ _ _ _ _ _ _ _ _ _ _ _ _ _ _ _ _ _ _ _ _ _ _ _ _ _ _ _ _ _ _ _ _ _ _ _ _ _ _ _ _ _ _ _ _ _ _ _ av1 arcs1 w2 (Nat.le_trans hla.out hk) hA2.out hbw2.out
end
section
open Go.RowKit
set_option maxRecDepth 100000 in
set_option maxHeartbeats 4000000 in
theorem aut_var (T:Nat) (lo:Option Addr) (n cap:Nat) (PB most:Nat) (kst ksy:Int) (fw sg:Bool) (w:World) (hP:Bl PB [.int .i64 kst,.int .i64 ksy,.bool fw,.bool sg,.slice lo n cap] 24 w) (hm:most≤60)
  (c0 c4 c5 c6 c7 c8 c9 Aa Ab Ad Ae Af Ag Ah Ak Al Am An Ao Ap Aq Ar As Av Aw Ax Ay Az Ba Bb Bc Be Bf Bh Bi Bj Bk Bm Bn Bo Bp Bq Br Bs Bt Bu Bv Bw Bx By Bz Ca Cb Cc Cd Ce Cf Cg Ch Ci Cj Ck Cl Cm Cn Co Cp Cq Cr Ct Cu Cv Cw Cx Cy Cz Da Db Dc Dd De Df Dg Dh Di Dj Dk Dl Dn Dp Dq Dr Dt Du Dv Dw Dx Dy Dz Ea Eb Ec Ed Ee Ef Eg Eh Ei Ej Ek El Em En Eo Ep Eq Er Es Et Eu Ev Ew Ex Ey Ez Fa Fb Fc Fd Fe Ff Fg Fh Fi Fj Fk Fm Fn Fo Fp Fq Fs Ft Fu Fv Fw Fx Fy Fz Ga Gb Gc Gd Ge Gf Gg Gh Gi Gj Gk Gl Gm Gn Go Gp Gq Gr Gs Gt Gu Gv Gw Gx Gy Gz Ha Hb Hc Hd He Hf Hg:Value) (Q0:Exit→Act→World→Prop) (hpan:∀ c (a:Act) d v w,Q0 (.panic c) (a.put d v) w→Q0 (.panic c) a w)
  (hexit:∀ (Hh Hi Hj Hk Hl Hm Hn Ho Hp Hq Hr Hs:Value) (G syms st:Nat) (w':World),Om w' G syms st (.slice none 0 0) (.slice none 0 0) (.slice none 0 0) [] [] []→w.heap.size≤G→(1≤syms∧syms≤3)→st≤most→Below w.heap.size w w'→Q0 .normal ⟨#[c0,.int .i64 2,.int .i64 (most:Int),.pointer (some ⟨PB,0,none⟩),c4,c5,c6,c7,.pointer (some ⟨G,0,none⟩),c9,Aa,Ab,Ad,Ae,Af,Ag,Ah,Ak,Al,Am,Hh,Hi,Hj,Hk,Hl,Hm,Hn,Ho,Hp,Hq,Hr,Hs,Bb,Bc,Be,Bf,Bh,Bi,Bj,Bk,Bm,Bn,Bo,Bp,Bq,Br,Bs,Bt,Bu,Bv,Bw,Bx,By,Bz,Ca,Cb,Cc,Cd,Ce,Cf,Cg,Ch,Ci,Cj,Ck,Cl,Cm,Cn,Co,Cp,Cq,Cr,Ct,Cu,Cv,Cw,Cx,Cy,Cz,Da,Db,Dc,Dd,De,Df,Dg,Dh,Di,Dj,Dk,Dl,Dn,Dp,Dq,Dr,Dt,Du,Dv,Dw,Dx,Dy,Dz,Ea,Eb,Ec,Ed,Ee,Ef,Eg,Eh,Ei,Ej,Ek,El,Em,En,Eo,Ep,Eq,Er,Es,Et,Eu,Ev,Ew,Ex,Ey,Ez,Fa,Fb,Fc,Fd,Fe,Ff,Fg,Fh,Fi,Fj,Fk,Fm,Fn,Fo,Fp,Fq,Fs,Ft,Fu,Fv,Fw,Fx,Fy,Fz,Ga,Gb,Gc,Gd,Ge,Gf,Gg,Gh,Gi,Gj,Gk,Gl,Gm,Gn,Go,Gp,Gq,Gr,Gs,Gt,Gu,Gv,Gw,Gx,Gy,Gz,Ha,Hb,Hc,Hd,He,Hf,Hg],[]⟩ w') :
  Code.wp Tryz.prog (wR 2) Q0 ⟨#[c0,.int .i64 2,.int .i64 (most:Int),.pointer (some ⟨PB,0,none⟩),c4,c5,c6,c7,c8,c9,Aa,Ab,Ad,Ae,Af,Ag,Ah,Ak,Al,Am,An,Ao,Ap,Aq,Ar,As,Av,Aw,Ax,Ay,Az,Ba,Bb,Bc,Be,Bf,Bh,Bi,Bj,Bk,Bm,Bn,Bo,Bp,Bq,Br,Bs,Bt,Bu,Bv,Bw,Bx,By,Bz,Ca,Cb,Cc,Cd,Ce,Cf,Cg,Ch,Ci,Cj,Ck,Cl,Cm,Cn,Co,Cp,Cq,Cr,Ct,Cu,Cv,Cw,Cx,Cy,Cz,Da,Db,Dc,Dd,De,Df,Dg,Dh,Di,Dj,Dk,Dl,Dn,Dp,Dq,Dr,Dt,Du,Dv,Dw,Dx,Dy,Dz,Ea,Eb,Ec,Ed,Ee,Ef,Eg,Eh,Ei,Ej,Ek,El,Em,En,Eo,Ep,Eq,Er,Es,Et,Eu,Ev,Ew,Ex,Ey,Ez,Fa,Fb,Fc,Fd,Fe,Ff,Fg,Fh,Fi,Fj,Fk,Fm,Fn,Fo,Fp,Fq,Fs,Ft,Fu,Fv,Fw,Fx,Fy,Fz,Ga,Gb,Gc,Gd,Ge,Gf,Gg,Gh,Gi,Gj,Gk,Gl,Gm,Gn,Go,Gp,Gq,Gr,Gs,Gt,Gu,Gv,Gw,Gx,Gy,Gz,Ha,Hb,Hc,Hd,He,Hf,Hg],[]⟩ w:=by
 conv=>arg 2; whnf
 have hdr:=(Below.refl w.heap.size w).drew
 have y0:=(hP.next hdr).cell (i:=0) rfl
 have y1:=(hP.next hdr).cell (i:=1) rfl
 obtain ⟨s1,hs1⟩:∃ s1:Nat,ksy%3=(s1:Int):=⟨(ksy%3).toNat,by omega⟩
 obtain ⟨s2,hs2⟩:∃ s2:Nat,kst%((most:Int)+1)=(s2:Int):=⟨(kst%((most:Int)+1)).toNat,by have:=Int.emod_nonneg kst (show ((most:Int)+1)≠0 by omega); omega⟩
 have hl1:s1<3:=by omega
 have hl2:s2<most+1:=by have:=Int.emod_lt_of_pos kst (show (0:Int)<(most:Int)+1 by omega); omega
 have h1e:=hid hs1
 have h2e:=hid hs2
 have hwm:IntKind.i64.wrap ((most:Int)+1)=(most:Int)+1:=by rw [IntKind.wrap_i64]; omega
 have hws:IntKind.i64.wrap (1+(s1:Int))=1+(s1:Int):=by rw [IntKind.wrap_i64]; omega
 clear hs1 hs2
 have hS:w.drew.cell? ⟨PB,1,none⟩=some (.int .i64 ksy)∧w.drew.cell? ⟨PB,0,none⟩=some (.int .i64 kst):=⟨y1,y0⟩
 refine wp_region_D (fun w'=>w'.cell? ⟨PB,1,none⟩=some (.int .i64 ksy)∧w'.cell? ⟨PB,0,none⟩=some (.int .i64 kst)) [13] (by kernel_rfl) ?_
 refine wpThp hpan (some 20) (i:=0) rfl rfl hS ?_
 refine wpThp hpan (some 21) (i:=1) rfl rfl hS ?_
 refine wpThp hpan (some 22) (i:=2) rfl rfl hS ?_
 refine wpTh hpan (some 23) (i:=3) (v:=?_) rfl rfl (Or.inl ⟨by rfl,?_⟩) hS ?_
 rotate_left
 ·intro wz hw; refine exec_loadI PB 1 ?_ (.int .i64 ksy) hw.1; go_simp
 refine wpThp hpan (some 26) (i:=6) rfl rfl hS ?_
 refine wpTh hpan (some 27) (i:=7) (v:=?_) rfl rfl (Or.inl ⟨by rfl,?_⟩) hS ?_
 rotate_left
 ·intro wz hw; refine exec_loadI PB 0 ?_ (.int .i64 kst) hw.2; go_simp
 refine wpThp hpan (some 28) (i:=8) rfl rfl hS ?_
 refine wpThp hpan (some 29) (i:=9) rfl rfl hS ?_
 go_simp
 refine wpAnyD_two (i:=4) (j:=12) ?_ rfl rfl (fun KK hKK=>?_) (fun KK hKK=>?_)
 ·kernel_rfl
 ·skip
  go_simp
  go_at_call 19
  refine (within_any ksy 3 (by omega) (by omega) _).mono ?_; rintro e w2 ⟨rfl,rfl⟩
  rw [h1e.out]
  try go_simp
  refine hKK _ _ ⟨fun _=>(hS),?_⟩; clear hKK KK
  refine wpThp hpan (some 25) (i:=5) rfl rfl (hS) ?_
  refine wpAnyD_two (i:=10) (j:=12) ?_ rfl rfl (fun KK hKK=>?_) (fun KK hKK=>?_)
  ·kernel_rfl
  ·skip
   go_simp
   go_at_call 19
   refine (within_any kst ((most:Int)+1) (by omega) (by omega) _).mono ?_; rintro e w2 ⟨rfl,rfl⟩
   rw [h2e.out]
   try go_simp
   refine hKK _ _ ⟨fun _=>((hS)),?_⟩; clear hKK KK
   refine wpThp hpan (some 31) (i:=11) rfl rfl ((hS)) ?_
   refine wpAnyD_one (i:=12) (by kernel_rfl) rfl (fun KK hKK=>?_)
   rw [if_pos (by kernel_rfl)]
   with_reducible refine op_allocB 30 ?_ [.int .i64 0,.slice none 0 0,.int .i64 0,.int .i64 0,.slice none 0 0,.slice none 0 0,.slice none 0 0] ?_ ?_
   ·rfl
   ·exact fun _=>by kernel_rfl
   intro wg G hG hbg hzg
   have hF:=hid (below_chain hdr hbg)
   have hwG:w.heap.size≤G:=hzg
   have hS2:wg.cell? ⟨PB,1,none⟩=some (.int .i64 ksy)∧wg.cell? ⟨PB,0,none⟩=some (.int .i64 kst):=⟨cell_later hbg hS.1,cell_later hbg hS.2⟩
   refine hKK _ _ ⟨fun _=>(hS2),?_⟩; clear hKK KK
   refine wpAnyD_one (i:=13) (by kernel_rfl) rfl (fun KK hKK=>?_)
   rw [if_pos (by rfl)]
   with_reducible refine op_storeB 30 (.tmp 8) (.tmp 31) ?_ G 30 [.int .i64 0,.slice none 0 0,.int .i64 0,.int .i64 0,.slice none 0 0,.slice none 0 0,.slice none 0 0] hG ?_ (auC (1+s1) s2 (.slice none 0 0) (.slice none 0 0) (.slice none 0 0)) ?_ ?_ ?_ ?_ ?_
   ·rfl
   ·go_simp
   ·rfl
   ·show Value.agg _=Value.agg _; rw [show (1+(s1:Int))=((1+s1:Nat):Int) by omega]; try rfl
   ·exact auC_1 _ _ _ _ _ _ _ _ _ _ _
   ·exact Tryz.sizeAuto
   intro wz hGz hfz
   refine hKK _ _ ⟨fun hn=>absurd (by simp) hn,?_⟩; clear hKK KK
   refine wpAnyD_done (by kernel_rfl) ?_ _
   refine hexit _ _ _ _ _ _ _ _ _ _ _ _ G (1+s1) s2 wz ⟨hGz,FO.nil _ _ _ _,FO.nil _ _ _ _,FO.nil _ _ _ _,fun g hg e=>by cases e⟩ hwG (by omega) (by omega) (hF.out.trans (hfz.below (B:=w.heap.size) (fun q e=>by subst e; exact hwG) hF.out.size))
  ·skip
   rw [if_pos (by kernel_rfl)]
   with_reducible refine op_allocB 30 ?_ [.int .i64 0,.slice none 0 0,.int .i64 0,.int .i64 0,.slice none 0 0,.slice none 0 0,.slice none 0 0] ?_ ?_
   ·rfl
   ·exact fun _=>by kernel_rfl
   intro wg G hG hbg hzg
   have hF:=hid (below_chain hdr hbg)
   have hwG:w.heap.size≤G:=hzg
   have hS2:wg.cell? ⟨PB,1,none⟩=some (.int .i64 ksy)∧wg.cell? ⟨PB,0,none⟩=some (.int .i64 kst):=⟨cell_later hbg hS.1,cell_later hbg hS.2⟩
   refine hKK _ _ ⟨fun _=>(hS2),?_⟩; clear hKK KK
   refine wpAnyD_one (i:=10) (by kernel_rfl) rfl (fun KK hKK=>?_)
   go_simp
   go_at_call 19
   refine (within_any kst ((most:Int)+1) (by omega) (by omega) _).mono ?_; rintro e w2 ⟨rfl,rfl⟩
   rw [h2e.out]
   try go_simp
   refine hKK _ _ ⟨fun _=>((hS2)),?_⟩; clear hKK KK
   refine wpThp hpan (some 31) (i:=11) rfl rfl ((hS2)) ?_
   refine wpAnyD_one (i:=13) (by kernel_rfl) rfl (fun KK hKK=>?_)
   rw [if_pos (by rfl)]
   with_reducible refine op_storeB 30 (.tmp 8) (.tmp 31) ?_ G 30 [.int .i64 0,.slice none 0 0,.int .i64 0,.int .i64 0,.slice none 0 0,.slice none 0 0,.slice none 0 0] hG ?_ (auC (1+s1) s2 (.slice none 0 0) (.slice none 0 0) (.slice none 0 0)) ?_ ?_ ?_ ?_ ?_
   ·rfl
   ·go_simp
   ·rfl
   ·show Value.agg _=Value.agg _; rw [show (1+(s1:Int))=((1+s1:Nat):Int) by omega]; try rfl
   ·exact auC_1 _ _ _ _ _ _ _ _ _ _ _
   ·exact Tryz.sizeAuto
   intro wz hGz hfz
   refine hKK _ _ ⟨fun hn=>absurd (by simp) hn,?_⟩; clear hKK KK
   refine wpAnyD_done (by kernel_rfl) ?_ _
   refine hexit _ _ _ _ _ _ _ _ _ _ _ _ G (1+s1) s2 wz ⟨hGz,FO.nil _ _ _ _,FO.nil _ _ _ _,FO.nil _ _ _ _,fun g hg e=>by cases e⟩ hwG (by omega) (by omega) (hF.out.trans (hfz.below (B:=w.heap.size) (fun q e=>by subst e; exact hwG) hF.out.size))
 ·skip
  rw [if_pos (by kernel_rfl)]
  with_reducible refine op_allocB 30 ?_ [.int .i64 0,.slice none 0 0,.int .i64 0,.int .i64 0,.slice none 0 0,.slice none 0 0,.slice none 0 0] ?_ ?_
  ·rfl
  ·exact fun _=>by kernel_rfl
  intro wg G hG hbg hzg
  have hF:=hid (below_chain hdr hbg)
  have hwG:w.heap.size≤G:=hzg
  have hS2:wg.cell? ⟨PB,1,none⟩=some (.int .i64 ksy)∧wg.cell? ⟨PB,0,none⟩=some (.int .i64 kst):=⟨cell_later hbg hS.1,cell_later hbg hS.2⟩
  refine hKK _ _ ⟨fun _=>(hS2),?_⟩; clear hKK KK
  refine wpAnyD_one (i:=4) (by kernel_rfl) rfl (fun KK hKK=>?_)
  go_simp
  go_at_call 19
  refine (within_any ksy 3 (by omega) (by omega) _).mono ?_; rintro e w2 ⟨rfl,rfl⟩
  rw [h1e.out]
  try go_simp
  refine hKK _ _ ⟨fun _=>((hS2)),?_⟩; clear hKK KK
  refine wpThp hpan (some 25) (i:=5) rfl rfl ((hS2)) ?_
  refine wpAnyD_one (i:=10) (by kernel_rfl) rfl (fun KK hKK=>?_)
  go_simp
  go_at_call 19
  refine (within_any kst ((most:Int)+1) (by omega) (by omega) _).mono ?_; rintro e w2 ⟨rfl,rfl⟩
  rw [h2e.out]
  try go_simp
  refine hKK _ _ ⟨fun _=>(((hS2))),?_⟩; clear hKK KK
  refine wpThp hpan (some 31) (i:=11) rfl rfl (((hS2))) ?_
  refine wpAnyD_one (i:=13) (by kernel_rfl) rfl (fun KK hKK=>?_)
  rw [if_pos (by rfl)]
  with_reducible refine op_storeB 30 (.tmp 8) (.tmp 31) ?_ G 30 [.int .i64 0,.slice none 0 0,.int .i64 0,.int .i64 0,.slice none 0 0,.slice none 0 0,.slice none 0 0] hG ?_ (auC (1+s1) s2 (.slice none 0 0) (.slice none 0 0) (.slice none 0 0)) ?_ ?_ ?_ ?_ ?_
  ·rfl
  ·go_simp
  ·rfl
  ·show Value.agg _=Value.agg _; rw [show (1+(s1:Int))=((1+s1:Nat):Int) by omega]; try rfl
  ·exact auC_1 _ _ _ _ _ _ _ _ _ _ _
  ·exact Tryz.sizeAuto
  intro wz hGz hfz
  refine hKK _ _ ⟨fun hn=>absurd (by simp) hn,?_⟩; clear hKK KK
  refine wpAnyD_done (by kernel_rfl) ?_ _
  refine hexit _ _ _ _ _ _ _ _ _ _ _ _ G (1+s1) s2 wz ⟨hGz,FO.nil _ _ _ _,FO.nil _ _ _ _,FO.nil _ _ _ _,fun g hg e=>by cases e⟩ hwG (by omega) (by omega) (hF.out.trans (hfz.below (B:=w.heap.size) (fun q e=>by subst e; exact hwG) hF.out.size))
end
section
open Go.RowKit
structure AuO (most syms:Nat) (sg:Bool) (A:Au):Prop where
 sym:1≤syms∧syms≤3
 st:A.st≤most
 li:A.ini.length=A.st
 lf:A.fin.length=A.st
 bi:∀ v∈A.ini,tc v≤5
 bf:∀ v∈A.fin,tc v≤5
 num:A.arcs.length≤14
 ok:∀ x∈A.arcs,x.1<A.st∧x.2.2.1<A.st∧1≤x.2.1∧x.2.1≤syms∧tc (wt x)≤5
 one:sg=true→∀ q c,A.ini[q]? = some (some c)→q=0
 uq:sg=true→Uq A.arcs
def AuOut (most:Nat) (sg:Bool) (w:World) (e:Ending) (w':World):Prop:=∃ (syms:Nat) (A:Au) (v:Value),AuO most syms sg A∧e=.returned v∧ModOut syms A w v w'
set_option maxRecDepth 100000 in
set_option maxHeartbeats 4000000 in
theorem auto_any (kst ksy:Int) (fw sg:Bool) (lo:Option Addr) (n cap most:Nat) (hm:most≤60) (zs:List Int) (w:World) (hL:Sl w lo n cap (zs.map (.int .i64))) (hlo:∀ b o,lo=some ⟨b,o,none⟩→b<w.heap.size) (hn:n≤9223372036854775807) :
  Calls Tryz.prog 6 #[.agg #[.int .i64 kst,.int .i64 ksy,.bool fw,.bool sg,.slice lo n cap],.int .i64 2,.int .i64 (most:Int)] w (AuOut most sg w):=by
 have hb0:Below w.heap.size w ((w.alloc (.cells #[.int .i64 kst,.int .i64 ksy,.bool fw,.bool sg,.slice lo n cap] 24)).alloc (.cells #[.int .i64 0,.slice none 0 0,.int .i64 0,.int .i64 0,.slice none 0 0,.slice none 0 0,.slice none 0 0] 30)):=below_chain (below_alloc _) (below_alloc _)
 have hP:=(Bl.fresh w [.int .i64 kst,.int .i64 ksy,.bool fw,.bool sg,.slice lo n cap] 24).new (.cells #[.int .i64 0,.slice none 0 0,.int .i64 0,.int .i64 0,.slice none 0 0,.slice none 0 0,.slice none 0 0] 30)
 have hR:=Bl.fresh' (G:=w.heap.size+1) (w.alloc (.cells #[.int .i64 kst,.int .i64 ksy,.bool fw,.bool sg,.slice lo n cap] 24)) [.int .i64 0,.slice none 0 0,.int .i64 0,.int .i64 0,.slice none 0 0,.slice none 0 0,.slice none 0 0] 30 (by simp)
 have hb1:Below w.heap.size w (((w.alloc (.cells #[.int .i64 kst,.int .i64 ksy,.bool fw,.bool sg,.slice lo n cap] 24)).alloc (.cells #[.int .i64 0,.slice none 0 0,.int .i64 0,.int .i64 0,.slice none 0 0,.slice none 0 0,.slice none 0 0] 30)).alloc (.cells #[.slice lo n cap,.int .i64 0] 57)):=below_chain hb0 (below_alloc _)
 have hP1:=hP.new (.cells #[.slice lo n cap,.int .i64 0] 57)
 have hR1:=hid (hR.new (.cells #[.slice lo n cap,.int .i64 0] 57))
 have hT1:=Bl.fresh' (G:=w.heap.size+2) ((w.alloc (.cells #[.int .i64 kst,.int .i64 ksy,.bool fw,.bool sg,.slice lo n cap] 24)).alloc (.cells #[.int .i64 0,.slice none 0 0,.int .i64 0,.int .i64 0,.slice none 0 0,.slice none 0 0,.slice none 0 0] 30)) [.slice lo n cap,.int .i64 0] 57 (by simp)
 have y4:=hP.cell (i:=4) rfl
 go_enter Tryz.func6,Tryz.ntmps6
 go_upto_region 2 with fail
 generalize hW1:(((w.alloc (.cells #[.int .i64 kst,.int .i64 ksy,.bool fw,.bool sg,.slice lo n cap] 24)).alloc (.cells #[.int .i64 0,.slice none 0 0,.int .i64 0,.int .i64 0,.slice none 0 0,.slice none 0 0,.slice none 0 0] 30)).alloc (.cells #[.slice lo n cap,.int .i64 0] 57))=W1 at *
 have hW1s:W1.heap.size=w.heap.size+3:=by rw [←hW1]; simp
 have hTa1:Ta W1 (w.heap.size+2) lo n cap:=⟨⟨0,Nat.zero_le _,hT1⟩,⟨zs,hL.next hb1,fun b o e=>by have:=hlo b o e; omega⟩,hn⟩
 obtain ⟨PB,hPB⟩:∃ PB,w.heap.size=PB:=⟨_,rfl⟩
 obtain ⟨RB,hRB⟩:∃ RB,w.heap.size+1=RB:=⟨_,rfl⟩
 obtain ⟨T,hT⟩:∃ T,w.heap.size+2=T:=⟨_,rfl⟩
 have hP1:Hid (Bl PB [.int .i64 kst,.int .i64 ksy,.bool fw,.bool sg,.slice lo n cap] 24 W1):=hid (by rw [←hPB]; exact hP1)
 have hR1:Hid (Bl RB [.int .i64 0,.slice none 0 0,.int .i64 0,.int .i64 0,.slice none 0 0,.slice none 0 0,.slice none 0 0] 30 W1):=hid (by rw [←hRB]; exact hR1.out)
 have hTa1:Hid (Ta W1 T lo n cap):=hid (by rw [←hT]; exact hTa1)
 have hPT:PB<T:=by omega
 have hRT:RB<T:=by omega
 have hTW:T<W1.heap.size:=by omega
 have hwR:w.heap.size≤RB:=by omega
 rw [show w.heap.size+1+1=T from hT,hRB,hPB]
 have hw0:=hid hPB
 have hb1:=hid hb1
 clear hW1 hPB hRB hT hP hR hb0 hT1 y4 hW1s
 refine aut_var T lo n cap PB most kst ksy fw sg W1 hP1.out hm _ _ _ _ _ _ _ _ _ _ _ _ _ _ _ _ _ _ _ _ _ _ _ _ _ _ _ _ _ _ _ _ _ _ _ _ _ _ _ _ _ _ _ _ _ _ _ _ _ _ _ _ _ _ _ _ _ _ _ _ _ _ _ _ _ _ _ _ _ _ _ _ _ _ _ _ _ _ _ _ _ _ _ _ _ _ _ _ _ _ _ _ _ _ _ _ _ _ _ _ _ _ _ _ _ _ _ _ _ _ _ _ _ _ _ _ _ _ _ _ _ _ _ _ _ _ _ _ _ _ _ _ _ _ _ _ _ _ _ _ _ _ _ _ _ _ _ _ _ _ _ _ _ _ _ _ _ _ _ _ _ _ _ _ _ _ _ _ _ _ _ _ _ _ _ _ _ _ _ _ _ _ _ (fun _ _ d _ _ h=>by cases d<;>exact h) ?_
 intro Aa Ab Ad Ae Af Ag Ah Ak Al Am An Ao O syms st w2 hO2 hWO hsy hst hb2
 have hP2:=hid (hP1.out.next hb2)
 have hR2:=hid (hR1.out.next hb2)
 have hT2:=hid (hTa1.out.next hb2)
 have hbw2:=hid (below_chain hb1.out hb2)
 have hTO:T<O:=by omega
 have hA2:=hid (show Ai w2 O syms st 0 sg (.slice none 0 0) (.slice none 0 0) [] [] from ⟨hO2,rfl,rfl,fun v hv=>(by cases hv),fun v hv=>(by cases hv),fun _ q c hq=>by simp at hq⟩)
 replace hb2:=hid hb2
 clear hO2
 go_upto_block 0 with fail
 refine aut_sts T lo n cap PB O syms st kst ksy fw sg w2 hP2.out hT2.out hPT hTO (by omega) hA2.out _ _ _ _ _ _ _ _ _ _ _ _ _ _ _ _ _ _ _ _ _ _ _ _ _ _ _ _ _ _ _ _ _ _ _ _ _ _ _ _ _ _ _ _ _ _ _ _ _ _ _ _ _ _ _ _ _ _ _ _ _ _ _ _ _ _ _ _ _ _ _ _ _ _ _ _ _ _ _ _ _ _ _ _ _ _ _ _ _ _ _ _ _ _ _ _ _ _ _ _ _ _ _ _ _ _ _ _ _ _ _ _ _ _ _ _ _ _ _ _ _ _ _ _ _ _ _ _ _ _ _ _ _ _ _ _ _ _ _ _ _ _ _ _ _ _ _ _ _ _ _ _ _ _ _ _ _ _ _ _ _ _ _ _ _ _ _ _ _ _ _ _ _ _ _ _ _ _ _ _ _ (fun _ _ d _ _ h=>by cases d<;>exact h) ?_
 intro x9 Ap Aq Ar As Av Aw Ax Ay Az Ba Bb Bc Be Bf Bh Bi Bj Bk Bm Bn Bo Bp Bq Br Bs Bt Bu Bv Bw Bx By Bz Ca Cb Cc Cd Ce Cf Cg Ch Ci Cj Ck Cl Cm Cn Co Cp Cq Cr Ct Cu Cv Cw Cx Cy Cz iv fv ini fin w3 hA3 hT3 hb3
 have hP3:=hid (hP2.out.under hb3 hPT)
 have hR3:=hid (hR2.out.under hb3 hRT)
 have hbw3:=hid (hbw2.out.trans (hb3.mono (by omega)))
 have hJ3:=hid (show Aj w3 O syms st sg iv fv (.slice none 0 0) ini fin [] from ⟨hA3.om,fun x hx=>(by cases hx),fun _ x hx=>by cases hx⟩)
 replace hA3:=hid hA3
 replace hT3:=hid hT3
 replace hb3:=hid hb3
 go_upto_block 2 with fail
 refine aut_all T lo n cap PB O syms st kst ksy fw sg iv fv ini fin w3 hP3.out hT3.out hPT hTO (by omega) ⟨hsy.1,by omega⟩ hJ3.out _ _ _ _ _ _ _ _ _ _ _ _ _ _ _ _ _ _ _ _ _ _ _ _ _ _ _ _ _ _ _ _ _ _ _ _ _ _ _ _ _ _ _ _ _ _ _ _ _ _ _ _ _ _ _ _ _ _ _ _ _ _ _ _ _ _ _ _ _ _ _ _ _ _ _ _ _ _ _ _ _ _ _ _ _ _ _ _ _ _ _ _ _ _ _ _ _ _ _ _ _ _ _ _ _ _ _ _ _ _ _ _ _ _ _ _ _ _ _ _ _ _ _ _ _ _ _ _ _ _ _ _ _ _ _ _ _ _ _ _ _ _ _ _ _ _ _ _ _ _ _ _ _ _ _ _ _ _ _ _ _ _ _ _ _ _ _ _ _ _ _ _ _ _ _ _ _ _ _ _ _ (fun _ _ d _ _ h=>by cases d<;>exact h) ?_
 intro Da Db Dc Dd De Df Dg Dh Di Dj Dk Dl Dn Dp Dq Dr Dt Du Dv Dw Dx Dy Dz Ea Eb Ec Ed Ee Ef Eg Eh Ei Ej Ek El Em En Eo Ep Eq Er Es Et Eu Ev Ew Ex Ey Ez Fa Fb Fc Fd Fe Ff Fg Fh Fi Fj Fk Fm Fn Fo Fp Fq Fs Ft Fu Fv Fw Fx Fy Fz Ga Gb Gc Gd Ge Gf Gg Gh Gi Gj Gk Gl Gm Gn Go Gp Gq Gr Gs Gt Gu Gv Gw Gx Gy Gz Ha Hb av arcs w4 hla hJ4 hb4
 have hR4:=hR3.out.under hb4 hRT
 have hbw4:=hid (hbw3.out.trans (hb4.mono (by omega)))
 obtain ⟨⟨hO4,hi4,hf4,ha4,hne4⟩,hok4,huq4⟩:=hJ4
 obtain ⟨ai,ki,hiv⟩:=hi4.form
 obtain ⟨af,kf,hfv⟩:=hf4.form
 obtain ⟨aa,ka,hav⟩:=ha4.form
 subst hiv hfv hav
 simp only [List.length_map] at hO4 hi4 hf4 ha4
 rw [hA3.out.li] at hO4 hi4
 rw [hA3.out.lf] at hO4 hf4
 have hc4:=hO4.cs
 have hMo:MoF w4 (O+1) ⟨st,ini,fin,arcs⟩ ai ki af kf aa arcs.length ka:=⟨hi4,hf4,ha4⟩
 replace hMo:=hid hMo
 replace hb4:=hid hb4
 go_wp2_with (first | ((with_reducible refine wp_loadAuto rfl _ rfl O 0 ?_ (auC syms st (.slice ai st ki) (.slice af st kf) (.slice aa arcs.length ka)) rfl hc4 ?_); exact rfl) | ((with_reducible refine wp_storeBAuto rfl _ _ rfl RB 30 _ hR4 ?_ (auC syms st (.slice ai st ki) (.slice af st kf) (.slice aa arcs.length ka)) rfl rfl ?_ (auC_1 _ _ _ _ _ _ _ _ _ _ _) ?_); exact rfl; exact rfl; intro w5 hR5 hfr5))
 have hb5:=hbw4.out.trans (hfr5.below (B:=w.heap.size) (fun k e=>by omega) hbw4.out.size)
 exact bodyPost_ret (results_cellC1 rfl _ _ RB (auC syms st (.slice ai st ki) (.slice af st kf) (.slice aa arcs.length ka)) _ rfl hR5.cs Tryz.underlying30 rfl Tryz.sizeAuto) rfl ⟨syms,⟨st,ini,fin,arcs⟩,_,⟨hsy,hst,hA3.out.li,hA3.out.lf,hA3.out.bi,hA3.out.bf,hla,hok4,hA3.out.one,huq4⟩,rfl,ai,ki,af,kf,aa,arcs.length,ka,rfl,(hMo.out.fr hfr5 (by omega)).mono (by omega),hb5⟩
end
end Go.Proofs.YtnapapijhhldpaaGreatDoor

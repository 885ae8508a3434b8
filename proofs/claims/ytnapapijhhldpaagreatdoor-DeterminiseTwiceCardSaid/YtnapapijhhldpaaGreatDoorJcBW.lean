/-
  Texts joined by program: Ttd. No condition of its own.
-/
import Derived.Test.YtnapapijhhldpaaGreatDoorJcBV
namespace Go.Proofs.YtnapapijhhldpaaGreatDoor
set_option linter.unusedSimpArgs false
set_option linter.unusedVariables false
section
open Go.RowKit
set_option maxRecDepth 100000 in
set_option maxHeartbeats 4000000 in
theorem aut_test (T:Nat) (lo:Option Addr) (n cap:Nat) (O i st:Nat) (w:World) (hO:w.cell? ⟨O,3,none⟩=some (.int .i64 (st:Int))) (hTa:Ta w T lo n cap)
  (c0 c1 c2 c3 c4 c5 c6 c9 Aa Ab Ad Ae Af Ag Ah Ak Al Am An Ao Ap Aq Ar As Av Aw Ax Ay Az Ba Bb Bc Be Bf Bh Bi Bj Bk Bm Bn Bo Bp Bq Br Bs Bt Bu Bv Bw Bx By Bz Ca Cb Cc Cd Ce Cf Cg Ch Ci Cj Ck Cl Cm Cn Co Cp Cq Cr Ct Cu Cv Cw Cx Cy Cz Da Db Dc Dd De Df Dg Dh Di Dj Dk Dl Dn Dp Dq Dr Dt Du Dv Dw Dx Dy Dz Ea Eb Ec Ed Ee Ef Eg Eh Ei Ej Ek El Em En Eo Ep Eq Er Es Et Eu Ev Ew Ex Ey Ez Fa Fb Fc Fd Fe Ff Fg Fh Fi Fj Fk Fm Fn Fo Fp Fq Fs Ft Fu Fv Fw Fx Fy Fz Ga Gb Gc Gd Ge Gf Gg Gh Gi Gj Gk Gl Gm Gn Go Gp Gq Gr Gs Gt Gu Gv Gw Gx Gy Gz Ha Hb Hc Hd He Hf:Value) (Q0:Exit→Act→World→Prop) (hpan:∀ c (a:Act) d v w,Q0 (.panic c) (a.put d v) w→Q0 (.panic c) a w)
  (hexit:∀ (Hg Hh Hi Hj Hk Hl Hm Hn Ho Hp Hq Hr Hs Ht Hu Hv Hw Hx:Value) (b:Bool) (w':World),(b=true→0<st∧i<14)→Fr (fun _=>False) w w'→Q0 .normal ⟨#[c0,c1,c2,c3,c4,c5,c6,.pointer (some ⟨T,0,none⟩),.pointer (some ⟨O,0,none⟩),c9,Aa,Ab,.int .i64 (i:Int),Ad,Ae,Af,Ag,Ah,Ak,Al,Am,An,Ao,Ap,Aq,Ar,As,Av,Aw,Ax,Ay,Az,Ba,Bb,Bc,Be,Bf,Bh,Bi,Bj,Bk,Bm,Bn,Bo,Bp,Bq,Br,Bs,Bt,Bu,Bv,Bw,Bx,By,Bz,Ca,Cb,Cc,Cd,Ce,Cf,Cg,Ch,Ci,Cj,Ck,Cl,Cm,Cn,Co,Cp,Cq,Cr,Ct,Cu,Cv,Cw,Cx,Cy,Cz,Da,Db,Dc,Dd,De,Df,Dg,Hg,Hh,Hi,Hj,Hk,Hl,Hm,Hn,Ho,Hp,Hq,Hr,Hs,Ht,Hu,Hv,Hw,Hx,.bool b,Ed,Ee,Ef,Eg,Eh,Ei,Ej,Ek,El,Em,En,Eo,Ep,Eq,Er,Es,Et,Eu,Ev,Ew,Ex,Ey,Ez,Fa,Fb,Fc,Fd,Fe,Ff,Fg,Fh,Fi,Fj,Fk,Fm,Fn,Fo,Fp,Fq,Fs,Ft,Fu,Fv,Fw,Fx,Fy,Fz,Ga,Gb,Gc,Gd,Ge,Gf,Gg,Gh,Gi,Gj,Gk,Gl,Gm,Gn,Go,Gp,Gq,Gr,Gs,Gt,Gu,Gv,Gw,Gx,Gy,Gz,Ha,Hb,Hc,Hd,He,Hf],[]⟩ w') :
  Code.wp Tryz.prog (wR 13) Q0 ⟨#[c0,c1,c2,c3,c4,c5,c6,.pointer (some ⟨T,0,none⟩),.pointer (some ⟨O,0,none⟩),c9,Aa,Ab,.int .i64 (i:Int),Ad,Ae,Af,Ag,Ah,Ak,Al,Am,An,Ao,Ap,Aq,Ar,As,Av,Aw,Ax,Ay,Az,Ba,Bb,Bc,Be,Bf,Bh,Bi,Bj,Bk,Bm,Bn,Bo,Bp,Bq,Br,Bs,Bt,Bu,Bv,Bw,Bx,By,Bz,Ca,Cb,Cc,Cd,Ce,Cf,Cg,Ch,Ci,Cj,Ck,Cl,Cm,Cn,Co,Cp,Cq,Cr,Ct,Cu,Cv,Cw,Cx,Cy,Cz,Da,Db,Dc,Dd,De,Df,Dg,Dh,Di,Dj,Dk,Dl,Dn,Dp,Dq,Dr,Dt,Du,Dv,Dw,Dx,Dy,Dz,Ea,Eb,Ec,Ed,Ee,Ef,Eg,Eh,Ei,Ej,Ek,El,Em,En,Eo,Ep,Eq,Er,Es,Et,Eu,Ev,Ew,Ex,Ey,Ez,Fa,Fb,Fc,Fd,Fe,Ff,Fg,Fh,Fi,Fj,Fk,Fm,Fn,Fo,Fp,Fq,Fs,Ft,Fu,Fv,Fw,Fx,Fy,Fz,Ga,Gb,Gc,Gd,Ge,Gf,Gg,Gh,Gi,Gj,Gk,Gl,Gm,Gn,Go,Gp,Gq,Gr,Gs,Gt,Gu,Gv,Gw,Gx,Gy,Gz,Ha,Hb,Hc,Hd,He,Hf],[]⟩ w:=by
 conv=>arg 2; whnf
 obtain ⟨a,ha,hTp⟩:=hTa.ex
 have x0:=hTp.c0
 have x1:=hTp.c1
 have hbig:=hTa.big
 have hexit:=hid hexit
 clear hTp hTa
 by_cases h1:a<n
 ·have i1:(a:Int)<(n:Int):=by omega
  by_cases h2:i<14
  ·have i2:(i:Int)<14:=by omega
   by_cases h3:0<st
   ·have i3:(0:Int)<(st:Int):=by omega
    go_quiet (fail)
    exact hexit.out _ _ _ _ _ _ _ _ _ _ _ _ _ _ _ _ _ _ true _ (fun _=>⟨h3,h2⟩) ((Fr.refl _ w).drewN _)
   ·obtain rfl:st=0:=by omega
    have i3:¬ (0:Int)<((0:Nat):Int):=by omega
    go_quiet (fail)
    exact hexit.out _ _ _ _ _ _ _ _ _ _ _ _ _ _ _ _ _ _ false _ (fun h=>by cases h) ((Fr.refl _ w).drewN _)
  ·have i2:¬ (i:Int)<14:=by omega
   go_quiet (fail)
   exact hexit.out _ _ _ _ _ _ _ _ _ _ _ _ _ _ _ _ _ _ false _ (fun h=>by cases h) ((Fr.refl _ w).drewN _)
 ·have i1:¬ (a:Int)<(n:Int):=by omega
  go_quiet (fail)
  exact hexit.out _ _ _ _ _ _ _ _ _ _ _ _ _ _ _ _ _ _ false _ (fun h=>by cases h) ((Fr.refl _ w).drewN _)
theorem acC_one1 (x:Ac):∀ u∈acC x,u.oneCell'=true:=by have h:=acC_one [x]; simpa using h
set_option maxRecDepth 100000 in
set_option maxHeartbeats 4000000 in
theorem aut_new (T:Nat) (lo:Option Addr) (n cap:Nat) (O syms st:Nat) (w:World) (hO:w.cell? ⟨O,3,none⟩=some (.int .i64 (st:Int))∧w.cell? ⟨O,2,none⟩=some (.int .i64 (syms:Int))) (hst:1≤st∧st≤64) (hsy:1≤syms∧syms≤32) (hTa:Ta w T lo n cap) (hTO:T<O)
  (c0 c2 c3 c4 c5 c6 c9 Aa Ab Ad Ae Af Ag Ah Ak Al Am An Ao Ap Aq Ar As Av Aw Ax Ay Az Ba Bb Bc Be Bf Bh Bi Bj Bk Bm Bn Bo Bp Bq Br Bs Bt Bu Bv Bw Bx By Bz Ca Cb Cc Cd Ce Cf Cg Ch Ci Cj Ck Cl Cm Cn Co Cp Cq Cr Ct Cu Cv Cw Cx Cy Cz Da Db Dc Dd De Df Dg Dh Di Dj Dk Dl Dn Dp Dq Dr Dt Du Dv Dw Dx Dy Dz Ea Eb Ec Ed Ee Ef Eg Eh Ei Ej Ek El Em En Eo Ep Eq Er Es Et Eu Ev Ew Ex Ey Ez Fa Fb Fc Fd Fe Ff Fg Fh Fi Fj Fk Fm Fn Fo Fp Fq Fs Ft Fu Fv Fw Fx Fy Fz Ga Gb Gc Gd Ge Gf Gg Gh Gi Gj Gk Gl Gm Gn Go Gp Gq Gr Gs Gt Gu Gv Gw Gx Gy Gz Ha Hb Hc Hd He Hf Hg:Value) (Q0:Exit→Act→World→Prop) (hpan:∀ c (a:Act) d v w,Q0 (.panic c) (a.put d v) w→Q0 (.panic c) a w)
  (hexit:∀ (Hh Hi Hj Hk Hl Hm Hn Ho Hp Hq Hr Hs Ht Hu Hv Hw Hx:Value) (G:Nat) (x:Ac) (w':World),Bl G (acC x) 54 w'→w.heap.size≤G→x.1<st→x.2.2.1<st→1≤x.2.1→x.2.1≤syms→tc (wt x)≤5→Ta w' T lo n cap→Fr (fun k=>k=T∨w.heap.size≤k) w w'→Q0 .normal ⟨#[c0,.int .i64 2,c2,c3,c4,c5,c6,.pointer (some ⟨T,0,none⟩),.pointer (some ⟨O,0,none⟩),c9,Aa,Ab,Ad,.pointer (some ⟨G,0,none⟩),Af,Ag,Ah,Ak,Al,Am,An,Ao,Ap,Aq,Ar,As,Av,Aw,Ax,Ay,Az,Ba,Bb,Bc,Be,Bf,Bh,Bi,Bj,Bk,Bm,Bn,Bo,Bp,Bq,Br,Bs,Bt,Bu,Bv,Bw,Bx,By,Bz,Ca,Cb,Cc,Cd,Ce,Cf,Cg,Ch,Ci,Cj,Ck,Cl,Cm,Cn,Co,Cp,Cq,Cr,Ct,Cu,Cv,Cw,Cx,Cy,Cz,Da,Db,Dc,Dd,De,Df,Dg,Dh,Di,Dj,Dk,Dl,Dn,Dp,Dq,Dr,Dt,Du,Dv,Dw,Dx,Dy,Dz,Ea,Eb,Ec,Ed,Ee,Ef,Hh,Hi,Hj,Hk,Hl,Hm,Hn,Ho,Hp,Hq,Hr,Hs,Ht,Hu,Hv,Hw,Hx,Ex,Ey,Ez,Fa,Fb,Fc,Fd,Fe,Ff,Fg,Fh,Fi,Fj,Fk,Fm,Fn,Fo,Fp,Fq,Fs,Ft,Fu,Fv,Fw,Fx,Fy,Fz,Ga,Gb,Gc,Gd,Ge,Gf,Gg,Gh,Gi,Gj,Gk,Gl,Gm,Gn,Go,Gp,Gq,Gr,Gs,Gt,Gu,Gv,Gw,Gx,Gy,Gz,Ha,Hb,Hc,Hd,He,Hf,Hg],[]⟩ w') :
  Code.wp Tryz.prog (wR 15) Q0 ⟨#[c0,.int .i64 2,c2,c3,c4,c5,c6,.pointer (some ⟨T,0,none⟩),.pointer (some ⟨O,0,none⟩),c9,Aa,Ab,Ad,Ae,Af,Ag,Ah,Ak,Al,Am,An,Ao,Ap,Aq,Ar,As,Av,Aw,Ax,Ay,Az,Ba,Bb,Bc,Be,Bf,Bh,Bi,Bj,Bk,Bm,Bn,Bo,Bp,Bq,Br,Bs,Bt,Bu,Bv,Bw,Bx,By,Bz,Ca,Cb,Cc,Cd,Ce,Cf,Cg,Ch,Ci,Cj,Ck,Cl,Cm,Cn,Co,Cp,Cq,Cr,Ct,Cu,Cv,Cw,Cx,Cy,Cz,Da,Db,Dc,Dd,De,Df,Dg,Dh,Di,Dj,Dk,Dl,Dn,Dp,Dq,Dr,Dt,Du,Dv,Dw,Dx,Dy,Dz,Ea,Eb,Ec,Ed,Ee,Ef,Eg,Eh,Ei,Ej,Ek,El,Em,En,Eo,Ep,Eq,Er,Es,Et,Eu,Ev,Ew,Ex,Ey,Ez,Fa,Fb,Fc,Fd,Fe,Ff,Fg,Fh,Fi,Fj,Fk,Fm,Fn,Fo,Fp,Fq,Fs,Ft,Fu,Fv,Fw,Fx,Fy,Fz,Ga,Gb,Gc,Gd,Ge,Gf,Gg,Gh,Gi,Gj,Gk,Gl,Gm,Gn,Go,Gp,Gq,Gr,Gs,Gt,Gu,Gv,Gw,Gx,Gy,Gz,Ha,Hb,Hc,Hd,He,Hf,Hg],[]⟩ w:=by
 conv=>arg 2; whnf
 have hTl:=hTa.lt
 have hdr:=(Below.refl w.heap.size w).drew
 have hT:=hTa.next hdr
 have hO3:=cell_later hdr hO.1
 have hO2:=cell_later hdr hO.2
 have hF:Fr (fun q=>q=T) w w.drew:=below_fr hdr _
 have hsz:w.heap.size≤w.drew.heap.size:=hdr.size
 have hS:w.drew.cell? ⟨O,3,none⟩=some (.int .i64 (st:Int))∧w.drew.cell? ⟨O,2,none⟩=some (.int .i64 (syms:Int)):=⟨hO3,hO2⟩
 have hOl:=World.block_lt_of_cell? w _ hO.1
 clear hdr
 refine wp_region_D (fun w'=>w'.cell? ⟨O,3,none⟩=some (.int .i64 (st:Int))∧w'.cell? ⟨O,2,none⟩=some (.int .i64 (syms:Int))) [18] (by kernel_rfl) ?_
 refine wpThp hpan (some 108) (i:=0) rfl rfl hS ?_
 refine wpThp hpan (some 109) (i:=1) rfl rfl hS ?_
 refine wpTh hpan (some 110) (i:=2) (v:=?_) rfl rfl (Or.inl ⟨by rfl,?_⟩) hS ?_
 rotate_left
 ·intro wz hw; refine exec_loadI O 3 ?_ (.int .i64 (st:Int)) hw.1; go_simp
 refine wpThp hpan (some 112) (i:=4) rfl rfl hS ?_
 refine wpThp hpan (some 113) (i:=5) rfl rfl hS ?_
 refine wpTh hpan (some 114) (i:=6) (v:=?_) rfl rfl (Or.inl ⟨by rfl,?_⟩) hS ?_
 rotate_left
 ·intro wz hw; refine exec_loadI O 2 ?_ (.int .i64 (syms:Int)) hw.2; go_simp
 refine wpThp hpan (some 117) (i:=9) rfl rfl hS ?_
 refine wpThp hpan (some 118) (i:=10) rfl rfl hS ?_
 refine wpTh hpan (some 119) (i:=11) (v:=?_) rfl rfl (Or.inl ⟨by rfl,?_⟩) hS ?_
 rotate_left
 ·intro wz hw; refine exec_loadI O 3 ?_ (.int .i64 (st:Int)) hw.1; go_simp
 refine wpThp hpan (some 121) (i:=13) rfl rfl hS ?_
 refine wpThp hpan (some 122) (i:=14) rfl rfl hS ?_
 go_simp
 refine wpAnyD_two (i:=3) (j:=17) ?_ rfl rfl (fun KK hKK=>?_) (fun KK hKK=>?_)
 ·kernel_rfl
 ·skip
  go_simp
  go_at_call 21
  refine (tnext_any T lo n cap (st:Int) (by omega) (by omega) _ hT).mono ?_; rintro e wa ⟨f,rfl,hf,hT2,hf2⟩
  replace hT:=hT2
  replace hF:=hF.trans hf2
  have hO3:wa.cell? ⟨O,3,none⟩=some (.int .i64 (st:Int)):=hf2.cell hO3 (fun e=>by omega)
  have hO2:wa.cell? ⟨O,2,none⟩=some (.int .i64 (syms:Int)):=hf2.cell hO2 (fun e=>by omega)
  replace hsz:=Nat.le_trans hsz hf2.size
  clear hT2 hf2
  try go_simp
  refine hKK _ _ ⟨fun _=>(⟨hO3,hO2⟩),?_⟩; clear hKK KK
  refine wpAnyD_two (i:=7) (j:=17) ?_ rfl rfl (fun KK hKK=>?_) (fun KK hKK=>?_)
  ·kernel_rfl
  ·skip
   go_simp
   go_at_call 21
   refine (tnext_any T lo n cap (syms:Int) (by omega) (by omega) _ hT).mono ?_; rintro e wb ⟨l,rfl,hl,hT2,hf2⟩
   replace hT:=hT2
   replace hF:=hF.trans hf2
   have hO3:wb.cell? ⟨O,3,none⟩=some (.int .i64 (st:Int)):=hf2.cell hO3 (fun e=>by omega)
   have hO2:wb.cell? ⟨O,2,none⟩=some (.int .i64 (syms:Int)):=hf2.cell hO2 (fun e=>by omega)
   have hwl:IntKind.i64.wrap (1+(l:Int))=((1+l:Nat):Int):=by rw [IntKind.wrap_i64]; omega
   replace hsz:=Nat.le_trans hsz hf2.size
   clear hT2 hf2
   try go_simp
   refine hKK _ _ ⟨fun _=>(⟨hO3,hO2⟩),?_⟩; clear hKK KK
   refine wpThp hpan (some 116) (i:=8) rfl rfl (⟨hO3,hO2⟩) ?_
   refine wpAnyD_two (i:=12) (j:=17) ?_ rfl rfl (fun KK hKK=>?_) (fun KK hKK=>?_)
   ·kernel_rfl
   ·skip
    go_simp
    go_at_call 21
    refine (tnext_any T lo n cap (st:Int) (by omega) (by omega) _ hT).mono ?_; rintro e wc ⟨t,rfl,ht,hT2,hf2⟩
    replace hT:=hT2
    replace hF:=hF.trans hf2
    have hO3:wc.cell? ⟨O,3,none⟩=some (.int .i64 (st:Int)):=hf2.cell hO3 (fun e=>by omega)
    have hO2:wc.cell? ⟨O,2,none⟩=some (.int .i64 (syms:Int)):=hf2.cell hO2 (fun e=>by omega)
    replace hsz:=Nat.le_trans hsz hf2.size
    clear hT2 hf2
    try go_simp
    refine hKK _ _ ⟨fun _=>(⟨hO3,hO2⟩),?_⟩; clear hKK KK
    refine wpAnyD_two (i:=15) (j:=17) ?_ rfl rfl (fun KK hKK=>?_) (fun KK hKK=>?_)
    ·kernel_rfl
    ·skip
     go_simp
     go_at_call 20
     refine (tweight_any T lo n cap _ hT).mono ?_; rintro e wd ⟨v,rfl,hv,hT2,hf2⟩
     replace hT:=hT2
     replace hF:=hF.trans hf2
     have hO3:wd.cell? ⟨O,3,none⟩=some (.int .i64 (st:Int)):=hf2.cell hO3 (fun e=>by omega)
     have hO2:wd.cell? ⟨O,2,none⟩=some (.int .i64 (syms:Int)):=hf2.cell hO2 (fun e=>by omega)
     replace hsz:=Nat.le_trans hsz hf2.size
     clear hT2 hf2
     try go_simp
     refine hKK _ _ ⟨fun _=>(⟨hO3,hO2⟩),?_⟩; clear hKK KK
     refine wpThp hpan (some 124) (i:=16) rfl rfl (⟨hO3,hO2⟩) ?_
     refine wpAnyD_one (i:=17) (by kernel_rfl) rfl (fun KK hKK=>?_)
     rw [if_pos (by kernel_rfl)]
     with_reducible refine op_allocB 54 ?_ [.int .i64 0,.int .i64 0,.int .i64 0,.bool false,.slice none 0 0,.slice none 0 0,.int .i64 0,.bool false,.int .u64 0,.slice none 0 0,.slice none 0 0] ?_ ?_
     ·rfl
     ·exact fun _=>by kernel_rfl
     intro wg G hG hbg hzg
     replace hT:=hT.next hbg
     replace hF:=hF.trans (below_fr hbg _)
     have hO3:=cell_later hbg hO3
     have hO2:=cell_later hbg hO2
     have hwG:w.heap.size≤G:=Nat.le_trans hsz hzg
     replace hsz:=Nat.le_trans hsz hbg.size
     clear hbg hzg
     refine hKK _ _ ⟨fun _=>(⟨hO3,hO2⟩),?_⟩; clear hKK KK
     refine wpAnyD_one (i:=18) (by kernel_rfl) rfl (fun KK hKK=>?_)
     rw [if_pos (by rfl)]
     with_reducible refine op_storeB 54 (.tmp 13) (.tmp 124) ?_ G 54 [.int .i64 0,.int .i64 0,.int .i64 0,.bool false,.slice none 0 0,.slice none 0 0,.int .i64 0,.bool false,.int .u64 0,.slice none 0 0,.slice none 0 0] hG ?_ (acC (f,1+l,t,v)) ?_ ?_ ?_ ?_ ?_
     ·rfl
     ·go_simp
     ·rfl
     ·show Value.agg _=Value.agg _; rw [show (1+(l:Int))=((1+l:Nat):Int) by omega]; try rfl
     ·exact acC_one1 _
     ·exact Tryz.sizeArc
     intro wz hGz hfz
     refine hKK _ _ ⟨fun hn=>absurd (by simp) hn,?_⟩; clear hKK KK
     refine wpAnyD_done (by kernel_rfl) ?_ _
     refine hexit _ _ _ _ _ _ _ _ _ _ _ _ _ _ _ _ _ G (f,1+l,t,v) wz hGz hwG (by simp only; omega) (by simp only; omega) (by simp only; omega) (by simp only; omega) hv (hT.fr hfz (fun q e=>by subst e; omega)) ((hF.mono fun q _ h=>Or.inl h).trans (hfz.mono fun q _ h=>Or.inr (by subst h; exact hwG)))
    ·skip
     rw [if_pos (by kernel_rfl)]
     with_reducible refine op_allocB 54 ?_ [.int .i64 0,.int .i64 0,.int .i64 0,.bool false,.slice none 0 0,.slice none 0 0,.int .i64 0,.bool false,.int .u64 0,.slice none 0 0,.slice none 0 0] ?_ ?_
     ·rfl
     ·exact fun _=>by kernel_rfl
     intro wg G hG hbg hzg
     replace hT:=hT.next hbg
     replace hF:=hF.trans (below_fr hbg _)
     have hO3:=cell_later hbg hO3
     have hO2:=cell_later hbg hO2
     have hwG:w.heap.size≤G:=Nat.le_trans hsz hzg
     replace hsz:=Nat.le_trans hsz hbg.size
     clear hbg hzg
     refine hKK _ _ ⟨fun _=>(⟨hO3,hO2⟩),?_⟩; clear hKK KK
     refine wpAnyD_one (i:=15) (by kernel_rfl) rfl (fun KK hKK=>?_)
     go_simp
     go_at_call 20
     refine (tweight_any T lo n cap _ hT).mono ?_; rintro e wd ⟨v,rfl,hv,hT2,hf2⟩
     replace hT:=hT2
     replace hF:=hF.trans hf2
     have hO3:wd.cell? ⟨O,3,none⟩=some (.int .i64 (st:Int)):=hf2.cell hO3 (fun e=>by omega)
     have hO2:wd.cell? ⟨O,2,none⟩=some (.int .i64 (syms:Int)):=hf2.cell hO2 (fun e=>by omega)
     replace hG:=hG.fr hf2 (by omega)
     replace hsz:=Nat.le_trans hsz hf2.size
     clear hT2 hf2
     try go_simp
     refine hKK _ _ ⟨fun _=>(⟨hO3,hO2⟩),?_⟩; clear hKK KK
     refine wpThp hpan (some 124) (i:=16) rfl rfl (⟨hO3,hO2⟩) ?_
     refine wpAnyD_one (i:=18) (by kernel_rfl) rfl (fun KK hKK=>?_)
     rw [if_pos (by rfl)]
     with_reducible refine op_storeB 54 (.tmp 13) (.tmp 124) ?_ G 54 [.int .i64 0,.int .i64 0,.int .i64 0,.bool false,.slice none 0 0,.slice none 0 0,.int .i64 0,.bool false,.int .u64 0,.slice none 0 0,.slice none 0 0] hG ?_ (acC (f,1+l,t,v)) ?_ ?_ ?_ ?_ ?_
     ·rfl
     ·go_simp
     ·rfl
     ·show Value.agg _=Value.agg _; rw [show (1+(l:Int))=((1+l:Nat):Int) by omega]; try rfl
     ·exact acC_one1 _
     ·exact Tryz.sizeArc
     intro wz hGz hfz
     refine hKK _ _ ⟨fun hn=>absurd (by simp) hn,?_⟩; clear hKK KK
     refine wpAnyD_done (by kernel_rfl) ?_ _
     refine hexit _ _ _ _ _ _ _ _ _ _ _ _ _ _ _ _ _ G (f,1+l,t,v) wz hGz hwG (by simp only; omega) (by simp only; omega) (by simp only; omega) (by simp only; omega) hv (hT.fr hfz (fun q e=>by subst e; omega)) ((hF.mono fun q _ h=>Or.inl h).trans (hfz.mono fun q _ h=>Or.inr (by subst h; exact hwG)))
   ·skip
    rw [if_pos (by kernel_rfl)]
    with_reducible refine op_allocB 54 ?_ [.int .i64 0,.int .i64 0,.int .i64 0,.bool false,.slice none 0 0,.slice none 0 0,.int .i64 0,.bool false,.int .u64 0,.slice none 0 0,.slice none 0 0] ?_ ?_
    ·rfl
    ·exact fun _=>by kernel_rfl
    intro wg G hG hbg hzg
    replace hT:=hT.next hbg
    replace hF:=hF.trans (below_fr hbg _)
    have hO3:=cell_later hbg hO3
    have hO2:=cell_later hbg hO2
    have hwG:w.heap.size≤G:=Nat.le_trans hsz hzg
    replace hsz:=Nat.le_trans hsz hbg.size
    clear hbg hzg
    refine hKK _ _ ⟨fun _=>(⟨hO3,hO2⟩),?_⟩; clear hKK KK
    refine wpAnyD_one (i:=12) (by kernel_rfl) rfl (fun KK hKK=>?_)
    go_simp
    go_at_call 21
    refine (tnext_any T lo n cap (st:Int) (by omega) (by omega) _ hT).mono ?_; rintro e wc ⟨t,rfl,ht,hT2,hf2⟩
    replace hT:=hT2
    replace hF:=hF.trans hf2
    have hO3:wc.cell? ⟨O,3,none⟩=some (.int .i64 (st:Int)):=hf2.cell hO3 (fun e=>by omega)
    have hO2:wc.cell? ⟨O,2,none⟩=some (.int .i64 (syms:Int)):=hf2.cell hO2 (fun e=>by omega)
    replace hG:=hG.fr hf2 (by omega)
    replace hsz:=Nat.le_trans hsz hf2.size
    clear hT2 hf2
    try go_simp
    refine hKK _ _ ⟨fun _=>(⟨hO3,hO2⟩),?_⟩; clear hKK KK
    refine wpAnyD_one (i:=15) (by kernel_rfl) rfl (fun KK hKK=>?_)
    go_simp
    go_at_call 20
    refine (tweight_any T lo n cap _ hT).mono ?_; rintro e wd ⟨v,rfl,hv,hT2,hf2⟩
    replace hT:=hT2
    replace hF:=hF.trans hf2
    have hO3:wd.cell? ⟨O,3,none⟩=some (.int .i64 (st:Int)):=hf2.cell hO3 (fun e=>by omega)
    have hO2:wd.cell? ⟨O,2,none⟩=some (.int .i64 (syms:Int)):=hf2.cell hO2 (fun e=>by omega)
    replace hG:=hG.fr hf2 (by omega)
    replace hsz:=Nat.le_trans hsz hf2.size
    clear hT2 hf2
    try go_simp
    refine hKK _ _ ⟨fun _=>(⟨hO3,hO2⟩),?_⟩; clear hKK KK
    refine wpThp hpan (some 124) (i:=16) rfl rfl (⟨hO3,hO2⟩) ?_
    refine wpAnyD_one (i:=18) (by kernel_rfl) rfl (fun KK hKK=>?_)
    rw [if_pos (by rfl)]
    with_reducible refine op_storeB 54 (.tmp 13) (.tmp 124) ?_ G 54 [.int .i64 0,.int .i64 0,.int .i64 0,.bool false,.slice none 0 0,.slice none 0 0,.int .i64 0,.bool false,.int .u64 0,.slice none 0 0,.slice none 0 0] hG ?_ (acC (f,1+l,t,v)) ?_ ?_ ?_ ?_ ?_
    ·rfl
    ·go_simp
    ·rfl
    ·show Value.agg _=Value.agg _; rw [show (1+(l:Int))=((1+l:Nat):Int) by omega]; try rfl
    ·exact acC_one1 _
    ·exact Tryz.sizeArc
    intro wz hGz hfz
    refine hKK _ _ ⟨fun hn=>absurd (by simp) hn,?_⟩; clear hKK KK
    refine wpAnyD_done (by kernel_rfl) ?_ _
    refine hexit _ _ _ _ _ _ _ _ _ _ _ _ _ _ _ _ _ G (f,1+l,t,v) wz hGz hwG (by simp only; omega) (by simp only; omega) (by simp only; omega) (by simp only; omega) hv (hT.fr hfz (fun q e=>by subst e; omega)) ((hF.mono fun q _ h=>Or.inl h).trans (hfz.mono fun q _ h=>Or.inr (by subst h; exact hwG)))
  ·skip
   rw [if_pos (by kernel_rfl)]
   with_reducible refine op_allocB 54 ?_ [.int .i64 0,.int .i64 0,.int .i64 0,.bool false,.slice none 0 0,.slice none 0 0,.int .i64 0,.bool false,.int .u64 0,.slice none 0 0,.slice none 0 0] ?_ ?_
   ·rfl
   ·exact fun _=>by kernel_rfl
   intro wg G hG hbg hzg
   replace hT:=hT.next hbg
   replace hF:=hF.trans (below_fr hbg _)
   have hO3:=cell_later hbg hO3
   have hO2:=cell_later hbg hO2
   have hwG:w.heap.size≤G:=Nat.le_trans hsz hzg
   replace hsz:=Nat.le_trans hsz hbg.size
   clear hbg hzg
   refine hKK _ _ ⟨fun _=>(⟨hO3,hO2⟩),?_⟩; clear hKK KK
   refine wpAnyD_one (i:=7) (by kernel_rfl) rfl (fun KK hKK=>?_)
   go_simp
   go_at_call 21
   refine (tnext_any T lo n cap (syms:Int) (by omega) (by omega) _ hT).mono ?_; rintro e wb ⟨l,rfl,hl,hT2,hf2⟩
   replace hT:=hT2
   replace hF:=hF.trans hf2
   have hO3:wb.cell? ⟨O,3,none⟩=some (.int .i64 (st:Int)):=hf2.cell hO3 (fun e=>by omega)
   have hO2:wb.cell? ⟨O,2,none⟩=some (.int .i64 (syms:Int)):=hf2.cell hO2 (fun e=>by omega)
   have hwl:IntKind.i64.wrap (1+(l:Int))=((1+l:Nat):Int):=by rw [IntKind.wrap_i64]; omega
   replace hG:=hG.fr hf2 (by omega)
   replace hsz:=Nat.le_trans hsz hf2.size
   clear hT2 hf2
   try go_simp
   refine hKK _ _ ⟨fun _=>(⟨hO3,hO2⟩),?_⟩; clear hKK KK
   refine wpThp hpan (some 116) (i:=8) rfl rfl (⟨hO3,hO2⟩) ?_
   refine wpAnyD_one (i:=12) (by kernel_rfl) rfl (fun KK hKK=>?_)
   go_simp
   go_at_call 21
   refine (tnext_any T lo n cap (st:Int) (by omega) (by omega) _ hT).mono ?_; rintro e wc ⟨t,rfl,ht,hT2,hf2⟩
   replace hT:=hT2
   replace hF:=hF.trans hf2
   have hO3:wc.cell? ⟨O,3,none⟩=some (.int .i64 (st:Int)):=hf2.cell hO3 (fun e=>by omega)
   have hO2:wc.cell? ⟨O,2,none⟩=some (.int .i64 (syms:Int)):=hf2.cell hO2 (fun e=>by omega)
   replace hG:=hG.fr hf2 (by omega)
   replace hsz:=Nat.le_trans hsz hf2.size
   clear hT2 hf2
   try go_simp
   refine hKK _ _ ⟨fun _=>(⟨hO3,hO2⟩),?_⟩; clear hKK KK
   refine wpAnyD_one (i:=15) (by kernel_rfl) rfl (fun KK hKK=>?_)
   go_simp
   go_at_call 20
   refine (tweight_any T lo n cap _ hT).mono ?_; rintro e wd ⟨v,rfl,hv,hT2,hf2⟩
   replace hT:=hT2
   replace hF:=hF.trans hf2
   have hO3:wd.cell? ⟨O,3,none⟩=some (.int .i64 (st:Int)):=hf2.cell hO3 (fun e=>by omega)
   have hO2:wd.cell? ⟨O,2,none⟩=some (.int .i64 (syms:Int)):=hf2.cell hO2 (fun e=>by omega)
   replace hG:=hG.fr hf2 (by omega)
   replace hsz:=Nat.le_trans hsz hf2.size
   clear hT2 hf2
   try go_simp
   refine hKK _ _ ⟨fun _=>(⟨hO3,hO2⟩),?_⟩; clear hKK KK
   refine wpThp hpan (some 124) (i:=16) rfl rfl (⟨hO3,hO2⟩) ?_
   refine wpAnyD_one (i:=18) (by kernel_rfl) rfl (fun KK hKK=>?_)
   rw [if_pos (by rfl)]
   with_reducible refine op_storeB 54 (.tmp 13) (.tmp 124) ?_ G 54 [.int .i64 0,.int .i64 0,.int .i64 0,.bool false,.slice none 0 0,.slice none 0 0,.int .i64 0,.bool false,.int .u64 0,.slice none 0 0,.slice none 0 0] hG ?_ (acC (f,1+l,t,v)) ?_ ?_ ?_ ?_ ?_
   ·rfl
   ·go_simp
   ·rfl
   ·show Value.agg _=Value.agg _; rw [show (1+(l:Int))=((1+l:Nat):Int) by omega]; try rfl
   ·exact acC_one1 _
   ·exact Tryz.sizeArc
   intro wz hGz hfz
   refine hKK _ _ ⟨fun hn=>absurd (by simp) hn,?_⟩; clear hKK KK
   refine wpAnyD_done (by kernel_rfl) ?_ _
   refine hexit _ _ _ _ _ _ _ _ _ _ _ _ _ _ _ _ _ G (f,1+l,t,v) wz hGz hwG (by simp only; omega) (by simp only; omega) (by simp only; omega) (by simp only; omega) hv (hT.fr hfz (fun q e=>by subst e; omega)) ((hF.mono fun q _ h=>Or.inl h).trans (hfz.mono fun q _ h=>Or.inr (by subst h; exact hwG)))
 ·skip
  rw [if_pos (by kernel_rfl)]
  with_reducible refine op_allocB 54 ?_ [.int .i64 0,.int .i64 0,.int .i64 0,.bool false,.slice none 0 0,.slice none 0 0,.int .i64 0,.bool false,.int .u64 0,.slice none 0 0,.slice none 0 0] ?_ ?_
  ·rfl
  ·exact fun _=>by kernel_rfl
  intro wg G hG hbg hzg
  replace hT:=hT.next hbg
  replace hF:=hF.trans (below_fr hbg _)
  have hO3:=cell_later hbg hO3
  have hO2:=cell_later hbg hO2
  have hwG:w.heap.size≤G:=Nat.le_trans hsz hzg
  replace hsz:=Nat.le_trans hsz hbg.size
  clear hbg hzg
  refine hKK _ _ ⟨fun _=>(⟨hO3,hO2⟩),?_⟩; clear hKK KK
  refine wpAnyD_one (i:=3) (by kernel_rfl) rfl (fun KK hKK=>?_)
  go_simp
  go_at_call 21
  refine (tnext_any T lo n cap (st:Int) (by omega) (by omega) _ hT).mono ?_; rintro e wa ⟨f,rfl,hf,hT2,hf2⟩
  replace hT:=hT2
  replace hF:=hF.trans hf2
  have hO3:wa.cell? ⟨O,3,none⟩=some (.int .i64 (st:Int)):=hf2.cell hO3 (fun e=>by omega)
  have hO2:wa.cell? ⟨O,2,none⟩=some (.int .i64 (syms:Int)):=hf2.cell hO2 (fun e=>by omega)
  replace hG:=hG.fr hf2 (by omega)
  replace hsz:=Nat.le_trans hsz hf2.size
  clear hT2 hf2
  try go_simp
  refine hKK _ _ ⟨fun _=>(⟨hO3,hO2⟩),?_⟩; clear hKK KK
  refine wpAnyD_one (i:=7) (by kernel_rfl) rfl (fun KK hKK=>?_)
  go_simp
  go_at_call 21
  refine (tnext_any T lo n cap (syms:Int) (by omega) (by omega) _ hT).mono ?_; rintro e wb ⟨l,rfl,hl,hT2,hf2⟩
  replace hT:=hT2
  replace hF:=hF.trans hf2
  have hO3:wb.cell? ⟨O,3,none⟩=some (.int .i64 (st:Int)):=hf2.cell hO3 (fun e=>by omega)
  have hO2:wb.cell? ⟨O,2,none⟩=some (.int .i64 (syms:Int)):=hf2.cell hO2 (fun e=>by omega)
  have hwl:IntKind.i64.wrap (1+(l:Int))=((1+l:Nat):Int):=by rw [IntKind.wrap_i64]; omega
  replace hG:=hG.fr hf2 (by omega)
  replace hsz:=Nat.le_trans hsz hf2.size
  clear hT2 hf2
  try go_simp
  refine hKK _ _ ⟨fun _=>(⟨hO3,hO2⟩),?_⟩; clear hKK KK
  refine wpThp hpan (some 116) (i:=8) rfl rfl (⟨hO3,hO2⟩) ?_
  refine wpAnyD_one (i:=12) (by kernel_rfl) rfl (fun KK hKK=>?_)
  go_simp
  go_at_call 21
  refine (tnext_any T lo n cap (st:Int) (by omega) (by omega) _ hT).mono ?_; rintro e wc ⟨t,rfl,ht,hT2,hf2⟩
  replace hT:=hT2
  replace hF:=hF.trans hf2
  have hO3:wc.cell? ⟨O,3,none⟩=some (.int .i64 (st:Int)):=hf2.cell hO3 (fun e=>by omega)
  have hO2:wc.cell? ⟨O,2,none⟩=some (.int .i64 (syms:Int)):=hf2.cell hO2 (fun e=>by omega)
  replace hG:=hG.fr hf2 (by omega)
  replace hsz:=Nat.le_trans hsz hf2.size
  clear hT2 hf2
  try go_simp
  refine hKK _ _ ⟨fun _=>(⟨hO3,hO2⟩),?_⟩; clear hKK KK
  refine wpAnyD_one (i:=15) (by kernel_rfl) rfl (fun KK hKK=>?_)
  go_simp
  go_at_call 20
  refine (tweight_any T lo n cap _ hT).mono ?_; rintro e wd ⟨v,rfl,hv,hT2,hf2⟩
  replace hT:=hT2
  replace hF:=hF.trans hf2
  have hO3:wd.cell? ⟨O,3,none⟩=some (.int .i64 (st:Int)):=hf2.cell hO3 (fun e=>by omega)
  have hO2:wd.cell? ⟨O,2,none⟩=some (.int .i64 (syms:Int)):=hf2.cell hO2 (fun e=>by omega)
  replace hG:=hG.fr hf2 (by omega)
  replace hsz:=Nat.le_trans hsz hf2.size
  clear hT2 hf2
  try go_simp
  refine hKK _ _ ⟨fun _=>(⟨hO3,hO2⟩),?_⟩; clear hKK KK
  refine wpThp hpan (some 124) (i:=16) rfl rfl (⟨hO3,hO2⟩) ?_
  refine wpAnyD_one (i:=18) (by kernel_rfl) rfl (fun KK hKK=>?_)
  rw [if_pos (by rfl)]
  with_reducible refine op_storeB 54 (.tmp 13) (.tmp 124) ?_ G 54 [.int .i64 0,.int .i64 0,.int .i64 0,.bool false,.slice none 0 0,.slice none 0 0,.int .i64 0,.bool false,.int .u64 0,.slice none 0 0,.slice none 0 0] hG ?_ (acC (f,1+l,t,v)) ?_ ?_ ?_ ?_ ?_
  ·rfl
  ·go_simp
  ·rfl
  ·show Value.agg _=Value.agg _; rw [show (1+(l:Int))=((1+l:Nat):Int) by omega]; try rfl
  ·exact acC_one1 _
  ·exact Tryz.sizeArc
  intro wz hGz hfz
  refine hKK _ _ ⟨fun hn=>absurd (by simp) hn,?_⟩; clear hKK KK
  refine wpAnyD_done (by kernel_rfl) ?_ _
  refine hexit _ _ _ _ _ _ _ _ _ _ _ _ _ _ _ _ _ G (f,1+l,t,v) wz hGz hwG (by simp only; omega) (by simp only; omega) (by simp only; omega) (by simp only; omega) hv (hT.fr hfz (fun q e=>by subst e; omega)) ((hF.mono fun q _ h=>Or.inl h).trans (hfz.mono fun q _ h=>Or.inr (by subst h; exact hwG)))
end
end Go.Proofs.YtnapapijhhldpaaGreatDoor

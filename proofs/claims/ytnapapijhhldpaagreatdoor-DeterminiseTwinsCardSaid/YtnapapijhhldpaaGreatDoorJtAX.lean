/-
  Texts joined by program: Ttd, Tte. No condition of its own.
-/
import Derived.Test.YtnapapijhhldpaaGreatDoorJtAW
namespace Go.Proofs.YtnapapijhhldpaaGreatDoor
set_option linter.unusedSimpArgs false
set_option linter.unusedVariables false
set_option maxRecDepth 100000
set_option maxHeartbeats 4000000
section
open Go.RowKit
theorem aut_test (T:Nat) (lo:OA) (n cap:Nat) (O i st:Nat) (w:World) (hO:w.cell? ⟨O,3,none⟩=some (.int .i64 (st:Int))) (hTa:Ta w T lo n cap)
  {c0 c1 c2 c3 c4 c5 c6 c9 Aa Ab Ad Ae Af Ag Ah Ak Al Am An Ao Ap Aq Ar As Av Aw Ax Ay Az Ba Bb Bc Be Bf Bh Bi Bj Bk Bm Bn Bo Bp Bq Br Bs Bt Bu Bv Bw Bx By Bz Ca Cb Cc Cd Ce Cf Cg Ch Ci Cj Ck Cl Cm Cn Co Cp Cq Cr Ct Cu Cv Cw Cx Cy Cz Da Db Dc Dd De Df Dg Dh Di Dj Dk Dl Dn Dp Dq Dr Dt Du Dv Dw Dx Dy Dz Ea Eb Ec Ed Ee Ef Eg Eh Ei Ej Ek El Em En Eo Ep Eq Er Es Et Eu Ev Ew Ex Ey Ez Fa Fb Fc Fd Fe Ff Fg Fh Fi Fj Fk Fm Fn Fo Fp Fq Fs Ft Fu Fv Fw Fx Fy Fz Ga Gb Gc Gd Ge Gf Gg Gh Gi Gj Gk Gl Gm Gn Go Gp Gq Gr Gs Gt Gu Gv Gw Gx Gy Gz Ha Hb Hc Hd He Hf:Value} {Q0:EP} (hpan:∀ c (a:Act) d v w,Q0 (.panic c) (a.put d v) w->Q0 (.panic c) a w)
  (hexit:∀ (Hg Hh Hi Hj Hk Hl Hm Hn Ho Hp Hq Hr Hs Ht Hu Hv Hw Hx:Value) (b:Bool) (w':World),(b=true->0<st/\i<14)->Fr (fun _=>False) w w'->Q0 .normal ⟨#[c0,c1,c2,c3,c4,c5,c6,.pointer (some ⟨T,0,none⟩),.pointer (some ⟨O,0,none⟩),c9,Aa,Ab,.int .i64 (i:Int),Ad,Ae,Af,Ag,Ah,Ak,Al,Am,An,Ao,Ap,Aq,Ar,As,Av,Aw,Ax,Ay,Az,Ba,Bb,Bc,Be,Bf,Bh,Bi,Bj,Bk,Bm,Bn,Bo,Bp,Bq,Br,Bs,Bt,Bu,Bv,Bw,Bx,By,Bz,Ca,Cb,Cc,Cd,Ce,Cf,Cg,Ch,Ci,Cj,Ck,Cl,Cm,Cn,Co,Cp,Cq,Cr,Ct,Cu,Cv,Cw,Cx,Cy,Cz,Da,Db,Dc,Dd,De,Df,Dg,Hg,Hh,Hi,Hj,Hk,Hl,Hm,Hn,Ho,Hp,Hq,Hr,Hs,Ht,Hu,Hv,Hw,Hx,.bool b,Ed,Ee,Ef,Eg,Eh,Ei,Ej,Ek,El,Em,En,Eo,Ep,Eq,Er,Es,Et,Eu,Ev,Ew,Ex,Ey,Ez,Fa,Fb,Fc,Fd,Fe,Ff,Fg,Fh,Fi,Fj,Fk,Fm,Fn,Fo,Fp,Fq,Fs,Ft,Fu,Fv,Fw,Fx,Fy,Fz,Ga,Gb,Gc,Gd,Ge,Gf,Gg,Gh,Gi,Gj,Gk,Gl,Gm,Gn,Go,Gp,Gq,Gr,Gs,Gt,Gu,Gv,Gw,Gx,Gy,Gz,Ha,Hb,Hc,Hd,He,Hf],[]⟩ w') :
  Code.wp Tryz.prog (wR 13) Q0 ⟨#[c0,c1,c2,c3,c4,c5,c6,.pointer (some ⟨T,0,none⟩),.pointer (some ⟨O,0,none⟩),c9,Aa,Ab,.int .i64 (i:Int),Ad,Ae,Af,Ag,Ah,Ak,Al,Am,An,Ao,Ap,Aq,Ar,As,Av,Aw,Ax,Ay,Az,Ba,Bb,Bc,Be,Bf,Bh,Bi,Bj,Bk,Bm,Bn,Bo,Bp,Bq,Br,Bs,Bt,Bu,Bv,Bw,Bx,By,Bz,Ca,Cb,Cc,Cd,Ce,Cf,Cg,Ch,Ci,Cj,Ck,Cl,Cm,Cn,Co,Cp,Cq,Cr,Ct,Cu,Cv,Cw,Cx,Cy,Cz,Da,Db,Dc,Dd,De,Df,Dg,Dh,Di,Dj,Dk,Dl,Dn,Dp,Dq,Dr,Dt,Du,Dv,Dw,Dx,Dy,Dz,Ea,Eb,Ec,Ed,Ee,Ef,Eg,Eh,Ei,Ej,Ek,El,Em,En,Eo,Ep,Eq,Er,Es,Et,Eu,Ev,Ew,Ex,Ey,Ez,Fa,Fb,Fc,Fd,Fe,Ff,Fg,Fh,Fi,Fj,Fk,Fm,Fn,Fo,Fp,Fq,Fs,Ft,Fu,Fv,Fw,Fx,Fy,Fz,Ga,Gb,Gc,Gd,Ge,Gf,Gg,Gh,Gi,Gj,Gk,Gl,Gm,Gn,Go,Gp,Gq,Gr,Gs,Gt,Gu,Gv,Gw,Gx,Gy,Gz,Ha,Hb,Hc,Hd,He,Hf],[]⟩ w:=by
 conv=>arg 2; whnf
 obtain ⟨a,ha,hTp⟩:=hTa.ex
 have x0:=hTp.c0
 have x1:=hTp.c1
 have hbig:=hTa.big
 have hexit:=hid hexit
 clear hTp hTa
 by_cases h1:a<n
 ·have i1:(a:Int)<(n:Int):=by omega
  by_cases h2:i<14
  ·have i2:(i:Int)<14:=by omega
   by_cases h3:0<st
   ·have i3:(0:Int)<(st:Int):=by omega
    go_quiet (fail)
    exact hexit.out _ _ _ _ _ _ _ _ _ _ _ _ _ _ _ _ _ _ true _ (fun _=>⟨h3,h2⟩) ((Fr.refl _ w).drewN _)
   ·obtain rfl:st=0:=by omega
    have i3:¬ (0:Int)<((0:Nat):Int):=by omega
    go_quiet (fail)
    exact hexit.out _ _ _ _ _ _ _ _ _ _ _ _ _ _ _ _ _ _ false _ (fun h=>by cases h) ((Fr.refl _ w).drewN _)
  ·have i2:¬ (i:Int)<14:=by omega
   go_quiet (fail)
   exact hexit.out _ _ _ _ _ _ _ _ _ _ _ _ _ _ _ _ _ _ false _ (fun h=>by cases h) ((Fr.refl _ w).drewN _)
 ·have i1:¬ (a:Int)<(n:Int):=by omega
  go_quiet (fail)
  exact hexit.out _ _ _ _ _ _ _ _ _ _ _ _ _ _ _ _ _ _ false _ (fun h=>by cases h) ((Fr.refl _ w).drewN _)
theorem acC_one1 (x:Ac):∀ u∈acC x,u.oneCell'=true:=by have h:=acC_one [x]; simpa using h
theorem aut_new (T:Nat) (lo:OA) (n cap:Nat) (O syms st:Nat) (w:World) (hO:w.cell? ⟨O,3,none⟩=some (.int .i64 (st:Int))/\w.cell? ⟨O,2,none⟩=some (.int .i64 (syms:Int))) (hst:1<=st/\st<=64) (hsy:1<=syms/\syms<=32) (hTa:Ta w T lo n cap) (hTO:T<O)
  {c0 c2 c3 c4 c5 c6 c9 Aa Ab Ad Ae Af Ag Ah Ak Al Am An Ao Ap Aq Ar As Av Aw Ax Ay Az Ba Bb Bc Be Bf Bh Bi Bj Bk Bm Bn Bo Bp Bq Br Bs Bt Bu Bv Bw Bx By Bz Ca Cb Cc Cd Ce Cf Cg Ch Ci Cj Ck Cl Cm Cn Co Cp Cq Cr Ct Cu Cv Cw Cx Cy Cz Da Db Dc Dd De Df Dg Dh Di Dj Dk Dl Dn Dp Dq Dr Dt Du Dv Dw Dx Dy Dz Ea Eb Ec Ed Ee Ef Eg Eh Ei Ej Ek El Em En Eo Ep Eq Er Es Et Eu Ev Ew Ex Ey Ez Fa Fb Fc Fd Fe Ff Fg Fh Fi Fj Fk Fm Fn Fo Fp Fq Fs Ft Fu Fv Fw Fx Fy Fz Ga Gb Gc Gd Ge Gf Gg Gh Gi Gj Gk Gl Gm Gn Go Gp Gq Gr Gs Gt Gu Gv Gw Gx Gy Gz Ha Hb Hc Hd He Hf Hg:Value} {Q0:EP} (hpan:∀ c (a:Act) d v w,Q0 (.panic c) (a.put d v) w->Q0 (.panic c) a w)
  (hexit:∀ (Hh Hi Hj Hk Hl Hm Hn Ho Hp Hq Hr Hs Ht Hu Hv Hw Hx:Value) (G:Nat) (x:Ac) (w':World),Bl G (acC x) 54 w'->w.heap.size<=G->x.1<st->x.2.2.1<st->1<=x.2.1->x.2.1<=syms->tc (wt x)<=5->Ta w' T lo n cap->Fr (fun k=>k=T\/w.heap.size<=k) w w'->Q0 .normal ⟨#[c0,.int .i64 2,c2,c3,c4,c5,c6,.pointer (some ⟨T,0,none⟩),.pointer (some ⟨O,0,none⟩),c9,Aa,Ab,Ad,.pointer (some ⟨G,0,none⟩),Af,Ag,Ah,Ak,Al,Am,An,Ao,Ap,Aq,Ar,As,Av,Aw,Ax,Ay,Az,Ba,Bb,Bc,Be,Bf,Bh,Bi,Bj,Bk,Bm,Bn,Bo,Bp,Bq,Br,Bs,Bt,Bu,Bv,Bw,Bx,By,Bz,Ca,Cb,Cc,Cd,Ce,Cf,Cg,Ch,Ci,Cj,Ck,Cl,Cm,Cn,Co,Cp,Cq,Cr,Ct,Cu,Cv,Cw,Cx,Cy,Cz,Da,Db,Dc,Dd,De,Df,Dg,Dh,Di,Dj,Dk,Dl,Dn,Dp,Dq,Dr,Dt,Du,Dv,Dw,Dx,Dy,Dz,Ea,Eb,Ec,Ed,Ee,Ef,Hh,Hi,Hj,Hk,Hl,Hm,Hn,Ho,Hp,Hq,Hr,Hs,Ht,Hu,Hv,Hw,Hx,Ex,Ey,Ez,Fa,Fb,Fc,Fd,Fe,Ff,Fg,Fh,Fi,Fj,Fk,Fm,Fn,Fo,Fp,Fq,Fs,Ft,Fu,Fv,Fw,Fx,Fy,Fz,Ga,Gb,Gc,Gd,Ge,Gf,Gg,Gh,Gi,Gj,Gk,Gl,Gm,Gn,Go,Gp,Gq,Gr,Gs,Gt,Gu,Gv,Gw,Gx,Gy,Gz,Ha,Hb,Hc,Hd,He,Hf,Hg],[]⟩ w') :
  Code.wp Tryz.prog (wR 15) Q0 ⟨#[c0,.int .i64 2,c2,c3,c4,c5,c6,.pointer (some ⟨T,0,none⟩),.pointer (some ⟨O,0,none⟩),c9,Aa,Ab,Ad,Ae,Af,Ag,Ah,Ak,Al,Am,An,Ao,Ap,Aq,Ar,As,Av,Aw,Ax,Ay,Az,Ba,Bb,Bc,Be,Bf,Bh,Bi,Bj,Bk,Bm,Bn,Bo,Bp,Bq,Br,Bs,Bt,Bu,Bv,Bw,Bx,By,Bz,Ca,Cb,Cc,Cd,Ce,Cf,Cg,Ch,Ci,Cj,Ck,Cl,Cm,Cn,Co,Cp,Cq,Cr,Ct,Cu,Cv,Cw,Cx,Cy,Cz,Da,Db,Dc,Dd,De,Df,Dg,Dh,Di,Dj,Dk,Dl,Dn,Dp,Dq,Dr,Dt,Du,Dv,Dw,Dx,Dy,Dz,Ea,Eb,Ec,Ed,Ee,Ef,Eg,Eh,Ei,Ej,Ek,El,Em,En,Eo,Ep,Eq,Er,Es,Et,Eu,Ev,Ew,Ex,Ey,Ez,Fa,Fb,Fc,Fd,Fe,Ff,Fg,Fh,Fi,Fj,Fk,Fm,Fn,Fo,Fp,Fq,Fs,Ft,Fu,Fv,Fw,Fx,Fy,Fz,Ga,Gb,Gc,Gd,Ge,Gf,Gg,Gh,Gi,Gj,Gk,Gl,Gm,Gn,Go,Gp,Gq,Gr,Gs,Gt,Gu,Gv,Gw,Gx,Gy,Gz,Ha,Hb,Hc,Hd,He,Hf,Hg],[]⟩ w:=by
 conv=>arg 2; whnf
 have hTl:=hTa.lt
 have hdr:=(Below.refl w.heap.size w).drew
 have hT:=hTa.next hdr
 have hO3:=cell_later hdr hO.1
 have hO2:=cell_later hdr hO.2
 have hF:Fr (fun q=>q=T) w w.drew:=below_fr hdr _
 have hsz:w.heap.size<=w.drew.heap.size:=hdr.size
 have hS:w.drew.cell? ⟨O,3,none⟩=some (.int .i64 (st:Int))/\w.drew.cell? ⟨O,2,none⟩=some (.int .i64 (syms:Int)):=⟨hO3,hO2⟩
 have hOl:=World.block_lt_of_cell? w _ hO.1
 clear hdr
 refine wp_region_D (fun w'=>w'.cell? ⟨O,3,none⟩=some (.int .i64 (st:Int))/\w'.cell? ⟨O,2,none⟩=some (.int .i64 (syms:Int))) [18] (by kernel_rfl) ?_
 refine tkBp 0 hpan (some 108) rfl rfl hS ?_
 refine tkBp 1 hpan (some 109) rfl rfl hS ?_
 refine tkBl 2 hpan (some 110) (v:=?_) rfl rfl ?_ hS ?_
 rotate_left
 ·intro wz hw; refine exec_loadI O 3 ?_ (.int .i64 (st:Int)) hw.1; go_simp
 refine tkBp 4 hpan (some 112) rfl rfl hS ?_
 refine tkBp 5 hpan (some 113) rfl rfl hS ?_
 refine tkBl 6 hpan (some 114) (v:=?_) rfl rfl ?_ hS ?_
 rotate_left
 ·intro wz hw; refine exec_loadI O 2 ?_ (.int .i64 (syms:Int)) hw.2; go_simp
 refine tkBp 9 hpan (some 117) rfl rfl hS ?_
 refine tkBp 10 hpan (some 118) rfl rfl hS ?_
 refine tkBl 11 hpan (some 119) (v:=?_) rfl rfl ?_ hS ?_
 rotate_left
 ·intro wz hw; refine exec_loadI O 3 ?_ (.int .i64 (st:Int)) hw.1; go_simp
 refine tkBp 13 hpan (some 121) rfl rfl hS ?_
 refine tkBp 14 hpan (some 122) rfl rfl hS ?_
 go_simp
 refine wpAnyD_two (i:=3) (j:=17) ?_ rfl rfl (fun KK hKK=>?_) (fun KK hKK=>?_)
 ·kernel_rfl
 ·skip
  go_simp
  go_at_call 21
  refine (tnext_any T lo n cap (st:Int) (by omega) (by omega) _ hT).mono ?_; rintro e wa ⟨f,rfl,hf,hT2,hf2⟩
  replace hT:=hT2
  replace hF:=hF.trans hf2
  have hO3:wa.cell? ⟨O,3,none⟩=some (.int .i64 (st:Int)):=hf2.cell hO3 (fun e=>by omega)
  have hO2:wa.cell? ⟨O,2,none⟩=some (.int .i64 (syms:Int)):=hf2.cell hO2 (fun e=>by omega)
  replace hsz:=Nat.le_trans hsz hf2.size
  clear hT2 hf2
  try go_simp
  refine hKK _ _ ⟨fun _=>(⟨hO3,hO2⟩),?_⟩; clear hKK KK
  refine wpAnyD_two (i:=7) (j:=17) ?_ rfl rfl (fun KK hKK=>?_) (fun KK hKK=>?_)
  ·kernel_rfl
  ·skip
   go_simp
   go_at_call 21
   refine (tnext_any T lo n cap (syms:Int) (by omega) (by omega) _ hT).mono ?_; rintro e wb ⟨l,rfl,hl,hT2,hf2⟩
   replace hT:=hT2
   replace hF:=hF.trans hf2
   have hO3:wb.cell? ⟨O,3,none⟩=some (.int .i64 (st:Int)):=hf2.cell hO3 (fun e=>by omega)
   have hO2:wb.cell? ⟨O,2,none⟩=some (.int .i64 (syms:Int)):=hf2.cell hO2 (fun e=>by omega)
   have hwl:IntKind.i64.wrap (1+(l:Int))=((1+l:Nat):Int):=by rw [IntKind.wrap_i64]; omega
   replace hsz:=Nat.le_trans hsz hf2.size
   clear hT2 hf2
   try go_simp
   refine hKK _ _ ⟨fun _=>(⟨hO3,hO2⟩),?_⟩; clear hKK KK
   refine tkBp 8 hpan (some 116) rfl rfl (⟨hO3,hO2⟩) ?_
   refine wpAnyD_two (i:=12) (j:=17) ?_ rfl rfl (fun KK hKK=>?_) (fun KK hKK=>?_)
   ·kernel_rfl
   ·skip
    go_simp
    go_at_call 21
    refine (tnext_any T lo n cap (st:Int) (by omega) (by omega) _ hT).mono ?_; rintro e wc ⟨t,rfl,ht,hT2,hf2⟩
    replace hT:=hT2
    replace hF:=hF.trans hf2
    have hO3:wc.cell? ⟨O,3,none⟩=some (.int .i64 (st:Int)):=hf2.cell hO3 (fun e=>by omega)
    have hO2:wc.cell? ⟨O,2,none⟩=some (.int .i64 (syms:Int)):=hf2.cell hO2 (fun e=>by omega)
    replace hsz:=Nat.le_trans hsz hf2.size
    clear hT2 hf2
    try go_simp
    refine hKK _ _ ⟨fun _=>(⟨hO3,hO2⟩),?_⟩; clear hKK KK
    refine wpAnyD_two (i:=15) (j:=17) ?_ rfl rfl (fun KK hKK=>?_) (fun KK hKK=>?_)
    ·kernel_rfl
    ·skip
     go_simp
     go_at_call 20
     refine (tweight_any T lo n cap _ hT).mono ?_; rintro e wd ⟨v,rfl,hv,hT2,hf2⟩
     replace hT:=hT2
     replace hF:=hF.trans hf2
     have hO3:wd.cell? ⟨O,3,none⟩=some (.int .i64 (st:Int)):=hf2.cell hO3 (fun e=>by omega)
     have hO2:wd.cell? ⟨O,2,none⟩=some (.int .i64 (syms:Int)):=hf2.cell hO2 (fun e=>by omega)
     replace hsz:=Nat.le_trans hsz hf2.size
     clear hT2 hf2
     try go_simp
     refine hKK _ _ ⟨fun _=>(⟨hO3,hO2⟩),?_⟩; clear hKK KK
     refine tkBp 16 hpan (some 124) rfl rfl (⟨hO3,hO2⟩) ?_
     refine wpO (i:=17) rfl fun KK hKK=>?_
     rw [if_pos (by kernel_rfl)]
     with_reducible refine op_allocB 54 ?_ [.int .i64 0,.int .i64 0,.int .i64 0,.bool false,.slice none 0 0,.slice none 0 0,.int .i64 0,.bool false,.int .u64 0,.slice none 0 0,.slice none 0 0] ?_ ?_
     ·rfl
     ·exact fun _=>by kernel_rfl
     intro wg G hG hbg hzg
     replace hT:=hT.next hbg
     replace hF:=hF.trans (below_fr hbg _)
     have hO3:=cell_later hbg hO3
     have hO2:=cell_later hbg hO2
     have hwG:w.heap.size<=G:=Nat.le_trans hsz hzg
     replace hsz:=Nat.le_trans hsz hbg.size
     clear hbg hzg
     refine hKK _ _ ⟨fun _=>(⟨hO3,hO2⟩),?_⟩; clear hKK KK
     refine wpO (i:=18) rfl fun KK hKK=>?_
     rw [if_pos (by rfl)]
     with_reducible refine op_storeB 54 (.tmp 13) (.tmp 124) ?_ G 54 [.int .i64 0,.int .i64 0,.int .i64 0,.bool false,.slice none 0 0,.slice none 0 0,.int .i64 0,.bool false,.int .u64 0,.slice none 0 0,.slice none 0 0] hG ?_ (acC (f,1+l,t,v)) ?_ ?_ ?_ ?_ ?_
     ·rfl
     ·go_simp
     ·rfl
     ·show Value.agg _=Value.agg _; rw [show (1+(l:Int))=((1+l:Nat):Int) by omega]; try rfl
     ·exact acC_one1 _
     ·exact Tryz.sizeArc
     intro wz hGz hfz
     refine lN hKK ?_; clear hKK KK
     refine wpAnyD_done (by kernel_rfl) ?_ _
     refine hexit _ _ _ _ _ _ _ _ _ _ _ _ _ _ _ _ _ G (f,1+l,t,v) wz hGz hwG (by simp only; omega) (by simp only; omega) (by simp only; omega) (by simp only; omega) hv (hT.fr hfz (fun q e=>by subst e; omega)) ((hF.mono fun q _ h=>Or.inl h).trans (hfz.mono fun q _ h=>Or.inr (by subst h; exact hwG)))
    ·skip
     rw [if_pos (by kernel_rfl)]
     with_reducible refine op_allocB 54 ?_ [.int .i64 0,.int .i64 0,.int .i64 0,.bool false,.slice none 0 0,.slice none 0 0,.int .i64 0,.bool false,.int .u64 0,.slice none 0 0,.slice none 0 0] ?_ ?_
     ·rfl
     ·exact fun _=>by kernel_rfl
     intro wg G hG hbg hzg
     replace hT:=hT.next hbg
     replace hF:=hF.trans (below_fr hbg _)
     have hO3:=cell_later hbg hO3
     have hO2:=cell_later hbg hO2
     have hwG:w.heap.size<=G:=Nat.le_trans hsz hzg
     replace hsz:=Nat.le_trans hsz hbg.size
     clear hbg hzg
     refine hKK _ _ ⟨fun _=>(⟨hO3,hO2⟩),?_⟩; clear hKK KK
     refine wpO (i:=15) rfl fun KK hKK=>?_
     go_simp
     go_at_call 20
     refine (tweight_any T lo n cap _ hT).mono ?_; rintro e wd ⟨v,rfl,hv,hT2,hf2⟩
     replace hT:=hT2
     replace hF:=hF.trans hf2
     have hO3:wd.cell? ⟨O,3,none⟩=some (.int .i64 (st:Int)):=hf2.cell hO3 (fun e=>by omega)
     have hO2:wd.cell? ⟨O,2,none⟩=some (.int .i64 (syms:Int)):=hf2.cell hO2 (fun e=>by omega)
     replace hG:=hG.fr hf2 (by omega)
     replace hsz:=Nat.le_trans hsz hf2.size
     clear hT2 hf2
     try go_simp
     refine hKK _ _ ⟨fun _=>(⟨hO3,hO2⟩),?_⟩; clear hKK KK
     refine tkBp 16 hpan (some 124) rfl rfl (⟨hO3,hO2⟩) ?_
     refine wpO (i:=18) rfl fun KK hKK=>?_
     rw [if_pos (by rfl)]
     with_reducible refine op_storeB 54 (.tmp 13) (.tmp 124) ?_ G 54 [.int .i64 0,.int .i64 0,.int .i64 0,.bool false,.slice none 0 0,.slice none 0 0,.int .i64 0,.bool false,.int .u64 0,.slice none 0 0,.slice none 0 0] hG ?_ (acC (f,1+l,t,v)) ?_ ?_ ?_ ?_ ?_
     ·rfl
     ·go_simp
     ·rfl
     ·show Value.agg _=Value.agg _; rw [show (1+(l:Int))=((1+l:Nat):Int) by omega]; try rfl
     ·exact acC_one1 _
     ·exact Tryz.sizeArc
     intro wz hGz hfz
     refine lN hKK ?_; clear hKK KK
     refine wpAnyD_done (by kernel_rfl) ?_ _
     refine hexit _ _ _ _ _ _ _ _ _ _ _ _ _ _ _ _ _ G (f,1+l,t,v) wz hGz hwG (by simp only; omega) (by simp only; omega) (by simp only; omega) (by simp only; omega) hv (hT.fr hfz (fun q e=>by subst e; omega)) ((hF.mono fun q _ h=>Or.inl h).trans (hfz.mono fun q _ h=>Or.inr (by subst h; exact hwG)))
   ·skip
    rw [if_pos (by kernel_rfl)]
    with_reducible refine op_allocB 54 ?_ [.int .i64 0,.int .i64 0,.int .i64 0,.bool false,.slice none 0 0,.slice none 0 0,.int .i64 0,.bool false,.int .u64 0,.slice none 0 0,.slice none 0 0] ?_ ?_
    ·rfl
    ·exact fun _=>by kernel_rfl
    intro wg G hG hbg hzg
    replace hT:=hT.next hbg
    replace hF:=hF.trans (below_fr hbg _)
    have hO3:=cell_later hbg hO3
    have hO2:=cell_later hbg hO2
    have hwG:w.heap.size<=G:=Nat.le_trans hsz hzg
    replace hsz:=Nat.le_trans hsz hbg.size
    clear hbg hzg
    refine hKK _ _ ⟨fun _=>(⟨hO3,hO2⟩),?_⟩; clear hKK KK
    refine wpO (i:=12) rfl fun KK hKK=>?_
    go_simp
    go_at_call 21
    refine (tnext_any T lo n cap (st:Int) (by omega) (by omega) _ hT).mono ?_; rintro e wc ⟨t,rfl,ht,hT2,hf2⟩
    replace hT:=hT2
    replace hF:=hF.trans hf2
    have hO3:wc.cell? ⟨O,3,none⟩=some (.int .i64 (st:Int)):=hf2.cell hO3 (fun e=>by omega)
    have hO2:wc.cell? ⟨O,2,none⟩=some (.int .i64 (syms:Int)):=hf2.cell hO2 (fun e=>by omega)
    replace hG:=hG.fr hf2 (by omega)
    replace hsz:=Nat.le_trans hsz hf2.size
    clear hT2 hf2
    try go_simp
    refine hKK _ _ ⟨fun _=>(⟨hO3,hO2⟩),?_⟩; clear hKK KK
    refine wpO (i:=15) rfl fun KK hKK=>?_
    go_simp
    go_at_call 20
    refine (tweight_any T lo n cap _ hT).mono ?_; rintro e wd ⟨v,rfl,hv,hT2,hf2⟩
    replace hT:=hT2
    replace hF:=hF.trans hf2
    have hO3:wd.cell? ⟨O,3,none⟩=some (.int .i64 (st:Int)):=hf2.cell hO3 (fun e=>by omega)
    have hO2:wd.cell? ⟨O,2,none⟩=some (.int .i64 (syms:Int)):=hf2.cell hO2 (fun e=>by omega)
    replace hG:=hG.fr hf2 (by omega)
    replace hsz:=Nat.le_trans hsz hf2.size
    clear hT2 hf2
    try go_simp
    refine hKK _ _ ⟨fun _=>(⟨hO3,hO2⟩),?_⟩; clear hKK KK
    refine tkBp 16 hpan (some 124) rfl rfl (⟨hO3,hO2⟩) ?_
    refine wpO (i:=18) rfl fun KK hKK=>?_
    rw [if_pos (by rfl)]
    with_reducible refine op_storeB 54 (.tmp 13) (.tmp 124) ?_ G 54 [.int .i64 0,.int .i64 0,.int .i64 0,.bool false,.slice none 0 0,.slice none 0 0,.int .i64 0,.bool false,.int .u64 0,.slice none 0 0,.slice none 0 0] hG ?_ (acC (f,1+l,t,v)) ?_ ?_ ?_ ?_ ?_
    ·rfl
    ·go_simp
    ·rfl
    ·show Value.agg _=Value.agg _; rw [show (1+(l:Int))=((1+l:Nat):Int) by omega]; try rfl
    ·exact acC_one1 _
    ·exact Tryz.sizeArc
    intro wz hGz hfz
    refine lN hKK ?_; clear hKK KK
    refine wpAnyD_done (by kernel_rfl) ?_ _
    refine hexit _ _ _ _ _ _ _ _ _ _ _ _ _ _ _ _ _ G (f,1+l,t,v) wz hGz hwG (by simp only; omega) (by simp only; omega) (by simp only; omega) (by simp only; omega) hv (hT.fr hfz (fun q e=>by subst e; omega)) ((hF.mono fun q _ h=>Or.inl h).trans (hfz.mono fun q _ h=>Or.inr (by subst h; exact hwG)))
  ·skip
   rw [if_pos (by kernel_rfl)]
   with_reducible refine op_allocB 54 ?_ [.int .i64 0,.int .i64 0,.int .i64 0,.bool false,.slice none 0 0,.slice none 0 0,.int .i64 0,.bool false,.int .u64 0,.slice none 0 0,.slice none 0 0] ?_ ?_
   ·rfl
   ·exact fun _=>by kernel_rfl
   intro wg G hG hbg hzg
   replace hT:=hT.next hbg
   replace hF:=hF.trans (below_fr hbg _)
   have hO3:=cell_later hbg hO3
   have hO2:=cell_later hbg hO2
   have hwG:w.heap.size<=G:=Nat.le_trans hsz hzg
   replace hsz:=Nat.le_trans hsz hbg.size
   clear hbg hzg
   refine hKK _ _ ⟨fun _=>(⟨hO3,hO2⟩),?_⟩; clear hKK KK
   refine wpO (i:=7) rfl fun KK hKK=>?_
   go_simp
   go_at_call 21
   refine (tnext_any T lo n cap (syms:Int) (by omega) (by omega) _ hT).mono ?_; rintro e wb ⟨l,rfl,hl,hT2,hf2⟩
   replace hT:=hT2
   replace hF:=hF.trans hf2
   have hO3:wb.cell? ⟨O,3,none⟩=some (.int .i64 (st:Int)):=hf2.cell hO3 (fun e=>by omega)
   have hO2:wb.cell? ⟨O,2,none⟩=some (.int .i64 (syms:Int)):=hf2.cell hO2 (fun e=>by omega)
   have hwl:IntKind.i64.wrap (1+(l:Int))=((1+l:Nat):Int):=by rw [IntKind.wrap_i64]; omega
   replace hG:=hG.fr hf2 (by omega)
   replace hsz:=Nat.le_trans hsz hf2.size
   clear hT2 hf2
   try go_simp
   refine hKK _ _ ⟨fun _=>(⟨hO3,hO2⟩),?_⟩; clear hKK KK
   refine tkBp 8 hpan (some 116) rfl rfl (⟨hO3,hO2⟩) ?_
   refine wpO (i:=12) rfl fun KK hKK=>?_
   go_simp
   go_at_call 21
   refine (tnext_any T lo n cap (st:Int) (by omega) (by omega) _ hT).mono ?_; rintro e wc ⟨t,rfl,ht,hT2,hf2⟩
   replace hT:=hT2
   replace hF:=hF.trans hf2
   have hO3:wc.cell? ⟨O,3,none⟩=some (.int .i64 (st:Int)):=hf2.cell hO3 (fun e=>by omega)
   have hO2:wc.cell? ⟨O,2,none⟩=some (.int .i64 (syms:Int)):=hf2.cell hO2 (fun e=>by omega)
   replace hG:=hG.fr hf2 (by omega)
   replace hsz:=Nat.le_trans hsz hf2.size
   clear hT2 hf2
   try go_simp
   refine hKK _ _ ⟨fun _=>(⟨hO3,hO2⟩),?_⟩; clear hKK KK
   refine wpO (i:=15) rfl fun KK hKK=>?_
   go_simp
   go_at_call 20
   refine (tweight_any T lo n cap _ hT).mono ?_; rintro e wd ⟨v,rfl,hv,hT2,hf2⟩
   replace hT:=hT2
   replace hF:=hF.trans hf2
   have hO3:wd.cell? ⟨O,3,none⟩=some (.int .i64 (st:Int)):=hf2.cell hO3 (fun e=>by omega)
   have hO2:wd.cell? ⟨O,2,none⟩=some (.int .i64 (syms:Int)):=hf2.cell hO2 (fun e=>by omega)
   replace hG:=hG.fr hf2 (by omega)
   replace hsz:=Nat.le_trans hsz hf2.size
   clear hT2 hf2
   try go_simp
   refine hKK _ _ ⟨fun _=>(⟨hO3,hO2⟩),?_⟩; clear hKK KK
   refine tkBp 16 hpan (some 124) rfl rfl (⟨hO3,hO2⟩) ?_
   refine wpO (i:=18) rfl fun KK hKK=>?_
   rw [if_pos (by rfl)]
   with_reducible refine op_storeB 54 (.tmp 13) (.tmp 124) ?_ G 54 [.int .i64 0,.int .i64 0,.int .i64 0,.bool false,.slice none 0 0,.slice none 0 0,.int .i64 0,.bool false,.int .u64 0,.slice none 0 0,.slice none 0 0] hG ?_ (acC (f,1+l,t,v)) ?_ ?_ ?_ ?_ ?_
   ·rfl
   ·go_simp
   ·rfl
   ·show Value.agg _=Value.agg _; rw [show (1+(l:Int))=((1+l:Nat):Int) by omega]; try rfl
   ·exact acC_one1 _
   ·exact Tryz.sizeArc
   intro wz hGz hfz
   refine lN hKK ?_; clear hKK KK
   refine wpAnyD_done (by kernel_rfl) ?_ _
   refine hexit _ _ _ _ _ _ _ _ _ _ _ _ _ _ _ _ _ G (f,1+l,t,v) wz hGz hwG (by simp only; omega) (by simp only; omega) (by simp only; omega) (by simp only; omega) hv (hT.fr hfz (fun q e=>by subst e; omega)) ((hF.mono fun q _ h=>Or.inl h).trans (hfz.mono fun q _ h=>Or.inr (by subst h; exact hwG)))
 ·skip
  rw [if_pos (by kernel_rfl)]
  with_reducible refine op_allocB 54 ?_ [.int .i64 0,.int .i64 0,.int .i64 0,.bool false,.slice none 0 0,.slice none 0 0,.int .i64 0,.bool false,.int .u64 0,.slice none 0 0,.slice none 0 0] ?_ ?_
  ·rfl
  ·exact fun _=>by kernel_rfl
  intro wg G hG hbg hzg
  replace hT:=hT.next hbg
  replace hF:=hF.trans (below_fr hbg _)
  have hO3:=cell_later hbg hO3
  have hO2:=cell_later hbg hO2
  have hwG:w.heap.size<=G:=Nat.le_trans hsz hzg
  replace hsz:=Nat.le_trans hsz hbg.size
  clear hbg hzg
  refine hKK _ _ ⟨fun _=>(⟨hO3,hO2⟩),?_⟩; clear hKK KK
  refine wpO (i:=3) rfl fun KK hKK=>?_
  go_simp
  go_at_call 21
  refine (tnext_any T lo n cap (st:Int) (by omega) (by omega) _ hT).mono ?_; rintro e wa ⟨f,rfl,hf,hT2,hf2⟩
  replace hT:=hT2
  replace hF:=hF.trans hf2
  have hO3:wa.cell? ⟨O,3,none⟩=some (.int .i64 (st:Int)):=hf2.cell hO3 (fun e=>by omega)
  have hO2:wa.cell? ⟨O,2,none⟩=some (.int .i64 (syms:Int)):=hf2.cell hO2 (fun e=>by omega)
  replace hG:=hG.fr hf2 (by omega)
  replace hsz:=Nat.le_trans hsz hf2.size
  clear hT2 hf2
  try go_simp
  refine hKK _ _ ⟨fun _=>(⟨hO3,hO2⟩),?_⟩; clear hKK KK
  refine wpO (i:=7) rfl fun KK hKK=>?_
  go_simp
  go_at_call 21
  refine (tnext_any T lo n cap (syms:Int) (by omega) (by omega) _ hT).mono ?_; rintro e wb ⟨l,rfl,hl,hT2,hf2⟩
  replace hT:=hT2
  replace hF:=hF.trans hf2
  have hO3:wb.cell? ⟨O,3,none⟩=some (.int .i64 (st:Int)):=hf2.cell hO3 (fun e=>by omega)
  have hO2:wb.cell? ⟨O,2,none⟩=some (.int .i64 (syms:Int)):=hf2.cell hO2 (fun e=>by omega)
  have hwl:IntKind.i64.wrap (1+(l:Int))=((1+l:Nat):Int):=by rw [IntKind.wrap_i64]; omega
  replace hG:=hG.fr hf2 (by omega)
  replace hsz:=Nat.le_trans hsz hf2.size
  clear hT2 hf2
  try go_simp
  refine hKK _ _ ⟨fun _=>(⟨hO3,hO2⟩),?_⟩; clear hKK KK
  refine tkBp 8 hpan (some 116) rfl rfl (⟨hO3,hO2⟩) ?_
  refine wpO (i:=12) rfl fun KK hKK=>?_
  go_simp
  go_at_call 21
  refine (tnext_any T lo n cap (st:Int) (by omega) (by omega) _ hT).mono ?_; rintro e wc ⟨t,rfl,ht,hT2,hf2⟩
  replace hT:=hT2
  replace hF:=hF.trans hf2
  have hO3:wc.cell? ⟨O,3,none⟩=some (.int .i64 (st:Int)):=hf2.cell hO3 (fun e=>by omega)
  have hO2:wc.cell? ⟨O,2,none⟩=some (.int .i64 (syms:Int)):=hf2.cell hO2 (fun e=>by omega)
  replace hG:=hG.fr hf2 (by omega)
  replace hsz:=Nat.le_trans hsz hf2.size
  clear hT2 hf2
  try go_simp
  refine hKK _ _ ⟨fun _=>(⟨hO3,hO2⟩),?_⟩; clear hKK KK
  refine wpO (i:=15) rfl fun KK hKK=>?_
  go_simp
  go_at_call 20
  refine (tweight_any T lo n cap _ hT).mono ?_; rintro e wd ⟨v,rfl,hv,hT2,hf2⟩
  replace hT:=hT2
  replace hF:=hF.trans hf2
  have hO3:wd.cell? ⟨O,3,none⟩=some (.int .i64 (st:Int)):=hf2.cell hO3 (fun e=>by omega)
  have hO2:wd.cell? ⟨O,2,none⟩=some (.int .i64 (syms:Int)):=hf2.cell hO2 (fun e=>by omega)
  replace hG:=hG.fr hf2 (by omega)
  replace hsz:=Nat.le_trans hsz hf2.size
  clear hT2 hf2
  try go_simp
  refine hKK _ _ ⟨fun _=>(⟨hO3,hO2⟩),?_⟩; clear hKK KK
  refine tkBp 16 hpan (some 124) rfl rfl (⟨hO3,hO2⟩) ?_
  refine wpO (i:=18) rfl fun KK hKK=>?_
  rw [if_pos (by rfl)]
  with_reducible refine op_storeB 54 (.tmp 13) (.tmp 124) ?_ G 54 [.int .i64 0,.int .i64 0,.int .i64 0,.bool false,.slice none 0 0,.slice none 0 0,.int .i64 0,.bool false,.int .u64 0,.slice none 0 0,.slice none 0 0] hG ?_ (acC (f,1+l,t,v)) ?_ ?_ ?_ ?_ ?_
  ·rfl
  ·go_simp
  ·rfl
  ·show Value.agg _=Value.agg _; rw [show (1+(l:Int))=((1+l:Nat):Int) by omega]; try rfl
  ·exact acC_one1 _
  ·exact Tryz.sizeArc
  intro wz hGz hfz
  refine lN hKK ?_; clear hKK KK
  refine wpAnyD_done (by kernel_rfl) ?_ _
  refine hexit _ _ _ _ _ _ _ _ _ _ _ _ _ _ _ _ _ G (f,1+l,t,v) wz hGz hwG (by simp only; omega) (by simp only; omega) (by simp only; omega) (by simp only; omega) hv (hT.fr hfz (fun q e=>by subst e; omega)) ((hF.mono fun q _ h=>Or.inl h).trans (hfz.mono fun q _ h=>Or.inr (by subst h; exact hwG)))
end
section
open Go.RowKit
theorem aut_there (O syms st X:Nat) (iv fv av:Value) (ini fin:List Tw) (arcs:List Ac) (x:Ac) (w:World) (hA:Om w O syms st iv fv av ini fin arcs) (hla:arcs.length<=64) (hX:Bl X (acC x) 54 w)
  {c0 c1 c2 c3 c4 c5 c6 c7 c9 Aa Ab Ad Ae Af Ag Ah Ak Al Am An Ao Ap Aq Ar As Av Aw Ax Ay Az Ba Bb Bc Be Bf Bh Bi Bj Bk Bm Bn Bo Bp Bq Br Bs Bt Bu Bv Bw Bx By Bz Ca Cb Cc Cd Ce Cf Cg Ch Ci Cj Ck Cl Cm Cn Co Cp Cq Cr Ct Cu Cv Cw Cx Cy Cz Da Db Dc Dd De Df Dg Dh Di Dj Dk Dl Dn Dp Dq Dr Dt Du Dv Dw Dx Dy Dz Ea Eb Ec Ed Ee Ef Eg Eh Ei Ej Ek El Em En Eo Ep Eq Er Es Et Eu Ev Ew Ex Ey Ez Fa Fb Fc Fd Fe Ff Fg Fh Fi Fj Fk Fm Fn Fo Fp Fq Fs Ft Fu Fv Fw Fx Fy Fz Ga Gb Gc Gd Ge Gf Gg Gh Gi Gj Gk Gl Gm Gn Go Gp Gq Gr Gs Gt Gu Gv Gw Gx Gy Gz Ha Hb Hc Hd:Value} {Q0:EP} (hpan:∀ c (a:Act) d v w,Q0 (.panic c) (a.put d v) w->Q0 (.panic c) a w)
  (hexit:∀ (He Hf Hg Hh Hi Hj Hk Hl Hm Hn Ho Hp Hq Hr Hs Ht Hu Hv Hw Hx Hy Hz Ia Ib Ic Id Ie Ig Ih Ii Ij:Value) (b:Bool) (w':World),(b=false->∀ y∈arcs,¬ (y.1=x.1/\y.2.1=x.2.1))->Fr (fun _=>False) w w'->Q0 .normal ⟨#[c0,c1,c2,c3,c4,c5,c6,c7,.pointer (some ⟨O,0,none⟩),c9,Aa,Ab,Ad,.pointer (some ⟨X,0,none⟩),.bool b,He,Ae,Af,Ag,Ah,Ak,Al,Am,An,Ao,Ap,Aq,Ar,As,Av,Aw,Ax,Ay,Az,Ba,Bb,Bc,Be,Bf,Bh,Bi,Bj,Bk,Bm,Bn,Bo,Bp,Bq,Br,Bs,Bt,Bu,Bv,Bw,Bx,By,Bz,Ca,Cb,Cc,Cd,Ce,Cf,Cg,Ch,Ci,Cj,Ck,Cl,Cm,Cn,Co,Cp,Cq,Cr,Ct,Cu,Cv,Cw,Cx,Cy,Cz,Da,Db,Dc,Dd,De,Df,Dg,Dh,Di,Dj,Dk,Dl,Dn,Dp,Dq,Dr,Dt,Du,Dv,Dw,Dx,Dy,Dz,Ea,Eb,Ec,Ed,Ee,Ef,Eg,Eh,Ei,Ej,Ek,El,Em,En,Eo,Ep,Eq,Er,Es,Et,Eu,Ev,Ew,Ex,Ey,Ez,Fa,Fb,Fc,Fd,Fe,Ff,Fg,Fh,Fi,Fj,Fk,Fm,Hf,Hg,Hh,Hi,Hj,Hk,Hl,Hm,Hn,Ho,Hp,Hq,Hr,Hs,Ht,Hu,Hv,Hw,Hx,Hy,Hz,Ia,Ib,Ic,Id,Ie,Ig,Ih,Ii,Ij,Gs,Gt,Gu,Gv,Gw,Gx,Gy,Gz,Ha,Hb,Hc,Hd],[]⟩ w') :
  Code.wp Tryz.prog (wB 4) Q0 ⟨#[c0,c1,c2,c3,c4,c5,c6,c7,.pointer (some ⟨O,0,none⟩),c9,Aa,Ab,Ad,.pointer (some ⟨X,0,none⟩),.bool false,.int .i64 0,Ae,Af,Ag,Ah,Ak,Al,Am,An,Ao,Ap,Aq,Ar,As,Av,Aw,Ax,Ay,Az,Ba,Bb,Bc,Be,Bf,Bh,Bi,Bj,Bk,Bm,Bn,Bo,Bp,Bq,Br,Bs,Bt,Bu,Bv,Bw,Bx,By,Bz,Ca,Cb,Cc,Cd,Ce,Cf,Cg,Ch,Ci,Cj,Ck,Cl,Cm,Cn,Co,Cp,Cq,Cr,Ct,Cu,Cv,Cw,Cx,Cy,Cz,Da,Db,Dc,Dd,De,Df,Dg,Dh,Di,Dj,Dk,Dl,Dn,Dp,Dq,Dr,Dt,Du,Dv,Dw,Dx,Dy,Dz,Ea,Eb,Ec,Ed,Ee,Ef,Eg,Eh,Ei,Ej,Ek,El,Em,En,Eo,Ep,Eq,Er,Es,Et,Eu,Ev,Ew,Ex,Ey,Ez,Fa,Fb,Fc,Fd,Fe,Ff,Fg,Fh,Fi,Fj,Fk,Fm,Fn,Fo,Fp,Fq,Fs,Ft,Fu,Fv,Fw,Fx,Fy,Fz,Ga,Gb,Gc,Gd,Ge,Gf,Gg,Gh,Gi,Gj,Gk,Gl,Gm,Gn,Go,Gp,Gq,Gr,Gs,Gt,Gu,Gv,Gw,Gx,Gy,Gz,Ha,Hb,Hc,Hd],[]⟩ w:=by
 conv=>arg 2; whnf
 have hexit:=hid hexit
 obtain ⟨ao,ca,rfl⟩:=hA.arcs.form
 simp only [List.length_map] at hA
 have hfl:Fl 11 w ao arcs.length ca (arcs.map acC):=fl_of hA.arcs (by simp)
 obtain ⟨na,hna⟩:∃ na,arcs.length=na:=⟨_,rfl⟩
 have y6:=hA.blk.cell (i:=6) rfl
 rw [hna] at y6 hfl hla
 have x0:=hX.cell (i:=0) rfl
 have x1:=hX.cell (i:=1) rfl
 replace hna:=hid hna
 replace hA:=hid hA
 replace hX:=hid hX
 go_wp2_with fail
 go_loopw [14,15] (fun tv kv wr=>∃ (k:Nat) (b:Bool),k<=na/\kv=.int .i64 (k:Int)/\tv=.bool b/\Hid (b=false->∀ j y,j<k->arcs[j]? = some y->¬ (y.1=x.1/\y.2.1=x.2.1))/\Fr (fun _=>False) w wr) (fun _ kv _=>na-(intOf kv).toNat)
 case atStart=>exact ⟨0,false,Nat.zero_le _,rfl,rfl,hid (fun _ j y hj=>by omega),Fr.refl _ _⟩
 case round =>
  obtain ⟨k,b,hk,rfl,rfl,hno,hf⟩:=hrel
  have z6:=hf.cell y6 (fun h=>h)
  have u0:=hf.cell x0 (fun h=>h)
  have u1:=hf.cell x1 (fun h=>h)
  by_cases hlt:k<na
  ·obtain ⟨y,hy,bq,off,hao,hcs⟩:=hfl.get hlt
   have hcs2:=hcs.fr hf (fun h=>h)
   have v0:=hcs2 0 _ rfl
   have v1:=hcs2 1 _ rfl
   simp only [Nat.add_zero] at v0
   rw [hao] at z6
   have i1:(k:Int)<(na:Int):=by omega
   have i0:(0:Int)<=(k:Int):=by omega
   have hf2:=hid hf
   have hnx:Hid (∀ b',(b'=false->b=false/\¬ (y.1=x.1/\y.2.1=x.2.1))->(b'=false->∀ j y',j<k+1->arcs[j]? = some y'->¬ (y'.1=x.1/\y'.2.1=x.2.1))):=hid (fun b' hb' e j y' hj hy'=>by
    by_cases hjk:j=k
    ·subst hjk; rw [hy] at hy'; cases hy'; exact (hb' e).2
    ·exact hno.out (hb' e).1 j y' (by omega) hy')
   clear hcs hcs2 hno hf hy
   cases b with
   | true =>
    go_upto_region 24 with fail
    go_quiet (fail)
    go_wp2_with fail
    go_roundw
    case rel=>exact ⟨k+1,true,by omega,by go_num,rfl,hid (hnx.out true (fun h=>by cases h)),hf2.out.drewN _⟩
    case measure=>simp [intOf]; omega
   | false =>
    by_cases h1:y.1=x.1
    ·have k1:((y.1:Int)==(x.1:Int))=true:=by rw [beq_iff_eq]; omega
     have k1':(y.1:Int)=(x.1:Int):=by omega
     by_cases h2:y.2.1=x.2.1
     ·have k2:((y.2.1:Int)==(x.2.1:Int))=true:=by rw [beq_iff_eq]; omega
      have k2':(y.2.1:Int)=(x.2.1:Int):=by omega
      replace h1:=hid h1
      replace h2:=hid h2
      go_upto_region 24 with fail
      go_quiet (fail)
      go_wp2_with fail
      go_roundw
      case rel=>exact ⟨k+1,true,by omega,by go_num,rfl,hid (hnx.out true (fun h=>by cases h)),hf2.out.drewN _⟩
      case measure=>simp [intOf]; omega
     ·have k2:((y.2.1:Int)==(x.2.1:Int))=false:=by rw [beq_eq_false_iff_ne]; omega
      have k2':¬ (y.2.1:Int)=(x.2.1:Int):=by omega
      replace h1:=hid h1
      replace h2:=hid h2
      go_upto_region 24 with fail
      go_quiet (fail)
      go_wp2_with fail
      go_roundw
      case rel=>exact ⟨k+1,false,by omega,by go_num,rfl,hid (hnx.out false (fun _=>⟨rfl,fun h=>h2.out h.2⟩)),hf2.out.drewN _⟩
      case measure=>simp [intOf]; omega
    ·have k1:((y.1:Int)==(x.1:Int))=false:=by rw [beq_eq_false_iff_ne]; omega
     have k1':¬ (y.1:Int)=(x.1:Int):=by omega
     replace h1:=hid h1
     go_upto_region 24 with fail
     go_quiet (fail)
     go_wp2_with fail
     go_roundw
     case rel=>exact ⟨k+1,false,by omega,by go_num,rfl,hid (hnx.out false (fun _=>⟨rfl,fun h=>h1.out h.1⟩)),hf2.out.drewN _⟩
     case measure=>simp [intOf]; omega
  ·obtain rfl:k=na:=by omega
   have i1:¬ (k:Int)<(k:Int):=by omega
   have hfin:=hid (fun hb:b=false=>fun y (hy:y∈arcs)=>(by
    obtain ⟨j,hj⟩:=List.getElem?_of_mem hy
    exact hno.out hb j y (by rw [<-hna.out]; exact (List.getElem?_eq_some_iff.1 hj).1) hj:¬ (y.1=x.1/\y.2.1=x.2.1)))
   replace hf:=hid hf
   go_wp2_with fail
   exact hexit.out _ _ _ _ _ _ _ _ _ _ _ _ _ _ _ _ _ _ _ _ _ _ _ _ _ _ _ _ _ _ _ b wr hfin.out hf.out
theorem aut_arc (O syms st X:Nat) (iv fv av:Value) (ini fin:List Tw) (arcs:List Ac) (x:Ac) (w:World) (h:Om w O syms st iv fv av ini fin arcs) (hla:arcs.length<=64) (hX:Bl X (acC x) 54 w)
  {c0 c1 c2 c3 c4 c5 c6 c7 c9 Aa Ab Ad Ae Af Ag Ah Ak Al Am An Ao Ap Aq Ar As Av Aw Ax Ay Az Ba Bb Bc Be Bf Bh Bi Bj Bk Bm Bn Bo Bp Bq Br Bs Bt Bu Bv Bw Bx By Bz Ca Cb Cc Cd Ce Cf Cg Ch Ci Cj Ck Cl Cm Cn Co Cp Cq Cr Ct Cu Cv Cw Cx Cy Cz Da Db Dc Dd De Df Dg Dh Di Dj Dk Dl Dn Dp Dq Dr Dt Du Dv Dw Dx Dy Dz Ea Eb Ec Ed Ee Ef Eg Eh Ei Ej Ek El Em En Eo Ep Eq Er Es Et Eu Ev Ew Ex Ey Ez Fa Fb Fc Fd Fe Ff Fg Fh Fi Fj Fk Fm Fn Fo Fp Fq Fs Ft Fu Fv Fw Fx Fy Fz Ga Gb Gc Gd Ge Gf Gg Gh Gi Gj Gk Gl Gm Gn Go Gp Gq Gr Gs Gt Gu Gv Gw Gx Gy Gz Ha Hb Hc Hd He Hf:Value} {Q0:EP} (hpan:∀ c (a:Act) d v w,Q0 (.panic c) (a.put d v) w->Q0 (.panic c) a w)
  (hexit:∀ (Hg Hh Hi Hj Hk Hl:Value) (av':Value) (w':World),Om w' O syms st iv fv av' ini fin (arcs++[x])->Fr (fun k=>k=O\/av.ownBlock=some k) w w'->Q0 .normal ⟨#[c0,c1,c2,c3,c4,c5,c6,c7,.pointer (some ⟨O,0,none⟩),c9,Aa,Ab,Ad,.pointer (some ⟨X,0,none⟩),Ae,Af,Ag,Ah,Ak,Al,Am,An,Ao,Ap,Aq,Ar,As,Av,Aw,Ax,Ay,Az,Ba,Bb,Bc,Be,Bf,Bh,Bi,Bj,Bk,Bm,Bn,Bo,Bp,Bq,Br,Bs,Bt,Bu,Bv,Bw,Bx,By,Bz,Ca,Cb,Cc,Cd,Ce,Cf,Cg,Ch,Ci,Cj,Ck,Cl,Cm,Cn,Co,Cp,Cq,Cr,Ct,Cu,Cv,Cw,Cx,Cy,Cz,Da,Db,Dc,Dd,De,Df,Dg,Dh,Di,Dj,Dk,Dl,Dn,Dp,Dq,Dr,Dt,Du,Dv,Dw,Dx,Dy,Dz,Ea,Eb,Ec,Ed,Ee,Ef,Eg,Eh,Ei,Ej,Ek,El,Em,En,Eo,Ep,Eq,Er,Es,Et,Eu,Ev,Ew,Ex,Ey,Ez,Fa,Fb,Fc,Fd,Fe,Ff,Fg,Fh,Fi,Fj,Fk,Fm,Fn,Fo,Fp,Fq,Fs,Ft,Fu,Fv,Fw,Fx,Fy,Fz,Ga,Gb,Gc,Gd,Ge,Gf,Gg,Gh,Gi,Gj,Gk,Gl,Gm,Gn,Go,Gp,Gq,Gr,Gs,Gt,Gu,Gv,Gw,Gx,Gy,Hg,Hh,Hi,Hj,Hk,Hl,Hf],[]⟩ w') :
  Code.wp Tryz.prog (wR 26) Q0 ⟨#[c0,c1,c2,c3,c4,c5,c6,c7,.pointer (some ⟨O,0,none⟩),c9,Aa,Ab,Ad,.pointer (some ⟨X,0,none⟩),Ae,Af,Ag,Ah,Ak,Al,Am,An,Ao,Ap,Aq,Ar,As,Av,Aw,Ax,Ay,Az,Ba,Bb,Bc,Be,Bf,Bh,Bi,Bj,Bk,Bm,Bn,Bo,Bp,Bq,Br,Bs,Bt,Bu,Bv,Bw,Bx,By,Bz,Ca,Cb,Cc,Cd,Ce,Cf,Cg,Ch,Ci,Cj,Ck,Cl,Cm,Cn,Co,Cp,Cq,Cr,Ct,Cu,Cv,Cw,Cx,Cy,Cz,Da,Db,Dc,Dd,De,Df,Dg,Dh,Di,Dj,Dk,Dl,Dn,Dp,Dq,Dr,Dt,Du,Dv,Dw,Dx,Dy,Dz,Ea,Eb,Ec,Ed,Ee,Ef,Eg,Eh,Ei,Ej,Ek,El,Em,En,Eo,Ep,Eq,Er,Es,Et,Eu,Ev,Ew,Ex,Ey,Ez,Fa,Fb,Fc,Fd,Fe,Ff,Fg,Fh,Fi,Fj,Fk,Fm,Fn,Fo,Fp,Fq,Fs,Ft,Fu,Fv,Fw,Fx,Fy,Fz,Ga,Gb,Gc,Gd,Ge,Gf,Gg,Gh,Gi,Gj,Gk,Gl,Gm,Gn,Go,Gp,Gq,Gr,Gs,Gt,Gu,Gv,Gw,Gx,Gy,Gz,Ha,Hb,Hc,Hd,He,Hf],[]⟩ w:=by
 conv=>arg 2; whnf
 have hexit:=hid hexit
 obtain ⟨ao0,ac0,rfl⟩:=h.arcs.form
 simp only [List.length_map] at h hexit ⊢
 have y5:=h.blk.cell (i:=6) rfl
 have hXc:=hX.cs
 have hbN:Below w.heap.size w (w.alloc (.cells (acC x).toArray 54)):=below_alloc _
 have hnew:=Cs.fresh w (acC x) 54
 have h3:=h.next hbN
 replace hbN:=hid hbN
 go_wp2_with (first | ((with_reducible refine wp_loadArc rfl _ rfl X 0 ?_ x hXc ?_); exact rfl) | (at_builtin; refine wp_appF rfl (.tmp 179) (.tmp 181) 28 rfl 54 _ 11 152 Tryz.underlying28 Tryz.infoArc rfl (by decide) (O+1) _ _ rfl h3.arcs w.heap.size 0 1 1 [acC x] rfl rfl (by decide) (acC_len [x]) (by simp only [List.flatten_cons,List.flatten_nil,List.append_nil]; exact hnew) (acC_one [x]) (by rw [List.length_map]; omega) (by rw [List.length_map]; omega) h3.blk.lt ?_; intro v5 w5 hv5 hg5 hb5 ho5; have hO5:=h3.blk.under hb5 (Nat.lt_succ_self _); obtain ⟨ai,ki,rfl⟩:=hv5.form; have z5f:=hO5.free 6; have z5:=hO5.cell (i:=6) rfl))
 simp only [List.length_append,List.length_map,List.length_cons,List.length_nil,Nat.zero_add] at hv5 ho5 ⊢
 have hF5:=grown_fr (T:=fun k=>(Value.slice ao0 arcs.length ac0).ownBlock=some k) hg5 fun g hg=>hg
 have hF9:Fr (fun k=>k=O) w5 (w5.setCell ⟨O,6,none⟩ (.slice ai (arcs.length+1) ki)):=Fr.set (T:=fun k=>k=O) w5 (p:=⟨O,6,none⟩) rfl _
 have hi5:FO 45 8 w5 (O+1) iv (ini.map twC):=h3.ini.fr hF5 (fun g hg hg'=>own_ne' h3.arcs h3.ini (by decide) g hg' hg)
 have hf5:FO 45 8 w5 (O+1) fv (fin.map twC):=h3.fin.fr hF5 (fun g hg hg'=>own_ne' h3.arcs h3.fin (by decide) g hg' hg)
 refine hexit.out _ _ _ _ _ _ (.slice ai (arcs.length+1) ki) _ ?_ ?_
 ·refine ⟨hO5.put 6 _,hi5.fr hF9 (fun g hg e=>by have:=(hi5.lt hg).1; omega),hf5.fr hF9 (fun g hg e=>by have:=(hf5.lt hg).1; omega),by rw [List.map_append]; exact hv5.fr hF9 (fun g hg e=>by have:=(hv5.lt hg).1; omega),h.ne⟩
 ·exact (((below_fr hbN.out _).trans hF5).mono (T':=fun k=>k=O\/(Value.slice ao0 arcs.length ac0).ownBlock=some k) fun k _ h=>.inr h).trans (hF9.mono fun k _ h=>.inl h)
end
end Go.Proofs.YtnapapijhhldpaaGreatDoor

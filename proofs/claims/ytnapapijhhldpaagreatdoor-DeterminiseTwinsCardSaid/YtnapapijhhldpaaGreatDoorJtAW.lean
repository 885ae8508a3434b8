/-
  Texts joined by program: Ttb, Ttc. No condition of its own.
-/
import Derived.Test.YtnapapijhhldpaaGreatDoorJtAV
namespace Go.Proofs.YtnapapijhhldpaaGreatDoor
set_option linter.unusedSimpArgs false
set_option linter.unusedVariables false
set_option maxRecDepth 100000
set_option maxHeartbeats 4000000
section
open Go.RowKit
theorem aut_app (O syms st X Y:Nat) (iv fv av:Value) (ini fin:List Tw) (arcs:List Ac) (x y:Tw) (w:World) (h:Om w O syms st iv fv av ini fin arcs) (hli:ini.length<=64) (hlf:fin.length<=64) (hX:Bl X (twC x) 45 w) (hY:Bl Y (twC y) 45 w) (hXi:¬ iv.ownBlock=some X) (hXf:¬ fv.ownBlock=some X) (hYi:¬ iv.ownBlock=some Y) (hYf:¬ fv.ownBlock=some Y)
  {c0 c1 c2 c3 c4 c5 c6 c7 c9 Aa Ab Ad Ae Af Ag Ah Ak Al Am An Ao Ap Aq Ar As Av Aw Ax Ay Az Ba Bb Bc Be Bf Bh Bi Bj Bk Bm Bn Bo Bp Bq Br Bs Bt Bu Bv Bw Bx By Bz Ca Cb Cc Cd Ce Cf Cg Ch Ci Cj Ck Cl Cm Cn Co Cp Cq Cr Ct Cu Cv Cw Cx Cy Cz Da Db Dc Dd De Df Dg Dh Di Dj Dk Dl Dn Dp Dq Dr Dt Du Dv Dw Dx Dy Dz Ea Eb Ec Ed Ee Ef Eg Eh Ei Ej Ek El Em En Eo Ep Eq Er Es Et Eu Ev Ew Ex Ey Ez Fa Fb Fc Fd Fe Ff Fg Fh Fi Fj Fk Fm Fn Fo Fp Fq Fs Ft Fu Fv Fw Fx Fy Fz Ga Gb Gc Gd Ge Gf Gg Gh Gi Gj Gk Gl Gm Gn Go Gp Gq Gr Gs Gt Gu Gv Gw Gx Gy Gz Ha Hb Hc Hd He:Value} {Q0:EP} (hpan:∀ c (a:Act) d v w,Q0 (.panic c) (a.put d v) w->Q0 (.panic c) a w)
  (hexit:∀ (Hf Hg Hh Hi Hj Hk Hl Hm Hn Ho Hp Hq:Value) (iv' fv':Value) (w':World),Om w' O syms st iv' fv' av (ini++[x]) (fin++[y]) arcs->Fr (fun k=>k=O\/iv.ownBlock=some k\/fv.ownBlock=some k) w w'->Q0 .normal ⟨#[c0,c1,c2,c3,c4,c5,c6,c7,.pointer (some ⟨O,0,none⟩),c9,.pointer (some ⟨X,0,none⟩),.pointer (some ⟨Y,0,none⟩),Aa,Ab,Ad,Ae,Af,Ag,Ah,Ak,Al,Am,An,Ao,Ap,Aq,Ar,As,Av,Aw,Ax,Ay,Az,Ba,Bb,Bc,Be,Bf,Bh,Bi,Bj,Bk,Bm,Bn,Bo,Bp,Bq,Br,Bs,Bt,Bu,Bv,Bw,Bx,By,Bz,Ca,Cb,Cc,Cd,Ce,Cf,Cg,Ch,Ci,Cj,Ck,Cl,Cm,Cn,Co,Cp,Cq,Cr,Ct,Hf,Hg,Hh,Hi,Hj,Hk,Hl,Hm,Hn,Ho,Hp,Hq,Dg,Dh,Di,Dj,Dk,Dl,Dn,Dp,Dq,Dr,Dt,Du,Dv,Dw,Dx,Dy,Dz,Ea,Eb,Ec,Ed,Ee,Ef,Eg,Eh,Ei,Ej,Ek,El,Em,En,Eo,Ep,Eq,Er,Es,Et,Eu,Ev,Ew,Ex,Ey,Ez,Fa,Fb,Fc,Fd,Fe,Ff,Fg,Fh,Fi,Fj,Fk,Fm,Fn,Fo,Fp,Fq,Fs,Ft,Fu,Fv,Fw,Fx,Fy,Fz,Ga,Gb,Gc,Gd,Ge,Gf,Gg,Gh,Gi,Gj,Gk,Gl,Gm,Gn,Go,Gp,Gq,Gr,Gs,Gt,Gu,Gv,Gw,Gx,Gy,Gz,Ha,Hb,Hc,Hd,He],[]⟩ w') :
  Code.wp Tryz.prog (wR 11) Q0 ⟨#[c0,c1,c2,c3,c4,c5,c6,c7,.pointer (some ⟨O,0,none⟩),c9,.pointer (some ⟨X,0,none⟩),.pointer (some ⟨Y,0,none⟩),Aa,Ab,Ad,Ae,Af,Ag,Ah,Ak,Al,Am,An,Ao,Ap,Aq,Ar,As,Av,Aw,Ax,Ay,Az,Ba,Bb,Bc,Be,Bf,Bh,Bi,Bj,Bk,Bm,Bn,Bo,Bp,Bq,Br,Bs,Bt,Bu,Bv,Bw,Bx,By,Bz,Ca,Cb,Cc,Cd,Ce,Cf,Cg,Ch,Ci,Cj,Ck,Cl,Cm,Cn,Co,Cp,Cq,Cr,Ct,Cu,Cv,Cw,Cx,Cy,Cz,Da,Db,Dc,Dd,De,Df,Dg,Dh,Di,Dj,Dk,Dl,Dn,Dp,Dq,Dr,Dt,Du,Dv,Dw,Dx,Dy,Dz,Ea,Eb,Ec,Ed,Ee,Ef,Eg,Eh,Ei,Ej,Ek,El,Em,En,Eo,Ep,Eq,Er,Es,Et,Eu,Ev,Ew,Ex,Ey,Ez,Fa,Fb,Fc,Fd,Fe,Ff,Fg,Fh,Fi,Fj,Fk,Fm,Fn,Fo,Fp,Fq,Fs,Ft,Fu,Fv,Fw,Fx,Fy,Fz,Ga,Gb,Gc,Gd,Ge,Gf,Gg,Gh,Gi,Gj,Gk,Gl,Gm,Gn,Go,Gp,Gq,Gr,Gs,Gt,Gu,Gv,Gw,Gx,Gy,Gz,Ha,Hb,Hc,Hd,He],[]⟩ w:=by
 conv=>arg 2; whnf
 have hdr:=(Below.refl w.heap.size w).drew
 have h1:=h.next hdr
 obtain ⟨hO,hi,hfi,ha,hne⟩:=h1
 replace hX:=(hX.next hdr).cs
 replace hY:=(hY.next hdr).cs
 have hiv0:∀ q,w.heap.size<=q->¬ iv.ownBlock=some q:=fun q hq e=>by have:=(h.ini.lt e).2; omega
 have hfv0:∀ q,w.heap.size<=q->¬ fv.ownBlock=some q:=fun q hq e=>by have:=(h.fin.lt e).2; omega
 have hF:Fr (fun k=>k=O\/iv.ownBlock=some k\/fv.ownBlock=some k) w w.drew:=below_fr hdr _
 have hsz:w.heap.size<=w.drew.heap.size:=hdr.size
 have hOw:O+1<=w.heap.size:=h.blk.lt
 have hS:(w.drew.cell? ⟨O,4,none⟩=some iv/\w.drew.cell? ⟨O,5,none⟩=some fv)/\Cs w.drew X 0 (twC x)/\Cs w.drew Y 0 (twC y):=⟨⟨hO.cell rfl,hO.cell rfl⟩,hX,hY⟩
 clear hdr
 refine wp_region_D (fun w'=>(w'.cell? ⟨O,4,none⟩=some iv/\w'.cell? ⟨O,5,none⟩=some fv)/\Cs w' X 0 (twC x)/\Cs w' Y 0 (twC y)) [11,12,13] (by kernel_rfl) ?_
 refine tkBl 0 hpan (some 75) (v:=?_) rfl rfl ?_ hS ?_
 rotate_left
 ·intro wz _; first | (have a1:=hw.1.1; have a2:=hw.1.2; go_simp; done) | (go_simp; done) | (go_simp; with_reducible rfl)
 refine tkBl 1 hpan (some 76) (v:=?_) rfl rfl ?_ hS ?_
 rotate_left
 ·intro wz hw; first | (have a1:=hw.1.1; have a2:=hw.1.2; go_simp; done) | (go_simp; done) | (go_simp; with_reducible rfl)
 refine tkBm 2 hpan (some 77) (v:=?_) rfl rfl ?_ hS ?_
 rotate_left
 ·intro wz hw; refine exec_loadTw X 0 ?_ x hw.2.1; go_simp
 refine tkBl 5 hpan (some 80) (v:=?_) rfl rfl ?_ hS ?_
 rotate_left
 ·intro wz _; first | (have a1:=hw.1.1; have a2:=hw.1.2; go_simp; done) | (go_simp; done) | (go_simp; with_reducible rfl)
 refine tkBl 6 hpan (some 81) (v:=?_) rfl rfl ?_ hS ?_
 rotate_left
 ·intro wz hw; first | (have a1:=hw.1.1; have a2:=hw.1.2; go_simp; done) | (go_simp; done) | (go_simp; with_reducible rfl)
 refine tkBm 7 hpan (some 82) (v:=?_) rfl rfl ?_ hS ?_
 rotate_left
 ·intro wz hw; refine exec_loadTw Y 0 ?_ y hw.2.2; go_simp
 go_simp
 refine wpAnyD_two (i:=3) (j:=8) ?_ rfl rfl (fun KK hKK=>?_) (fun KK hKK=>?_)
 ·kernel_rfl
 ·skip
  obtain ⟨wa,hwa⟩:∃ z,w.drew.alloc (.cells (twC x).toArray 45)=z:=⟨_,rfl⟩
  obtain ⟨lb3,hlb3⟩:∃ z,w.drew.heap.size=z:=⟨_,rfl⟩
  have hbl:Below w.drew.heap.size w.drew wa:=by rw [<-hwa]; exact below_alloc _
  have hn3:Cs wa lb3 0 (twC x):=by rw [<-hwa,<-hlb3]; exact Cs.fresh _ _ _
  have hllb3:w.heap.size<=lb3:=by rw [<-hlb3]; exact hsz
  replace hsz:w.heap.size<=wa.heap.size:=Nat.le_trans hsz hbl.size
  replace hO:=hO.next hbl
  replace hi:=hi.next hbl
  replace hfi:=hfi.next hbl
  replace ha:=ha.next hbl
  replace hX:=hX.next hbl
  replace hY:=hY.next hbl
  replace hF:=hF.trans (below_fr hbl _)
  go_simp
  try simp only [hwa,hlb3]
  clear hbl
  refine hKK _ _ ⟨fun _=>(⟨⟨hO.cell rfl,hO.cell rfl⟩,hX,hY⟩),?_⟩; clear hKK KK
  refine wpAnyD_two (i:=4) (j:=8) ?_ rfl rfl (fun KK hKK=>?_) (fun KK hKK=>?_)
  ·kernel_rfl
  ·skip
   rw [if_pos (by rfl)]
   refine op_appF (.tmp 76) (.tmp 78) 27 rfl 45 (.agg #[.bool false,.slice none 0 0,.slice none 0 0,.int .i64 0,.bool false,.int .u64 0,.slice none 0 0,.slice none 0 0]) 8 128 Tryz.underlying27 Tryz.infoTw rfl (by decide) (O+1) iv _ rfl hi lb3 0 1 1 [twC x] rfl rfl (by decide) (twC_len [x]) (by simpa using hn3) (twC_one [x]) (by rw [List.length_map]; omega) (by rw [List.length_map]; omega) (Nat.le_trans hOw hsz) ?_
   intro iv' wb hi5 hg5 hb5 ho5
   have hF5:Fr (fun k=>iv.ownBlock=some k) wa wb:=grown_fr hg5 fun g hg=>hg
   replace hO:=hO.under hb5 (Nat.lt_succ_self _)
   have hr5:∀ g,iv'.ownBlock=some g->fv.ownBlock≠some g:=fun g hg hg'=>by
    rcases ho5 with h | h
    ·exact hne g (h▸hg) hg'
    ·have e1:wa.heap.size=g:=Option.some.inj (h.symm.trans hg)
     have:=(hfi.lt hg').2; omega
   replace hfi:=hfi.fr hF5 (fun g hg hg'=>hne g hg' hg)
   replace ha:=ha.fr hF5 (fun g hg hg'=>own_ne' hi ha (by decide) g hg' hg)
   have hiv:∀ q,w.heap.size<=q->¬ iv.ownBlock=some q:=fun q hq=>hiv0 q hq
   replace hX:=hX.fr hF5 hXi
   replace hY:=hY.fr hF5 hYi
   replace hF:=hF.trans (hF5.mono fun k _ h=>Or.inr (Or.inl h))
   replace hsz:w.heap.size<=wb.heap.size:=Nat.le_trans hsz hF5.size
   replace hi:=hi5
   clear hi5
   refine hKK _ _ ⟨fun _=>(⟨⟨hO.cell rfl,hO.cell rfl⟩,hX,hY⟩),?_⟩; clear hKK KK
   refine tkBl 10 hpan (some 85) (v:=?_) rfl rfl ?_ (⟨⟨hO.cell rfl,hO.cell rfl⟩,hX,hY⟩) ?_
   rotate_left
   ·intro wz _; first | (have a1:=hw.1.1; have a2:=hw.1.2; go_simp; done) | (go_simp; done) | (go_simp; with_reducible rfl)
   refine wpO (i:=8) rfl fun KK hKK=>?_
   obtain ⟨wc,hwc⟩:∃ z,wb.alloc (.cells (twC y).toArray 45)=z:=⟨_,rfl⟩
   obtain ⟨lb8,hlb8⟩:∃ z,wb.heap.size=z:=⟨_,rfl⟩
   have hbl:Below wb.heap.size wb wc:=by rw [<-hwc]; exact below_alloc _
   have hn8:Cs wc lb8 0 (twC y):=by rw [<-hwc,<-hlb8]; exact Cs.fresh _ _ _
   have hllb8:w.heap.size<=lb8:=by rw [<-hlb8]; exact hsz
   replace hsz:w.heap.size<=wc.heap.size:=Nat.le_trans hsz hbl.size
   replace hO:=hO.next hbl
   replace hi:=hi.next hbl
   replace hfi:=hfi.next hbl
   replace ha:=ha.next hbl
   replace hX:=hX.next hbl
   replace hY:=hY.next hbl
   replace hF:=hF.trans (below_fr hbl _)
   go_simp
   try simp only [hwc,hlb8]
   clear hbl
   refine hKK _ _ ⟨fun _=>(⟨⟨hO.cell rfl,hO.cell rfl⟩,hX,hY⟩),?_⟩; clear hKK KK
   refine wpO (i:=9) rfl fun KK hKK=>?_
   rw [if_pos (by rfl)]
   refine op_appF (.tmp 81) (.tmp 83) 27 rfl 45 (.agg #[.bool false,.slice none 0 0,.slice none 0 0,.int .i64 0,.bool false,.int .u64 0,.slice none 0 0,.slice none 0 0]) 8 128 Tryz.underlying27 Tryz.infoTw rfl (by decide) (O+1) fv _ rfl hfi lb8 0 1 1 [twC y] rfl rfl (by decide) (twC_len [y]) (by simpa using hn8) (twC_one [y]) (by rw [List.length_map]; omega) (by rw [List.length_map]; omega) (Nat.le_trans hOw hsz) ?_
   intro fv' wd hf9 hg9 hb9 ho9
   have hF9:Fr (fun k=>fv.ownBlock=some k) wc wd:=grown_fr hg9 fun g hg=>hg
   replace hO:=hO.under hb9 (Nat.lt_succ_self _)
   have hr9:∀ g,iv'.ownBlock=some g->fv'.ownBlock≠some g:=fun g hg hg'=>by
    rcases ho9 with h | h
    ·exact hr5 g hg (h▸hg')
    ·have e1:wc.heap.size=g:=Option.some.inj (h.symm.trans hg')
     have:=(hi.lt hg).2; omega
   replace hi:=hi.fr hF9 (fun g hg hg'=>hr5 g hg hg')
   replace ha:=ha.fr hF9 (fun g hg hg'=>own_ne' hfi ha (by decide) g hg' hg)
   replace hX:=hX.fr hF9 hXf
   replace hY:=hY.fr hF9 hYf
   replace hF:=hF.trans (hF9.mono fun k _ h=>Or.inr (Or.inr h))
   obtain ⟨ai,ki,hiv'⟩:=hi.form
   obtain ⟨af,kf,hfv'⟩:=hf9.form
   subst hiv' hfv'
   have y4:=hO.cell (i:=4) rfl
   have y4f:=hO.free 4
   have y5:=hO.cell (i:=5) rfl
   have y5f:=hO.free 5
   refine hKK _ _ ⟨fun _=>(⟨⟨hO.cell rfl,hO.cell rfl⟩,hX,hY⟩),?_⟩; clear hKK KK
   refine wpO (i:=11) rfl fun KK hKK=>?_
   go_simp
   refine lN hKK ?_; clear hKK KK
   refine wpO (i:=12) rfl fun KK hKK=>?_
   go_simp
   refine lN hKK ?_; clear hKK KK
   refine wpO (i:=13) rfl fun KK hKK=>?_
   go_simp
   refine lN hKK ?_; clear hKK KK
   refine wpAnyD_done (by kernel_rfl) ?_ _
   have hF10:Fr (fun k=>k=O) wd ((wd.setCell ⟨O,4,none⟩ (.slice ai (ini.length+1) ki)).setCell ⟨O,5,none⟩ (.slice af (fin.length+1) kf)):=(Fr.set (T:=fun k=>k=O) wd (p:=⟨O,4,none⟩) rfl _).trans (Fr.set (T:=fun k=>k=O) _ (p:=⟨O,5,none⟩) rfl _)
   simp only [List.length_append,List.length_map,List.length_cons,List.length_nil] at *
   refine hexit _ _ _ _ _ _ _ _ _ _ _ _ (.slice ai (ini.length+1) ki) (.slice af (fin.length+1) kf) _ ?_ ?_
   ·refine ⟨(hO.put 4 _).put 5 _,?_,?_,?_,?_⟩
    ·rw [List.map_append]; exact hi.fr hF10 (fun g hg e=>by have:=(hi.lt hg).1; omega)
    ·rw [List.map_append]; exact hf9.fr hF10 (fun g hg e=>by have:=(hf9.lt hg).1; omega)
    ·exact ha.fr hF10 (fun g hg e=>by have:=(ha.lt hg).1; omega)
    ·exact hr9
   ·exact hF.trans (hF10.mono fun k _ h=>Or.inl h)
  ·skip
   obtain ⟨wc,hwc⟩:∃ z,wa.alloc (.cells (twC y).toArray 45)=z:=⟨_,rfl⟩
   obtain ⟨lb8,hlb8⟩:∃ z,wa.heap.size=z:=⟨_,rfl⟩
   have hbl:Below wa.heap.size wa wc:=by rw [<-hwc]; exact below_alloc _
   have hn8:Cs wc lb8 0 (twC y):=by rw [<-hwc,<-hlb8]; exact Cs.fresh _ _ _
   have hllb8:w.heap.size<=lb8:=by rw [<-hlb8]; exact hsz
   replace hsz:w.heap.size<=wc.heap.size:=Nat.le_trans hsz hbl.size
   replace hO:=hO.next hbl
   replace hi:=hi.next hbl
   replace hfi:=hfi.next hbl
   replace ha:=ha.next hbl
   replace hX:=hX.next hbl
   replace hY:=hY.next hbl
   replace hF:=hF.trans (below_fr hbl _)
   replace hn3:=hn3.next hbl
   go_simp
   try simp only [hwc,hlb8]
   clear hbl
   refine hKK _ _ ⟨fun _=>(⟨⟨hO.cell rfl,hO.cell rfl⟩,hX,hY⟩),?_⟩; clear hKK KK
   refine wpO (i:=4) rfl fun KK hKK=>?_
   rw [if_pos (by rfl)]
   refine op_appF (.tmp 76) (.tmp 78) 27 rfl 45 (.agg #[.bool false,.slice none 0 0,.slice none 0 0,.int .i64 0,.bool false,.int .u64 0,.slice none 0 0,.slice none 0 0]) 8 128 Tryz.underlying27 Tryz.infoTw rfl (by decide) (O+1) iv _ rfl hi lb3 0 1 1 [twC x] rfl rfl (by decide) (twC_len [x]) (by simpa using hn3) (twC_one [x]) (by rw [List.length_map]; omega) (by rw [List.length_map]; omega) (Nat.le_trans hOw hsz) ?_
   intro iv' wb hi5 hg5 hb5 ho5
   have hF5:Fr (fun k=>iv.ownBlock=some k) wc wb:=grown_fr hg5 fun g hg=>hg
   replace hO:=hO.under hb5 (Nat.lt_succ_self _)
   have hr5:∀ g,iv'.ownBlock=some g->fv.ownBlock≠some g:=fun g hg hg'=>by
    rcases ho5 with h | h
    ·exact hne g (h▸hg) hg'
    ·have e1:wc.heap.size=g:=Option.some.inj (h.symm.trans hg)
     have:=(hfi.lt hg').2; omega
   replace hfi:=hfi.fr hF5 (fun g hg hg'=>hne g hg' hg)
   replace ha:=ha.fr hF5 (fun g hg hg'=>own_ne' hi ha (by decide) g hg' hg)
   have hiv:∀ q,w.heap.size<=q->¬ iv.ownBlock=some q:=fun q hq=>hiv0 q hq
   replace hX:=hX.fr hF5 hXi
   replace hY:=hY.fr hF5 hYi
   replace hF:=hF.trans (hF5.mono fun k _ h=>Or.inr (Or.inl h))
   replace hsz:w.heap.size<=wb.heap.size:=Nat.le_trans hsz hF5.size
   replace hn8:=hn8.fr hF5 (hiv _ hllb8)
   replace hi:=hi5
   clear hi5
   refine hKK _ _ ⟨fun _=>(⟨⟨hO.cell rfl,hO.cell rfl⟩,hX,hY⟩),?_⟩; clear hKK KK
   refine tkBl 10 hpan (some 85) (v:=?_) rfl rfl ?_ (⟨⟨hO.cell rfl,hO.cell rfl⟩,hX,hY⟩) ?_
   rotate_left
   ·intro wz _; first | (have a1:=hw.1.1; have a2:=hw.1.2; go_simp; done) | (go_simp; done) | (go_simp; with_reducible rfl)
   refine wpO (i:=9) rfl fun KK hKK=>?_
   rw [if_pos (by rfl)]
   refine op_appF (.tmp 81) (.tmp 83) 27 rfl 45 (.agg #[.bool false,.slice none 0 0,.slice none 0 0,.int .i64 0,.bool false,.int .u64 0,.slice none 0 0,.slice none 0 0]) 8 128 Tryz.underlying27 Tryz.infoTw rfl (by decide) (O+1) fv _ rfl hfi lb8 0 1 1 [twC y] rfl rfl (by decide) (twC_len [y]) (by simpa using hn8) (twC_one [y]) (by rw [List.length_map]; omega) (by rw [List.length_map]; omega) (Nat.le_trans hOw hsz) ?_
   intro fv' wd hf9 hg9 hb9 ho9
   have hF9:Fr (fun k=>fv.ownBlock=some k) wb wd:=grown_fr hg9 fun g hg=>hg
   replace hO:=hO.under hb9 (Nat.lt_succ_self _)
   have hr9:∀ g,iv'.ownBlock=some g->fv'.ownBlock≠some g:=fun g hg hg'=>by
    rcases ho9 with h | h
    ·exact hr5 g hg (h▸hg')
    ·have e1:wb.heap.size=g:=Option.some.inj (h.symm.trans hg')
     have:=(hi.lt hg).2; omega
   replace hi:=hi.fr hF9 (fun g hg hg'=>hr5 g hg hg')
   replace ha:=ha.fr hF9 (fun g hg hg'=>own_ne' hfi ha (by decide) g hg' hg)
   replace hX:=hX.fr hF9 hXf
   replace hY:=hY.fr hF9 hYf
   replace hF:=hF.trans (hF9.mono fun k _ h=>Or.inr (Or.inr h))
   obtain ⟨ai,ki,hiv'⟩:=hi.form
   obtain ⟨af,kf,hfv'⟩:=hf9.form
   subst hiv' hfv'
   have y4:=hO.cell (i:=4) rfl
   have y4f:=hO.free 4
   have y5:=hO.cell (i:=5) rfl
   have y5f:=hO.free 5
   refine hKK _ _ ⟨fun _=>(⟨⟨hO.cell rfl,hO.cell rfl⟩,hX,hY⟩),?_⟩; clear hKK KK
   refine wpO (i:=11) rfl fun KK hKK=>?_
   go_simp
   refine lN hKK ?_; clear hKK KK
   refine wpO (i:=12) rfl fun KK hKK=>?_
   go_simp
   refine lN hKK ?_; clear hKK KK
   refine wpO (i:=13) rfl fun KK hKK=>?_
   go_simp
   refine lN hKK ?_; clear hKK KK
   refine wpAnyD_done (by kernel_rfl) ?_ _
   have hF10:Fr (fun k=>k=O) wd ((wd.setCell ⟨O,4,none⟩ (.slice ai (ini.length+1) ki)).setCell ⟨O,5,none⟩ (.slice af (fin.length+1) kf)):=(Fr.set (T:=fun k=>k=O) wd (p:=⟨O,4,none⟩) rfl _).trans (Fr.set (T:=fun k=>k=O) _ (p:=⟨O,5,none⟩) rfl _)
   simp only [List.length_append,List.length_map,List.length_cons,List.length_nil] at *
   refine hexit _ _ _ _ _ _ _ _ _ _ _ _ (.slice ai (ini.length+1) ki) (.slice af (fin.length+1) kf) _ ?_ ?_
   ·refine ⟨(hO.put 4 _).put 5 _,?_,?_,?_,?_⟩
    ·rw [List.map_append]; exact hi.fr hF10 (fun g hg e=>by have:=(hi.lt hg).1; omega)
    ·rw [List.map_append]; exact hf9.fr hF10 (fun g hg e=>by have:=(hf9.lt hg).1; omega)
    ·exact ha.fr hF10 (fun g hg e=>by have:=(ha.lt hg).1; omega)
    ·exact hr9
   ·exact hF.trans (hF10.mono fun k _ h=>Or.inl h)
 ·skip
  obtain ⟨wc,hwc⟩:∃ z,w.drew.alloc (.cells (twC y).toArray 45)=z:=⟨_,rfl⟩
  obtain ⟨lb8,hlb8⟩:∃ z,w.drew.heap.size=z:=⟨_,rfl⟩
  have hbl:Below w.drew.heap.size w.drew wc:=by rw [<-hwc]; exact below_alloc _
  have hn8:Cs wc lb8 0 (twC y):=by rw [<-hwc,<-hlb8]; exact Cs.fresh _ _ _
  have hllb8:w.heap.size<=lb8:=by rw [<-hlb8]; exact hsz
  replace hsz:w.heap.size<=wc.heap.size:=Nat.le_trans hsz hbl.size
  replace hO:=hO.next hbl
  replace hi:=hi.next hbl
  replace hfi:=hfi.next hbl
  replace ha:=ha.next hbl
  replace hX:=hX.next hbl
  replace hY:=hY.next hbl
  replace hF:=hF.trans (below_fr hbl _)
  go_simp
  try simp only [hwc,hlb8]
  clear hbl
  refine hKK _ _ ⟨fun _=>(⟨⟨hO.cell rfl,hO.cell rfl⟩,hX,hY⟩),?_⟩; clear hKK KK
  refine wpO (i:=3) rfl fun KK hKK=>?_
  obtain ⟨wa,hwa⟩:∃ z,wc.alloc (.cells (twC x).toArray 45)=z:=⟨_,rfl⟩
  obtain ⟨lb3,hlb3⟩:∃ z,wc.heap.size=z:=⟨_,rfl⟩
  have hbl:Below wc.heap.size wc wa:=by rw [<-hwa]; exact below_alloc _
  have hn3:Cs wa lb3 0 (twC x):=by rw [<-hwa,<-hlb3]; exact Cs.fresh _ _ _
  have hllb3:w.heap.size<=lb3:=by rw [<-hlb3]; exact hsz
  replace hsz:w.heap.size<=wa.heap.size:=Nat.le_trans hsz hbl.size
  replace hO:=hO.next hbl
  replace hi:=hi.next hbl
  replace hfi:=hfi.next hbl
  replace ha:=ha.next hbl
  replace hX:=hX.next hbl
  replace hY:=hY.next hbl
  replace hF:=hF.trans (below_fr hbl _)
  replace hn8:=hn8.next hbl
  go_simp
  try simp only [hwa,hlb3]
  clear hbl
  refine hKK _ _ ⟨fun _=>(⟨⟨hO.cell rfl,hO.cell rfl⟩,hX,hY⟩),?_⟩; clear hKK KK
  refine wpO (i:=4) rfl fun KK hKK=>?_
  rw [if_pos (by rfl)]
  refine op_appF (.tmp 76) (.tmp 78) 27 rfl 45 (.agg #[.bool false,.slice none 0 0,.slice none 0 0,.int .i64 0,.bool false,.int .u64 0,.slice none 0 0,.slice none 0 0]) 8 128 Tryz.underlying27 Tryz.infoTw rfl (by decide) (O+1) iv _ rfl hi lb3 0 1 1 [twC x] rfl rfl (by decide) (twC_len [x]) (by simpa using hn3) (twC_one [x]) (by rw [List.length_map]; omega) (by rw [List.length_map]; omega) (Nat.le_trans hOw hsz) ?_
  intro iv' wb hi5 hg5 hb5 ho5
  have hF5:Fr (fun k=>iv.ownBlock=some k) wa wb:=grown_fr hg5 fun g hg=>hg
  replace hO:=hO.under hb5 (Nat.lt_succ_self _)
  have hr5:∀ g,iv'.ownBlock=some g->fv.ownBlock≠some g:=fun g hg hg'=>by
   rcases ho5 with h | h
   ·exact hne g (h▸hg) hg'
   ·have e1:wa.heap.size=g:=Option.some.inj (h.symm.trans hg)
    have:=(hfi.lt hg').2; omega
  replace hfi:=hfi.fr hF5 (fun g hg hg'=>hne g hg' hg)
  replace ha:=ha.fr hF5 (fun g hg hg'=>own_ne' hi ha (by decide) g hg' hg)
  have hiv:∀ q,w.heap.size<=q->¬ iv.ownBlock=some q:=fun q hq=>hiv0 q hq
  replace hX:=hX.fr hF5 hXi
  replace hY:=hY.fr hF5 hYi
  replace hF:=hF.trans (hF5.mono fun k _ h=>Or.inr (Or.inl h))
  replace hsz:w.heap.size<=wb.heap.size:=Nat.le_trans hsz hF5.size
  replace hn8:=hn8.fr hF5 (hiv _ hllb8)
  replace hi:=hi5
  clear hi5
  refine hKK _ _ ⟨fun _=>(⟨⟨hO.cell rfl,hO.cell rfl⟩,hX,hY⟩),?_⟩; clear hKK KK
  refine tkBl 10 hpan (some 85) (v:=?_) rfl rfl ?_ (⟨⟨hO.cell rfl,hO.cell rfl⟩,hX,hY⟩) ?_
  rotate_left
  ·intro wz _; first | (have a1:=hw.1.1; have a2:=hw.1.2; go_simp; done) | (go_simp; done) | (go_simp; with_reducible rfl)
  refine wpO (i:=9) rfl fun KK hKK=>?_
  rw [if_pos (by rfl)]
  refine op_appF (.tmp 81) (.tmp 83) 27 rfl 45 (.agg #[.bool false,.slice none 0 0,.slice none 0 0,.int .i64 0,.bool false,.int .u64 0,.slice none 0 0,.slice none 0 0]) 8 128 Tryz.underlying27 Tryz.infoTw rfl (by decide) (O+1) fv _ rfl hfi lb8 0 1 1 [twC y] rfl rfl (by decide) (twC_len [y]) (by simpa using hn8) (twC_one [y]) (by rw [List.length_map]; omega) (by rw [List.length_map]; omega) (Nat.le_trans hOw hsz) ?_
  intro fv' wd hf9 hg9 hb9 ho9
  have hF9:Fr (fun k=>fv.ownBlock=some k) wb wd:=grown_fr hg9 fun g hg=>hg
  replace hO:=hO.under hb9 (Nat.lt_succ_self _)
  have hr9:∀ g,iv'.ownBlock=some g->fv'.ownBlock≠some g:=fun g hg hg'=>by
   rcases ho9 with h | h
   ·exact hr5 g hg (h▸hg')
   ·have e1:wb.heap.size=g:=Option.some.inj (h.symm.trans hg')
    have:=(hi.lt hg).2; omega
  replace hi:=hi.fr hF9 (fun g hg hg'=>hr5 g hg hg')
  replace ha:=ha.fr hF9 (fun g hg hg'=>own_ne' hfi ha (by decide) g hg' hg)
  replace hX:=hX.fr hF9 hXf
  replace hY:=hY.fr hF9 hYf
  replace hF:=hF.trans (hF9.mono fun k _ h=>Or.inr (Or.inr h))
  obtain ⟨ai,ki,hiv'⟩:=hi.form
  obtain ⟨af,kf,hfv'⟩:=hf9.form
  subst hiv' hfv'
  have y4:=hO.cell (i:=4) rfl
  have y4f:=hO.free 4
  have y5:=hO.cell (i:=5) rfl
  have y5f:=hO.free 5
  refine hKK _ _ ⟨fun _=>(⟨⟨hO.cell rfl,hO.cell rfl⟩,hX,hY⟩),?_⟩; clear hKK KK
  refine wpO (i:=11) rfl fun KK hKK=>?_
  go_simp
  refine lN hKK ?_; clear hKK KK
  refine wpO (i:=12) rfl fun KK hKK=>?_
  go_simp
  refine lN hKK ?_; clear hKK KK
  refine wpO (i:=13) rfl fun KK hKK=>?_
  go_simp
  refine lN hKK ?_; clear hKK KK
  refine wpAnyD_done (by kernel_rfl) ?_ _
  have hF10:Fr (fun k=>k=O) wd ((wd.setCell ⟨O,4,none⟩ (.slice ai (ini.length+1) ki)).setCell ⟨O,5,none⟩ (.slice af (fin.length+1) kf)):=(Fr.set (T:=fun k=>k=O) wd (p:=⟨O,4,none⟩) rfl _).trans (Fr.set (T:=fun k=>k=O) _ (p:=⟨O,5,none⟩) rfl _)
  simp only [List.length_append,List.length_map,List.length_cons,List.length_nil] at *
  refine hexit _ _ _ _ _ _ _ _ _ _ _ _ (.slice ai (ini.length+1) ki) (.slice af (fin.length+1) kf) _ ?_ ?_
  ·refine ⟨(hO.put 4 _).put 5 _,?_,?_,?_,?_⟩
   ·rw [List.map_append]; exact hi.fr hF10 (fun g hg e=>by have:=(hi.lt hg).1; omega)
   ·rw [List.map_append]; exact hf9.fr hF10 (fun g hg e=>by have:=(hf9.lt hg).1; omega)
   ·exact ha.fr hF10 (fun g hg e=>by have:=(ha.lt hg).1; omega)
   ·exact hr9
  ·exact hF.trans (hF10.mono fun k _ h=>Or.inl h)
end
section
open Go.RowKit
structure Ai (w:World) (O syms st s:Nat) (sg:Bool) (iv fv:Value) (ini fin:List Tw):Prop where
 om:Om w O syms st iv fv (.slice none 0 0) ini fin []
 li:ini.length=s
 lf:fin.length=s
 bi:∀ v∈ini,tc v<=5
 bf:∀ v∈fin,tc v<=5
 one:sg=true->∀ q c,ini[q]? = some (some c)->q=0
theorem ai_more {sg:Bool} {s:Nat} {ini fin:List Tw} {x y:Tw} {w:World} {O syms st:Nat} {iv fv:Value} (h1:ini.length=s) (h2:fin.length=s) (h3:∀ v∈ini,tc v<=5) (h4:∀ v∈fin,tc v<=5) (h5:sg=true->∀ q c,ini[q]? = some (some c)->q=0) (hx:tc x<=5) (hy:tc y<=5) (h6:sg=true->s≠0->x=none) (ho:Om w O syms st iv fv (.slice none 0 0) (ini++[x]) (fin++[y]) []):Ai w O syms st (s+1) sg iv fv (ini++[x]) (fin++[y]) :=
 ⟨ho,by simp [h1],by simp [h2],fun v hv=>by
  rcases List.mem_append.1 hv with hv | hv
  ·exact h3 v hv
  ·rw [List.mem_singleton.1 hv]; exact hx,fun v hv=>by
  rcases List.mem_append.1 hv with hv | hv
  ·exact h4 v hv
  ·rw [List.mem_singleton.1 hv]; exact hy,fun hs q c hq=>by
  by_cases hlt:q<s
  ·rw [List.getElem?_append_left (by omega)] at hq; exact h5 hs q c hq
  ·rw [List.getElem?_append_right (by omega)] at hq
   by_cases hq0:q=0
   ·exact hq0
   ·have hs0:s≠0:=fun e=>by
     have:=(List.getElem?_eq_some_iff.1 hq).1
     simp at this; omega
    rw [h6 hs hs0] at hq
    obtain ⟨h7,h8⟩:=List.getElem?_eq_some_iff.1 hq
    simp at h8⟩
theorem aut_sts (T:Nat) (lo:OA) (n cap:Nat) (PB O syms st:Nat) (kst ksy:Int) (fw sg:Bool) (w:World) (hP:Bl PB [.int .i64 kst,.int .i64 ksy,.bool fw,.bool sg,.slice lo n cap] 24 w) (hTa:Ta w T lo n cap) (hPT:PB<T) (hTO:T<O) (hst:st<=64) (hA0:Ai w O syms st 0 sg (.slice none 0 0) (.slice none 0 0) [] [])
  {c0 c2 c4 c5 c6 Aa Ab Ad Ae Af Ag Ah Ak Al Am An Ao Ap Aq Ar As Av Aw Ax Ay Az Ba Bb Bc Be Bf Bh Bi Bj Bk Bm Bn Bo Bp Bq Br Bs Bt Bu Bv Bw Bx By Bz Ca Cb Cc Cd Ce Cf Cg Ch Ci Cj Ck Cl Cm Cn Co Cp Cq Cr Ct Cu Cv Cw Cx Cy Cz Da Db Dc Dd De Df Dg Dh Di Dj Dk Dl Dn Dp Dq Dr Dt Du Dv Dw Dx Dy Dz Ea Eb Ec Ed Ee Ef Eg Eh Ei Ej Ek El Em En Eo Ep Eq Er Es Et Eu Ev Ew Ex Ey Ez Fa Fb Fc Fd Fe Ff Fg Fh Fi Fj Fk Fm Fn Fo Fp Fq Fs Ft Fu Fv Fw Fx Fy Fz Ga Gb Gc Gd Ge Gf Gg Gh Gi Gj Gk Gl Gm Gn Go Gp Gq Gr Gs Gt Gu Gv Gw Gx Gy Gz Ha Hb Hc Hd He Hf Hg:Value} {Q0:EP} (hpan:∀ c (a:Act) d v w,Q0 (.panic c) (a.put d v) w->Q0 (.panic c) a w)
  (hexit:∀ (u9 Hh Hi Hj Hk Hl Hm Hn Ho Hp Hq Hr Hs Ht Hu Hv Hw Hx Hy Hz Ia Ib Ic Id Ie Ig Ih Ii Ij Ik Il Im Io Ip Iq Ir It Iu Iv Iw Ix Iy Iz Ja Jb Jc Jd Je Jf Jg Jh Ji Jj Jk Jl Jm Jn Jo:Value) (iv' fv':Value) (ini fin:List Tw) (w':World),Ai w' O syms st st sg iv' fv' ini fin->Ta w' T lo n cap->Below T w w'->Q0 .normal ⟨#[c0,.int .i64 2,c2,.pointer (some ⟨PB,0,none⟩),c4,c5,c6,.pointer (some ⟨T,0,none⟩),.pointer (some ⟨O,0,none⟩),u9,Hh,Hi,Ad,Ae,Af,Ag,Ah,Ak,Al,Am,An,Ao,Ap,Aq,Ar,As,Av,Aw,Ax,Ay,Az,Ba,Hj,Hk,Hl,Hm,Hn,Ho,Hp,Hq,Hr,Hs,Ht,Hu,Hv,Hw,Hx,Hy,Hz,Ia,Ib,Ic,Id,Ie,Ig,Ih,Ii,Ij,Ik,Il,Im,Io,Ip,Iq,Ir,It,Iu,Iv,Iw,Ix,Iy,Iz,Ja,Jb,Jc,Jd,Je,Jf,Jg,Jh,Ji,Jj,Jk,Jl,Jm,Jn,Jo,Di,Dj,Dk,Dl,Dn,Dp,Dq,Dr,Dt,Du,Dv,Dw,Dx,Dy,Dz,Ea,Eb,Ec,Ed,Ee,Ef,Eg,Eh,Ei,Ej,Ek,El,Em,En,Eo,Ep,Eq,Er,Es,Et,Eu,Ev,Ew,Ex,Ey,Ez,Fa,Fb,Fc,Fd,Fe,Ff,Fg,Fh,Fi,Fj,Fk,Fm,Fn,Fo,Fp,Fq,Fs,Ft,Fu,Fv,Fw,Fx,Fy,Fz,Ga,Gb,Gc,Gd,Ge,Gf,Gg,Gh,Gi,Gj,Gk,Gl,Gm,Gn,Go,Gp,Gq,Gr,Gs,Gt,Gu,Gv,Gw,Gx,Gy,Gz,Ha,Hb,Hc,Hd,He,Hf,Hg],[]⟩ w') :
  Code.wp Tryz.prog (wB 0) Q0 ⟨#[c0,.int .i64 2,c2,.pointer (some ⟨PB,0,none⟩),c4,c5,c6,.pointer (some ⟨T,0,none⟩),.pointer (some ⟨O,0,none⟩),.int .i64 0,Aa,Ab,Ad,Ae,Af,Ag,Ah,Ak,Al,Am,An,Ao,Ap,Aq,Ar,As,Av,Aw,Ax,Ay,Az,Ba,Bb,Bc,Be,Bf,Bh,Bi,Bj,Bk,Bm,Bn,Bo,Bp,Bq,Br,Bs,Bt,Bu,Bv,Bw,Bx,By,Bz,Ca,Cb,Cc,Cd,Ce,Cf,Cg,Ch,Ci,Cj,Ck,Cl,Cm,Cn,Co,Cp,Cq,Cr,Ct,Cu,Cv,Cw,Cx,Cy,Cz,Da,Db,Dc,Dd,De,Df,Dg,Dh,Di,Dj,Dk,Dl,Dn,Dp,Dq,Dr,Dt,Du,Dv,Dw,Dx,Dy,Dz,Ea,Eb,Ec,Ed,Ee,Ef,Eg,Eh,Ei,Ej,Ek,El,Em,En,Eo,Ep,Eq,Er,Es,Et,Eu,Ev,Ew,Ex,Ey,Ez,Fa,Fb,Fc,Fd,Fe,Ff,Fg,Fh,Fi,Fj,Fk,Fm,Fn,Fo,Fp,Fq,Fs,Ft,Fu,Fv,Fw,Fx,Fy,Fz,Ga,Gb,Gc,Gd,Ge,Gf,Gg,Gh,Gi,Gj,Gk,Gl,Gm,Gn,Go,Gp,Gq,Gr,Gs,Gt,Gu,Gv,Gw,Gx,Gy,Gz,Ha,Hb,Hc,Hd,He,Hf,Hg],[]⟩ w:=by
 conv=>arg 2; whnf
 have hexit:=hid hexit
 replace hA0:=hid hA0
 replace hTa:=hid hTa
 replace hP:=hid hP
 go_wp2_with fail
 go_loopw [9] (fun sv wr=>∃ (s:Nat) (iv1 fv1:Value) (ini fin:List Tw),s<=st/\sv=.int .i64 (s:Int)/\Ai wr O syms st s sg iv1 fv1 ini fin/\Ta wr T lo n cap/\Below T w wr) (fun sv _=>st-(intOf sv).toNat)
 case atStart=>exact ⟨0,_,_,[],[],Nat.zero_le _,rfl,hA0.out,hTa.out,Below.refl _ _⟩
 case round =>
  obtain ⟨s,iv1,fv1,ini,fin,hs,rfl,hA,hT,hb⟩:=hrel
  have y3:=hA.om.blk.cell (i:=3) rfl
  replace hA:=hid hA
  replace hT:=hid hT
  replace hb:=hid hb
  have hTw:=hid hTa.out.lt
  have hTwr:=hid hT.out.lt
  have hOwr:=hid hA.out.om.blk.lt
  by_cases hlt:s<st
  ·have i1:(s:Int)<(st:Int):=by omega
   go_wp2_with fail
   refine (tweight_any T lo n cap wr hT.out).mono ?_; rintro e w1 ⟨x,rfl,hx,hT1,hf1⟩
   replace hT1:=hid hT1
   replace hf1:=hid hf1
   go_wp2_with fail
   refine (tweight_any T lo n cap w1 hT1.out).mono ?_; rintro e w2 ⟨y,rfl,hy,hT2,hf2⟩
   have hf12:=hid (hf1.out.trans hf2)
   replace hT2:=hid hT2
   replace hf2:=hid hf2
   have hbA:Below w2.heap.size w2 ((w2.alloc (.cells #[.bool false,.slice none 0 0,.slice none 0 0,.int .i64 0,.bool false,.int .u64 0,.slice none 0 0,.slice none 0 0] 45)).alloc (.cells #[.bool false,.slice none 0 0,.slice none 0 0,.int .i64 0,.bool false,.int .u64 0,.slice none 0 0,.slice none 0 0] 45)):=below_chain (below_alloc _) (below_alloc _)
   have hX0:=(Bl.fresh w2 [.bool false,.slice none 0 0,.slice none 0 0,.int .i64 0,.bool false,.int .u64 0,.slice none 0 0,.slice none 0 0] 45).new (.cells #[.bool false,.slice none 0 0,.slice none 0 0,.int .i64 0,.bool false,.int .u64 0,.slice none 0 0,.slice none 0 0] 45)
   have hY0:=Bl.fresh' (G:=w2.heap.size+1) (w2.alloc (.cells #[.bool false,.slice none 0 0,.slice none 0 0,.int .i64 0,.bool false,.int .u64 0,.slice none 0 0,.slice none 0 0] 45)) [.bool false,.slice none 0 0,.slice none 0 0,.int .i64 0,.bool false,.int .u64 0,.slice none 0 0,.slice none 0 0] 45 (by simp)
   go_upto_region 7 with (first | ((with_reducible refine wp_storeBTw rfl _ _ rfl w2.heap.size 45 _ hX0 ?_ x rfl ?_ ?_); exact rfl; exact rfl; intro w3 hX3 hf3; have hY3:=hY0.fr hf3 (by omega)) | ((with_reducible refine wp_storeBTw rfl _ _ rfl (w2.heap.size+1) 45 _ hY3 ?_ y rfl ?_ ?_); exact rfl; exact rfl; intro w4 hY4 hf4))
   have hX4:=hX3.fr hf4 (by omega)
   have hsz2:=hf12.out.size
   obtain ⟨X,hXe⟩:∃ X,w2.heap.size=X:=⟨_,rfl⟩
   have hf34:Fr (fun q=>w2.heap.size<=q) ((w2.alloc (.cells #[.bool false,.slice none 0 0,.slice none 0 0,.int .i64 0,.bool false,.int .u64 0,.slice none 0 0,.slice none 0 0] 45)).alloc (.cells #[.bool false,.slice none 0 0,.slice none 0 0,.int .i64 0,.bool false,.int .u64 0,.slice none 0 0,.slice none 0 0] 45)) w4:=(hf3.mono fun q _ e=>by omega).trans (hf4.mono fun q _ e=>by omega)
   have hb4:Below w2.heap.size w2 w4:=hbA.trans (hf34.below (fun q e=>e) hbA.size)
   rw [hXe] at hX4 hY4 ⊢
   have hT4:=hid (hT2.out.next hb4)
   have hb24:=hid (hb.out.trans ((hf12.out.below (fun q e=>by subst e; exact Nat.le_refl _) (Nat.le_of_lt hTwr.out)).trans (hb4.mono (by have:=hTwr.out; omega))))
   have hA4:=hid (show Ai w4 O syms st s sg iv1 fv1 ini fin from ⟨(hA.out.om.fr hf12.out (fun q hq e=>by have:=(hA.out.om.lt hq).1; omega)).next hb4,hA.out.li,hA.out.lf,hA.out.bi,hA.out.bf,hA.out.one⟩)
   have hXi:Hid (¬ iv1.ownBlock=some X):=hid fun e=>by have:=(hA.out.om.ini.lt e).2; omega
   have hXf:Hid (¬ fv1.ownBlock=some X):=hid fun e=>by have:=(hA.out.om.fin.lt e).2; omega
   have hYi:Hid (¬ iv1.ownBlock=some (X+1)):=hid fun e=>by have:=(hA.out.om.ini.lt e).2; omega
   have hYf:Hid (¬ fv1.ownBlock=some (X+1)):=hid fun e=>by have:=(hA.out.om.fin.lt e).2; omega
   obtain ⟨Y,hYe⟩:∃ Y,X+1=Y:=⟨_,rfl⟩
   rw [hYe] at hY4 hYi hYf ⊢
   have hXT:T<X:=by have:=hTwr.out; omega
   have hXO:O<X:=by have:=hOwr.out; omega
   replace hX4:=hid hX4
   replace hY4:=hid hY4
   have hP4:=hid (hP.out.under hb24.out hPT)
   clear hX0 hY0 hX3 hY3 hbA hf3 hf4 hf34 hb4 hXe hsz2
   refine aut_b7 T lo n cap PB s kst ksy fw sg w4 hP4.out hT4.out hPT hpan ?_
   intro Jp Jq Jr Js Jt Ju Jv Jw Jx Jy Jz Ka Kb Kc b w5 hbs hT5 hf5
   have hA5:=hid (show Ai w5 O syms st s sg iv1 fv1 ini fin from ⟨hA4.out.om.fr hf5 (fun q hq e=>by have:=(hA4.out.om.lt hq).1; omega),hA.out.li,hA.out.lf,hA.out.bi,hA.out.bf,hA.out.one⟩)
   have hX5:=hid (hX4.out.fr hf5 (by omega))
   have hY5:=hid (hY4.out.fr hf5 (by omega))
   have hb5:=hid (hb24.out.trans (hf5.below (fun q e=>by subst e; exact Nat.le_refl _) (Nat.le_trans (Nat.le_of_lt hTw.out) hb24.out.size)))
   replace hT5:=hid hT5
   replace hf5:=hid hf5
   replace hbs:=hid hbs
   have z0:=hA5.out.om.blk.cell (i:=0) rfl
   have z1:=hA5.out.om.blk.cell (i:=1) rfl
   cases b with
   | true =>
    go_wp2_with fail
    refine (rZeroT_any w5).mono ?_; rintro e w6 ⟨rfl,hb6⟩
    have hX6b:=hX5.out.next hb6
    go_upto_region 9 with ((with_reducible refine wp_storeBTw rfl _ _ rfl X 45 _ hX6b ?_ none rfl ?_ ?_); exact rfl; exact rfl; intro w7 hX7 hf7)
    have hXY:Y≠X:=by omega
    have hY7:=hid ((hY5.out.next hb6).fr hf7 (by omega))
    have hT7:=hid ((hT5.out.next hb6).fr hf7 (fun q e=>by omega))
    have hO7:=hid (show Ai w7 O syms st s sg iv1 fv1 ini fin from ⟨(hA5.out.om.next hb6).fr hf7 (fun q hq e=>by
      subst e
      rcases hq with rfl | hq | hq | hq
      ·omega
      ·exact hXi.out hq
      ·exact hXf.out hq
      ·cases hq),hA.out.li,hA.out.lf,hA.out.bi,hA.out.bf,hA.out.one⟩)
    have hb7:=hid (hb5.out.trans ((hb6.mono (by have:=hT5.out.lt; omega)).trans (hf7.below (fun q e=>by omega) (by have:=hT5.out.lt; have:=hb6.size; omega))))
    replace hX7:=hid hX7
    have q3:=hO7.out.om.blk.cell (i:=3) rfl
    clear hX6b hb6 hf7 z0 z1
    refine aut_b9 T lo n cap O s st w7 q3 hst hT7.out hTO hpan ?_
    intro Kd Ke Kf Kg Kh Ki Kj Kk Kl b2 w8 hT8 hf8
    have hX8:=hid (hX7.out.fr hf8 (by omega))
    have hY8:=hid (hY7.out.fr hf8 (by omega))
    have hO8:=hid (show Ai w8 O syms st s sg iv1 fv1 ini fin from ⟨hO7.out.om.fr hf8 (fun q hq e=>by have:=(hO7.out.om.lt hq).1; omega),hA.out.li,hA.out.lf,hA.out.bi,hA.out.bf,hA.out.one⟩)
    have hb8:=hid (hb7.out.trans (hf8.below (fun q e=>by subst e; exact Nat.le_refl _) (Nat.le_trans (Nat.le_of_lt hTw.out) hb7.out.size)))
    replace hT8:=hid hT8
    replace hf8:=hid hf8
    clear q3
    have z0:=hO8.out.om.blk.cell (i:=0) rfl
    have z1:=hO8.out.om.blk.cell (i:=1) rfl
    cases b2 with
    | true =>
     go_wp2_with fail
     refine (rZeroT_any w8).mono ?_; rintro e wx ⟨rfl,hbx⟩
     have hYxb:=hY8.out.next hbx
     go_upto_region 11 with ((with_reducible refine wp_storeBTw rfl _ _ rfl Y 45 _ hYxb ?_ none rfl ?_ ?_); exact rfl; exact rfl; intro wy hYy hfy)
     have hXy:=hid ((hX8.out.next hbx).fr hfy (by omega))
     have hTy:=hid ((hT8.out.next hbx).fr hfy (fun q e=>by omega))
     have hOy:=hid (show Ai wy O syms st s sg iv1 fv1 ini fin from ⟨(hO8.out.om.next hbx).fr hfy (fun q hq e=>by
      subst e
      rcases hq with rfl | hq | hq | hq
      ·omega
      ·exact hYi.out hq
      ·exact hYf.out hq
      ·cases hq),hA.out.li,hA.out.lf,hA.out.bi,hA.out.bf,hA.out.one⟩)
     have hby:=hid (hb8.out.trans ((hbx.mono (by have:=hT8.out.lt; omega)).trans (hfy.below (fun q e=>by omega) (by have:=hT8.out.lt; have:=hbx.size; omega))))
     replace hYy:=hid hYy
     clear hYxb hbx hfy z0 z1
     refine aut_app O syms st X Y iv1 fv1 (.slice none 0 0) ini fin [] none none wy (hOy.out).om (by rw [hA.out.li]; omega) (by rw [hA.out.lf]; omega) hXy.out hYy.out hXi.out hXf.out hYi.out hYf.out hpan ?_
     intro Km Kn Ko Kp Kq Kr Ks Kt Ku Kv Kw Kx iv2 fv2 w9 hO9 hf9
     have hA9:=hid (ai_more (sg:=sg) hA.out.li hA.out.lf hA.out.bi hA.out.bf hA.out.one (Nat.zero_le _) (Nat.zero_le _) (fun _ _=>rfl) hO9)
     have hT9:=hid ((hTy.out).fr hf9 (fun q e=>by
      rcases e with rfl | e | e
      ·exact hTO
      ·have:=(hOy.out.om.ini.lt e).1; omega
      ·have:=(hOy.out.om.fin.lt e).1; omega))
     have hF9:=hid ((hby.out).trans (hf9.below (fun q e=>by
      rcases e with rfl | e | e
      ·omega
      ·have:=(hOy.out.om.ini.lt e).1; omega
      ·have:=(hOy.out.om.fin.lt e).1; omega) (Nat.le_trans (Nat.le_of_lt hTw.out) (hby.out).size)))
     clear hO9 hf9
     go_wp2_with fail
     go_roundw
     case rel=>exact ⟨s+1,iv2,fv2,_,_,by omega,by go_num,hA9.out,hT9.out,hF9.out⟩
     case measure=>simp [intOf]; omega
    | false =>
     clear z0 z1
     go_upto_region 11 with fail
     refine aut_app O syms st X Y iv1 fv1 (.slice none 0 0) ini fin [] none y w8 (hO8.out).om (by rw [hA.out.li]; omega) (by rw [hA.out.lf]; omega) hX8.out hY8.out hXi.out hXf.out hYi.out hYf.out hpan ?_
     intro Km Kn Ko Kp Kq Kr Ks Kt Ku Kv Kw Kx iv2 fv2 w9 hO9 hf9
     have hA9:=hid (ai_more (sg:=sg) hA.out.li hA.out.lf hA.out.bi hA.out.bf hA.out.one (Nat.zero_le _) hy (fun _ _=>rfl) hO9)
     have hT9:=hid ((hT8.out).fr hf9 (fun q e=>by
      rcases e with rfl | e | e
      ·exact hTO
      ·have:=(hO8.out.om.ini.lt e).1; omega
      ·have:=(hO8.out.om.fin.lt e).1; omega))
     have hF9:=hid ((hb8.out).trans (hf9.below (fun q e=>by
      rcases e with rfl | e | e
      ·omega
      ·have:=(hO8.out.om.ini.lt e).1; omega
      ·have:=(hO8.out.om.fin.lt e).1; omega) (Nat.le_trans (Nat.le_of_lt hTw.out) (hb8.out).size)))
     clear hO9 hf9
     go_wp2_with fail
     go_roundw
     case rel=>exact ⟨s+1,iv2,fv2,_,_,by omega,by go_num,hA9.out,hT9.out,hF9.out⟩
     case measure=>simp [intOf]; omega
   | false =>
    have hXY:Y≠X:=by omega
    have q3:=hA5.out.om.blk.cell (i:=3) rfl
    go_upto_region 9 with fail
    refine aut_b9 T lo n cap O s st w5 q3 hst hT5.out hTO hpan ?_
    intro Kd Ke Kf Kg Kh Ki Kj Kk Kl b2 w8 hT8 hf8
    have hX8:=hid (hX5.out.fr hf8 (by omega))
    have hY8:=hid (hY5.out.fr hf8 (by omega))
    have hO8:=hid (show Ai w8 O syms st s sg iv1 fv1 ini fin from ⟨hA5.out.om.fr hf8 (fun q hq e=>by have:=(hA5.out.om.lt hq).1; omega),hA.out.li,hA.out.lf,hA.out.bi,hA.out.bf,hA.out.one⟩)
    have hb8:=hid (hb5.out.trans (hf8.below (fun q e=>by subst e; exact Nat.le_refl _) (Nat.le_trans (Nat.le_of_lt hTw.out) hb5.out.size)))
    replace hT8:=hid hT8
    replace hf8:=hid hf8
    clear q3
    have z0:=hO8.out.om.blk.cell (i:=0) rfl
    have z1:=hO8.out.om.blk.cell (i:=1) rfl
    cases b2 with
    | true =>
     go_wp2_with fail
     refine (rZeroT_any w8).mono ?_; rintro e wx ⟨rfl,hbx⟩
     have hYxb:=hY8.out.next hbx
     go_upto_region 11 with ((with_reducible refine wp_storeBTw rfl _ _ rfl Y 45 _ hYxb ?_ none rfl ?_ ?_); exact rfl; exact rfl; intro wy hYy hfy)
     have hXy:=hid ((hX8.out.next hbx).fr hfy (by omega))
     have hTy:=hid ((hT8.out.next hbx).fr hfy (fun q e=>by omega))
     have hOy:=hid (show Ai wy O syms st s sg iv1 fv1 ini fin from ⟨(hO8.out.om.next hbx).fr hfy (fun q hq e=>by
      subst e
      rcases hq with rfl | hq | hq | hq
      ·omega
      ·exact hYi.out hq
      ·exact hYf.out hq
      ·cases hq),hA.out.li,hA.out.lf,hA.out.bi,hA.out.bf,hA.out.one⟩)
     have hby:=hid (hb8.out.trans ((hbx.mono (by have:=hT8.out.lt; omega)).trans (hfy.below (fun q e=>by omega) (by have:=hT8.out.lt; have:=hbx.size; omega))))
     replace hYy:=hid hYy
     clear hYxb hbx hfy z0 z1
     refine aut_app O syms st X Y iv1 fv1 (.slice none 0 0) ini fin [] x none wy (hOy.out).om (by rw [hA.out.li]; omega) (by rw [hA.out.lf]; omega) hXy.out hYy.out hXi.out hXf.out hYi.out hYf.out hpan ?_
     intro Km Kn Ko Kp Kq Kr Ks Kt Ku Kv Kw Kx iv2 fv2 w9 hO9 hf9
     have hA9:=hid (ai_more (sg:=sg) hA.out.li hA.out.lf hA.out.bi hA.out.bf hA.out.one hx (Nat.zero_le _) (fun h1 h2=>absurd (hbs.out h1 (by first | exact trivial | rfl)) h2) hO9)
     have hT9:=hid ((hTy.out).fr hf9 (fun q e=>by
      rcases e with rfl | e | e
      ·exact hTO
      ·have:=(hOy.out.om.ini.lt e).1; omega
      ·have:=(hOy.out.om.fin.lt e).1; omega))
     have hF9:=hid ((hby.out).trans (hf9.below (fun q e=>by
      rcases e with rfl | e | e
      ·omega
      ·have:=(hOy.out.om.ini.lt e).1; omega
      ·have:=(hOy.out.om.fin.lt e).1; omega) (Nat.le_trans (Nat.le_of_lt hTw.out) (hby.out).size)))
     clear hO9 hf9
     go_wp2_with fail
     go_roundw
     case rel=>exact ⟨s+1,iv2,fv2,_,_,by omega,by go_num,hA9.out,hT9.out,hF9.out⟩
     case measure=>simp [intOf]; omega
    | false =>
     clear z0 z1
     go_upto_region 11 with fail
     refine aut_app O syms st X Y iv1 fv1 (.slice none 0 0) ini fin [] x y w8 (hO8.out).om (by rw [hA.out.li]; omega) (by rw [hA.out.lf]; omega) hX8.out hY8.out hXi.out hXf.out hYi.out hYf.out hpan ?_
     intro Km Kn Ko Kp Kq Kr Ks Kt Ku Kv Kw Kx iv2 fv2 w9 hO9 hf9
     have hA9:=hid (ai_more (sg:=sg) hA.out.li hA.out.lf hA.out.bi hA.out.bf hA.out.one hx hy (fun h1 h2=>absurd (hbs.out h1 (by first | exact trivial | rfl)) h2) hO9)
     have hT9:=hid ((hT8.out).fr hf9 (fun q e=>by
      rcases e with rfl | e | e
      ·exact hTO
      ·have:=(hO8.out.om.ini.lt e).1; omega
      ·have:=(hO8.out.om.fin.lt e).1; omega))
     have hF9:=hid ((hb8.out).trans (hf9.below (fun q e=>by
      rcases e with rfl | e | e
      ·omega
      ·have:=(hO8.out.om.ini.lt e).1; omega
      ·have:=(hO8.out.om.fin.lt e).1; omega) (Nat.le_trans (Nat.le_of_lt hTw.out) (hb8.out).size)))
     clear hO9 hf9
     go_wp2_with fail
     go_roundw
     case rel=>exact ⟨s+1,iv2,fv2,_,_,by omega,by go_num,hA9.out,hT9.out,hF9.out⟩
     case measure=>simp [intOf]; omega
  ·obtain rfl:s=st:=by omega
   have i1:¬ (s:Int)<(s:Int):=by omega
   go_wp2_with fail
   exact hexit.out _ _ _ _ _ _ _ _ _ _ _ _ _ _ _ _ _ _ _ _ _ _ _ _ _ _ _ _ _ _ _ _ _ _ _ _ _ _ _ _ _ _ _ _ _ _ _ _ _ _ _ _ _ _ _ _ _ _ iv1 fv1 ini fin wr hA.out hT.out hb.out
end
end Go.Proofs.YtnapapijhhldpaaGreatDoor

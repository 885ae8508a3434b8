/-
  Texts joined by program: Trq, Trr. No condition of its own.
-/
import Derived.Test.YtnapapijhhldpaaGreatDoorJcBG
namespace Go.Proofs.YtnapapijhhldpaaGreatDoor
set_option linter.unusedSimpArgs false
set_option linter.unusedVariables false
section
open Go.RowKit
noncomputable def rK (n:Nat):Code:=(Tryz.f71.body.bind (findB n)).getD .skip
noncomputable def rKr (n:Nat):Code:=(Tryz.f71.body.bind (findR n)).getD .skip
theorem Cs.fr {T:Nat→Prop} {w w':World} {b o:Nat} {cs:List Value} (h:Cs w b o cs) (hf:Fr T w w') (hT:¬ T b):Cs w' b o cs:=fun c v hv=>hf.cell (h c v hv) hT
theorem exec_loadWs {dst:Option Tmp} {ty':TypeId} {pos:String} {after:Array Edge} {guard:Option (Nat×Bool)} {x:Operand} {a:Act} {w:World} (b off:Nat) (hx:a.eval x=.pointer (some ⟨b,off,none⟩)) (v:Value) (hc:w.cell? ⟨b,off,none⟩=some v) :
  (execOp a.eval ⟨dst,.load 27 x,ty',pos,after,guard⟩).run Tryz.prog w=.ok (.value v) w:=exec_load1 b off hx v hc _ Tryz.underlying27 rfl
set_option maxRecDepth 100000 in
set_option maxHeartbeats 4000000 in
theorem keep_app (syms:Nat) (A:Au) (io:Option Addr) (ci:Nat) (fo:Option Addr) (cf:Nat) (ro:Option Addr) (nr cr:Nat) (O G n i b1 o1 b2 o2:Nat) (hio:io=some ⟨b1,o1,none⟩) (hfo:fo=some ⟨b2,o2,none⟩) (hi0:i<A.st) (hst:A.st≤64) (x y:Tw) (iv fv av:Value) (ini fin:List Tw) (arcs:List Ac) (w:World) (h:Om w O syms n iv fv av ini fin arcs) (hi:ini.length≤64) (hf:fin.length≤64) (hG:Cs w G 0 (auC syms A.st (.slice io A.st ci) (.slice fo A.st cf) (.slice ro nr cr))) (hGO:G<O) (hx:Cs w b1 (o1+i*8) (twC x)) (hb1:b1<O) (hy:Cs w b2 (o2+i*8) (twC y)) (hb2:b2<O)
  (c0 c1 c3 c4 c6 c8 c9 Aa Ab Ad Ae Af Ag Ah Ak Al Am An Ao Ap Aq Ar As Av Aw Ax Ay Az Ba Bb Bc Be Bf Bh Bi Bj Bk Bm Bn Bo Bp Bq Br Bs Bt Bu Bv Bw Bx By Bz Ca Cb Cc Cd Ce Cf Cg Ch Ci Cj Ck Cl Cm Cn Co Cp Cq Cr Ct Cu Cv Cw Cx Cy Cz Da Db Dc Dd De Df Dg Dh Di Dj Dk Dl Dn Dp Dq Dr Dt Du Dv Dw Dx Dy Dz:Value) (Q0:Exit→Act→World→Prop) (hpan:∀ c (a:Act) d v w,Q0 (.panic c) (a.put d v) w→Q0 (.panic c) a w)
  (hexit:∀ (Ea Eb Ec Ed Ee Ef Eg Eh Ei Ej Ek El Em En Eo Ep Eq Er Es Et:Value) (iv' fv':Value) (w':World),Om w' O syms n iv' fv' av (ini++[x]) (fin++[y]) arcs→Fr (fun k=>k=O∨iv.ownBlock=some k∨fv.ownBlock=some k) w w'→Q0 .normal ⟨#[c0,c1,.pointer (some ⟨G,0,none⟩),c3,c4,.pointer (some ⟨O,0,none⟩),c6,.int .i64 (i:Int),c8,c9,Aa,Ab,Ad,Ae,Af,Ag,Ah,Ak,Al,Am,An,Ao,Ap,Aq,Ar,As,Av,Aw,Ax,Ay,Az,Ba,Bb,Bc,Be,Bf,Bh,Ea,Eb,Ec,Ed,Ee,Ef,Eg,Eh,Ei,Ej,Ek,El,Em,En,Eo,Ep,Eq,Er,Es,Et,Cd,Ce,Cf,Cg,Ch,Ci,Cj,Ck,Cl,Cm,Cn,Co,Cp,Cq,Cr,Ct,Cu,Cv,Cw,Cx,Cy,Cz,Da,Db,Dc,Dd,De,Df,Dg,Dh,Di,Dj,Dk,Dl,Dn,Dp,Dq,Dr,Dt,Du,Dv,Dw,Dx,Dy,Dz],[]⟩ w') :
  Code.wp Tryz.prog (rKr 9) Q0 ⟨#[c0,c1,.pointer (some ⟨G,0,none⟩),c3,c4,.pointer (some ⟨O,0,none⟩),c6,.int .i64 (i:Int),c8,c9,Aa,Ab,Ad,Ae,Af,Ag,Ah,Ak,Al,Am,An,Ao,Ap,Aq,Ar,As,Av,Aw,Ax,Ay,Az,Ba,Bb,Bc,Be,Bf,Bh,Bi,Bj,Bk,Bm,Bn,Bo,Bp,Bq,Br,Bs,Bt,Bu,Bv,Bw,Bx,By,Bz,Ca,Cb,Cc,Cd,Ce,Cf,Cg,Ch,Ci,Cj,Ck,Cl,Cm,Cn,Co,Cp,Cq,Cr,Ct,Cu,Cv,Cw,Cx,Cy,Cz,Da,Db,Dc,Dd,De,Df,Dg,Dh,Di,Dj,Dk,Dl,Dn,Dp,Dq,Dr,Dt,Du,Dv,Dw,Dx,Dy,Dz],[]⟩ w:=by
 conv=>arg 2; whnf
 subst hio hfo
 have i1:(i:Int)<(A.st:Int):=by omega
 have i0:(0:Int)≤(i:Int):=by omega
 have hdr:=(Below.refl w.heap.size w).drew
 have h1:=h.next hdr
 have hS0:(w.drew.cell? ⟨O,4,none⟩=some iv∧w.drew.cell? ⟨O,5,none⟩=some fv)∧Cs w.drew G 0 (auC syms A.st (.slice (some ⟨b1,o1,none⟩) A.st ci) (.slice (some ⟨b2,o2,none⟩) A.st cf) (.slice ro nr cr))∧Cs w.drew b1 (o1+i*8) (twC x)∧Cs w.drew b2 (o2+i*8) (twC y):=⟨⟨h1.blk.cell rfl,h1.blk.cell rfl⟩,hG.next hdr,hx.next hdr,hy.next hdr⟩
 have hK:∀ w',Below (O+1) w.drew w'→((w'.cell? ⟨O,4,none⟩=some iv∧w'.cell? ⟨O,5,none⟩=some fv)∧Cs w' G 0 (auC syms A.st (.slice (some ⟨b1,o1,none⟩) A.st ci) (.slice (some ⟨b2,o2,none⟩) A.st cf) (.slice ro nr cr))∧Cs w' b1 (o1+i*8) (twC x)∧Cs w' b2 (o2+i*8) (twC y)):=fun w' hb =>
  ⟨⟨(hb.cell (p:=⟨O,4,none⟩) (Nat.lt_succ_self _)).trans hS0.1.1,(hb.cell (p:=⟨O,5,none⟩) (Nat.lt_succ_self _)).trans hS0.1.2⟩,hS0.2.1.below hb (by omega),hS0.2.2.1.below hb (by omega),hS0.2.2.2.below hb (by omega)⟩
 have hS:=hS0
 have hbx:Below (O+1) w.drew w.drew:=Below.refl _ _
 have hFr:Fr (fun k=>iv.ownBlock=some k∨fv.ownBlock=some k) w.drew w.drew:=Fr.refl _ _
 have hI:=h1.ini
 have hFn:=h1.fin
 have ha:=h1.arcs
 have hO:=h1.blk
 have hne:=h1.ne
 have hOw:O+1≤w.drew.heap.size:=hO.lt
 have hIw:∀ k,iv.ownBlock=some k→k<w.drew.heap.size:=fun k e=>(hI.lt e).2
 refine wp_region_D (fun w'=>(w'.cell? ⟨O,4,none⟩=some iv∧w'.cell? ⟨O,5,none⟩=some fv)∧Cs w' G 0 (auC syms A.st (.slice (some ⟨b1,o1,none⟩) A.st ci) (.slice (some ⟨b2,o2,none⟩) A.st cf) (.slice ro nr cr))∧Cs w' b1 (o1+i*8) (twC x)∧Cs w' b2 (o2+i*8) (twC y)) [19,20,21] (by kernel_rfl) ?_
 refine wpThp hpan (some 37) (i:=0) rfl rfl hS ?_
 refine wpTh hpan (some 38) (i:=1) (v:=?_) rfl rfl (Or.inl ⟨by rfl,?_⟩) hS ?_
 rotate_left
 ·intro wz hw; refine exec_loadWs O 4 ?_ (iv) (hw.1.1); go_simp
 refine wpThp hpan (some 39) (i:=2) rfl rfl hS ?_
 refine wpTh hpan (some 40) (i:=3) (v:=?_) rfl rfl (Or.inl ⟨by rfl,?_⟩) hS ?_
 rotate_left
 ·intro wz hw; refine exec_loadWs G 4 ?_ (.slice (some ⟨b1,o1,none⟩) A.st ci) (by have h:=hw.2.1 4 _ rfl; simpa using h); go_simp
 refine wpThp hpan (some 41) (i:=4) rfl rfl hS ?_
 refine wpThp hpan (some 42) (i:=5) rfl rfl hS ?_
 refine wpTh hpan (some 43) (i:=6) (v:=?_) rfl rfl (Or.inl ⟨by rfl,?_⟩) hS ?_
 rotate_left
 ·intro wz hw; refine exec_loadTw b1 (o1+i*8) ?_ x hw.2.2.1; go_simp
 refine wpThp hpan (some 46) (i:=9) rfl rfl hS ?_
 refine wpTh hpan (some 47) (i:=10) (v:=?_) rfl rfl (Or.inl ⟨by rfl,?_⟩) hS ?_
 rotate_left
 ·intro wz hw; refine exec_loadWs O 5 ?_ (fv) (hw.1.2); go_simp
 refine wpThp hpan (some 48) (i:=11) rfl rfl hS ?_
 refine wpTh hpan (some 49) (i:=12) (v:=?_) rfl rfl (Or.inl ⟨by rfl,?_⟩) hS ?_
 rotate_left
 ·intro wz hw; refine exec_loadWs G 5 ?_ (.slice (some ⟨b2,o2,none⟩) A.st cf) (by have h:=hw.2.1 5 _ rfl; simpa using h); go_simp
 refine wpThp hpan (some 50) (i:=13) rfl rfl hS ?_
 refine wpThp hpan (some 51) (i:=14) rfl rfl hS ?_
 refine wpTh hpan (some 52) (i:=15) (v:=?_) rfl rfl (Or.inl ⟨by rfl,?_⟩) hS ?_
 rotate_left
 ·intro wz hw; refine exec_loadTw b2 (o2+i*8) ?_ y hw.2.2.2; go_simp
 go_simp
 refine wpAnyD_two (i:=7) (j:=16) ?_ rfl rfl (fun KK hKK=>?_) (fun KK hKK=>?_)
 ·kernel_rfl
 ·skip
  have hbN7:Below w.drew.heap.size w.drew (w.drew.alloc (.cells (twC x).toArray 45)):=below_alloc _
  have hB7:w.drew.heap.size≤w.drew.heap.size:=hFr.size
  have hn7:=Cs.fresh w.drew (twC x) 45
  replace hI:=hI.next hbN7
  replace hFn:=hFn.next hbN7
  replace ha:=ha.next hbN7
  replace hO:=hO.next hbN7
  replace hbx:=hbx.trans (hbN7.mono (Nat.le_trans hOw hFr.size))
  replace hFr:=hFr.trans (below_fr hbN7 _)
  go_simp
  refine hKK _ _ ⟨fun _=>(hK _ hbx),?_⟩; clear hKK KK
  refine wpAnyD_two (i:=8) (j:=16) ?_ rfl rfl (fun KK hKK=>?_) (fun KK hKK=>?_)
  ·kernel_rfl
  ·skip
   rw [if_pos (by rfl)]
   refine op_appF (.tmp 38) (.tmp 44) 27 rfl 45 (.agg #[.bool false,.slice none 0 0,.slice none 0 0,.int .i64 0,.bool false,.int .u64 0,.slice none 0 0,.slice none 0 0]) 8 128 Tryz.underlying27 Tryz.infoTw rfl (by decide) (O+1) iv _ rfl hI w.heap.size 0 1 1 [twC x] rfl rfl (by decide) (twC_len [x]) (by simp only [List.flatten_cons,List.flatten_nil,List.append_nil]; exact hn7) (twC_one [x]) (by rw [List.length_map]; omega) (by rw [List.length_map]; omega) hO.lt ?_
   intro iv' w8 hI8 hg8 hb8 ho8
   have hF8:Fr (fun k=>iv.ownBlock=some k) _ w8:=grown_fr hg8 fun g hg=>hg
   have hr8:∀ g,iv'.ownBlock=some g→fv.ownBlock≠some g:=fun g hg hg'=>by
    rcases ho8 with h | h
    ·exact hne g (h▸hg) hg'
    ·have e1:=Option.some.inj (h.symm.trans hg)
     have:=(hFn.lt hg').2
     exact absurd this (by rw [←e1]; exact Nat.lt_irrefl _)
   replace hFn:FO 45 8 w8 (O+1) fv (fin.map twC):=hFn.fr hF8 (fun g hg hg'=>hne g hg' hg)
   replace ha:FO 54 11 w8 (O+1) av (arcs.map acC):=ha.fr hF8 (fun g hg hg'=>own_ne' hI ha (by decide) g hg' hg)
   replace hO:=hO.under hb8 (Nat.lt_succ_self _)
   replace hbx:=hbx.trans hb8
   replace hFr:=hFr.trans (hF8.mono fun k _ e=>.inl e)
   refine hKK _ _ ⟨fun _=>(hK _ hbx),?_⟩; clear hKK KK
   refine wpThp hpan (some 55) (i:=18) rfl rfl (hK _ hbx) ?_
   refine wpAnyD_one (i:=16) (by kernel_rfl) rfl (fun KK hKK=>?_)
   have hbN16:Below w8.heap.size w8 (w8.alloc (.cells (twC y).toArray 45)):=below_alloc _
   have hB16:w.drew.heap.size≤w8.heap.size:=hFr.size
   have hn16:=Cs.fresh w8 (twC y) 45
   replace hI8:=hI8.next hbN16
   replace hFn:=hFn.next hbN16
   replace ha:=ha.next hbN16
   replace hO:=hO.next hbN16
   replace hbx:=hbx.trans (hbN16.mono (Nat.le_trans hOw hFr.size))
   replace hFr:=hFr.trans (below_fr hbN16 _)
   go_simp
   refine hKK _ _ ⟨fun _=>(hK _ hbx),?_⟩; clear hKK KK
   refine wpAnyD_one (i:=17) (by kernel_rfl) rfl (fun KK hKK=>?_)
   rw [if_pos (by rfl)]
   refine op_appF (.tmp 47) (.tmp 53) 27 rfl 45 (.agg #[.bool false,.slice none 0 0,.slice none 0 0,.int .i64 0,.bool false,.int .u64 0,.slice none 0 0,.slice none 0 0]) 8 128 Tryz.underlying27 Tryz.infoTw rfl (by decide) (O+1) fv _ rfl hFn w8.heap.size 0 1 1 [twC y] rfl rfl (by decide) (twC_len [y]) (by simp only [List.flatten_cons,List.flatten_nil,List.append_nil]; exact hn16) (twC_one [y]) (by rw [List.length_map]; omega) (by rw [List.length_map]; omega) hO.lt ?_
   intro fv' w17 hf17 hg17 hb17 ho17
   have hF17:Fr (fun k=>fv.ownBlock=some k) _ w17:=grown_fr hg17 fun g hg=>hg
   have hr17:∀ g,iv'.ownBlock=some g→fv'.ownBlock≠some g:=fun g hg hg'=>by
    rcases ho17 with h | h
    ·exact hr8 g hg (h▸hg')
    ·have e1:=Option.some.inj (h.symm.trans hg')
     have:=(hI8.lt hg).2
     exact absurd this (by rw [←e1]; exact Nat.lt_irrefl _)
   have hi17:FO 45 8 w17 (O+1) iv' ((ini.map twC)++[twC x]):=hI8.fr hF17 (fun g hg hg'=>hr8 g hg hg')
   have ha17:FO 54 11 w17 (O+1) av (arcs.map acC):=ha.fr hF17 (fun g hg hg'=>own_ne' hFn ha (by decide) g hg' hg)
   have hO17:=hO.under hb17 (Nat.lt_succ_self _)
   replace hbx:=hbx.trans hb17
   replace hFr:=hFr.trans (hF17.mono fun k _ e=>.inr e)
   obtain ⟨ai,ki,hiv⟩:=hi17.form
   obtain ⟨af,kf,hfv⟩:=hf17.form
   subst hiv hfv
   have y4:=hO17.cell (i:=4) rfl
   have y4f:=hO17.free 4
   have y5:=hO17.cell (i:=5) rfl
   have y5f:=hO17.free 5
   refine hKK _ _ ⟨fun _=>(hK _ hbx),?_⟩; clear hKK KK
   refine wpAnyD_one (i:=19) (by kernel_rfl) rfl (fun KK hKK=>?_)
   go_simp
   refine hKK _ _ ⟨fun hn=>absurd (by simp) hn,?_⟩; clear hKK KK
   refine wpAnyD_one (i:=20) (by kernel_rfl) rfl (fun KK hKK=>?_)
   go_simp
   refine hKK _ _ ⟨fun hn=>absurd (by simp) hn,?_⟩; clear hKK KK
   refine wpAnyD_one (i:=21) (by kernel_rfl) rfl (fun KK hKK=>?_)
   go_simp
   refine hKK _ _ ⟨fun hn=>absurd (by simp) hn,?_⟩; clear hKK KK
   refine wpAnyD_done (by kernel_rfl) ?_ _
   have hF9:Fr (fun k=>k=O) w17 ((w17.setCell ⟨O,4,none⟩ (.slice ai (ini.length+1) ki)).setCell ⟨O,5,none⟩ (.slice af (fin.length+1) kf)):=(Fr.set (T:=fun k=>k=O) w17 (p:=⟨O,4,none⟩) rfl _).trans (Fr.set (T:=fun k=>k=O) _ (p:=⟨O,5,none⟩) rfl _)
   simp only [List.length_append,List.length_map,List.length_cons,List.length_nil,Nat.zero_add] at hi17 hf17 hr17 ⊢
   refine hexit _ _ _ _ _ _ _ _ _ _ _ _ _ _ _ _ _ _ _ _ (.slice ai (ini.length+1) ki) (.slice af (fin.length+1) kf) _ ?_ ?_
   ·refine ⟨(hO17.put 4 _).put 5 _,?_,?_,?_,?_⟩
    ·rw [List.map_append]; exact hi17.fr hF9 (fun g hg e=>by have:=(hi17.lt hg).1; omega)
    ·rw [List.map_append]; exact hf17.fr hF9 (fun g hg e=>by have:=(hf17.lt hg).1; omega)
    ·exact ha17.fr hF9 (fun g hg e=>by have:=(ha17.lt hg).1; omega)
    ·exact hr17
   ·exact (((below_fr hdr _).trans (hFr.mono fun k _ h=>.inr h)):Fr (fun k=>k=O∨iv.ownBlock=some k∨fv.ownBlock=some k) w w17).trans (hF9.mono fun k _ h=>.inl h)
  ·skip
   have hbN16:Below (w.drew.alloc (.cells (twC x).toArray 45)).heap.size (w.drew.alloc (.cells (twC x).toArray 45)) ((w.drew.alloc (.cells (twC x).toArray 45)).alloc (.cells (twC y).toArray 45)):=below_alloc _
   have hB16:w.drew.heap.size≤(w.drew.alloc (.cells (twC x).toArray 45)).heap.size:=hFr.size
   have hn16:=Cs.fresh (w.drew.alloc (.cells (twC x).toArray 45)) (twC y) 45
   have hz16:(w.drew.alloc (.cells (twC x).toArray 45)).heap.size=w.heap.size+1:=by simp
   rw [hz16] at hn16
   replace hn7:=hn7.next hbN16
   replace hI:=hI.next hbN16
   replace hFn:=hFn.next hbN16
   replace ha:=ha.next hbN16
   replace hO:=hO.next hbN16
   replace hbx:=hbx.trans (hbN16.mono (Nat.le_trans hOw hFr.size))
   replace hFr:=hFr.trans (below_fr hbN16 _)
   go_simp
   refine hKK _ _ ⟨fun _=>(hK _ hbx),?_⟩; clear hKK KK
   refine wpAnyD_one (i:=8) (by kernel_rfl) rfl (fun KK hKK=>?_)
   rw [if_pos (by rfl)]
   refine op_appF (.tmp 38) (.tmp 44) 27 rfl 45 (.agg #[.bool false,.slice none 0 0,.slice none 0 0,.int .i64 0,.bool false,.int .u64 0,.slice none 0 0,.slice none 0 0]) 8 128 Tryz.underlying27 Tryz.infoTw rfl (by decide) (O+1) iv _ rfl hI w.heap.size 0 1 1 [twC x] rfl rfl (by decide) (twC_len [x]) (by simp only [List.flatten_cons,List.flatten_nil,List.append_nil]; exact hn7) (twC_one [x]) (by rw [List.length_map]; omega) (by rw [List.length_map]; omega) hO.lt ?_
   intro iv' w8 hI8 hg8 hb8 ho8
   have hF8:Fr (fun k=>iv.ownBlock=some k) _ w8:=grown_fr hg8 fun g hg=>hg
   replace hn16:=hn16.fr hF8 (fun e=>by have:=hIw _ e; omega)
   have hr8:∀ g,iv'.ownBlock=some g→fv.ownBlock≠some g:=fun g hg hg'=>by
    rcases ho8 with h | h
    ·exact hne g (h▸hg) hg'
    ·have e1:=Option.some.inj (h.symm.trans hg)
     have:=(hFn.lt hg').2
     exact absurd this (by rw [←e1]; exact Nat.lt_irrefl _)
   replace hFn:FO 45 8 w8 (O+1) fv (fin.map twC):=hFn.fr hF8 (fun g hg hg'=>hne g hg' hg)
   replace ha:FO 54 11 w8 (O+1) av (arcs.map acC):=ha.fr hF8 (fun g hg hg'=>own_ne' hI ha (by decide) g hg' hg)
   replace hO:=hO.under hb8 (Nat.lt_succ_self _)
   replace hbx:=hbx.trans hb8
   replace hFr:=hFr.trans (hF8.mono fun k _ e=>.inl e)
   refine hKK _ _ ⟨fun _=>(hK _ hbx),?_⟩; clear hKK KK
   refine wpThp hpan (some 55) (i:=18) rfl rfl (hK _ hbx) ?_
   refine wpAnyD_one (i:=17) (by kernel_rfl) rfl (fun KK hKK=>?_)
   rw [if_pos (by rfl)]
   refine op_appF (.tmp 47) (.tmp 53) 27 rfl 45 (.agg #[.bool false,.slice none 0 0,.slice none 0 0,.int .i64 0,.bool false,.int .u64 0,.slice none 0 0,.slice none 0 0]) 8 128 Tryz.underlying27 Tryz.infoTw rfl (by decide) (O+1) fv _ rfl hFn (w.heap.size+1) 0 1 1 [twC y] rfl rfl (by decide) (twC_len [y]) (by simp only [List.flatten_cons,List.flatten_nil,List.append_nil]; exact hn16) (twC_one [y]) (by rw [List.length_map]; omega) (by rw [List.length_map]; omega) hO.lt ?_
   intro fv' w17 hf17 hg17 hb17 ho17
   have hF17:Fr (fun k=>fv.ownBlock=some k) _ w17:=grown_fr hg17 fun g hg=>hg
   have hr17:∀ g,iv'.ownBlock=some g→fv'.ownBlock≠some g:=fun g hg hg'=>by
    rcases ho17 with h | h
    ·exact hr8 g hg (h▸hg')
    ·have e1:=Option.some.inj (h.symm.trans hg')
     have:=(hI8.lt hg).2
     exact absurd this (by rw [←e1]; exact Nat.lt_irrefl _)
   have hi17:FO 45 8 w17 (O+1) iv' ((ini.map twC)++[twC x]):=hI8.fr hF17 (fun g hg hg'=>hr8 g hg hg')
   have ha17:FO 54 11 w17 (O+1) av (arcs.map acC):=ha.fr hF17 (fun g hg hg'=>own_ne' hFn ha (by decide) g hg' hg)
   have hO17:=hO.under hb17 (Nat.lt_succ_self _)
   replace hbx:=hbx.trans hb17
   replace hFr:=hFr.trans (hF17.mono fun k _ e=>.inr e)
   obtain ⟨ai,ki,hiv⟩:=hi17.form
   obtain ⟨af,kf,hfv⟩:=hf17.form
   subst hiv hfv
   have y4:=hO17.cell (i:=4) rfl
   have y4f:=hO17.free 4
   have y5:=hO17.cell (i:=5) rfl
   have y5f:=hO17.free 5
   refine hKK _ _ ⟨fun _=>(hK _ hbx),?_⟩; clear hKK KK
   refine wpAnyD_one (i:=19) (by kernel_rfl) rfl (fun KK hKK=>?_)
   go_simp
   refine hKK _ _ ⟨fun hn=>absurd (by simp) hn,?_⟩; clear hKK KK
   refine wpAnyD_one (i:=20) (by kernel_rfl) rfl (fun KK hKK=>?_)
   go_simp
   refine hKK _ _ ⟨fun hn=>absurd (by simp) hn,?_⟩; clear hKK KK
   refine wpAnyD_one (i:=21) (by kernel_rfl) rfl (fun KK hKK=>?_)
   go_simp
   refine hKK _ _ ⟨fun hn=>absurd (by simp) hn,?_⟩; clear hKK KK
   refine wpAnyD_done (by kernel_rfl) ?_ _
   have hF9:Fr (fun k=>k=O) w17 ((w17.setCell ⟨O,4,none⟩ (.slice ai (ini.length+1) ki)).setCell ⟨O,5,none⟩ (.slice af (fin.length+1) kf)):=(Fr.set (T:=fun k=>k=O) w17 (p:=⟨O,4,none⟩) rfl _).trans (Fr.set (T:=fun k=>k=O) _ (p:=⟨O,5,none⟩) rfl _)
   simp only [List.length_append,List.length_map,List.length_cons,List.length_nil,Nat.zero_add] at hi17 hf17 hr17 ⊢
   refine hexit _ _ _ _ _ _ _ _ _ _ _ _ _ _ _ _ _ _ _ _ (.slice ai (ini.length+1) ki) (.slice af (fin.length+1) kf) _ ?_ ?_
   ·refine ⟨(hO17.put 4 _).put 5 _,?_,?_,?_,?_⟩
    ·rw [List.map_append]; exact hi17.fr hF9 (fun g hg e=>by have:=(hi17.lt hg).1; omega)
    ·rw [List.map_append]; exact hf17.fr hF9 (fun g hg e=>by have:=(hf17.lt hg).1; omega)
    ·exact ha17.fr hF9 (fun g hg e=>by have:=(ha17.lt hg).1; omega)
    ·exact hr17
   ·exact (((below_fr hdr _).trans (hFr.mono fun k _ h=>.inr h)):Fr (fun k=>k=O∨iv.ownBlock=some k∨fv.ownBlock=some k) w w17).trans (hF9.mono fun k _ h=>.inl h)
 ·skip
  have hbN16:Below w.drew.heap.size w.drew (w.drew.alloc (.cells (twC y).toArray 45)):=below_alloc _
  have hB16:w.drew.heap.size≤w.drew.heap.size:=hFr.size
  have hn16:=Cs.fresh w.drew (twC y) 45
  replace hI:=hI.next hbN16
  replace hFn:=hFn.next hbN16
  replace ha:=ha.next hbN16
  replace hO:=hO.next hbN16
  replace hbx:=hbx.trans (hbN16.mono (Nat.le_trans hOw hFr.size))
  replace hFr:=hFr.trans (below_fr hbN16 _)
  go_simp
  refine hKK _ _ ⟨fun _=>(hK _ hbx),?_⟩; clear hKK KK
  refine wpAnyD_one (i:=7) (by kernel_rfl) rfl (fun KK hKK=>?_)
  have hbN7:Below (w.drew.alloc (.cells (twC y).toArray 45)).heap.size (w.drew.alloc (.cells (twC y).toArray 45)) ((w.drew.alloc (.cells (twC y).toArray 45)).alloc (.cells (twC x).toArray 45)):=below_alloc _
  have hB7:w.drew.heap.size≤(w.drew.alloc (.cells (twC y).toArray 45)).heap.size:=hFr.size
  have hn7:=Cs.fresh (w.drew.alloc (.cells (twC y).toArray 45)) (twC x) 45
  have hz7:(w.drew.alloc (.cells (twC y).toArray 45)).heap.size=w.heap.size+1:=by simp
  rw [hz7] at hn7
  replace hn16:=hn16.next hbN7
  replace hI:=hI.next hbN7
  replace hFn:=hFn.next hbN7
  replace ha:=ha.next hbN7
  replace hO:=hO.next hbN7
  replace hbx:=hbx.trans (hbN7.mono (Nat.le_trans hOw hFr.size))
  replace hFr:=hFr.trans (below_fr hbN7 _)
  go_simp
  refine hKK _ _ ⟨fun _=>(hK _ hbx),?_⟩; clear hKK KK
  refine wpAnyD_one (i:=8) (by kernel_rfl) rfl (fun KK hKK=>?_)
  rw [if_pos (by rfl)]
  refine op_appF (.tmp 38) (.tmp 44) 27 rfl 45 (.agg #[.bool false,.slice none 0 0,.slice none 0 0,.int .i64 0,.bool false,.int .u64 0,.slice none 0 0,.slice none 0 0]) 8 128 Tryz.underlying27 Tryz.infoTw rfl (by decide) (O+1) iv _ rfl hI (w.heap.size+1) 0 1 1 [twC x] rfl rfl (by decide) (twC_len [x]) (by simp only [List.flatten_cons,List.flatten_nil,List.append_nil]; exact hn7) (twC_one [x]) (by rw [List.length_map]; omega) (by rw [List.length_map]; omega) hO.lt ?_
  intro iv' w8 hI8 hg8 hb8 ho8
  have hF8:Fr (fun k=>iv.ownBlock=some k) _ w8:=grown_fr hg8 fun g hg=>hg
  replace hn16:=hn16.fr hF8 (fun e=>by have:=hIw _ e; omega)
  have hr8:∀ g,iv'.ownBlock=some g→fv.ownBlock≠some g:=fun g hg hg'=>by
   rcases ho8 with h | h
   ·exact hne g (h▸hg) hg'
   ·have e1:=Option.some.inj (h.symm.trans hg)
    have:=(hFn.lt hg').2
    exact absurd this (by rw [←e1]; exact Nat.lt_irrefl _)
  replace hFn:FO 45 8 w8 (O+1) fv (fin.map twC):=hFn.fr hF8 (fun g hg hg'=>hne g hg' hg)
  replace ha:FO 54 11 w8 (O+1) av (arcs.map acC):=ha.fr hF8 (fun g hg hg'=>own_ne' hI ha (by decide) g hg' hg)
  replace hO:=hO.under hb8 (Nat.lt_succ_self _)
  replace hbx:=hbx.trans hb8
  replace hFr:=hFr.trans (hF8.mono fun k _ e=>.inl e)
  refine hKK _ _ ⟨fun _=>(hK _ hbx),?_⟩; clear hKK KK
  refine wpThp hpan (some 55) (i:=18) rfl rfl (hK _ hbx) ?_
  refine wpAnyD_one (i:=17) (by kernel_rfl) rfl (fun KK hKK=>?_)
  rw [if_pos (by rfl)]
  refine op_appF (.tmp 47) (.tmp 53) 27 rfl 45 (.agg #[.bool false,.slice none 0 0,.slice none 0 0,.int .i64 0,.bool false,.int .u64 0,.slice none 0 0,.slice none 0 0]) 8 128 Tryz.underlying27 Tryz.infoTw rfl (by decide) (O+1) fv _ rfl hFn w.heap.size 0 1 1 [twC y] rfl rfl (by decide) (twC_len [y]) (by simp only [List.flatten_cons,List.flatten_nil,List.append_nil]; exact hn16) (twC_one [y]) (by rw [List.length_map]; omega) (by rw [List.length_map]; omega) hO.lt ?_
  intro fv' w17 hf17 hg17 hb17 ho17
  have hF17:Fr (fun k=>fv.ownBlock=some k) _ w17:=grown_fr hg17 fun g hg=>hg
  have hr17:∀ g,iv'.ownBlock=some g→fv'.ownBlock≠some g:=fun g hg hg'=>by
   rcases ho17 with h | h
   ·exact hr8 g hg (h▸hg')
   ·have e1:=Option.some.inj (h.symm.trans hg')
    have:=(hI8.lt hg).2
    exact absurd this (by rw [←e1]; exact Nat.lt_irrefl _)
  have hi17:FO 45 8 w17 (O+1) iv' ((ini.map twC)++[twC x]):=hI8.fr hF17 (fun g hg hg'=>hr8 g hg hg')
  have ha17:FO 54 11 w17 (O+1) av (arcs.map acC):=ha.fr hF17 (fun g hg hg'=>own_ne' hFn ha (by decide) g hg' hg)
  have hO17:=hO.under hb17 (Nat.lt_succ_self _)
  replace hbx:=hbx.trans hb17
  replace hFr:=hFr.trans (hF17.mono fun k _ e=>.inr e)
  obtain ⟨ai,ki,hiv⟩:=hi17.form
  obtain ⟨af,kf,hfv⟩:=hf17.form
  subst hiv hfv
  have y4:=hO17.cell (i:=4) rfl
  have y4f:=hO17.free 4
  have y5:=hO17.cell (i:=5) rfl
  have y5f:=hO17.free 5
  refine hKK _ _ ⟨fun _=>(hK _ hbx),?_⟩; clear hKK KK
  refine wpAnyD_one (i:=19) (by kernel_rfl) rfl (fun KK hKK=>?_)
  go_simp
  refine hKK _ _ ⟨fun hn=>absurd (by simp) hn,?_⟩; clear hKK KK
  refine wpAnyD_one (i:=20) (by kernel_rfl) rfl (fun KK hKK=>?_)
  go_simp
  refine hKK _ _ ⟨fun hn=>absurd (by simp) hn,?_⟩; clear hKK KK
  refine wpAnyD_one (i:=21) (by kernel_rfl) rfl (fun KK hKK=>?_)
  go_simp
  refine hKK _ _ ⟨fun hn=>absurd (by simp) hn,?_⟩; clear hKK KK
  refine wpAnyD_done (by kernel_rfl) ?_ _
  have hF9:Fr (fun k=>k=O) w17 ((w17.setCell ⟨O,4,none⟩ (.slice ai (ini.length+1) ki)).setCell ⟨O,5,none⟩ (.slice af (fin.length+1) kf)):=(Fr.set (T:=fun k=>k=O) w17 (p:=⟨O,4,none⟩) rfl _).trans (Fr.set (T:=fun k=>k=O) _ (p:=⟨O,5,none⟩) rfl _)
  simp only [List.length_append,List.length_map,List.length_cons,List.length_nil,Nat.zero_add] at hi17 hf17 hr17 ⊢
  refine hexit _ _ _ _ _ _ _ _ _ _ _ _ _ _ _ _ _ _ _ _ (.slice ai (ini.length+1) ki) (.slice af (fin.length+1) kf) _ ?_ ?_
  ·refine ⟨(hO17.put 4 _).put 5 _,?_,?_,?_,?_⟩
   ·rw [List.map_append]; exact hi17.fr hF9 (fun g hg e=>by have:=(hi17.lt hg).1; omega)
   ·rw [List.map_append]; exact hf17.fr hF9 (fun g hg e=>by have:=(hf17.lt hg).1; omega)
   ·exact ha17.fr hF9 (fun g hg e=>by have:=(ha17.lt hg).1; omega)
   ·exact hr17
  ·exact (((below_fr hdr _).trans (hFr.mono fun k _ h=>.inr h)):Fr (fun k=>k=O∨iv.ownBlock=some k∨fv.ownBlock=some k) w w17).trans (hF9.mono fun k _ h=>.inl h)
end
section
open Go.RowKit
set_option maxRecDepth 100000 in
set_option maxHeartbeats 4000000 in
theorem keep_arc (O syms n X t st tcap a b:Nat) (x:Ac) (hx1:x.1<st) (hx2:x.2.2.1<st) (hst:st≤64) (iv fv av:Value) (ini fin:List Tw) (arcs:List Ac) (w:World) (h:Om w O syms n iv fv av ini fin arcs) (hl:arcs.length≤4096) (hX:Cs w X 0 (acC x)) (hXO:X≠O) (hXa:av.ownBlock≠some X) (ht1:w.cell? ⟨t,x.1,none⟩=some (.int .i64 (a:Int))) (ht2:w.cell? ⟨t,x.2.2.1,none⟩=some (.int .i64 (b:Int)))
  (c0 c1 c2 c3 c4 c7 c8 Aa Ab Ad Ae Af Ag Ah Ak Al Am An Ao Ap Aq Ar As Av Aw Ax Ay Az Ba Bb Bc Be Bf Bh Bi Bj Bk Bm Bn Bo Bp Bq Br Bs Bt Bu Bv Bw Bx By Bz Ca Cb Cc Cd Ce Cf Cg Ch Ci Cj Ck Cl Cm Cn Co Cp Cq Cr Ct Cu Cv Cw Cx Cy Cz Da Db Dc Dd De Df Dg Dh Di Dj Dk Dl Dn Dp Dq Dr Dt Du Dv Dw Dx Dy Dz:Value) (Q0:Exit→Act→World→Prop) (hpan:∀ c (a:Act) d v w,Q0 (.panic c) (a.put d v) w→Q0 (.panic c) a w)
  (hexit:∀ (Ea Eb Ec Ed Ee Ef Eg Eh Ei Ej Ek El Em En Eo Ep Eq Er Es Et:Value) (av':Value) (w':World),Om w' O syms n iv fv av' ini fin (arcs++[(a,x.2.1,b,wt x)])→Fr (fun k=>k=O∨av.ownBlock=some k) w w'→Q0 .normal ⟨#[c0,c1,c2,c3,c4,.pointer (some ⟨O,0,none⟩),.slice (some ⟨t,0,none⟩) st tcap,c7,c8,.pointer (some ⟨X,0,none⟩),Aa,Ab,Ad,Ae,Af,Ag,Ah,Ak,Al,Am,An,Ao,Ap,Aq,Ar,As,Av,Aw,Ax,Ay,Az,Ba,Bb,Bc,Be,Bf,Bh,Bi,Bj,Bk,Bm,Bn,Bo,Bp,Bq,Br,Bs,Bt,Bu,Bv,Bw,Bx,By,Bz,Ca,Cb,Cc,Cd,Ce,Cf,Cg,Ch,Ci,Cj,Ck,Cl,Cm,Cn,Co,Cp,Cq,Cr,Ct,Cu,Cv,Cw,Cx,Cy,Cz,Da,Db,Ea,Eb,Ec,Ed,Ee,Ef,Eg,Eh,Ei,Ej,Ek,El,Em,En,Eo,Ep,Eq,Er,Es,Et,Dz],[]⟩ w') :
  Code.wp Tryz.prog (rKr 15) Q0 ⟨#[c0,c1,c2,c3,c4,.pointer (some ⟨O,0,none⟩),.slice (some ⟨t,0,none⟩) st tcap,c7,c8,.pointer (some ⟨X,0,none⟩),Aa,Ab,Ad,Ae,Af,Ag,Ah,Ak,Al,Am,An,Ao,Ap,Aq,Ar,As,Av,Aw,Ax,Ay,Az,Ba,Bb,Bc,Be,Bf,Bh,Bi,Bj,Bk,Bm,Bn,Bo,Bp,Bq,Br,Bs,Bt,Bu,Bv,Bw,Bx,By,Bz,Ca,Cb,Cc,Cd,Ce,Cf,Cg,Ch,Ci,Cj,Ck,Cl,Cm,Cn,Co,Cp,Cq,Cr,Ct,Cu,Cv,Cw,Cx,Cy,Cz,Da,Db,Dc,Dd,De,Df,Dg,Dh,Di,Dj,Dk,Dl,Dn,Dp,Dq,Dr,Dt,Du,Dv,Dw,Dx,Dy,Dz],[]⟩ w:=by
 conv=>arg 2; whnf
 have i1:(x.1:Int)<(st:Int):=by omega
 have i2:(x.2.2.1:Int)<(st:Int):=by omega
 have i3:(0:Int)≤(x.1:Int):=by omega
 have i4:(0:Int)≤(x.2.2.1:Int):=by omega
 have hdr:=(Below.refl w.heap.size w).drew
 have h1:=h.next hdr
 have hS:w.drew.cell? ⟨O,6,none⟩=some av∧Cs w.drew X 0 (acC x)∧w.drew.cell? ⟨t,x.1,none⟩=some (.int .i64 (a:Int))∧w.drew.cell? ⟨t,x.2.2.1,none⟩=some (.int .i64 (b:Int)):=⟨h1.blk.cell rfl,hX.next hdr,cellN ht1 hdr,cellN ht2 hdr⟩
 have hK:∀ w' w'':World,(w'.cell? ⟨O,6,none⟩=some av∧Cs w' X 0 (acC x)∧w'.cell? ⟨t,x.1,none⟩=some (.int .i64 (a:Int))∧w'.cell? ⟨t,x.2.2.1,none⟩=some (.int .i64 (b:Int)))→Below w'.heap.size w' w''→(w''.cell? ⟨O,6,none⟩=some av∧Cs w'' X 0 (acC x)∧w''.cell? ⟨t,x.1,none⟩=some (.int .i64 (a:Int))∧w''.cell? ⟨t,x.2.2.1,none⟩=some (.int .i64 (b:Int))):=fun w' w'' h hb=>⟨cellN h.1 hb,h.2.1.next hb,cellN h.2.2.1 hb,cellN h.2.2.2 hb⟩
 refine wp_region_D (fun w'=>w'.cell? ⟨O,6,none⟩=some av∧Cs w' X 0 (acC x)∧w'.cell? ⟨t,x.1,none⟩=some (.int .i64 (a:Int))∧w'.cell? ⟨t,x.2.2.1,none⟩=some (.int .i64 (b:Int))) [18,19,20] (by kernel_rfl) ?_
 refine wpThp hpan (some 81) (i:=0) rfl rfl hS ?_
 refine wpTh hpan (some 82) (i:=1) (v:=?_) rfl rfl (Or.inl ⟨by rfl,?_⟩) hS ?_
 rotate_left
 ·intro wz hw; refine exec_load1 O 6 ?_ av hw.1 _ Tryz.underlying28 rfl; go_simp
 refine wpThp hpan (some 83) (i:=2) rfl rfl hS ?_
 refine wpThp hpan (some 84) (i:=3) rfl rfl hS ?_
 refine wpTh hpan (some 85) (i:=4) (v:=?_) rfl rfl (Or.inl ⟨by rfl,?_⟩) hS ?_
 rotate_left
 ·intro wz hw; refine exec_load1 X 0 ?_ (.int .i64 (x.1:Int)) (by have h:=hw.2.1 0 _ rfl; simpa using h) _ Tryz.underlying3 rfl; go_simp
 refine wpThp hpan (some 86) (i:=5) rfl rfl hS ?_
 refine wpTh hpan (some 87) (i:=6) (v:=?_) rfl rfl (Or.inl ⟨by rfl,?_⟩) hS ?_
 rotate_left
 ·intro wz hw; refine exec_load1 t x.1 ?_ (.int .i64 (a:Int)) (hw.2.2.1) _ Tryz.underlying3 rfl; go_simp
 refine wpThp hpan (some 88) (i:=7) rfl rfl hS ?_
 refine wpTh hpan (some 89) (i:=8) (v:=?_) rfl rfl (Or.inl ⟨by rfl,?_⟩) hS ?_
 rotate_left
 ·intro wz hw; refine exec_load1 X 1 ?_ (.int .i64 (x.2.1:Int)) (by have h:=hw.2.1 1 _ rfl; simpa using h) _ Tryz.underlying3 rfl; go_simp
 refine wpThp hpan (some 90) (i:=9) rfl rfl hS ?_
 refine wpThp hpan (some 91) (i:=10) rfl rfl hS ?_
 refine wpTh hpan (some 92) (i:=11) (v:=?_) rfl rfl (Or.inl ⟨by rfl,?_⟩) hS ?_
 rotate_left
 ·intro wz hw; refine exec_load1 X 2 ?_ (.int .i64 (x.2.2.1:Int)) (by have h:=hw.2.1 2 _ rfl; simpa using h) _ Tryz.underlying3 rfl; go_simp
 refine wpThp hpan (some 93) (i:=12) rfl rfl hS ?_
 refine wpTh hpan (some 94) (i:=13) (v:=?_) rfl rfl (Or.inl ⟨by rfl,?_⟩) hS ?_
 rotate_left
 ·intro wz hw; refine exec_load1 t x.2.2.1 ?_ (.int .i64 (b:Int)) (hw.2.2.2) _ Tryz.underlying3 rfl; go_simp
 refine wpThp hpan (some 95) (i:=14) rfl rfl hS ?_
 refine wpTh hpan (some 96) (i:=15) (v:=?_) rfl rfl (Or.inl ⟨by rfl,?_⟩) hS ?_
 rotate_left
 ·intro wz hw; refine exec_loadTw X 3 ?_ (wt x) (by have h:=cs_wt hw.2.1; rw [Nat.zero_add] at h; exact h); go_simp
 refine wpThp hpan (some 97) (i:=16) rfl rfl hS ?_
 go_simp
 refine wpAnyD_one (i:=17) (by kernel_rfl) rfl (fun KK hKK=>?_)
 have hb3:Below w.drew.heap.size w.drew (w.drew.alloc (.cells (acC (a,x.2.1,b,wt x)).toArray 54)):=below_alloc _
 have hn3:=Cs.fresh w.drew (acC (a,x.2.1,b,wt x)) 54
 have h3:=h1.next hb3
 go_simp
 refine hKK _ _ ⟨fun _=>(hK _ _ hS hb3),?_⟩; clear hKK KK
 refine wpAnyD_one (i:=18) (by kernel_rfl) rfl (fun KK hKK=>?_)
 rw [if_pos (by rfl)]
 refine op_appF (.tmp 82) (.tmp 98) 28 rfl 54 _ 11 152 Tryz.underlying28 Tryz.infoArc rfl (by decide) (O+1) av _ rfl h3.arcs w.heap.size 0 1 1 [acC (a,x.2.1,b,wt x)] rfl rfl (by decide) (acC_len [(a,x.2.1,b,wt x)]) (by simp only [List.flatten_cons,List.flatten_nil,List.append_nil]; exact hn3) (acC_one [(a,x.2.1,b,wt x)]) (by rw [List.length_map]; omega) (by rw [List.length_map]; omega) h3.blk.lt ?_
 intro av' w5 ha5 hg5 hb5 ho5
 have hO5:=h3.blk.under hb5 (Nat.lt_succ_self _)
 have hf5:FO 45 8 w5 (O+1) fv (fin.map twC):=h3.fin.fr (grown_fr (T:=fun k=>av.ownBlock=some k) hg5 fun g hg=>hg) (fun g hg hg'=>own_ne' h3.arcs h3.fin (by decide) g hg' hg)
 have hi5:FO 45 8 w5 (O+1) iv (ini.map twC):=h3.ini.fr (grown_fr (T:=fun k=>av.ownBlock=some k) hg5 fun g hg=>hg) (fun g hg hg'=>own_ne' h3.arcs h3.ini (by decide) g hg' hg)
 have hF5:=(below_fr (below_chain hdr hb3) (fun k=>av.ownBlock=some k)).trans (grown_fr hg5 fun g hg=>hg)
 obtain ⟨ai,ki,hav⟩:=ha5.form
 subst hav
 have y6:=hO5.cell (i:=6) rfl
 have y6f:=hO5.free 6
 refine hKK _ _ ⟨fun hn=>absurd (by simp) hn,?_⟩; clear hKK KK
 refine wpAnyD_one (i:=19) (by kernel_rfl) rfl (fun KK hKK=>?_)
 go_simp
 refine hKK _ _ ⟨fun hn=>absurd (by simp) hn,?_⟩; clear hKK KK
 refine wpAnyD_one (i:=20) (by kernel_rfl) rfl (fun KK hKK=>?_)
 go_simp
 refine hKK _ _ ⟨fun hn=>absurd (by simp) hn,?_⟩; clear hKK KK
 refine wpAnyD_done (by kernel_rfl) ?_ _
 simp only [List.length_append,List.length_map,List.length_cons,List.length_nil,Nat.zero_add] at hO5 ha5 ⊢
 have hF9:Fr (fun k=>k=O) w5 (w5.setCell ⟨O,6,none⟩ (.slice ai (arcs.length+1) ki)):=Fr.set (T:=fun k=>k=O) w5 (p:=⟨O,6,none⟩) rfl _
 refine hexit _ _ _ _ _ _ _ _ _ _ _ _ _ _ _ _ _ _ _ _ (.slice ai (arcs.length+1) ki) _ ?_ ?_
 ·refine ⟨hO5.put 6 _,hi5.fr hF9 (fun g hg e=>by have:=(hi5.lt hg).1; omega),hf5.fr hF9 (fun g hg e=>by have:=(hf5.lt hg).1; omega),?_,h3.ne⟩
  rw [List.map_append]; exact ha5.fr hF9 (fun g hg e=>by have:=(ha5.lt hg).1; omega)
 ·exact (hF5.mono (T':=fun k=>k=O∨av.ownBlock=some k) fun k _ h=>.inr h).trans (hF9.mono fun k _ h=>.inl h)
end
end Go.Proofs.YtnapapijhhldpaaGreatDoor

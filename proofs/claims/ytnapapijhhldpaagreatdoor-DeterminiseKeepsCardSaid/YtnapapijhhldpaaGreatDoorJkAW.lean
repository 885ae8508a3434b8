/-
  Texts joined by program: Trq, Trr, Trs. No condition of its own.
-/
import Derived.Test.YtnapapijhhldpaaGreatDoorJkAV
namespace Go.Proofs.YtnapapijhhldpaaGreatDoor
set_option linter.unusedSimpArgs false
set_option linter.unusedVariables false
set_option maxRecDepth 100000
set_option maxHeartbeats 4000000
section
open Go.RowKit
noncomputable def rK (n:Nat):Code:=(Tryz.f71.body.bind (q3p n)).getD .skip
noncomputable def rKr (n:Nat):Code:=(Tryz.f71.body.bind (q3e n)).getD .skip
theorem Cs.fr {T:Nat->Prop} {w w':World} {b o:Nat} {cs:List Value} (h:Cs w b o cs) (hf:Fr T w w') (hT:¬ T b):Cs w' b o cs:=fun c v hv=>hf.cell (h c v hv) hT
theorem q0c {dst:Option Tmp} {ty':TypeId} {pos:String} {after:Array Edge} {guard:Option (Nat×Bool)} {x:Operand} {a:Act} {w:World} (b off:Nat) (hx:a.eval x=.pointer (some ⟨b,off,none⟩)) (v:Value) (hc:w.cell? ⟨b,off,none⟩=some v) :
  (execOp a.eval ⟨dst,.load 27 x,ty',pos,after,guard⟩).run Tryz.prog w=.ok (.value v) w:=qK b off hx v hc _ Tryz.underlying27 rfl
theorem j9t (syms:Nat) (A:Au) (io:OA) (ci:Nat) (fo:OA) (cf:Nat) (ro:OA) (nr cr:Nat) (O G n i b1 o1 b2 o2:Nat) (hio:io=some ⟨b1,o1,none⟩) (hfo:fo=some ⟨b2,o2,none⟩) (hi0:i<A.st) (hst:A.st<=64) (x y:Tw) (iv fv av:Value) (ini fin:List Tw) (arcs:List Ac) (w:World) (h:Om w O syms n iv fv av ini fin arcs) (hi:ini.length<=64) (hf:fin.length<=64) (hG:Cs w G 0 (auC syms A.st (.slice io A.st ci) (.slice fo A.st cf) (.slice ro nr cr))) (hGO:G<O) (hx:Cs w b1 (o1+i*8) (twC x)) (hb1:b1<O) (hy:Cs w b2 (o2+i*8) (twC y)) (hb2:b2<O)
  {c0 c1 c3 c4 c6 c8 c9 Aa Ab Ad Ae Af Ag Ah Ak Al Am An Ao Ap Aq Ar As Av Aw Ax Ay Az Ba Bb Bc Be Bf Bh Bi Bj Bk Bm Bn Bo Bp Bq Br Bs Bt Bu Bv Bw Bx By Bz Ca Cb Cc Cd Ce Cf Cg Ch Ci Cj Ck Cl Cm Cn Co Cp Cq Cr Ct Cu Cv Cw Cx Cy Cz Da Db Dc Dd De Df Dg Dh Di Dj Dk Dl Dn Dp Dq Dr Dt Du Dv Dw Dx Dy Dz:Value} {Q0:EP} (hpan:∀ c (a:Act) d v w,Q0 (.panic c) (a.put d v) w->Q0 (.panic c) a w)
  (hexit:∀ (Ea Eb Ec Ed Ee Ef Eg Eh Ei Ej Ek El Em En Eo Ep Eq Er Es Et:Value) (iv' fv':Value) (w':World),Om w' O syms n iv' fv' av (ini++[x]) (fin++[y]) arcs->Fr (fun k=>k=O\/iv.ownBlock=some k\/fv.ownBlock=some k) w w'->Q0 .normal ⟨#[c0,c1,.pointer (some ⟨G,0,none⟩),c3,c4,.pointer (some ⟨O,0,none⟩),c6,.int .i64 (i:Int),c8,c9,Aa,Ab,Ad,Ae,Af,Ag,Ah,Ak,Al,Am,An,Ao,Ap,Aq,Ar,As,Av,Aw,Ax,Ay,Az,Ba,Bb,Bc,Be,Bf,Bh,Ea,Eb,Ec,Ed,Ee,Ef,Eg,Eh,Ei,Ej,Ek,El,Em,En,Eo,Ep,Eq,Er,Es,Et,Cd,Ce,Cf,Cg,Ch,Ci,Cj,Ck,Cl,Cm,Cn,Co,Cp,Cq,Cr,Ct,Cu,Cv,Cw,Cx,Cy,Cz,Da,Db,Dc,Dd,De,Df,Dg,Dh,Di,Dj,Dk,Dl,Dn,Dp,Dq,Dr,Dt,Du,Dv,Dw,Dx,Dy,Dz],[]⟩ w') :
  Code.wp Tryz.prog (rKr 9) Q0 ⟨#[c0,c1,.pointer (some ⟨G,0,none⟩),c3,c4,.pointer (some ⟨O,0,none⟩),c6,.int .i64 (i:Int),c8,c9,Aa,Ab,Ad,Ae,Af,Ag,Ah,Ak,Al,Am,An,Ao,Ap,Aq,Ar,As,Av,Aw,Ax,Ay,Az,Ba,Bb,Bc,Be,Bf,Bh,Bi,Bj,Bk,Bm,Bn,Bo,Bp,Bq,Br,Bs,Bt,Bu,Bv,Bw,Bx,By,Bz,Ca,Cb,Cc,Cd,Ce,Cf,Cg,Ch,Ci,Cj,Ck,Cl,Cm,Cn,Co,Cp,Cq,Cr,Ct,Cu,Cv,Cw,Cx,Cy,Cz,Da,Db,Dc,Dd,De,Df,Dg,Dh,Di,Dj,Dk,Dl,Dn,Dp,Dq,Dr,Dt,Du,Dv,Dw,Dx,Dy,Dz],[]⟩ w:=by
 conv=>arg 2; whnf
 subst hio hfo
 have i1:(i:Int)<(A.st:Int):=by omega
 have i0:(0:Int)<=(i:Int):=by omega
 have hdr:=(Below.refl w.heap.size w).drew
 have h1:=h.next hdr
 have hS0:(w.drew.cell? ⟨O,4,none⟩=some iv/\w.drew.cell? ⟨O,5,none⟩=some fv)/\Cs w.drew G 0 (auC syms A.st (.slice (some ⟨b1,o1,none⟩) A.st ci) (.slice (some ⟨b2,o2,none⟩) A.st cf) (.slice ro nr cr))/\Cs w.drew b1 (o1+i*8) (twC x)/\Cs w.drew b2 (o2+i*8) (twC y):=⟨⟨h1.blk.cell rfl,h1.blk.cell rfl⟩,hG.next hdr,hx.next hdr,hy.next hdr⟩
 have hK:∀ w',Below (O+1) w.drew w'->((w'.cell? ⟨O,4,none⟩=some iv/\w'.cell? ⟨O,5,none⟩=some fv)/\Cs w' G 0 (auC syms A.st (.slice (some ⟨b1,o1,none⟩) A.st ci) (.slice (some ⟨b2,o2,none⟩) A.st cf) (.slice ro nr cr))/\Cs w' b1 (o1+i*8) (twC x)/\Cs w' b2 (o2+i*8) (twC y)):=fun w' hb =>
  ⟨⟨(hb.cell (p:=⟨O,4,none⟩) (Nat.lt_succ_self _)).trans hS0.1.1,(hb.cell (p:=⟨O,5,none⟩) (Nat.lt_succ_self _)).trans hS0.1.2⟩,hS0.2.1.below hb (by omega),hS0.2.2.1.below hb (by omega),hS0.2.2.2.below hb (by omega)⟩
 have hS:=hS0
 have hbx:Below (O+1) w.drew w.drew:=Below.refl _ _
 have hFr:Fr (fun k=>iv.ownBlock=some k\/fv.ownBlock=some k) w.drew w.drew:=Fr.refl _ _
 have hI:=h1.ini
 have hFn:=h1.fin
 have ha:=h1.arcs
 have hO:=h1.blk
 have hne:=h1.ne
 have hOw:O+1<=w.drew.heap.size:=hO.lt
 have hIw:∀ k,iv.ownBlock=some k->k<w.drew.heap.size:=fun k e=>(hI.lt e).2
 refine qV (fun w'=>(w'.cell? ⟨O,4,none⟩=some iv/\w'.cell? ⟨O,5,none⟩=some fv)/\Cs w' G 0 (auC syms A.st (.slice (some ⟨b1,o1,none⟩) A.st ci) (.slice (some ⟨b2,o2,none⟩) A.st cf) (.slice ro nr cr))/\Cs w' b1 (o1+i*8) (twC x)/\Cs w' b2 (o2+i*8) (twC y)) [19,20,21] (by kernel_rfl) ?_
 refine wBp 0 hpan (some 37) rfl rfl hS ?_
 refine wBl 1 hpan (some 38) (v:=?_) rfl rfl ?_ hS ?_
 rotate_left
 ·intro wz hw; refine q0c O 4 ?_ (iv) (hw.1.1); go_simp
 refine wBp 2 hpan (some 39) rfl rfl hS ?_
 refine wBl 3 hpan (some 40) (v:=?_) rfl rfl ?_ hS ?_
 rotate_left
 ·intro wz hw; refine q0c G 4 ?_ (.slice (some ⟨b1,o1,none⟩) A.st ci) (by have h:=hw.2.1 4 _ rfl; simpa using h); go_simp
 refine wBp 4 hpan (some 41) rfl rfl hS ?_
 refine wBp 5 hpan (some 42) rfl rfl hS ?_
 refine wBl 6 hpan (some 43) (v:=?_) rfl rfl ?_ hS ?_
 rotate_left
 ·intro wz hw; refine qY b1 (o1+i*8) ?_ x hw.2.2.1; go_simp
 refine wBp 9 hpan (some 46) rfl rfl hS ?_
 refine wBl 10 hpan (some 47) (v:=?_) rfl rfl ?_ hS ?_
 rotate_left
 ·intro wz hw; refine q0c O 5 ?_ (fv) (hw.1.2); go_simp
 refine wBp 11 hpan (some 48) rfl rfl hS ?_
 refine wBl 12 hpan (some 49) (v:=?_) rfl rfl ?_ hS ?_
 rotate_left
 ·intro wz hw; refine q0c G 5 ?_ (.slice (some ⟨b2,o2,none⟩) A.st cf) (by have h:=hw.2.1 5 _ rfl; simpa using h); go_simp
 refine wBp 13 hpan (some 50) rfl rfl hS ?_
 refine wBp 14 hpan (some 51) rfl rfl hS ?_
 refine wBl 15 hpan (some 52) (v:=?_) rfl rfl ?_ hS ?_
 rotate_left
 ·intro wz hw; refine qY b2 (o2+i*8) ?_ y hw.2.2.2; go_simp
 go_simp
 refine jM (i:=7) (j:=16) ?_ rfl rfl (fun KK hKK=>?_) (fun KK hKK=>?_)
 ·kernel_rfl
 ·skip
  have hbN7:Below w.drew.heap.size w.drew (w.drew.alloc (.cells (twC x).toArray 45)):=qJ _
  have hB7:w.drew.heap.size<=w.drew.heap.size:=hFr.size
  have hn7:=Cs.fresh w.drew (twC x) 45
  replace hI:=hI.next hbN7
  replace hFn:=hFn.next hbN7
  replace ha:=ha.next hbN7
  replace hO:=hO.next hbN7
  replace hbx:=hbx.trans (hbN7.mono (Nat.le_trans hOw hFr.size))
  replace hFr:=hFr.trans (qH hbN7 _)
  go_simp
  refine hKK _ _ ⟨fun _=>(hK _ hbx),?_⟩; clear hKK KK
  refine jM (i:=8) (j:=16) ?_ rfl rfl (fun KK hKK=>?_) (fun KK hKK=>?_)
  ·kernel_rfl
  ·skip
   rw [if_pos (by rfl)]
   refine jP (.tmp 38) (.tmp 44) 27 rfl 45 (.agg #[.bool false,.slice none 0 0,.slice none 0 0,.int .i64 0,.bool false,.int .u64 0,.slice none 0 0,.slice none 0 0]) 8 128 Tryz.underlying27 Tryz.infoTw rfl (by decide) (O+1) iv _ rfl hI w.heap.size 0 1 1 [twC x] rfl rfl (by decide) (zH [x]) (by simp only [List.flatten_cons,List.flatten_nil,List.append_nil]; exact hn7) (zG [x]) (by rw [List.length_map]; omega) (by rw [List.length_map]; omega) hO.lt ?_
   intro iv' w8 hI8 hg8 hb8 ho8
   have hF8:Fr (fun k=>iv.ownBlock=some k) _ w8:=qS hg8 fun g hg=>hg
   have hr8:∀ g,iv'.ownBlock=some g->fv.ownBlock≠some g:=fun g hg hg'=>by
    rcases ho8 with h | h
    ·exact hne g (h▸hg) hg'
    ·have e1:=Option.some.inj (h.symm.trans hg)
     have:=(hFn.lt hg').2
     exact absurd this (by rw [<-e1]; exact Nat.lt_irrefl _)
   replace hFn:FO 45 8 w8 (O+1) fv (fin.map twC):=hFn.fr hF8 (fun g hg hg'=>hne g hg' hg)
   replace ha:FO 54 11 w8 (O+1) av (arcs.map acC):=ha.fr hF8 (fun g hg hg'=>jK hI ha (by decide) g hg' hg)
   replace hO:=hO.under hb8 (Nat.lt_succ_self _)
   replace hbx:=hbx.trans hb8
   replace hFr:=hFr.trans (hF8.mono fun k _ e=>.inl e)
   refine hKK _ _ ⟨fun _=>(hK _ hbx),?_⟩; clear hKK KK
   refine wBp 18 hpan (some 55) rfl rfl (hK _ hbx) ?_
   refine wpO (i:=16) rfl fun KK hKK=>?_
   have hbN16:Below w8.heap.size w8 (w8.alloc (.cells (twC y).toArray 45)):=qJ _
   have hB16:w.drew.heap.size<=w8.heap.size:=hFr.size
   have hn16:=Cs.fresh w8 (twC y) 45
   replace hI8:=hI8.next hbN16
   replace hFn:=hFn.next hbN16
   replace ha:=ha.next hbN16
   replace hO:=hO.next hbN16
   replace hbx:=hbx.trans (hbN16.mono (Nat.le_trans hOw hFr.size))
   replace hFr:=hFr.trans (qH hbN16 _)
   go_simp
   refine hKK _ _ ⟨fun _=>(hK _ hbx),?_⟩; clear hKK KK
   refine wpO (i:=17) rfl fun KK hKK=>?_
   rw [if_pos (by rfl)]
   refine jP (.tmp 47) (.tmp 53) 27 rfl 45 (.agg #[.bool false,.slice none 0 0,.slice none 0 0,.int .i64 0,.bool false,.int .u64 0,.slice none 0 0,.slice none 0 0]) 8 128 Tryz.underlying27 Tryz.infoTw rfl (by decide) (O+1) fv _ rfl hFn w8.heap.size 0 1 1 [twC y] rfl rfl (by decide) (zH [y]) (by simp only [List.flatten_cons,List.flatten_nil,List.append_nil]; exact hn16) (zG [y]) (by rw [List.length_map]; omega) (by rw [List.length_map]; omega) hO.lt ?_
   intro fv' w17 hf17 hg17 hb17 ho17
   have hF17:Fr (fun k=>fv.ownBlock=some k) _ w17:=qS hg17 fun g hg=>hg
   have hr17:∀ g,iv'.ownBlock=some g->fv'.ownBlock≠some g:=fun g hg hg'=>by
    rcases ho17 with h | h
    ·exact hr8 g hg (h▸hg')
    ·have e1:=Option.some.inj (h.symm.trans hg')
     have:=(hI8.lt hg).2
     exact absurd this (by rw [<-e1]; exact Nat.lt_irrefl _)
   have hi17:FO 45 8 w17 (O+1) iv' ((ini.map twC)++[twC x]):=hI8.fr hF17 (fun g hg hg'=>hr8 g hg hg')
   have ha17:FO 54 11 w17 (O+1) av (arcs.map acC):=ha.fr hF17 (fun g hg hg'=>jK hFn ha (by decide) g hg' hg)
   have hO17:=hO.under hb17 (Nat.lt_succ_self _)
   replace hbx:=hbx.trans hb17
   replace hFr:=hFr.trans (hF17.mono fun k _ e=>.inr e)
   obtain ⟨ai,ki,hiv⟩:=hi17.form
   obtain ⟨af,kf,hfv⟩:=hf17.form
   subst hiv hfv
   have y4:=hO17.cell (i:=4) rfl
   have y4f:=hO17.free 4
   have y5:=hO17.cell (i:=5) rfl
   have y5f:=hO17.free 5
   refine hKK _ _ ⟨fun _=>(hK _ hbx),?_⟩; clear hKK KK
   refine wpO (i:=19) rfl fun KK hKK=>?_
   go_simp
   refine lN hKK ?_; clear hKK KK
   refine wpO (i:=20) rfl fun KK hKK=>?_
   go_simp
   refine lN hKK ?_; clear hKK KK
   refine wpO (i:=21) rfl fun KK hKK=>?_
   go_simp
   refine lN hKK ?_; clear hKK KK
   refine qZ (by kernel_rfl) ?_ _
   have hF9:Fr (fun k=>k=O) w17 ((w17.setCell ⟨O,4,none⟩ (.slice ai (ini.length+1) ki)).setCell ⟨O,5,none⟩ (.slice af (fin.length+1) kf)):=(Fr.set (T:=fun k=>k=O) w17 (p:=⟨O,4,none⟩) rfl _).trans (Fr.set (T:=fun k=>k=O) _ (p:=⟨O,5,none⟩) rfl _)
   simp only [List.length_append,List.length_map,List.length_cons,List.length_nil,Nat.zero_add] at hi17 hf17 hr17 ⊢
   refine hexit _ _ _ _ _ _ _ _ _ _ _ _ _ _ _ _ _ _ _ _ (.slice ai (ini.length+1) ki) (.slice af (fin.length+1) kf) _ ?_ ?_
   ·refine ⟨(hO17.put 4 _).put 5 _,?_,?_,?_,?_⟩
    ·rw [List.map_append]; exact hi17.fr hF9 (fun g hg e=>by have:=(hi17.lt hg).1; omega)
    ·rw [List.map_append]; exact hf17.fr hF9 (fun g hg e=>by have:=(hf17.lt hg).1; omega)
    ·exact ha17.fr hF9 (fun g hg e=>by have:=(ha17.lt hg).1; omega)
    ·exact hr17
   ·exact (((qH hdr _).trans (hFr.mono fun k _ h=>.inr h)):Fr (fun k=>k=O\/iv.ownBlock=some k\/fv.ownBlock=some k) w w17).trans (hF9.mono fun k _ h=>.inl h)
  ·skip
   have hbN16:Below (w.drew.alloc (.cells (twC x).toArray 45)).heap.size (w.drew.alloc (.cells (twC x).toArray 45)) ((w.drew.alloc (.cells (twC x).toArray 45)).alloc (.cells (twC y).toArray 45)):=qJ _
   have hB16:w.drew.heap.size<=(w.drew.alloc (.cells (twC x).toArray 45)).heap.size:=hFr.size
   have hn16:=Cs.fresh (w.drew.alloc (.cells (twC x).toArray 45)) (twC y) 45
   have hz16:(w.drew.alloc (.cells (twC x).toArray 45)).heap.size=w.heap.size+1:=by simp
   rw [hz16] at hn16
   replace hn7:=hn7.next hbN16
   replace hI:=hI.next hbN16
   replace hFn:=hFn.next hbN16
   replace ha:=ha.next hbN16
   replace hO:=hO.next hbN16
   replace hbx:=hbx.trans (hbN16.mono (Nat.le_trans hOw hFr.size))
   replace hFr:=hFr.trans (qH hbN16 _)
   go_simp
   refine hKK _ _ ⟨fun _=>(hK _ hbx),?_⟩; clear hKK KK
   refine wpO (i:=8) rfl fun KK hKK=>?_
   rw [if_pos (by rfl)]
   refine jP (.tmp 38) (.tmp 44) 27 rfl 45 (.agg #[.bool false,.slice none 0 0,.slice none 0 0,.int .i64 0,.bool false,.int .u64 0,.slice none 0 0,.slice none 0 0]) 8 128 Tryz.underlying27 Tryz.infoTw rfl (by decide) (O+1) iv _ rfl hI w.heap.size 0 1 1 [twC x] rfl rfl (by decide) (zH [x]) (by simp only [List.flatten_cons,List.flatten_nil,List.append_nil]; exact hn7) (zG [x]) (by rw [List.length_map]; omega) (by rw [List.length_map]; omega) hO.lt ?_
   intro iv' w8 hI8 hg8 hb8 ho8
   have hF8:Fr (fun k=>iv.ownBlock=some k) _ w8:=qS hg8 fun g hg=>hg
   replace hn16:=hn16.fr hF8 (fun e=>by have:=hIw _ e; omega)
   have hr8:∀ g,iv'.ownBlock=some g->fv.ownBlock≠some g:=fun g hg hg'=>by
    rcases ho8 with h | h
    ·exact hne g (h▸hg) hg'
    ·have e1:=Option.some.inj (h.symm.trans hg)
     have:=(hFn.lt hg').2
     exact absurd this (by rw [<-e1]; exact Nat.lt_irrefl _)
   replace hFn:FO 45 8 w8 (O+1) fv (fin.map twC):=hFn.fr hF8 (fun g hg hg'=>hne g hg' hg)
   replace ha:FO 54 11 w8 (O+1) av (arcs.map acC):=ha.fr hF8 (fun g hg hg'=>jK hI ha (by decide) g hg' hg)
   replace hO:=hO.under hb8 (Nat.lt_succ_self _)
   replace hbx:=hbx.trans hb8
   replace hFr:=hFr.trans (hF8.mono fun k _ e=>.inl e)
   refine hKK _ _ ⟨fun _=>(hK _ hbx),?_⟩; clear hKK KK
   refine wBp 18 hpan (some 55) rfl rfl (hK _ hbx) ?_
   refine wpO (i:=17) rfl fun KK hKK=>?_
   rw [if_pos (by rfl)]
   refine jP (.tmp 47) (.tmp 53) 27 rfl 45 (.agg #[.bool false,.slice none 0 0,.slice none 0 0,.int .i64 0,.bool false,.int .u64 0,.slice none 0 0,.slice none 0 0]) 8 128 Tryz.underlying27 Tryz.infoTw rfl (by decide) (O+1) fv _ rfl hFn (w.heap.size+1) 0 1 1 [twC y] rfl rfl (by decide) (zH [y]) (by simp only [List.flatten_cons,List.flatten_nil,List.append_nil]; exact hn16) (zG [y]) (by rw [List.length_map]; omega) (by rw [List.length_map]; omega) hO.lt ?_
   intro fv' w17 hf17 hg17 hb17 ho17
   have hF17:Fr (fun k=>fv.ownBlock=some k) _ w17:=qS hg17 fun g hg=>hg
   have hr17:∀ g,iv'.ownBlock=some g->fv'.ownBlock≠some g:=fun g hg hg'=>by
    rcases ho17 with h | h
    ·exact hr8 g hg (h▸hg')
    ·have e1:=Option.some.inj (h.symm.trans hg')
     have:=(hI8.lt hg).2
     exact absurd this (by rw [<-e1]; exact Nat.lt_irrefl _)
   have hi17:FO 45 8 w17 (O+1) iv' ((ini.map twC)++[twC x]):=hI8.fr hF17 (fun g hg hg'=>hr8 g hg hg')
   have ha17:FO 54 11 w17 (O+1) av (arcs.map acC):=ha.fr hF17 (fun g hg hg'=>jK hFn ha (by decide) g hg' hg)
   have hO17:=hO.under hb17 (Nat.lt_succ_self _)
   replace hbx:=hbx.trans hb17
   replace hFr:=hFr.trans (hF17.mono fun k _ e=>.inr e)
   obtain ⟨ai,ki,hiv⟩:=hi17.form
   obtain ⟨af,kf,hfv⟩:=hf17.form
   subst hiv hfv
   have y4:=hO17.cell (i:=4) rfl
   have y4f:=hO17.free 4
   have y5:=hO17.cell (i:=5) rfl
   have y5f:=hO17.free 5
   refine hKK _ _ ⟨fun _=>(hK _ hbx),?_⟩; clear hKK KK
   refine wpO (i:=19) rfl fun KK hKK=>?_
   go_simp
   refine lN hKK ?_; clear hKK KK
   refine wpO (i:=20) rfl fun KK hKK=>?_
   go_simp
   refine lN hKK ?_; clear hKK KK
   refine wpO (i:=21) rfl fun KK hKK=>?_
   go_simp
   refine lN hKK ?_; clear hKK KK
   refine qZ (by kernel_rfl) ?_ _
   have hF9:Fr (fun k=>k=O) w17 ((w17.setCell ⟨O,4,none⟩ (.slice ai (ini.length+1) ki)).setCell ⟨O,5,none⟩ (.slice af (fin.length+1) kf)):=(Fr.set (T:=fun k=>k=O) w17 (p:=⟨O,4,none⟩) rfl _).trans (Fr.set (T:=fun k=>k=O) _ (p:=⟨O,5,none⟩) rfl _)
   simp only [List.length_append,List.length_map,List.length_cons,List.length_nil,Nat.zero_add] at hi17 hf17 hr17 ⊢
   refine hexit _ _ _ _ _ _ _ _ _ _ _ _ _ _ _ _ _ _ _ _ (.slice ai (ini.length+1) ki) (.slice af (fin.length+1) kf) _ ?_ ?_
   ·refine ⟨(hO17.put 4 _).put 5 _,?_,?_,?_,?_⟩
    ·rw [List.map_append]; exact hi17.fr hF9 (fun g hg e=>by have:=(hi17.lt hg).1; omega)
    ·rw [List.map_append]; exact hf17.fr hF9 (fun g hg e=>by have:=(hf17.lt hg).1; omega)
    ·exact ha17.fr hF9 (fun g hg e=>by have:=(ha17.lt hg).1; omega)
    ·exact hr17
   ·exact (((qH hdr _).trans (hFr.mono fun k _ h=>.inr h)):Fr (fun k=>k=O\/iv.ownBlock=some k\/fv.ownBlock=some k) w w17).trans (hF9.mono fun k _ h=>.inl h)
 ·skip
  have hbN16:Below w.drew.heap.size w.drew (w.drew.alloc (.cells (twC y).toArray 45)):=qJ _
  have hB16:w.drew.heap.size<=w.drew.heap.size:=hFr.size
  have hn16:=Cs.fresh w.drew (twC y) 45
  replace hI:=hI.next hbN16
  replace hFn:=hFn.next hbN16
  replace ha:=ha.next hbN16
  replace hO:=hO.next hbN16
  replace hbx:=hbx.trans (hbN16.mono (Nat.le_trans hOw hFr.size))
  replace hFr:=hFr.trans (qH hbN16 _)
  go_simp
  refine hKK _ _ ⟨fun _=>(hK _ hbx),?_⟩; clear hKK KK
  refine wpO (i:=7) rfl fun KK hKK=>?_
  have hbN7:Below (w.drew.alloc (.cells (twC y).toArray 45)).heap.size (w.drew.alloc (.cells (twC y).toArray 45)) ((w.drew.alloc (.cells (twC y).toArray 45)).alloc (.cells (twC x).toArray 45)):=qJ _
  have hB7:w.drew.heap.size<=(w.drew.alloc (.cells (twC y).toArray 45)).heap.size:=hFr.size
  have hn7:=Cs.fresh (w.drew.alloc (.cells (twC y).toArray 45)) (twC x) 45
  have hz7:(w.drew.alloc (.cells (twC y).toArray 45)).heap.size=w.heap.size+1:=by simp
  rw [hz7] at hn7
  replace hn16:=hn16.next hbN7
  replace hI:=hI.next hbN7
  replace hFn:=hFn.next hbN7
  replace ha:=ha.next hbN7
  replace hO:=hO.next hbN7
  replace hbx:=hbx.trans (hbN7.mono (Nat.le_trans hOw hFr.size))
  replace hFr:=hFr.trans (qH hbN7 _)
  go_simp
  refine hKK _ _ ⟨fun _=>(hK _ hbx),?_⟩; clear hKK KK
  refine wpO (i:=8) rfl fun KK hKK=>?_
  rw [if_pos (by rfl)]
  refine jP (.tmp 38) (.tmp 44) 27 rfl 45 (.agg #[.bool false,.slice none 0 0,.slice none 0 0,.int .i64 0,.bool false,.int .u64 0,.slice none 0 0,.slice none 0 0]) 8 128 Tryz.underlying27 Tryz.infoTw rfl (by decide) (O+1) iv _ rfl hI (w.heap.size+1) 0 1 1 [twC x] rfl rfl (by decide) (zH [x]) (by simp only [List.flatten_cons,List.flatten_nil,List.append_nil]; exact hn7) (zG [x]) (by rw [List.length_map]; omega) (by rw [List.length_map]; omega) hO.lt ?_
  intro iv' w8 hI8 hg8 hb8 ho8
  have hF8:Fr (fun k=>iv.ownBlock=some k) _ w8:=qS hg8 fun g hg=>hg
  replace hn16:=hn16.fr hF8 (fun e=>by have:=hIw _ e; omega)
  have hr8:∀ g,iv'.ownBlock=some g->fv.ownBlock≠some g:=fun g hg hg'=>by
   rcases ho8 with h | h
   ·exact hne g (h▸hg) hg'
   ·have e1:=Option.some.inj (h.symm.trans hg)
    have:=(hFn.lt hg').2
    exact absurd this (by rw [<-e1]; exact Nat.lt_irrefl _)
  replace hFn:FO 45 8 w8 (O+1) fv (fin.map twC):=hFn.fr hF8 (fun g hg hg'=>hne g hg' hg)
  replace ha:FO 54 11 w8 (O+1) av (arcs.map acC):=ha.fr hF8 (fun g hg hg'=>jK hI ha (by decide) g hg' hg)
  replace hO:=hO.under hb8 (Nat.lt_succ_self _)
  replace hbx:=hbx.trans hb8
  replace hFr:=hFr.trans (hF8.mono fun k _ e=>.inl e)
  refine hKK _ _ ⟨fun _=>(hK _ hbx),?_⟩; clear hKK KK
  refine wBp 18 hpan (some 55) rfl rfl (hK _ hbx) ?_
  refine wpO (i:=17) rfl fun KK hKK=>?_
  rw [if_pos (by rfl)]
  refine jP (.tmp 47) (.tmp 53) 27 rfl 45 (.agg #[.bool false,.slice none 0 0,.slice none 0 0,.int .i64 0,.bool false,.int .u64 0,.slice none 0 0,.slice none 0 0]) 8 128 Tryz.underlying27 Tryz.infoTw rfl (by decide) (O+1) fv _ rfl hFn w.heap.size 0 1 1 [twC y] rfl rfl (by decide) (zH [y]) (by simp only [List.flatten_cons,List.flatten_nil,List.append_nil]; exact hn16) (zG [y]) (by rw [List.length_map]; omega) (by rw [List.length_map]; omega) hO.lt ?_
  intro fv' w17 hf17 hg17 hb17 ho17
  have hF17:Fr (fun k=>fv.ownBlock=some k) _ w17:=qS hg17 fun g hg=>hg
  have hr17:∀ g,iv'.ownBlock=some g->fv'.ownBlock≠some g:=fun g hg hg'=>by
   rcases ho17 with h | h
   ·exact hr8 g hg (h▸hg')
   ·have e1:=Option.some.inj (h.symm.trans hg')
    have:=(hI8.lt hg).2
    exact absurd this (by rw [<-e1]; exact Nat.lt_irrefl _)
  have hi17:FO 45 8 w17 (O+1) iv' ((ini.map twC)++[twC x]):=hI8.fr hF17 (fun g hg hg'=>hr8 g hg hg')
  have ha17:FO 54 11 w17 (O+1) av (arcs.map acC):=ha.fr hF17 (fun g hg hg'=>jK hFn ha (by decide) g hg' hg)
  have hO17:=hO.under hb17 (Nat.lt_succ_self _)
  replace hbx:=hbx.trans hb17
  replace hFr:=hFr.trans (hF17.mono fun k _ e=>.inr e)
  obtain ⟨ai,ki,hiv⟩:=hi17.form
  obtain ⟨af,kf,hfv⟩:=hf17.form
  subst hiv hfv
  have y4:=hO17.cell (i:=4) rfl
  have y4f:=hO17.free 4
  have y5:=hO17.cell (i:=5) rfl
  have y5f:=hO17.free 5
  refine hKK _ _ ⟨fun _=>(hK _ hbx),?_⟩; clear hKK KK
  refine wpO (i:=19) rfl fun KK hKK=>?_
  go_simp
  refine lN hKK ?_; clear hKK KK
  refine wpO (i:=20) rfl fun KK hKK=>?_
  go_simp
  refine lN hKK ?_; clear hKK KK
  refine wpO (i:=21) rfl fun KK hKK=>?_
  go_simp
  refine lN hKK ?_; clear hKK KK
  refine qZ (by kernel_rfl) ?_ _
  have hF9:Fr (fun k=>k=O) w17 ((w17.setCell ⟨O,4,none⟩ (.slice ai (ini.length+1) ki)).setCell ⟨O,5,none⟩ (.slice af (fin.length+1) kf)):=(Fr.set (T:=fun k=>k=O) w17 (p:=⟨O,4,none⟩) rfl _).trans (Fr.set (T:=fun k=>k=O) _ (p:=⟨O,5,none⟩) rfl _)
  simp only [List.length_append,List.length_map,List.length_cons,List.length_nil,Nat.zero_add] at hi17 hf17 hr17 ⊢
  refine hexit _ _ _ _ _ _ _ _ _ _ _ _ _ _ _ _ _ _ _ _ (.slice ai (ini.length+1) ki) (.slice af (fin.length+1) kf) _ ?_ ?_
  ·refine ⟨(hO17.put 4 _).put 5 _,?_,?_,?_,?_⟩
   ·rw [List.map_append]; exact hi17.fr hF9 (fun g hg e=>by have:=(hi17.lt hg).1; omega)
   ·rw [List.map_append]; exact hf17.fr hF9 (fun g hg e=>by have:=(hf17.lt hg).1; omega)
   ·exact ha17.fr hF9 (fun g hg e=>by have:=(ha17.lt hg).1; omega)
   ·exact hr17
  ·exact (((qH hdr _).trans (hFr.mono fun k _ h=>.inr h)):Fr (fun k=>k=O\/iv.ownBlock=some k\/fv.ownBlock=some k) w w17).trans (hF9.mono fun k _ h=>.inl h)
end
section
open Go.RowKit
theorem j9s (O syms n X t st tcap a b:Nat) (x:Ac) (hx1:x.1<st) (hx2:x.2.2.1<st) (hst:st<=64) (iv fv av:Value) (ini fin:List Tw) (arcs:List Ac) (w:World) (h:Om w O syms n iv fv av ini fin arcs) (hl:arcs.length<=4096) (hX:Cs w X 0 (acC x)) (hXO:X≠O) (hXa:av.ownBlock≠some X) (ht1:w.cell? ⟨t,x.1,none⟩=some (.int .i64 (a:Int))) (ht2:w.cell? ⟨t,x.2.2.1,none⟩=some (.int .i64 (b:Int)))
  {c0 c1 c2 c3 c4 c7 c8 Aa Ab Ad Ae Af Ag Ah Ak Al Am An Ao Ap Aq Ar As Av Aw Ax Ay Az Ba Bb Bc Be Bf Bh Bi Bj Bk Bm Bn Bo Bp Bq Br Bs Bt Bu Bv Bw Bx By Bz Ca Cb Cc Cd Ce Cf Cg Ch Ci Cj Ck Cl Cm Cn Co Cp Cq Cr Ct Cu Cv Cw Cx Cy Cz Da Db Dc Dd De Df Dg Dh Di Dj Dk Dl Dn Dp Dq Dr Dt Du Dv Dw Dx Dy Dz:Value} {Q0:EP} (hpan:∀ c (a:Act) d v w,Q0 (.panic c) (a.put d v) w->Q0 (.panic c) a w)
  (hexit:∀ (Ea Eb Ec Ed Ee Ef Eg Eh Ei Ej Ek El Em En Eo Ep Eq Er Es Et:Value) (av':Value) (w':World),Om w' O syms n iv fv av' ini fin (arcs++[(a,x.2.1,b,wt x)])->Fr (fun k=>k=O\/av.ownBlock=some k) w w'->Q0 .normal ⟨#[c0,c1,c2,c3,c4,.pointer (some ⟨O,0,none⟩),.slice (some ⟨t,0,none⟩) st tcap,c7,c8,.pointer (some ⟨X,0,none⟩),Aa,Ab,Ad,Ae,Af,Ag,Ah,Ak,Al,Am,An,Ao,Ap,Aq,Ar,As,Av,Aw,Ax,Ay,Az,Ba,Bb,Bc,Be,Bf,Bh,Bi,Bj,Bk,Bm,Bn,Bo,Bp,Bq,Br,Bs,Bt,Bu,Bv,Bw,Bx,By,Bz,Ca,Cb,Cc,Cd,Ce,Cf,Cg,Ch,Ci,Cj,Ck,Cl,Cm,Cn,Co,Cp,Cq,Cr,Ct,Cu,Cv,Cw,Cx,Cy,Cz,Da,Db,Ea,Eb,Ec,Ed,Ee,Ef,Eg,Eh,Ei,Ej,Ek,El,Em,En,Eo,Ep,Eq,Er,Es,Et,Dz],[]⟩ w') :
  Code.wp Tryz.prog (rKr 15) Q0 ⟨#[c0,c1,c2,c3,c4,.pointer (some ⟨O,0,none⟩),.slice (some ⟨t,0,none⟩) st tcap,c7,c8,.pointer (some ⟨X,0,none⟩),Aa,Ab,Ad,Ae,Af,Ag,Ah,Ak,Al,Am,An,Ao,Ap,Aq,Ar,As,Av,Aw,Ax,Ay,Az,Ba,Bb,Bc,Be,Bf,Bh,Bi,Bj,Bk,Bm,Bn,Bo,Bp,Bq,Br,Bs,Bt,Bu,Bv,Bw,Bx,By,Bz,Ca,Cb,Cc,Cd,Ce,Cf,Cg,Ch,Ci,Cj,Ck,Cl,Cm,Cn,Co,Cp,Cq,Cr,Ct,Cu,Cv,Cw,Cx,Cy,Cz,Da,Db,Dc,Dd,De,Df,Dg,Dh,Di,Dj,Dk,Dl,Dn,Dp,Dq,Dr,Dt,Du,Dv,Dw,Dx,Dy,Dz],[]⟩ w:=by
 conv=>arg 2; whnf
 have i1:(x.1:Int)<(st:Int):=by omega
 have i2:(x.2.2.1:Int)<(st:Int):=by omega
 have i3:(0:Int)<=(x.1:Int):=by omega
 have i4:(0:Int)<=(x.2.2.1:Int):=by omega
 have hdr:=(Below.refl w.heap.size w).drew
 have h1:=h.next hdr
 have hS:w.drew.cell? ⟨O,6,none⟩=some av/\Cs w.drew X 0 (acC x)/\w.drew.cell? ⟨t,x.1,none⟩=some (.int .i64 (a:Int))/\w.drew.cell? ⟨t,x.2.2.1,none⟩=some (.int .i64 (b:Int)):=⟨h1.blk.cell rfl,hX.next hdr,qR ht1 hdr,qR ht2 hdr⟩
 have hK:∀ w' w'':World,(w'.cell? ⟨O,6,none⟩=some av/\Cs w' X 0 (acC x)/\w'.cell? ⟨t,x.1,none⟩=some (.int .i64 (a:Int))/\w'.cell? ⟨t,x.2.2.1,none⟩=some (.int .i64 (b:Int)))->Below w'.heap.size w' w''->(w''.cell? ⟨O,6,none⟩=some av/\Cs w'' X 0 (acC x)/\w''.cell? ⟨t,x.1,none⟩=some (.int .i64 (a:Int))/\w''.cell? ⟨t,x.2.2.1,none⟩=some (.int .i64 (b:Int))):=fun w' w'' h hb=>⟨qR h.1 hb,h.2.1.next hb,qR h.2.2.1 hb,qR h.2.2.2 hb⟩
 refine qV (fun w'=>w'.cell? ⟨O,6,none⟩=some av/\Cs w' X 0 (acC x)/\w'.cell? ⟨t,x.1,none⟩=some (.int .i64 (a:Int))/\w'.cell? ⟨t,x.2.2.1,none⟩=some (.int .i64 (b:Int))) [18,19,20] (by kernel_rfl) ?_
 refine wBp 0 hpan (some 81) rfl rfl hS ?_
 refine wBl 1 hpan (some 82) (v:=?_) rfl rfl ?_ hS ?_
 rotate_left
 ·intro wz hw; refine qK O 6 ?_ av hw.1 _ Tryz.underlying28 rfl; go_simp
 refine wBp 2 hpan (some 83) rfl rfl hS ?_
 refine wBp 3 hpan (some 84) rfl rfl hS ?_
 refine wBl 4 hpan (some 85) (v:=?_) rfl rfl ?_ hS ?_
 rotate_left
 ·intro wz hw; refine qK X 0 ?_ (.int .i64 (x.1:Int)) (by have h:=hw.2.1 0 _ rfl; simpa using h) _ Tryz.underlying3 rfl; go_simp
 refine wBp 5 hpan (some 86) rfl rfl hS ?_
 refine wBl 6 hpan (some 87) (v:=?_) rfl rfl ?_ hS ?_
 rotate_left
 ·intro wz hw; refine qK t x.1 ?_ (.int .i64 (a:Int)) (hw.2.2.1) _ Tryz.underlying3 rfl; go_simp
 refine wBp 7 hpan (some 88) rfl rfl hS ?_
 refine wBl 8 hpan (some 89) (v:=?_) rfl rfl ?_ hS ?_
 rotate_left
 ·intro wz hw; refine qK X 1 ?_ (.int .i64 (x.2.1:Int)) (by have h:=hw.2.1 1 _ rfl; simpa using h) _ Tryz.underlying3 rfl; go_simp
 refine wBp 9 hpan (some 90) rfl rfl hS ?_
 refine wBp 10 hpan (some 91) rfl rfl hS ?_
 refine wBl 11 hpan (some 92) (v:=?_) rfl rfl ?_ hS ?_
 rotate_left
 ·intro wz hw; refine qK X 2 ?_ (.int .i64 (x.2.2.1:Int)) (by have h:=hw.2.1 2 _ rfl; simpa using h) _ Tryz.underlying3 rfl; go_simp
 refine wBp 12 hpan (some 93) rfl rfl hS ?_
 refine wBl 13 hpan (some 94) (v:=?_) rfl rfl ?_ hS ?_
 rotate_left
 ·intro wz hw; refine qK t x.2.2.1 ?_ (.int .i64 (b:Int)) (hw.2.2.2) _ Tryz.underlying3 rfl; go_simp
 refine wBp 14 hpan (some 95) rfl rfl hS ?_
 refine wBl 15 hpan (some 96) (v:=?_) rfl rfl ?_ hS ?_
 rotate_left
 ·intro wz hw; refine qY X 3 ?_ (wt x) (by have h:=j0z hw.2.1; rw [Nat.zero_add] at h; exact h); go_simp
 refine wBp 16 hpan (some 97) rfl rfl hS ?_
 go_simp
 refine wpO (i:=17) rfl fun KK hKK=>?_
 have hb3:Below w.drew.heap.size w.drew (w.drew.alloc (.cells (acC (a,x.2.1,b,wt x)).toArray 54)):=qJ _
 have hn3:=Cs.fresh w.drew (acC (a,x.2.1,b,wt x)) 54
 have h3:=h1.next hb3
 go_simp
 refine hKK _ _ ⟨fun _=>(hK _ _ hS hb3),?_⟩; clear hKK KK
 refine wpO (i:=18) rfl fun KK hKK=>?_
 rw [if_pos (by rfl)]
 refine jP (.tmp 82) (.tmp 98) 28 rfl 54 _ 11 152 Tryz.underlying28 Tryz.infoArc rfl (by decide) (O+1) av _ rfl h3.arcs w.heap.size 0 1 1 [acC (a,x.2.1,b,wt x)] rfl rfl (by decide) (vU [(a,x.2.1,b,wt x)]) (by simp only [List.flatten_cons,List.flatten_nil,List.append_nil]; exact hn3) (kK [(a,x.2.1,b,wt x)]) (by rw [List.length_map]; omega) (by rw [List.length_map]; omega) h3.blk.lt ?_
 intro av' w5 ha5 hg5 hb5 ho5
 have hO5:=h3.blk.under hb5 (Nat.lt_succ_self _)
 have hf5:FO 45 8 w5 (O+1) fv (fin.map twC):=h3.fin.fr (qS (T:=fun k=>av.ownBlock=some k) hg5 fun g hg=>hg) (fun g hg hg'=>jK h3.arcs h3.fin (by decide) g hg' hg)
 have hi5:FO 45 8 w5 (O+1) iv (ini.map twC):=h3.ini.fr (qS (T:=fun k=>av.ownBlock=some k) hg5 fun g hg=>hg) (fun g hg hg'=>jK h3.arcs h3.ini (by decide) g hg' hg)
 have hF5:=(qH (qQ hdr hb3) (fun k=>av.ownBlock=some k)).trans (qS hg5 fun g hg=>hg)
 obtain ⟨ai,ki,hav⟩:=ha5.form
 subst hav
 have y6:=hO5.cell (i:=6) rfl
 have y6f:=hO5.free 6
 refine lN hKK ?_; clear hKK KK
 refine wpO (i:=19) rfl fun KK hKK=>?_
 go_simp
 refine lN hKK ?_; clear hKK KK
 refine wpO (i:=20) rfl fun KK hKK=>?_
 go_simp
 refine lN hKK ?_; clear hKK KK
 refine qZ (by kernel_rfl) ?_ _
 simp only [List.length_append,List.length_map,List.length_cons,List.length_nil,Nat.zero_add] at hO5 ha5 ⊢
 have hF9:Fr (fun k=>k=O) w5 (w5.setCell ⟨O,6,none⟩ (.slice ai (arcs.length+1) ki)):=Fr.set (T:=fun k=>k=O) w5 (p:=⟨O,6,none⟩) rfl _
 refine hexit _ _ _ _ _ _ _ _ _ _ _ _ _ _ _ _ _ _ _ _ (.slice ai (arcs.length+1) ki) _ ?_ ?_
 ·refine ⟨hO5.put 6 _,hi5.fr hF9 (fun g hg e=>by have:=(hi5.lt hg).1; omega),hf5.fr hF9 (fun g hg e=>by have:=(hf5.lt hg).1; omega),?_,h3.ne⟩
  rw [List.map_append]; exact ha5.fr hF9 (fun g hg e=>by have:=(ha5.lt hg).1; omega)
 ·exact (hF5.mono (T':=fun k=>k=O\/av.ownBlock=some k) fun k _ h=>.inr h).trans (hF9.mono fun k _ h=>.inl h)
end
section
open Go.RowKit
theorem Om.states {w:World} {O syms n:Nat} {iv fv av:Value} {ini fin:List Tw} {arcs:List Ac} (h:Om w O syms n iv fv av ini fin arcs) (m:Nat):Om (w.setCell ⟨O,3,none⟩ (.int .i64 (m:Int))) O syms m iv fv av ini fin arcs:=by
 have hF:Fr (fun k=>k=O) w (w.setCell ⟨O,3,none⟩ (.int .i64 (m:Int))):=Fr.set (T:=fun k=>k=O) w (p:=⟨O,3,none⟩) rfl _
 exact ⟨h.blk.put 3 (.int .i64 (m:Int)),h.ini.fr hF (fun g hg e=>by have:=(h.ini.lt hg).1; omega),h.fin.fr hF (fun g hg e=>by have:=(h.fin.lt hg).1; omega),h.arcs.fr hF (fun g hg e=>by have:=(h.arcs.lt hg).1; omega),h.ne⟩
def usL (E:Nat->Bool) (n:Nat):List Bool:=(List.range n).map E
theorem q9s {E:Nat->Bool} {n q:Nat} (h:q<n):(usL E n).getD q false=E q:=by
 unfold usL; rw [List.getD_eq_getElem?_getD,List.getElem?_map,List.getElem?_range h]; rfl
theorem q4d (E:Nat->Bool) (n:Nat):(usL E n).length=n:=by simp [usL]
def j0l (us:List Bool) (i:Nat):List Nat:=(List.range i).filter fun q=>us.getD q false
theorem q0h (us:List Bool) (i:Nat):(j0l us i).length=q1z us i:=rfl
theorem j1q {us:List Bool} {i:Nat} (h:us.getD i false=true):j0l us (i+1)=j0l us i++[i]:=by
 unfold j0l; rw [List.range_succ,List.filter_append,List.filter_cons_of_pos (by simpa using h)]; rfl
theorem j5x {us:List Bool} {i:Nat} (h:us.getD i false=false):j0l us (i+1)=j0l us i:=by
 unfold j0l; rw [List.range_succ,List.filter_append,List.filter_cons_of_neg (by simpa using h)]; simp
theorem z2t (us:List Bool) (i:Nat):q1z us i<=i:=by unfold q1z; exact Nat.le_trans (List.length_filter_le _ _) (by simp)
theorem j9l {us:List Bool} {i:Nat} (h:us.getD i false=true):q1z us (i+1)=q1z us i+1:=by rw [<-q0h,<-q0h,j1q h]; simp
theorem z2s {us:List Bool} {i:Nat} (h:us.getD i false=false):q1z us (i+1)=q1z us i:=by rw [<-q0h,<-q0h,j5x h]
def toF (us:List Bool) (i j:Nat):Value:=if j<i/\us.getD j false=true then .int .i64 ((q1z us j:Nat):Int) else .int .i64 0
theorem z4l {us:List Bool} {i:Nat} (h:us.getD i false=false):∀ j,toF us i j=toF us (i+1) j:=fun j=>by
 unfold toF
 by_cases hj:j=i
 ·subst hj; rw [if_neg (by omega),if_neg (by rw [h]; simp)]
 ·by_cases h2:j<i/\us.getD j false=true
  ·rw [if_pos h2,if_pos ⟨by omega,h2.2⟩]
  ·rw [if_neg h2,if_neg (fun h3=>h2 ⟨by omega,h3.2⟩)]
theorem z1u {us:List Bool} {i:Nat} (h:us.getD i false=true):∀ j,q3r (toF us i) i (.int .i64 ((q1z us i:Nat):Int)) j=toF us (i+1) j:=fun j=>by
 unfold q3r
 split
 ·rename_i e; subst e; unfold toF; rw [if_pos ⟨by omega,h⟩]
 ·rename_i e
  unfold toF
  by_cases h2:j<i/\us.getD j false=true
  ·rw [if_pos h2,if_pos ⟨by omega,h2.2⟩]
  ·rw [if_neg h2,if_neg (fun h3=>h2 ⟨by omega,h3.2⟩)]
theorem j9r (W1:World) (syms:Nat) (A:Au) (io:OA) (ci:Nat) (fo:OA) (cf:Nat) (ro:OA) (nr cr:Nat) (E:Nat->Bool) (hst:A.st<=64) (hm:Hid (Mo W1 syms A io ci fo cf ro nr cr)) (ko:OA) (kc:Nat) (hk:Hid (Rd W1 ko A.st kc (fBo E))) (G O t:Nat) (hG:Bl G (auC syms A.st (.slice io A.st ci) (.slice fo A.st cf) (.slice ro nr cr)) 30 W1) (hO1:W1.heap.size<=O) (hOt:O<t) (w:World) (hb:Below W1.heap.size W1 w) (hOm:Om w O syms 0 (.slice none 0 0) (.slice none 0 0) (.slice none 0 0) [] [] []) (ht:Rw 3 w (O+1) (.slice (some ⟨t,0,none⟩) A.st A.st) A.st (fun _=>.int .i64 0))
  {c0 c3 c4 c8 c9 Aa Ab Ad Ae Af Ag Ah Ak Al Am An Ao Ap Aq Ar As Av Aw Ax Ay Az Ba Bb Bc Be Bf Bh Bi Bj Bk Bm Bn Bo Bp Bq Br Bs Bt Bu Bv Bw Bx By Bz Ca Cb Cc Cd Ce Cf Cg Ch Ci Cj Ck Cl Cm Cn Co Cp Cq Cr Ct Cu Cv Cw Cx Cy Cz Da Db Dc Dd De Df Dg Dh Di Dj Dk Dl Dn Dp Dq Dr Dt Du Dv Dw Dx Dy Dz:Value} {Q0:EP} (hpan:∀ c (a:Act) d v w,Q0 (.panic c) (a.put d v) w->Q0 (.panic c) a w)
  (hexit:∀ (u7 Ea Eb Ec Ed Ee Ef Eg Eh Ei Ej Ek El Em En Eo Ep Eq Er Es Et Eu Ev Ew Ex Ey Ez Fa Fb Fc Fd Fe Ff Fg Fh Fi Fj Fk Fm Fn:Value) (iv' fv':Value) (w':World),Om w' O syms (q1z (usL E A.st) A.st) iv' fv' (.slice none 0 0) ((j0l (usL E A.st) A.st).map fun q=>A.ini.getD q none) ((j0l (usL E A.st) A.st).map fun q=>A.fin.getD q none) []->Rw 3 w' (O+1) (.slice (some ⟨t,0,none⟩) A.st A.st) A.st (toF (usL E A.st) A.st)->Below W1.heap.size W1 w'->Q0 .normal ⟨#[c0,.slice ko A.st kc,.pointer (some ⟨G,0,none⟩),c3,c4,.pointer (some ⟨O,0,none⟩),.slice (some ⟨t,0,none⟩) A.st A.st,u7,c8,c9,Aa,Ab,Ad,Ae,Af,Ag,Ah,Ak,Ea,Eb,Ec,Ed,Ee,Ef,Eg,Eh,Ei,Ej,Ek,El,Em,En,Eo,Ep,Eq,Er,Es,Et,Eu,Ev,Ew,Ex,Ey,Ez,Fa,Fb,Fc,Fd,Fe,Ff,Fg,Fh,Fi,Fj,Fk,Fm,Fn,Cd,Ce,Cf,Cg,Ch,Ci,Cj,Ck,Cl,Cm,Cn,Co,Cp,Cq,Cr,Ct,Cu,Cv,Cw,Cx,Cy,Cz,Da,Db,Dc,Dd,De,Df,Dg,Dh,Di,Dj,Dk,Dl,Dn,Dp,Dq,Dr,Dt,Du,Dv,Dw,Dx,Dy,Dz],[]⟩ w') :
  Code.wp Tryz.prog (rK 0) Q0 ⟨#[c0,.slice ko A.st kc,.pointer (some ⟨G,0,none⟩),c3,c4,.pointer (some ⟨O,0,none⟩),.slice (some ⟨t,0,none⟩) A.st A.st,.int .i64 0,c8,c9,Aa,Ab,Ad,Ae,Af,Ag,Ah,Ak,Al,Am,An,Ao,Ap,Aq,Ar,As,Av,Aw,Ax,Ay,Az,Ba,Bb,Bc,Be,Bf,Bh,Bi,Bj,Bk,Bm,Bn,Bo,Bp,Bq,Br,Bs,Bt,Bu,Bv,Bw,Bx,By,Bz,Ca,Cb,Cc,Cd,Ce,Cf,Cg,Ch,Ci,Cj,Ck,Cl,Cm,Cn,Co,Cp,Cq,Cr,Ct,Cu,Cv,Cw,Cx,Cy,Cz,Da,Db,Dc,Dd,De,Df,Dg,Dh,Di,Dj,Dk,Dl,Dn,Dp,Dq,Dr,Dt,Du,Dv,Dw,Dx,Dy,Dz],[]⟩ w:=by
 conv=>arg 2; whnf
 obtain ⟨U,hU⟩:∃ U,usL E A.st=U:=⟨_,rfl⟩
 have hUq:Hid (∀ q,q<A.st->U.getD q false=E q):=hid (fun q hq=>by rw [<-hU]; exact q9s hq)
 rw [hU] at hexit
 have hG0:=hid hG
 replace hb:=hid hb
 have hOm0:=hid hOm
 have ht0:=hid ht
 clear hU hG hOm ht
 go_wp2_with fail
 go_loopw [7] (fun iv_ wr=>∃ (i:Nat) (iv fv:Value),i<=A.st/\iv_=.int .i64 (i:Int)/\Om wr O syms (q1z U i) iv fv (.slice none 0 0) ((j0l U i).map fun q=>A.ini.getD q none) ((j0l U i).map fun q=>A.fin.getD q none) []/\Rw 3 wr (O+1) (.slice (some ⟨t,0,none⟩) A.st A.st) A.st (toF U i)/\Below W1.heap.size W1 wr) (fun iv_ _=>A.st-(intOf iv_).toNat)
 case atStart=>exact ⟨0,_,_,Nat.zero_le _,rfl,hOm0.out,ht0.out.congr (fun j _=>by unfold toF; rw [if_neg (by omega)]),hb.out⟩
 case round =>
  obtain ⟨i,iv,fv,hi,rfl,hOm,ht,hbw⟩:=hrel
  have y3:=(hG0.out.next hbw).cell (i:=3) rfl
  by_cases hlt:i<A.st
  ·have i1:(i:Int)<(A.st:Int):=by omega
   have i0:(0:Int)<=(i:Int):=by omega
   obtain ⟨kb,kof,hko,hkc⟩:=(hk.out.next hbw).get hlt
   subst hko
   simp only [fBo] at hkc
   have hUi:=hUq.out i hlt
   obtain ⟨bq,hbq⟩:∃ bq,E i=bq:=⟨_,rfl⟩
   rw [hbq] at hkc hUi
   replace hUi:=hid hUi
   clear hbq
   cases bq with
   | false =>
    have hp:=hid (j5x hUi.out)
    have hn:=hid (z2s hUi.out)
    have htf:=hid (z4l hUi.out)
    replace hOm:=hid hOm
    replace ht:=hid ht
    replace hbw:=hid hbw
    go_wp2_with fail
    go_roundw
    case rel=>exact ⟨i+1,iv,fv,by omega,by go_num,by rw [hp.out,hn.out]; exact hOm.out,ht.out.congr (fun j _=>htf.out j),hbw.out⟩
    case measure=>simp [intOf]; omega
   | true =>
    have hp:=hid (j1q hUi.out)
    have hn:=hid (j9l hUi.out)
    have htf:=hid (z1u hUi.out)
    have hnl:=z2t U i
    obtain ⟨x,hx,b1,o1,hio,hcx⟩:=(hm.out.next hbw).ini.get hlt
    obtain ⟨y,hy,b2,o2,hfo,hcy⟩:=(hm.out.next hbw).fin.get hlt
    have hx':Hid (A.ini.getD i none=x):=hid (by rw [List.getD_eq_getElem?_getD,hx]; rfl)
    have hy':Hid (A.fin.getD i none=y):=hid (by rw [List.getD_eq_getElem?_getD,hy]; rfl)
    have hcxW:Hid (b1<O):=hid (by
     obtain ⟨x',_,b',o',e,hc⟩:=hm.out.ini.get hlt
     rw [hio] at e; injection e with e; injection e with e1 e2; subst e1 e2
     exact Nat.lt_of_lt_of_le (World.block_lt_of_cell? _ _ (hc 0 _ rfl)) hO1)
    have hcyW:Hid (b2<O):=hid (by
     obtain ⟨x',_,b',o',e,hc⟩:=hm.out.fin.get hlt
     rw [hfo] at e; injection e with e; injection e with e1 e2; subst e1 e2
     exact Nat.lt_of_lt_of_le (World.block_lt_of_cell? _ _ (hc 0 _ rfl)) hO1)
    clear hx hy
    obtain ⟨nn,hnn⟩:∃ nn,q1z U i=nn:=⟨_,rfl⟩
    rw [hnn] at hOm hnl
    have z3:=hOm.blk.cell (i:=3) rfl
    have z3f:=hOm.blk.free 3
    have zt:=ht.cell hlt
    have ztf:=ht.free i
    have j1:(nn:Int)<=64:=by omega
    have j0:(0:Int)<=(nn:Int):=by omega
    have hF1:Fr (fun k=>k=t) wr (wr.setCell ⟨t,i,none⟩ (.int .i64 (nn:Int))):=Fr.set (T:=fun k=>k=t) wr (p:=⟨t,i,none⟩) rfl _
    have hmt:∀ k,OmB O iv fv (.slice none 0 0) k->¬ k=t:=fun k hk e=>by
     subst e
     rcases hk with e | e | e | e
     ·omega
     ·rcases q0t hOm.ini.1 ht (by decide) with h | h
      ·rw [h] at e; cases e
      ·exact h (e.trans rfl)
     ·rcases q0t hOm.fin.1 ht (by decide) with h | h
      ·rw [h] at e; cases e
      ·exact h (e.trans rfl)
     ·cases e
    have hOm1:=hOm.fr hF1 hmt
    have ht1:=(ht.put i (.int .i64 (nn:Int)))
    have hOm2:=hid (hOm1.states (nn+1))
    have hF2:Fr (fun k=>k=O) (wr.setCell ⟨t,i,none⟩ (.int .i64 (nn:Int))) ((wr.setCell ⟨t,i,none⟩ (.int .i64 (nn:Int))).setCell ⟨O,3,none⟩ (.int .i64 ((nn+1:Nat):Int))):=Fr.set (T:=fun k=>k=O) _ (p:=⟨O,3,none⟩) rfl _
    have ht2:=hid (ht1.fr hF2 (fun g hg e=>by have e2:t=g:=Option.some.inj hg; omega))
    have z3':(wr.setCell ⟨t,i,none⟩ (.int .i64 (nn:Int))).cell? ⟨O,3,none⟩=some (.int .i64 (nn:Int)):=hOm1.blk.cell rfl
    have hb2:=hid ((hbw.trans (hF1.below (fun k e=>by omega) hbw.size)).trans (hF2.below (fun k e=>by omega) (by have:=hbw.size; have:=hF1.size; omega)))
    have hG2:=hid (hG0.out.next hb2.out)
    have hcx2:Hid (Cs ((wr.setCell ⟨t,i,none⟩ (.int .i64 (nn:Int))).setCell ⟨O,3,none⟩ (.int .i64 ((nn+1:Nat):Int))) b1 (o1+i*8) (twC x)):=hid ((hcx.fr hF1 (by have:=hcxW.out; omega)).fr hF2 (by have:=hcxW.out; omega))
    have hcy2:Hid (Cs ((wr.setCell ⟨t,i,none⟩ (.int .i64 (nn:Int))).setCell ⟨O,3,none⟩ (.int .i64 ((nn+1:Nat):Int))) b2 (o2+i*8) (twC y)):=hid ((hcy.fr hF1 (by have:=hcyW.out; omega)).fr hF2 (by have:=hcyW.out; omega))
    have hcast:((nn+1:Nat):Int)=(nn:Int)+1:=by omega
    rw [hcast] at hOm2 ht2 hb2 hG2 hcx2 hcy2
    replace hnn:=hid hnn
    have hpl:((j0l U i).map fun q=>A.ini.getD q none).length<=64:=by rw [List.length_map,q0h,hnn.out]; omega
    have hpl2:((j0l U i).map fun q=>A.fin.getD q none).length<=64:=by rw [List.length_map,q0h,hnn.out]; omega
    clear hcast hcx hcy hOm hOm1 ht ht1 hF1 hF2 hbw hmt
    go_upto_region 9 with fail
    refine j9t syms A io ci fo cf ro nr cr O G (nn+1) i b1 o1 b2 o2 hio hfo hlt hst x y iv fv (.slice none 0 0) _ _ [] _ hOm2.out hpl hpl2 hG2.out.cs (Nat.lt_of_lt_of_le hG0.out.lt hO1) hcx2.out hcxW.out hcy2.out hcyW.out hpan ?_
    intro Fo Fp Fq Fs Ft Fu Fv Fw Fx Fy Fz Ga Gb Gc Gd Ge Gf Gg Gh Gi iv' fv' w3 hOm3 hf3
    have ht3:=hid (ht2.out.fr hf3 (fun g hg e=>by
     have e2:t=g:=Option.some.inj hg
     subst e2
     rcases e with e | e | e
     ·omega
     ·rcases q0t hOm2.out.ini.1 ht2.out (by decide) with h | h
      ·rw [h] at e; cases e
      ·exact h (e.trans rfl)
     ·rcases q0t hOm2.out.fin.1 ht2.out (by decide) with h | h
      ·rw [h] at e; cases e
      ·exact h (e.trans rfl)))
    have hb3:=hid (hb2.out.trans (hf3.below (fun k e=>by
     rcases e with rfl | e | e
     ·exact hO1
     ·have:=(hOm2.out.ini.lt e).1; omega
     ·have:=(hOm2.out.fin.lt e).1; omega) hb2.out.size))
    replace hOm3:=hid hOm3
    clear hf3
    go_wp2_with fail
    go_roundw
    case rel=>exact ⟨i+1,iv',fv',by omega,by go_num,by rw [hp.out,hn.out,hnn.out,List.map_append,List.map_append,List.map_singleton,List.map_singleton,hx'.out,hy'.out]; exact hOm3.out,(by have h:=ht3.out; rw [<-hnn.out] at h; exact h.congr (fun j _=>htf.out j)),hb3.out⟩
    case measure=>simp [intOf]; omega
  ·obtain rfl:i=A.st:=by omega
   have i1:¬ (A.st:Int)<(A.st:Int):=by omega
   replace hOm:=hid hOm
   replace ht:=hid ht
   go_wp2_with fail
   exact hexit _ _ _ _ _ _ _ _ _ _ _ _ _ _ _ _ _ _ _ _ _ _ _ _ _ _ _ _ _ _ _ _ _ _ _ _ _ _ _ _ iv fv wr hOm.out ht.out hbw
end
end Go.Proofs.YtnapapijhhldpaaGreatDoor

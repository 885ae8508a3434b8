/-
  Texts joined by program: TwNd, RR, TwNe, TwNf. No condition of its own.
-/
import Derived.Test.YtnapapijhhldpaaGreatDoorJtAP
namespace Go.Proofs.YtnapapijhhldpaaGreatDoor
set_option linter.unusedSimpArgs false
set_option linter.unusedVariables false
set_option maxRecDepth 100000
set_option maxHeartbeats 4000000
section
open Go.RowKit
structure Om (w:World) (O syms n:Nat) (iv fv av:Value) (ini fin:List Tw) (arcs:List Ac):Prop where
 blk:Bl O (auC syms n iv fv av) 30 w
 ini:FO 45 8 w (O+1) iv (ini.map twC)
 fin:FO 45 8 w (O+1) fv (fin.map twC)
 arcs:FO 54 11 w (O+1) av (arcs.map acC)
 ne:∀ g,iv.ownBlock=some g->fv.ownBlock≠some g
def OmB (O:Nat) (iv fv av:Value) (k:Nat):Prop:=k=O\/iv.ownBlock=some k\/fv.ownBlock=some k\/av.ownBlock=some k
theorem Om.next {w w':World} {O syms n:Nat} {iv fv av:Value} {ini fin:List Tw} {arcs:List Ac} (h:Om w O syms n iv fv av ini fin arcs) (hb:Below w.heap.size w w'):Om w' O syms n iv fv av ini fin arcs :=
 ⟨h.blk.next hb,h.ini.next hb,h.fin.next hb,h.arcs.next hb,h.ne⟩
theorem FO.fr {T:Nat->Prop} {e:TypeId} {k base:Nat} {v:Value} {css:List (List Value)} {w w':World} (h:FO e k w base v css) (hf:Fr T w w') (hT:∀ g,v.ownBlock=some g->¬ T g):FO e k w' base v css:=h.same fun g hg=>hf.block g (h.lt hg).2 (hT g hg)
theorem Om.fr {T:Nat->Prop} {w w':World} {O syms n:Nat} {iv fv av:Value} {ini fin:List Tw} {arcs:List Ac} (h:Om w O syms n iv fv av ini fin arcs) (hf:Fr T w w') (hT:∀ k,OmB O iv fv av k->¬ T k):Om w' O syms n iv fv av ini fin arcs :=
 ⟨h.blk.fr hf (hT O (.inl rfl)),h.ini.fr hf fun g hg=>hT g (.inr (.inl hg)),h.fin.fr hf fun g hg=>hT g (.inr (.inr (.inl hg))),h.arcs.fr hf fun g hg=>hT g (.inr (.inr (.inr hg))),h.ne⟩
theorem Om.lt {w:World} {O syms n:Nat} {iv fv av:Value} {ini fin:List Tw} {arcs:List Ac} (h:Om w O syms n iv fv av ini fin arcs) {k:Nat} (hk:OmB O iv fv av k):O<=k/\k<w.heap.size:=by
 rcases hk with rfl | hk | hk | hk
 ·exact ⟨Nat.le_refl _,h.blk.lt⟩
 ·have:=h.ini.lt hk; omega
 ·have:=h.fin.lt hk; omega
 ·have:=h.arcs.lt hk; omega
theorem own_ne' {e1 e2:TypeId} {k1 k2 b1 b2:Nat} {v1 v2:Value} {c1 c2:List (List Value)} {w:World} (h1:FO e1 k1 w b1 v1 c1) (h2:FO e2 k2 w b2 v2 c2) (he:e1≠e2):∀ g,v1.ownBlock=some g->v2.ownBlock≠some g:=fun g hg hg'=>by
 rcases own_ne h1.1 h2.1 he with h | h
 ·rw [h] at hg; cases hg
 ·exact h (by rw [hg,hg'])
theorem det_app (O syms n:Nat) (iv fv av:Value) (ini fin:List Tw) (arcs:List Ac) (b e:Tw) (w:World) (h:Om w O syms n iv fv av ini fin arcs) (hi:ini.length<=64) (hf:fin.length<=64)
  {c0 c1 c2 c3 c4 c5 c6 c7 c8 Aa Ab Ad Ae Af Ag Ah Ak Al Am An Ao Ap Aq Ar As Av Aw Ax Ay Az Ba Bb Bc Be Bf Bh Bi Bj Bk Bm Bn Bo Bp Bq Br Bs Bt Bu Bv Bw Bx By Bz Ca Cb Cc Cd Ce Cf Cg Ch Ci Cj Ck Cl Cm Cn Co Cp Cq Cr Ct Cu Cv Cw Cx Cy Cz Da Db Dc Dd De Df Dg Dh Di Dj Dk Dl Dn Dp Dq Dr Dt Du Dv Dw Dx Dy Dz Ea Eb Ec Ed Ee Ef Eg Eh Ei Ej Ek El Em En Eo Ep Eq Er Es Et Eu Ev Ew Ex Ey Ez Fa Fb Fc Fd Fe Ff Fg Fh Fi Fj Fk Fm Fn Fo Fp Fq Fs Ft Fu Fv Fw Fx Fy Fz Ga Gb Gc Gd Ge Gf Gg Gh Gi Gj Gk Gl Gm Gn Go Gp Gq Gr Gs Gt Gu Gv Gw Gx Gy Gz Ha Hb Hc Hd He Hf Hg Hh Hi Hj Hk Hl Hm Hn Ho Hp Hq Hr Hs Ht Hu Hv Hw Hx Hy Hz Ia Ib Ic Id Ie Ig Ih Ii Ij Ik Il Im Io Ip Iq Ir It Iu Iv Iw Ix Iy Iz Ja Jb Jc Jd Je Jf Jg Jh Ji Jj Jk Jl Jm Jn Jo Jp Jq Jr Js Jt Ju Jv Jw:Value} {Q0:EP} (hpan:∀ c (a:Act) d v w,Q0 (.panic c) (a.put d v) w->Q0 (.panic c) a w)
  (hexit:∀ (Jx Jy Jz Ka Kb Kc Kd Ke Kf Kg Kh Ki Kj Kk:Value) (iv' fv':Value) (w':World),Om w' O syms n iv' fv' av (ini++[b]) (fin++[e]) arcs->Fr (fun k=>k=O\/iv.ownBlock=some k\/fv.ownBlock=some k) w w'->Q0 .normal ⟨#[c0,c1,c2,c3,c4,c5,c6,c7,c8,.pointer (some ⟨O,0,none⟩),oV b,Aa,Ab,Ad,oV e,Ae,Af,Ag,Ah,Ak,Al,Am,An,Ao,Ap,Aq,Ar,As,Av,Aw,Ax,Ay,Az,Ba,Bb,Bc,Be,Bf,Bh,Bi,Bj,Bk,Bm,Bn,Bo,Bp,Bq,Br,Bs,Bt,Bu,Bv,Bw,Bx,By,Bz,Ca,Cb,Cc,Cd,Ce,Cf,Cg,Ch,Ci,Cj,Ck,Cl,Cm,Cn,Co,Cp,Cq,Cr,Ct,Cu,Cv,Cw,Cx,Cy,Cz,Da,Db,Dc,Dd,De,Df,Dg,Dh,Di,Dj,Dk,Dl,Dn,Dp,Dq,Dr,Dt,Du,Dv,Dw,Dx,Dy,Dz,Ea,Eb,Ec,Ed,Ee,Ef,Eg,Eh,Ei,Ej,Ek,El,Em,En,Eo,Ep,Eq,Er,Es,Et,Eu,Ev,Ew,Ex,Ey,Ez,Fa,Fb,Fc,Fd,Jx,Jy,Jz,Ka,Kb,Kc,Kd,Ke,Kf,Kg,Kh,Ki,Kj,Kk,Fu,Fv,Fw,Fx,Fy,Fz,Ga,Gb,Gc,Gd,Ge,Gf,Gg,Gh,Gi,Gj,Gk,Gl,Gm,Gn,Go,Gp,Gq,Gr,Gs,Gt,Gu,Gv,Gw,Gx,Gy,Gz,Ha,Hb,Hc,Hd,He,Hf,Hg,Hh,Hi,Hj,Hk,Hl,Hm,Hn,Ho,Hp,Hq,Hr,Hs,Ht,Hu,Hv,Hw,Hx,Hy,Hz,Ia,Ib,Ic,Id,Ie,Ig,Ih,Ii,Ij,Ik,Il,Im,Io,Ip,Iq,Ir,It,Iu,Iv,Iw,Ix,Iy,Iz,Ja,Jb,Jc,Jd,Je,Jf,Jg,Jh,Ji,Jj,Jk,Jl,Jm,Jn,Jo,Jp,Jq,Jr,Js,Jt,Ju,Jv,Jw],[]⟩ w') :
  Code.wp Tryz.prog (dR 27) Q0 ⟨#[c0,c1,c2,c3,c4,c5,c6,c7,c8,.pointer (some ⟨O,0,none⟩),oV b,Aa,Ab,Ad,oV e,Ae,Af,Ag,Ah,Ak,Al,Am,An,Ao,Ap,Aq,Ar,As,Av,Aw,Ax,Ay,Az,Ba,Bb,Bc,Be,Bf,Bh,Bi,Bj,Bk,Bm,Bn,Bo,Bp,Bq,Br,Bs,Bt,Bu,Bv,Bw,Bx,By,Bz,Ca,Cb,Cc,Cd,Ce,Cf,Cg,Ch,Ci,Cj,Ck,Cl,Cm,Cn,Co,Cp,Cq,Cr,Ct,Cu,Cv,Cw,Cx,Cy,Cz,Da,Db,Dc,Dd,De,Df,Dg,Dh,Di,Dj,Dk,Dl,Dn,Dp,Dq,Dr,Dt,Du,Dv,Dw,Dx,Dy,Dz,Ea,Eb,Ec,Ed,Ee,Ef,Eg,Eh,Ei,Ej,Ek,El,Em,En,Eo,Ep,Eq,Er,Es,Et,Eu,Ev,Ew,Ex,Ey,Ez,Fa,Fb,Fc,Fd,Fe,Ff,Fg,Fh,Fi,Fj,Fk,Fm,Fn,Fo,Fp,Fq,Fs,Ft,Fu,Fv,Fw,Fx,Fy,Fz,Ga,Gb,Gc,Gd,Ge,Gf,Gg,Gh,Gi,Gj,Gk,Gl,Gm,Gn,Go,Gp,Gq,Gr,Gs,Gt,Gu,Gv,Gw,Gx,Gy,Gz,Ha,Hb,Hc,Hd,He,Hf,Hg,Hh,Hi,Hj,Hk,Hl,Hm,Hn,Ho,Hp,Hq,Hr,Hs,Ht,Hu,Hv,Hw,Hx,Hy,Hz,Ia,Ib,Ic,Id,Ie,Ig,Ih,Ii,Ij,Ik,Il,Im,Io,Ip,Iq,Ir,It,Iu,Iv,Iw,Ix,Iy,Iz,Ja,Jb,Jc,Jd,Je,Jf,Jg,Jh,Ji,Jj,Jk,Jl,Jm,Jn,Jo,Jp,Jq,Jr,Js,Jt,Ju,Jv,Jw],[]⟩ w:=by
 conv=>arg 2; whnf
 have hdr:=(Below.refl w.heap.size w).drew
 have h1:=h.next hdr
 have hS:w.drew.cell? ⟨O,4,none⟩=some iv/\w.drew.cell? ⟨O,5,none⟩=some fv:=⟨h1.blk.cell rfl,h1.blk.cell rfl⟩
 have hK:∀ w' w'':World,(w'.cell? ⟨O,4,none⟩=some iv/\w'.cell? ⟨O,5,none⟩=some fv)->Below w'.heap.size w' w''->(w''.cell? ⟨O,4,none⟩=some iv/\w''.cell? ⟨O,5,none⟩=some fv):=fun w' w'' h hb=>⟨cell_later hb h.1,cell_later hb h.2⟩
 refine wp_region_D (fun w'=>w'.cell? ⟨O,4,none⟩=some iv/\w'.cell? ⟨O,5,none⟩=some fv) [13,14,15] (by kernel_rfl) ?_
 refine tkBp 0 hpan (some 134) rfl rfl hS ?_
 refine tkBl 1 hpan (some 135) (v:=?_) rfl rfl ?_ hS ?_
 rotate_left
 ·intro wz hw; obtain ⟨a0,a1⟩:=hw; first | (go_simp; done) | (go_simp; with_reducible rfl)
 refine tkBp 2 hpan (some 136) rfl rfl hS ?_
 refine tkBp 6 hpan (some 140) rfl rfl hS ?_
 refine tkBl 7 hpan (some 141) (v:=?_) rfl rfl ?_ hS ?_
 rotate_left
 ·intro wz hw; obtain ⟨a0,a1⟩:=hw; first | (go_simp; done) | (go_simp; with_reducible rfl)
 refine tkBp 8 hpan (some 142) rfl rfl hS ?_
 refine wpO (i:=3) rfl fun KK hKK=>?_
 go_simp
 go_at_call 31
 refine (cost_any b _).mono ?_; rintro ee w2 ⟨rfl,hb2⟩
 have h2:=h1.next hb2
 try go_simp
 refine hKK _ _ ⟨fun _=>(hK _ _ hS hb2),?_⟩; clear hKK KK
 refine wpO (i:=4) rfl fun KK hKK=>?_
 have hb3:Below w2.heap.size w2 (w2.alloc (.cells (twC b).toArray 45)):=below_alloc _
 have hn3:=Cs.fresh w2 (twC b) 45
 have h3:=h2.next hb3
 go_simp
 refine hKK _ _ ⟨fun _=>(hK _ _ (hK _ _ hS hb2) hb3),?_⟩; clear hKK KK
 refine wpO (i:=5) rfl fun KK hKK=>?_
 rw [if_pos (by rfl)]
 refine op_appF (.tmp 135) (.tmp 138) 27 rfl 45 (.agg #[.bool false,.slice none 0 0,.slice none 0 0,.int .i64 0,.bool false,.int .u64 0,.slice none 0 0,.slice none 0 0]) 8 128 Tryz.underlying27 Tryz.infoTw rfl (by decide) (O+1) iv _ rfl h3.ini w2.heap.size 0 1 1 [twC b] rfl rfl (by decide) (twC_len [b]) (by simpa using hn3) (twC_one [b]) (by rw [List.length_map]; omega) (by rw [List.length_map]; omega) h3.blk.lt ?_
 intro iv' w5 hi5 hg5 hb5 ho5
 have hO5:=h3.blk.under hb5 (Nat.lt_succ_self _)
 have hf5:FO 45 8 w5 (O+1) fv (fin.map twC):=h3.fin.fr (grown_fr (T:=fun k=>iv.ownBlock=some k) hg5 fun g hg=>hg) (fun g hg hg'=>h3.ne g hg' hg)
 have ha5:FO 54 11 w5 (O+1) av (arcs.map acC):=h3.arcs.fr (grown_fr (T:=fun k=>iv.ownBlock=some k) hg5 fun g hg=>hg) (fun g hg hg'=>own_ne' h3.ini h3.arcs (by decide) g hg' hg)
 have hr5:∀ g,iv'.ownBlock=some g->fv.ownBlock≠some g:=fun g hg hg'=>by
  rcases ho5 with h | h
  ·exact h3.ne g (h▸hg) hg'
  ·have e1:(w2.alloc (.cells (twC b).toArray 45)).heap.size=g:=Option.some.inj (h.symm.trans hg)
   have:=(h3.fin.lt hg').2; omega
 have hF5:=(below_fr (below_chain (below_chain hdr hb2) hb3) (fun k=>iv.ownBlock=some k)).trans (grown_fr hg5 fun g hg=>hg)
 refine hKK _ _ ⟨fun _=>(⟨hO5.cell rfl,hO5.cell rfl⟩),?_⟩; clear hKK KK
 refine tkBp 12 hpan (some 146) rfl rfl (⟨hO5.cell rfl,hO5.cell rfl⟩) ?_
 refine wpO (i:=9) rfl fun KK hKK=>?_
 go_simp
 go_at_call 31
 refine (cost_any e _).mono ?_; rintro ee w6 ⟨rfl,hb6⟩
 try go_simp
 refine hKK _ _ ⟨fun _=>(hK _ _ (⟨hO5.cell rfl,hO5.cell rfl⟩) hb6),?_⟩; clear hKK KK
 refine wpO (i:=10) rfl fun KK hKK=>?_
 have hb7:Below w6.heap.size w6 (w6.alloc (.cells (twC e).toArray 45)):=below_alloc _
 have hn7:=Cs.fresh w6 (twC e) 45
 have hb57:=below_chain hb6 hb7
 have hO7:=hO5.next hb57
 have hf7:=hf5.next hb57
 have ha7:=ha5.next hb57
 have hi7:=hi5.next hb57
 go_simp
 refine hKK _ _ ⟨fun _=>(hK _ _ (hK _ _ (⟨hO5.cell rfl,hO5.cell rfl⟩) hb6) hb7),?_⟩; clear hKK KK
 refine wpO (i:=11) rfl fun KK hKK=>?_
 rw [if_pos (by rfl)]
 refine op_appF (.tmp 141) (.tmp 144) 27 rfl 45 (.agg #[.bool false,.slice none 0 0,.slice none 0 0,.int .i64 0,.bool false,.int .u64 0,.slice none 0 0,.slice none 0 0]) 8 128 Tryz.underlying27 Tryz.infoTw rfl (by decide) (O+1) fv _ rfl hf7 w6.heap.size 0 1 1 [twC e] rfl rfl (by decide) (twC_len [e]) (by simpa using hn7) (twC_one [e]) (by rw [List.length_map]; omega) (by rw [List.length_map]; omega) hO7.lt ?_
 intro fv' w8 hf8 hg8 hb8 ho8
 have hO8:=hO7.under hb8 (Nat.lt_succ_self _)
 have hi8:FO 45 8 w8 (O+1) iv' ((ini.map twC)++[twC b]):=hi7.fr (grown_fr (T:=fun k=>fv.ownBlock=some k) hg8 fun g hg=>hg) (fun g hg hg'=>hr5 g hg hg')
 have ha8:FO 54 11 w8 (O+1) av (arcs.map acC):=ha7.fr (grown_fr (T:=fun k=>fv.ownBlock=some k) hg8 fun g hg=>hg) (fun g hg hg'=>own_ne' hf7 ha7 (by decide) g hg' hg)
 have hr8:∀ g,iv'.ownBlock=some g->fv'.ownBlock≠some g:=fun g hg hg'=>by
  rcases ho8 with h | h
  ·exact hr5 g hg (h▸hg')
  ·have e1:(w6.alloc (.cells (twC e).toArray 45)).heap.size=g:=Option.some.inj (h.symm.trans hg')
   have:=(hi7.lt hg).2; omega
 have hF8:=(hF5.mono (T':=fun k=>k=O\/iv.ownBlock=some k\/fv.ownBlock=some k) fun k _ h=>.inr (.inl h)).trans ((below_fr hb57 _).trans ((grown_fr (T:=fun k=>fv.ownBlock=some k) hg8 fun g hg=>hg).mono fun k _ h=>.inr (.inr h)))
 obtain ⟨ai,ki,hiv⟩:=hi8.form
 obtain ⟨af,kf,hfv⟩:=hf8.form
 subst hiv hfv
 have y4:=hO8.cell (i:=4) rfl
 have y4f:=hO8.free 4
 have y5:=hO8.cell (i:=5) rfl
 have y5f:=hO8.free 5
 refine hKK _ _ ⟨fun _=>(⟨hO8.cell rfl,hO8.cell rfl⟩),?_⟩; clear hKK KK
 refine wpO (i:=13) rfl fun KK hKK=>?_
 go_simp
 refine lN hKK ?_; clear hKK KK
 refine wpO (i:=14) rfl fun KK hKK=>?_
 go_simp
 refine lN hKK ?_; clear hKK KK
 refine wpO (i:=15) rfl fun KK hKK=>?_
 go_simp
 refine lN hKK ?_; clear hKK KK
 refine wpAnyD_done (by kernel_rfl) ?_ _
 have hF9:Fr (fun k=>k=O) w8 ((w8.setCell ⟨O,4,none⟩ (.slice ai (ini.length+1) ki)).setCell ⟨O,5,none⟩ (.slice af (fin.length+1) kf)):=(Fr.set (T:=fun k=>k=O) w8 (p:=⟨O,4,none⟩) rfl _).trans (Fr.set (T:=fun k=>k=O) _ (p:=⟨O,5,none⟩) rfl _)
 simp only [List.length_append,List.length_map,List.length_cons,List.length_nil] at *
 refine hexit _ _ _ _ _ _ _ _ _ _ _ _ _ _ (.slice ai (ini.length+1) ki) (.slice af (fin.length+1) kf) _ ?_ ?_
 ·refine ⟨(hO8.put 4 _).put 5 _,?_,?_,?_,?_⟩
  ·rw [List.map_append]; exact hi8.fr hF9 (fun g hg e=>by have:=(hi8.lt hg).1; omega)
  ·rw [List.map_append]; exact hf8.fr hF9 (fun g hg e=>by have:=(hf8.lt hg).1; omega)
  ·exact ha8.fr hF9 (fun g hg e=>by have:=(ha8.lt hg).1; omega)
  ·exact hr8
 ·exact hF8.trans (hF9.mono fun k _ h=>.inl h)
end
section
open Go.RowKit
def updM (M:Nat->List (List Value)) (i:Nat) (l:List (List Value)):Nat->List (List Value):=fun j=>if j=i then l else M j
structure RR (e1 e2:TypeId) (k:Nat) (w:World) (base:Nat) (v:Value) (n:Nat) (F:Nat->Value) (M:Nat->List (List Value)):Prop where
 row:Rw e1 w base v n F
 el:∀ i,i<n->FO e2 k w base (F i) (M i)
 dif:∀ i j,i<n->j<n->i≠j->∀ g,(F i).ownBlock=some g->(F j).ownBlock≠some g
def RRb (v:Value) (n:Nat) (F:Nat->Value) (g:Nat):Prop:=v.ownBlock=some g\/∃ i,i<n/\(F i).ownBlock=some g
section
variable {e1 e2:TypeId} {k base n:Nat} {w w':World} {v:Value} {F:Nat->Value} {M:Nat->List (List Value)}
theorem RR.lt (h:RR e1 e2 k w base v n F M) {g:Nat} (hg:RRb v n F g):base<=g/\g<w.heap.size:=by
 rcases hg with hg | ⟨i,hi,hg⟩
 ·exact h.row.lt hg
 ·exact (h.el i hi).lt hg
theorem RR.fr {T:Nat->Prop} (h:RR e1 e2 k w base v n F M) (hf:Fr T w w') (hT:∀ g,RRb v n F g->¬ T g):RR e1 e2 k w' base v n F M :=
 ⟨h.row.fr hf fun g hg=>hT g (.inl hg),fun i hi=>(h.el i hi).fr hf fun g hg=>hT g (.inr ⟨i,hi,hg⟩),h.dif⟩
theorem RR.next (h:RR e1 e2 k w base v n F M) (hb:Below w.heap.size w w'):RR e1 e2 k w' base v n F M :=
 ⟨h.row.next hb,fun i hi=>(h.el i hi).next hb,h.dif⟩
theorem RR.off (h:RR e1 e2 k w base v n F M) (he:e1≠e2) {i:Nat} (hi:i<n):∀ g,v.ownBlock=some g->(F i).ownBlock≠some g:=fun g hg e=>by
 rcases own_ne h.row (h.el i hi).1 he with h1 | h1
 ·rw [h1] at hg; cases hg
 ·exact h1 (hg.trans e.symm)
theorem RR.push (h:RR e1 e2 k w base v n F M) (he:e1≠e2) {i:Nat} (hi:i<n) {g cap:Nat} (hv:v=.slice (some ⟨g,0,none⟩) n cap) {u:Value} {css:List (List Value)} (hu:FO e2 k w' base u css) (hg:w.grownBy w' (F i).ownBlock) (ho:u.ownBlock=(F i).ownBlock\/u.ownBlock=some w.heap.size) :
  RR e1 e2 k (w'.setCell ⟨g,i,none⟩ u) base v n (updF F i u) (updM M i css)/\∀ b,RRb v n (updF F i u) b->RRb v n F b\/w.heap.size<=b:=by
 subst hv
 have hfr:Fr (fun b=>(F i).ownBlock=some b) w w':=grown_fr hg fun b hb=>hb
 have hrow:=(h.row.fr hfr fun b hb e=>h.off he hi b hb e).put i u
 have hgl:g<w.heap.size:=(h.row.lt rfl).2
 have hug:u.ownBlock≠some g:=by
  rcases ho with e | e
  ·rw [e]; exact h.off he hi g rfl
  ·rw [e]; intro e2; cases e2; omega
 have hset:Fr (fun b=>b=g) w' (w'.setCell ⟨g,i,none⟩ u):=Fr.set w' (T:=fun b=>b=g) rfl u
 have hblk:∀ j,j<n->j≠i->∀ b,(F j).ownBlock=some b->u.ownBlock≠some b:=fun j hj hne b hb e=>by
  rcases ho with e' | e'
  ·exact h.dif j i hj hi hne b hb (e'.symm.trans e)
  ·rw [e'] at e; cases e
   have:=((h.el j hj).lt hb).2
   omega
 refine ⟨⟨hrow,fun j hj=>?_,fun j l hj hl hne b hb=>?_⟩,?_⟩
 ·by_cases e:j=i
  ·subst e
   rw [updF_at]
   unfold updM
   rw [if_pos rfl]
   exact hu.fr hset fun b hb e=>hug (e▸hb)
  ·rw [updF_ne _ _ e]
   unfold updM
   rw [if_neg e]
   refine ((h.el j hj).fr hfr fun b hb e2=>?_).fr hset fun b hb e2=>?_
   ·exact h.dif i j hi hj (Ne.symm e) b e2 hb
   ·subst e2
    exact h.off he hj b rfl hb
 ·by_cases e1:j=i
  ·subst e1
   rw [updF_at] at hb
   rw [updF_ne _ _ (Ne.symm hne)]
   exact fun e=>hblk l hl (Ne.symm hne) b e hb
  ·rw [updF_ne _ _ e1] at hb
   by_cases e2:l=i
   ·subst e2
    rw [updF_at]
    exact hblk j hj e1 b hb
   ·rw [updF_ne _ _ e2]
    exact h.dif j l hj hl hne b hb
 ·rintro b (hb | ⟨j,hj,hb⟩)
  ·exact .inl (.inl hb)
  ·by_cases e:j=i
   ·subst e
    rw [updF_at] at hb
    rcases ho with e' | e'
    ·exact .inl (.inr ⟨j,hj,e'▸hb⟩)
    ·rw [e'] at hb; cases hb; exact .inr (Nat.le_refl _)
   ·rw [updF_ne _ _ e] at hb
    exact .inl (.inr ⟨j,hj,hb⟩)
theorem RR.new {g cap:Nat} (h:Rw e1 w base v n fun _=>.slice none 0 0):RR e1 e2 k w base v n (fun _=>.slice none 0 0) fun _=>[] :=
 ⟨h,fun _ _=>FO.nil _ _ _ _,fun _ _ _ _ _ _ hb=>by cases hb⟩
end
end
section
open Go.RowKit
theorem det_arc (O syms n:Nat) (iv fv av:Value) (ini fin:List Tw) (arcs:List Ac) (k l num:Nat) (c:Tw) (w:World) (h:Om w O syms n iv fv av ini fin arcs) (hl:arcs.length<=4096)
  {c0 c1 c2 c3 c4 c5 c6 c7 c8 Aa Ab Ad Ae Af Ag Ah Ak Al Am An Ao Ap Aq Ar As Av Aw Ax Ay Az Ba Bb Bc Be Bf Bh Bi Bj Bk Bm Bn Bo Bp Bq Br Bs Bt Bu Bv Bw Bx By Bz Ca Cb Cc Cd Ce Cf Cg Ch Ci Cj Ck Cl Cm Cn Co Cp Cq Cr Ct Cu Cv Cw Cx Cy Cz Da Db Dc Dd De Df Dg Dh Di Dj Dk Dl Dn Dp Dq Dr Dt Du Dv Dw Dx Dy Dz Ea Eb Ec Ed Ee Ef Eg Eh Ei Ej Ek El Em En Eo Ep Eq Er Es Et Eu Ev Ew Ex Ey Ez Fa Fb Fc Fd Fe Ff Fg Fh Fi Fj Fk Fm Fn Fo Fp Fq Fs Ft Fu Fv Fw Fx Fy Fz Ga Gb Gc Gd Ge Gf Gg Gh Gi Gj Gk Gl Gm Gn Go Gp Gq Gr Gs Gt Gu Gv Gw Gx Gy Gz Ha Hb Hc Hd He Hf Hg Hh Hi Hj Hk Hl Hm Hn Ho Hp Hq Hr Hs Ht Hu Hv Hw Hx Hy Hz Ia Ib Ic Id Ie Ig Ih Ii Ij Ik Il Im Io Ip Iq Ir It Iu Iv Iw Ix Iy Iz Ja Jb Jc Jd Je Jf Jg Jh Ji Jj Jk Jl Jm Jn Jo Jp Jq Jr Js Jt Ju:Value} {Q0:EP} (hpan:∀ c (a:Act) d v w,Q0 (.panic c) (a.put d v) w->Q0 (.panic c) a w)
  (hexit:∀ (Jv Jw Jx Jy Jz Ka Kb Kc Kd Ke Kf:Value) (av':Value) (w':World),Om w' O syms n iv fv av' ini fin (arcs++[(k,l,num,c)])->Fr (fun k=>k=O\/av.ownBlock=some k) w w'->Q0 .normal ⟨#[c0,c1,c2,c3,c4,c5,c6,c7,c8,.pointer (some ⟨O,0,none⟩),Aa,Ab,Ad,.int .i64 (k:Int),Ae,Af,Ag,.int .i64 (l:Int),Ah,Ak,Al,Am,An,oV c,.int .i64 (num:Int),Ao,Ap,Aq,Ar,As,Av,Aw,Ax,Ay,Az,Ba,Bb,Bc,Be,Bf,Bh,Bi,Bj,Bk,Bm,Bn,Bo,Bp,Bq,Br,Bs,Bt,Bu,Bv,Bw,Bx,By,Bz,Ca,Cb,Cc,Cd,Ce,Cf,Cg,Ch,Ci,Cj,Ck,Cl,Cm,Cn,Co,Cp,Cq,Cr,Ct,Cu,Cv,Cw,Cx,Cy,Cz,Da,Db,Dc,Dd,De,Df,Dg,Dh,Di,Dj,Dk,Dl,Dn,Dp,Dq,Dr,Dt,Du,Dv,Dw,Dx,Dy,Dz,Ea,Eb,Ec,Ed,Ee,Ef,Eg,Eh,Ei,Ej,Ek,El,Em,En,Eo,Ep,Eq,Er,Es,Et,Eu,Ev,Ew,Ex,Ey,Ez,Fa,Fb,Fc,Fd,Fe,Ff,Fg,Fh,Fi,Fj,Fk,Fm,Fn,Fo,Fp,Fq,Fs,Ft,Fu,Fv,Fw,Fx,Fy,Fz,Ga,Gb,Gc,Gd,Ge,Gf,Gg,Gh,Gi,Gj,Gk,Gl,Gm,Gn,Go,Gp,Gq,Gr,Gs,Gt,Gu,Gv,Gw,Gx,Gy,Gz,Ha,Hb,Hc,Hd,He,Hf,Hg,Hh,Hi,Hj,Hk,Hl,Hm,Hn,Ho,Hp,Hq,Hr,Hs,Ht,Hu,Hv,Hw,Hx,Hy,Hz,Ia,Ib,Ic,Id,Ie,Ig,Ih,Ii,Ij,Ik,Il,Im,Io,Ip,Iq,Ir,It,Iu,Iv,Iw,Ix,Iy,Iz,Ja,Jv,Jw,Jx,Jy,Jz,Ka,Kb,Kc,Kd,Ke,Kf,Jm,Jn,Jo,Jp,Jq,Jr,Js,Jt,Ju],[]⟩ w') :
  Code.wp Tryz.prog (dR 54) Q0 ⟨#[c0,c1,c2,c3,c4,c5,c6,c7,c8,.pointer (some ⟨O,0,none⟩),Aa,Ab,Ad,.int .i64 (k:Int),Ae,Af,Ag,.int .i64 (l:Int),Ah,Ak,Al,Am,An,oV c,.int .i64 (num:Int),Ao,Ap,Aq,Ar,As,Av,Aw,Ax,Ay,Az,Ba,Bb,Bc,Be,Bf,Bh,Bi,Bj,Bk,Bm,Bn,Bo,Bp,Bq,Br,Bs,Bt,Bu,Bv,Bw,Bx,By,Bz,Ca,Cb,Cc,Cd,Ce,Cf,Cg,Ch,Ci,Cj,Ck,Cl,Cm,Cn,Co,Cp,Cq,Cr,Ct,Cu,Cv,Cw,Cx,Cy,Cz,Da,Db,Dc,Dd,De,Df,Dg,Dh,Di,Dj,Dk,Dl,Dn,Dp,Dq,Dr,Dt,Du,Dv,Dw,Dx,Dy,Dz,Ea,Eb,Ec,Ed,Ee,Ef,Eg,Eh,Ei,Ej,Ek,El,Em,En,Eo,Ep,Eq,Er,Es,Et,Eu,Ev,Ew,Ex,Ey,Ez,Fa,Fb,Fc,Fd,Fe,Ff,Fg,Fh,Fi,Fj,Fk,Fm,Fn,Fo,Fp,Fq,Fs,Ft,Fu,Fv,Fw,Fx,Fy,Fz,Ga,Gb,Gc,Gd,Ge,Gf,Gg,Gh,Gi,Gj,Gk,Gl,Gm,Gn,Go,Gp,Gq,Gr,Gs,Gt,Gu,Gv,Gw,Gx,Gy,Gz,Ha,Hb,Hc,Hd,He,Hf,Hg,Hh,Hi,Hj,Hk,Hl,Hm,Hn,Ho,Hp,Hq,Hr,Hs,Ht,Hu,Hv,Hw,Hx,Hy,Hz,Ia,Ib,Ic,Id,Ie,Ig,Ih,Ii,Ij,Ik,Il,Im,Io,Ip,Iq,Ir,It,Iu,Iv,Iw,Ix,Iy,Iz,Ja,Jb,Jc,Jd,Je,Jf,Jg,Jh,Ji,Jj,Jk,Jl,Jm,Jn,Jo,Jp,Jq,Jr,Js,Jt,Ju],[]⟩ w:=by
 conv=>arg 2; whnf
 have hdr:=(Below.refl w.heap.size w).drew
 have h1:=h.next hdr
 have hS:w.drew.cell? ⟨O,6,none⟩=some av:=h1.blk.cell rfl
 have hK:∀ w' w'':World,w'.cell? ⟨O,6,none⟩=some av->Below w'.heap.size w' w''->w''.cell? ⟨O,6,none⟩=some av:=fun w' w'' h hb=>cell_later hb h
 refine wp_region_D (fun w'=>w'.cell? ⟨O,6,none⟩=some av) [11] (by kernel_rfl) ?_
 refine tkBp 0 hpan (some 232) rfl rfl hS ?_
 refine tkBl 1 hpan (some 233) (v:=?_) rfl rfl ?_ hS ?_
 rotate_left
 ·intro wz hw; have a0:=hw; first | (go_simp; done) | (go_simp; with_reducible rfl)
 refine tkBp 2 hpan (some 234) rfl rfl hS ?_
 refine tkBp 3 hpan (some 235) rfl rfl hS ?_
 refine tkBp 4 hpan (some 236) rfl rfl hS ?_
 refine tkBp 5 hpan (some 237) rfl rfl hS ?_
 refine wpO (i:=6) rfl fun KK hKK=>?_
 go_simp
 go_at_call 31
 refine (cost_any c _).mono ?_; rintro ee w2 ⟨rfl,hb2⟩
 have h2:=h1.next hb2
 try go_simp
 refine hKK _ _ ⟨fun _=>(hK _ _ hS hb2),?_⟩; clear hKK KK
 refine tkBp 7 hpan (some 239) rfl rfl (hK _ _ hS hb2) ?_
 refine wpO (i:=8) rfl fun KK hKK=>?_
 have hb3:Below w2.heap.size w2 (w2.alloc (.cells (acC (k,l,num,c)).toArray 54)):=below_alloc _
 have hn3:=Cs.fresh w2 (acC (k,l,num,c)) 54
 have h3:=h2.next hb3
 go_simp
 refine hKK _ _ ⟨fun _=>(hK _ _ (hK _ _ hS hb2) hb3),?_⟩; clear hKK KK
 refine wpO (i:=9) rfl fun KK hKK=>?_
 rw [if_pos (by rfl)]
 refine op_appF (.tmp 233) (.tmp 240) 28 rfl 54 _ 11 152 Tryz.underlying28 Tryz.infoArc rfl (by decide) (O+1) av _ rfl h3.arcs w2.heap.size 0 1 1 [acC (k,l,num,c)] rfl rfl (by decide) (acC_len [(k,l,num,c)]) (by simp only [List.flatten_cons,List.flatten_nil,List.append_nil]; exact hn3) (acC_one [(k,l,num,c)]) (by rw [List.length_map]; omega) (by rw [List.length_map]; omega) h3.blk.lt ?_
 intro av' w5 ha5 hg5 hb5 ho5
 have hO5:=h3.blk.under hb5 (Nat.lt_succ_self _)
 have hf5:FO 45 8 w5 (O+1) fv (fin.map twC):=h3.fin.fr (grown_fr (T:=fun k=>av.ownBlock=some k) hg5 fun g hg=>hg) (fun g hg hg'=>own_ne' h3.arcs h3.fin (by decide) g hg' hg)
 have hi5:FO 45 8 w5 (O+1) iv (ini.map twC):=h3.ini.fr (grown_fr (T:=fun k=>av.ownBlock=some k) hg5 fun g hg=>hg) (fun g hg hg'=>own_ne' h3.arcs h3.ini (by decide) g hg' hg)
 have hF5:=(below_fr (below_chain (below_chain hdr hb2) hb3) (fun k=>av.ownBlock=some k)).trans (grown_fr hg5 fun g hg=>hg)
 obtain ⟨ai,ki,hav⟩:=ha5.form
 subst hav
 have y6:=hO5.cell (i:=6) rfl
 have y6f:=hO5.free 6
 refine hKK _ _ ⟨fun _=>(hO5.cell rfl),?_⟩; clear hKK KK
 refine tkBp 10 hpan (some 242) rfl rfl (hO5.cell rfl) ?_
 refine wpO (i:=11) rfl fun KK hKK=>?_
 go_simp
 refine lN hKK ?_; clear hKK KK
 refine wpAnyD_done (by kernel_rfl) ?_ _
 simp only [List.length_append,List.length_map,List.length_cons,List.length_nil,Nat.zero_add] at hO5 ha5 ⊢
 have hF9:Fr (fun k=>k=O) w5 (w5.setCell ⟨O,6,none⟩ (.slice ai (arcs.length+1) ki)):=Fr.set (T:=fun k=>k=O) w5 (p:=⟨O,6,none⟩) rfl _
 refine hexit _ _ _ _ _ _ _ _ _ _ _ (.slice ai (arcs.length+1) ki) _ ?_ ?_
 ·refine ⟨hO5.put 6 _,hi5.fr hF9 (fun g hg e=>by have:=(hi5.lt hg).1; omega),hf5.fr hF9 (fun g hg e=>by have:=(hf5.lt hg).1; omega),?_,h3.ne⟩
  rw [List.map_append]; exact ha5.fr hF9 (fun g hg e=>by have:=(ha5.lt hg).1; omega)
 ·exact (hF5.mono (T':=fun k=>k=O\/av.ownBlock=some k) fun k _ h=>.inr h).trans (hF9.mono fun k _ h=>.inl h)
end
section
open Go.RowKit
theorem Mk.obj {w:World} {b:Nat} {subs:List Vx} (h:Mk w b subs):∃ es clock,w.heap[b]? = some (.map es clock):=by
 obtain ⟨D,⟨es,clock,hb,_⟩,_⟩:=h
 exact ⟨es,clock,hb⟩
theorem Mk.lt {w:World} {b:Nat} {subs:List Vx} (h:Mk w b subs):b<w.heap.size:=by
 obtain ⟨es,clock,hb⟩:=h.obj
 exact (Array.getElem?_eq_some_iff.1 hb).1
theorem Mk.fr {T:Nat->Prop} {w w':World} {b:Nat} {subs:List Vx} (h:Mk w b subs) (hf:Fr T w w') (hT:¬ T b):Mk w' b subs:=by
 have hb:=hf.block b h.lt hT
 obtain ⟨D,⟨es,clock,h1,h2⟩,h3⟩:=h
 exact ⟨D,⟨es,clock,hb.trans h1,h2⟩,h3⟩
theorem Mk.ne_bl {w:World} {b O:Nat} {subs:List Vx} {cs:List Value} {T:TypeId} (h:Mk w b subs) (hO:Bl O cs T w):b≠O:=fun e=>by
 subst e
 obtain ⟨es,clock,hb⟩:=h.obj
 unfold Bl at hO
 rw [hb] at hO
 cases hO
theorem Mk.ne_row {w:World} {b base s n:Nat} {subs:List Vx} {e:TypeId} {v:Value} {xs:List Value} (h:Mk w b subs) (hr:w.ownsRow base e s v n xs):v.ownBlock≠some b:=fun hv=>by
 obtain ⟨es,clock,hb⟩:=h.obj
 rcases hr.2 with ⟨rfl,_⟩ | ⟨g,cap,cur,rfl,_,hh,_⟩
 ·cases hv
 ·have hg:g=b:=by simpa [Value.ownBlock] using hv
  rw [hg,hb] at hh
  cases hh
theorem Mk.idx {w:World} {b:Nat} {subs:List Vx} (h:Mk w b subs) {j:Nat} {S:Vx} (hj:subs[j]? = some S):subs.findIdx? (· == S)=some j:=by
 obtain ⟨D,_,h2,_⟩:=h
 rw [List.findIdx?_eq_some_iff_getElem]
 obtain ⟨hl,he⟩:=List.getElem?_eq_some_iff.1 hj
 refine ⟨hl,by simp [he],fun i hi hc=>?_⟩
 have hi':i<subs.length:=by omega
 have e:subs[i]=S:=by simpa using hc
 have k1:=(h2 i S (by rw [<-e]; exact List.getElem?_eq_getElem hi')).2
 have k2:=(h2 j S hj).2
 rw [k1] at k2
 simp at k2
 omega
theorem Mk.entry' {w:World} {b:Nat} {subs:List Vx} (h:Mk w b subs) {S:Vx} (hS:S∉subs) {s:ByteArray} (hs:s.data.toList=keyT S) (hm:s.size<=maxLen) (hn:subs.length<1000000) :
  ∃ (v0:Value) (st:Nat) (w1 w2:World),(Instr.mapEntry 75 (.map (some b)) (.string s)).run Tryz.prog w=.ok (.tuple #[v0,.int .i64 (st:Int)]) w1 /\
   (Instr.entryStore 75 (.map (some b)) (.int .i64 (st:Int)) (.int .i64 (subs.length:Int))).run Tryz.prog w1=.ok () w2/\Mk w2 b (subs++[S])/\w.grownBy w2 (some b):=h.entry Tryz.underlying75 hS hs hm hn
theorem findIdx_none {subs:List Vx} {S:Vx} (h:S∉subs):subs.findIdx? (· == S)=none:=by
 rw [List.findIdx?_eq_none_iff]
 intro x hx
 simp only [beq_eq_false_iff_ne,ne_eq]
 intro e; subst e; exact h hx
theorem Sb.ne_bl {w:World} {base g O:Nat} {S:Vx} {cs:List Value} {T:TypeId} (h:Sb w base g S) (hO:Bl O cs T w) (hT:T≠3):g≠O:=fun e=>by
 subst e
 rcases h.2 with ⟨hv,_⟩ | ⟨g',cap,cur,hv,hg,hh,_⟩
 ·cases hv
 ·injection hv with hv _ _
  injection hv with hv
  injection hv with hv
  subst hv
  unfold Bl at hO
  rw [hO] at hh
  injection hh with hh
  injection hh with _ hh _
  exact hT hh
theorem Sb.ne_row {w:World} {base g b2 s n:Nat} {S:Vx} {e:TypeId} {v:Value} {xs:List Value} (h:Sb w base g S) (h2:w.ownsRow b2 e s v n xs) (he:e≠3):v.ownBlock≠some g:=fun hv=>by
 rcases own_ne h2 h he with h3 | h3
 ·rw [h3] at hv; cases hv
 ·exact h3 (by rw [hv]; rfl)
theorem Sb.ne_mk {w:World} {base g b:Nat} {S:Vx} {subs:List Vx} (h:Sb w base g S) (h2:Mk w b subs):g≠b:=fun e=>h2.ne_row h (by rw [e]; rfl)
structure Dm (w:World) (base O st mb:Nat) (sv:Value) (gs:List Nat) (subs:List Vx):Prop where
 row:Rw 68 w (O+1) sv subs.length (fun j=>sbV st (gs.getD j 0))
 sbs:Sbs w base st subs gs
 mp:Mk w mb subs
section
variable {w w':World} {base O st mb:Nat} {sv:Value} {gs:List Nat} {subs:List Vx}
theorem Dm.next (h:Dm w base O st mb sv gs subs) (hb:Below w.heap.size w w'):Dm w' base O st mb sv gs subs:=⟨h.row.next hb,h.sbs.next hb,h.mp.next hb⟩
theorem Sbs.each (h:Sbs w base st subs gs) {g:Nat} (hg:g∈gs):∃ S,Sb w base g S:=by
 obtain ⟨i,hi⟩:=List.getElem?_of_mem hg
 have hl:i<subs.length:=by
  have:=(List.getElem?_eq_some_iff.1 hi).1
  rw [h.num] at this; exact this
 exact ⟨_,(h.lie i _ g (List.getElem?_eq_getElem hl) hi).1⟩
theorem Dm.out (h:Dm w base O st mb sv gs subs) {syms n:Nat} {iv fv av:Value} {ini fin:List Tw} {arcs:List Ac} (ho:Om w O syms n iv fv av ini fin arcs) (hf:Fr (OmB O iv fv av) w w'):Dm w' base O st mb sv gs subs:=by
 refine ⟨h.row.fr hf fun g hg=>?_,h.sbs.fr hf fun g hg=>?_,h.mp.fr hf ?_⟩
 ·have hr:=h.row
  have hlt:=(hr.lt hg).1
  rintro (rfl | hk | hk | hk)
  ·omega
  ·rcases own_ne hr ho.ini.1 (by decide) with e | e
   ·rw [hg] at e; cases e
   ·exact e (hg.trans hk.symm)
  ·rcases own_ne hr ho.fin.1 (by decide) with e | e
   ·rw [hg] at e; cases e
   ·exact e (hg.trans hk.symm)
  ·rcases own_ne hr ho.arcs.1 (by decide) with e | e
   ·rw [hg] at e; cases e
   ·exact e (hg.trans hk.symm)
 ·obtain ⟨S,hS⟩:=h.sbs.each hg
  rintro (hk | hk | hk | hk)
  ·exact hS.ne_bl ho.blk (by decide) hk
  ·exact hS.ne_row ho.ini.1 (by decide) hk
  ·exact hS.ne_row ho.fin.1 (by decide) hk
  ·exact hS.ne_row ho.arcs.1 (by decide) hk
 ·rintro (hk | hk | hk | hk)
  ·exact h.mp.ne_bl ho.blk hk
  ·exact h.mp.ne_row ho.ini.1 hk
  ·exact h.mp.ne_row ho.fin.1 hk
  ·exact h.mp.ne_row ho.arcs.1 hk
theorem Dm.mp8 {w8:World} (h:Dm w base O st mb sv gs subs) (hg8:w.grownBy w8 sv.ownBlock):Mk w8 mb subs :=
 h.mp.fr (grown_fr (T:=fun k=>sv.ownBlock=some k) hg8 fun g hg=>hg) (h.mp.ne_row h.row)
theorem Dm.grow {w8 wb:World} {g:Nat} {S:Vx} {sv':Value} (h:Dm w base O st mb sv gs subs) (hS:Sb w base g S) (hl:S.length=st)
  (hrow8:Rw 68 w8 (O+1) sv' (subs.length+1) (fun j=>sbV st ((gs++[g]).getD j 0))) (hg8:w.grownBy w8 sv.ownBlock) (hmk:Mk wb mb (subs++[S])) (hgr:w8.grownBy wb (some mb)) :
  Dm wb base O st mb sv' (gs++[g]) (subs++[S])/\Fr (fun k=>sv.ownBlock=some k\/k=mb) w wb:=by
 have hF1:Fr (fun k=>sv.ownBlock=some k) w w8:=grown_fr hg8 fun g hg=>hg
 have hF2:Fr (fun k=>k=mb) w8 wb:=grown_fr hgr fun g hg=>by injection hg with hg; exact hg.symm
 have hF:Fr (fun k=>sv.ownBlock=some k\/k=mb) w wb:=(hF1.mono fun k _ e=>.inl e).trans (hF2.mono fun k _ e=>.inr e)
 have hmk8:=h.mp8 hg8
 refine ⟨⟨?_,(h.sbs.fr hF fun q hq=>?_).app (hS.fr hF ?_) hl,hmk⟩,hF⟩
 ·rw [List.length_append]
  exact hrow8.fr hF2 fun q hq e=>by subst e; exact hmk8.ne_row hrow8 hq
 ·obtain ⟨T,hT⟩:=h.sbs.each hq
  rintro (e | e)
  ·exact hT.ne_row h.row (by decide) e
  ·exact hT.ne_mk h.mp e
 ·rintro (e | e)
  ·exact hS.ne_row h.row (by decide) e
  ·exact hS.ne_mk h.mp e
theorem Om.sub {syms n:Nat} {iv fv av:Value} {ini fin:List Tw} {arcs:List Ac} (ho:Om w O syms n iv fv av ini fin arcs) {m:Nat} {xs:List Value} {e:TypeId} (hr:w.ownsRow (O+1) e 1 sv m xs) (he:e=68) (hm:Mk w mb subs) (hf:Fr (fun k=>sv.ownBlock=some k\/k=mb) w w'):Om w' O syms n iv fv av ini fin arcs:=by
 subst he
 refine ho.fr hf fun k hk=>?_
 rintro (hs | hs)
 ·have hlt:=(hr.lt k hs).1
  rcases hk with rfl | hk | hk | hk
  ·omega
  ·rcases own_ne hr ho.ini.1 (by decide) with e | e
   ·rw [hs] at e; cases e
   ·exact e (hs.trans hk.symm)
  ·rcases own_ne hr ho.fin.1 (by decide) with e | e
   ·rw [hs] at e; cases e
   ·exact e (hs.trans hk.symm)
  ·rcases own_ne hr ho.arcs.1 (by decide) with e | e
   ·rw [hs] at e; cases e
   ·exact e (hs.trans hk.symm)
 ·subst hs
  rcases hk with hk | hk | hk | hk
  ·exact hm.ne_bl ho.blk hk
  ·exact hm.ne_row ho.ini.1 hk
  ·exact hm.ne_row ho.fin.1 hk
  ·exact hm.ne_row ho.arcs.1 hk
end
theorem Tryz.infoSub:(Tryz.prog.info? 68).map (fun i=>(i.zero,i.size,i.bytes))=some (some (.slice none 0 0),1,24):=by kernel_rfl
theorem wp_appSub {w:World} {ops:Array Oper} {rest:List Oper} {o:Oper} {a:Act} {Q:EP} (hgd:o.guard=none) (s x:Operand) (t:TypeId)
  (ho:o.op=.call { callee:=.builtin .append,args:=#[s,x],argTypes:=#[t,t] }) (ht:Tryz.prog.underlying t=some (.slice 68))
  (base st g:Nat) (v:Value) (n:Nat) (gs:List Nat) (hs:a.eval s=v) (hrow:Rw 68 w base v n (fun j=>sbV st (gs.getD j 0))) (hgs:gs.length=n) (hn:n<=64)
  (B:Nat) (hx:a.eval x=.slice (some ⟨B,0,none⟩) 1 1) (hB:Bl B [sbV st g] 68 w) (hbase:base<=w.heap.size)
  (h:∀ v' w',Rw 68 w' base v' (n+1) (fun j=>sbV st ((gs++[g]).getD j 0))->w.grownBy w' v.ownBlock->Below base w w'->wpList Tryz.prog ops Q rest (a.put o.dst v') w'):wpList Tryz.prog ops Q (o::rest) a w:=by
 refine wp_app hgd s x t ho _ _ 24 ht Tryz.infoSub rfl base v n _ hs hrow (some ⟨B,0,none⟩) 1 1 [sbV st g] hx ⟨rfl,Nat.le_refl _,by simp [maxLen],fun i u hi=>⟨B,0,rfl,by rw [Nat.zero_add]; exact hB.cell hi⟩⟩ (fun e=>by cases e) (fun u hu=>by obtain rfl:=List.mem_singleton.1 hu; rfl) (by omega) (by omega) hbase ?_
 intro v' w' h1 h2 h3
 refine h v' w' ?_ h2 h3
 unfold Rw
 have e:fnl n (fun j=>sbV st (gs.getD j 0))++[sbV st g]=fnl (n+1) (fun j=>sbV st ((gs++[g]).getD j 0)):=by
  unfold fnl
  rw [List.range_succ,List.map_append]
  have e1:(List.range n).map (fun j=>sbV st (gs.getD j 0))=(List.range n).map (fun j=>sbV st ((gs++[g]).getD j 0)):=List.map_congr_left fun j hj=>by
   have hj':=List.mem_range.1 hj
   rw [List.getD_eq_getElem?_getD,List.getD_eq_getElem?_getD,List.getElem?_append_left (by omega)]
  have e2:(gs++[g]).getD n 0=g:=by
   rw [List.getD_eq_getElem?_getD,List.getElem?_append_right (by omega),hgs,Nat.sub_self]; rfl
  rw [e1]
  show _=_++[sbV st ((gs++[g]).getD n 0)]
  rw [e2]
 rw [<-e]
 exact h1
theorem setl_eq (S:Vx):setl S=(leastV S).map fun m=>(m,lowV S m):=by
 unfold setl; cases leastV S<;>rfl
theorem oneS_none {N:List Ac} {us:List Bool} {k l:Nat} {X:Ds} {R S:Vx} (hR:X.subs.getD k []=R) (hS:nextV N us R l=S) (h:leastV S=none):oneS N us k l X=some X:=by
 unfold oneS; rw [hR,hS,setl_eq,h]; rfl
theorem oneS_old {N:List Ac} {us:List Bool} {k l c num:Nat} {X:Ds} {R S:Vx} (hR:X.subs.getD k []=R) (hS:nextV N us R l=S) (h:leastV S=some c) (hf:X.subs.findIdx? (· == lowV S c)=some num) :
  oneS N us k l X=some ⟨X.subs,X.arcs++[(k,l,num,some c)]⟩:=by
 unfold oneS; rw [hR,hS,setl_eq,h]
 show (match X.subs.findIdx? (· == lowV S c) with | some num=>_ | none=>_)=_
 rw [hf]
theorem oneS_new {N:List Ac} {us:List Bool} {k l c:Nat} {X:Ds} {R S:Vx} (hR:X.subs.getD k []=R) (hS:nextV N us R l=S) (h:leastV S=some c) (hf:X.subs.findIdx? (· == lowV S c)=none) :
  oneS N us k l X=if X.subs.length=64 then none else some ⟨X.subs++[lowV S c],X.arcs++[(k,l,X.subs.length,some c)]⟩:=by
 unfold oneS; rw [hR,hS,setl_eq,h]
 show (match X.subs.findIdx? (· == lowV S c) with | some num=>_ | none=>_)=_
 rw [hf]
end
end Go.Proofs.YtnapapijhhldpaaGreatDoor

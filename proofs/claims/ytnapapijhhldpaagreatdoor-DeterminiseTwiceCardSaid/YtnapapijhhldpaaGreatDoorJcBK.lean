/-
  Texts joined by program: Trw. No condition of its own.
-/
import Derived.Test.YtnapapijhhldpaaGreatDoorJcBI
namespace Go.Proofs.YtnapapijhhldpaaGreatDoor
set_option linter.unusedSimpArgs false
set_option linter.unusedVariables false
section
open Go.RowKit
noncomputable def lowR (n:Nat):Code:=(Tryz.f38.body.bind (findR n)).getD .skip
def supTo (S:Vx) (k:Nat):List (Nat×Nat):=(List.range k).filterMap fun q=>(S.getD q none).map fun r=>(q,r)
def sup (S:Vx):List (Nat×Nat):=supTo S S.length
theorem supTo_some {S:Vx} {k r:Nat} (h:S[k]? = some (some r)):supTo S (k+1)=supTo S k++[(k,r)]:=by
 unfold supTo; rw [List.range_succ,List.filterMap_append,List.filterMap_cons,List.getD_eq_getElem?_getD,h]; rfl
theorem supTo_none {S:Vx} {k:Nat} (h:S[k]? = some none):supTo S (k+1)=supTo S k:=by
 unfold supTo; rw [List.range_succ,List.filterMap_append,List.filterMap_cons,List.getD_eq_getElem?_getD,h]; simp
theorem supTo_len (S:Vx) (k:Nat):(supTo S k).length≤k:=by unfold supTo; exact Nat.le_trans (List.length_filterMap_le _ _) (by simp)
def i1C (x:Nat):List Value:=[.int .i64 (x:Int)]
theorem i1C_len (L:List Nat):∀ cs∈L.map i1C,cs.length=1:=by intro cs hc; obtain ⟨x,_,rfl⟩:=List.mem_map.1 hc; rfl
theorem i1C_one (L:List Nat):∀ cs∈L.map i1C,∀ u∈cs,u.oneCell'=true:=by
 intro cs hc u hu; obtain ⟨x,_,rfl⟩:=List.mem_map.1 hc; rw [List.mem_singleton.1 hu]; rfl
structure Sq (w:World) (O:Nat) (sv rv:Value) (P:List (Nat×Nat)):Prop where
 sts:FO 3 1 w O sv ((P.map Prod.fst).map i1C)
 rst:FO 3 1 w O rv ((P.map Prod.snd).map i1C)
 ne:∀ g,sv.ownBlock=some g→rv.ownBlock≠some g
theorem Sq.next {w w':World} {O:Nat} {sv rv:Value} {P:List (Nat×Nat)} (h:Sq w O sv rv P) (hb:Below w.heap.size w w'):Sq w' O sv rv P:=⟨h.sts.next hb,h.rst.next hb,h.ne⟩
theorem Sq.fr {K:Nat→Prop} {w w':World} {O:Nat} {sv rv:Value} {P:List (Nat×Nat)} (h:Sq w O sv rv P) (hf:Fr K w w') (h1:∀ g,sv.ownBlock=some g→¬ K g) (h2:∀ g,rv.ownBlock=some g→¬ K g):Sq w' O sv rv P:=⟨h.sts.fr hf h1,h.rst.fr hf h2,h.ne⟩
theorem exec_loadIs {dst:Option Tmp} {ty':TypeId} {pos:String} {after:Array Edge} {guard:Option (Nat×Bool)} {x:Operand} {a:Act} {w:World} (b off:Nat) (hx:a.eval x=.pointer (some ⟨b,off,none⟩)) (v:Value) (hc:w.cell? ⟨b,off,none⟩=some v) :
  (execOp a.eval ⟨dst,.load 22 x,ty',pos,after,guard⟩).run Tryz.prog w=.ok (.value v) w:=exec_load1 b off hx v hc _ Tryz.underlying22 rfl
theorem exec_loadI {dst:Option Tmp} {ty':TypeId} {pos:String} {after:Array Edge} {guard:Option (Nat×Bool)} {x:Operand} {a:Act} {w:World} (b off:Nat) (hx:a.eval x=.pointer (some ⟨b,off,none⟩)) (v:Value) (hc:w.cell? ⟨b,off,none⟩=some v) :
  (execOp a.eval ⟨dst,.load 3 x,ty',pos,after,guard⟩).run Tryz.prog w=.ok (.value v) w:=exec_load1 b off hx v hc _ Tryz.underlying3 rfl
set_option maxRecDepth 100000 in
set_option maxHeartbeats 4000000 in
theorem low_add (O g n cap q r m:Nat) (hq:q<n) (hmr:m≤r) (hr:r≤1000000000000000) (sv rv:Value) (P:List (Nat×Nat)) (w:World) (hn:n≤64) (hO:Bl O [sv,rv] 84 w) (h:Sq w (O+1) sv rv P) (hl:P.length≤64) (hc:w.cell? ⟨g,q,none⟩=some (.int .i64 (r:Int))) (hg:g<O)
  (c1 c2 c3 c4 c6 c9 Aa Ab Ad Ae Af Ag Ah Ak Al Am An Ao Ap Aq Ar As Av Aw Ax Ay Az Ba Bb Bc Be Bf Bh Bi Bj Bk Bm Bn Bo Bp Bq Br Bs Bt Bu Bv Bw Bx By Bz Ca Cb Cc Cd Ce Cf Cg Ch Ci Cj Ck Cl Cm Cn Co:Value) (Q0:Exit→Act→World→Prop) (hpan:∀ c (a:Act) d v w,Q0 (.panic c) (a.put d v) w→Q0 (.panic c) a w)
  (hexit:∀ (Cp Cq Cr Ct Cu Cv Cw Cx Cy Cz Da Db Dc Dd De Df Dg:Value) (sv' rv':Value) (w':World),Bl O [sv',rv'] 84 w'→Sq w' (O+1) sv' rv' (P++[(q,r-m)])→Below O w w'→Q0 .normal ⟨#[.slice (some ⟨g,0,none⟩) n cap,c1,c2,c3,c4,.int .i64 (m:Int),c6,.pointer (some ⟨O,0,none⟩),.int .i64 (q:Int),c9,Aa,Ab,Ad,Ae,Af,Ag,Ah,Ak,Al,Am,An,Ao,Ap,Aq,Ar,As,Av,Aw,Ax,Ay,Az,Ba,Bb,Bc,Be,Bf,Bh,Bi,Bj,Bk,Bm,Bn,Bo,Bp,Bq,Br,Bs,Bt,Cp,Cq,Cr,Ct,Cu,Cv,Cw,Cx,Cy,Cz,Da,Db,Dc,Dd,De,Df,Dg,Cl,Cm,Cn,Co],[]⟩ w') :
  Code.wp Tryz.prog (lowR 12) Q0 ⟨#[.slice (some ⟨g,0,none⟩) n cap,c1,c2,c3,c4,.int .i64 (m:Int),c6,.pointer (some ⟨O,0,none⟩),.int .i64 (q:Int),c9,Aa,Ab,Ad,Ae,Af,Ag,Ah,Ak,Al,Am,An,Ao,Ap,Aq,Ar,As,Av,Aw,Ax,Ay,Az,Ba,Bb,Bc,Be,Bf,Bh,Bi,Bj,Bk,Bm,Bn,Bo,Bp,Bq,Br,Bs,Bt,Bu,Bv,Bw,Bx,By,Bz,Ca,Cb,Cc,Cd,Ce,Cf,Cg,Ch,Ci,Cj,Ck,Cl,Cm,Cn,Co],[]⟩ w:=by
 conv=>arg 2; whnf
 have i1:(q:Int)<(n:Int):=by omega
 have i0:(0:Int)≤(q:Int):=by omega
 have k3:(m:Int)≤(r:Int):=by omega
 have k5:(r:Int)≤1000000000000000:=by omega
 have hdr:=(Below.refl w.heap.size w).drew
 have h1:=h.next hdr
 have hO1:=hO.next hdr
 have hS:(w.drew.cell? ⟨O,0,none⟩=some sv∧w.drew.cell? ⟨O,1,none⟩=some rv)∧w.drew.cell? ⟨g,q,none⟩=some (.int .i64 (r:Int)):=⟨⟨hO1.cell rfl,hO1.cell rfl⟩,cellN hc hdr⟩
 have hK:∀ w',Below (O+1) w.drew w'→((w'.cell? ⟨O,0,none⟩=some sv∧w'.cell? ⟨O,1,none⟩=some rv)∧w'.cell? ⟨g,q,none⟩=some (.int .i64 (r:Int))):=fun w' hb =>
  ⟨⟨(hb.cell (p:=⟨O,0,none⟩) (Nat.lt_succ_self _)).trans hS.1.1,(hb.cell (p:=⟨O,1,none⟩) (Nat.lt_succ_self _)).trans hS.1.2⟩,(hb.cell (p:=⟨g,q,none⟩) (Nat.lt_succ_of_lt hg)).trans hS.2⟩
 have hbx:Below (O+1) w.drew w.drew:=Below.refl _ _
 have hFr:Fr (fun k=>sv.ownBlock=some k∨rv.ownBlock=some k) w.drew w.drew:=Fr.refl _ _
 have hI:=h1.sts
 have hFn:=h1.rst
 have hne:=h1.ne
 have hdw:w.drew.heap.size=w.heap.size:=rfl
 have hOw:O+1≤w.drew.heap.size:=hO1.lt
 have hIw:∀ k,sv.ownBlock=some k→k<w.drew.heap.size:=fun k e=>(hI.lt e).2
 have hwr:IntKind.i64.wrap ((r:Int)-(m:Int))=(r:Int)-(m:Int):=by rw [IntKind.wrap_i64]; omega
 have hsub:((r-m:Nat):Int)=(r:Int)-(m:Int):=by omega
 have hsub:=hid hsub
 have hnr:i1C (r-m)=[.int .i64 ((r:Int)-(m:Int))]:=by unfold i1C; rw [hsub.out]
 obtain ⟨NR,hNR⟩:∃ NR,i1C (r-m)=NR:=⟨_,rfl⟩
 have hNL:NR.length=1:=by rw [←hNR]; rfl
 have hNO:∀ u∈NR,u.oneCell'=true:=fun u hu=>by rw [←hNR] at hu; rw [List.mem_singleton.1 hu]; rfl
 rw [hNR] at hnr
 replace hNR:=hid hNR
 refine wp_region_D (fun w'=>(w'.cell? ⟨O,0,none⟩=some sv∧w'.cell? ⟨O,1,none⟩=some rv)∧w'.cell? ⟨g,q,none⟩=some (.int .i64 (r:Int))) [16,17,18] (by kernel_rfl) ?_
 refine wpThp hpan (some 48) (i:=0) rfl rfl hS ?_
 refine wpTh hpan (some 49) (i:=1) (v:=?_) rfl rfl (Or.inl ⟨by rfl,?_⟩) hS ?_
 rotate_left
 ·intro wz hw; refine exec_loadIs O 0 ?_ (sv) (hw.1.1); go_simp
 refine wpThp hpan (some 50) (i:=2) rfl rfl hS ?_
 refine wpThp hpan (some 53) (i:=5) rfl rfl hS ?_
 refine wpTh hpan (some 54) (i:=6) (v:=?_) rfl rfl (Or.inl ⟨by rfl,?_⟩) hS ?_
 rotate_left
 ·intro wz hw; refine exec_loadIs O 1 ?_ (rv) (hw.1.2); go_simp
 refine wpThp hpan (some 55) (i:=7) rfl rfl hS ?_
 refine wpThp hpan (some 56) (i:=8) rfl rfl hS ?_
 refine wpThp hpan (some 57) (i:=9) rfl rfl hS ?_
 refine wpTh hpan (some 58) (i:=10) (v:=?_) rfl rfl (Or.inl ⟨by rfl,?_⟩) hS ?_
 rotate_left
 ·intro wz hw; refine exec_loadI g q ?_ (.int .i64 (r:Int)) hw.2; go_simp
 refine wpThp hpan (some 59) (i:=11) rfl rfl hS ?_
 refine wpTh hpan (some 60) (i:=12) (v:=.int .i64 ((r:Int)-(m:Int))) rfl rfl (Or.inl ⟨by rfl,?_⟩) hS ?_
 ·intro wz _; first | (go_simp; done) | (go_simp; with_reducible rfl)
 go_simp
 refine wpAnyD_two (i:=3) (j:=13) ?_ rfl rfl (fun KK hKK=>?_) (fun KK hKK=>?_)
 ·kernel_rfl
 ·skip
  have hbN3:Below w.drew.heap.size w.drew (w.drew.alloc (.cells #[.int .i64 (q:Int)] 3)):=below_alloc _
  have hn3:=Cs.fresh w.drew [.int .i64 (q:Int)] 3
  replace hI:=hI.next hbN3
  replace hFn:=hFn.next hbN3
  replace hO1:=hO1.next hbN3
  replace hbx:=hbx.trans (hbN3.mono (Nat.le_trans hOw hFr.size))
  replace hFr:=hFr.trans (below_fr hbN3 _)
  go_simp
  refine hKK _ _ ⟨fun _=>(hK _ hbx),?_⟩; clear hKK KK
  refine wpAnyD_two (i:=4) (j:=13) ?_ rfl rfl (fun KK hKK=>?_) (fun KK hKK=>?_)
  ·kernel_rfl
  ·skip
   rw [if_pos (by rfl)]
   have hOl:=hO1
   refine op_appF (.tmp 49) (.tmp 51) 22 rfl 3 (.int .i64 0) 1 8 Tryz.underlying22 Tryz.infoInt rfl (by decide) (O+1) sv _ rfl hI w.heap.size 0 1 1 [i1C q] rfl rfl (by decide) (i1C_len [q]) (by simp only [List.flatten_cons,List.flatten_nil,List.append_nil]; first | exact hn3 | (rw [hnr]; exact hn13)) (i1C_one [q]) (by rw [List.length_map,List.length_map]; omega) (by rw [List.length_map,List.length_map]; omega) hOl.lt ?_
   intro sv' w8 hI8 hg8 hb8 ho8
   have hF8:Fr (fun k=>sv.ownBlock=some k) _ w8:=grown_fr hg8 fun g hg=>hg
   have hr8:∀ g,sv'.ownBlock=some g→rv.ownBlock≠some g:=fun g hg hg'=>by
    rcases ho8 with h | h
    ·exact hne g (h▸hg) hg'
    ·have e1:=Option.some.inj (h.symm.trans hg)
     have:=(hFn.lt hg').2
     exact absurd this (by rw [←e1]; exact Nat.lt_irrefl _)
   replace hFn:FO 3 1 w8 (O+1) rv ((P.map Prod.snd).map i1C):=hFn.fr hF8 (fun g hg hg'=>hne g hg' hg)
   replace hO1:=hO1.under hb8 (Nat.lt_succ_self _)
   replace hbx:=hbx.trans hb8
   replace hFr:=hFr.trans (hF8.mono fun k _ e=>.inl e)
   refine hKK _ _ ⟨fun _=>(hK _ hbx),?_⟩; clear hKK KK
   refine wpThp hpan (some 63) (i:=15) rfl rfl (hK _ hbx) ?_
   refine wpAnyD_one (i:=13) (by kernel_rfl) rfl (fun KK hKK=>?_)
   have hbN13:Below w8.heap.size w8 (w8.alloc (.cells #[.int .i64 ((r:Int)-(m:Int))] 3)):=below_alloc _
   have hn13:=Cs.fresh w8 [.int .i64 ((r:Int)-(m:Int))] 3
   replace hI8:=hI8.next hbN13
   replace hFn:=hFn.next hbN13
   replace hO1:=hO1.next hbN13
   replace hbx:=hbx.trans (hbN13.mono (Nat.le_trans hOw hFr.size))
   replace hFr:=hFr.trans (below_fr hbN13 _)
   go_simp
   refine hKK _ _ ⟨fun _=>(hK _ hbx),?_⟩; clear hKK KK
   refine wpAnyD_one (i:=14) (by kernel_rfl) rfl (fun KK hKK=>?_)
   rw [if_pos (by rfl)]
   have hOl:=hO1
   refine op_appF (.tmp 54) (.tmp 61) 22 rfl 3 (.int .i64 0) 1 8 Tryz.underlying22 Tryz.infoInt rfl (by decide) (O+1) rv _ rfl hFn w8.heap.size 0 1 1 [NR] rfl rfl (by decide) (by intro cs hc; rw [List.mem_singleton.1 hc]; exact hNL) (by simp only [List.flatten_cons,List.flatten_nil,List.append_nil]; first | exact hn13 | (rw [hnr]; exact hn13)) (by intro cs hc; rw [List.mem_singleton.1 hc]; exact hNO) (by rw [List.length_map,List.length_map]; omega) (by rw [List.length_map,List.length_map]; omega) hOl.lt ?_
   intro rv' w17 hf17 hg17 hb17 ho17
   have hF17:Fr (fun k=>rv.ownBlock=some k) _ w17:=grown_fr hg17 fun g hg=>hg
   have hr17:∀ g,sv'.ownBlock=some g→rv'.ownBlock≠some g:=fun g hg hg'=>by
    rcases ho17 with h | h
    ·exact hr8 g hg (h▸hg')
    ·have e1:=Option.some.inj (h.symm.trans hg')
     have:=(hI8.lt hg).2
     exact absurd this (by rw [←e1]; exact Nat.lt_irrefl _)
   have hi17:FO 3 1 w17 (O+1) sv' ((P.map Prod.fst).map i1C++[i1C q]):=hI8.fr hF17 (fun g hg hg'=>hr8 g hg hg')
   have hO17:=hO1.under hb17 (Nat.lt_succ_self _)
   replace hbx:=hbx.trans hb17
   obtain ⟨ai,ki,hiv⟩:=hi17.form
   obtain ⟨af,kf,hfv⟩:=hf17.form
   subst hiv hfv
   have y4:=hO17.cell (i:=0) rfl
   have y4f:=hO17.free 0
   have y5:=hO17.cell (i:=1) rfl
   have y5f:=hO17.free 1
   refine hKK _ _ ⟨fun _=>(hK _ hbx),?_⟩; clear hKK KK
   refine wpAnyD_one (i:=16) (by kernel_rfl) rfl (fun KK hKK=>?_)
   go_simp
   refine hKK _ _ ⟨fun hn=>absurd (by simp) hn,?_⟩; clear hKK KK
   refine wpAnyD_one (i:=17) (by kernel_rfl) rfl (fun KK hKK=>?_)
   go_simp
   refine hKK _ _ ⟨fun hn=>absurd (by simp) hn,?_⟩; clear hKK KK
   refine wpAnyD_one (i:=18) (by kernel_rfl) rfl (fun KK hKK=>?_)
   go_simp
   refine hKK _ _ ⟨fun hn=>absurd (by simp) hn,?_⟩; clear hKK KK
   refine wpAnyD_done (by kernel_rfl) ?_ _
   have hF9:Fr (fun k=>k=O) w17 ((w17.setCell ⟨O,0,none⟩ (.slice ai (P.length+1) ki)).setCell ⟨O,1,none⟩ (.slice af (P.length+1) kf)):=(Fr.set (T:=fun k=>k=O) w17 (p:=⟨O,0,none⟩) rfl _).trans (Fr.set (T:=fun k=>k=O) _ (p:=⟨O,1,none⟩) rfl _)
   simp only [List.length_append,List.length_map,List.length_cons,List.length_nil,Nat.zero_add] at hi17 hf17 hr17 ⊢
   refine hexit _ _ _ _ _ _ _ _ _ _ _ _ _ _ _ _ _ (.slice ai (P.length+1) ki) (.slice af (P.length+1) kf) _ ?_ ?_ ?_
   ·exact (hO17.put 0 _).put 1 _
   ·refine ⟨?_,?_,hr17⟩
    ·rw [List.map_append,List.map_append]; exact hi17.fr hF9 (fun g hg e=>by have:=(hi17.lt hg).1; omega)
    ·rw [List.map_append,List.map_append]; show FO _ _ _ _ _ (_++[i1C (r-m)]); rw [hNR.out]; exact hf17.fr hF9 (fun g hg e=>by have:=(hf17.lt hg).1; omega)
   ·exact ((hdr.mono (Nat.le_of_succ_le hOw)).trans (hbx.mono (Nat.le_succ _))).trans (hF9.below (fun k e=>by omega) (by have:=hO17.lt; omega))
  ·skip
   have hbN13:Below (w.drew.alloc (.cells #[.int .i64 (q:Int)] 3)).heap.size (w.drew.alloc (.cells #[.int .i64 (q:Int)] 3)) ((w.drew.alloc (.cells #[.int .i64 (q:Int)] 3)).alloc (.cells #[.int .i64 ((r:Int)-(m:Int))] 3)):=below_alloc _
   have hn13:=Cs.fresh (w.drew.alloc (.cells #[.int .i64 (q:Int)] 3)) [.int .i64 ((r:Int)-(m:Int))] 3
   have hz13:(w.drew.alloc (.cells #[.int .i64 (q:Int)] 3)).heap.size=w.heap.size+1:=by simp
   rw [hz13] at hn13
   replace hn3:=hn3.next hbN13
   replace hI:=hI.next hbN13
   replace hFn:=hFn.next hbN13
   replace hO1:=hO1.next hbN13
   replace hbx:=hbx.trans (hbN13.mono (Nat.le_trans hOw hFr.size))
   replace hFr:=hFr.trans (below_fr hbN13 _)
   go_simp
   refine hKK _ _ ⟨fun _=>(hK _ hbx),?_⟩; clear hKK KK
   refine wpAnyD_one (i:=4) (by kernel_rfl) rfl (fun KK hKK=>?_)
   rw [if_pos (by rfl)]
   have hOl:=hO1
   refine op_appF (.tmp 49) (.tmp 51) 22 rfl 3 (.int .i64 0) 1 8 Tryz.underlying22 Tryz.infoInt rfl (by decide) (O+1) sv _ rfl hI w.heap.size 0 1 1 [i1C q] rfl rfl (by decide) (i1C_len [q]) (by simp only [List.flatten_cons,List.flatten_nil,List.append_nil]; first | exact hn3 | (rw [hnr]; exact hn13)) (i1C_one [q]) (by rw [List.length_map,List.length_map]; omega) (by rw [List.length_map,List.length_map]; omega) hOl.lt ?_
   intro sv' w8 hI8 hg8 hb8 ho8
   have hF8:Fr (fun k=>sv.ownBlock=some k) _ w8:=grown_fr hg8 fun g hg=>hg
   replace hn13:=hn13.fr hF8 (fun e=>by have:=hIw _ e; omega)
   have hr8:∀ g,sv'.ownBlock=some g→rv.ownBlock≠some g:=fun g hg hg'=>by
    rcases ho8 with h | h
    ·exact hne g (h▸hg) hg'
    ·have e1:=Option.some.inj (h.symm.trans hg)
     have:=(hFn.lt hg').2
     exact absurd this (by rw [←e1]; exact Nat.lt_irrefl _)
   replace hFn:FO 3 1 w8 (O+1) rv ((P.map Prod.snd).map i1C):=hFn.fr hF8 (fun g hg hg'=>hne g hg' hg)
   replace hO1:=hO1.under hb8 (Nat.lt_succ_self _)
   replace hbx:=hbx.trans hb8
   replace hFr:=hFr.trans (hF8.mono fun k _ e=>.inl e)
   refine hKK _ _ ⟨fun _=>(hK _ hbx),?_⟩; clear hKK KK
   refine wpThp hpan (some 63) (i:=15) rfl rfl (hK _ hbx) ?_
   refine wpAnyD_one (i:=14) (by kernel_rfl) rfl (fun KK hKK=>?_)
   rw [if_pos (by rfl)]
   have hOl:=hO1
   refine op_appF (.tmp 54) (.tmp 61) 22 rfl 3 (.int .i64 0) 1 8 Tryz.underlying22 Tryz.infoInt rfl (by decide) (O+1) rv _ rfl hFn (w.heap.size+1) 0 1 1 [NR] rfl rfl (by decide) (by intro cs hc; rw [List.mem_singleton.1 hc]; exact hNL) (by simp only [List.flatten_cons,List.flatten_nil,List.append_nil]; first | exact hn13 | (rw [hnr]; exact hn13)) (by intro cs hc; rw [List.mem_singleton.1 hc]; exact hNO) (by rw [List.length_map,List.length_map]; omega) (by rw [List.length_map,List.length_map]; omega) hOl.lt ?_
   intro rv' w17 hf17 hg17 hb17 ho17
   have hF17:Fr (fun k=>rv.ownBlock=some k) _ w17:=grown_fr hg17 fun g hg=>hg
   have hr17:∀ g,sv'.ownBlock=some g→rv'.ownBlock≠some g:=fun g hg hg'=>by
    rcases ho17 with h | h
    ·exact hr8 g hg (h▸hg')
    ·have e1:=Option.some.inj (h.symm.trans hg')
     have:=(hI8.lt hg).2
     exact absurd this (by rw [←e1]; exact Nat.lt_irrefl _)
   have hi17:FO 3 1 w17 (O+1) sv' ((P.map Prod.fst).map i1C++[i1C q]):=hI8.fr hF17 (fun g hg hg'=>hr8 g hg hg')
   have hO17:=hO1.under hb17 (Nat.lt_succ_self _)
   replace hbx:=hbx.trans hb17
   obtain ⟨ai,ki,hiv⟩:=hi17.form
   obtain ⟨af,kf,hfv⟩:=hf17.form
   subst hiv hfv
   have y4:=hO17.cell (i:=0) rfl
   have y4f:=hO17.free 0
   have y5:=hO17.cell (i:=1) rfl
   have y5f:=hO17.free 1
   refine hKK _ _ ⟨fun _=>(hK _ hbx),?_⟩; clear hKK KK
   refine wpAnyD_one (i:=16) (by kernel_rfl) rfl (fun KK hKK=>?_)
   go_simp
   refine hKK _ _ ⟨fun hn=>absurd (by simp) hn,?_⟩; clear hKK KK
   refine wpAnyD_one (i:=17) (by kernel_rfl) rfl (fun KK hKK=>?_)
   go_simp
   refine hKK _ _ ⟨fun hn=>absurd (by simp) hn,?_⟩; clear hKK KK
   refine wpAnyD_one (i:=18) (by kernel_rfl) rfl (fun KK hKK=>?_)
   go_simp
   refine hKK _ _ ⟨fun hn=>absurd (by simp) hn,?_⟩; clear hKK KK
   refine wpAnyD_done (by kernel_rfl) ?_ _
   have hF9:Fr (fun k=>k=O) w17 ((w17.setCell ⟨O,0,none⟩ (.slice ai (P.length+1) ki)).setCell ⟨O,1,none⟩ (.slice af (P.length+1) kf)):=(Fr.set (T:=fun k=>k=O) w17 (p:=⟨O,0,none⟩) rfl _).trans (Fr.set (T:=fun k=>k=O) _ (p:=⟨O,1,none⟩) rfl _)
   simp only [List.length_append,List.length_map,List.length_cons,List.length_nil,Nat.zero_add] at hi17 hf17 hr17 ⊢
   refine hexit _ _ _ _ _ _ _ _ _ _ _ _ _ _ _ _ _ (.slice ai (P.length+1) ki) (.slice af (P.length+1) kf) _ ?_ ?_ ?_
   ·exact (hO17.put 0 _).put 1 _
   ·refine ⟨?_,?_,hr17⟩
    ·rw [List.map_append,List.map_append]; exact hi17.fr hF9 (fun g hg e=>by have:=(hi17.lt hg).1; omega)
    ·rw [List.map_append,List.map_append]; show FO _ _ _ _ _ (_++[i1C (r-m)]); rw [hNR.out]; exact hf17.fr hF9 (fun g hg e=>by have:=(hf17.lt hg).1; omega)
   ·exact ((hdr.mono (Nat.le_of_succ_le hOw)).trans (hbx.mono (Nat.le_succ _))).trans (hF9.below (fun k e=>by omega) (by have:=hO17.lt; omega))
 ·skip
  have hbN13:Below w.drew.heap.size w.drew (w.drew.alloc (.cells #[.int .i64 ((r:Int)-(m:Int))] 3)):=below_alloc _
  have hn13:=Cs.fresh w.drew [.int .i64 ((r:Int)-(m:Int))] 3
  replace hI:=hI.next hbN13
  replace hFn:=hFn.next hbN13
  replace hO1:=hO1.next hbN13
  replace hbx:=hbx.trans (hbN13.mono (Nat.le_trans hOw hFr.size))
  replace hFr:=hFr.trans (below_fr hbN13 _)
  go_simp
  refine hKK _ _ ⟨fun _=>(hK _ hbx),?_⟩; clear hKK KK
  refine wpAnyD_one (i:=3) (by kernel_rfl) rfl (fun KK hKK=>?_)
  have hbN3:Below (w.drew.alloc (.cells #[.int .i64 ((r:Int)-(m:Int))] 3)).heap.size (w.drew.alloc (.cells #[.int .i64 ((r:Int)-(m:Int))] 3)) ((w.drew.alloc (.cells #[.int .i64 ((r:Int)-(m:Int))] 3)).alloc (.cells #[.int .i64 (q:Int)] 3)):=below_alloc _
  have hn3:=Cs.fresh (w.drew.alloc (.cells #[.int .i64 ((r:Int)-(m:Int))] 3)) [.int .i64 (q:Int)] 3
  have hz3:(w.drew.alloc (.cells #[.int .i64 ((r:Int)-(m:Int))] 3)).heap.size=w.heap.size+1:=by simp
  rw [hz3] at hn3
  replace hn13:=hn13.next hbN3
  replace hI:=hI.next hbN3
  replace hFn:=hFn.next hbN3
  replace hO1:=hO1.next hbN3
  replace hbx:=hbx.trans (hbN3.mono (Nat.le_trans hOw hFr.size))
  replace hFr:=hFr.trans (below_fr hbN3 _)
  go_simp
  refine hKK _ _ ⟨fun _=>(hK _ hbx),?_⟩; clear hKK KK
  refine wpAnyD_one (i:=4) (by kernel_rfl) rfl (fun KK hKK=>?_)
  rw [if_pos (by rfl)]
  have hOl:=hO1
  refine op_appF (.tmp 49) (.tmp 51) 22 rfl 3 (.int .i64 0) 1 8 Tryz.underlying22 Tryz.infoInt rfl (by decide) (O+1) sv _ rfl hI (w.heap.size+1) 0 1 1 [i1C q] rfl rfl (by decide) (i1C_len [q]) (by simp only [List.flatten_cons,List.flatten_nil,List.append_nil]; first | exact hn3 | (rw [hnr]; exact hn13)) (i1C_one [q]) (by rw [List.length_map,List.length_map]; omega) (by rw [List.length_map,List.length_map]; omega) hOl.lt ?_
  intro sv' w8 hI8 hg8 hb8 ho8
  have hF8:Fr (fun k=>sv.ownBlock=some k) _ w8:=grown_fr hg8 fun g hg=>hg
  replace hn13:=hn13.fr hF8 (fun e=>by have:=hIw _ e; omega)
  have hr8:∀ g,sv'.ownBlock=some g→rv.ownBlock≠some g:=fun g hg hg'=>by
   rcases ho8 with h | h
   ·exact hne g (h▸hg) hg'
   ·have e1:=Option.some.inj (h.symm.trans hg)
    have:=(hFn.lt hg').2
    exact absurd this (by rw [←e1]; exact Nat.lt_irrefl _)
  replace hFn:FO 3 1 w8 (O+1) rv ((P.map Prod.snd).map i1C):=hFn.fr hF8 (fun g hg hg'=>hne g hg' hg)
  replace hO1:=hO1.under hb8 (Nat.lt_succ_self _)
  replace hbx:=hbx.trans hb8
  replace hFr:=hFr.trans (hF8.mono fun k _ e=>.inl e)
  refine hKK _ _ ⟨fun _=>(hK _ hbx),?_⟩; clear hKK KK
  refine wpThp hpan (some 63) (i:=15) rfl rfl (hK _ hbx) ?_
  refine wpAnyD_one (i:=14) (by kernel_rfl) rfl (fun KK hKK=>?_)
  rw [if_pos (by rfl)]
  have hOl:=hO1
  refine op_appF (.tmp 54) (.tmp 61) 22 rfl 3 (.int .i64 0) 1 8 Tryz.underlying22 Tryz.infoInt rfl (by decide) (O+1) rv _ rfl hFn w.heap.size 0 1 1 [NR] rfl rfl (by decide) (by intro cs hc; rw [List.mem_singleton.1 hc]; exact hNL) (by simp only [List.flatten_cons,List.flatten_nil,List.append_nil]; first | exact hn13 | (rw [hnr]; exact hn13)) (by intro cs hc; rw [List.mem_singleton.1 hc]; exact hNO) (by rw [List.length_map,List.length_map]; omega) (by rw [List.length_map,List.length_map]; omega) hOl.lt ?_
  intro rv' w17 hf17 hg17 hb17 ho17
  have hF17:Fr (fun k=>rv.ownBlock=some k) _ w17:=grown_fr hg17 fun g hg=>hg
  have hr17:∀ g,sv'.ownBlock=some g→rv'.ownBlock≠some g:=fun g hg hg'=>by
   rcases ho17 with h | h
   ·exact hr8 g hg (h▸hg')
   ·have e1:=Option.some.inj (h.symm.trans hg')
    have:=(hI8.lt hg).2
    exact absurd this (by rw [←e1]; exact Nat.lt_irrefl _)
  have hi17:FO 3 1 w17 (O+1) sv' ((P.map Prod.fst).map i1C++[i1C q]):=hI8.fr hF17 (fun g hg hg'=>hr8 g hg hg')
  have hO17:=hO1.under hb17 (Nat.lt_succ_self _)
  replace hbx:=hbx.trans hb17
  obtain ⟨ai,ki,hiv⟩:=hi17.form
  obtain ⟨af,kf,hfv⟩:=hf17.form
  subst hiv hfv
  have y4:=hO17.cell (i:=0) rfl
  have y4f:=hO17.free 0
  have y5:=hO17.cell (i:=1) rfl
  have y5f:=hO17.free 1
  refine hKK _ _ ⟨fun _=>(hK _ hbx),?_⟩; clear hKK KK
  refine wpAnyD_one (i:=16) (by kernel_rfl) rfl (fun KK hKK=>?_)
  go_simp
  refine hKK _ _ ⟨fun hn=>absurd (by simp) hn,?_⟩; clear hKK KK
  refine wpAnyD_one (i:=17) (by kernel_rfl) rfl (fun KK hKK=>?_)
  go_simp
  refine hKK _ _ ⟨fun hn=>absurd (by simp) hn,?_⟩; clear hKK KK
  refine wpAnyD_one (i:=18) (by kernel_rfl) rfl (fun KK hKK=>?_)
  go_simp
  refine hKK _ _ ⟨fun hn=>absurd (by simp) hn,?_⟩; clear hKK KK
  refine wpAnyD_done (by kernel_rfl) ?_ _
  have hF9:Fr (fun k=>k=O) w17 ((w17.setCell ⟨O,0,none⟩ (.slice ai (P.length+1) ki)).setCell ⟨O,1,none⟩ (.slice af (P.length+1) kf)):=(Fr.set (T:=fun k=>k=O) w17 (p:=⟨O,0,none⟩) rfl _).trans (Fr.set (T:=fun k=>k=O) _ (p:=⟨O,1,none⟩) rfl _)
  simp only [List.length_append,List.length_map,List.length_cons,List.length_nil,Nat.zero_add] at hi17 hf17 hr17 ⊢
  refine hexit _ _ _ _ _ _ _ _ _ _ _ _ _ _ _ _ _ (.slice ai (P.length+1) ki) (.slice af (P.length+1) kf) _ ?_ ?_ ?_
  ·exact (hO17.put 0 _).put 1 _
  ·refine ⟨?_,?_,hr17⟩
   ·rw [List.map_append,List.map_append]; exact hi17.fr hF9 (fun g hg e=>by have:=(hi17.lt hg).1; omega)
   ·rw [List.map_append,List.map_append]; show FO _ _ _ _ _ (_++[i1C (r-m)]); rw [hNR.out]; exact hf17.fr hF9 (fun g hg e=>by have:=(hf17.lt hg).1; omega)
  ·exact ((hdr.mono (Nat.le_of_succ_le hOw)).trans (hbx.mono (Nat.le_succ _))).trans (hF9.below (fun k e=>by omega) (by have:=hO17.lt; omega))
end
end Go.Proofs.YtnapapijhhldpaaGreatDoor

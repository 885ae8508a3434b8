/-
  Texts joined by program: Txa, Txb, Txz, Trb, Trg, Trn, Tro, Trq, Trs, Tru, Trv. No condition of its own.
-/
import Derived.Test.YtnapapijhhldpaaGreatDoorJtAS
namespace Go.Proofs.YtnapapijhhldpaaGreatDoor
set_option linter.unusedSimpArgs false
set_option linter.unusedVariables false
set_option maxRecDepth 100000
set_option maxHeartbeats 4000000
section
open Go.RowKit
abbrev sqC (syms st:Nat) (iv fv rv vv ev av tv sv ov:Value):List Value:=[.int .i64 2,.slice none 0 0,.int .i64 (syms:Int),.int .i64 (st:Int),iv,fv,rv,vv,ev,av,tv,sv,ov]
def mvC (m:Nat×Int):List Value:=[.int .i64 (m.1:Int),.int .i64 m.2]
def orC (i:Nat):List Value:=[.int .i64 (i:Int)]
abbrev rwV (g nn:Nat):Value:=.slice (some ⟨g,0,none⟩) nn nn
theorem Tryz.infoMv:(Tryz.prog.info? 136).map (fun i=>(i.zero,i.size,i.bytes))=some (some (.agg #[.int .i64 0,.int .i64 0]),2,16):=by kernel_rfl
theorem Tryz.infoInt1:(Tryz.prog.info? 3).map (fun i=>(i.zero,i.size,i.bytes))=some (some (.int .i64 0),1,8):=by kernel_rfl
theorem bl_ne {G base e size n:Nat} {cs xs:List Value} {T:TypeId} {v:Value} {w:World} (h:Bl G cs T w) (k:w.ownsRow base e size v n xs) (he:T≠e):v.ownBlock≠some G:=fun hg=>by
 rcases k.2 with ⟨rfl,_⟩ | ⟨g,cap,cur,rfl,_,hh,_⟩
 ·cases hg
 ·obtain rfl:g=G:=Option.some.inj hg
  have h':w.heap[g]? = some (.cells cs.toArray T (0,0)):=h
  rw [h'] at hh
  injection hh with hh
  injection hh with _ hh _
  exact he hh
structure SqM (w:World) (base G nn syms st:Nat) (iv fv rv vv ev:Value) (S:Sqr) (fb tb sb:Nat) (ov:Value) (F T:Nat->Value):Prop where
 blk:Bl G (sqC syms st iv fv rv vv ev (rwV fb nn) (rwV tb nn) (rwV sb nn) ov) 104 w
 hG:base<=G
 fr:RR 134 136 2 w base (rwV fb nn) nn F fun i=>(S.fr i).map mvC
 tor:RR 134 136 2 w base (rwV tb nn) nn T fun i=>(S.tor i).map mvC
 seen:Rw 4 w base (rwV sb nn) nn (fBo S.seen)
 ord:FO 3 1 w base ov (S.ord.map orC)
 off:∀ g,RRb (rwV fb nn) nn F g->¬ RRb (rwV tb nn) nn T g
def SqB (G nn fb tb sb:Nat) (ov:Value) (F T:Nat->Value) (g:Nat):Prop:=g=G\/g=sb\/RRb (rwV fb nn) nn F g\/RRb (rwV tb nn) nn T g\/ov.ownBlock=some g
structure Chg (w w':World) (B B':Nat->Prop):Prop where
 fr:Fr B w w'
 blk:∀ g,B' g->B g\/w.heap.size<=g
theorem Chg.trans {a b c:World} {B B' B'':Nat->Prop} (h:Chg a b B B') (k:Chg b c B' B''):Chg a c B B'' :=
 ⟨h.fr.trans' k.fr fun j hj hb=>(h.blk j hb).elim id fun e=>absurd hj (by omega),fun g hg=>(k.blk g hg).elim (h.blk g) fun e=>.inr (Nat.le_trans h.fr.size e)⟩
theorem Chg.below {w w':World} (B:Nat->Prop) (hb:Below w.heap.size w w'):Chg w w' B B:=⟨below_fr hb _,fun _ h=>.inl h⟩
theorem Chg.refl (w:World) (B:Nat->Prop):Chg w w B B:=⟨Fr.refl _ _,fun _ h=>.inl h⟩
theorem Chg.bl {w w':World} {B B':Nat->Prop} (h:Chg w w' B B') {X:Nat} {cs:List Value} {Ty:TypeId} (hX:Bl X cs Ty w) (hB:¬ B X):Bl X cs Ty w'/\¬ B' X:=⟨hX.fr h.fr hB,fun e=>(h.blk X e).elim hB fun e=>by have:=hX.lt; omega⟩
section
variable {w w':World} {base G nn syms st:Nat} {iv fv rv vv ev:Value} {S:Sqr} {fb tb sb:Nat} {ov:Value} {F T:Nat->Value}
theorem SqM.next (h:SqM w base G nn syms st iv fv rv vv ev S fb tb sb ov F T) (hb:Below w.heap.size w w'):SqM w' base G nn syms st iv fv rv vv ev S fb tb sb ov F T :=
 ⟨h.blk.next hb,h.hG,h.fr.next hb,h.tor.next hb,h.seen.next hb,h.ord.next hb,h.off⟩
theorem SqM.ge (h:SqM w base G nn syms st iv fv rv vv ev S fb tb sb ov F T):∀ g,SqB G nn fb tb sb ov F T g->base<=g/\g<w.heap.size:=fun g hg=>by
 rcases hg with rfl | rfl | hg | hg | hg
 ·exact ⟨h.hG,h.blk.lt⟩
 ·exact h.seen.lt rfl
 ·exact h.fr.lt hg
 ·exact h.tor.lt hg
 ·exact h.ord.lt hg
theorem SqM.lt (h:SqM w base G nn syms st iv fv rv vv ev S fb tb sb ov F T):base<=w.heap.size:=by have:=h.hG; have:=h.blk.lt; omega
theorem map_updL (M:Nat->Mvs) (i:Nat) (m:Nat×Int):updM (fun k=>(M k).map mvC) i ((M i).map mvC++[mvC m])=fun k=>(updL M i (M i++[m]) k).map mvC:=by
 funext k
 unfold updM updL
 split
 ·subst_vars; simp
 ·rfl
def Sqr.addF (S:Sqr) (i j:Nat) (g:Int):Sqr:=⟨S.seen,updL S.fr i (S.fr i++[(j,g)]),S.tor,S.ord⟩
theorem Sqr.add_eq (S:Sqr) (i j:Nat) (g:Int):(⟨(S.addF i j g).seen,(S.addF i j g).fr,updL (S.addF i j g).tor j ((S.addF i j g).tor j++[(i,g)]),(S.addF i j g).ord⟩:Sqr)=S.add i j g:=rfl
theorem SqM.pushF (h:SqM w base G nn syms st iv fv rv vv ev S fb tb sb ov F T) {i j:Nat} {g:Int} (hi:i<nn) {u:Value} (hu:FO 136 2 w' base u ((S.fr i).map mvC++[mvC (j,g)])) (hg:w.grownBy w' (F i).ownBlock) (ho:u.ownBlock=(F i).ownBlock\/u.ownBlock=some w.heap.size) :
  SqM (w'.setCell ⟨fb,i,none⟩ u) base G nn syms st iv fv rv vv ev (S.addF i j g) fb tb sb ov (updF F i u) T/\Chg w (w'.setCell ⟨fb,i,none⟩ u) (SqB G nn fb tb sb ov F T) (SqB G nn fb tb sb ov (updF F i u) T):=by
 obtain ⟨k1,k2⟩:=h.fr.push (by decide) hi rfl hu hg ho
 have hfr:Fr (fun b=>RRb (rwV fb nn) nn F b) w w':=grown_fr hg fun b hb=>.inr ⟨i,hi,hb⟩
 have hf2:Fr (fun b=>RRb (rwV fb nn) nn F b) w (w'.setCell ⟨fb,i,none⟩ u):=hfr.trans (Fr.set w' (T:=fun b=>RRb (rwV fb nn) nn F b) (p:=⟨fb,i,none⟩) (.inl rfl) u)
 have hne:∀ b,RRb (rwV fb nn) nn F b->∀ e size v n xs bs,w.ownsRow bs e size v n xs->e≠134->e≠136->v.ownBlock≠some b:=fun b hb e size v n xs bs hx h1 h2 hv=>by
  rcases hb with hb | ⟨l,hl,hb⟩
  ·rcases own_ne h.fr.row hx (Ne.symm h1) with k | k
   ·rw [k] at hb; cases hb
   ·exact k (hb.trans hv.symm)
  ·rcases own_ne (h.fr.el l hl).1 hx (Ne.symm h2) with k | k
   ·rw [k] at hb; cases hb
   ·exact k (hb.trans hv.symm)
 refine ⟨⟨h.blk.fr hf2 fun hb=>?_,h.hG,?_,h.tor.fr hf2 fun b hb hb'=>h.off b hb' hb,h.seen.fr hf2 fun b hb hb'=>hne b hb' _ _ _ _ _ _ h.seen (by decide) (by decide) hb,h.ord.fr hf2 fun b hb hb'=>hne b hb' _ _ _ _ _ _ h.ord.1 (by decide) (by decide) hb,fun b hb hb'=>?_⟩,⟨hf2.mono fun b _ hb=>.inr (.inr (.inl hb)),fun b hb=>?_⟩⟩
 ·rcases hb with hb | ⟨l,hl,hb⟩
  ·exact bl_ne h.blk h.fr.row (by decide) hb
  ·exact bl_ne h.blk (h.fr.el l hl).1 (by decide) hb
 ·rw [map_updL] at k1; exact k1
 ·rcases k2 b hb with k | k
  ·exact h.off b k hb'
  ·exact absurd (h.tor.lt hb').2 (by omega)
 ·rcases hb with hb | hb | hb | hb
  ·exact .inl (.inl hb)
  ·exact .inl (.inr (.inl hb))
  ·exact (k2 b hb).imp (fun k=>.inr (.inr (.inl k))) id
  ·exact .inl (.inr (.inr (.inr hb)))
theorem SqM.pushT (h:SqM w base G nn syms st iv fv rv vv ev S fb tb sb ov F T) {i j:Nat} {g:Int} (hj:j<nn) {u:Value} (hu:FO 136 2 w' base u ((S.tor j).map mvC++[mvC (i,g)])) (hg:w.grownBy w' (T j).ownBlock) (ho:u.ownBlock=(T j).ownBlock\/u.ownBlock=some w.heap.size) :
  SqM (w'.setCell ⟨tb,j,none⟩ u) base G nn syms st iv fv rv vv ev ⟨S.seen,S.fr,updL S.tor j (S.tor j++[(i,g)]),S.ord⟩ fb tb sb ov F (updF T j u)/\Chg w (w'.setCell ⟨tb,j,none⟩ u) (SqB G nn fb tb sb ov F T) (SqB G nn fb tb sb ov F (updF T j u)):=by
 obtain ⟨k1,k2⟩:=h.tor.push (by decide) hj rfl hu hg ho
 have hfr:Fr (fun b=>RRb (rwV tb nn) nn T b) w w':=grown_fr hg fun b hb=>.inr ⟨j,hj,hb⟩
 have hf2:Fr (fun b=>RRb (rwV tb nn) nn T b) w (w'.setCell ⟨tb,j,none⟩ u):=hfr.trans (Fr.set w' (T:=fun b=>RRb (rwV tb nn) nn T b) (p:=⟨tb,j,none⟩) (.inl rfl) u)
 have hne:∀ b,RRb (rwV tb nn) nn T b->∀ e size v n xs bs,w.ownsRow bs e size v n xs->e≠134->e≠136->v.ownBlock≠some b:=fun b hb e size v n xs bs hx h1 h2 hv=>by
  rcases hb with hb | ⟨l,hl,hb⟩
  ·rcases own_ne h.tor.row hx (Ne.symm h1) with k | k
   ·rw [k] at hb; cases hb
   ·exact k (hb.trans hv.symm)
  ·rcases own_ne (h.tor.el l hl).1 hx (Ne.symm h2) with k | k
   ·rw [k] at hb; cases hb
   ·exact k (hb.trans hv.symm)
 refine ⟨⟨h.blk.fr hf2 fun hb=>?_,h.hG,h.fr.fr hf2 fun b hb hb'=>h.off b hb hb',?_,h.seen.fr hf2 fun b hb hb'=>hne b hb' _ _ _ _ _ _ h.seen (by decide) (by decide) hb,h.ord.fr hf2 fun b hb hb'=>hne b hb' _ _ _ _ _ _ h.ord.1 (by decide) (by decide) hb,fun b hb hb'=>?_⟩,⟨hf2.mono fun b _ hb=>.inr (.inr (.inr (.inl hb))),fun b hb=>?_⟩⟩
 ·rcases hb with hb | ⟨l,hl,hb⟩
  ·exact bl_ne h.blk h.tor.row (by decide) hb
  ·exact bl_ne h.blk (h.tor.el l hl).1 (by decide) hb
 ·rw [map_updL] at k1; exact k1
 ·rcases k2 b hb' with k | k
  ·exact h.off b hb k
  ·exact absurd (h.fr.lt hb).2 (by omega)
 ·rcases hb with hb | hb | hb | hb | hb
  ·exact .inl (.inl hb)
  ·exact .inl (.inr (.inl hb))
  ·exact .inl (.inr (.inr (.inl hb)))
  ·exact (k2 b hb).imp (fun k=>.inr (.inr (.inr (.inl k)))) id
  ·exact .inl (.inr (.inr (.inr (.inr hb))))
theorem SqM.mark (h:SqM w base G nn syms st iv fv rv vv ev S fb tb sb ov F T) (i:Nat):SqM (w.setCell ⟨sb,i,none⟩ (.bool true)) base G nn syms st iv fv rv vv ev (S.mark i) fb tb sb ov F T/\Chg w (w.setCell ⟨sb,i,none⟩ (.bool true)) (SqB G nn fb tb sb ov F T) (SqB G nn fb tb sb ov F T):=by
 have hf:Fr (fun b=>b=sb) w (w.setCell ⟨sb,i,none⟩ (.bool true)):=Fr.set w (T:=fun b=>b=sb) (p:=⟨sb,i,none⟩) rfl _
 have hs:∀ e size v n xs bs,w.ownsRow bs e size v n xs->4≠e->v.ownBlock≠some sb:=fun e size v n xs bs hx he hv=>by
  rcases own_ne h.seen hx he with k | k
  ·cases k
  ·exact k (Eq.trans rfl hv.symm)
 refine ⟨⟨h.blk.fr hf fun e=>?_,h.hG,h.fr.fr hf fun b hb e=>?_,h.tor.fr hf fun b hb e=>?_,?_,h.ord.fr hf fun b hb e=>hs _ _ _ _ _ _ h.ord.1 (by decide) (e▸hb),h.off⟩,⟨hf.mono fun b _ e=>.inr (.inl e),fun b hb=>.inl hb⟩⟩
 ·exact bl_ne h.blk h.seen (by decide) (by rw [e]; rfl)
 ·subst e
  rcases hb with hb | ⟨l,hl,hb⟩
  ·exact hs _ _ _ _ _ _ h.fr.row (by decide) hb
  ·exact hs _ _ _ _ _ _ (h.fr.el l hl).1 (by decide) hb
 ·subst e
  rcases hb with hb | ⟨l,hl,hb⟩
  ·exact hs _ _ _ _ _ _ h.tor.row (by decide) hb
  ·exact hs _ _ _ _ _ _ (h.tor.el l hl).1 (by decide) hb
 ·refine (h.seen.put i (.bool true)).congr fun k _=>?_
  unfold updF fBo Sqr.mark updS
  simp only
  split<;>rfl
theorem SqM.done (h:SqM w base G nn syms st iv fv rv vv ev S fb tb sb ov F T) {i:Nat} {u:Value} (hu:FO 3 1 w' base u (S.ord.map orC++[orC i])) (hg:w.grownBy w' ov.ownBlock) (ho:u.ownBlock=ov.ownBlock\/u.ownBlock=some w.heap.size) :
  SqM (w'.setCell ⟨G,12,none⟩ u) base G nn syms st iv fv rv vv ev (S.done i) fb tb sb u F T/\Chg w (w'.setCell ⟨G,12,none⟩ u) (SqB G nn fb tb sb ov F T) (SqB G nn fb tb sb u F T):=by
 have hf:Fr (fun b=>ov.ownBlock=some b) w w':=grown_fr hg fun b hb=>hb
 have hb1:Bl G _ 104 w':=h.blk.fr hf fun hb=>bl_ne h.blk h.ord.1 (by decide) hb
 have hs:Fr (fun b=>b=G) w' (w'.setCell ⟨G,12,none⟩ u):=Fr.set w' (T:=fun b=>b=G) (p:=⟨G,12,none⟩) rfl _
 have hf2:Fr (fun b=>ov.ownBlock=some b\/b=G) w (w'.setCell ⟨G,12,none⟩ u):=(hf.mono fun b _ hb=>.inl hb).trans (hs.mono fun b _ hb=>.inr hb)
 have hw:∀ e size v n xs bs,w.ownsRow bs e size v n xs->3≠e->104≠e->∀ b,v.ownBlock=some b->¬ (ov.ownBlock=some b\/b=G):=fun e size v n xs bs hx h1 h2 b hb hc=>by
  rcases hc with hc | rfl
  ·rcases own_ne h.ord.1 hx h1 with k | k
   ·rw [k] at hc; cases hc
   ·exact k (hc.trans hb.symm)
  ·exact bl_ne h.blk hx h2 hb
 refine ⟨⟨hb1.put 12 u,h.hG,h.fr.fr hf2 fun b hb=>?_,h.tor.fr hf2 fun b hb=>?_,h.seen.fr hf2 (hw _ _ _ _ _ _ h.seen (by decide) (by decide)),?_,h.off⟩,⟨hf2.mono fun b _ hb=>hb.elim (fun e=>.inr (.inr (.inr (.inr e)))) .inl,fun b hb=>?_⟩⟩
 ·rcases hb with hb | ⟨l,hl,hb⟩
  ·exact hw _ _ _ _ _ _ h.fr.row (by decide) (by decide) b hb
  ·exact hw _ _ _ _ _ _ (h.fr.el l hl).1 (by decide) (by decide) b hb
 ·rcases hb with hb | ⟨l,hl,hb⟩
  ·exact hw _ _ _ _ _ _ h.tor.row (by decide) (by decide) b hb
  ·exact hw _ _ _ _ _ _ (h.tor.el l hl).1 (by decide) (by decide) b hb
 ·have e1:(S.done i).ord.map orC=S.ord.map orC++[orC i]:=by show (S.ord++[i]).map orC=_; rw [List.map_append]; rfl
  rw [e1]
  refine hu.fr hs fun b hb e=>?_
  exact bl_ne hb1 hu.1 (by decide) (e▸hb)
 ·rcases hb with hb | hb | hb | hb | hb
  ·exact .inl (.inl hb)
  ·exact .inl (.inr (.inl hb))
  ·exact .inl (.inr (.inr (.inl hb)))
  ·exact .inl (.inr (.inr (.inr (.inl hb))))
  ·rcases ho with e | e
   ·exact .inl (.inr (.inr (.inr (.inr (e▸hb)))))
   ·rw [e] at hb; cases hb; exact .inr (Nat.le_refl _)
end
end
section
open Go.RowKit
noncomputable def xR (n:Nat):Code:=(Tryz.f55.body.bind (findR n)).getD .skip
theorem mv_len (m:Nat×Int):∀ cs∈[mvC m],cs.length=2:=fun cs h=>by rw [List.mem_singleton.1 h]; rfl
theorem mv_one (m:Nat×Int):∀ cs∈[mvC m],∀ u∈cs,u.oneCell'=true:=fun cs h u hu=>by
 rw [List.mem_singleton.1 h] at hu
 unfold mvC at hu
 simp at hu
 rcases hu with rfl | rfl<;>rfl
theorem sq_from (base G nn syms st:Nat) (iv fv rv vv ev:Value) (S:Sqr) (fb tb sb:Nat) (ov:Value) (F T:Nat->Value) (i j:Nat) (g:Int) (w:World) (h:SqM w base G nn syms st iv fv rv vv ev S fb tb sb ov F T) (hi:i<nn) (hl:(S.fr i).length<=1000000000000)
  {c2 c3 c4 c5 c6 c7 c8 c9 Aa Ab Ad Ae Af Ag Ah Ak Al Am An Ao Ap Aq Ar As Av Aw Ax Ay Az Ba Bb Bc Be Bf Bh Bi Bj Bk Bm Bn Bo Bp Bq Br Bs Bt Bu Bv Bw Bx By Bz Ca Cb Cc Cd Ce Cf Cg Ch Ci Cj Ck Cl Cm Cn Co Cp Cq Cr Ct Cu Cv Cw Cx Cy Cz Da Db Dc Dd De Df Dg Dh Di Dj Dk Dl Dn Dp Dq Dr Dt Du Dv Dw Dx Dy Dz Ea Eb Ec Ed Ee Ef Eg Eh Ei Ej Ek El Em En Eo Ep Eq Er Es Et Eu Ev Ew Ex Ey Ez Fa Fb Fc Fd Fe Ff Fg Fh Fi Fj Fk Fm Fn Fo Fp Fq Fs Ft Fu Fv Fw Fx Fy:Value} {Q0:EP} (hpan:∀ c (a:Act) d v w,Q0 (.panic c) (a.put d v) w->Q0 (.panic c) a w)
  (hexit:∀ (Fz Ga Gb Gc Gd Ge Gf Gg Gh Gi Gj Gk Gl Gm Gn Go Gp Gq:Value) (u:Value) (w':World),SqM w' base G nn syms st iv fv rv vv ev (S.addF i j g) fb tb sb ov (updF F i u) T->Chg w w' (SqB G nn fb tb sb ov F T) (SqB G nn fb tb sb ov (updF F i u) T)->Q0 .normal ⟨#[.pointer (some ⟨G,0,none⟩),.int .i64 (i:Int),c2,c3,c4,c5,c6,c7,c8,c9,.int .i64 (j:Int),.int .i64 g,Aa,Ab,Ad,Ae,Af,Ag,Ah,Ak,Al,Am,An,Ao,Ap,Aq,Ar,As,Av,Aw,Ax,Ay,Az,Ba,Bb,Bc,Be,Bf,Bh,Bi,Bj,Bk,Bm,Bn,Bo,Bp,Bq,Br,Bs,Bt,Bu,Bv,Bw,Bx,By,Bz,Ca,Cb,Cc,Cd,Ce,Cf,Cg,Ch,Ci,Cj,Ck,Cl,Cm,Cn,Co,Cp,Cq,Cr,Ct,Cu,Cv,Cw,Cx,Cy,Cz,Da,Db,Dc,Dd,De,Df,Dg,Dh,Di,Dj,Dk,Dl,Dn,Dp,Dq,Dr,Dt,Du,Dv,Dw,Dx,Fz,Ga,Gb,Gc,Gd,Ge,Gf,Gg,Gh,Gi,Gj,Gk,Gl,Gm,Gn,Go,Gp,Gq,Eq,Er,Es,Et,Eu,Ev,Ew,Ex,Ey,Ez,Fa,Fb,Fc,Fd,Fe,Ff,Fg,Fh,Fi,Fj,Fk,Fm,Fn,Fo,Fp,Fq,Fs,Ft,Fu,Fv,Fw,Fx,Fy],[]⟩ w') :
  Code.wp Tryz.prog (xR 11) Q0 ⟨#[.pointer (some ⟨G,0,none⟩),.int .i64 (i:Int),c2,c3,c4,c5,c6,c7,c8,c9,.int .i64 (j:Int),.int .i64 g,Aa,Ab,Ad,Ae,Af,Ag,Ah,Ak,Al,Am,An,Ao,Ap,Aq,Ar,As,Av,Aw,Ax,Ay,Az,Ba,Bb,Bc,Be,Bf,Bh,Bi,Bj,Bk,Bm,Bn,Bo,Bp,Bq,Br,Bs,Bt,Bu,Bv,Bw,Bx,By,Bz,Ca,Cb,Cc,Cd,Ce,Cf,Cg,Ch,Ci,Cj,Ck,Cl,Cm,Cn,Co,Cp,Cq,Cr,Ct,Cu,Cv,Cw,Cx,Cy,Cz,Da,Db,Dc,Dd,De,Df,Dg,Dh,Di,Dj,Dk,Dl,Dn,Dp,Dq,Dr,Dt,Du,Dv,Dw,Dx,Dy,Dz,Ea,Eb,Ec,Ed,Ee,Ef,Eg,Eh,Ei,Ej,Ek,El,Em,En,Eo,Ep,Eq,Er,Es,Et,Eu,Ev,Ew,Ex,Ey,Ez,Fa,Fb,Fc,Fd,Fe,Ff,Fg,Fh,Fi,Fj,Fk,Fm,Fn,Fo,Fp,Fq,Fs,Ft,Fu,Fv,Fw,Fx,Fy],[]⟩ w:=by
 conv=>arg 2; whnf
 have hexit:=hid hexit
 have hdr:=(Below.refl w.heap.size w).drew
 have hMl:=h.lt
 have hM:=h.next hdr
 have hS:w.drew.cell? ⟨G,9,none⟩=some (rwV fb nn)/\w.drew.cell? ⟨fb,i,none⟩=some (F i):=⟨hM.blk.cell (i:=9) rfl,hM.fr.row.cell hi⟩
 have i1:(i:Int)<(nn:Int):=by omega
 have i0:(0:Int)<=(i:Int):=by omega
 refine wp_region_D (fun w'=>w'.cell? ⟨G,9,none⟩=some (rwV fb nn)/\w'.cell? ⟨fb,i,none⟩=some (F i)) [18] (by kernel_rfl) ?_
 refine tkBp 0 hpan (some 102) rfl rfl hS ?_
 refine tkBp 1 hpan (some 103) rfl rfl hS ?_
 refine tkBp 2 hpan (some 104) rfl rfl hS ?_
 refine tkBl 3 hpan (some 105) (v:=?_) rfl rfl ?_ hS ?_
 rotate_left
 ·intro wz hw; refine exec_load1 G 9 ?_ (rwV fb nn) hw.1 _ Tryz.underlying102 (by rfl); go_simp
 refine tkBp 4 hpan (some 106) rfl rfl hS ?_
 refine tkBp 5 hpan (some 107) rfl rfl hS ?_
 refine tkBp 6 hpan (some 108) rfl rfl hS ?_
 refine tkBp 7 hpan (some 109) rfl rfl hS ?_
 refine tkBl 8 hpan (some 110) (v:=?_) rfl rfl ?_ hS ?_
 rotate_left
 ·intro wz hw; refine exec_load1 G 9 ?_ (rwV fb nn) hw.1 _ Tryz.underlying102 (by rfl); go_simp
 refine tkBp 9 hpan (some 111) rfl rfl hS ?_
 refine tkBp 10 hpan (some 112) rfl rfl hS ?_
 refine tkBl 11 hpan (some 113) (v:=?_) rfl rfl ?_ hS ?_
 rotate_left
 ·intro wz hw; refine exec_load1 fb i ?_ (F i) hw.2 _ Tryz.underlying134 (by rfl); go_simp
 refine tkBp 12 hpan (some 114) rfl rfl hS ?_
 refine tkBp 13 hpan (some 115) rfl rfl hS ?_
 refine tkBp 14 hpan (some 116) rfl rfl hS ?_
 go_simp
 refine wpO (i:=15) rfl fun KK hKK=>?_
 obtain ⟨wa,hwa⟩:∃ z,w.drew.alloc (.cells #[.int .i64 (j:Int),.int .i64 g] 136)=z:=⟨_,rfl⟩
 obtain ⟨lb,hlb⟩:∃ z,w.drew.heap.size=z:=⟨_,rfl⟩
 have hbl:Below w.drew.heap.size w.drew wa:=by rw [<-hwa]; exact below_alloc _
 have hnew:Cs wa lb 0 (mvC (j,g)):=by rw [<-hwa,<-hlb]; exact Cs.fresh _ (mvC (j,g)) _
 replace hM:=hM.next hbl
 have hS2:wa.cell? ⟨G,9,none⟩=some (rwV fb nn)/\wa.cell? ⟨fb,i,none⟩=some (F i):=⟨cell_later hbl hS.1,cell_later hbl hS.2⟩
 have hb2:=below_chain hdr hbl
 go_simp
 try simp only [hwa,hlb]
 refine hKK _ _ ⟨fun _=>(hS2),?_⟩; clear hKK KK
 refine wpO (i:=16) rfl fun KK hKK=>?_
 rw [if_pos (by rfl)]
 refine op_appF (.tmp 113) (.tmp 117) 134 rfl 136 (.agg #[.int .i64 0,.int .i64 0]) 2 16 Tryz.underlying134 Tryz.infoMv rfl (by decide) base (F i) ((S.fr i).map mvC) rfl (hM.fr.el i hi) lb 0 1 1 [mvC (j,g)] rfl rfl (by decide) (mv_len _) (by simpa using hnew) (mv_one _) (by rw [List.length_map]; omega) (by rw [List.length_map]; omega) hM.lt ?_
 intro u wb hu hg hb5 ho
 obtain ⟨hM2,hb6⟩:=hM.pushF (i:=i) (j:=j) (g:=g) hi hu hg ho
 have hfr:Fr (fun b=>(F i).ownBlock=some b) wa wb:=grown_fr hg fun b hb=>hb
 have hS3:wb.cell? ⟨G,9,none⟩=some (rwV fb nn)/\wb.cell? ⟨fb,i,none⟩=some (F i):=⟨hfr.cell hS2.1 fun hb=>bl_ne hM.blk (hM.fr.el i hi).1 (by decide) hb,hfr.cell hS2.2 fun hb=>hM.fr.off (by decide) hi _ rfl hb⟩
 obtain ⟨ua,uc,hue⟩:=hu.form
 generalize (List.map mvC _++[mvC _]).length=ul at hue
 subst hue
 have z1:=hS3.2
 have z2:=(hM.fr.row.fr hfr fun b hb hb'=>hM.fr.off (by decide) hi b hb hb').free i
 try go_simp
 refine hKK _ _ ⟨fun _=>(hS3),?_⟩; clear hKK KK
 refine tkBp 17 hpan (some 119) rfl rfl (hS3) ?_
 refine wpO (i:=18) rfl fun KK hKK=>?_
 go_simp
 refine lN hKK ?_; clear hKK KK
 refine wpAnyD_done (by kernel_rfl) ?_ _
 exact hexit.out _ _ _ _ _ _ _ _ _ _ _ _ _ _ _ _ _ _ _ _ hM2 ((Chg.below _ hb2).trans hb6)
theorem sq_to (base G nn syms st:Nat) (iv fv rv vv ev:Value) (S:Sqr) (fb tb sb:Nat) (ov:Value) (F T:Nat->Value) (i j:Nat) (g:Int) (w:World) (h:SqM w base G nn syms st iv fv rv vv ev S fb tb sb ov F T) (hi:j<nn) (hl:(S.tor j).length<=1000000000000)
  {c2 c3 c4 c5 c6 c7 c8 c9 Aa Ab Ad Ae Af Ag Ah Ak Al Am An Ao Ap Aq Ar As Av Aw Ax Ay Az Ba Bb Bc Be Bf Bh Bi Bj Bk Bm Bn Bo Bp Bq Br Bs Bt Bu Bv Bw Bx By Bz Ca Cb Cc Cd Ce Cf Cg Ch Ci Cj Ck Cl Cm Cn Co Cp Cq Cr Ct Cu Cv Cw Cx Cy Cz Da Db Dc Dd De Df Dg Dh Di Dj Dk Dl Dn Dp Dq Dr Dt Du Dv Dw Dx Dy Dz Ea Eb Ec Ed Ee Ef Eg Eh Ei Ej Ek El Em En Eo Ep Eq Er Es Et Eu Ev Ew Ex Ey Ez Fa Fb Fc Fd Fe Ff Fg Fh Fi Fj Fk Fm Fn Fo Fp Fq Fs Ft Fu Fv Fw Fx Fy:Value} {Q0:EP} (hpan:∀ c (a:Act) d v w,Q0 (.panic c) (a.put d v) w->Q0 (.panic c) a w)
  (hexit:∀ (Fz Ga Gb Gc Gd Ge Gf Gg Gh Gi Gj Gk Gl Gm Gn Go Gp Gq:Value) (u:Value) (w':World),SqM w' base G nn syms st iv fv rv vv ev ⟨S.seen,S.fr,updL S.tor j (S.tor j++[(i,g)]),S.ord⟩ fb tb sb ov F (updF T j u)->Chg w w' (SqB G nn fb tb sb ov F T) (SqB G nn fb tb sb ov F (updF T j u))->Q0 .normal ⟨#[.pointer (some ⟨G,0,none⟩),.int .i64 (i:Int),c2,c3,c4,c5,c6,c7,c8,c9,.int .i64 (j:Int),.int .i64 g,Aa,Ab,Ad,Ae,Af,Ag,Ah,Ak,Al,Am,An,Ao,Ap,Aq,Ar,As,Av,Aw,Ax,Ay,Az,Ba,Bb,Bc,Be,Bf,Bh,Bi,Bj,Bk,Bm,Bn,Bo,Bp,Bq,Br,Bs,Bt,Bu,Bv,Bw,Bx,By,Bz,Ca,Cb,Cc,Cd,Ce,Cf,Cg,Ch,Ci,Cj,Ck,Cl,Cm,Cn,Co,Cp,Cq,Cr,Ct,Cu,Cv,Cw,Cx,Cy,Cz,Da,Db,Dc,Dd,De,Df,Dg,Dh,Di,Dj,Dk,Dl,Dn,Dp,Dq,Dr,Dt,Du,Dv,Dw,Dx,Dy,Dz,Ea,Eb,Ec,Ed,Ee,Ef,Eg,Eh,Ei,Ej,Ek,El,Em,En,Eo,Ep,Fz,Ga,Gb,Gc,Gd,Ge,Gf,Gg,Gh,Gi,Gj,Gk,Gl,Gm,Gn,Go,Gp,Gq,Fi,Fj,Fk,Fm,Fn,Fo,Fp,Fq,Fs,Ft,Fu,Fv,Fw,Fx,Fy],[]⟩ w') :
  Code.wp Tryz.prog (xR 12) Q0 ⟨#[.pointer (some ⟨G,0,none⟩),.int .i64 (i:Int),c2,c3,c4,c5,c6,c7,c8,c9,.int .i64 (j:Int),.int .i64 g,Aa,Ab,Ad,Ae,Af,Ag,Ah,Ak,Al,Am,An,Ao,Ap,Aq,Ar,As,Av,Aw,Ax,Ay,Az,Ba,Bb,Bc,Be,Bf,Bh,Bi,Bj,Bk,Bm,Bn,Bo,Bp,Bq,Br,Bs,Bt,Bu,Bv,Bw,Bx,By,Bz,Ca,Cb,Cc,Cd,Ce,Cf,Cg,Ch,Ci,Cj,Ck,Cl,Cm,Cn,Co,Cp,Cq,Cr,Ct,Cu,Cv,Cw,Cx,Cy,Cz,Da,Db,Dc,Dd,De,Df,Dg,Dh,Di,Dj,Dk,Dl,Dn,Dp,Dq,Dr,Dt,Du,Dv,Dw,Dx,Dy,Dz,Ea,Eb,Ec,Ed,Ee,Ef,Eg,Eh,Ei,Ej,Ek,El,Em,En,Eo,Ep,Eq,Er,Es,Et,Eu,Ev,Ew,Ex,Ey,Ez,Fa,Fb,Fc,Fd,Fe,Ff,Fg,Fh,Fi,Fj,Fk,Fm,Fn,Fo,Fp,Fq,Fs,Ft,Fu,Fv,Fw,Fx,Fy],[]⟩ w:=by
 conv=>arg 2; whnf
 have hexit:=hid hexit
 have hdr:=(Below.refl w.heap.size w).drew
 have hMl:=h.lt
 have hM:=h.next hdr
 have hS:w.drew.cell? ⟨G,10,none⟩=some (rwV tb nn)/\w.drew.cell? ⟨tb,j,none⟩=some (T j):=⟨hM.blk.cell (i:=10) rfl,hM.tor.row.cell hi⟩
 have i1:(j:Int)<(nn:Int):=by omega
 have i0:(0:Int)<=(j:Int):=by omega
 refine wp_region_D (fun w'=>w'.cell? ⟨G,10,none⟩=some (rwV tb nn)/\w'.cell? ⟨tb,j,none⟩=some (T j)) [18] (by kernel_rfl) ?_
 refine tkBp 0 hpan (some 120) rfl rfl hS ?_
 refine tkBp 1 hpan (some 121) rfl rfl hS ?_
 refine tkBp 2 hpan (some 122) rfl rfl hS ?_
 refine tkBl 3 hpan (some 123) (v:=?_) rfl rfl ?_ hS ?_
 rotate_left
 ·intro wz hw; refine exec_load1 G 10 ?_ (rwV tb nn) hw.1 _ Tryz.underlying102 (by rfl); go_simp
 refine tkBp 4 hpan (some 124) rfl rfl hS ?_
 refine tkBp 5 hpan (some 125) rfl rfl hS ?_
 refine tkBp 6 hpan (some 126) rfl rfl hS ?_
 refine tkBp 7 hpan (some 127) rfl rfl hS ?_
 refine tkBl 8 hpan (some 128) (v:=?_) rfl rfl ?_ hS ?_
 rotate_left
 ·intro wz hw; refine exec_load1 G 10 ?_ (rwV tb nn) hw.1 _ Tryz.underlying102 (by rfl); go_simp
 refine tkBp 9 hpan (some 129) rfl rfl hS ?_
 refine tkBp 10 hpan (some 130) rfl rfl hS ?_
 refine tkBl 11 hpan (some 131) (v:=?_) rfl rfl ?_ hS ?_
 rotate_left
 ·intro wz hw; refine exec_load1 tb j ?_ (T j) hw.2 _ Tryz.underlying134 (by rfl); go_simp
 refine tkBp 12 hpan (some 132) rfl rfl hS ?_
 refine tkBp 13 hpan (some 133) rfl rfl hS ?_
 refine tkBp 14 hpan (some 134) rfl rfl hS ?_
 go_simp
 refine wpO (i:=15) rfl fun KK hKK=>?_
 obtain ⟨wa,hwa⟩:∃ z,w.drew.alloc (.cells #[.int .i64 (i:Int),.int .i64 g] 136)=z:=⟨_,rfl⟩
 obtain ⟨lb,hlb⟩:∃ z,w.drew.heap.size=z:=⟨_,rfl⟩
 have hbl:Below w.drew.heap.size w.drew wa:=by rw [<-hwa]; exact below_alloc _
 have hnew:Cs wa lb 0 (mvC (i,g)):=by rw [<-hwa,<-hlb]; exact Cs.fresh _ (mvC (i,g)) _
 replace hM:=hM.next hbl
 have hS2:wa.cell? ⟨G,10,none⟩=some (rwV tb nn)/\wa.cell? ⟨tb,j,none⟩=some (T j):=⟨cell_later hbl hS.1,cell_later hbl hS.2⟩
 have hb2:=below_chain hdr hbl
 go_simp
 try simp only [hwa,hlb]
 refine hKK _ _ ⟨fun _=>(hS2),?_⟩; clear hKK KK
 refine wpO (i:=16) rfl fun KK hKK=>?_
 rw [if_pos (by rfl)]
 refine op_appF (.tmp 131) (.tmp 135) 134 rfl 136 (.agg #[.int .i64 0,.int .i64 0]) 2 16 Tryz.underlying134 Tryz.infoMv rfl (by decide) base (T j) ((S.tor j).map mvC) rfl (hM.tor.el j hi) lb 0 1 1 [mvC (i,g)] rfl rfl (by decide) (mv_len _) (by simpa using hnew) (mv_one _) (by rw [List.length_map]; omega) (by rw [List.length_map]; omega) hM.lt ?_
 intro u wb hu hg hb5 ho
 obtain ⟨hM2,hb6⟩:=hM.pushT (i:=i) (j:=j) (g:=g) hi hu hg ho
 have hfr:Fr (fun b=>(T j).ownBlock=some b) wa wb:=grown_fr hg fun b hb=>hb
 have hS3:wb.cell? ⟨G,10,none⟩=some (rwV tb nn)/\wb.cell? ⟨tb,j,none⟩=some (T j):=⟨hfr.cell hS2.1 fun hb=>bl_ne hM.blk (hM.tor.el j hi).1 (by decide) hb,hfr.cell hS2.2 fun hb=>hM.tor.off (by decide) hi _ rfl hb⟩
 obtain ⟨ua,uc,hue⟩:=hu.form
 generalize (List.map mvC _++[mvC _]).length=ul at hue
 subst hue
 have z1:=hS3.2
 have z2:=(hM.tor.row.fr hfr fun b hb hb'=>hM.tor.off (by decide) hi b hb hb').free j
 try go_simp
 refine hKK _ _ ⟨fun _=>(hS3),?_⟩; clear hKK KK
 refine tkBp 17 hpan (some 137) rfl rfl (hS3) ?_
 refine wpO (i:=18) rfl fun KK hKK=>?_
 go_simp
 refine lN hKK ?_; clear hKK KK
 refine wpAnyD_done (by kernel_rfl) ?_ _
 exact hexit.out _ _ _ _ _ _ _ _ _ _ _ _ _ _ _ _ _ _ _ _ hM2 ((Chg.below _ hb2).trans hb6)
end
section
open Go.RowKit
structure FlB (R:OA) (w:World) (ao:OA) (n cap:Nat) (css:List (List Value)):Prop extends Fl 11 w ao n cap css where
 loc:∀ b o,ao=some ⟨b,o,none⟩->∃ o',R=some ⟨b,o',none⟩
theorem from_loc (syms:Nat) (N:Au) (hs:Ss N.arcs) (iv fv:Value) (ro:OA) (hro:ro=none\/∃ b,ro=some ⟨b,0,none⟩) (nr cr:Nat) (vo:OA) (cv:Nat) (q:Nat) (hq:q<N.st) (hst:N.st<=64) (hn:nr<=4096) (w:World) (hf:Fl 11 w ro nr cr (N.arcs.map acC)) (hv:Rd w vo (N.st+1) cv (fB N.arcs)) :
  Calls Tryz.prog 68 #[.agg (viC syms N.st iv fv (.slice ro nr cr) (.slice vo (N.st+1) cv)).toArray,.int .i64 (q:Int)] w fun e w' =>
   (∃ ro' n' c',e=.returned (.slice ro' n' c')/\FlB ro w' ro' n' c' ((N.arcs.filter fun x=>decide (x.1=q)).map acC))/\Below w.heap.size w w':=by
 have hl:=hf.lenMap
 have hseg:=from_seg hs q
 have h01:=cB_mono N.arcs q
 have h1n:cB N.arcs (q+1)<=nr:=by rw [<-hl]; exact cB_le _ _
 obtain ⟨vb,vp,rfl,hc0⟩:=hv.get (j:=q) (by omega)
 obtain ⟨vb',vp',e1,hc1⟩:=hv.get (j:=q+1) (by omega)
 injection e1 with e1
 injection e1 with e1 e2
 subst e1 e2
 cases ro with
 | none =>
  have hcr:=hf.nil rfl
  have hnr:nr=0:=by have:=hf.le; omega
  subst hnr
  subst hcr
  have hN:N.arcs=[]:=List.eq_nil_of_length_eq_zero hl
  have z0:fB N.arcs q=.int .i64 ((0:Nat):Int):=by rw [hN]; rfl
  have z1:fB N.arcs (q+1)=.int .i64 ((0:Nat):Int):=by rw [hN]; rfl
  rw [z0] at hc0
  rw [z1] at hc1
  refine (from_none syms N.st iv fv vb vp cv q hq hst w hc0 hc1).mono ?_
  rintro e w' ⟨rfl,hb⟩
  refine ⟨⟨none,0,0,rfl,?_⟩,hb⟩
  rw [hN]; exact ⟨Fl.none_ 11 w',fun _ _ e=>by cases e⟩
 | some ad =>
  obtain ⟨b,rfl⟩:∃ b,ad=⟨b,0,none⟩:=by
   rcases hro with h | ⟨b,h⟩
   ·cases h
   ·injection h with h; exact ⟨b,h⟩
  have hnc:=hf.le
  by_cases hlt:cB N.arcs q<cr
  ·refine (from_lt syms N.st iv fv b 0 nr cr hnc hnc vb vp cv q _ _ hq h01 h1n hlt hst w hc0 hc1).mono ?_
   rintro e w' ⟨rfl,hb⟩
   refine ⟨⟨_,_,_,rfl,?_⟩,hb⟩
   have h2:=(hf.next hb).slice h01 h1n
   rw [<-List.map_take,<-List.map_drop,hseg] at h2
   exact ⟨h2,fun b' o' e=>by cases e; exact ⟨_,rfl⟩⟩
  ·obtain rfl:nr=cr:=by omega
   have e0:cB N.arcs q=nr:=by omega
   have e1:cB N.arcs (q+1)=nr:=by omega
   have z0:fB N.arcs q=.int .i64 (nr:Int):=by unfold fB; rw [e0]
   have z1:fB N.arcs (q+1)=.int .i64 (nr:Int):=by unfold fB; rw [e1]
   rw [z0] at hc0
   rw [z1] at hc1
   refine (from_eq syms N.st iv fv b 0 nr hn vb vp cv q hq hst w hc0 hc1).mono ?_
   rintro e w' ⟨rfl,hb⟩
   refine ⟨⟨_,_,_,rfl,?_⟩,hb⟩
   have h2:(N.arcs.filter fun x=>decide (x.1=q))=[]:=by
    rw [<-hseg,e0,e1]
    exact List.drop_eq_nil_of_le (by rw [List.length_take]; omega)
   rw [h2]
   exact ⟨⟨rfl,Nat.le_refl _,by simp [maxLen],(fun e=>by cases e),fun i cs h=>by cases h⟩,fun b' o' e=>by cases e; exact ⟨_,rfl⟩⟩
theorem step_loc (syms:Nat) (N:Au) (hs:Ss N.arcs) (iv fv:Value) (ro:OA) (hro:ro=none\/∃ b,ro=some ⟨b,0,none⟩) (nr cr:Nat) (vo:OA) (cv:Nat) (q l:Nat) (hq:q<N.st) (hst:N.st<=64) (hn:nr<=4096) (w:World) (hf:Fl 11 w ro nr cr (N.arcs.map acC)) (hv:Rd w vo (N.st+1) cv (fB N.arcs)) :
  Calls Tryz.prog 32 #[.agg (viC syms N.st iv fv (.slice ro nr cr) (.slice vo (N.st+1) cv)).toArray,.int .i64 (q:Int),.int .i64 (l:Int)] w fun e w' =>
   (∃ ro' n' c',e=.returned (.slice ro' n' c')/\FlB ro w' ro' n' c' ((stp N.arcs q l).map acC))/\Below w.heap.size w w':=by
 have hup:=hid (upL_from hs q)
 have hb0:Below w.heap.size w (w.alloc (.cells (viC syms N.st iv fv (.slice ro nr cr) (.slice vo (N.st+1) cv)).toArray 63)):=below_alloc _
 have hG:=Bl.fresh w (viC syms N.st iv fv (.slice ro nr cr) (.slice vo (N.st+1) cv)) 63
 have hfrom:=hid (from_loc syms N hs iv fv ro hro nr cr vo cv q hq hst hn _ (hf.next hb0) (hv.next hb0))
 rw [<-stp_eq]
 obtain ⟨F,hF⟩:∃ F,(N.arcs.filter fun x=>decide (x.1=q))=F:=⟨_,rfl⟩
 rw [hF] at hup hfrom ⊢
 have hFl:F.length<=4096:=by
  have h1:=hf.lenMap
  have h2:=List.length_filter_le (fun x=>decide (x.1=q)) N.arcs
  rw [hF] at h2; omega
 clear hf hv hro hF hs
 have hGc:=hG.cs
 go_enter Tryz.func32,Tryz.ntmps32
 go_upto_region 1 with fail
 generalize (w.alloc (.cells (viC syms N.st iv fv (.slice ro nr cr) (.slice vo (N.st+1) cv)).toArray 63))=W0 at *
 go_wp2_with ((with_reducible refine wp_loadView rfl _ rfl w.heap.size 0 ?_ (viC syms N.st iv fv (.slice ro nr cr) (.slice vo (N.st+1) cv)) rfl hGc ?_); exact rfl)
 refine hfrom.out.mono ?_; rintro e w1 ⟨⟨a1,n1,c1,rfl,hf1⟩,hb1⟩
 have hb1:=below_chain hb0 hb1
 have hf1:=hid hf1
 clear hG hGc hb0 hfrom
 go_wp2_with fail
 go_loopw [7] (fun sv wr=>∃ (ao:OA) (n c:Nat) (P G:List Ac),sv=.slice ao n c/\Hid (FlB ro w1 ao n c (G.map acC))/\Hid (F=P++G/\∀ x∈P,x.2.1<l)/\n<=4096/\G.length=n/\wr=w1) (fun sv _=>match sv with | .slice _ n _=>n | _=>0)
 case atStart=>exact ⟨a1,n1,c1,[],F,rfl,hf1,hid ⟨rfl,fun x hx=>by cases hx⟩,by have:=hf1.out.lenMap; omega,hf1.out.lenMap,rfl⟩
 case round =>
  obtain ⟨ao,n,c,P,G,rfl,hfG,hPG,hn4,hGn,rfl⟩:=hrel
  have hn0:(0:Int)<=(n:Int):=by omega
  by_cases hx:∃ x r,G=x::r/\x.2.1<l
  ·obtain ⟨x,r,rfl,hxl⟩:=hx
   obtain ⟨b,o,rfl,hcs⟩:=hfG.out.at_ 0 (acC x) rfl
   rw [Nat.zero_mul,Nat.add_zero] at hcs
   have c1:wr.cell? ⟨b,o+1,none⟩=some (.int .i64 (x.2.1:Int)):=hcs 1 _ rfl
   have hnp:0<n:=by rw [<-hGn]; simp
   have k1:(0:Int)<(n:Int):=by omega
   have k2:decide ((0:Int)<(n:Int))=true:=decide_eq_true k1
   have k3:(x.2.1:Int)<(l:Int):=by omega
   have k4:decide ((x.2.1:Int)<(l:Int))=true:=decide_eq_true k3
   have k5:(1:Int)<=(n:Int):=by omega
   have hnc:=hfG.out.le
   have k6:(1:Int)<=(c:Int):=by omega
   have ht:Hid (FlB ro _ _ _ _ _):=hid ⟨hfG.out.tail,fun b' o' e=>by obtain ⟨o2,h2⟩:=hfG.out.loc _ _ rfl; cases e; exact ⟨o2,h2⟩⟩
   have hPG2:Hid (F=(P++[x])++r/\∀ y∈P++[x],y.2.1<l):=hid ⟨by rw [hPG.out.1]; simp,fun y hy=>by
    rcases List.mem_append.1 hy with hy | hy
    ·exact hPG.out.2 y hy
    ·rw [List.mem_singleton.1 hy]; exact hxl⟩
   have hGn2:r.length=n-1:=by rw [<-hGn]; simp
   by_cases hc1:c=1
   ·subst hc1
    obtain rfl:n=1:=by omega
    have hr:r=[]:=List.eq_nil_of_length_eq_zero (by omega)
    subst hr
    go_wp2_with fail
    go_roundw
    case rel=>exact ⟨_,_,_,P++[x],[],rfl,hid ⟨⟨rfl,Nat.le_refl _,by simp [maxLen],(fun e=>by cases e),fun i cs h=>by cases h⟩,fun b' o' e=>by obtain ⟨o2,h2⟩:=hfG.out.loc _ _ rfl; cases e; exact ⟨o2,h2⟩⟩,hPG2,by omega,rfl,by trivial⟩
    case measure=>simp
   ·have k7:1<c:=by omega
    have k8:¬ c=1:=hc1
    go_wp2_with fail
    go_roundw
    case rel=>exact ⟨_,_,_,P++[x],r,rfl,ht,hPG2,by omega,hGn2,by trivial⟩
    case measure=>simp; omega
  ·have hup2:=hup.out
   rw [hPG.out.1] at hup2
   have hge:Hid (∀ y∈G,l<=y.2.1):=hid (by
    cases G with
    | nil=>intro y h; cases h
    | cons x r =>
     have hxl:¬ x.2.1<l:=fun h=>hx ⟨x,r,rfl,h⟩
     have h2:=(List.pairwise_append.1 hup2).2.1
     intro y hy
     rcases List.mem_cons.1 hy with rfl | hy
     ·omega
     ·have:=(List.pairwise_cons.1 h2).1 y hy; omega)
   have hupG:Hid (UpL G):=hid (List.pairwise_append.1 hup2).2.1
   have hcase:(n=0)\/(∃ (b o:Nat) (z:Nat),ao=some ⟨b,o,none⟩/\0<n/\wr.cell? ⟨b,o+1,none⟩=some (.int .i64 (z:Int))/\l<=z):=by
    cases G with
    | nil=>exact .inl (by simpa using hGn.symm)
    | cons x r =>
     obtain ⟨b,o,e,hcs⟩:=hfG.out.at_ 0 (acC x) rfl
     rw [Nat.zero_mul,Nat.add_zero] at hcs
     exact .inr ⟨b,o,x.2.1,e,by rw [<-hGn]; simp,hcs 1 _ rfl,hge.out x (by simp)⟩
   clear hup2 hx
   obtain ⟨wo,rfl⟩:∃ wo:World,wo=wr:=⟨_,rfl⟩
   rcases hcase with h0' | ⟨b,o,z,rfl,hnp,c1,hzl⟩
   ·have k1:¬ (0:Int)<(n:Int):=by omega
    have k2:decide ((0:Int)<(n:Int))=false:=decide_eq_false k1
    have h0:=hid h0'
    clear h0'
    go_upto_region 4 with fail
    clear k1 k2 h0
    go_wp2_with fail
    go_loopw [28] (fun iv wr=>∃ k:Nat,k<=n/\iv=.int .i64 (k:Int)/\Hid (∀ y∈G.take k,y.2.1=l)/\Below wo.heap.size wo wr) (fun iv _=>n-(intOf iv).toNat)
    case atStart=>exact ⟨0,by omega,rfl,hid (fun y hy=>by simp at hy),Below.refl _ _⟩
    case round =>
     obtain ⟨k,hk,rfl,hall,hb⟩:=hrel
     have hfr:=hid (hfG.out.next hb)
     by_cases hlt:k<n
     ·obtain ⟨x,hxk,b,off,hao,hcs⟩:=hfr.out.get hlt
      have i1:(k:Int)<(n:Int):=by omega
      have i0:(0:Int)<=(k:Int):=by omega
      have i2:(k:Int)<=(n:Int):=by omega
      have hfc:=hfr.out.le
      have i3:(k:Int)<=(c:Int):=by omega
      have hxge:=hge.out x (List.mem_of_getElem? hxk)
      have hbX:Below wr.heap.size wr (wr.alloc (.cells (acC x).toArray 54)):=below_alloc _
      have hX:=Bl.fresh wr (acC x) 54
      have z1:=hX.cell (i:=1) rfl
      have hres:=hid ((hfr.out.pre (j:=k) (by omega)).next hbX)
      have hb2:=hb.trans (hbX.mono hb.size)
      have Hxk:=hid hxk
      subst hao
      clear hxk hX
      by_cases hxl:x.2.1=l
      ·have e1:((x.2.1:Int) != (l:Int))=false:=by simp [hxl]
       have e2:(x.2.1:Int)=(l:Int):=by omega
       have hxl:=hid hxl
       go_wp2_with ((first | ((with_reducible refine wp_loadArc rfl _ rfl b (off+k*11) ?_ x hcs ?_); exact rfl) | ((with_reducible refine wp_storeVArc rfl _ _ rfl _ _ ?_ x ?_ ?_ ?_); exact rfl; exact rfl; exact rfl)))
       go_roundw
       case rel=>exact ⟨k+1,by omega,by go_num,hid (fun y hy=>by
        rw [List.take_succ_eq_append_getElem (List.getElem?_eq_some_iff.1 Hxk.out).1] at hy
        rcases List.mem_append.1 hy with hy | hy
        ·exact hall.out y hy
        ·rw [List.mem_singleton.1 hy,(List.getElem?_eq_some_iff.1 Hxk.out).2]; exact hxl.out),hb2⟩
       case measure=>simp [intOf]; omega
      ·have e1:((x.2.1:Int) != (l:Int))=true:=by simp; omega
       have e2:¬ (x.2.1:Int)=(l:Int):=by omega
       have hxl:=hid hxl
       go_wp2_with ((first | ((with_reducible refine wp_loadArc rfl _ rfl b (off+k*11) ?_ x hcs ?_); exact rfl) | ((with_reducible refine wp_storeVArc rfl _ _ rfl _ _ ?_ x ?_ ?_ ?_); exact rfl; exact rfl; exact rfl)))
       go_ret
       refine ⟨⟨_,_,_,rfl,?_⟩,below_chain hb1 hb2⟩
       rw [seg_filter (P:=P) (M:=G.take k) (R:=G.drop k) (by rw [hPG.out.1,List.append_assoc,List.take_append_drop]) hPG.out.2 hall.out (fun y hy=>by
        have hd:=List.drop_eq_getElem_cons (List.getElem?_eq_some_iff.1 Hxk.out).1
        rw [(List.getElem?_eq_some_iff.1 Hxk.out).2] at hd
        have hu:=hupG.out.drop (i:=k)
        rw [hd] at hu hy
        have hne:=hxl.out
        rcases List.mem_cons.1 hy with rfl | hy
        ·omega
        ·have:=(List.pairwise_cons.1 hu).1 y hy; omega),List.map_take]
       exact ⟨hres.out,hfG.out.loc⟩
     ·obtain rfl:k=n:=by omega
      have i1:¬ (k:Int)<(k:Int):=by omega
      have hres:=hid hfr
      go_wp2_with fail
      go_ret
      refine ⟨⟨_,_,_,rfl,?_⟩,below_chain hb1 hb⟩
      rw [seg_filter (P:=P) (M:=G) (R:=[]) (by rw [hPG.out.1]; simp) hPG.out.2 (fun y hy=>hall.out y (by rw [List.take_of_length_le (by omega)]; exact hy)) (fun y hy=>by cases hy)]
      exact ⟨hfr.out,hfG.out.loc⟩
   ·have k1:(0:Int)<(n:Int):=by omega
    have k2:decide ((0:Int)<(n:Int))=true:=decide_eq_true k1
    have k3:¬ (z:Int)<(l:Int):=by omega
    have k4:decide ((z:Int)<(l:Int))=false:=decide_eq_false k3
    go_upto_region 4 with fail
    clear k1 k2 k3 k4 c1
    go_wp2_with fail
    go_loopw [28] (fun iv wr=>∃ k:Nat,k<=n/\iv=.int .i64 (k:Int)/\Hid (∀ y∈G.take k,y.2.1=l)/\Below wo.heap.size wo wr) (fun iv _=>n-(intOf iv).toNat)
    case atStart=>exact ⟨0,by omega,rfl,hid (fun y hy=>by simp at hy),Below.refl _ _⟩
    case round =>
     obtain ⟨k,hk,rfl,hall,hb⟩:=hrel
     have hfr:=hid (hfG.out.next hb)
     by_cases hlt:k<n
     ·obtain ⟨x,hxk,b2,o2,hao,hcs⟩:=hfr.out.get hlt
      have i1:(k:Int)<(n:Int):=by omega
      have i0:(0:Int)<=(k:Int):=by omega
      have i2:(k:Int)<=(n:Int):=by omega
      have hfc:=hfr.out.le
      have i3:(k:Int)<=(c:Int):=by omega
      have hxge:=hge.out x (List.mem_of_getElem? hxk)
      have hbX:Below wr.heap.size wr (wr.alloc (.cells (acC x).toArray 54)):=below_alloc _
      have hX:=Bl.fresh wr (acC x) 54
      have z1:=hX.cell (i:=1) rfl
      have hres:=hid ((hfr.out.pre (j:=k) (by omega)).next hbX)
      have hb2:=hb.trans (hbX.mono hb.size)
      have Hxk:=hid hxk
      injection hao with hao; injection hao with hao1 hao2; subst hao1 hao2
      clear hxk hX
      by_cases hxl:x.2.1=l
      ·have e1:((x.2.1:Int) != (l:Int))=false:=by simp [hxl]
       have e2:(x.2.1:Int)=(l:Int):=by omega
       have hxl:=hid hxl
       go_wp2_with ((first | ((with_reducible refine wp_loadArc rfl _ rfl b (o+k*11) ?_ x hcs ?_); exact rfl) | ((with_reducible refine wp_storeVArc rfl _ _ rfl _ _ ?_ x ?_ ?_ ?_); exact rfl; exact rfl; exact rfl)))
       go_roundw
       case rel=>exact ⟨k+1,by omega,by go_num,hid (fun y hy=>by
        rw [List.take_succ_eq_append_getElem (List.getElem?_eq_some_iff.1 Hxk.out).1] at hy
        rcases List.mem_append.1 hy with hy | hy
        ·exact hall.out y hy
        ·rw [List.mem_singleton.1 hy,(List.getElem?_eq_some_iff.1 Hxk.out).2]; exact hxl.out),hb2⟩
       case measure=>simp [intOf]; omega
      ·have e1:((x.2.1:Int) != (l:Int))=true:=by simp; omega
       have e2:¬ (x.2.1:Int)=(l:Int):=by omega
       have hxl:=hid hxl
       go_wp2_with ((first | ((with_reducible refine wp_loadArc rfl _ rfl b (o+k*11) ?_ x hcs ?_); exact rfl) | ((with_reducible refine wp_storeVArc rfl _ _ rfl _ _ ?_ x ?_ ?_ ?_); exact rfl; exact rfl; exact rfl)))
       go_ret
       refine ⟨⟨_,_,_,rfl,?_⟩,below_chain hb1 hb2⟩
       rw [seg_filter (P:=P) (M:=G.take k) (R:=G.drop k) (by rw [hPG.out.1,List.append_assoc,List.take_append_drop]) hPG.out.2 hall.out (fun y hy=>by
        have hd:=List.drop_eq_getElem_cons (List.getElem?_eq_some_iff.1 Hxk.out).1
        rw [(List.getElem?_eq_some_iff.1 Hxk.out).2] at hd
        have hu:=hupG.out.drop (i:=k)
        rw [hd] at hu hy
        have hne:=hxl.out
        rcases List.mem_cons.1 hy with rfl | hy
        ·omega
        ·have:=(List.pairwise_cons.1 hu).1 y hy; omega),List.map_take]
       exact ⟨hres.out,hfG.out.loc⟩
     ·obtain rfl:k=n:=by omega
      have i1:¬ (k:Int)<(k:Int):=by omega
      have hres:=hid hfr
      go_wp2_with fail
      go_ret
      refine ⟨⟨_,_,_,rfl,?_⟩,below_chain hb1 hb⟩
      rw [seg_filter (P:=P) (M:=G) (R:=[]) (by rw [hPG.out.1]; simp) hPG.out.2 (fun y hy=>hall.out y (by rw [List.take_of_length_le (by omega)]; exact hy)) (fun y hy=>by cases hy)]
      exact ⟨hfr.out,hfG.out.loc⟩
end
section
open Go.RowKit
theorem wp_storeBTw {ops:Array Oper} {rest:List Oper} {o:Oper} {a:Act} {w:World} {Q:EP} (hgd:o.guard=none) (x y:Operand) (ho:o.op=.store 45 x y)
  (G:Nat) (T:TypeId) (old:List Value) (hG:Bl G old T w) (hx:a.eval x=.pointer (some ⟨G,0,none⟩)) (v:Tw) (hk:old.length=8) (hy:a.eval y=.agg (twC v).toArray)
  (h:∀ w',Bl G (twC v) T w'->Fr (fun k=>k=G) w w'->wpList Tryz.prog ops Q rest (a.put o.dst undef) w'):wpList Tryz.prog ops Q (o::rest) a w :=
 wpList_plain hgd fun _ hK=>op_storeB _ x y ho G T old hG hx (twC v) (by rw [hk]; rfl) hy (twC_1 v) Tryz.sizeTw fun w' h2 h3=>hK _ _ (h w' h2 h3)
end
section
open Go.RowKit
def ArB (x:Ac):Prop:=x.1<=1000000/\x.2.1<=1000000/\x.2.2.1<=1000000
def At (K:List Ac) (x:Ac) (q:Nat):Prop:=q<=K.length/\(∀ j y,j<q->K[j]? = some y->klt (ky y) (ky x))/\∀ y,K[q]? = some y->¬ klt (ky y) (ky x)
end
section
open Go.RowKit
abbrev Pa:=Nat×Nat
inductive Rch (P:List Pa) (E:Nat->Bool):Nat->Prop
 | here {q:Nat} (h:E q=true):Rch P E q
 | step {p:Pa} (h:p∈P) (k:Rch P E p.1):Rch P E p.2
end
section
open Go.RowKit
def sgl (n:Nat) (F:Nat->Value):List (List Value):=(List.range n).map fun j=>[F j]
theorem sgl_flat (n:Nat) (F:Nat->Value):(sgl n F).flatten=fnl n F:=by
 unfold sgl fnl
 generalize List.range n=L
 induction L with
 | nil=>rfl
 | cons a r ih=>simp only [List.map_cons,List.flatten_cons,ih]; rfl
theorem sgl_len (n:Nat) (F:Nat->Value):(sgl n F).length=n:=by simp [sgl]
theorem Rw.fo {e:TypeId} {w:World} {base n:Nat} {v:Value} {F:Nat->Value} (h:Rw e w base v n F):FO e 1 w base v (sgl n F) :=
 ⟨by rw [sgl_len,sgl_flat]; exact h,fun cs hc=>by obtain ⟨j,_,rfl⟩:=List.mem_map.1 hc; rfl⟩
end
section
open Go.RowKit
theorem Cs.fr {T:Nat->Prop} {w w':World} {b o:Nat} {cs:List Value} (h:Cs w b o cs) (hf:Fr T w w') (hT:¬ T b):Cs w' b o cs:=fun c v hv=>hf.cell (h c v hv) hT
end
section
open Go.RowKit
theorem Om.states {w:World} {O syms n:Nat} {iv fv av:Value} {ini fin:List Tw} {arcs:List Ac} (h:Om w O syms n iv fv av ini fin arcs) (m:Nat):Om (w.setCell ⟨O,3,none⟩ (.int .i64 (m:Int))) O syms m iv fv av ini fin arcs:=by
 have hF:Fr (fun k=>k=O) w (w.setCell ⟨O,3,none⟩ (.int .i64 (m:Int))):=Fr.set (T:=fun k=>k=O) w (p:=⟨O,3,none⟩) rfl _
 exact ⟨h.blk.put 3 (.int .i64 (m:Int)),h.ini.fr hF (fun g hg e=>by have:=(h.ini.lt hg).1; omega),h.fin.fr hF (fun g hg e=>by have:=(h.fin.lt hg).1; omega),h.arcs.fr hF (fun g hg e=>by have:=(h.arcs.lt hg).1; omega),h.ne⟩
end
section
open Go.RowKit
def ModOut (syms:Nat) (B:Au) (w:World) (v:Value) (w':World):Prop:=∃ (io:OA) (ci:Nat) (fo:OA) (cf:Nat) (ro:OA) (nr cr:Nat),v=.agg (auC syms B.st (.slice io B.st ci) (.slice fo B.st cf) (.slice ro nr cr)).toArray/\MoF w' w.heap.size B io ci fo cf ro nr cr/\Below w.heap.size w w'
end
section
open Go.RowKit
theorem nf_bounds {syms:Nat} {A:Au} (hV:Vo syms A) {K:List Ac} (hK:Nf K A.arcs):∀ x∈K.filter nz,x.1<A.st/\x.2.2.1<A.st:=fun x hx=>by
 obtain ⟨⟨z,hz,hk,_⟩,_⟩:=hK.2.1 x (List.mem_filter.1 hx).1
 have h1:=hV.arcs z hz
 have h2:z.1=x.1:=congrArg (fun q:Ky=>q.1) hk
 have h3:z.2.2.1=x.2.2.1:=congrArg (fun q:Ky=>q.2.2) hk
 rw [<-h2,<-h3]; exact ⟨h1.1,h1.2.1⟩
end
end Go.Proofs.YtnapapijhhldpaaGreatDoor

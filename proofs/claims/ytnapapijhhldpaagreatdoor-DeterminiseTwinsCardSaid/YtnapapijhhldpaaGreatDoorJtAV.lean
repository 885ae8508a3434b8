/-
  Texts joined by program: Txe, Tsf, Tsi, Tsl, Tsr, Tua, Tta. No condition of its own.
-/
import Derived.Test.YtnapapijhhldpaaGreatDoorJtAU
namespace Go.Proofs.YtnapapijhhldpaaGreatDoor
set_option linter.unusedSimpArgs false
set_option linter.unusedVariables false
set_option maxRecDepth 100000
set_option maxHeartbeats 4000000
section
open Go.RowKit
abbrev riF (Pb Kb Hb Sb Rb:Nat):Value:=.func (.func 85) #[] #[.pointer (some ⟨Pb,0,none⟩),.pointer (some ⟨Kb,0,none⟩),.pointer (some ⟨Hb,0,none⟩),.pointer (some ⟨Sb,0,none⟩),.pointer (some ⟨Rb,0,none⟩)]
def fPt (p:Pts) (j:Nat):Value:=.int .i64 ((p.pt j:Nat):Int)
def fHt (p:Pts) (j:Nat):Value:=.int .i64 (p.ht j)
structure RsM (w:World) (base G nn syms st:Nat) (iv fv rv vv ev:Value) (S:Sqr) (fb tb sb:Nat) (ov:Value) (F T:Nat->Value) (Pb Kb Hb Sb Rb pg hg:Nat) (K:Nat) (p:Pts):Prop where
 sq:SqM w base G nn syms st iv fv rv vv ev S fb tb sb ov F T
 pb:Bl Pb [rwV pg nn] 22 w
 kb:Bl Kb [.int .i64 (K:Int)] 3 w
 hb:Bl Hb [rwV hg nn] 22 w
 sbk:Bl Sb [.pointer (some ⟨G,0,none⟩)] 101 w
 rb:Bl Rb [riF Pb Kb Hb Sb Rb] 71 w
 part:Rw 3 w base (rwV pg nn) nn (fPt p)
 hght:Rw 3 w base (rwV hg nn) nn (fHt p)
 ne:pg≠hg
 kn:Kb≠pg/\Kb≠hg
 sep:∀ g,SqB G nn fb tb sb ov F T g->g≠pg/\g≠hg
abbrev PH (pg hg:Nat) (b:Nat):Prop:=b=pg\/b=hg
section
variable {base G nn syms st:Nat} {iv fv rv vv ev:Value} {S:Sqr} {fb tb sb:Nat} {ov:Value} {F T:Nat->Value} {Pb Kb Hb Sb Rb pg hg:Nat} {K:Nat} {p:Pts} {w w':World}
theorem SqM.keep {T':Nat->Prop} (h:SqM w base G nn syms st iv fv rv vv ev S fb tb sb ov F T) (hf:Fr T' w w') (hT:∀ g,SqB G nn fb tb sb ov F T g->¬ T' g):SqM w' base G nn syms st iv fv rv vv ev S fb tb sb ov F T :=
 ⟨h.blk.fr hf (hT _ (.inl rfl)),h.hG,h.fr.fr hf fun g hg=>hT g (.inr (.inr (.inl hg))),h.tor.fr hf fun g hg=>hT g (.inr (.inr (.inr (.inl hg)))),h.seen.fr hf fun g hg=>hT g (.inr (.inl (by cases hg; rfl))),h.ord.fr hf fun g hg=>hT g (.inr (.inr (.inr (.inr hg)))),h.off⟩
theorem RsM.off (h:RsM w base G nn syms st iv fv rv vv ev S fb tb sb ov F T Pb Kb Hb Sb Rb pg hg K p):(∀ X cs Ty,Bl X cs Ty w->Ty≠3->¬ PH pg hg X):=fun X cs Ty hX hT e=>by
 rcases e with rfl | rfl
 ·exact bl_ne hX h.part hT rfl
 ·exact bl_ne hX h.hght hT rfl
theorem RsM.to {q:Pts} (h:RsM w base G nn syms st iv fv rv vv ev S fb tb sb ov F T Pb Kb Hb Sb Rb pg hg K p) (hf:Fr (PH pg hg) w w') (hp:Rw 3 w' base (rwV pg nn) nn (fPt q)) (hh:Rw 3 w' base (rwV hg nn) nn (fHt q)):RsM w' base G nn syms st iv fv rv vv ev S fb tb sb ov F T Pb Kb Hb Sb Rb pg hg K q :=
 ⟨h.sq.keep hf fun g hg e=>(h.sep g hg).elim fun a b=>e.elim a b,h.pb.fr hf (h.off _ _ _ h.pb (by decide)),h.kb.fr hf (fun e=>e.elim h.kn.1 h.kn.2),h.hb.fr hf (h.off _ _ _ h.hb (by decide)),h.sbk.fr hf (h.off _ _ _ h.sbk (by decide)),h.rb.fr hf (h.off _ _ _ h.rb (by decide)),hp,hh,h.ne,h.kn,h.sep⟩
theorem RsM.next (h:RsM w base G nn syms st iv fv rv vv ev S fb tb sb ov F T Pb Kb Hb Sb Rb pg hg K p) (hb:Below w.heap.size w w'):RsM w' base G nn syms st iv fv rv vv ev S fb tb sb ov F T Pb Kb Hb Sb Rb pg hg K p:=h.to (below_fr hb _) (h.part.next hb) (h.hght.next hb)
theorem RsM.set (h:RsM w base G nn syms st iv fv rv vv ev S fb tb sb ov F T Pb Kb Hb Sb Rb pg hg K p) (i:Nat) (a:Int):RsM ((w.setCell ⟨pg,i,none⟩ (.int .i64 (K:Int))).setCell ⟨hg,i,none⟩ (.int .i64 a)) base G nn syms st iv fv rv vv ev S fb tb sb ov F T Pb Kb Hb Sb Rb pg hg K (p.set i K a)/\Fr (PH pg hg) w ((w.setCell ⟨pg,i,none⟩ (.int .i64 (K:Int))).setCell ⟨hg,i,none⟩ (.int .i64 a)):=by
 have f1:Fr (PH pg hg) w (w.setCell ⟨pg,i,none⟩ (.int .i64 (K:Int))):=Fr.set w (T:=PH pg hg) (p:=⟨pg,i,none⟩) (.inl rfl) _
 have f2:Fr (PH pg hg) (w.setCell ⟨pg,i,none⟩ (.int .i64 (K:Int))) ((w.setCell ⟨pg,i,none⟩ (.int .i64 (K:Int))).setCell ⟨hg,i,none⟩ (.int .i64 a)):=Fr.set _ (T:=PH pg hg) (p:=⟨hg,i,none⟩) (.inr rfl) _
 refine ⟨h.to (f1.trans f2) ?_ ?_,f1.trans f2⟩
 ·have h1:=(h.part.put i (.int .i64 (K:Int))).congr (G:=fPt (p.set i K a)) fun j _=>by
   unfold updF fPt Pts.set updN
   simp only
   split<;>rfl
  exact h1.fr (Fr.set _ (T:=fun b=>b=hg) (p:=⟨hg,i,none⟩) rfl _) fun g hg' e=>h.ne (by cases hg'; exact e)
 ·have h1:=(h.hght.fr (Fr.set w (T:=fun b=>b=pg) (p:=⟨pg,i,none⟩) rfl (.int .i64 (K:Int))) fun g hg' e=>h.ne (by cases hg'; exact e.symm)).put i (.int .i64 a)
  exact h1.congr (G:=fHt (p.set i K a)) fun j _=>by
   unfold updF fHt Pts.set updI
   simp only
   split<;>rfl
end
structure MvK (nn C:Nat) (S:Sqr):Prop where
 lt:∀ i m,m∈S.tor i->m.1<nn/\m.2.natAbs<=C
 big:nn<=4096/\C<=1048576
def RiO (base G nn syms st:Nat) (iv fv rv vv ev:Value) (S:Sqr) (fb tb sb:Nat) (ov:Value) (F T:Nat->Value) (Pb Kb Hb Sb Rb pg hg:Nat) (K B:Nat) (gray:List Nat) (i:Nat) (a:Int) (p:Pts) (w:World) (e:Ending) (w':World):Prop :=
 ∃ q:Pts,e=.returned (.tuple #[])/\RsM w' base G nn syms st iv fv rv vv ev S fb tb sb ov F T Pb Kb Hb Sb Rb pg hg K q/\Rose S gray K B i a p q/\Fr (PH pg hg) w w'
theorem rise_any (base G nn syms st:Nat) (iv fv rv vv ev:Value) (S:Sqr) (fb tb sb:Nat) (ov:Value) (F T:Nat->Value) (Pb Kb Hb Sb Rb pg hg:Nat) (K:Nat) (hK:K≠0) (hKm:K<=1000000) (hMv:MvK nn 1048576 S) :
  ∀ (u:Nat) (gray:List Nat) (i:Nat) (a:Int) (p:Pts) (w:World),cZ p nn<=u->RsM w base G nn syms st iv fv rv vv ev S fb tb sb ov F T Pb Kb Hb Sb Rb pg hg K p->Shut S gray p->HtB (1048576*(nn+1)) p->i<nn->a.natAbs<=1048576*(nn-cZ p nn) ->
  Calls Tryz.prog 85 #[.int .i64 (i:Int),.int .i64 a,.pointer (some ⟨Pb,0,none⟩),.pointer (some ⟨Kb,0,none⟩),.pointer (some ⟨Hb,0,none⟩),.pointer (some ⟨Sb,0,none⟩),.pointer (some ⟨Rb,0,none⟩)] w (RiO base G nn syms st iv fv rv vv ev S fb tb sb ov F T Pb Kb Hb Sb Rb pg hg K (1048576*(nn+1)) gray i a p w):=by
 intro u
 induction u using Nat.strongRecOn with
 | _ u ih =>
 intro gray i a p w hu h hsh hB hi ha
 have i1:(i:Int)<(nn:Int):=by omega
 have i0:(0:Int)<=(i:Int):=by omega
 have y0:=h.pb.cell (i:=0) rfl
 have z1:w.cell? ⟨pg,i,none⟩=some (.int .i64 ((p.pt i:Nat):Int)):=h.part.cell hi
 by_cases hz:p.pt i=0
 ·rw [hz] at z1
  have hn:=hMv.big.1
  have hcz:cZ p nn<=nn:=by unfold cZ; exact Nat.le_trans (List.length_filter_le _ _) (by simp)
  have hab:a.natAbs<=1048576*(nn+1):=by omega
  have hst:=hid (Ros.start (K:=K) hsh hB hz hK hab)
  have hc1:=hid (cZ_set (m:=nn) (x:=K) (h:=a) hi hz hK)
  have hu:=hid hu
  have ha:=hid ha
  obtain ⟨ao,ca,hTi,-, -⟩:=(h.sq.tor.el i hi).fl
  obtain ⟨nt,hnt⟩:∃ nt,((S.tor i).map mvC).length=nt:=⟨_,rfl⟩
  rw [hnt] at hTi
  have hnt2:(S.tor i).length=nt:=by rw [<-hnt,List.length_map]
  have hntb:=hid (fl_of (by have:=h.sq.tor.el i hi; rw [hTi] at this; exact this) hnt).bound
  have hTi:=hid hTi
  have hnt:=hid hnt
  have hnt2:=hid hnt2
  have hdr:=(Below.refl w.heap.size w).drew
  have h1:=h.next hdr
  have hfd:=hid (below_fr hdr (PH pg hg))
  have hz:=hid hz
  clear hcz hab
  go_enter Tryz.func85,Tryz.ntmps85
  go_upto_region 1 with fail
  clear y0 z1
  clear hdr
  have hS:w.drew.cell? ⟨Pb,0,none⟩=some (rwV pg nn)/\w.drew.cell? ⟨Hb,0,none⟩=some (rwV hg nn)/\w.drew.cell? ⟨Kb,0,none⟩=some (.int .i64 (K:Int)):=⟨h1.pb.cell (i:=0) rfl,h1.hb.cell (i:=0) rfl,h1.kb.cell (i:=0) rfl⟩
  have z1:w.drew.cell? ⟨pg,i,none⟩=some (.int .i64 ((p.pt i:Nat):Int)):=h1.part.cell hi
  have z2:=h1.part.free i
  have z3:w.drew.cell? ⟨hg,i,none⟩=some (.int .i64 (p.ht i)):=h1.hght.cell hi
  have z4:=h1.hght.free i
  obtain ⟨h2',f2'⟩:=h.set i a
  obtain ⟨w9,hw9⟩:∃ z,(w.setCell ⟨pg,i,none⟩ (.int .i64 (K:Int))).setCell ⟨hg,i,none⟩ (.int .i64 a)=z:=⟨_,rfl⟩
  rw [hw9] at h2' f2'
  have hdr2:=(Below.refl w9.heap.size w9).drew
  have h2:=h2'.next hdr2
  have hf20:=hid (f2'.trans (below_fr hdr2 (PH pg hg)))
  have z7:(w.setCell ⟨pg,i,none⟩ (.int .i64 (K:Int))).cell? ⟨hg,i,none⟩=some (.int .i64 (p.ht i)):=(Fr.set w (T:=fun b=>b=pg) (p:=⟨pg,i,none⟩) rfl _).cell (h.hght.cell hi) fun e=>h.ne e.symm
  have z8:=h.hght.free i
  clear h2' f2' hdr2
  subst hw9
  have hf1:Fr (PH pg hg) w.drew (w.drew.setCell ⟨pg,i,none⟩ (.int .i64 (K:Int))):=Fr.set w.drew (T:=PH pg hg) (p:=⟨pg,i,none⟩) (.inl rfl) _
  have hS2:(w.drew.setCell ⟨pg,i,none⟩ (.int .i64 (K:Int))).cell? ⟨Pb,0,none⟩=some (rwV pg nn)/\(w.drew.setCell ⟨pg,i,none⟩ (.int .i64 (K:Int))).cell? ⟨Hb,0,none⟩=some (rwV hg nn)/\(w.drew.setCell ⟨pg,i,none⟩ (.int .i64 (K:Int))).cell? ⟨Kb,0,none⟩=some (.int .i64 (K:Int)) :=
   ⟨hf1.cell hS.1 (h1.off _ _ _ h1.pb (by decide)),hf1.cell hS.2.1 (h1.off _ _ _ h1.hb (by decide)),hf1.cell hS.2.2 fun e=>e.elim h1.kn.1 h1.kn.2⟩
  have z5:(w.drew.setCell ⟨pg,i,none⟩ (.int .i64 (K:Int))).cell? ⟨hg,i,none⟩=some (.int .i64 (p.ht i)):=(Fr.set w.drew (T:=fun b=>b=pg) (p:=⟨pg,i,none⟩) rfl _).cell z3 fun e=>h1.ne e.symm
  have z6:=(h1.hght.fr (Fr.set w.drew (T:=fun b=>b=pg) (p:=⟨pg,i,none⟩) rfl (.int .i64 (K:Int))) fun g hg' e=>h1.ne (by cases hg'; exact e.symm)).free i
  obtain ⟨pi,hpi⟩:∃ z,((p.pt i:Nat):Int)=z:=⟨_,rfl⟩
  obtain ⟨hti,hhi⟩:∃ z,p.ht i=z:=⟨_,rfl⟩
  rw [hpi] at z1
  rw [hhi] at z3 z5 z7
  clear hpi hhi hf1 h h1
  refine wp_region_D (fun w'=>w'.cell? ⟨Pb,0,none⟩=some (rwV pg nn)/\w'.cell? ⟨Hb,0,none⟩=some (rwV hg nn)/\w'.cell? ⟨Kb,0,none⟩=some (.int .i64 (K:Int))) [9] (by kernel_rfl) ?_
  refine tkAl 0 (some 16) (v:=?_) rfl rfl ?_ hS ?_
  rotate_left
  ·intro wz hw; refine exec_load1 Pb 0 ?_ (rwV pg nn) hw.1 _ Tryz.underlying22 (by rfl); go_simp
  refine tkAp 1 (some 17) rfl rfl hS ?_
  refine tkAl 2 (some 18) (v:=?_) rfl rfl ?_ hS ?_
  rotate_left
  ·intro wz hw; refine exec_load1 Hb 0 ?_ (rwV hg nn) hw.2.1 _ Tryz.underlying22 (by rfl); go_simp
  refine tkAp 3 (some 19) rfl rfl hS ?_
  refine tkAl 4 (some 20) (v:=?_) rfl rfl ?_ hS ?_
  rotate_left
  ·intro wz hw; refine exec_loadI Kb 0 ?_ (.int .i64 (K:Int)) hw.2.2; go_simp
  refine tkAp 5 (some 21) rfl rfl hS ?_
  refine tkAp 6 (some 22) rfl rfl hS ?_
  go_simp
  refine wpO (i:=7) rfl fun KK hKK=>?_
  go_simp
  refine hKK _ _ ⟨fun _=>(hS2),?_⟩; clear hKK KK
  refine tkAp 8 (some 23) rfl rfl (hS2) ?_
  refine wpO (i:=9) rfl fun KK hKK=>?_
  go_simp
  refine lN hKK ?_; clear hKK KK
  refine wpAnyD_done (by kernel_rfl) ?_ _
  clear z1 z2 z3 z4 z5 z6 z7 z8 hS hS2
  generalize hWe:((w.setCell ⟨pg,i,none⟩ (.int .i64 (K:Int))).setCell ⟨hg,i,none⟩ (.int .i64 a)).drew=w2 at *
  clear hWe
  have x0:=h2.sbk.cell (i:=0) rfl
  have x1:=h2.sq.blk.cell (i:=10) rfl
  have x2:=h2.sq.tor.row.cell hi
  rw [hTi.out] at x2
  have h2:=hid h2
  go_wp2_with fail
  clear x0 x1 x2
  go_loopw [32] (fun kv wr=>∃ (k:Nat) (q:Pts),k<=nt/\kv=.int .i64 (k:Int)/\Hid (RsM wr base G nn syms st iv fv rv vv ev S fb tb sb ov F T Pb Kb Hb Sb Rb pg hg K q)/\Hid (Ros S gray K (1048576*(nn+1)) i a p q k)/\Hid (cZ q nn<=cZ (p.set i K a) nn)/\Hid (Fr (PH pg hg) w wr)) (fun kv _=>nt-(intOf kv).toNat)
  case atStart=>exact ⟨0,p.set i K a,Nat.zero_le _,rfl,h2,hst,hid (Nat.le_refl _),hf20⟩
  case round =>
   clear h2 hst hf20
   obtain ⟨k,q,hk,rfl,hR,hro,hcz,hf⟩:=hrel
   by_cases hlt:k<nt
   ·have k1:(k:Int)<(nt:Int):=by omega
    have k0:(0:Int)<=(k:Int):=by omega
    have hfl:Fl 2 wr ao nt ca ((S.tor i).map mvC):=fl_of (by have:=hR.out.sq.tor.el i hi; rw [hTi.out] at this; exact this) hnt.out
    obtain ⟨m,hmk,bm,om,hao,hcm⟩:=hfl.get hlt
    obtain ⟨hm1,hm2⟩:=hMv.lt i m (List.mem_of_getElem? hmk)
    have hmk:=hid hmk
    have hbM:Below wr.heap.size wr (wr.alloc (.cells #[.int .i64 (m.1:Int),.int .i64 m.2] 136)):=below_alloc _
    have hX:=Bl.fresh wr [.int .i64 (m.1:Int),.int .i64 m.2] 136
    have hR2:=hid (hR.out.next hbM)
    have hf2:=hid (hf.out.trans (below_fr hbM (PH pg hg)))
    subst hao
    have c0:wr.cell? ⟨bm,om+k*2,none⟩=some (.int .i64 (m.1:Int)):=hcm 0 _ rfl
    have c1:wr.cell? ⟨bm,om+k*2+1,none⟩=some (.int .i64 m.2):=hcm 1 _ rfl
    clear hfl hcm hR hf
    have hXa:=hX.cell (i:=0) rfl
    have hXb:=hX.cell (i:=1) rfl
    have r6:=hR2.out.rb.cell (i:=0) rfl
    have hBq:=hro.out.bnd
    have hzq:=hid (show (a-m.2).natAbs<=1048576*(nn-cZ q nn) by
     have a1:=ha.out
     have a2:=hc1.out
     have a3:=hcz.out
     have a4:cZ p nn<=nn:=by unfold cZ; exact Nat.le_trans (List.length_filter_le _ _) (by simp)
     omega)
    have hw1:IntKind.i64.wrap (a-m.2)=a-m.2:=by
     have a1:=ha.out
     rw [IntKind.wrap_i64]; omega
    have hsq:=hro.out.shut
    have hih:=hid (ih (cZ q nn) (by have:=hc1.out; have:=hcz.out; have:=hu.out; omega) (i::gray) m.1 (a-m.2) q _ (Nat.le_refl _) hR2.out hsq hBq hm1 hzq.out)
    replace hBq:=hid hBq
    replace hsq:=hid hsq
    obtain ⟨am,ham⟩:∃ am:Int,a-m.2=am:=⟨_,rfl⟩
    rw [ham] at hih hw1
    clear hm2 hm1 hzq
    go_upto_region 5 with fail
    go_wp2_with fail
    go_at_call 85
    refine hih.out.mono ?_; rintro e w4 ⟨q',rfl,hR4,hr4,hf4⟩
    have hro4:=hid (hro.out.step hmk.out (by rw [ham]; exact hr4))
    have hcz4:=hid (Nat.le_trans (cZ_mono (m:=nn) (p:=q) (q:=q') fun j hj=>by rw [hr4.keep j hj]; exact hj) hcz.out)
    have hf40:=hid (hf2.out.trans hf4)
    replace hR4:=hid hR4
    clear hih hro hcz hf2 hf4 hr4 hR2 hX hXa hXb c0 c1 r6
    have hnb:=hntb.out
    go_wp2_with fail
    go_roundw
    case rel=>exact ⟨k+1,q',by omega,by go_num,hR4,hro4,hcz4,hf40⟩
    case measure=>simp [intOf]; omega
   ·obtain rfl:k=nt:=by omega
    have k1:¬ (k:Int)<(k:Int):=by omega
    go_wp2_with fail
    go_end0
    exact ⟨q,rfl,hR.out,hro.out.fin hnt2.out.symm,hf.out⟩
 ·have hout:RiO base G nn syms st iv fv rv vv ev S fb tb sb ov F T Pb Kb Hb Sb Rb pg hg K (1048576*(nn+1)) gray i a p w (.returned (.tuple #[])) w:=⟨p,rfl,h,Rose.old hsh hB hz,Fr.refl _ _⟩
  have k1:¬ ((p.pt i:Nat):Int)=0:=by omega
  obtain ⟨pi,hpi⟩:∃ z,((p.pt i:Nat):Int)=z:=⟨_,rfl⟩
  rw [hpi] at z1 k1
  clear h hsh hB ha hz hu ih hpi
  go_enter Tryz.func85,Tryz.ntmps85
  go_wp2_with fail
  go_end0
  exact hout
end
section
open Go.RowKit
structure Ls (w:World) (O:Nat) (lv:Value) (vs:List (Value×Value)) (subs:List Vx):Prop where
 row:FO 84 2 w (O+1) lv (vs.map fun p=>[p.1,p.2])
 num:vs.length=subs.length
 lie:∀ (i:Nat) (S:Vx) (p:Value×Value),subs[i]? = some S->vs[i]? = some p->Sq w (O+1) p.1 p.2 (sup S)
section
variable {w w':World} {O:Nat} {lv:Value} {vs:List (Value×Value)} {subs:List Vx}
theorem Ls.next (h:Ls w O lv vs subs) (hb:Below w.heap.size w w'):Ls w' O lv vs subs:=⟨h.row.next hb,h.num,fun i S p hS hp=>(h.lie i S p hS hp).next hb⟩
theorem Ls.fr {K:Nat->Prop} (h:Ls w O lv vs subs) (hf:Fr K w w') (h1:∀ g,lv.ownBlock=some g->¬ K g) (h2:∀ (i:Nat) (p:Value×Value),vs[i]? = some p->∀ g,p.1.ownBlock=some g\/p.2.ownBlock=some g->¬ K g):Ls w' O lv vs subs :=
 ⟨h.row.fr hf h1,h.num,fun i S p hS hp=>(h.lie i S p hS hp).fr hf (fun g hg=>h2 i p hp g (.inl hg)) (fun g hg=>h2 i p hp g (.inr hg))⟩
theorem Ls.each (h:Ls w O lv vs subs) {i:Nat} {p:Value×Value} (hp:vs[i]? = some p):∃ S,subs[i]? = some S/\Sq w (O+1) p.1 p.2 (sup S):=by
 have hl:i<subs.length:=by rw [<-h.num]; exact (List.getElem?_eq_some_iff.1 hp).1
 exact ⟨_,List.getElem?_eq_getElem hl,h.lie i _ p (List.getElem?_eq_getElem hl) hp⟩
theorem Ls.out (h:Ls w O lv vs subs) {syms n:Nat} {iv fv av:Value} {ini fin:List Tw} {arcs:List Ac} (ho:Om w O syms n iv fv av ini fin arcs) (hf:Fr (OmB O iv fv av) w w'):Ls w' O lv vs subs:=by
 refine h.fr hf (fun g hg hk=>?_) (fun i p hp g hg hk=>?_)
 ·rcases hk with rfl | hk | hk | hk
  ·have:=(h.row.lt hg).1; omega
  ·exact own_ne' h.row ho.ini (by decide) g hg hk
  ·exact own_ne' h.row ho.fin (by decide) g hg hk
  ·exact own_ne' h.row ho.arcs (by decide) g hg hk
 ·obtain ⟨S,_,hS⟩:=h.each hp
  rcases hg with hg | hg
  ·rcases hk with rfl | hk | hk | hk
   ·have:=(hS.sts.lt hg).1; omega
   ·exact own_ne' hS.sts ho.ini (by decide) g hg hk
   ·exact own_ne' hS.sts ho.fin (by decide) g hg hk
   ·exact own_ne' hS.sts ho.arcs (by decide) g hg hk
  ·rcases hk with rfl | hk | hk | hk
   ·have:=(hS.rst.lt hg).1; omega
   ·exact own_ne' hS.rst ho.ini (by decide) g hg hk
   ·exact own_ne' hS.rst ho.fin (by decide) g hg hk
   ·exact own_ne' hS.rst ho.arcs (by decide) g hg hk
theorem Ls.get (h:Ls w O lv vs subs) {k:Nat} {S:Vx} (hk:subs[k]? = some S):∃ (lb lc:Nat) (so:OA) (sc:Nat) (uo:OA) (uc:Nat),lv=.slice (some ⟨lb,0,none⟩) subs.length lc /\
  Cs w lb (0+k*2) [.slice so (sup S).length sc,.slice uo (sup S).length uc]/\Rs w so sc uo uc (sup S).length (sup S):=by
 have hl:k<vs.length:=by rw [h.num]; exact (List.getElem?_eq_some_iff.1 hk).1
 obtain ⟨p,hp⟩:∃ p,vs[k]? = some p:=⟨_,List.getElem?_eq_getElem hl⟩
 obtain ⟨so,sc,uo,uc,e1,e2,hR⟩:=(h.lie k S p hk hp).rs
 obtain ⟨lo,lc,hlv⟩:=h.row.form
 subst hlv
 have hfl:=fl_of h.row (by simp)
 rw [List.length_map] at hfl
 obtain ⟨p',hp',b,off,e3,hcs⟩:=hfl.get hl
 obtain rfl:p'=p:=Option.some.inj (hp'.symm.trans hp)
 rcases h.row.place with e | ⟨b',e⟩
 ·rw [e] at e3; cases e3
 ·rw [e] at e3
  injection e3 with e3; injection e3 with e3 e4
  subst e3 e4
  rw [e1,e2] at hcs
  exact ⟨b',lc,so,sc,uo,uc,by rw [List.length_map,h.num,e],hcs,hR⟩
theorem Ls.nil (w:World) (O:Nat):Ls w O (.slice none 0 0) [] []:=⟨FO.nil _ _ _ _,rfl,fun i S p h=>by simp at h⟩
theorem Ls.app {lv' sv rv:Value} {S:Vx} (h:Ls w O lv vs subs) (hr:FO 84 2 w (O+1) lv' ((vs.map fun p=>[p.1,p.2])++[[sv,rv]])) (hS:Sq w (O+1) sv rv (sup S)):Ls w O lv' (vs++[(sv,rv)]) (subs++[S]) :=
 ⟨by rw [List.map_append]; exact hr,by simp [h.num],fun i Q p hQ hp=>by
  by_cases hi:i<subs.length
  ·rw [List.getElem?_append_left hi] at hQ
   rw [List.getElem?_append_left (by rw [h.num]; exact hi)] at hp
   exact h.lie i Q p hQ hp
  ·rw [List.getElem?_append_right (by omega)] at hQ
   rw [List.getElem?_append_right (by rw [h.num]; omega),h.num] at hp
   obtain ⟨j,hj⟩:∃ j,i-subs.length=j:=⟨_,rfl⟩
   rw [hj] at hQ hp
   cases j with
   | zero=>simp at hQ hp; subst hQ hp; exact hS
   | succ j=>simp at hQ⟩
end
end
section
open Go.RowKit
theorem Ls.more {w w':World} {O:Nat} {lv lv' sv rv:Value} {vs:List (Value×Value)} {subs:List Vx} {S:Vx} (h:Ls w O lv vs subs) (hf:Fr (fun k=>lv.ownBlock=some k) w w') (hr:FO 84 2 w' (O+1) lv' ((vs.map fun p=>[p.1,p.2])++[[sv,rv]])) (hS:Sq w' (O+1) sv rv (sup S)):Ls w' O lv' (vs++[(sv,rv)]) (subs++[S]):=by
 refine ⟨by rw [List.map_append]; exact hr,by simp [h.num],fun i Q p hQ hp=>?_⟩
 by_cases hi:i<subs.length
 ·rw [List.getElem?_append_left hi] at hQ
  rw [List.getElem?_append_left (by rw [h.num]; exact hi)] at hp
  have hq:=h.lie i Q p hQ hp
  exact hq.fr hf (fun g hg hk=>own_ne' h.row hq.sts (by decide) g hk hg) (fun g hg hk=>own_ne' h.row hq.rst (by decide) g hk hg)
 ·rw [List.getElem?_append_right (by omega)] at hQ
  rw [List.getElem?_append_right (by rw [h.num]; omega),h.num] at hp
  obtain ⟨j,hj⟩:∃ j,i-subs.length=j:=⟨_,rfl⟩
  rw [hj] at hQ hp
  cases j with
  | zero=>simp at hQ hp; subst hQ hp; exact hS
  | succ j=>simp at hQ
end
section
open Go.RowKit
theorem Sq.mono {w:World} {O O':Nat} {sv rv:Value} {P:List (Nat×Nat)} (h:Sq w O sv rv P) (hO:O'<=O):Sq w O' sv rv P:=⟨h.sts.mono hO,h.rst.mono hO,h.ne⟩
end
section
open Go.RowKit
theorem FO.lit1 {e:TypeId} {k base g:Nat} {cs:List Value} {w:World} (h:Bl g cs e w) (hk:cs.length=k) (hb:base<=g):FO e k w base (.slice (some ⟨g,0,none⟩) 1 1) [cs] :=
 by subst hk; exact ⟨⟨by simp,.inr ⟨g,1,cs.toArray,rfl,hb,h,Nat.le_refl _,by simp [maxLen],by simp,by simp⟩⟩,fun c hc=>by rw [List.mem_singleton.1 hc]⟩
end
section
open Go.RowKit
def A0:Au:=⟨3,[some 0,none,none],[none,some 1,some 0],[(0,1,1,some 2),(0,1,2,some 5)]⟩
def B0:Au:=⟨2,[some 0,none],[none,some 1],[(0,1,1,some 2)]⟩
theorem known_ss:Ss A0.arcs:=by
 unfold A0
 refine ⟨fun y hy=>?_,fun y hy=>(by cases hy),trivial⟩
 rw [List.mem_singleton.1 hy]
 exact .inr ⟨rfl,.inr ⟨rfl,by decide⟩⟩
theorem known_us:UsOk [true,true,true] A0:=by
 have h0:ToEnd A0.arcs A0.fin 1:=.here (c:=1) rfl
 have h2:ToEnd A0.arcs A0.fin 2:=.here (c:=0) rfl
 have h1:ToEnd A0.arcs A0.fin 0:=.step (x:=(0,1,1,some 2)) (by simp [A0]) h0
 have f0:FromS A0.arcs A0.ini 0:=.here (c:=0) rfl
 have f1:FromS A0.arcs A0.ini 1:=.step (x:=(0,1,1,some 2)) (by simp [A0]) f0
 have f2:FromS A0.arcs A0.ini 2:=.step (x:=(0,1,2,some 5)) (by simp [A0]) f0
 refine ⟨rfl,fun q hq=>?_⟩
 have hq3:q<3:=hq
 rcases (show q=0\/q=1\/q=2 by omega) with rfl | rfl | rfl
 ·exact ⟨fun _=>⟨f0,h1⟩,fun _=>rfl⟩
 ·exact ⟨fun _=>⟨f1,h0⟩,fun _=>rfl⟩
 ·exact ⟨fun _=>⟨f2,h2⟩,fun _=>rfl⟩
theorem known_det:detP 1 [true,true,true] A0=some B0:=by rfl
theorem known_out {K:List Ac} {us:List Bool} (hK:Nf K A0.arcs) (hu:UsOk us ⟨A0.st,A0.ini,A0.fin,K.filter nz⟩):detP 1 us ⟨A0.st,A0.ini,A0.fin,K.filter nz⟩=some B0:=by
 obtain rfl:=hK.unique (Nf.self known_ss)
 have hf:A0.arcs.filter nz=A0.arcs:=rfl
 rw [hf] at hu ⊢
 rw [hu.unique known_us]
 exact known_det
theorem FO.lits {e:TypeId} {k base g n:Nat} {css:List (List Value)} {w:World} (h:Bl g css.flatten e w) (hk:∀ cs∈css,cs.length=k) (hn:css.length=n) (hb:base<=g) (hm:n<=maxLen):FO e k w base (.slice (some ⟨g,0,none⟩) n n) css:=by
 subst hn
 have hl:=flat_len hk
 exact ⟨⟨hl,.inr ⟨g,css.length,css.flatten.toArray,rfl,hb,h,Nat.le_refl _,hm,by simp [hl],by rw [List.take_of_length_le (by simp [hl])]⟩⟩,hk⟩
theorem known_any (w:World) (hp:Pow w):Calls Tryz.prog 9 #[] w fun e w'=>e=.returned (.bool true)/\Below w.heap.size w w':=by
 obtain ⟨g0,h0⟩:∃ g,w.heap.size=g:=⟨_,rfl⟩
 have hB0:=Bl.fresh' (G:=g0) w (twC none) 45 h0
 have b0:Below w.heap.size w (w.alloc (.cells (twC none).toArray 45)):=below_alloc _
 obtain ⟨w1,h1⟩:∃ z,w.alloc (.cells (twC none).toArray 45)=z:=⟨_,rfl⟩
 rw [h1] at hB0 b0
 have s1:w1.heap.size=g0+1:=by rw [<-h1,<-h0]; simp
 have hc0:=hB0.cs
 go_enter Tryz.func9,Tryz.ntmps9
 go_upto_region 2 with ((with_reducible refine wp_storeVTw rfl _ _ rfl _ _ ?_ none ?_ ?_ ?_); exact rfl; exact rfl; exact rfl)
 rw [show w.alloc (.cells #[.bool false,.slice none 0 0,.slice none 0 0,.int .i64 0,.bool true,.int .u64 0,.slice none 0 0,.slice none 0 0] 45)=w1 from h1]
 have hp1:=hid (hp.next b0)
 have b0:=hid b0
 clear h1 hp h0
 obtain ⟨w2,ew2⟩:∃ z,w1.alloc (.cells #[.bool false,.slice none 0 0,.slice none 0 0,.int .i64 0,.bool false,.int .u64 0,.slice none 0 0,.slice none 0 0,.bool false,.slice none 0 0,.slice none 0 0,.int .i64 (tc none:Int),.bool (ti none),.int .u64 0,.slice none 0 0,.slice none 0 0,.bool false,.slice none 0 0,.slice none 0 0,.int .i64 (tc none:Int),.bool (ti none),.int .u64 0,.slice none 0 0,.slice none 0 0] 45)=z:=⟨_,rfl⟩
 have hI:Bl (g0+1) (A0.ini.map twC).flatten 45 w2:=by rw [<-ew2]; exact Bl.fresh' (G:=g0+1) w1 (A0.ini.map twC).flatten 45 s1
 have sw2:w2.heap.size=g0+1+1:=by rw [<-ew2]; simp [s1]
 have bw2:Below w1.heap.size w1 w2:=by rw [<-ew2]; exact below_alloc _
 obtain ⟨w3,ew3⟩:∃ z,w2.alloc (.cells #[.bool false,.slice none 0 0,.slice none 0 0,.int .i64 (tc none:Int),.bool (ti none),.int .u64 0,.slice none 0 0,.slice none 0 0,.bool false,.slice none 0 0,.slice none 0 0,.int .i64 1,.bool false,.int .u64 0,.slice none 0 0,.slice none 0 0,.bool false,.slice none 0 0,.slice none 0 0,.int .i64 0,.bool false,.int .u64 0,.slice none 0 0,.slice none 0 0] 45)=z:=⟨_,rfl⟩
 have hF:Bl (g0+1+1) (A0.fin.map twC).flatten 45 w3:=by rw [<-ew3]; exact Bl.fresh' (G:=g0+1+1) w2 (A0.fin.map twC).flatten 45 sw2
 have sw3:w3.heap.size=g0+1+1+1:=by rw [<-ew3]; simp [sw2]
 have bw3:Below w2.heap.size w2 w3:=by rw [<-ew3]; exact below_alloc _
 obtain ⟨w4,ew4⟩:∃ z,w3.alloc (.cells #[.int .i64 0,.int .i64 1,.int .i64 1,.bool false,.slice none 0 0,.slice none 0 0,.int .i64 2,.bool false,.int .u64 0,.slice none 0 0,.slice none 0 0,.int .i64 0,.int .i64 1,.int .i64 2,.bool false,.slice none 0 0,.slice none 0 0,.int .i64 5,.bool false,.int .u64 0,.slice none 0 0,.slice none 0 0] 54)=z:=⟨_,rfl⟩
 have hA:Bl (g0+1+1+1) (A0.arcs.map acC).flatten 54 w4:=by rw [<-ew4]; exact Bl.fresh' (G:=g0+1+1+1) w3 (A0.arcs.map acC).flatten 54 sw3
 have sw4:w4.heap.size=g0+1+1+1+1:=by rw [<-ew4]; simp [sw3]
 have bw4:Below w3.heap.size w3 w4:=by rw [<-ew4]; exact below_alloc _
 obtain ⟨w5,ew5⟩:∃ z,w4.alloc (.cells #[.int .i64 2,.slice none 0 0,.int .i64 1,.int .i64 3,.slice (some ⟨g0+1,0,none⟩) 3 3,.slice (some ⟨g0+1+1,0,none⟩) 3 3,.slice (some ⟨g0+1+1+1,0,none⟩) 2 2] 30)=z:=⟨_,rfl⟩
 have hV:Bl (g0+1+1+1+1) (auC 1 3 (.slice (some ⟨g0+1,0,none⟩) 3 3) (.slice (some ⟨g0+1+1,0,none⟩) 3 3) (.slice (some ⟨g0+1+1+1,0,none⟩) 2 2)) 30 w5:=by rw [<-ew5]; exact Bl.fresh' (G:=g0+1+1+1+1) w4 (auC 1 3 (.slice (some ⟨g0+1,0,none⟩) 3 3) (.slice (some ⟨g0+1+1,0,none⟩) 3 3) (.slice (some ⟨g0+1+1+1,0,none⟩) 2 2)) 30 sw4
 have sw5:w5.heap.size=g0+1+1+1+1+1:=by rw [<-ew5]; simp [sw4]
 have bw5:Below w4.heap.size w4 w5:=by rw [<-ew5]; exact below_alloc _
 have hI5:=hid (((hI.next bw3).next bw4).next bw5)
 have hF5:=hid ((hF.next bw4).next bw5)
 have hA5:=hid (hA.next bw5)
 have hV5:=hid hV
 have b15:=hid (below_chain (below_chain (below_chain bw2 bw3) bw4) bw5)
 have ee:=hid (And.intro ew2 (And.intro ew3 (And.intro ew4 ew5)))
 have sz:=hid (And.intro sw2 (And.intro sw3 (And.intro sw4 sw5)))
 clear hI hF hA hV bw2 bw3 bw4 bw5 ew2 ew3 ew4 ew5 sw2 sw3 sw4 sw5 hB0
 go_upto_region 3 with (first | ((with_reducible refine wp_loadTw rfl _ rfl g0 0 ?_ none hc0 ?_); exact rfl) | ((with_reducible refine wp_loadTw rfl _ rfl g0 0 ?_ none (hc0.next (below_alloc _)) ?_); exact rfl) | ((with_reducible refine wp_storeVAuto rfl _ _ rfl _ _ ?_ (auC 1 3 (.slice (some ⟨g0+1,0,none⟩) 3 3) (.slice (some ⟨g0+1+1,0,none⟩) 3 3) (.slice (some ⟨g0+1+1+1,0,none⟩) 2 2)) ?_ ?_ ?_ (auC_1 _ _ _ _ _ _ _ _ _ _ _) ?_); exact rfl; exact rfl; exact rfl; exact rfl))
 obtain ⟨ew2,ew3,ew4,ew5⟩:=ee.out
 rw [ew2,ew3,ew4,ew5]
 clear ew2 ew3 ew4 ew5 ee
 have hMo:Mo w5 1 A0 (some ⟨g0+1,0,none⟩) 3 (some ⟨g0+1+1,0,none⟩) 3 (some ⟨g0+1+1+1,0,none⟩) 2 2 :=
  ⟨fl_of (FO.lits (e:=45) (base:=0) hI5.out (twC_len _) rfl (Nat.zero_le _) (by decide)) rfl,fl_of (FO.lits (e:=45) (base:=0) hF5.out (twC_len _) rfl (Nat.zero_le _) (by decide)) rfl,fl_of (FO.lits (e:=54) (base:=0) hA5.out (acC_len _) rfl (Nat.zero_le _) (by decide)) rfl⟩
 have hVo:Vo 1 A0:=⟨by decide,by decide,by decide,by simp [A0,TwOk,tc],by simp [A0,TwOk,tc],by simp [A0,ArcOk,TwOk,tc,wt]⟩
 have hLw:Lw A0:=by unfold Lw; decide
 have hdet:=hid (det_any 1 5 A0 hVo (.inl (by decide)) rfl rfl hLw (by decide) (by decide) _ _ _ _ _ _ _ w5 hMo (hp1.out.next b15.out))
 have hV5c:=hV5.out.cs
 clear hMo hVo hLw
 go_wp2_with ((with_reducible refine wp_loadAuto rfl _ rfl (g0+1+1+1+1) 0 ?_ (auC 1 3 (.slice (some ⟨g0+1,0,none⟩) 3 3) (.slice (some ⟨g0+1+1,0,none⟩) 3 3) (.slice (some ⟨g0+1+1+1,0,none⟩) 2 2)) rfl hV5c ?_); exact rfl)
 refine hdet.out.mono ?_; rintro e w6 ⟨K,us,hK,hu,hb6,hout⟩
 rcases hout with ⟨hno,_⟩ | ⟨B,io,ci,fo,cf,ro,nr,cr,hB,rfl,hMo⟩
 ·rw [known_out hK hu] at hno; cases hno
 ·rw [known_out hK hu] at hB
  cases hB
  have hbw:=hid (below_chain (below_chain b0.out b15.out) hb6)
  have hMo6:=hid (hMo.mo 1)
  clear hdet hK hu hb6 hMo hV5c
  have hbX:Below w6.heap.size w6 (w6.alloc (.cells (auC 1 B0.st (.slice io B0.st ci) (.slice fo B0.st cf) (.slice ro nr cr)).toArray 30)):=below_alloc _
  have hX:=Bl.fresh w6 (auC 1 B0.st (.slice io B0.st ci) (.slice fo B0.st cf) (.slice ro nr cr)) 30
  have hnr:nr=1:=by have h:=hMo6.out.arcs.len; simpa [B0] using h.symm
  subst hnr
  have hM7:=hMo6.out.next hbX
  obtain ⟨x,hx,ba,oa,hra,hca⟩:=hM7.arcs.get (i:=0) (by decide)
  have hx0:x=(0,1,1,some 2):=by have h:=hx; simp [B0] at h; exact h.symm
  subst hx0 hra
  obtain ⟨y,hy,bf,of,hrf,hcf⟩:=hM7.fin.get (i:=1) (by decide)
  have hy0:y=some 1:=by have h:=hy; simp [B0] at h; exact h.symm
  subst hy0 hrf
  have q1:=hca 6 _ rfl
  have q2:=hcf 3 _ rfl
  have q3:=hcf 4 _ rfl
  have hB2:B0.st=2:=rfl
  rw [hB2] at hX hbX hca hcf q1 q2 q3
  simp only [hB2]
  have x3:=hX.cell (i:=3) rfl
  have x5:=hX.cell (i:=5) rfl
  have x6:=hX.cell (i:=6) rfl
  have hbw7:=hid (below_chain hbw.out hbX)
  clear hca hcf hM7 hx hy hMo6
  go_wp2_with ((with_reducible refine wp_storeVAuto rfl _ _ rfl _ _ ?_ (auC 1 2 (.slice io 2 ci) (.slice (some ⟨bf,of,none⟩) 2 cf) (.slice (some ⟨ba,oa,none⟩) 1 cr)) ?_ ?_ ?_ (auC_1 _ _ _ _ _ _ _ _ _ _ _) ?_); exact rfl; exact rfl; exact rfl; exact rfl)
  go_ret
  exact ⟨rfl,hbw7.out⟩
end
section
open Go.RowKit
noncomputable def wB (n:Nat):Code:=(Tryz.f6.body.bind (findB n)).getD .skip
noncomputable def wR (n:Nat):Code:=(Tryz.f6.body.bind (findR n)).getD .skip
structure Ta (w:World) (T:Nat) (lo:OA) (n cap:Nat):Prop where
 ex:∃ a,a<=n/\Tp T lo n cap a w
 lst:TpL T lo n cap w
 big:n<=9223372036854775807
theorem Ta.lt {w:World} {T n cap:Nat} {lo:OA} (h:Ta w T lo n cap):T<w.heap.size:=by obtain ⟨a,_,h1⟩:=h.ex; exact h1.lt
theorem Ta.next {w w':World} {T n cap:Nat} {lo:OA} (h:Ta w T lo n cap) (hb:Below w.heap.size w w'):Ta w' T lo n cap:=by
 obtain ⟨a,h1,h2⟩:=h.ex
 exact ⟨⟨a,h1,h2.next hb⟩,h.lst.fr hb (Nat.le_of_lt h.lt),h.big⟩
theorem Ta.fr {w w':World} {T n cap:Nat} {lo:OA} {K:Nat->Prop} (h:Ta w T lo n cap) (hf:Fr K w w') (hK:∀ k,K k->T<k):Ta w' T lo n cap:=by
 obtain ⟨a,h1,h2⟩:=h.ex
 exact ⟨⟨a,h1,h2.fr hf (fun e=>by have:=hK _ e; omega)⟩,h.lst.fr (hf.below (fun k e=>Nat.le_of_lt (hK k e)) (Nat.le_of_lt h.lt)) (Nat.le_refl _),h.big⟩
theorem Ta.to {w w':World} {T n cap b:Nat} {lo:OA} (h:Ta w T lo n cap) (hf:Fr (fun k=>k=T) w w') (h1:Tp T lo n cap b w') (h2:b<=n):Ta w' T lo n cap :=
 ⟨⟨b,h2,h1⟩,h.lst.fr (hf.below (fun k e=>by subst e; exact Nat.le_refl _) (Nat.le_of_lt h.lt)) (Nat.le_refl _),h.big⟩
theorem tnext_any (T:Nat) (lo:OA) (n cap:Nat) (m:Int) (h1:1<=m) (h2:m<=1000000) (w:World) (h:Ta w T lo n cap) :
  Calls Tryz.prog 21 #[.pointer (some ⟨T,0,none⟩),.int .i64 m] w fun e w'=>∃ r:Nat,e=.returned (.int .i64 (r:Int))/\(r:Int)<m/\Ta w' T lo n cap/\Fr (fun k=>k=T) w w':=by
 obtain ⟨a,ha,hT⟩:=h.ex
 refine (next_any T lo n cap a m h1 h2 w hT h.lst ha h.big).mono ?_
 rintro e w' ⟨r,b,rfl,hr,hT',hb,_,hf⟩
 exact ⟨r,rfl,hr,h.to hf hT' hb,hf⟩
theorem tweight_any (T:Nat) (lo:OA) (n cap:Nat) (w:World) (h:Ta w T lo n cap) :
  Calls Tryz.prog 20 #[.int .i64 2,.pointer (some ⟨T,0,none⟩)] w fun e w'=>∃ v:Tw,e=.returned (.agg (twC v).toArray)/\tc v<=5/\Ta w' T lo n cap/\Fr (fun k=>k=T) w w':=by
 obtain ⟨a,ha,hT⟩:=h.ex
 refine (weightT_any T lo n cap a w hT h.lst ha h.big).mono ?_
 rintro e w' ⟨c,i,b,rfl,hc,hi,h1,h2,h3⟩
 cases i with
 | true =>
  obtain rfl:=hi rfl
  exact ⟨none,rfl,Nat.zero_le _,h.to h3 h1 h2,h3⟩
 | false=>exact ⟨some c,rfl,hc,h.to h3 h1 h2,h3⟩
theorem aut_b7 (T:Nat) (lo:OA) (n cap:Nat) (PB s:Nat) (kst ksy:Int) (fw sg:Bool) (w:World) (hP:Bl PB [.int .i64 kst,.int .i64 ksy,.bool fw,.bool sg,.slice lo n cap] 24 w) (hTa:Ta w T lo n cap) (hPT:PB<T)
  {c0 c1 c2 c4 c5 c6 c8 Aa Ab Ad Ae Af Ag Ah Ak Al Am An Ao Ap Aq Ar As Av Aw Ax Ay Az Ba Bb Bc Be Bf Bh Bi Bj Bk Bm Bn Bo Bp Bq Br Bs Bt Bu Bv Bw Bx By Bz Ca Cb Cc Cd Ce Cf Cg Ch Ci Cj Ck Cl Cm Cn Co Cp Cq Cr Ct Cu Cv Cw Cx Cy Cz Da Db Dc Dd De Df Dg Dh Di Dj Dk Dl Dn Dp Dq Dr Dt Du Dv Dw Dx Dy Dz Ea Eb Ec Ed Ee Ef Eg Eh Ei Ej Ek El Em En Eo Ep Eq Er Es Et Eu Ev Ew Ex Ey Ez Fa Fb Fc Fd Fe Ff Fg Fh Fi Fj Fk Fm Fn Fo Fp Fq Fs Ft Fu Fv Fw Fx Fy Fz Ga Gb Gc Gd Ge Gf Gg Gh Gi Gj Gk Gl Gm Gn Go Gp Gq Gr Gs Gt Gu Gv Gw Gx Gy Gz Ha Hb Hc Hd He Hf Hg:Value} {Q0:EP} (hpan:∀ c (a:Act) d v w,Q0 (.panic c) (a.put d v) w->Q0 (.panic c) a w)
  (hexit:∀ (Hh Hi Hj Hk Hl Hm Hn Ho Hp Hq Hr Hs Ht Hu:Value) (b:Bool) (w':World),(sg=true->b=false->s=0)->Ta w' T lo n cap->Fr (fun k=>k=T) w w'->Q0 .normal ⟨#[c0,c1,c2,.pointer (some ⟨PB,0,none⟩),c4,c5,c6,.pointer (some ⟨T,0,none⟩),c8,.int .i64 (s:Int),Aa,Ab,Ad,Ae,Af,Ag,Ah,Ak,Al,Am,An,Ao,Ap,Aq,Ar,As,Av,Aw,Ax,Ay,Az,Ba,Bb,Bc,Be,Bf,Bh,Bi,Bj,Bk,Bm,Bn,Bo,Bp,Hh,Hi,Hj,Hk,Hl,Hm,Hn,Ho,Hp,Hq,Hr,Hs,Ht,Hu,.bool b,Cf,Cg,Ch,Ci,Cj,Ck,Cl,Cm,Cn,Co,Cp,Cq,Cr,Ct,Cu,Cv,Cw,Cx,Cy,Cz,Da,Db,Dc,Dd,De,Df,Dg,Dh,Di,Dj,Dk,Dl,Dn,Dp,Dq,Dr,Dt,Du,Dv,Dw,Dx,Dy,Dz,Ea,Eb,Ec,Ed,Ee,Ef,Eg,Eh,Ei,Ej,Ek,El,Em,En,Eo,Ep,Eq,Er,Es,Et,Eu,Ev,Ew,Ex,Ey,Ez,Fa,Fb,Fc,Fd,Fe,Ff,Fg,Fh,Fi,Fj,Fk,Fm,Fn,Fo,Fp,Fq,Fs,Ft,Fu,Fv,Fw,Fx,Fy,Fz,Ga,Gb,Gc,Gd,Ge,Gf,Gg,Gh,Gi,Gj,Gk,Gl,Gm,Gn,Go,Gp,Gq,Gr,Gs,Gt,Gu,Gv,Gw,Gx,Gy,Gz,Ha,Hb,Hc,Hd,He,Hf,Hg],[]⟩ w') :
  Code.wp Tryz.prog (wR 7) Q0 ⟨#[c0,c1,c2,.pointer (some ⟨PB,0,none⟩),c4,c5,c6,.pointer (some ⟨T,0,none⟩),c8,.int .i64 (s:Int),Aa,Ab,Ad,Ae,Af,Ag,Ah,Ak,Al,Am,An,Ao,Ap,Aq,Ar,As,Av,Aw,Ax,Ay,Az,Ba,Bb,Bc,Be,Bf,Bh,Bi,Bj,Bk,Bm,Bn,Bo,Bp,Bq,Br,Bs,Bt,Bu,Bv,Bw,Bx,By,Bz,Ca,Cb,Cc,Cd,Ce,Cf,Cg,Ch,Ci,Cj,Ck,Cl,Cm,Cn,Co,Cp,Cq,Cr,Ct,Cu,Cv,Cw,Cx,Cy,Cz,Da,Db,Dc,Dd,De,Df,Dg,Dh,Di,Dj,Dk,Dl,Dn,Dp,Dq,Dr,Dt,Du,Dv,Dw,Dx,Dy,Dz,Ea,Eb,Ec,Ed,Ee,Ef,Eg,Eh,Ei,Ej,Ek,El,Em,En,Eo,Ep,Eq,Er,Es,Et,Eu,Ev,Ew,Ex,Ey,Ez,Fa,Fb,Fc,Fd,Fe,Ff,Fg,Fh,Fi,Fj,Fk,Fm,Fn,Fo,Fp,Fq,Fs,Ft,Fu,Fv,Fw,Fx,Fy,Fz,Ga,Gb,Gc,Gd,Ge,Gf,Gg,Gh,Gi,Gj,Gk,Gl,Gm,Gn,Go,Gp,Gq,Gr,Gs,Gt,Gu,Gv,Gw,Gx,Gy,Gz,Ha,Hb,Hc,Hd,He,Hf,Hg],[]⟩ w:=by
 conv=>arg 2; whnf
 obtain ⟨q0,q1⟩:(Bl PB [.int .i64 kst,.int .i64 ksy,.bool fw,.bool sg,.slice lo n cap] 24 w)/\True:=⟨hP,trivial⟩
 have hexit:=hid hexit
 have hP:=hid hP
 go_wp2_with fail
 refine (tnext_any T lo n cap 2 (by omega) (by omega) w hTa).mono ?_; rintro e w1 ⟨r,rfl,hr,hT1,hf1⟩
 have y3:=(hP.out.fr hf1 (fun e=>by omega)).cell (i:=3) rfl
 have hT1:=hid hT1
 have hf1:=hid hf1
 clear q0 q1
 rcases (show r=0\/r=1 by omega) with hr0 | hr0
 ·have k1:((r:Int)==0)=true:=by rw [beq_iff_eq]; omega
  have k1':(r:Int)=0:=by omega
  clear hr0
  cases s with
  | zero =>
   have k2:¬ (0:Int)<((0:Nat):Int):=by omega
   cases sg with
   | true =>
    go_wp2_with fail
    exact hexit.out _ _ _ _ _ _ _ _ _ _ _ _ _ _ false w1 (by first | exact fun _ _=>rfl | simp) hT1.out hf1.out
   | false =>
    go_wp2_with fail
    exact hexit.out _ _ _ _ _ _ _ _ _ _ _ _ _ _ false w1 (fun h=>by cases h) hT1.out hf1.out
  | succ m =>
   have k2:(0:Int)<((m+1:Nat):Int):=by omega
   have k2':(0:Int)<(m:Int)+1:=by omega
   go_wp2_with fail
   exact hexit.out _ _ _ _ _ _ _ _ _ _ _ _ _ _ true w1 (fun _ h=>by cases h) hT1.out hf1.out
 ·have k1:((r:Int)==0)=false:=by rw [beq_eq_false_iff_ne]; omega
  have k1':¬ (r:Int)=0:=by omega
  have k1'':¬ r=0:=by omega
  clear hr0
  cases sg with
  | true =>
   cases s with
   | zero =>
    have k2:¬ (0:Int)<((0:Nat):Int):=by omega
    go_wp2_with fail
    exact hexit.out _ _ _ _ _ _ _ _ _ _ _ _ _ _ false w1 (by first | exact fun _ _=>rfl | simp) hT1.out hf1.out
   | succ m =>
    have k2:(0:Int)<((m+1:Nat):Int):=by omega
    have k2':(0:Int)<(m:Int)+1:=by omega
    go_wp2_with fail
    exact hexit.out _ _ _ _ _ _ _ _ _ _ _ _ _ _ true w1 (fun _ h=>by cases h) hT1.out hf1.out
  | false =>
   go_wp2_with fail
   exact hexit.out _ _ _ _ _ _ _ _ _ _ _ _ _ _ false w1 (fun h=>by cases h) hT1.out hf1.out
theorem aut_b9 (T:Nat) (lo:OA) (n cap:Nat) (O s st:Nat) (w:World) (hO:w.cell? ⟨O,3,none⟩=some (.int .i64 (st:Int))) (hst:st<=64) (hTa:Ta w T lo n cap) (hTO:T<O)
  {c0 c1 c2 c3 c4 c5 c6 Aa Ab Ad Ae Af Ag Ah Ak Al Am An Ao Ap Aq Ar As Av Aw Ax Ay Az Ba Bb Bc Be Bf Bh Bi Bj Bk Bm Bn Bo Bp Bq Br Bs Bt Bu Bv Bw Bx By Bz Ca Cb Cc Cd Ce Cf Cg Ch Ci Cj Ck Cl Cm Cn Co Cp Cq Cr Ct Cu Cv Cw Cx Cy Cz Da Db Dc Dd De Df Dg Dh Di Dj Dk Dl Dn Dp Dq Dr Dt Du Dv Dw Dx Dy Dz Ea Eb Ec Ed Ee Ef Eg Eh Ei Ej Ek El Em En Eo Ep Eq Er Es Et Eu Ev Ew Ex Ey Ez Fa Fb Fc Fd Fe Ff Fg Fh Fi Fj Fk Fm Fn Fo Fp Fq Fs Ft Fu Fv Fw Fx Fy Fz Ga Gb Gc Gd Ge Gf Gg Gh Gi Gj Gk Gl Gm Gn Go Gp Gq Gr Gs Gt Gu Gv Gw Gx Gy Gz Ha Hb Hc Hd He Hf Hg:Value} {Q0:EP} (hpan:∀ c (a:Act) d v w,Q0 (.panic c) (a.put d v) w->Q0 (.panic c) a w)
  (hexit:∀ (Hh Hi Hj Hk Hl Hm Hn Ho Hp:Value) (b:Bool) (w':World),Ta w' T lo n cap->Fr (fun k=>k=T) w w'->Q0 .normal ⟨#[c0,c1,c2,c3,c4,c5,c6,.pointer (some ⟨T,0,none⟩),.pointer (some ⟨O,0,none⟩),.int .i64 (s:Int),Aa,Ab,Ad,Ae,Af,Ag,Ah,Ak,Al,Am,An,Ao,Ap,Aq,Ar,As,Av,Aw,Ax,Ay,Az,Ba,Bb,Bc,Be,Bf,Bh,Bi,Bj,Bk,Bm,Bn,Bo,Bp,Bq,Br,Bs,Bt,Bu,Bv,Bw,Bx,By,Bz,Ca,Cb,Cc,Cd,Ce,Cf,Cg,Ch,Hh,Hi,Hj,Hk,Hl,Hm,Hn,Ho,Hp,.bool b,Ct,Cu,Cv,Cw,Cx,Cy,Cz,Da,Db,Dc,Dd,De,Df,Dg,Dh,Di,Dj,Dk,Dl,Dn,Dp,Dq,Dr,Dt,Du,Dv,Dw,Dx,Dy,Dz,Ea,Eb,Ec,Ed,Ee,Ef,Eg,Eh,Ei,Ej,Ek,El,Em,En,Eo,Ep,Eq,Er,Es,Et,Eu,Ev,Ew,Ex,Ey,Ez,Fa,Fb,Fc,Fd,Fe,Ff,Fg,Fh,Fi,Fj,Fk,Fm,Fn,Fo,Fp,Fq,Fs,Ft,Fu,Fv,Fw,Fx,Fy,Fz,Ga,Gb,Gc,Gd,Ge,Gf,Gg,Gh,Gi,Gj,Gk,Gl,Gm,Gn,Go,Gp,Gq,Gr,Gs,Gt,Gu,Gv,Gw,Gx,Gy,Gz,Ha,Hb,Hc,Hd,He,Hf,Hg],[]⟩ w') :
  Code.wp Tryz.prog (wR 9) Q0 ⟨#[c0,c1,c2,c3,c4,c5,c6,.pointer (some ⟨T,0,none⟩),.pointer (some ⟨O,0,none⟩),.int .i64 (s:Int),Aa,Ab,Ad,Ae,Af,Ag,Ah,Ak,Al,Am,An,Ao,Ap,Aq,Ar,As,Av,Aw,Ax,Ay,Az,Ba,Bb,Bc,Be,Bf,Bh,Bi,Bj,Bk,Bm,Bn,Bo,Bp,Bq,Br,Bs,Bt,Bu,Bv,Bw,Bx,By,Bz,Ca,Cb,Cc,Cd,Ce,Cf,Cg,Ch,Ci,Cj,Ck,Cl,Cm,Cn,Co,Cp,Cq,Cr,Ct,Cu,Cv,Cw,Cx,Cy,Cz,Da,Db,Dc,Dd,De,Df,Dg,Dh,Di,Dj,Dk,Dl,Dn,Dp,Dq,Dr,Dt,Du,Dv,Dw,Dx,Dy,Dz,Ea,Eb,Ec,Ed,Ee,Ef,Eg,Eh,Ei,Ej,Ek,El,Em,En,Eo,Ep,Eq,Er,Es,Et,Eu,Ev,Ew,Ex,Ey,Ez,Fa,Fb,Fc,Fd,Fe,Ff,Fg,Fh,Fi,Fj,Fk,Fm,Fn,Fo,Fp,Fq,Fs,Ft,Fu,Fv,Fw,Fx,Fy,Fz,Ga,Gb,Gc,Gd,Ge,Gf,Gg,Gh,Gi,Gj,Gk,Gl,Gm,Gn,Go,Gp,Gq,Gr,Gs,Gt,Gu,Gv,Gw,Gx,Gy,Gz,Ha,Hb,Hc,Hd,He,Hf,Hg],[]⟩ w:=by
 conv=>arg 2; whnf
 have hexit:=hid hexit
 go_wp2_with fail
 refine (tnext_any T lo n cap 2 (by omega) (by omega) w hTa).mono ?_; rintro e w1 ⟨r,rfl,hr,hT1,hf1⟩
 have y3:=hf1.cell hO (fun e=>by omega)
 have hT1:=hid hT1
 have hf1:=hid hf1
 have hO:=hid hO
 rcases (show r=0\/r=1 by omega) with hr0 | hr0
 ·have k1:((r:Int)==0)=true:=by rw [beq_iff_eq]; omega
  have k1':(r:Int)=0:=by omega
  clear hr0
  go_wp2_with fail
  exact hexit.out _ _ _ _ _ _ _ _ _ _ w1 hT1.out hf1.out
 ·have k1:((r:Int)==0)=false:=by rw [beq_eq_false_iff_ne]; omega
  have k1':¬ (r:Int)=0:=by omega
  have k1'':¬ r=0:=by omega
  clear hr0
  go_wp2_with fail
  exact hexit.out _ _ _ _ _ _ _ _ _ false w1 hT1.out hf1.out
end
end Go.Proofs.YtnapapijhhldpaaGreatDoor

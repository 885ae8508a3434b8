/-
  Texts joined by program: Open, OpenT, TxP, Txf. No condition of its own.
-/
import Derived.Test.YtnapapijhhldpaaGreatDoorJtBA
namespace Go.Proofs.YtnapapijhhldpaaGreatDoor
set_option linter.unusedSimpArgs false
set_option linter.unusedVariables false
set_option maxRecDepth 100000
set_option maxHeartbeats 4000000
section
open Go.RowKit
theorem Tryz.infoMvs:(Tryz.prog.info? 134).map (fun i=>(i.zero,i.size,i.bytes))=some (some (.slice none 0 0),1,24):=by kernel_rfl
theorem rw_rw_ne {e1 e2:TypeId} {n1 n2:Nat} {b1 b2:Nat} {v1 v2:Value} {F1 F2:Nat->Value} {w:World} (h1:Rw e1 w b1 v1 n1 F1) (h2:Rw e2 w b2 v2 n2 F2) (he:e1≠e2):∀ g,v1.ownBlock=some g->v2.ownBlock≠some g:=fun g hg hg'=>by
 rcases own_ne h1 h2 he with h | h
 ·rw [h] at hg; cases hg
 ·exact h (hg.trans hg'.symm)
end
section
open Go.ChangeShapes Go.WideShapes Go.RowKit
theorem Sl.ofCells {w:World} {a:Addr} {n cap:Nat} {xs:List Value} (hl:xs.length=n) (hn:n<=cap) (hm:cap<=maxLen) (h:∀ i x,xs[i]? = some x->w.cell? (a.add i)=some x):Sl w (some a) n cap xs:=by
 refine ⟨hl,hn,hm,fun i x hx=>?_⟩
 have h0:∃ y,xs[0]? = some y:=by
  have:i<xs.length:=(List.getElem?_eq_some_iff.1 hx).1
  exact ⟨xs[0],by simp [show 0<xs.length by omega]⟩
 obtain ⟨y,hy⟩:=h0
 have hc:=h 0 y hy
 have hsp:a.spot=none:=by
  cases hs:a.spot with
  | none=>rfl
  | some s =>
   rw [show a.add 0=a by simp [Addr.add]] at hc
   unfold World.cell? at hc
   rw [hs] at hc
   split at hc<;>simp at hc
 obtain ⟨b,off,spot⟩:=a
 simp only at hsp
 subst hsp
 refine ⟨b,off,rfl,?_⟩
 have:=h i x hx
 rwa [Addr.add_lit] at this
section
variable {H:Type} {enc:TypeId×Value->H} {P:Program} {w:World} {base:Nat} {spare:Nat->Bool} {held:Bool}
end
end
section
open Go.ChangeShapes Go.WideShapes Go.RowKit Go.Deep
section
variable {H:Type} {enc:TypeId×Value->H} {P:Program} {w:World} {base:Nat} {spare:Nat->Bool} {held:Bool}
theorem slI64 {t e:TypeId} {fuel:Nat} {cs:List Value} {x:DataW H×List MemPlace} (ht:P.underlying t=some (.slice e)) (he:P.underlying e=some (.int .i64)) (hc:P.cellsOf e=1)
  (h:DataW.trod enc P w base spare held fuel t cs=some x) :
  ∃ (a:OA) (len cap:Nat) (N:List Int),cs=[.slice a len cap]/\Sl w a len cap (N.map (.int .i64)):=by
 rcases open_ints ht he hc h with ⟨hcs,_⟩ | ⟨y,len,cap,zs,hcs,_,hl,hm,hz,_,hcell,_⟩
 ·exact ⟨none,0,0,[],hcs,Sl.nil w⟩
 ·have hle:len<=zs.length:=by rw [hz]; split<;>omega
  refine ⟨some y,len,cap,zs.take len,hcs,Sl.ofCells (by simp; omega) hl hm fun i z hx=>?_⟩
  rw [List.getElem?_map,List.getElem?_take] at hx
  split at hx
  ·have hi:i<zs.length:=by omega
   rw [List.getElem?_eq_getElem hi] at hx
   simp at hx
   subst hx
   rw [hcell i hi]
   simp [List.getD,hi]
  ·cases hx
theorem trod_struct5 {t:TypeId} {f0 f1 f2 f3 f4:Field} {fuel:Nat} {cs:List Value} {x:DataW H×List MemPlace} (ht:P.underlying t=some (.struct #[f0,f1,f2,f3,f4])) (h:DataW.trod enc P w base spare held fuel t cs=some x) :
  ∃ y0 y1 y2 y3 y4 n,cs.length=P.cellsOf t/\DataW.trod enc P w base spare held n f0.type ((cs.drop f0.offset).take (P.cellsOf f0.type))=some y0 /\
   DataW.trod enc P w base spare held n f1.type ((cs.drop f1.offset).take (P.cellsOf f1.type))=some y1/\DataW.trod enc P w base spare held n f2.type ((cs.drop f2.offset).take (P.cellsOf f2.type))=some y2 /\
   DataW.trod enc P w base spare held n f3.type ((cs.drop f3.offset).take (P.cellsOf f3.type))=some y3/\DataW.trod enc P w base spare held n f4.type ((cs.drop f4.offset).take (P.cellsOf f4.type))=some y4:=by
 obtain ⟨xs,n,_,rfl,hl,hlen,hf⟩:=DataW.trod_struct ht h
 match xs,hlen with
 | [y0,y1,y2,y3,y4],_=>exact ⟨y0,y1,y2,y3,y4,n,hl,by simpa using hf 0 f0 rfl,by simpa using hf 1 f1 rfl,by simpa using hf 2 f2 rfl,by simpa using hf 3 f3 rfl,by simpa using hf 4 f4 rfl⟩
end
theorem openPlan {H:Type} {enc:TypeId×Value->H} {w:World} {base:Nat} {spare:Nat->Bool} {held:Bool} {fuel:Nat} {cs:Array Value} {x:DataW H×List MemPlace}
  (h:DataW.trod enc Tryz.prog w base spare held fuel 24 cs.toList=some x) :
  ∃ (kst ksy:Int) (fw sg:Bool) (lo:OA) (n cap:Nat) (zs:List Int),cs=#[.int .i64 kst,.int .i64 ksy,.bool fw,.bool sg,.slice lo n cap]/\Sl w lo n cap (zs.map (.int .i64)):=by
 have c0:Tryz.prog.cellsOf 3=1:=by kernel_rfl
 have c1:Tryz.prog.cellsOf 4=1:=by kernel_rfl
 have c2:Tryz.prog.cellsOf 22=1:=by kernel_rfl
 have c3:Tryz.prog.cellsOf 24=5:=by kernel_rfl
 obtain ⟨y0,y1,y2,y3,y4,n,hl,h0,h1,h2,h3,h4⟩:=trod_struct5 Tryz.underlying24 h
 simp only [c0,c1,c2] at h0 h1 h2 h3 h4
 rw [c3] at hl
 obtain ⟨u,hu⟩:∃ u,cs.toList=u:=⟨_,rfl⟩
 rw [hu] at h0 h1 h2 h3 h4 hl
 match u,hl,hu with
 | [p,q,r,s,t],_,hu =>
  obtain ⟨a,e0,_⟩:=DataW.trod_int Tryz.underlying3 h0
  obtain ⟨b,e1,_⟩:=DataW.trod_int Tryz.underlying3 h1
  obtain ⟨c,e2,_⟩:=DataW.trod_bool Tryz.underlying4 h2
  obtain ⟨d,e3,_⟩:=DataW.trod_bool Tryz.underlying4 h3
  obtain ⟨lo,m,cap,zs,e4,s4⟩:=slI64 Tryz.underlying22 Tryz.underlying3 (by kernel_rfl) h4
  simp at e0 e1 e2 e3 e4
  subst e0 e1 e2 e3 e4
  refine ⟨a,b,c,d,lo,m,cap,zs,?_,s4⟩
  cases cs
  simpa using hu
theorem slice_lt {W:World} {base:Nat} {a:Addr} {n cap:Nat} (h:Cell.okWide Tryz.prog W .any base 22 (.slice (some a) n cap)):a.block<W.heap.size:=by
 simp only [Cell.okWide,Cell.ok,Tryz.underlying22] at h
 obtain ⟨_,_,_,_,row,cells,hs,_⟩:=h
 unfold World.shape? at hs
 by_cases hb:a.block<W.heap.size
 ·exact hb
 ·rw [Array.getElem?_eq_none (by omega)] at hs
  simp at hs
theorem plan_lt {W:World} {base:Nat} {kst ksy:Int} {fw sg:Bool} {lo:OA} {n cap:Nat} (h:Value.okWide Tryz.prog W .any base 24 (.agg #[.int .i64 kst,.int .i64 ksy,.bool fw,.bool sg,.slice lo n cap])) :
  ∀ b o,lo=some ⟨b,o,none⟩->b<W.heap.size:=by
 rintro b o rfl
 simp only [Value.okWide,Tryz.underlying24] at h
 obtain ⟨cs,e,_,ts,hts,_,hc⟩:=h
 obtain rfl:=Value.agg.inj e
 have ht:Tryz.prog.cellTypes Tryz.prog.depth 24=some [3,3,4,4,22]:=by kernel_rfl
 rw [ht] at hts
 cases hts
 obtain ⟨u,hu,ho⟩:=hc 4 _ rfl
 simp at hu
 subst hu
 exact slice_lt ho
end
section
theorem lst:True:=by
 first | exact (explore_any rise_any det_any known_any auto_any det_twins light_any ended_any begins_any hts_of bal_of det_gap seen_diag nf_bounds nf_mem AuO.vo AuO.lw AuO.cs AuO.aok VmF.vm VmF.next VmF.mono VmF.fr nf_len RR.new Rnd.step Rnd.start SqI.ahead wp_storeVAuto wp_loadAuto wp_storeVView op_makeR op_allocB exec_loadArc results_cellC det_again openPlan plan_lt pow_of_laid laid_shaped laid_wit) | trivial
end
section
open Go.RowKit
def allB:Nat->List (List Bool)
 | 0=>[[]]
 | n+1=>(allB n).flatMap fun l=>[false::l,true::l]
theorem mem_allB:∀ bs:List Bool,bs∈allB bs.length
 | []=>List.mem_singleton.2 rfl
 | b::bs=>List.mem_flatMap.2 ⟨bs,mem_allB bs,by cases b<;>simp⟩
theorem wpOp_plain {P:Program} {ops:Array Oper} {Q:EP} {K:Act->World->Prop} {i:Nat} {o:Oper} {a:Act} {w:World} (hi:ops[i]? = some o) (hg:o.guard=none) (h:o.wp P a w K Q):wpOp P ops Q i K a w:=by
 unfold wpOp
 have hw:Region.wanted o (yielded ops a.tmps)=true:=by simp [Region.wanted,hg]
 simp only [hi,hw,if_true]
 exact .inl h
theorem wp_gen {P:Program} {Q:EP} {K:Act->World->Prop} {o:Oper} {a:Act} {w:World} (h:∀ KK:Act->World->Prop,(∀ a' w',K a' w'->KK a' w')->o.wp P a w KK Q):o.wp P a w K Q:=h K fun _ _ h=>h
theorem wpAnyD_inv {P:Program} {md:Region.Mode} {ops:Array Oper} {Q:EP} {S:World->Prop} (n:Nat) (L:List Bool->Array Bool) (J:List Bool->Act->World->Prop) (R:Nat->List Bool->Bool)
  (hk:((allB n).all fun bs=>(Region.ready md ops (L bs)).all fun i=>R i bs)=true)
  (hz:((allB n).all fun bs=>!(Region.ready md ops (L bs)).isEmpty||bs.all id)=true)
  (hd:∀ bs a w,bs.length=n->bs.all id=true->J bs a w->Q .normal a w)
  (hs:∀ bs a w,bs.length=n->J bs a w->∀ i,R i bs=true->wpOp P ops Q i (fun a' w'=>S w'/\∃ bs',bs'.length=n/\(L bs).setIfInBounds i true=L bs'/\J bs' a' w') a w) :
  ∀ (fuel:Nat) (bs:List Bool) (a:Act) (w:World),bs.length=n->J bs a w->(L bs).toList.countP (fun b=>!b)<=fuel->wpAnyD P md ops Q S [] fuel (L bs) a w:=by
 have hpos:∀ (l:Array Bool) (i:Nat),i∈Region.ready md ops l->l.toList[i]? = some false:=by
  intro l i hi
  have h0:=(mem_ready.1 hi).1
  rcases Nat.lt_or_ge i l.size with h | h
  ·simp [h] at h0; simp [h,h0]
  ·simp [Array.getElem?_eq_none h] at h0
 have hR:∀ bs:List Bool,bs.length=n->∀ i∈Region.ready md ops (L bs),R i bs=true:=fun bs hb i hi=>List.all_eq_true.1 (List.all_eq_true.1 hk bs (hb▸mem_allB bs)) i hi
 have hE:∀ bs:List Bool,bs.length=n->Region.ready md ops (L bs)=[]->bs.all id=true:=fun bs hb he=>by
  have:=List.all_eq_true.1 hz bs (hb▸mem_allB bs)
  rw [he] at this
  simpa using this
 intro fuel
 induction fuel with
 | zero =>
  intro bs a w hb hJ hc
  have hr:Region.ready md ops (L bs)=[]:=by
   cases hr:Region.ready md ops (L bs) with
   | nil=>rfl
   | cons i rs =>
    have h1:=hpos (L bs) i (by rw [hr]; exact List.mem_cons_self)
    have h2:0<(L bs).toList.countP (fun b=>!b):=List.countP_pos_iff.2 ⟨false,List.mem_of_getElem? h1,rfl⟩
    omega
  exact ⟨hr,hd bs a w hb (hE bs hb hr) hJ⟩
 | succ fuel ih =>
  intro bs a w hb hJ hc
  refine ⟨fun he=>hd bs a w hb (hE bs hb he) hJ,fun i hi=>wpOp_mono (fun a' w' h'=>?_) (hs bs a w hb hJ i (hR bs hb i hi))⟩
  obtain ⟨hS,bs',hb',hl,hJ'⟩:=h'
  refine ⟨fun _=>hS,?_⟩
  rw [hl]
  refine ih bs' a' w' hb' hJ' ?_
  rw [<-hl]
  obtain ⟨hlt,h1⟩:=List.getElem?_eq_some_iff.1 (hpos (L bs) i hi)
  rw [Array.toList_setIfInBounds,List.countP_set hlt,h1]
  have h2:0<(L bs).toList.countP (fun b=>!b):=List.countP_pos_iff.2 ⟨false,by rw [<-h1]; exact List.getElem_mem hlt,rfl⟩
  simp only [Bool.not_false,Bool.not_true,if_true,Bool.false_eq_true,if_false]
  omega
structure BaI (w0 w:World) (nn:Nat) (b5 b11 b12 b13 b14 b15:Bool) (v17 v23 v3 v4:Value) (pg hg Pb Hb:Nat):Prop where
 below:Below w0.heap.size w0 w
 f5:b5=true->v17=rwV pg nn/\Rw 3 w w0.heap.size (rwV pg nn) nn fun _=>.int .i64 0
 f11:b11=true->v23=rwV hg nn/\Rw 3 w w0.heap.size (rwV hg nn) nn fun _=>.int .i64 0
 f12:b12=true->v3=.pointer (some ⟨Pb,0,none⟩)/\w0.heap.size<=Pb/\Bl Pb [if b14 then rwV pg nn else .slice none 0 0] 22 w
 f13:b13=true->v4=.pointer (some ⟨Hb,0,none⟩)/\w0.heap.size<=Hb/\Bl Hb [if b15 then rwV hg nn else .slice none 0 0] 22 w
 n1:b5=true->b11=true->pg≠hg
 n2:b12=true->b13=true->Pb≠Hb
 k14:b14=true->b5=true/\b12=true
 k15:b15=true->b11=true/\b13=true
section
variable {w0 w w':World} {nn:Nat} {b5 b11 b12 b13 b14 b15:Bool} {v17 v23 v3 v4:Value} {pg hg Pb Hb g:Nat}
theorem BaI.s5 (h:BaI w0 w nn b5 b11 b12 b13 b14 b15 v17 v23 v3 v4 pg hg Pb Hb) (h14:b14=false) (hr:Rw 3 w' w.heap.size (rwV g nn) nn fun _=>.int .i64 0) (hb:Below w.heap.size w w'):BaI w0 w' nn true b11 b12 b13 b14 b15 (rwV g nn) v23 v3 v4 g hg Pb Hb :=
 ⟨below_chain h.below hb,fun _=>⟨rfl,hr.mono h.below.size⟩,fun e=>⟨(h.f11 e).1,(h.f11 e).2.next hb⟩,fun e=>⟨(h.f12 e).1,(h.f12 e).2.1,by have:=(h.f12 e).2.2.next hb; rw [h14] at this ⊢; exact this⟩,fun e=>⟨(h.f13 e).1,(h.f13 e).2.1,(h.f13 e).2.2.next hb⟩,fun _ e2 e=>by have h1:=(hr.lt (g:=g) rfl).1; have h2:=((h.f11 e2).2.lt (g:=hg) rfl).2; omega,h.n2,fun e=>⟨rfl,(h.k14 e).2⟩,h.k15⟩
theorem BaI.s11 (h:BaI w0 w nn b5 b11 b12 b13 b14 b15 v17 v23 v3 v4 pg hg Pb Hb) (h15:b15=false) (hr:Rw 3 w' w.heap.size (rwV g nn) nn fun _=>.int .i64 0) (hb:Below w.heap.size w w'):BaI w0 w' nn b5 true b12 b13 b14 b15 v17 (rwV g nn) v3 v4 pg g Pb Hb :=
 ⟨below_chain h.below hb,fun e=>⟨(h.f5 e).1,(h.f5 e).2.next hb⟩,fun _=>⟨rfl,hr.mono h.below.size⟩,fun e=>⟨(h.f12 e).1,(h.f12 e).2.1,(h.f12 e).2.2.next hb⟩,fun e=>⟨(h.f13 e).1,(h.f13 e).2.1,by have:=(h.f13 e).2.2.next hb; rw [h15] at this ⊢; exact this⟩,fun e1 _ e=>by have h1:=(hr.lt (g:=g) rfl).1; have h2:=((h.f5 e1).2.lt (g:=pg) rfl).2; omega,h.n2,h.k14,fun e=>⟨rfl,(h.k15 e).2⟩⟩
theorem BaI.s12 (h:BaI w0 w nn b5 b11 b12 b13 b14 b15 v17 v23 v3 v4 pg hg Pb Hb) (h14:b14=false) (hG:Bl g [.slice none 0 0] 22 w') (hg':w.heap.size<=g) (hb:Below w.heap.size w w'):BaI w0 w' nn b5 b11 true b13 b14 b15 v17 v23 (.pointer (some ⟨g,0,none⟩)) v4 pg hg g Hb :=
 ⟨below_chain h.below hb,fun e=>⟨(h.f5 e).1,(h.f5 e).2.next hb⟩,fun e=>⟨(h.f11 e).1,(h.f11 e).2.next hb⟩,fun _=>⟨rfl,Nat.le_trans h.below.size hg',by rw [h14]; exact hG⟩,fun e=>⟨(h.f13 e).1,(h.f13 e).2.1,(h.f13 e).2.2.next hb⟩,h.n1,fun _ e2 (e:g=Hb)=>by have h2:=(h.f13 e2).2.2.lt; rw [<-e] at h2; exact absurd h2 (Nat.not_lt_of_le hg'),fun e=>⟨(h.k14 e).1,rfl⟩,h.k15⟩
theorem BaI.s13 (h:BaI w0 w nn b5 b11 b12 b13 b14 b15 v17 v23 v3 v4 pg hg Pb Hb) (h15:b15=false) (hG:Bl g [.slice none 0 0] 22 w') (hg':w.heap.size<=g) (hb:Below w.heap.size w w'):BaI w0 w' nn b5 b11 b12 true b14 b15 v17 v23 v3 (.pointer (some ⟨g,0,none⟩)) pg hg Pb g :=
 ⟨below_chain h.below hb,fun e=>⟨(h.f5 e).1,(h.f5 e).2.next hb⟩,fun e=>⟨(h.f11 e).1,(h.f11 e).2.next hb⟩,fun e=>⟨(h.f12 e).1,(h.f12 e).2.1,(h.f12 e).2.2.next hb⟩,fun _=>⟨rfl,Nat.le_trans h.below.size hg',by rw [h15]; exact hG⟩,h.n1,fun e1 _ (e:Pb=g)=>by have h2:=(h.f12 e1).2.2.lt; rw [e] at h2; exact absurd h2 (Nat.not_lt_of_le hg'),h.k14,fun e=>⟨(h.k15 e).1,rfl⟩⟩
theorem BaI.st14 (h:BaI w0 w nn b5 b11 true b13 b14 b15 v17 v23 v3 v4 pg hg Pb Hb) (h5:b5=true):BaI w0 (w.setCell ⟨Pb,0,none⟩ (rwV pg nn)) nn b5 b11 true b13 true b15 v17 v23 v3 v4 pg hg Pb Hb:=by
 obtain ⟨k1,k2,k3⟩:=h.f12 rfl
 have hf:Fr (fun b=>b=Pb) w (w.setCell ⟨Pb,0,none⟩ (rwV pg nn)):=Fr.set w (T:=fun b=>b=Pb) (p:=⟨Pb,0,none⟩) rfl _
 exact ⟨h.below.trans (hf.below (fun b e=>by subst e; exact k2) h.below.size),fun e=>⟨(h.f5 e).1,(h.f5 e).2.fr hf fun g hg' e'=>bl_ne k3 (h.f5 e).2 (by decide) (by rw [<-e']; exact hg')⟩,fun e=>⟨(h.f11 e).1,(h.f11 e).2.fr hf fun g hg' e'=>bl_ne k3 (h.f11 e).2 (by decide) (by rw [<-e']; exact hg')⟩,fun _=>⟨k1,k2,k3.put 0 _⟩,fun e=>⟨(h.f13 e).1,(h.f13 e).2.1,(h.f13 e).2.2.fr hf fun e'=>h.n2 rfl e e'.symm⟩,h.n1,h.n2,fun _=>⟨h5,rfl⟩,h.k15⟩
theorem BaI.st15 (h:BaI w0 w nn b5 b11 b12 true b14 b15 v17 v23 v3 v4 pg hg Pb Hb) (h11:b11=true):BaI w0 (w.setCell ⟨Hb,0,none⟩ (rwV hg nn)) nn b5 b11 b12 true b14 true v17 v23 v3 v4 pg hg Pb Hb:=by
 obtain ⟨k1,k2,k3⟩:=h.f13 rfl
 have hf:Fr (fun b=>b=Hb) w (w.setCell ⟨Hb,0,none⟩ (rwV hg nn)):=Fr.set w (T:=fun b=>b=Hb) (p:=⟨Hb,0,none⟩) rfl _
 exact ⟨h.below.trans (hf.below (fun b e=>by subst e; exact k2) h.below.size),fun e=>⟨(h.f5 e).1,(h.f5 e).2.fr hf fun g hg' e'=>bl_ne k3 (h.f5 e).2 (by decide) (by rw [<-e']; exact hg')⟩,fun e=>⟨(h.f11 e).1,(h.f11 e).2.fr hf fun g hg' e'=>bl_ne k3 (h.f11 e).2 (by decide) (by rw [<-e']; exact hg')⟩,fun e=>⟨(h.f12 e).1,(h.f12 e).2.1,(h.f12 e).2.2.fr hf fun e'=>h.n2 e rfl e'⟩,fun _=>⟨k1,k2,k3.put 0 _⟩,h.n1,h.n2,h.k14,fun _=>⟨h11,rfl⟩⟩
end
noncomputable def yR (n:Nat):Code:=(Tryz.f56.body.bind (findR n)).getD .skip
theorem bal_new (G Sb fb nn:Nat) (w:World) (hs:w.cell? ⟨Sb,0,none⟩=some (.pointer (some ⟨G,0,none⟩))) (hg9:w.cell? ⟨G,9,none⟩=some (rwV fb nn)) (hnn:nn<=4096)
  {c5 c6 c7 c8 c9 Aa Ab Ad Ae Af Ag Ah Ak Al Am An Ao Ap Aq Ar As Av Aw Ax Ay Az Ba Bb Bc Be Bf Bh Bi Bj Bk Bm Bn Bo Bp Bq Br Bs Bt Bu Bv Bw Bx By Bz Ca Cb Cc Cd Ce Cf Cg Ch Ci Cj Ck Cl Cm Cn Co Cp Cq Cr Ct Cu Cv Cw Cx Cy Cz Da Db Dc:Value} {Q0:EP} (hpan:∀ c (a:Act) d v w,Q0 (.panic c) (a.put d v) w->Q0 (.panic c) a w)
  (hexit:∀ (Dd De Df Dg Dh Di Dj Dk Dl Dn Dp Dq:Value) (pg hg Pb Hb:Nat) (w':World),BaI w w' nn true true true true true true (rwV pg nn) (rwV hg nn) (.pointer (some ⟨Pb,0,none⟩)) (.pointer (some ⟨Hb,0,none⟩)) pg hg Pb Hb->Q0 .normal ⟨#[.pointer (some ⟨G,0,none⟩),.pointer (some ⟨Sb,0,none⟩),.bool false,.pointer (some ⟨Pb,0,none⟩),.pointer (some ⟨Hb,0,none⟩),c5,c6,c7,c8,c9,Aa,Ab,Dd,De,Df,Dg,Dh,Di,Dj,Dk,Dl,Dn,Dp,Dq,Ad,Ae,Af,Ag,Ah,Ak,Al,Am,An,Ao,Ap,Aq,Ar,As,Av,Aw,Ax,Ay,Az,Ba,Bb,Bc,Be,Bf,Bh,Bi,Bj,Bk,Bm,Bn,Bo,Bp,Bq,Br,Bs,Bt,Bu,Bv,Bw,Bx,By,Bz,Ca,Cb,Cc,Cd,Ce,Cf,Cg,Ch,Ci,Cj,Ck,Cl,Cm,Cn,Co,Cp,Cq,Cr,Ct,Cu,Cv,Cw,Cx,Cy,Cz,Da,Db,Dc],[]⟩ w') :
  Code.wp Tryz.prog (yR 1) Q0 ⟨#[.pointer (some ⟨G,0,none⟩),.pointer (some ⟨Sb,0,none⟩),.bool false,undef,undef,c5,c6,c7,c8,c9,Aa,Ab,undef,undef,undef,undef,undef,undef,undef,undef,undef,undef,undef,undef,Ad,Ae,Af,Ag,Ah,Ak,Al,Am,An,Ao,Ap,Aq,Ar,As,Av,Aw,Ax,Ay,Az,Ba,Bb,Bc,Be,Bf,Bh,Bi,Bj,Bk,Bm,Bn,Bo,Bp,Bq,Br,Bs,Bt,Bu,Bv,Bw,Bx,By,Bz,Ca,Cb,Cc,Cd,Ce,Cf,Cg,Ch,Ci,Cj,Ck,Cl,Cm,Cn,Co,Cp,Cq,Cr,Ct,Cu,Cv,Cw,Cx,Cy,Cz,Da,Db,Dc],[]⟩ w:=by
 conv=>arg 2; whnf
 have hexit:=hid hexit
 have hdr:=(Below.refl w.heap.size w).drew
 have hS:w.drew.cell? ⟨Sb,0,none⟩=some (.pointer (some ⟨G,0,none⟩))/\w.drew.cell? ⟨G,9,none⟩=some (rwV fb nn):=⟨cell_later hdr hs,cell_later hdr hg9⟩
 refine wp_region_D (fun w'=>w'.cell? ⟨Sb,0,none⟩=some (.pointer (some ⟨G,0,none⟩))/\w'.cell? ⟨G,9,none⟩=some (rwV fb nn)) [] (by kernel_rfl) ?_
 refine tkBl 0 hpan (some 12) (v:=?_) rfl rfl ?_ hS ?_
 rotate_left
 ·intro wz hw; refine exec_load1 Sb 0 ?_ (.pointer (some ⟨G,0,none⟩)) hw.1 _ Tryz.underlying101 (by rfl); go_simp
 refine tkBp 1 hpan (some 13) rfl rfl hS ?_
 refine tkBp 2 hpan (some 14) rfl rfl hS ?_
 refine tkBl 3 hpan (some 15) (v:=?_) rfl rfl ?_ hS ?_
 rotate_left
 ·intro wz hw; refine exec_load1 G 9 ?_ (rwV fb nn) hw.2 _ Tryz.underlying102 (by rfl); go_simp
 refine tkBp 4 hpan (some 16) rfl rfl hS ?_
 refine tkBl 6 hpan (some 18) (v:=?_) rfl rfl ?_ hS ?_
 rotate_left
 ·intro wz hw; refine exec_load1 Sb 0 ?_ (.pointer (some ⟨G,0,none⟩)) hw.1 _ Tryz.underlying101 (by rfl); go_simp
 refine tkBp 7 hpan (some 19) rfl rfl hS ?_
 refine tkBp 8 hpan (some 20) rfl rfl hS ?_
 refine tkBl 9 hpan (some 21) (v:=?_) rfl rfl ?_ hS ?_
 rotate_left
 ·intro wz hw; refine exec_load1 G 9 ?_ (rwV fb nn) hw.2 _ Tryz.underlying102 (by rfl); go_simp
 refine tkBp 10 hpan (some 22) rfl rfl hS ?_
 go_simp
 refine wpAnyD_inv 6 (fun bs=>#[true,true,true,true,true,bs.getD 0 true,true,true,true,true,true,bs.getD 1 true,bs.getD 2 true,bs.getD 3 true,bs.getD 4 true,bs.getD 5 true])
  (fun bs a w'=>∃ (v17 v23 v3 v4:Value) (pg hg Pb Hb:Nat),a=⟨#[.pointer (some ⟨G,0,none⟩),.pointer (some ⟨Sb,0,none⟩),.bool false,v3,v4,c5,c6,c7,c8,c9,Aa,Ab,.pointer (some ⟨G,0,none⟩),.pointer (some ⟨G,0,none⟩),.pointer (some ⟨G,9,none⟩),rwV fb nn,.int .i64 (nn:Int),v17,.pointer (some ⟨G,0,none⟩),.pointer (some ⟨G,0,none⟩),.pointer (some ⟨G,9,none⟩),rwV fb nn,.int .i64 (nn:Int),v23,Ad,Ae,Af,Ag,Ah,Ak,Al,Am,An,Ao,Ap,Aq,Ar,As,Av,Aw,Ax,Ay,Az,Ba,Bb,Bc,Be,Bf,Bh,Bi,Bj,Bk,Bm,Bn,Bo,Bp,Bq,Br,Bs,Bt,Bu,Bv,Bw,Bx,By,Bz,Ca,Cb,Cc,Cd,Ce,Cf,Cg,Ch,Ci,Cj,Ck,Cl,Cm,Cn,Co,Cp,Cq,Cr,Ct,Cu,Cv,Cw,Cx,Cy,Cz,Da,Db,Dc],[]⟩/\BaI w.drew w' nn (bs.getD 0 true) (bs.getD 1 true) (bs.getD 2 true) (bs.getD 3 true) (bs.getD 4 true) (bs.getD 5 true) v17 v23 v3 v4 pg hg Pb Hb)
  (fun i bs=>(i==5&&!bs.getD 0 true)||(i==11&&!bs.getD 1 true)||(i==12&&!bs.getD 2 true)||(i==13&&!bs.getD 3 true)||(i==14&&!bs.getD 4 true&&bs.getD 0 true&&bs.getD 2 true&&bs.getD 3 true)||(i==15&&!bs.getD 5 true&&bs.getD 4 true&&bs.getD 0 true&&bs.getD 1 true&&bs.getD 2 true&&bs.getD 3 true))
  (by kernel_rfl) (by kernel_rfl) ?_ ?_ _ [false,false,false,false,false,false] _ _ rfl ?_ (by decide)
 ·intro bs a w' hb hall hJ
  match bs,hb with
  | [b5,b11,b12,b13,b14,b15],_ =>
   simp only [List.all_cons,List.all_nil,id_eq,Bool.and_true,Bool.and_eq_true] at hall
   obtain ⟨h5,h11,h12,h13,h14,h15⟩:=hall
   subst h5 h11 h12 h13 h14 h15
   obtain ⟨v17,v23,v3,v4,pg,hg,Pb,Hb,rfl,hI⟩:=hJ
   have hI:BaI w.drew w' nn true true true true true true v17 v23 v3 v4 pg hg Pb Hb:=hI
   obtain ⟨rfl,_⟩:=hI.f5 rfl
   obtain ⟨rfl,_⟩:=hI.f11 rfl
   obtain ⟨rfl,_⟩:=hI.f12 rfl
   obtain ⟨rfl,_⟩:=hI.f13 rfl
   exact hexit.out _ _ _ _ _ _ _ _ _ _ _ _ pg hg Pb Hb w' ⟨hdr.trans (hI.below.mono hdr.size),fun _=>⟨rfl,(hI.f5 rfl).2.mono hdr.size⟩,fun _=>⟨rfl,(hI.f11 rfl).2.mono hdr.size⟩,fun _=>⟨rfl,Nat.le_trans hdr.size (hI.f12 rfl).2.1,(hI.f12 rfl).2.2⟩,fun _=>⟨rfl,Nat.le_trans hdr.size (hI.f13 rfl).2.1,(hI.f13 rfl).2.2⟩,hI.n1,hI.n2,hI.k14,hI.k15⟩
 ·intro bs a w' hb hJ i hR
  match bs,hb with
  | [b5,b11,b12,b13,b14,b15],_ =>
   obtain ⟨v17,v23,v3,v4,pg,hg,Pb,Hb,rfl,hI⟩:=hJ
   have hI:BaI w.drew w' nn b5 b11 b12 b13 b14 b15 v17 v23 v3 v4 pg hg Pb Hb:=hI
   have hS':w'.cell? ⟨Sb,0,none⟩=some (.pointer (some ⟨G,0,none⟩))/\w'.cell? ⟨G,9,none⟩=some (rwV fb nn):=⟨cell_later hI.below hS.1,cell_later hI.below hS.2⟩
   simp only [Bool.or_eq_true,Bool.and_eq_true,beq_iff_eq,Bool.not_eq_true',List.getD_cons_zero,List.getD_cons_succ] at hR
   rcases hR with ((((⟨rfl,h5⟩ | ⟨rfl,h11⟩) | ⟨rfl,h12⟩) | ⟨rfl,h13⟩) | ⟨⟨⟨⟨rfl,h14⟩,h5⟩,h12⟩,h13⟩) | ⟨⟨⟨⟨⟨⟨rfl,h15⟩,h14⟩,h5⟩,h11⟩,h12⟩,h13⟩
   ·subst h5
    refine wpOp_plain rfl rfl ?_
    with_reducible refine op_makeR (.tmp 16) (.tmp 16) 22 ?_ 3 (.int .i64 0) 8 Tryz.underlying22 Tryz.infoInt1 ?_ .i64 .i64 (nn:Int) (nn:Int) nn ?_ ?_ ?_ ?_ ?_ ?_ ?_
    ·rfl
    ·rfl
    ·rfl
    ·rfl
    ·rfl
    ·rfl
    ·omega
    ·omega
    intro w2 g hr hb2
    have hx:b14=false:=by
     cases e:b14 with
     | false=>rfl
     | true=>have:=(hI.k14 e).1; cases this
    exact ⟨⟨cell_later hb2 hS'.1,cell_later hb2 hS'.2⟩,[true,b11,b12,b13,b14,b15],rfl,rfl,_,_,_,_,_,_,_,_,rfl,hI.s5 hx hr hb2⟩
   ·subst h11
    refine wpOp_plain rfl rfl ?_
    with_reducible refine op_makeR (.tmp 22) (.tmp 22) 22 ?_ 3 (.int .i64 0) 8 Tryz.underlying22 Tryz.infoInt1 ?_ .i64 .i64 (nn:Int) (nn:Int) nn ?_ ?_ ?_ ?_ ?_ ?_ ?_
    ·rfl
    ·rfl
    ·rfl
    ·rfl
    ·rfl
    ·rfl
    ·omega
    ·omega
    intro w2 g hr hb2
    have hx:b15=false:=by
     cases e:b15 with
     | false=>rfl
     | true=>have:=(hI.k15 e).1; cases this
    exact ⟨⟨cell_later hb2 hS'.1,cell_later hb2 hS'.2⟩,[b5,true,b12,b13,b14,b15],rfl,rfl,_,_,_,_,_,_,_,_,rfl,hI.s11 hx hr hb2⟩
   ·subst h12
    refine wpOp_plain rfl rfl ?_
    with_reducible refine op_allocB 22 ?_ [.slice none 0 0] ?_ ?_
    ·rfl
    ·exact fun _=>by kernel_rfl
    intro w2 g hG hb2 hg2
    have hx:b14=false:=by
     cases e:b14 with
     | false=>rfl
     | true=>have:=(hI.k14 e).2; cases this
    exact ⟨⟨cell_later hb2 hS'.1,cell_later hb2 hS'.2⟩,[b5,b11,true,b13,b14,b15],rfl,rfl,_,_,_,_,_,_,_,_,rfl,hI.s12 hx hG hg2 hb2⟩
   ·subst h13
    refine wpOp_plain rfl rfl ?_
    with_reducible refine op_allocB 22 ?_ [.slice none 0 0] ?_ ?_
    ·rfl
    ·exact fun _=>by kernel_rfl
    intro w2 g hG hb2 hg2
    have hx:b15=false:=by
     cases e:b15 with
     | false=>rfl
     | true=>have:=(hI.k15 e).2; cases this
    exact ⟨⟨cell_later hb2 hS'.1,cell_later hb2 hS'.2⟩,[b5,b11,b12,true,b14,b15],rfl,rfl,_,_,_,_,_,_,_,_,rfl,hI.s13 hx hG hg2 hb2⟩
   ·subst h14 h5 h12 h13
    obtain ⟨rfl,k2,k3⟩:=hI.f12 rfl
    obtain ⟨rfl,_⟩:=hI.f5 rfl
    have hlt1:Sb<Pb:=Nat.lt_of_lt_of_le (World.block_lt_of_cell? _ _ hS.1) k2
    have hlt2:G<Pb:=Nat.lt_of_lt_of_le (World.block_lt_of_cell? _ _ hS.2) k2
    refine wpOp_plain rfl rfl ?_
    have z1:=k3.cell (i:=0) rfl
    have z2:=k3.free 0
    simp only [Bool.false_eq_true,if_false] at z1
    have hI2:=hI.st14 rfl
    have hS2:=(show _/\_ from ⟨(Fr.set w' (T:=fun b=>b=Pb) (p:=⟨Pb,0,none⟩) rfl (rwV pg nn)).cell hS'.1 (fun e=>by omega),(Fr.set w' (T:=fun b=>b=Pb) (p:=⟨Pb,0,none⟩) rfl (rwV pg nn)).cell hS'.2 (fun e=>by omega)⟩)
    refine wp_gen fun KK hKK=>?_
    go_simp
    exact hKK _ _ ⟨hS2,[true,b11,true,true,true,b15],rfl,rfl,_,_,_,_,_,_,_,_,rfl,hI2⟩
   ·subst h15 h14 h5 h11 h12 h13
    obtain ⟨rfl,k2,k3⟩:=hI.f13 rfl
    obtain ⟨rfl,_⟩:=hI.f11 rfl
    have hlt1:Sb<Hb:=Nat.lt_of_lt_of_le (World.block_lt_of_cell? _ _ hS.1) k2
    have hlt2:G<Hb:=Nat.lt_of_lt_of_le (World.block_lt_of_cell? _ _ hS.2) k2
    refine wpOp_plain rfl rfl ?_
    have z1:=k3.cell (i:=0) rfl
    have z2:=k3.free 0
    simp only [Bool.false_eq_true,if_false] at z1
    have hI2:=hI.st15 rfl
    have hS2:=(show _/\_ from ⟨(Fr.set w' (T:=fun b=>b=Hb) (p:=⟨Hb,0,none⟩) rfl (rwV hg nn)).cell hS'.1 (fun e=>by omega),(Fr.set w' (T:=fun b=>b=Hb) (p:=⟨Hb,0,none⟩) rfl (rwV hg nn)).cell hS'.2 (fun e=>by omega)⟩)
    refine wp_gen fun KK hKK=>?_
    go_simp
    exact hKK _ _ ⟨hS2,[true,true,true,true,true,true],rfl,rfl,_,_,_,_,_,_,_,_,rfl,hI2⟩
 ·exact ⟨undef,undef,undef,undef,0,0,0,0,rfl,Below.refl _ _,(fun e=>by cases e),(fun e=>by cases e),(fun e=>by cases e),(fun e=>by cases e),(fun e=>by cases e),(fun e=>by cases e),(fun e=>by cases e),(fun e=>by cases e)⟩
end
end Go.Proofs.YtnapapijhhldpaaGreatDoor

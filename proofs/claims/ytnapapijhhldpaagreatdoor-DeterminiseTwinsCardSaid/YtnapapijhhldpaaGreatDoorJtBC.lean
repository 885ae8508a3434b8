/-
  Texts joined by program: Txg, Txh. No condition of its own.
-/
import Derived.Test.YtnapapijhhldpaaGreatDoorJtBB
namespace Go.Proofs.YtnapapijhhldpaaGreatDoor
set_option linter.unusedSimpArgs false
set_option linter.unusedVariables false
set_option maxRecDepth 100000
set_option maxHeartbeats 4000000
section
open Go.RowKit
theorem bl_bl {X Y:Nat} {cs ds:List Value} {T1 T2:TypeId} {w:World} (h:Bl X cs T1 w) (k:Bl Y ds T2 w) (hT:T1≠T2):X≠Y:=fun e=>by
 subst e
 have h':w.heap[X]? = some (.cells cs.toArray T1 (0,0)):=h
 have k':w.heap[X]? = some (.cells ds.toArray T2 (0,0)):=k
 rw [h'] at k'
 injection k' with k'
 injection k' with _ k' _
 exact hT k'
theorem RsM.count {base G nn syms st:Nat} {iv fv rv vv ev:Value} {S:Sqr} {fb tb sb:Nat} {ov:Value} {F T:Nat->Value} {Pb Kb Hb Sb Rb pg hg:Nat} {K:Nat} {p:Pts} {w:World} (h:RsM w base G nn syms st iv fv rv vv ev S fb tb sb ov F T Pb Kb Hb Sb Rb pg hg K p) (hsK:∀ g,SqB G nn fb tb sb ov F T g->g≠Kb):RsM (w.setCell ⟨Kb,0,none⟩ (.int .i64 ((K:Int)+1))) base G nn syms st iv fv rv vv ev S fb tb sb ov F T Pb Kb Hb Sb Rb pg hg (K+1) p:=by
 have hf:Fr (fun b=>b=Kb) w (w.setCell ⟨Kb,0,none⟩ (.int .i64 ((K:Int)+1))):=Fr.set w (T:=fun b=>b=Kb) (p:=⟨Kb,0,none⟩) rfl _
 exact ⟨h.sq.keep hf hsK,h.pb.fr hf (bl_bl h.pb h.kb (by decide)),h.kb.put 0 _,h.hb.fr hf (bl_bl h.hb h.kb (by decide)),h.sbk.fr hf (bl_bl h.sbk h.kb (by decide)),h.rb.fr hf (bl_bl h.rb h.kb (by decide)),h.part.fr hf fun g hg e=>by cases hg; exact h.kn.1 e.symm,h.hght.fr hf fun g hg e=>by cases hg; exact h.kn.2 e.symm,h.ne,h.kn,h.sep⟩
theorem fPt_zero (j:Nat):Value.int .i64 0=fPt ⟨fun _=>0,fun _=>0⟩ j:=rfl
def BalO (S:Sqr) (w:World) (e:Ending) (w':World):Prop:=∃ b:Bool,e=.returned (.bool b)/\(b=true->∃ pt ht,Hts S pt ht)/\((∀ i m,m∈S.fr i->m.2=0)->b=true)/\Below w.heap.size w w'
theorem balanced_any {base G nn syms st:Nat} {iv fv rv vv ev:Value} {S:Sqr} {fb tb sb:Nat} {ov:Value} {F T:Nat->Value} {A:Au} {n:Nat} (hI:SqI A n [] S) (hok:∀ x∈A.arcs,x.1<n/\x.2.2.1<n) (hn:nn=n*n) (hMv:MvK nn 1048576 S) (hol:S.ord.length<=1000000) (w:World) (h:SqM w base G nn syms st iv fv rv vv ev S fb tb sb ov F T) :
  Calls Tryz.prog 56 #[.pointer (some ⟨G,0,none⟩)] w (BalO S w):=by
 obtain ⟨oo,oc,hov,-, -⟩:=h.ord.fl
 obtain ⟨nl,hnl⟩:∃ nl,(S.ord.map orC).length=nl:=⟨_,rfl⟩
 rw [hnl] at hov
 replace hov:=hid hov
 replace hn:=hid hn
 have hnl2:S.ord.length=nl:=by rw [<-hnl,List.length_map]
 have hnl1:=hid hnl
 have hb0:Below w.heap.size w (w.alloc (.cells #[.pointer (some ⟨G,0,none⟩)] 101)):=below_alloc _
 have hSb:=Bl.fresh w [.pointer (some ⟨G,0,none⟩)] 101
 have h1:=h.next hb0
 have hge:=hid h.ge
 have hlt:=hid h.lt
 have hnn:=hMv.big.1
 go_enter Tryz.func56,Tryz.ntmps56
 go_upto_region 1 with fail
 generalize hW1:(w.alloc (.cells #[.pointer (some ⟨G,0,none⟩)] 101))=w1 at *
 obtain ⟨Sb,hSe⟩:∃ Sb,w.heap.size=Sb:=⟨_,rfl⟩
 have hb0':=hid hb0
 rw [hSe] at hSb ⊢
 clear hSe
 have hs0:=hSb.cell (i:=0) rfl
 have hg9:=h1.blk.cell (i:=9) rfl
 clear hW1
 refine bal_new G Sb fb nn w1 hs0 hg9 hnn (fun _ _ d _ _ h=>by cases d<;>exact h) ?_
 intro _ _ _ _ _ _ _ _ _ _ _ _ pg hg Pb Hb w2 hBa
 obtain ⟨-, hpg⟩:=hBa.f5 rfl
 obtain ⟨-, hhg⟩:=hBa.f11 rfl
 obtain ⟨-, hPb1,hPb⟩:=hBa.f12 rfl
 obtain ⟨-, hHb1,hHb⟩:=hBa.f13 rfl
 have hne:=hBa.n1 rfl rfl
 simp only [if_true] at hPb hHb
 have h2:=h1.next hBa.below
 have hSb2:=hSb.next hBa.below
 have hb2:=hid (below_chain hb0 hBa.below)
 have hlp:=(hpg.lt (g:=pg) rfl)
 have hlh:=(hhg.lt (g:=hg) rfl)
 have hl1:w.heap.size<=w1.heap.size:=hb0.size
 clear hBa hs0 hg9 hSb h1
 have hb3:Below w2.heap.size w2 (w2.alloc (.cells #[.int .i64 0] 3)):=below_alloc _
 have hKb:=Bl.fresh w2 [.int .i64 0] 3
 have hPb:=hPb.next hb3
 have hHb:=hHb.next hb3
 have hSb3:=hSb2.next hb3
 have h3:=h2.next hb3
 have hpg3:=hpg.next hb3
 have hhg3:=hhg.next hb3
 go_upto_region 3 with fail
 generalize hW3:(w2.alloc (.cells #[.int .i64 0] 3))=w3 at *
 obtain ⟨Kb,hKe⟩:∃ Kb,w2.heap.size=Kb:=⟨_,rfl⟩
 have hk1:Kb≠pg/\Kb≠hg:=⟨by omega,by omega⟩
 have hpgl:w.heap.size<=pg:=by omega
 have hhgl:w.heap.size<=hg:=by omega
 have hKlt:w.heap.size<=Kb:=by rw [<-hKe]; exact hb2.out.size
 have hb30:=hid (below_chain hb2.out hb3)
 rw [hKe] at hKb ⊢
 clear hW3 hb3 hSb2 h2 hpg hhg
 have hb5:Below w3.heap.size w3 (w3.alloc (.cells #[riF Pb Kb Hb Sb w3.heap.size] 71)):=below_alloc _
 have hRb:=Bl.fresh w3 [riF Pb Kb Hb Sb w3.heap.size] 71
 go_upto_region 5 with fail
 generalize hW5:(w3.alloc (.cells #[riF Pb Kb Hb Sb w3.heap.size] 71))=w5 at *
 have hlt':=hlt.out
 have hR:RsM w5 base G nn syms st iv fv rv vv ev S fb tb sb ov F T Pb Kb Hb Sb w3.heap.size pg hg 0 ⟨fun _=>0,fun _=>0⟩ :=
  ⟨h3.next hb5,hPb.next hb5,hKb.next hb5,hHb.next hb5,hSb3.next hb5,hRb,((hpg3.next hb5).congr fun j _=>fPt_zero j).mono (by omega),((hhg3.next hb5).congr fun j _=>fPt_zero j).mono (by omega),hne,hk1,fun g hg'=>⟨by have:=(hge.out g hg').2; omega,by have:=(hge.out g hg').2; omega⟩⟩
 obtain ⟨Rb,hRe⟩:∃ Rb,w3.heap.size=Rb:=⟨_,rfl⟩
 have hb50:=hid (below_chain hb30.out hb5)
 rw [hRe] at hR ⊢
 clear hW5 hb5 hRb hb30 h3 hPb hHb hSb3 hKb hpg3 hhg3 hb0 hlt hlp hlh hl1 hPb1 hHb1 hRe hKe
 have q0:=hR.sbk.cell (i:=0) rfl
 have q12:=hR.sq.blk.cell (i:=12) rfl
 rw [hov.out] at q12
 replace hR:=hid hR
 have hinj:=hid hI
 have hseen:=hid (hI.ahead hok)
 go_wp2_with fail
 go_loopw [7] (fun kv wr=>∃ (c:Nat) (p:Pts) (z:Int),c<=nl/\kv=.int .i64 z/\Hid (z=(c:Int)-1)/\Hid (RsM wr base G nn syms st iv fv rv vv ev S fb tb sb ov F T Pb Kb Hb Sb Rb pg hg (nl-c) p)/\Hid (Rnd S (1048576*(nn+1)) (nl-c) p)/\Hid (∀ j i,c<=j->S.ord[j]? = some i->p.pt i≠0)/\Hid (Below w.heap.size w wr)) (fun kv _=>(intOf kv+1).toNat)
 case atStart=>exact ⟨nl,⟨fun _=>0,fun _=>0⟩,(nl:Int)-1,Nat.le_refl _,rfl,hid rfl,hid (by rw [Nat.sub_self]; exact hR.out),hid (by rw [Nat.sub_self]; exact Rnd.start S _),hid (fun j i h1 h2=>by have:=(List.getElem?_eq_some_iff.1 h2).1; omega),hb50⟩
 case round =>
  clear q0 q12 hR hb50
  obtain ⟨c,p,z,hc,rfl,hz,hR,hrn,hdn,hb⟩:=hrel
  by_cases hc0:0<c
  ·obtain ⟨i,hi⟩:∃ i,S.ord[c-1]? = some i:=⟨_,List.getElem?_eq_getElem (by omega)⟩
   have hil:i<nn:=by rw [hn.out]; exact (hI.ord i (List.mem_of_getElem? hi)).2
   obtain ⟨zz,hzz⟩:∃ zz:Nat,c=zz+1:=⟨c-1,by omega⟩
   subst hzz
   obtain rfl:z=(zz:Int):=by have:=hz.out; omega
   rw [Nat.add_sub_cancel] at hi
   have z1:(0:Int)<=(zz:Int):=by omega
   have z2:(zz:Int)<(nl:Int):=by omega
   have z3:¬ (zz:Int)<0:=by omega
   have z2n:zz<nl:=by omega
   obtain ⟨K,hKd⟩:∃ K,nl-(zz+1)=K:=⟨_,rfl⟩
   rw [hKd] at hR hrn
   have hK1:=hid (show nl-zz=K+1 by omega)
   have hKm:K<=1000000:=by omega
   have q5:=hR.out.kb.cell (i:=0) rfl
   have q5f:=hR.out.kb.free 0
   have hwK:IntKind.i64.wrap ((K:Int)+1)=(K:Int)+1:=by rw [IntKind.wrap_i64]; omega
   obtain ⟨i',hi',bo,oo',hoo,hco⟩:=(fl_of (by have:=hR.out.sq.ord; rw [hov.out] at this; exact this) hnl1.out).get (f:=orC) z2n
   obtain rfl:i=i':=Option.some.inj (hi.symm.trans hi')
   have hi:=hid hi
   have f8:Fr (fun b=>b=Kb) wr (wr.setCell ⟨Kb,0,none⟩ (.int .i64 ((K:Int)+1))):=Fr.set wr (T:=fun b=>b=Kb) (p:=⟨Kb,0,none⟩) rfl _
   have hR8:=hR.out.count fun g hg' e=>by have:=(hge.out g hg').2; omega
   have hb8:=hid (hb.out.trans (f8.below (B:=w.heap.size) (fun b e=>by rw [e]; exact hKlt) hb.out.size))
   have ho8:=Cs.fr hco f8 (fun e=>by have:=(hge.out Kb (.inr (.inr (.inr (.inr (by rw [hov.out,hoo,<-e]; rfl)))))).2; omega)
   have hro:=hid (rise_any base G nn syms st iv fv rv vv ev S fb tb sb ov F T Pb Kb Hb Sb Rb pg hg (K+1) (by omega) (by omega) hMv (cZ p nn) [] i 0 p)
   go_upto_region 9 with fail
   generalize hW8:(wr.setCell ⟨Kb,0,none⟩ (.int .i64 ((K:Int)+1)))=w8 at *
   clear hW8
   have hdr:=(Below.refl w8.heap.size w8).drew
   have hR9:=hR8.next hdr
   have hb9:=hid (below_chain hb8.out hdr)
   have ho9:w8.drew.cell? ⟨bo,oo'+zz*1,none⟩=some (.int .i64 (i:Int)):=cell_later hdr (ho8 0 _ rfl)
   have hov9:w8.drew.cell? ⟨G,12,none⟩=some (.slice (some ⟨bo,oo',none⟩) nl oc):=by have:=hR9.sq.blk.cell (i:=12) rfl; rw [hov.out,hoo] at this; exact this
   rw [Nat.mul_one] at ho9
   have hS:w8.drew.cell? ⟨Rb,0,none⟩=some (riF Pb Kb Hb Sb Rb)/\w8.drew.cell? ⟨Sb,0,none⟩=some (.pointer (some ⟨G,0,none⟩))/\w8.drew.cell? ⟨G,12,none⟩=some (.slice (some ⟨bo,oo',none⟩) nl oc)/\w8.drew.cell? ⟨bo,oo'+zz,none⟩=some (.int .i64 (i:Int)):=⟨hR9.rb.cell (i:=0) rfl,hR9.sbk.cell (i:=0) rfl,hov9,ho9⟩
   have hri:=hid (hro.out _ (Nat.le_refl _) hR9 hrn.out.shut hrn.out.bnd hil (Nat.zero_le _))
   clear hR8 hb8 ho8 hR hco ho9 hov9 hro
   refine wp_region_D (fun w'=>w'.cell? ⟨Rb,0,none⟩=some (riF Pb Kb Hb Sb Rb)/\w'.cell? ⟨Sb,0,none⟩=some (.pointer (some ⟨G,0,none⟩))/\w'.cell? ⟨G,12,none⟩=some (.slice (some ⟨bo,oo',none⟩) nl oc)/\w'.cell? ⟨bo,oo'+zz,none⟩=some (.int .i64 (i:Int))) [8] (by kernel_rfl) ?_
   refine tkAl 0 (some 37) (v:=?_) rfl rfl ?_ hS ?_
   rotate_left
   ·intro wz hw; refine exec_load1 Rb 0 ?_ (riF Pb Kb Hb Sb Rb) hw.1 _ Tryz.underlying71 (by rfl); go_simp
   refine tkAl 1 (some 38) (v:=?_) rfl rfl ?_ hS ?_
   rotate_left
   ·intro wz hw; refine exec_load1 Sb 0 ?_ (.pointer (some ⟨G,0,none⟩)) hw.2.1 _ Tryz.underlying101 (by rfl); go_simp
   refine tkAp 2 (some 39) rfl rfl hS ?_
   refine tkAp 3 (some 40) rfl rfl hS ?_
   refine tkAl 4 (some 41) (v:=?_) rfl rfl ?_ hS ?_
   rotate_left
   ·intro wz hw; refine exec_load1 G 12 ?_ (.slice (some ⟨bo,oo',none⟩) nl oc) hw.2.2.1 _ Tryz.underlying22 (by rfl); go_simp
   refine tkAp 5 (some 42) rfl rfl hS ?_
   refine tkAp 6 (some 43) rfl rfl hS ?_
   refine tkAl 7 (some 44) (v:=?_) rfl rfl ?_ hS ?_
   rotate_left
   ·intro wz hw; refine exec_loadI bo (oo'+zz) ?_ (.int .i64 (i:Int)) hw.2.2.2; go_simp
   go_simp
   refine wpO (i:=8) rfl fun KK hKK=>?_
   go_simp
   go_at_call 85
   refine hri.out.mono ?_; rintro e w4 ⟨q,rfl,hR4,hr4,hf4⟩
   go_simp
   refine lN hKK ?_; clear hKK KK
   refine wpAnyD_done (by kernel_rfl) ?_ _
   have hrn4:=hid (hrn.out.step hr4)
   have hdn4:=hid (show ∀ j i',zz<=j->S.ord[j]? = some i'->q.pt i'≠0 from fun j i' h1 h2=>by
    by_cases e:j=zz
    ·subst e
     rw [hi.out] at h2
     cases h2
     exact hr4.here
    ·rw [hr4.keep i' (hdn.out j i' (by omega) h2)]
     exact hdn.out j i' (by omega) h2)
   have hb4:=hid (hb9.out.trans (hf4.below (B:=w.heap.size) (fun b e=>by rcases e with e | e<;>(rw [e]; first | exact hpgl | exact hhgl)) hb9.out.size))
   have hR4:=hid hR4
   have hzd:=hid (show ((zz:Int)-1)=(zz:Int)-1 from rfl)
   clear hri hR9 hS hdr hr4 hf4 hb9 hrn hdn hb hz
   go_wp2_with fail
   go_roundw
   case rel=>exact ⟨zz,by omega,hid rfl,q,by rw [hK1.out]; exact hR4,by rw [hK1.out]; exact hrn4,hdn4⟩
   case measure=>simp [intOf]; omega
  ·obtain rfl:c=0:=by omega
   obtain rfl:z = -1:=by have:=hz.out; omega
   rw [Nat.sub_zero] at hR hrn
   have q0:=hR.out.sbk.cell (i:=0) rfl
   have q12:=hR.out.sq.blk.cell (i:=12) rfl
   rw [hov.out] at q12
   have hpz:=hid (fun i (hi:i∈S.ord)=>(by obtain ⟨j,hj⟩:=List.getElem?_of_mem hi; exact hdn.out j i (Nat.zero_le _) hj:p.pt i≠0))
   clear hdn hz
   obtain ⟨wo,rfl⟩:∃ wo:World,wo=wr:=⟨_,rfl⟩
   go_wp2_with fail
   go_loopw [51] (fun kv wr=>∃ k:Nat,k<=nl/\kv=.int .i64 (k:Int)/\Hid (∀ j i,j<k->S.ord[j]? = some i->Fit S p i (S.fr i).length)/\Hid (RsM wr base G nn syms st iv fv rv vv ev S fb tb sb ov F T Pb Kb Hb Sb Rb pg hg nl p)/\Hid (Below w.heap.size w wr)) (fun kv _=>nl-(intOf kv).toNat)
   case atStart=>exact ⟨0,Nat.zero_le _,rfl,hid (fun j i h=>by omega),hR,hb⟩
   case round =>
    clear q0 q12 hR hb
    obtain ⟨k,hk,rfl,hfit,hR,hb⟩:=hrel
    by_cases hlt2:k<nl
    ·have k1:(k:Int)<(nl:Int):=by omega
     have k0:(0:Int)<=(k:Int):=by omega
     obtain ⟨i,hki,bo,oo',hoo,hco⟩:=(fl_of (by have:=hR.out.sq.ord; rw [hov.out] at this; exact this) hnl1.out).get (f:=orC) hlt2
     have hio:=List.mem_of_getElem? hki
     have hil:i<nn:=by rw [hn.out]; exact (hI.ord i hio).2
     have c0:wr.cell? ⟨bo,oo'+k,none⟩=some (.int .i64 (i:Int)):=by have:=hco 0 _ rfl; rw [Nat.mul_one] at this; exact this
     subst hoo
     have q0:=hR.out.sbk.cell (i:=0) rfl
     have q9:=hR.out.sq.blk.cell (i:=9) rfl
     have qf:=hR.out.sq.fr.row.cell hil
     obtain ⟨ao,ca,hFi,-, -⟩:=(hR.out.sq.fr.el i hil).fl
     obtain ⟨nf,hnf⟩:∃ nf,((S.fr i).map mvC).length=nf:=⟨_,rfl⟩
     rw [hnf] at hFi
     rw [hFi] at qf
     have hnf2:=hid (show (S.fr i).length=nf by rw [<-hnf,List.length_map])
     have hnfb:=hid (fl_of (by have:=hR.out.sq.fr.el i hil; rw [hFi] at this; exact this) hnf).bound
     have hFi:=hid hFi
     have hnf:=hid hnf
     have i1:(i:Int)<(nn:Int):=by omega
     have i0:(0:Int)<=(i:Int):=by omega
     have hki:=hid hki
     have hio:=hid hio
     have hft0:=hid (show Fit S p i 0 from fun m hm=>by simp at hm)
     clear hco
     obtain ⟨wq,rfl⟩:∃ wq:World,wq=wr:=⟨_,rfl⟩
     go_wp2_with fail
     go_loopw [63] (fun jv wr=>∃ j:Nat,j<=nf/\jv=.int .i64 (j:Int)/\Hid (Fit S p i j)/\Hid (RsM wr base G nn syms st iv fv rv vv ev S fb tb sb ov F T Pb Kb Hb Sb Rb pg hg nl p)/\Hid (Below w.heap.size w wr)) (fun jv _=>nf-(intOf jv).toNat)
     case atStart=>exact ⟨0,Nat.zero_le _,rfl,hft0,hR,hb⟩
     case round =>
      clear q0 q9 qf c0 hR hb hft0
      obtain ⟨j,hj,rfl,hft,hR,hb⟩:=hrel
      by_cases hlt3:j<nf
      ·have j1:(j:Int)<(nf:Int):=by omega
       have j0:(0:Int)<=(j:Int):=by omega
       obtain ⟨m,hmj,bm,om,hao,hcm⟩:=(fl_of (by have:=hR.out.sq.fr.el i hil; rw [hFi.out] at this; exact this) hnf.out).get (f:=mvC) hlt3
       have hmi:=List.mem_of_getElem? hmj
       have hml:m.1<nn:=by rw [hn.out]; exact (hI.snd i m hmi).2.2.1
       have hm2:=(hMv.lt m.1 (i,m.2) ((hI.dual i m.1 m.2).1 hmi)).2
       have hbi:=hrn.out.bnd i
       have hbm:=hrn.out.bnd m.1
       have hwh:IntKind.i64.wrap (p.ht i+m.2)=p.ht i+m.2:=by rw [IntKind.wrap_i64]; simp only at hm2; omega
       have hbM:Below wr.heap.size wr (wr.alloc (.cells #[.int .i64 (m.1:Int),.int .i64 m.2] 136)):=below_alloc _
       have hX:=Bl.fresh wr [.int .i64 (m.1:Int),.int .i64 m.2] 136
       have hR2:=hid (hR.out.next hbM)
       have hb2:=hid (below_chain hb.out hbM)
       subst hao
       have d0:wr.cell? ⟨bm,om+j*2,none⟩=some (.int .i64 (m.1:Int)):=hcm 0 _ rfl
       have d1:wr.cell? ⟨bm,om+j*2+1,none⟩=some (.int .i64 m.2):=hcm 1 _ rfl
       have hmj:=hid hmj
       have hmi:=hid hmi
       have m1:(m.1:Int)<(nn:Int):=by omega
       have m0:(0:Int)<=(m.1:Int):=by omega
       clear hcm hR hb hbi hbm hm2
       go_upto_region 16 with fail
       generalize hW6:(wr.alloc (.cells #[.int .i64 (m.1:Int),.int .i64 m.2] 136))=w6 at *
       obtain ⟨X,hXe⟩:∃ X,wr.heap.size=X:=⟨_,rfl⟩
       rw [hXe] at hX ⊢
       clear hW6 hbM d0 d1
       have hdr:=(Below.refl w6.heap.size w6).drew
       have hX7:=hX.next hdr
       have hR7:=hR2.out.next hdr
       have hb7:=hid (below_chain hb2.out hdr)
       have hS:w6.drew.cell? ⟨Pb,0,none⟩=some (rwV pg nn)/\w6.drew.cell? ⟨Hb,0,none⟩=some (rwV hg nn)/\(w6.drew.cell? ⟨X,0,none⟩=some (.int .i64 (m.1:Int))/\w6.drew.cell? ⟨X,1,none⟩=some (.int .i64 m.2))/\(w6.drew.cell? ⟨pg,m.1,none⟩=some (.int .i64 ((p.pt m.1:Nat):Int))/\w6.drew.cell? ⟨pg,i,none⟩=some (.int .i64 ((p.pt i:Nat):Int)))/\w6.drew.cell? ⟨hg,m.1,none⟩=some (.int .i64 (p.ht m.1))/\w6.drew.cell? ⟨hg,i,none⟩=some (.int .i64 (p.ht i)) :=
        ⟨hR7.pb.cell (i:=0) rfl,hR7.hb.cell (i:=0) rfl,⟨hX7.cell (i:=0) rfl,hX7.cell (i:=1) rfl⟩,⟨hR7.part.cell hml,hR7.part.cell hil⟩,hR7.hght.cell hml,hR7.hght.cell hil⟩
       replace hR7:=hid hR7
       clear hX hX7 hR2 hb2 hdr
       by_cases hpe:p.pt m.1=p.pt i
       ·have e1:((p.pt m.1:Nat):Int)=((p.pt i:Nat):Int):=by rw [hpe]
        by_cases hhe:p.ht m.1=p.ht i+m.2
        ·have hft2:=hid (show Fit S p i (j+1) from fun m' hm' e=>by
          rw [List.take_add_one,hmj.out] at hm'
          rcases List.mem_append.1 hm' with h1 | h1
          ·exact hft.out m' h1 e
          ·obtain rfl:m'=m:=by simpa using h1
           exact hhe)
         refine wp_region_D (fun w'=>w'.cell? ⟨Pb,0,none⟩=some (rwV pg nn)/\w'.cell? ⟨Hb,0,none⟩=some (rwV hg nn)/\(w'.cell? ⟨X,0,none⟩=some (.int .i64 (m.1:Int))/\w'.cell? ⟨X,1,none⟩=some (.int .i64 m.2))/\(w'.cell? ⟨pg,m.1,none⟩=some (.int .i64 ((p.pt m.1:Nat):Int))/\w'.cell? ⟨pg,i,none⟩=some (.int .i64 ((p.pt i:Nat):Int)))/\w'.cell? ⟨hg,m.1,none⟩=some (.int .i64 (p.ht m.1))/\w'.cell? ⟨hg,i,none⟩=some (.int .i64 (p.ht i))) [] (by kernel_rfl) ?_
         refine tkAl 0 (some 67) (v:=?_) rfl rfl ?_ hS ?_
         rotate_left
         ·intro wz hw; refine exec_load1 Pb 0 ?_ (rwV pg nn) hw.1 _ Tryz.underlying22 (by rfl); go_simp
         refine tkAp 1 (some 68) rfl rfl hS ?_
         refine tkAl 2 (some 69) (v:=?_) rfl rfl ?_ hS ?_
         rotate_left
         ·intro wz hw; refine exec_loadI X 0 ?_ (.int .i64 (m.1:Int)) hw.2.2.1.1; go_simp
         refine tkAp 3 (some 70) rfl rfl hS ?_
         refine tkAl 4 (some 71) (v:=?_) rfl rfl ?_ hS ?_
         rotate_left
         ·intro wz hw; refine exec_loadI pg m.1 ?_ (.int .i64 ((p.pt m.1:Nat):Int)) hw.2.2.2.1.1; go_simp
         refine tkAl 5 (some 72) (v:=?_) rfl rfl ?_ hS ?_
         rotate_left
         ·intro wz hw; refine exec_load1 Pb 0 ?_ (rwV pg nn) hw.1 _ Tryz.underlying22 (by rfl); go_simp
         refine tkAp 6 (some 73) rfl rfl hS ?_
         refine tkAp 7 (some 74) rfl rfl hS ?_
         refine tkAl 8 (some 75) (v:=?_) rfl rfl ?_ hS ?_
         rotate_left
         ·intro wz hw; refine exec_loadI pg i ?_ (.int .i64 ((p.pt i:Nat):Int)) hw.2.2.2.1.2; go_simp
         refine tkAl 9 (some 76) (v:=.bool true) rfl rfl ?_ hS ?_
         ·intro wz _; first | (go_simp; done) | (go_simp; with_reducible rfl)
         refine tkAp 10 (some 77) rfl rfl hS ?_
         refine tkAm 11 (some 78) (v:=?_) rfl rfl ?_ hS ?_
         rotate_left
         ·intro wz hw; refine exec_load1 Hb 0 ?_ (rwV hg nn) hw.2.1 _ Tryz.underlying22 (by rfl); go_simp
         refine tkAg 12 (some 79) rfl rfl hS ?_
         refine tkAm 13 (some 80) (v:=?_) rfl rfl ?_ hS ?_
         rotate_left
         ·intro wz hw; refine exec_loadI X 0 ?_ (.int .i64 (m.1:Int)) hw.2.2.1.1; go_simp
         refine tkAg 14 (some 81) rfl rfl hS ?_
         refine tkAm 15 (some 82) (v:=?_) rfl rfl ?_ hS ?_
         rotate_left
         ·intro wz hw; refine exec_loadI hg m.1 ?_ (.int .i64 (p.ht m.1)) hw.2.2.2.2.1; go_simp
         refine tkAm 16 (some 83) (v:=?_) rfl rfl ?_ hS ?_
         rotate_left
         ·intro wz hw; refine exec_load1 Hb 0 ?_ (rwV hg nn) hw.2.1 _ Tryz.underlying22 (by rfl); go_simp
         refine tkAg 17 (some 84) rfl rfl hS ?_
         refine tkAg 18 (some 85) rfl rfl hS ?_
         refine tkAm 19 (some 86) (v:=?_) rfl rfl ?_ hS ?_
         rotate_left
         ·intro wz hw; refine exec_loadI hg i ?_ (.int .i64 (p.ht i)) hw.2.2.2.2.2; go_simp
         refine tkAg 20 (some 87) rfl rfl hS ?_
         refine tkAm 21 (some 88) (v:=?_) rfl rfl ?_ hS ?_
         rotate_left
         ·intro wz hw; refine exec_loadI X 1 ?_ (.int .i64 m.2) hw.2.2.1.2; go_simp
         refine tkAg 22 (some 89) rfl rfl hS ?_
         refine tkAm 23 (some 90) (v:=.bool false) rfl rfl ?_ hS ?_
         ·intro wz _; first | (go_simp; done) | (go_simp; with_reducible rfl)
         refine tkAl 24 (some 91) (v:=.bool false) rfl rfl ?_ hS ?_
         ·intro wz _; first | (go_simp; done) | (go_simp; with_reducible rfl)
         go_simp
         refine wpAnyD_done (by kernel_rfl) ?_ _
         clear hS
         have hnb:=hnfb.out
         go_wp2_with fail
         go_roundw
         case rel=>exact ⟨j+1,by omega,by go_num,hft2,hR7,hb7⟩
         case measure=>simp [intOf]; omega
        ·have hbad:=hid (show ¬ (∀ i m,m∈S.fr i->m.2=0) from fun hz=>hhe (by
          have hz2:∀ j m,m∈S.tor j->m.2=0:=fun j m hm=>hz m.1 (j,m.2) ((hI.dual m.1 j m.2).2 hm)
          rw [hrn.out.zero hz2 m.1,hrn.out.zero hz2 i,hz i m hmi.out]; rfl))
         refine wp_region_D (fun w'=>w'.cell? ⟨Pb,0,none⟩=some (rwV pg nn)/\w'.cell? ⟨Hb,0,none⟩=some (rwV hg nn)/\(w'.cell? ⟨X,0,none⟩=some (.int .i64 (m.1:Int))/\w'.cell? ⟨X,1,none⟩=some (.int .i64 m.2))/\(w'.cell? ⟨pg,m.1,none⟩=some (.int .i64 ((p.pt m.1:Nat):Int))/\w'.cell? ⟨pg,i,none⟩=some (.int .i64 ((p.pt i:Nat):Int)))/\w'.cell? ⟨hg,m.1,none⟩=some (.int .i64 (p.ht m.1))/\w'.cell? ⟨hg,i,none⟩=some (.int .i64 (p.ht i))) [] (by kernel_rfl) ?_
         refine tkAl 0 (some 67) (v:=?_) rfl rfl ?_ hS ?_
         rotate_left
         ·intro wz hw; refine exec_load1 Pb 0 ?_ (rwV pg nn) hw.1 _ Tryz.underlying22 (by rfl); go_simp
         refine tkAp 1 (some 68) rfl rfl hS ?_
         refine tkAl 2 (some 69) (v:=?_) rfl rfl ?_ hS ?_
         rotate_left
         ·intro wz hw; refine exec_loadI X 0 ?_ (.int .i64 (m.1:Int)) hw.2.2.1.1; go_simp
         refine tkAp 3 (some 70) rfl rfl hS ?_
         refine tkAl 4 (some 71) (v:=?_) rfl rfl ?_ hS ?_
         rotate_left
         ·intro wz hw; refine exec_loadI pg m.1 ?_ (.int .i64 ((p.pt m.1:Nat):Int)) hw.2.2.2.1.1; go_simp
         refine tkAl 5 (some 72) (v:=?_) rfl rfl ?_ hS ?_
         rotate_left
         ·intro wz hw; refine exec_load1 Pb 0 ?_ (rwV pg nn) hw.1 _ Tryz.underlying22 (by rfl); go_simp
         refine tkAp 6 (some 73) rfl rfl hS ?_
         refine tkAp 7 (some 74) rfl rfl hS ?_
         refine tkAl 8 (some 75) (v:=?_) rfl rfl ?_ hS ?_
         rotate_left
         ·intro wz hw; refine exec_loadI pg i ?_ (.int .i64 ((p.pt i:Nat):Int)) hw.2.2.2.1.2; go_simp
         refine tkAl 9 (some 76) (v:=.bool true) rfl rfl ?_ hS ?_
         ·intro wz _; first | (go_simp; done) | (go_simp; with_reducible rfl)
         refine tkAp 10 (some 77) rfl rfl hS ?_
         refine tkAm 11 (some 78) (v:=?_) rfl rfl ?_ hS ?_
         rotate_left
         ·intro wz hw; refine exec_load1 Hb 0 ?_ (rwV hg nn) hw.2.1 _ Tryz.underlying22 (by rfl); go_simp
         refine tkAg 12 (some 79) rfl rfl hS ?_
         refine tkAm 13 (some 80) (v:=?_) rfl rfl ?_ hS ?_
         rotate_left
         ·intro wz hw; refine exec_loadI X 0 ?_ (.int .i64 (m.1:Int)) hw.2.2.1.1; go_simp
         refine tkAg 14 (some 81) rfl rfl hS ?_
         refine tkAm 15 (some 82) (v:=?_) rfl rfl ?_ hS ?_
         rotate_left
         ·intro wz hw; refine exec_loadI hg m.1 ?_ (.int .i64 (p.ht m.1)) hw.2.2.2.2.1; go_simp
         refine tkAm 16 (some 83) (v:=?_) rfl rfl ?_ hS ?_
         rotate_left
         ·intro wz hw; refine exec_load1 Hb 0 ?_ (rwV hg nn) hw.2.1 _ Tryz.underlying22 (by rfl); go_simp
         refine tkAg 17 (some 84) rfl rfl hS ?_
         refine tkAg 18 (some 85) rfl rfl hS ?_
         refine tkAm 19 (some 86) (v:=?_) rfl rfl ?_ hS ?_
         rotate_left
         ·intro wz hw; refine exec_loadI hg i ?_ (.int .i64 (p.ht i)) hw.2.2.2.2.2; go_simp
         refine tkAg 20 (some 87) rfl rfl hS ?_
         refine tkAm 21 (some 88) (v:=?_) rfl rfl ?_ hS ?_
         rotate_left
         ·intro wz hw; refine exec_loadI X 1 ?_ (.int .i64 m.2) hw.2.2.1.2; go_simp
         refine tkAg 22 (some 89) rfl rfl hS ?_
         refine tkAm 23 (some 90) (v:=.bool true) rfl rfl ?_ hS ?_
         ·intro wz _; first | (go_simp; done) | (go_simp; with_reducible rfl)
         refine tkAl 24 (some 91) (v:=.bool true) rfl rfl ?_ hS ?_
         ·intro wz _; first | (go_simp; done) | (go_simp; with_reducible rfl)
         go_simp
         refine wpAnyD_done (by kernel_rfl) ?_ _
         clear hS
         go_wp2_with fail
         go_ret
         exact ⟨false,rfl,(fun h=>by cases h),fun h=>absurd h hbad.out,hb7.out⟩
       ·have e1:¬ ((p.pt m.1:Nat):Int)=((p.pt i:Nat):Int):=by omega
        have hft2:=hid (show Fit S p i (j+1) from fun m' hm' e=>by
         rw [List.take_add_one,hmj.out] at hm'
         rcases List.mem_append.1 hm' with h1 | h1
         ·exact hft.out m' h1 e
         ·obtain rfl:m'=m:=by simpa using h1
          exact absurd e hpe)
        refine wp_region_D (fun w'=>w'.cell? ⟨Pb,0,none⟩=some (rwV pg nn)/\w'.cell? ⟨Hb,0,none⟩=some (rwV hg nn)/\(w'.cell? ⟨X,0,none⟩=some (.int .i64 (m.1:Int))/\w'.cell? ⟨X,1,none⟩=some (.int .i64 m.2))/\(w'.cell? ⟨pg,m.1,none⟩=some (.int .i64 ((p.pt m.1:Nat):Int))/\w'.cell? ⟨pg,i,none⟩=some (.int .i64 ((p.pt i:Nat):Int)))/\w'.cell? ⟨hg,m.1,none⟩=some (.int .i64 (p.ht m.1))/\w'.cell? ⟨hg,i,none⟩=some (.int .i64 (p.ht i))) [] (by kernel_rfl) ?_
        refine tkAl 0 (some 67) (v:=?_) rfl rfl ?_ hS ?_
        rotate_left
        ·intro wz hw; refine exec_load1 Pb 0 ?_ (rwV pg nn) hw.1 _ Tryz.underlying22 (by rfl); go_simp
        refine tkAp 1 (some 68) rfl rfl hS ?_
        refine tkAl 2 (some 69) (v:=?_) rfl rfl ?_ hS ?_
        rotate_left
        ·intro wz hw; refine exec_loadI X 0 ?_ (.int .i64 (m.1:Int)) hw.2.2.1.1; go_simp
        refine tkAp 3 (some 70) rfl rfl hS ?_
        refine tkAl 4 (some 71) (v:=?_) rfl rfl ?_ hS ?_
        rotate_left
        ·intro wz hw; refine exec_loadI pg m.1 ?_ (.int .i64 ((p.pt m.1:Nat):Int)) hw.2.2.2.1.1; go_simp
        refine tkAl 5 (some 72) (v:=?_) rfl rfl ?_ hS ?_
        rotate_left
        ·intro wz hw; refine exec_load1 Pb 0 ?_ (rwV pg nn) hw.1 _ Tryz.underlying22 (by rfl); go_simp
        refine tkAp 6 (some 73) rfl rfl hS ?_
        refine tkAp 7 (some 74) rfl rfl hS ?_
        refine tkAl 8 (some 75) (v:=?_) rfl rfl ?_ hS ?_
        rotate_left
        ·intro wz hw; refine exec_loadI pg i ?_ (.int .i64 ((p.pt i:Nat):Int)) hw.2.2.2.1.2; go_simp
        refine tkAl 9 (some 76) (v:=.bool false) rfl rfl ?_ hS ?_
        ·intro wz _; first | (go_simp; done) | (go_simp; with_reducible rfl)
        refine tkAp 10 (some 77) rfl rfl hS ?_
        refine tkAu 11 (some 78) rfl rfl hS ?_
        refine tkAu 12 (some 79) rfl rfl hS ?_
        refine tkAu 13 (some 80) rfl rfl hS ?_
        refine tkAu 14 (some 81) rfl rfl hS ?_
        refine tkAu 15 (some 82) rfl rfl hS ?_
        refine tkAu 16 (some 83) rfl rfl hS ?_
        refine tkAu 17 (some 84) rfl rfl hS ?_
        refine tkAu 18 (some 85) rfl rfl hS ?_
        refine tkAu 19 (some 86) rfl rfl hS ?_
        refine tkAu 20 (some 87) rfl rfl hS ?_
        refine tkAu 21 (some 88) rfl rfl hS ?_
        refine tkAu 22 (some 89) rfl rfl hS ?_
        refine tkAu 23 (some 90) rfl rfl hS ?_
        refine tkAl 24 (some 91) (v:=.bool false) rfl rfl ?_ hS ?_
        ·intro wz _; first | (go_simp; done) | (go_simp; with_reducible rfl)
        go_simp
        refine wpAnyD_done (by kernel_rfl) ?_ _
        clear hS
        have hnb:=hnfb.out
        go_wp2_with fail
        go_roundw
        case rel=>exact ⟨j+1,by omega,by go_num,hft2,hR7,hb7⟩
        case measure=>simp [intOf]; omega
      ·obtain rfl:j=nf:=by omega
       have j1:¬ (j:Int)<(j:Int):=by omega
       have hfit2:=hid (show ∀ j' i',j'<k+1->S.ord[j']? = some i'->Fit S p i' (S.fr i').length from fun j' i' h1 h2=>by
        by_cases e:j'=k
        ·subst e
         rw [hki.out] at h2
         cases h2
         rw [hnf2.out]; exact hft.out
        ·exact hfit.out j' i' (by omega) h2)
       clear hft hfit
       go_wp2_with fail
       go_roundw
       case rel=>exact ⟨k+1,by omega,by go_num,hfit2,hR,hb⟩
       case measure=>simp [intOf]; omega
    ·obtain rfl:k=nl:=by omega
     have k1:¬ (k:Int)<(k:Int):=by omega
     have hout:=hid (show ∃ pt ht,Hts S pt ht from ⟨p.pt,p.ht,hts_of hI hrn.out hpz.out (fun i hi=>by obtain ⟨j,hj⟩:=List.getElem?_of_mem hi; exact hfit.out j i (by have:=(List.getElem?_eq_some_iff.1 hj).1; omega) hj) hseen.out⟩)
     clear hfit hR hpz hrn
     go_wp2_with fail
     go_ret
     exact ⟨true,rfl,fun _=>hout.out,fun _=>rfl,hb.out⟩
end
section
open Go.RowKit
structure TwI (w0 w:World) (N:Au) (n nn syms:Nat) (iv fv rv vv:Value) (b2 b4 b6 b8 b9 b10 b11:Bool) (v27 v29 v31 v33 v34 v35 v7:Value) (eb fb tb sb G:Nat) (E:Nat->Bool):Prop where
 below:Below w0.heap.size w0 w
 f2:b2=true->v27=rwV eb n/\Rw 4 w w0.heap.size (rwV eb n) n (fBo E)/\∀ q,q<n->(E q=true↔ToEnd N.arcs N.fin q)
 f4:b4=true->v29=rwV fb nn/\Rw 134 w w0.heap.size (rwV fb nn) nn fun _=>.slice none 0 0
 f6:b6=true->v31=rwV tb nn/\Rw 134 w w0.heap.size (rwV tb nn) nn fun _=>.slice none 0 0
 f8:b8=true->v33=rwV sb nn/\Rw 4 w w0.heap.size (rwV sb nn) nn fun _=>.bool false
 f9:b9=true->v34=.agg (sqC syms n iv fv rv vv (rwV eb n) (rwV fb nn) (rwV tb nn) (rwV sb nn) (.slice none 0 0)).toArray
 f10:b10=true->v35=.pointer (some ⟨G,0,none⟩)/\w0.heap.size<=G/\Bl G (sqC syms n iv fv rv vv (rwV eb n) (rwV fb nn) (rwV tb nn) (rwV sb nn) (.slice none 0 0)) 104 w
 f11:b11=true->v7=.pointer (some ⟨G,0,none⟩)
 n1:b4=true->b6=true->fb≠tb
 n2:b2=true->b8=true->eb≠sb
 k9:b9=true->b2=true/\b4=true/\b6=true/\b8=true
 k10:b10=true->b9=true
 k11:b11=true->b10=true
section
variable {w0 w w':World} {N:Au} {n nn syms:Nat} {iv fv rv vv:Value} {b2 b4 b6 b8 b9 b10 b11:Bool} {v27 v29 v31 v33 v34 v35 v7:Value} {eb fb tb sb G g:Nat} {E E':Nat->Bool}
theorem TwI.no10 (h:TwI w0 w N n nn syms iv fv rv vv b2 b4 b6 b8 b9 b10 b11 v27 v29 v31 v33 v34 v35 v7 eb fb tb sb G E) (h9:b9=false):b10=false/\b11=false:=by
 have h10:b10=false:=by
  cases e:b10 with
  | false=>rfl
  | true=>have:=h.k10 e; rw [h9] at this; cases this
 refine ⟨h10,?_⟩
 cases e:b11 with
 | false=>rfl
 | true=>have:=h.k11 e; rw [h10] at this; cases this
theorem TwI.s2 (h:TwI w0 w N n nn syms iv fv rv vv false b4 b6 b8 b9 b10 b11 v27 v29 v31 v33 v34 v35 v7 eb fb tb sb G E) (hr:Rw 4 w' w.heap.size (rwV g n) n (fBo E')) (hE:∀ q,q<n->(E' q=true↔ToEnd N.arcs N.fin q)) (hb:Below w.heap.size w w') :
  TwI w0 w' N n nn syms iv fv rv vv true b4 b6 b8 b9 b10 b11 (rwV g n) v29 v31 v33 v34 v35 v7 g fb tb sb G E':=by
 have h9:b9=false:=by
  cases e:b9 with
  | false=>rfl
  | true=>have:=(h.k9 e).1; cases this
 obtain ⟨h10,h11⟩:=h.no10 h9
 subst h9 h10 h11
 exact ⟨below_chain h.below hb,fun _=>⟨rfl,hr.mono h.below.size,hE⟩,fun e=>⟨(h.f4 e).1,(h.f4 e).2.next hb⟩,fun e=>⟨(h.f6 e).1,(h.f6 e).2.next hb⟩,fun e=>⟨(h.f8 e).1,(h.f8 e).2.next hb⟩,(fun e=>by cases e),(fun e=>by cases e),(fun e=>by cases e),h.n1,fun _ e2 e=>(by have h1:=(hr.lt (g:=g) rfl).1; have h2:=((h.f8 e2).2.lt (g:=sb) rfl).2; omega),(fun e=>by cases e),(fun e=>by cases e),fun e=>by cases e⟩
theorem TwI.s4 (h:TwI w0 w N n nn syms iv fv rv vv b2 false b6 b8 b9 b10 b11 v27 v29 v31 v33 v34 v35 v7 eb fb tb sb G E) (hr:Rw 134 w' w.heap.size (rwV g nn) nn fun _=>.slice none 0 0) (hb:Below w.heap.size w w') :
  TwI w0 w' N n nn syms iv fv rv vv b2 true b6 b8 b9 b10 b11 v27 (rwV g nn) v31 v33 v34 v35 v7 eb g tb sb G E:=by
 have h9:b9=false:=by
  cases e:b9 with
  | false=>rfl
  | true=>have:=(h.k9 e).2.1; cases this
 obtain ⟨h10,h11⟩:=h.no10 h9
 subst h9 h10 h11
 exact ⟨below_chain h.below hb,fun e=>⟨(h.f2 e).1,(h.f2 e).2.1.next hb,(h.f2 e).2.2⟩,fun _=>⟨rfl,hr.mono h.below.size⟩,fun e=>⟨(h.f6 e).1,(h.f6 e).2.next hb⟩,fun e=>⟨(h.f8 e).1,(h.f8 e).2.next hb⟩,(fun e=>by cases e),(fun e=>by cases e),(fun e=>by cases e),(fun _ e2 e=>by have h1:=(hr.lt (g:=g) rfl).1; have h2:=((h.f6 e2).2.lt (g:=tb) rfl).2; omega),h.n2,(fun e=>by cases e),(fun e=>by cases e),fun e=>by cases e⟩
theorem TwI.s6 (h:TwI w0 w N n nn syms iv fv rv vv b2 b4 false b8 b9 b10 b11 v27 v29 v31 v33 v34 v35 v7 eb fb tb sb G E) (hr:Rw 134 w' w.heap.size (rwV g nn) nn fun _=>.slice none 0 0) (hb:Below w.heap.size w w') :
  TwI w0 w' N n nn syms iv fv rv vv b2 b4 true b8 b9 b10 b11 v27 v29 (rwV g nn) v33 v34 v35 v7 eb fb g sb G E:=by
 have h9:b9=false:=by
  cases e:b9 with
  | false=>rfl
  | true=>have:=(h.k9 e).2.2.1; cases this
 obtain ⟨h10,h11⟩:=h.no10 h9
 subst h9 h10 h11
 exact ⟨below_chain h.below hb,fun e=>⟨(h.f2 e).1,(h.f2 e).2.1.next hb,(h.f2 e).2.2⟩,fun e=>⟨(h.f4 e).1,(h.f4 e).2.next hb⟩,fun _=>⟨rfl,hr.mono h.below.size⟩,fun e=>⟨(h.f8 e).1,(h.f8 e).2.next hb⟩,(fun e=>by cases e),(fun e=>by cases e),(fun e=>by cases e),(fun e1 _ e=>by have h1:=(hr.lt (g:=g) rfl).1; have h2:=((h.f4 e1).2.lt (g:=fb) rfl).2; omega),h.n2,(fun e=>by cases e),(fun e=>by cases e),fun e=>by cases e⟩
theorem TwI.s8 (h:TwI w0 w N n nn syms iv fv rv vv b2 b4 b6 false b9 b10 b11 v27 v29 v31 v33 v34 v35 v7 eb fb tb sb G E) (hr:Rw 4 w' w.heap.size (rwV g nn) nn fun _=>.bool false) (hb:Below w.heap.size w w') :
  TwI w0 w' N n nn syms iv fv rv vv b2 b4 b6 true b9 b10 b11 v27 v29 v31 (rwV g nn) v34 v35 v7 eb fb tb g G E:=by
 have h9:b9=false:=by
  cases e:b9 with
  | false=>rfl
  | true=>have:=(h.k9 e).2.2.2; cases this
 obtain ⟨h10,h11⟩:=h.no10 h9
 subst h9 h10 h11
 exact ⟨below_chain h.below hb,fun e=>⟨(h.f2 e).1,(h.f2 e).2.1.next hb,(h.f2 e).2.2⟩,fun e=>⟨(h.f4 e).1,(h.f4 e).2.next hb⟩,fun e=>⟨(h.f6 e).1,(h.f6 e).2.next hb⟩,fun _=>⟨rfl,hr.mono h.below.size⟩,(fun e=>by cases e),(fun e=>by cases e),(fun e=>by cases e),h.n1,(fun e1 _ e=>by have h1:=(hr.lt (g:=g) rfl).1; have h2:=((h.f2 e1).2.1.lt (g:=eb) rfl).2; omega),(fun e=>by cases e),(fun e=>by cases e),fun e=>by cases e⟩
theorem TwI.s9 (h:TwI w0 w N n nn syms iv fv rv vv true true true true false b10 b11 v27 v29 v31 v33 v34 v35 v7 eb fb tb sb G E):TwI w0 w N n nn syms iv fv rv vv true true true true true b10 b11 v27 v29 v31 v33 (.agg (sqC syms n iv fv rv vv (rwV eb n) (rwV fb nn) (rwV tb nn) (rwV sb nn) (.slice none 0 0)).toArray) v35 v7 eb fb tb sb G E:=by
 obtain ⟨h10,h11⟩:=h.no10 rfl
 subst h10 h11
 exact ⟨h.below,h.f2,h.f4,h.f6,h.f8,fun _=>rfl,(fun e=>by cases e),(fun e=>by cases e),h.n1,h.n2,fun _=>⟨rfl,rfl,rfl,rfl⟩,(fun e=>by cases e),fun e=>by cases e⟩
theorem TwI.s10 (h:TwI w0 w N n nn syms iv fv rv vv true true true true true false b11 v27 v29 v31 v33 v34 v35 v7 eb fb tb sb G E) (hG:Bl g (sqC syms n iv fv rv vv (rwV eb n) (rwV fb nn) (rwV tb nn) (rwV sb nn) (.slice none 0 0)) 104 w') (hg:w.heap.size<=g) (hb:Below w.heap.size w w'):TwI w0 w' N n nn syms iv fv rv vv true true true true true true b11 v27 v29 v31 v33 v34 (.pointer (some ⟨g,0,none⟩)) v7 eb fb tb sb g E:=by
 have h11:b11=false:=by
  cases e:b11 with
  | false=>rfl
  | true=>have:=h.k11 e; cases this
 subst h11
 exact ⟨below_chain h.below hb,fun e=>⟨(h.f2 e).1,(h.f2 e).2.1.next hb,(h.f2 e).2.2⟩,fun e=>⟨(h.f4 e).1,(h.f4 e).2.next hb⟩,fun e=>⟨(h.f6 e).1,(h.f6 e).2.next hb⟩,fun e=>⟨(h.f8 e).1,(h.f8 e).2.next hb⟩,h.f9,fun _=>⟨rfl,Nat.le_trans h.below.size hg,hG⟩,(fun e=>by cases e),h.n1,h.n2,h.k9,fun _=>rfl,fun e=>by cases e⟩
theorem TwI.s11 (h:TwI w0 w N n nn syms iv fv rv vv true true true true true true false v27 v29 v31 v33 v34 v35 v7 eb fb tb sb G E):TwI w0 w N n nn syms iv fv rv vv true true true true true true true v27 v29 v31 v33 v34 v35 (.pointer (some ⟨G,0,none⟩)) eb fb tb sb G E :=
 ⟨h.below,h.f2,h.f4,h.f6,h.f8,h.f9,h.f10,fun _=>rfl,h.n1,h.n2,h.k9,h.k10,fun _=>rfl⟩
end
noncomputable def zRw (n:Nat):Code:=(Tryz.f17.body.bind (findR n)).getD .skip
theorem tw_new (V syms nn:Nat) (N:Au) (io:OA) (ci:Nat) (fo:OA) (cf:Nat) (ro:OA) (nr cr:Nat) (vo:OA) (cv:Nat) (w:World) (hV:Cs w V 0 (viC syms N.st (.slice io N.st ci) (.slice fo N.st cf) (.slice ro nr cr) (.slice vo (N.st+1) cv))) (hVm:Vm w syms N io ci fo cf ro nr cr vo cv) (hok:∀ x∈N.arcs,x.1<N.st/\x.2.2.1<N.st) (hfin:N.fin.length=N.st) (hst:N.st<=64) (hnr:nr<=4096) (hnn:nn<=4096)
  {c0 c1 c2 c3 c5 c8 c9 Aa Ab Ad Ae Af Ag Ah Ak Al Am An Ao Ap Aq Ar As Av Aw Ax Ay Az Ba Bb Bc Be Bf Bh Bi Bj Bk Bm Bn Bo Bp Bq Br Bs Bt Bu Bv Bw Bx By Bz Ca Cb Cc Cd Ce Cf Cg Ch Ci Cj Ck Cl Cm Cn Co Cp Cq Cr Ct Cu Cv Cw:Value} {Q0:EP} (hpan:∀ c (a:Act) d v w,Q0 (.panic c) (a.put d v) w->Q0 (.panic c) a w)
  (hexit:∀ (Cx Cy Cz Da Db:Value) (v27 v29 v31 v33 v34 v35:Value) (eb fb tb sb G:Nat) (E:Nat->Bool) (w':World),TwI w.drew w' N N.st nn syms (.slice io N.st ci) (.slice fo N.st cf) (.slice ro nr cr) (.slice vo (N.st+1) cv) true true true true true true true v27 v29 v31 v33 v34 v35 (.pointer (some ⟨G,0,none⟩)) eb fb tb sb G E->Q0 .normal ⟨#[c0,c1,c2,c3,.pointer (some ⟨V,0,none⟩),c5,.int .i64 (nn:Int),.pointer (some ⟨G,0,none⟩),c8,c9,Aa,Ab,Ad,Ae,Af,Ag,Ah,Ak,Al,Am,An,Ao,Ap,Aq,Ar,Cx,Cy,v27,Cz,v29,Da,v31,Db,v33,v34,v35,As,Av,Aw,Ax,Ay,Az,Ba,Bb,Bc,Be,Bf,Bh,Bi,Bj,Bk,Bm,Bn,Bo,Bp,Bq,Br,Bs,Bt,Bu,Bv,Bw,Bx,By,Bz,Ca,Cb,Cc,Cd,Ce,Cf,Cg,Ch,Ci,Cj,Ck,Cl,Cm,Cn,Co,Cp,Cq,Cr,Ct,Cu,Cv,Cw],[]⟩ w') :
  Code.wp Tryz.prog (zRw 5) Q0 ⟨#[c0,c1,c2,c3,.pointer (some ⟨V,0,none⟩),c5,.int .i64 (nn:Int),undef,c8,c9,Aa,Ab,Ad,Ae,Af,Ag,Ah,Ak,Al,Am,An,Ao,Ap,Aq,Ar,undef,undef,undef,undef,undef,undef,undef,undef,undef,undef,undef,As,Av,Aw,Ax,Ay,Az,Ba,Bb,Bc,Be,Bf,Bh,Bi,Bj,Bk,Bm,Bn,Bo,Bp,Bq,Br,Bs,Bt,Bu,Bv,Bw,Bx,By,Bz,Ca,Cb,Cc,Cd,Ce,Cf,Cg,Ch,Ci,Cj,Ck,Cl,Cm,Cn,Co,Cp,Cq,Cr,Ct,Cu,Cv,Cw],[]⟩ w:=by
 conv=>arg 2; whnf
 have hexit:=hid hexit
 have hdr:=(Below.refl w.heap.size w).drew
 have hS:Cs w.drew V 0 (viC syms N.st (.slice io N.st ci) (.slice fo N.st cf) (.slice ro nr cr) (.slice vo (N.st+1) cv)):=Cs.next hV hdr
 refine wp_region_D (fun w'=>Cs w' V 0 (viC syms N.st (.slice io N.st ci) (.slice fo N.st cf) (.slice ro nr cr) (.slice vo (N.st+1) cv))) [] (by kernel_rfl) ?_
 refine tkBl 0 hpan (some 25) (v:=?_) rfl rfl ?_ hS ?_
 rotate_left
 ·intro wz hw; refine exec_loadView V 0 ?_ (viC syms N.st (.slice io N.st ci) (.slice fo N.st cf) (.slice ro nr cr) (.slice vo (N.st+1) cv)) rfl hw; go_simp
 refine tkBl 1 hpan (some 26) (v:=?_) rfl rfl ?_ hS ?_
 rotate_left
 ·intro wz hw; refine exec_loadView V 0 ?_ (viC syms N.st (.slice io N.st ci) (.slice fo N.st cf) (.slice ro nr cr) (.slice vo (N.st+1) cv)) rfl hw; go_simp
 refine tkBp 3 hpan (some 28) rfl rfl hS ?_
 refine tkBp 5 hpan (some 30) rfl rfl hS ?_
 refine tkBp 7 hpan (some 32) rfl rfl hS ?_
 go_simp
 refine wpAnyD_inv 7 (fun bs=>#[true,true,bs.getD 0 true,true,bs.getD 1 true,true,bs.getD 2 true,true,bs.getD 3 true,bs.getD 4 true,bs.getD 5 true,bs.getD 6 true])
  (fun bs a w'=>∃ (v27 v29 v31 v33 v34 v35 v7:Value) (eb fb tb sb G:Nat) (E:Nat->Bool),a=⟨#[c0,c1,c2,c3,.pointer (some ⟨V,0,none⟩),c5,.int .i64 (nn:Int),v7,c8,c9,Aa,Ab,Ad,Ae,Af,Ag,Ah,Ak,Al,Am,An,Ao,Ap,Aq,Ar,.agg (viC syms N.st (.slice io N.st ci) (.slice fo N.st cf) (.slice ro nr cr) (.slice vo (N.st+1) cv)).toArray,.agg (viC syms N.st (.slice io N.st ci) (.slice fo N.st cf) (.slice ro nr cr) (.slice vo (N.st+1) cv)).toArray,v27,.int .i64 (nn:Int),v29,.int .i64 (nn:Int),v31,.int .i64 (nn:Int),v33,v34,v35,As,Av,Aw,Ax,Ay,Az,Ba,Bb,Bc,Be,Bf,Bh,Bi,Bj,Bk,Bm,Bn,Bo,Bp,Bq,Br,Bs,Bt,Bu,Bv,Bw,Bx,By,Bz,Ca,Cb,Cc,Cd,Ce,Cf,Cg,Ch,Ci,Cj,Ck,Cl,Cm,Cn,Co,Cp,Cq,Cr,Ct,Cu,Cv,Cw],[]⟩/\TwI w.drew w' N N.st nn syms (.slice io N.st ci) (.slice fo N.st cf) (.slice ro nr cr) (.slice vo (N.st+1) cv) (bs.getD 0 true) (bs.getD 1 true) (bs.getD 2 true) (bs.getD 3 true) (bs.getD 4 true) (bs.getD 5 true) (bs.getD 6 true) v27 v29 v31 v33 v34 v35 v7 eb fb tb sb G E)
  (fun i bs=>(i==2&&!bs.getD 0 true)||(i==4&&!bs.getD 1 true)||(i==6&&!bs.getD 2 true)||(i==8&&!bs.getD 3 true)||(i==9&&!bs.getD 4 true&&bs.getD 0 true&&bs.getD 1 true&&bs.getD 2 true&&bs.getD 3 true)||(i==10&&!bs.getD 5 true&&bs.getD 4 true)||(i==11&&!bs.getD 6 true&&bs.getD 5 true&&bs.getD 4 true&&bs.getD 0 true&&bs.getD 1 true&&bs.getD 2 true&&bs.getD 3 true))
  (by kernel_rfl) (by kernel_rfl) ?_ ?_ _ [false,false,false,false,false,false,false] _ _ rfl ?_ (by decide)
 ·intro bs a w' hb hall hJ
  match bs,hb with
  | [b2,b4,b6,b8,b9,b10,b11],_ =>
   simp only [List.all_cons,List.all_nil,id_eq,Bool.and_true,Bool.and_eq_true] at hall
   obtain ⟨h2,h4,h6,h8,h9,h10,h11⟩:=hall
   subst h2 h4 h6 h8 h9 h10 h11
   obtain ⟨v27,v29,v31,v33,v34,v35,v7,eb,fb,tb,sb,G,E,rfl,hI⟩:=hJ
   have hI:TwI w.drew w' N N.st nn syms (.slice io N.st ci) (.slice fo N.st cf) (.slice ro nr cr) (.slice vo (N.st+1) cv) true true true true true true true v27 v29 v31 v33 v34 v35 v7 eb fb tb sb G E:=hI
   obtain rfl:=hI.f11 rfl
   exact hexit.out _ _ _ _ _ v27 v29 v31 v33 v34 v35 eb fb tb sb G E w' hI
 ·intro bs a w' hb hJ i hR
  match bs,hb with
  | [b2,b4,b6,b8,b9,b10,b11],_ =>
   obtain ⟨v27,v29,v31,v33,v34,v35,v7,eb,fb,tb,sb,G,E,rfl,hI⟩:=hJ
   have hI:TwI w.drew w' N N.st nn syms (.slice io N.st ci) (.slice fo N.st cf) (.slice ro nr cr) (.slice vo (N.st+1) cv) b2 b4 b6 b8 b9 b10 b11 v27 v29 v31 v33 v34 v35 v7 eb fb tb sb G E:=hI
   have hS':Cs w' V 0 (viC syms N.st (.slice io N.st ci) (.slice fo N.st cf) (.slice ro nr cr) (.slice vo (N.st+1) cv)):=Cs.next hS hI.below
   simp only [Bool.or_eq_true,Bool.and_eq_true,beq_iff_eq,Bool.not_eq_true',List.getD_cons_zero,List.getD_cons_succ] at hR
   rcases hR with (((((⟨rfl,h2⟩ | ⟨rfl,h4⟩) | ⟨rfl,h6⟩) | ⟨rfl,h8⟩) | ⟨⟨⟨⟨⟨rfl,h9⟩,h2⟩,h4⟩,h6⟩,h8⟩) | ⟨⟨rfl,h10⟩,h9⟩) | ⟨⟨⟨⟨⟨⟨⟨rfl,h11⟩,h10⟩,h9⟩,h2⟩,h4⟩,h6⟩,h8⟩
   ·subst h2
    have hend:=hid (ended_any syms N hok hfin io ci fo cf ro nr cr vo cv hst hnr w' (hVm.next (below_chain hdr hI.below)))
    refine wpOp_plain rfl rfl ?_
    refine wp_gen fun KK hKK=>?_
    go_simp
    go_at_call 54
    refine hend.out.mono ?_; rintro e w2 ⟨⟨g,E',rfl,hr,hE⟩,hb2⟩
    try go_simp
    exact hKK _ _ ⟨Cs.next hS' hb2,[true,b4,b6,b8,b9,b10,b11],rfl,rfl,_,_,_,_,_,_,_,_,_,_,_,_,_,rfl,hI.s2 hr hE hb2⟩
   ·subst h4
    refine wpOp_plain rfl rfl ?_
    with_reducible refine op_makeR (.tmp 28) (.tmp 28) 102 ?_ 134 (.slice none 0 0) 24 Tryz.underlying102 Tryz.infoMvs ?_ .i64 .i64 (nn:Int) (nn:Int) nn ?_ ?_ ?_ ?_ ?_ ?_ ?_
    ·rfl
    ·rfl
    ·rfl
    ·rfl
    ·rfl
    ·rfl
    ·omega
    ·omega
    intro w2 g hr hb2
    exact ⟨Cs.next hS' hb2,[b2,true,b6,b8,b9,b10,b11],rfl,rfl,_,_,_,_,_,_,_,_,_,_,_,_,_,rfl,hI.s4 hr hb2⟩
   ·subst h6
    refine wpOp_plain rfl rfl ?_
    with_reducible refine op_makeR (.tmp 30) (.tmp 30) 102 ?_ 134 (.slice none 0 0) 24 Tryz.underlying102 Tryz.infoMvs ?_ .i64 .i64 (nn:Int) (nn:Int) nn ?_ ?_ ?_ ?_ ?_ ?_ ?_
    ·rfl
    ·rfl
    ·rfl
    ·rfl
    ·rfl
    ·rfl
    ·omega
    ·omega
    intro w2 g hr hb2
    exact ⟨Cs.next hS' hb2,[b2,b4,true,b8,b9,b10,b11],rfl,rfl,_,_,_,_,_,_,_,_,_,_,_,_,_,rfl,hI.s6 hr hb2⟩
   ·subst h8
    refine wpOp_plain rfl rfl ?_
    with_reducible refine op_makeR (.tmp 32) (.tmp 32) 66 ?_ 4 (.bool false) 1 Tryz.underlying66 Tryz.infoBool ?_ .i64 .i64 (nn:Int) (nn:Int) nn ?_ ?_ ?_ ?_ ?_ ?_ ?_
    ·rfl
    ·rfl
    ·rfl
    ·rfl
    ·rfl
    ·rfl
    ·omega
    ·omega
    intro w2 g hr hb2
    exact ⟨Cs.next hS' hb2,[b2,b4,b6,true,b9,b10,b11],rfl,rfl,_,_,_,_,_,_,_,_,_,_,_,_,_,rfl,hI.s8 hr hb2⟩
   ·subst h9 h2 h4 h6 h8
    obtain ⟨rfl,_⟩:=hI.f2 rfl
    obtain ⟨rfl,_⟩:=hI.f4 rfl
    obtain ⟨rfl,_⟩:=hI.f6 rfl
    obtain ⟨rfl,_⟩:=hI.f8 rfl
    refine wpOp_plain rfl rfl ?_
    refine wp_gen fun KK hKK=>?_
    go_simp
    exact hKK _ _ ⟨hS',[true,true,true,true,true,b10,b11],rfl,rfl,_,_,_,_,_,_,_,_,_,_,_,_,_,rfl,hI.s9⟩
   ·obtain ⟨h2,h4,h6,h8⟩:=hI.k9 h9
    subst h10 h9 h2 h4 h6 h8
    obtain rfl:=hI.f9 rfl
    refine wpOp_plain rfl rfl ?_
    refine wp_gen fun KK hKK=>?_
    go_simp
    exact hKK _ _ ⟨Cs.next hS' (below_alloc _),[true,true,true,true,true,true,b11],rfl,rfl,_,_,_,_,_,_,_,_,_,_,_,_,_,rfl,hI.s10 (Bl.fresh w' (sqC syms N.st (.slice io N.st ci) (.slice fo N.st cf) (.slice ro nr cr) (.slice vo (N.st+1) cv) (rwV eb N.st) (rwV fb nn) (rwV tb nn) (rwV sb nn) (.slice none 0 0)) 104) (Nat.le_refl _) (below_alloc _)⟩
   ·subst h11 h10 h9 h2 h4 h6 h8
    obtain ⟨rfl,_⟩:=hI.f10 rfl
    refine wpOp_plain rfl rfl ?_
    refine wp_gen fun KK hKK=>?_
    go_simp
    exact hKK _ _ ⟨hS',[true,true,true,true,true,true,true],rfl,rfl,_,_,_,_,_,_,_,_,_,_,_,_,_,rfl,hI.s11⟩
 ·exact ⟨undef,undef,undef,undef,undef,undef,undef,0,0,0,0,0,fun _=>false,rfl,Below.refl _ _,(fun e=>by cases e),(fun e=>by cases e),(fun e=>by cases e),(fun e=>by cases e),(fun e=>by cases e),(fun e=>by cases e),(fun e=>by cases e),(fun e=>by cases e),(fun e=>by cases e),(fun e=>by cases e),(fun e=>by cases e),(fun e=>by cases e)⟩
end
end Go.Proofs.YtnapapijhhldpaaGreatDoor

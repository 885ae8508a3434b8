/-
  Texts joined by program: TwF, Dd. No condition of its own.
-/
import Derived.Test.YtnapapijhhldpaaGreatDoorJcAP
namespace Go.Proofs.YtnapapijhhldpaaGreatDoor
set_option linter.unusedSimpArgs false
set_option linter.unusedVariables false
section
open Go.RowKit
def SndF (N:Au) (E:Nat→Bool):Prop:=(∀ q,q<N.st→E q=true→FromS N.arcs N.ini q)∧∀ q c,N.ini[q]? = some (some c)→E q=true
def CldF (A:List Ac) (E:Nat→Bool):Prop:=∀ x∈A,E x.1=true→E x.2.2.1=true
theorem fromS_of {N:Au} {E:Nat→Bool} (h:SndF N E) (hc:CldF N.arcs E) {q:Nat} (ht:FromS N.arcs N.ini q):E q=true:=by
 induction ht with
 | here h1=>exact h.2 _ _ h1
 | step hx _ ih=>exact hc _ hx ih
theorem sndF_upd {N:Au} {E:Nat→Bool} (h:SndF N E) {x:Ac} (hx:x∈N.arcs) (hst:x.1<N.st) (ht:E x.1=true):SndF N (updB E x.2.2.1 true) :=
 ⟨fun q hq hE=>by
  unfold updB at hE
  split at hE
  ·rename_i e; subst e; exact FromS.step hx (h.1 _ hst ht)
  ·exact h.1 q hq hE,fun q c hc=>by
  unfold updB
  split
  ·rfl
  ·exact h.2 q c hc⟩
theorem sndF_start (N:Au) (hf:N.ini.length=N.st):SndF N (eN N.ini N.st) :=
 ⟨fun q hq hE=>by
  unfold eN at hE
  simp only [Bool.and_eq_true,decide_eq_true_eq] at hE
  have h1:q<N.ini.length:=by omega
  cases hv:N.ini[q]? with
  | none=>rw [List.getElem?_eq_none_iff] at hv; omega
  | some v =>
   rw [List.getD_eq_getElem?_getD,hv] at hE
   cases v with
   | none=>simp at hE
   | some c=>exact FromS.here hv,fun q c hc=>by
  have:=(List.getElem?_eq_some_iff.1 hc).1
  unfold eN
  rw [List.getD_eq_getElem?_getD,hc]
  simp; omega⟩
def uF (E R:Nat→Bool) (k j:Nat):Bool:=if j<k then E j&&R j else E j
theorem uF_step {E R:Nat→Bool} {k:Nat}:∀ i,updF (fBo (uF E R k)) k (.bool (E k&&R k)) i=fBo (uF E R (k+1)) i:=fun i=>by
 rw [fBo_upd]
 unfold fBo updB uF
 by_cases hi:i=k
 ·subst hi; simp
 ·rw [if_neg hi]
  by_cases h:i<k
  ·rw [if_pos h,if_pos (by omega)]
  ·rw [if_neg h,if_neg (by omega)]
theorem Rw.keep {e:TypeId} {w w':World} {base n B:Nat} {v:Value} {F:Nat→Value} (h:Rw e w base v n F) (hb:Below B w w') (hB:w.heap.size≤B):Rw e w' base v n F:=h.same fun g hg=>hb.block g (Nat.lt_of_lt_of_le (h.lt hg).2 hB)
set_option maxRecDepth 10000 in
set_option maxHeartbeats 4000000 in
theorem useful_any (syms:Nat) (N:Au) (hA:∀ x∈N.arcs,x.1<N.st∧x.2.2.1<N.st) (hfin:N.fin.length=N.st) (hini:N.ini.length=N.st) (io:Option Addr) (ci:Nat) (fo:Option Addr) (cf:Nat) (ro:Option Addr) (nr cr:Nat) (vo:Option Addr) (cv:Nat) (hst:N.st≤64) (hn:nr≤4096) (w:World) (h:Vm w syms N io ci fo cf ro nr cr vo cv) :
  Calls Tryz.prog 24 #[.agg (viC syms N.st (.slice io N.st ci) (.slice fo N.st cf) (.slice ro nr cr) (.slice vo (N.st+1) cv)).toArray] w fun e w' =>
   (∃ g us,e=.returned (.slice (some ⟨g,0,none⟩) N.st N.st)∧Rw 4 w' w.heap.size (.slice (some ⟨g,0,none⟩) N.st N.st) N.st (fBo fun q=>us.getD q false)∧UsOk us N)∧Below w.heap.size w w':=by
 have hA:=hid hA
 have hfin:=hid hfin
 have hini:=hid hini
 have hsnd:=hid (sndF_start N hini.out)
 have hb0:Below w.heap.size w (w.alloc (.cells (viC syms N.st (.slice io N.st ci) (.slice fo N.st cf) (.slice ro nr cr) (.slice vo (N.st+1) cv)).toArray 63)):=below_alloc _
 have hG:=Bl.fresh w (viC syms N.st (.slice io N.st ci) (.slice fo N.st cf) (.slice ro nr cr) (.slice vo (N.st+1) cv)) 63
 have hm:=hid (h.next hb0)
 have hnl:=hid h.mo.arcs.lenMap
 clear h
 have x3:=hG.cell (i:=3) rfl
 have hGl:=hG.lt
 go_enter Tryz.func24,Tryz.ntmps24
 go_upto_region 1 with fail
 generalize (w.alloc (.cells (viC syms N.st (.slice io N.st ci) (.slice fo N.st cf) (.slice ro nr cr) (.slice vo (N.st+1) cv)).toArray 63))=W0 at *
 have hXc0:=hG.cs
 go_upto_region 2 with (first | ((with_reducible refine wp_loadView rfl _ rfl w.heap.size 0 ?_ (viC syms N.st (.slice io N.st ci) (.slice fo N.st cf) (.slice ro nr cr) (.slice vo (N.st+1) cv)) rfl hXc0 ?_); exact rfl) | (go_at_call 54; refine (ended_any syms N hA.out hfin.out io ci fo cf ro nr cr vo cv hst hn _ hm.out).mono ?_; rintro e wE ⟨⟨gE,EE,rfl,hRE,hEE⟩,hbE⟩))
 have hEE:=hid hEE
 have hbE0:=hbE
 have hbW:w.heap.size≤W0.heap.size:=hb0.size
 have hREs:=(hRE.lt rfl)
 replace hRE:=hRE.mono hbW
 replace hb0:=below_chain hb0 hbE
 replace hG:=hG.next hbE
 have hm:=hid (hm.out.next hbE)
 have hGl:=hG.lt
 have x3:=hG.cell (i:=3) rfl
 clear hXc0 hbE hbE0 hbW
 obtain ⟨W0',rfl⟩:∃ W0',W0'=W0:=⟨_,rfl⟩
 obtain ⟨W0,rfl⟩:∃ W0,W0=wE:=⟨_,rfl⟩
 go_upto_region 3 with (at_make; (with_reducible refine wp_makeR rfl _ _ 66 rfl 4 (.bool false) 1 Tryz.underlying66 Tryz.infoBool ?_ .i64 .i64 (N.st:Int) (N.st:Int) N.st ?_ ?_ ?_ ?_ ?_ ?_ ?_); exact rfl; exact rfl; exact rfl; exact rfl; exact rfl; omega; omega; intro w1 g hR1 hb1)
 have hR1:Rw 4 w1 W0.heap.size (.slice (some ⟨g,0,none⟩) N.st N.st) N.st (fBo (eN N.ini 0)):=hR1.congr fun i _=>by unfold fBo eN; simp
 have hgl:=hR1.lt rfl
 go_wp2_with fail
 go_loopw [18] (fun iv wr=>∃ k:Nat,k≤N.st∧iv=.int .i64 (k:Int)∧Rw 4 wr W0.heap.size (.slice (some ⟨g,0,none⟩) N.st N.st) N.st (fBo (eN N.ini k))∧Below W0.heap.size W0 wr) (fun iv _=>N.st-(intOf iv).toNat)
 case atStart=>exact ⟨0,by omega,rfl,hR1,hb1⟩
 case round =>
  clear hR1 hb1
  obtain ⟨k,hk,rfl,hrow,hb⟩:=hrel
  by_cases hlt:k<N.st
  ·have i1:(k:Int)<(N.st:Int):=by omega
   have i0:(0:Int)≤(k:Int):=by omega
   have hXc:=(hG.next hb).cs
   obtain ⟨v,hv⟩:∃ v,N.ini[k]? = some v:=⟨_,List.getElem?_eq_getElem (by have:=hini.out; omega)⟩
   have hstep:=hid (eN_step hv)
   have hends:=hid (begins_any syms N.st (.slice fo N.st cf) (.slice ro nr cr) (.slice vo (N.st+1) cv) io ci N.ini k v hv wr (hm.out.next hb).mo.ini)
   clear hv
   go_wp2_with ((with_reducible refine wp_loadView rfl _ rfl w.heap.size 0 ?_ (viC syms N.st (.slice io N.st ci) (.slice fo N.st cf) (.slice ro nr cr) (.slice vo (N.st+1) cv)) rfl hXc ?_); exact rfl)
   refine hends.out.mono ?_; rintro e w2 ⟨rfl,hb2⟩
   have hrow2:=hrow.next hb2
   have hc1:=hrow2.cell hlt
   have hc2:=hrow2.free k
   have hb3:=hb.trans (hb2.mono hb.size)
   go_wp2_with fail
   go_roundw
   case rel=>exact ⟨k+1,by omega,by go_num,(hrow2.put k _).congr (fun i _=>hstep.out i),hb3.setCell (p:=⟨g,k,none⟩) hgl.1 _⟩
   case measure=>simp [intOf]; omega
  ·obtain rfl:k=N.st:=by omega
   have i1:¬ (N.st:Int)<(N.st:Int):=by omega
   go_wp2_with fail
   have hrow0:=hrow
   have hb':=hb
   go_loopg [6] (N.st+2) (fun gk cv wr=>∃ (E:Nat→Bool) (ch:Bool),cv=.bool ch∧Rw 4 wr W0.heap.size (.slice (some ⟨g,0,none⟩) N.st N.st) N.st (fBo E)∧Hid (SndF N E)∧Hid (ch=false→CldF N.arcs E)∧Hid (cF E N.st+(if ch then 1 else 0)<gk)∧Below W0.heap.size W0 wr)
   case atStart=>exact ⟨eN N.ini N.st,true,rfl,hrow0,hsnd,hid (fun h=>by cases h),hid (by have:=cF_le (eN N.ini N.st) N.st; simp; omega),hb'⟩
   case round =>
    clear hrow hb hrow0 hb'
    obtain ⟨E,ch,rfl,hrow,hS,hcl,hcnt,hb⟩:=hrel
    cases ch with
    | false =>
     have hREr:=hRE.keep hb (Nat.le_refl _)
     have hne:g≠gE:=fun e=>by have h1:=hgl.1; have h2:gE<W0.heap.size:=(hRE.lt rfl).2; omega
     have hfin2:Hid (∀ q,q<N.st→(E q=true↔FromS N.arcs N.ini q)):=hid fun q hq=>⟨hS.out.1 q hq,fromS_of hS.out (hcl.out (by simp))⟩
     have hge:w.heap.size≤gE:=(hRE.lt rfl).1
     have hb9:=below_chain hb0 hb
     clear hS hcl hcnt
     go_wp2_with fail
     go_loopw [57] (fun iv wq=>∃ k:Nat,k≤N.st∧iv=.int .i64 (k:Int)∧Rw 4 wq w.heap.size (.slice (some ⟨gE,0,none⟩) N.st N.st) N.st (fBo (uF EE E k))∧Rw 4 wq W0.heap.size (.slice (some ⟨g,0,none⟩) N.st N.st) N.st (fBo E)∧Below w.heap.size w wq) (fun iv _=>N.st-(intOf iv).toNat)
     case atStart=>exact ⟨0,by omega,rfl,hREr.congr (fun i _=>by unfold fBo uF; rw [if_neg (by omega)]),hrow,hb9⟩
     case round =>
      clear hREr hrow hb hb9
      obtain ⟨k,hk,rfl,hRq,hrow,hb⟩:=hrel
      by_cases hlt:k<N.st
      ·have i1:(k:Int)<(N.st:Int):=by omega
       have i0:(0:Int)≤(k:Int):=by omega
       have c1:=hRq.cell hlt
       have c2:=hrow.cell hlt
       have c3:=hRq.free k
       obtain ⟨e1,he1⟩:∃ e1,EE k=e1:=⟨_,rfl⟩
       obtain ⟨e2,he2⟩:∃ e2,E k=e2:=⟨_,rfl⟩
       unfold fBo at c1 c2
       unfold uF at c1
       rw [if_neg (by omega),he1] at c1
       rw [he2] at c2
       have hst':=hid (uF_step (E:=EE) (R:=E) (k:=k))
       rw [he1,he2] at hst'
       clear he1 he2
       cases e1 with
       | false =>
        go_wp2_with fail
        go_roundw
        case rel=>exact ⟨k+1,by omega,by go_num,(hRq.put k _).congr (fun i _=>hst'.out i),hrow.fr (Fr.set (T:=fun j=>j=gE) _ (p:=⟨gE,k,none⟩) rfl _) (fun g' hg'=>by injection hg' with hg'; subst hg'; exact hne),hb.setCell (p:=⟨gE,k,none⟩) hge _⟩
        case measure=>simp [intOf]; omega
       | true =>
        go_wp2_with fail
        go_roundw
        case rel=>exact ⟨k+1,by omega,by go_num,(hRq.put k _).congr (fun i _=>hst'.out i),hrow.fr (Fr.set (T:=fun j=>j=gE) _ (p:=⟨gE,k,none⟩) rfl _) (fun g' hg'=>by injection hg' with hg'; subst hg'; exact hne),hb.setCell (p:=⟨gE,k,none⟩) hge _⟩
        case measure=>simp [intOf]; omega
      ·obtain rfl:k=N.st:=by omega
       have i1:¬ (N.st:Int)<(N.st:Int):=by omega
       go_wp2_with fail
       go_ret
       refine ⟨⟨gE,rfl,(List.range N.st).map (fun q=>EE q&&E q),?_,by simp,fun q hq=>?_⟩,hb⟩
       ·refine hRq.congr fun i hi=>?_
        unfold fBo uF
        rw [if_pos hi]
        show Value.bool (EE i&&E i)=Value.bool (((List.range N.st).map (fun q=>EE q&&E q))[i]?.getD false)
        rw [List.getElem?_map,List.getElem?_range hi]; rfl
       ·rw [List.getD_eq_getElem?_getD,List.getElem?_map,List.getElem?_range hq]
        simp only [Option.map_some,Option.getD_some,Bool.and_eq_true]
        rw [hEE.out q hq,hfin2.out q hq]
        exact ⟨fun h=>⟨h.2,h.1⟩,fun h=>⟨h.2,h.1⟩⟩
    | true =>
     have x6:=(hG.next hb).cell (i:=6) rfl
     obtain ⟨wo,rfl⟩:∃ wo:World,wo=wr:=⟨_,rfl⟩
     go_wp2_with fail
     go_loopw [6,33] (fun cv iv wr=>∃ (k:Nat) (E':Nat→Bool) (ch':Bool),k≤nr∧iv=.int .i64 (k:Int)∧cv=.bool ch'∧Rw 4 wr W0.heap.size (.slice (some ⟨g,0,none⟩) N.st N.st) N.st (fBo E')∧Hid (SndF N E')∧Hid (ch'=false→CldF (N.arcs.take k) E')∧Hid (cF E' N.st+(if ch' then 1 else 0)≤cF E N.st)∧Below W0.heap.size W0 wr) (fun _ iv _=>nr-(intOf iv).toNat)
     case atStart=>exact ⟨0,E,false,by omega,rfl,rfl,hrow,hS,hid (fun _ x hx=>by simp at hx),hid (by simp),hb⟩
     case round =>
      clear hrow hS hcl hb x6
      obtain ⟨k,E',ch',hk,rfl,rfl,hrow,hS,hcl,hcn,hb⟩:=hrel
      by_cases hlt:k<nr
      ·obtain ⟨x,hxk,b,off,rfl,hcs⟩:=(hm.out.mo.arcs.next hb).get hlt
       have hxm:=List.mem_of_getElem? hxk
       have hxs:=hA.out x hxm
       have i1:(k:Int)<(nr:Int):=by omega
       have i0:(0:Int)≤(k:Int):=by omega
       have i2:(x.1:Int)<(N.st:Int):=by omega
       have i3:(x.2.2.1:Int)<(N.st:Int):=by omega
       have i4:(0:Int)≤(x.1:Int):=by omega
       have i5:(0:Int)≤(x.2.2.1:Int):=by omega
       have htk:Hid (N.arcs.take (k+1)=N.arcs.take k++[x]):=hid (by rw [List.take_succ_eq_append_getElem (List.getElem?_eq_some_iff.1 hxk).1,(List.getElem?_eq_some_iff.1 hxk).2])
       have hbX:Below wr.heap.size wr (wr.alloc (.cells (acC x).toArray 54)):=below_alloc _
       have hX:=Bl.fresh wr (acC x) 54
       have z0:=hX.cell (i:=0) rfl
       have z2:=hX.cell (i:=2) rfl
       have hrow2:=hrow.next hbX
       have c1:=hrow2.cell hxs.1
       have c2:=hrow2.cell hxs.2
       have c3:=hrow2.free x.2.2.1
       have hb2:=hb.trans (hbX.mono hb.size)
       obtain ⟨e1,he1⟩:∃ e1,E' x.1=e1:=⟨_,rfl⟩
       obtain ⟨e2,he2⟩:∃ e2,E' x.2.2.1=e2:=⟨_,rfl⟩
       unfold fBo at c1 c2
       rw [he1] at c1
       rw [he2] at c2
       have He1:=hid he1
       have He2:=hid he2
       have Hxm:=hid hxm
       clear he1 he2 hxk hX hxm
       go_upto_region 14 with ((first | ((with_reducible refine wp_loadArc rfl _ rfl b (off+k*11) ?_ x hcs ?_); exact rfl) | ((with_reducible refine wp_storeVArc rfl _ _ rfl _ _ ?_ x ?_ ?_ ?_); exact rfl; exact rfl; exact rfl)))
       generalize hW2:(wr.alloc (.cells (acC x).toArray 54))=W2 at *
       clear hW2
       have hkeep:Hid (¬ (e1=true∧e2=false)→ch'=false→CldF (N.arcs.take (k+1)) E'):=hid fun hn hc y hy hE=>by
        rw [htk.out] at hy
        rcases List.mem_append.1 hy with hy | hy
        ·exact hcl.out hc y hy hE
        ·rw [List.mem_singleton.1 hy] at hE ⊢
         rw [He1.out] at hE
         rw [He2.out]
         cases e2 with
         | true=>rfl
         | false=>exact absurd ⟨hE,rfl⟩ hn
       cases e1 with
       | false =>
        go_wp2_with fail
        go_roundw
        case rel=>exact ⟨k+1,E',ch',by omega,by go_num,rfl,hrow2,hS,hid (hkeep.out (by simp)),hcn,hb2⟩
        case measure=>simp [intOf]; omega
       | true =>
        cases e2 with
        | true =>
         go_wp2_with fail
         go_roundw
         case rel=>exact ⟨k+1,E',ch',by omega,by go_num,rfl,hrow2,hS,hid (hkeep.out (by simp)),hcn,hb2⟩
         case measure=>simp [intOf]; omega
        | false =>
         go_wp2_with fail
         go_roundw
         case rel=>exact ⟨k+1,updB E' x.2.2.1 true,true,by omega,by go_num,rfl,(hrow2.put x.2.2.1 _).congr (fun i _=>fBo_upd E' x.2.2.1 true i),hid (sndF_upd hS.out Hxm.out hxs.1 He1.out),hid (fun h=>by cases h),hid (by
          have h1:=cF_set hxs.2 He2.out
          have h2:=hcn.out
          simp only [if_true] at h2 ⊢
          omega),hb2.setCell (p:=⟨g,x.2.2.1,none⟩) hgl.1 _⟩
         case measure=>simp [intOf]; omega
      ·obtain rfl:k=nr:=by omega
       have i1:¬ (k:Int)<(k:Int):=by omega
       have htk:N.arcs.take k=N.arcs:=List.take_of_length_le (by rw [hnl.out]; exact Nat.le_refl _)
       rw [htk] at hcl
       clear htk
       go_wp2_with fail
       go_roundg (gk-1)
       case measure=>have:=hcnt.out; simp only [if_true] at this; omega
       case rel=>exact ⟨E',ch',rfl,hrow,hS,hcl,hid (by have:=hcnt.out; have:=hcn.out; simp only [if_true] at *; omega),hb⟩
end
section
theorem getElem?_app_left {α:Type} {l m:List α} {i:Nat} {x:α} (h:l[i]? = some x):(l++m)[i]? = some x:=by
 rw [List.getElem?_append_left (List.getElem?_eq_some_iff.1 h).1]; exact h
def bef (k l:Nat) (x:Ac):Prop:=x.1<k∨(x.1=k∧x.2.1<l)
def Sub (us:List Bool) (v:Vx):Prop:=(∀ q r,Has v q r→us.getD q false=true)∧∃ q,Has v q 0
structure Dst (N:List Ac) (us:List Bool) (syms k l:Nat) (X:Ds):Prop where
 bef:∀ x∈X.arcs,bef k l x
 ss:Ss X.arcs
 sound:∀ x∈X.arcs,∃ v w c,X.subs[x.1]? = some v∧X.subs[x.2.2.1]? = some w∧wt x=some c∧1≤x.2.1∧x.2.1≤syms∧setl (nextV N us v x.2.1)=some (c,w)
 full:∀ i j v c nx,(i<k∨(i=k∧j<l))→1≤j→j≤syms→X.subs[i]? = some v→setl (nextV N us v j)=some (c,nx)→∃ num,(i,j,num,some c)∈X.arcs∧X.subs[num]? = some nx
 from_:∀ i,0<i→i<X.subs.length→∃ x∈X.arcs,x.2.2.1=i∧x.1<i
 sub:∀ v∈X.subs,Sub us v
theorem sub_setl {N:List Ac} {us:List Bool} {R:Vx} {l c:Nat} {nx:Vx} (hl:us.length≤R.length) (h:setl (nextV N us R l)=some (c,nx)):Sub us nx:=by
 obtain ⟨h1,rfl⟩:=setl_some h
 have hb:=bst_nextV (N:=N) (us:=us) (R:=R) (l:=l) hl
 constructor
 ·intro q r hr
  obtain ⟨u,hu,_⟩:=low_has.1 hr
  obtain ⟨x,_,_,_,k,_⟩:=hb.1 q u hu
  exact k
 ·obtain ⟨q,hq⟩:=List.getElem?_of_mem (least_mem h1)
  exact ⟨q,low_has.2 ⟨c,hq,by omega⟩⟩
theorem Dst.one {N:List Ac} {us:List Bool} {syms k l:Nat} {X Y:Ds} (h:Dst N us syms k l X) (hk:k<X.subs.length) (hl1:1≤l) (hls:l≤syms) (hlen:∀ v∈X.subs,us.length≤v.length) (hs:oneS N us k l X=some Y) :
  Dst N us syms k (l+1) Y∧(∃ B,Y.subs=X.subs++B)∧(Y.arcs=X.arcs∨∃ num c,Y.arcs=X.arcs++[(k,l,num,some c)]∧num<Y.subs.length):=by
 obtain ⟨v,hv⟩:∃ v,X.subs[k]? = some v:=⟨_,List.getElem?_eq_getElem hk⟩
 have hget:X.subs.getD k []=v:=by rw [List.getD_eq_getElem?_getD,hv]; rfl
 unfold oneS at hs
 rw [hget] at hs
 have hbef:∀ x∈X.arcs,Go.Proofs.YtnapapijhhldpaaGreatDoor.bef k (l+1) x:=fun x hx=>by
  rcases h.bef x hx with e | ⟨e1,e2⟩
  ·exact .inl e
  ·exact .inr ⟨e1,by omega⟩
 cases hset:setl (nextV N us v l) with
 | none =>
  rw [hset] at hs
  cases hs
  refine ⟨⟨hbef,h.ss,h.sound,fun i j w c nx hij h1 h2 hw hn=>?_,h.from_,h.sub⟩,⟨[],by simp⟩,.inl rfl⟩
  by_cases e:i=k∧j=l
  ·obtain ⟨rfl,rfl⟩:=e
   rw [hv] at hw
   cases hw
   rw [hset] at hn
   cases hn
  ·exact h.full i j w c nx (by omega) h1 h2 hw hn
 | some p =>
  obtain ⟨c,nx⟩:=p
  rw [hset] at hs
  simp only at hs
  have hsub:Sub us nx:=sub_setl (hlen v (List.mem_of_getElem? hv)) hset
  have hss:∀ num,Ss (X.arcs++[(k,l,num,some c)]):=fun num=>by
   refine Ss.append h.ss ⟨fun y hy=>(by cases hy),trivial⟩ fun x hx y hy=>?_
   obtain rfl:y=(k,l,num,some c):=by simpa using hy
   rcases h.bef x hx with e | ⟨e1,e2⟩
   ·exact .inl e
   ·exact .inr ⟨e1,.inl e2⟩
  split at hs
  ·rename_i num hnum
   cases hs
   obtain ⟨hlt,he,_⟩:=List.findIdx?_eq_some_iff_getElem.1 hnum
   have hnx:X.subs[num]? = some nx:=by
    rw [List.getElem?_eq_getElem hlt]
    congr 1
    simpa using he
   refine ⟨⟨fun x hx=>?_,hss num,fun x hx=>?_,fun i j w c' nx' hij h1 h2 hw hn=>?_,fun i h0 hi=>?_,h.sub⟩,⟨[],by simp⟩,.inr ⟨num,c,rfl,hlt⟩⟩
   ·rcases List.mem_append.1 hx with hx | hx
    ·exact hbef x hx
    ·obtain rfl:x=(k,l,num,some c):=by simpa using hx
     exact .inr ⟨rfl,by simp only; omega⟩
   ·rcases List.mem_append.1 hx with hx | hx
    ·exact h.sound x hx
    ·obtain rfl:x=(k,l,num,some c):=by simpa using hx
     exact ⟨v,nx,c,hv,hnx,rfl,hl1,hls,hset⟩
   ·by_cases e:i=k∧j=l
    ·obtain ⟨rfl,rfl⟩:=e
     rw [hv] at hw
     cases hw
     rw [hset] at hn
     cases hn
     exact ⟨num,List.mem_append_right _ (List.mem_singleton.2 rfl),hnx⟩
    ·obtain ⟨n',h3,h4⟩:=h.full i j w c' nx' (by omega) h1 h2 hw hn
     exact ⟨n',List.mem_append_left _ h3,h4⟩
   ·obtain ⟨x,h1,h2⟩:=h.from_ i h0 hi
    exact ⟨x,List.mem_append_left _ h1,h2⟩
  ·split at hs
   ·cases hs
   ·cases hs
    have hnew:(X.subs++[nx])[X.subs.length]? = some nx:=by simp
    refine ⟨⟨fun x hx=>?_,hss _,fun x hx=>?_,fun i j w c' nx' hij h1 h2 hw hn=>?_,fun i h0 hi=>?_,fun w hw=>?_⟩,⟨[nx],rfl⟩,.inr ⟨X.subs.length,c,rfl,by simp⟩⟩
    ·rcases List.mem_append.1 hx with hx | hx
     ·exact hbef x hx
     ·obtain rfl:x=(k,l,X.subs.length,some c):=by simpa using hx
      exact .inr ⟨rfl,by simp only; omega⟩
    ·rcases List.mem_append.1 hx with hx | hx
     ·obtain ⟨a,b,d,e1,e2,e3⟩:=h.sound x hx
      exact ⟨a,b,d,getElem?_app_left e1,getElem?_app_left e2,e3⟩
     ·obtain rfl:x=(k,l,X.subs.length,some c):=by simpa using hx
      exact ⟨v,nx,c,getElem?_app_left hv,hnew,rfl,hl1,hls,hset⟩
    ·have hik:i<X.subs.length:=by omega
     simp only at hw
     rw [List.getElem?_append_left hik] at hw
     by_cases e:i=k∧j=l
     ·obtain ⟨rfl,rfl⟩:=e
      rw [hv] at hw
      cases hw
      rw [hset] at hn
      cases hn
      exact ⟨X.subs.length,List.mem_append_right _ (List.mem_singleton.2 rfl),hnew⟩
     ·obtain ⟨n',h3,h4⟩:=h.full i j w c' nx' (by omega) h1 h2 hw hn
      exact ⟨n',List.mem_append_left _ h3,getElem?_app_left h4⟩
    ·simp only [List.length_append,List.length_cons,List.length_nil] at hi
     by_cases e:i<X.subs.length
     ·obtain ⟨x,h1,h2⟩:=h.from_ i h0 e
      exact ⟨x,List.mem_append_left _ h1,h2⟩
     ·exact ⟨_,List.mem_append_right _ (List.mem_singleton.2 rfl),by simp only; omega,by simp only; omega⟩
    ·rcases List.mem_append.1 hw with hw | hw
     ·exact h.sub w hw
     ·obtain rfl:w=nx:=by simpa using hw
      exact hsub
def uv (n i:Nat):Vx:=(List.replicate n none).set i (some 0)
def basis (n m:Nat):List Vx:=(List.range m).map (uv n)
theorem uv_has {n i j r:Nat}:Has (uv n i) j r↔i<n∧j=i∧r=0:=by
 unfold Has uv
 rw [List.getElem?_set]
 split
 ·rename_i e
  subst e
  simp only [List.length_replicate]
  split
  ·rename_i h
   constructor
   ·intro k; exact ⟨h,trivial,by simpa using k.symm⟩
   ·rintro ⟨_,_,rfl⟩; rfl
  ·rename_i h
   constructor
   ·intro k; cases k
   ·rintro ⟨k,_⟩; exact absurd k h
 ·rename_i e
  rw [List.getElem?_replicate]
  constructor
  ·intro k
   split at k
   ·simp at k
   ·cases k
  ·rintro ⟨_,k,_⟩; exact absurd k.symm e
theorem uv_len (n i:Nat):(uv n i).length=n:=by simp [uv]
theorem basis_len (n m:Nat):(basis n m).length=m:=by simp [basis]
theorem basis_get {n m i:Nat} (h:i<m):(basis n m)[i]? = some (uv n i):=by simp [basis,h]
theorem basis_succ (n m:Nat):basis n m++[uv n m]=basis n (m+1):=by simp [basis,List.range_succ]
theorem vx_ext {S T:Vx} (hl:S.length=T.length) (h:∀ j r,Has S j r↔Has T j r):S=T:=by
 refine List.ext_getElem hl fun j h1 h2=>?_
 have k:=h j
 unfold Has at k
 simp only [List.getElem?_eq_getElem h1,List.getElem?_eq_getElem h2,Option.some.injEq] at k
 cases hs:S[j] with
 | none =>
  cases ht:T[j] with
  | none=>rfl
  | some r=>have:=(k r).2 ht; rw [hs] at this; cases this
 | some r=>exact ((k r).1 hs).symm
theorem uv_inj {n i j:Nat} (hi:i<n) (h:uv n i=uv n j):i=j:=by
 have:Has (uv n i) i 0:=uv_has.2 ⟨hi,rfl,rfl⟩
 rw [h] at this
 exact (uv_has.1 this).2.1
theorem least_is {S:Vx} {m q:Nat} (h:Has S q m) (hm:∀ j r,Has S j r→m≤r):leastV S=some m:=by
 have h1:=least_le (List.mem_of_getElem? h)
 cases hl:leastV S with
 | none=>rw [hl] at h1; exact absurd h1 (by simp [twLe])
 | some u =>
  rw [hl] at h1
  obtain ⟨j,hj⟩:=List.getElem?_of_mem (least_mem hl)
  have:=hm j u hj
  have:u≤m:=h1
  congr 1
  omega
theorem least_none {S:Vx} (h:∀ j r,¬ Has S j r):leastV S=none:=by
 cases hl:leastV S with
 | none=>rfl
 | some u =>
  obtain ⟨j,hj⟩:=List.getElem?_of_mem (least_mem hl)
  exact absurd hj (h j u)
theorem setl_uv {F:List Ac} {n k l:Nat} (hk:k<n) :
  (stp F k l=[]→setl (nextV F (List.replicate n true) (uv n k) l)=none) ∧
  (∀ num c,num<n→stp F k l=[(k,l,num,some c)]→setl (nextV F (List.replicate n true) (uv n k) l)=some (c,uv n num)):=by
 have hb:=bst_nextV (N:=F) (us:=List.replicate n true) (R:=uv n k) (l:=l) (by rw [uv_len]; simp)
 have hlen:(nextV F (List.replicate n true) (uv n k) l).length=n:=by rw [nextV_len,uv_len]
 have hmem:∀ x,x∈stp F k l↔(x∈F∧x.1=k∧x.2.1=l):=fun x=>by unfold stp; rw [List.mem_filter]; simp
 constructor
 ·intro h0
  have:leastV (nextV F (List.replicate n true) (uv n k) l)=none:=least_none fun j r hr=>by
   obtain ⟨x,hx,h1,_,_,s,h2,_⟩:=hb.1 j r hr
   have:=(hmem x).2 ⟨hx,(uv_has.1 h2).2.1,h1⟩
   rw [h0] at this
   cases this
  unfold setl
  rw [this]
 ·intro num c hnum h0
  have hin:((k,l,num,some c):Ac)∈stp F k l:=by rw [h0]; exact List.mem_singleton.2 rfl
  obtain ⟨hF,-, -⟩:=(hmem _).1 hin
  have hcand:∀ j r,Cand F (List.replicate n true) (uv n k) l j r↔(j=num∧r=c):=fun j r=>by
   constructor
   ·rintro ⟨x,hx,h1,h2,_,s,h3,h4⟩
    obtain ⟨_,h5,h6⟩:=uv_has.1 h3
    have:=(hmem x).2 ⟨hx,h5,h1⟩
    rw [h0] at this
    obtain rfl:x=(k,l,num,some c):=by simpa using this
    exact ⟨h2.symm,by rw [h4,h6]; simp [cst,wt]⟩
   ·rintro ⟨rfl,rfl⟩
    exact ⟨_,hF,rfl,rfl,by simp [List.getD_eq_getElem?_getD,hnum],0,uv_has.2 ⟨hk,rfl,rfl⟩,by simp [cst,wt]⟩
  have hhas:∀ j r,Has (nextV F (List.replicate n true) (uv n k) l) j r↔(j=num∧r=c):=fun j r=>by
   constructor
   ·intro h; exact (hcand j r).1 (hb.1 j r h)
   ·rintro ⟨rfl,rfl⟩
    obtain ⟨u,hu,_⟩:=hb.2 j r ((hcand j r).2 ⟨rfl,rfl⟩)
    obtain ⟨_,rfl⟩:=(hcand j u).1 (hb.1 j u hu)
    exact hu
  have hleast:leastV (nextV F (List.replicate n true) (uv n k) l)=some c:=least_is ((hhas num c).2 ⟨rfl,rfl⟩) fun j r hr=>by
   obtain ⟨_,rfl⟩:=(hhas j r).1 hr; exact Nat.le_refl _
  unfold setl
  rw [hleast]
  have hx:lowV (nextV F (List.replicate n true) (uv n k) l) c=uv n num:=by
   refine vx_ext (by rw [lowV_len,hlen,uv_len]) fun j r=>?_
   rw [low_has,uv_has]
   constructor
   ·rintro ⟨u,hu,rfl⟩
    obtain ⟨rfl,rfl⟩:=(hhas j u).1 hu
    exact ⟨hnum,rfl,by omega⟩
   ·rintro ⟨_,rfl,rfl⟩
    exact ⟨c,(hhas j c).2 ⟨rfl,rfl⟩,by omega⟩
  show some (c,lowV (nextV F (List.replicate n true) (uv n k) l) c)=_
  rw [hx]
theorem basis_find {n m num:Nat} (hm:m≤n) (hnum:num<n):(basis n m).findIdx? (· == uv n num)=if num<m then some num else none:=by
 split
 ·rename_i h
  rw [List.findIdx?_eq_some_iff_getElem]
  refine ⟨by rw [basis_len]; exact h,?_,fun j hj=>?_⟩
  ·simp [basis]
  ·simp only [basis,List.getElem_map,List.getElem_range]
   intro k
   have:=uv_inj (n:=n) (i:=j) (by omega) (by simpa using k)
   omega
 ·rename_i h
  rw [List.findIdx?_eq_none_iff]
  intro x hx
  obtain ⟨j,hj,rfl⟩:=List.mem_map.1 hx
  rw [List.mem_range] at hj
  rw [beq_eq_false_iff_ne]
  intro k
  have:=uv_inj (n:=n) (i:=j) (by omega) k
  omega
end
end Go.Proofs.YtnapapijhhldpaaGreatDoor

/-
  Texts joined by program: TwD, TwE, TwF, TwG. No condition of its own.
-/
import Derived.Test.YtnapapijhhldpaaGreatDoorJtAM
namespace Go.Proofs.YtnapapijhhldpaaGreatDoor
set_option linter.unusedSimpArgs false
set_option linter.unusedVariables false
set_option maxRecDepth 100000
set_option maxHeartbeats 4000000
section
open Go.RowKit
def UpL (F:List Ac):Prop:=F.Pairwise fun x y=>x.2.1<=y.2.1
theorem upL_from {N:List Ac} (hs:Ss N) (q:Nat):UpL (N.filter fun x=>decide (x.1=q)):=by
 unfold UpL
 induction N with
 | nil=>exact List.Pairwise.nil
 | cons a r ih =>
  have h1:(∀ y∈r,klt (ky a) (ky y))/\Ss r:=hs
  rw [List.filter_cons]
  split
  ·rename_i ha
   refine List.pairwise_cons.2 ⟨fun y hy=>?_,ih h1.2⟩
   have hy2:=List.mem_filter.1 hy
   have:=h1.1 y hy2.1
   have hq1:a.1=q:=by simpa using ha
   have hq2:y.1=q:=by simpa using hy2.2
   unfold klt ky at this
   simp only at this
   omega
  ·exact ih h1.2
theorem seg_filter {F P M R:List Ac} {l:Nat} (h:F=P++M++R) (h1:∀ x∈P,x.2.1<l) (h2:∀ x∈M,x.2.1=l) (h3:∀ x∈R,l<x.2.1):F.filter (fun x=>decide (x.2.1=l))=M:=by
 subst h
 rw [List.filter_append,List.filter_append]
 have e1:P.filter (fun x=>decide (x.2.1=l))=[]:=by
  rw [List.filter_eq_nil_iff]; intro x hx; have:=h1 x hx; simp; omega
 have e2:M.filter (fun x=>decide (x.2.1=l))=M:=by
  rw [List.filter_eq_self]; intro x hx; simp [h2 x hx]
 have e3:R.filter (fun x=>decide (x.2.1=l))=[]:=by
  rw [List.filter_eq_nil_iff]; intro x hx; have:=h3 x hx; simp; omega
 rw [e1,e2,e3]; simp
theorem stp_eq (N:List Ac) (q l:Nat):(N.filter fun x=>decide (x.1=q)).filter (fun x=>decide (x.2.1=l))=stp N q l:=by
 unfold stp
 rw [List.filter_filter]
 congr 1
 funext x
 exact Bool.and_comm _ _
theorem Fl.tail {w:World} {b o n c:Nat} {cs:List Value} {css:List (List Value)} (h:Fl 11 w (some ⟨b,o,none⟩) n c (cs::css)):Fl 11 w (some ⟨b,o+11,none⟩) (n-1) (c-1) css:=by
 have:=h.slice (i:=1) (j:=n) (by have:=h.len; simp at this; omega) (Nat.le_refl _)
 rw [List.take_of_length_le (by rw [h.len]; exact Nat.le_refl _)] at this
 simpa using this
theorem Fl.pre {k n cap j:Nat} {w:World} {ao:OA} {css:List (List Value)} (h:Fl k w ao n cap css) (hj:j<=n):Fl k w ao j cap (css.take j) :=
 ⟨by rw [List.length_take,h.len]; omega,by have:=h.le; omega,h.most,h.nil,fun i cs hi=>by
  rw [List.getElem?_take] at hi
  split at hi
  ·exact h.at_ i cs hi
  ·cases hi⟩
theorem step_any (syms:Nat) (N:Au) (hs:Ss N.arcs) (iv fv:Value) (ro:OA) (hro:ro=none\/∃ b,ro=some ⟨b,0,none⟩) (nr cr:Nat) (vo:OA) (cv:Nat) (q l:Nat) (hq:q<N.st) (hst:N.st<=64) (hn:nr<=4096) (w:World) (hf:Fl 11 w ro nr cr (N.arcs.map acC)) (hv:Rd w vo (N.st+1) cv (fB N.arcs)) :
  Calls Tryz.prog 32 #[.agg (viC syms N.st iv fv (.slice ro nr cr) (.slice vo (N.st+1) cv)).toArray,.int .i64 (q:Int),.int .i64 (l:Int)] w fun e w' =>
   (∃ ro' n' c',e=.returned (.slice ro' n' c')/\Fl 11 w' ro' n' c' ((stp N.arcs q l).map acC))/\Below w.heap.size w w':=by
 have hup:=hid (upL_from hs q)
 have hb0:Below w.heap.size w (w.alloc (.cells (viC syms N.st iv fv (.slice ro nr cr) (.slice vo (N.st+1) cv)).toArray 63)):=below_alloc _
 have hG:=Bl.fresh w (viC syms N.st iv fv (.slice ro nr cr) (.slice vo (N.st+1) cv)) 63
 have hfrom:=hid (from_any syms N hs iv fv ro hro nr cr vo cv q hq hst hn _ (hf.next hb0) (hv.next hb0))
 rw [<-stp_eq]
 obtain ⟨F,hF⟩:∃ F,(N.arcs.filter fun x=>decide (x.1=q))=F:=⟨_,rfl⟩
 rw [hF] at hup hfrom ⊢
 have hFl:F.length<=4096:=by
  have h1:=hf.lenMap
  have h2:=List.length_filter_le (fun x=>decide (x.1=q)) N.arcs
  rw [hF] at h2; omega
 clear hf hv hro hF hs
 have hGc:=hG.cs
 go_enter Tryz.func32,Tryz.ntmps32
 go_upto_region 1 with fail
 generalize (w.alloc (.cells (viC syms N.st iv fv (.slice ro nr cr) (.slice vo (N.st+1) cv)).toArray 63))=W0 at *
 go_wp2_with ((with_reducible refine wp_loadView rfl _ rfl w.heap.size 0 ?_ (viC syms N.st iv fv (.slice ro nr cr) (.slice vo (N.st+1) cv)) rfl hGc ?_); exact rfl)
 refine hfrom.out.mono ?_; rintro e w1 ⟨⟨a1,n1,c1,rfl,hf1⟩,hb1⟩
 have hb1:=below_chain hb0 hb1
 have hf1:=hid hf1
 clear hG hGc hb0 hfrom
 go_wp2_with fail
 go_loopw [7] (fun sv wr=>∃ (ao:OA) (n c:Nat) (P G:List Ac),sv=.slice ao n c/\Hid (Fl 11 w1 ao n c (G.map acC))/\Hid (F=P++G/\∀ x∈P,x.2.1<l)/\n<=4096/\G.length=n/\wr=w1) (fun sv _=>match sv with | .slice _ n _=>n | _=>0)
 case atStart=>exact ⟨a1,n1,c1,[],F,rfl,hf1,hid ⟨rfl,fun x hx=>by cases hx⟩,by have:=hf1.out.lenMap; omega,hf1.out.lenMap,rfl⟩
 case round =>
  obtain ⟨ao,n,c,P,G,rfl,hfG,hPG,hn4,hGn,rfl⟩:=hrel
  have hn0:(0:Int)<=(n:Int):=by omega
  by_cases hx:∃ x r,G=x::r/\x.2.1<l
  ·obtain ⟨x,r,rfl,hxl⟩:=hx
   obtain ⟨b,o,rfl,hcs⟩:=hfG.out.at_ 0 (acC x) rfl
   rw [Nat.zero_mul,Nat.add_zero] at hcs
   have c1:wr.cell? ⟨b,o+1,none⟩=some (.int .i64 (x.2.1:Int)):=hcs 1 _ rfl
   have hnp:0<n:=by rw [<-hGn]; simp
   have k1:(0:Int)<(n:Int):=by omega
   have k2:decide ((0:Int)<(n:Int))=true:=decide_eq_true k1
   have k3:(x.2.1:Int)<(l:Int):=by omega
   have k4:decide ((x.2.1:Int)<(l:Int))=true:=decide_eq_true k3
   have k5:(1:Int)<=(n:Int):=by omega
   have hnc:=hfG.out.le
   have k6:(1:Int)<=(c:Int):=by omega
   have ht:=hid hfG.out.tail
   have hPG2:Hid (F=(P++[x])++r/\∀ y∈P++[x],y.2.1<l):=hid ⟨by rw [hPG.out.1]; simp,fun y hy=>by
    rcases List.mem_append.1 hy with hy | hy
    ·exact hPG.out.2 y hy
    ·rw [List.mem_singleton.1 hy]; exact hxl⟩
   have hGn2:r.length=n-1:=by rw [<-hGn]; simp
   by_cases hc1:c=1
   ·subst hc1
    obtain rfl:n=1:=by omega
    have hr:r=[]:=List.eq_nil_of_length_eq_zero (by omega)
    subst hr
    go_wp2_with fail
    go_roundw
    case rel=>exact ⟨_,_,_,P++[x],[],rfl,hid ⟨rfl,Nat.le_refl _,by simp [maxLen],(fun e=>by cases e),fun i cs h=>by cases h⟩,hPG2,by omega,rfl,by trivial⟩
    case measure=>simp
   ·have k7:1<c:=by omega
    have k8:¬ c=1:=hc1
    go_wp2_with fail
    go_roundw
    case rel=>exact ⟨_,_,_,P++[x],r,rfl,ht,hPG2,by omega,hGn2,by trivial⟩
    case measure=>simp; omega
  ·have hup2:=hup.out
   rw [hPG.out.1] at hup2
   have hge:Hid (∀ y∈G,l<=y.2.1):=hid (by
    cases G with
    | nil=>intro y h; cases h
    | cons x r =>
     have hxl:¬ x.2.1<l:=fun h=>hx ⟨x,r,rfl,h⟩
     have h2:=(List.pairwise_append.1 hup2).2.1
     intro y hy
     rcases List.mem_cons.1 hy with rfl | hy
     ·omega
     ·have:=(List.pairwise_cons.1 h2).1 y hy; omega)
   have hupG:Hid (UpL G):=hid (List.pairwise_append.1 hup2).2.1
   have hcase:(n=0)\/(∃ (b o:Nat) (z:Nat),ao=some ⟨b,o,none⟩/\0<n/\wr.cell? ⟨b,o+1,none⟩=some (.int .i64 (z:Int))/\l<=z):=by
    cases G with
    | nil=>exact .inl (by simpa using hGn.symm)
    | cons x r =>
     obtain ⟨b,o,e,hcs⟩:=hfG.out.at_ 0 (acC x) rfl
     rw [Nat.zero_mul,Nat.add_zero] at hcs
     exact .inr ⟨b,o,x.2.1,e,by rw [<-hGn]; simp,hcs 1 _ rfl,hge.out x (by simp)⟩
   clear hup2 hx
   obtain ⟨wo,rfl⟩:∃ wo:World,wo=wr:=⟨_,rfl⟩
   rcases hcase with h0' | ⟨b,o,z,rfl,hnp,c1,hzl⟩
   ·have k1:¬ (0:Int)<(n:Int):=by omega
    have k2:decide ((0:Int)<(n:Int))=false:=decide_eq_false k1
    have h0:=hid h0'
    clear h0'
    go_upto_region 4 with fail
    clear k1 k2 h0
    go_wp2_with fail
    go_loopw [28] (fun iv wr=>∃ k:Nat,k<=n/\iv=.int .i64 (k:Int)/\Hid (∀ y∈G.take k,y.2.1=l)/\Below wo.heap.size wo wr) (fun iv _=>n-(intOf iv).toNat)
    case atStart=>exact ⟨0,by omega,rfl,hid (fun y hy=>by simp at hy),Below.refl _ _⟩
    case round =>
     obtain ⟨k,hk,rfl,hall,hb⟩:=hrel
     have hfr:=hid (hfG.out.next hb)
     by_cases hlt:k<n
     ·obtain ⟨x,hxk,b,off,hao,hcs⟩:=hfr.out.get hlt
      have i1:(k:Int)<(n:Int):=by omega
      have i0:(0:Int)<=(k:Int):=by omega
      have i2:(k:Int)<=(n:Int):=by omega
      have hfc:=hfr.out.le
      have i3:(k:Int)<=(c:Int):=by omega
      have hxge:=hge.out x (List.mem_of_getElem? hxk)
      have hbX:Below wr.heap.size wr (wr.alloc (.cells (acC x).toArray 54)):=below_alloc _
      have hX:=Bl.fresh wr (acC x) 54
      have z1:=hX.cell (i:=1) rfl
      have hres:=hid ((hfr.out.pre (j:=k) (by omega)).next hbX)
      have hb2:=hb.trans (hbX.mono hb.size)
      have Hxk:=hid hxk
      subst hao
      clear hxk hX
      by_cases hxl:x.2.1=l
      ·have e1:((x.2.1:Int) != (l:Int))=false:=by simp [hxl]
       have e2:(x.2.1:Int)=(l:Int):=by omega
       have hxl:=hid hxl
       go_wp2_with ((first | ((with_reducible refine wp_loadArc rfl _ rfl b (off+k*11) ?_ x hcs ?_); exact rfl) | ((with_reducible refine wp_storeVArc rfl _ _ rfl _ _ ?_ x ?_ ?_ ?_); exact rfl; exact rfl; exact rfl)))
       go_roundw
       case rel=>exact ⟨k+1,by omega,by go_num,hid (fun y hy=>by
        rw [List.take_succ_eq_append_getElem (List.getElem?_eq_some_iff.1 Hxk.out).1] at hy
        rcases List.mem_append.1 hy with hy | hy
        ·exact hall.out y hy
        ·rw [List.mem_singleton.1 hy,(List.getElem?_eq_some_iff.1 Hxk.out).2]; exact hxl.out),hb2⟩
       case measure=>simp [intOf]; omega
      ·have e1:((x.2.1:Int) != (l:Int))=true:=by simp; omega
       have e2:¬ (x.2.1:Int)=(l:Int):=by omega
       have hxl:=hid hxl
       go_wp2_with ((first | ((with_reducible refine wp_loadArc rfl _ rfl b (off+k*11) ?_ x hcs ?_); exact rfl) | ((with_reducible refine wp_storeVArc rfl _ _ rfl _ _ ?_ x ?_ ?_ ?_); exact rfl; exact rfl; exact rfl)))
       go_ret
       refine ⟨⟨_,_,_,rfl,?_⟩,below_chain hb1 hb2⟩
       rw [seg_filter (P:=P) (M:=G.take k) (R:=G.drop k) (by rw [hPG.out.1,List.append_assoc,List.take_append_drop]) hPG.out.2 hall.out (fun y hy=>by
        have hd:=List.drop_eq_getElem_cons (List.getElem?_eq_some_iff.1 Hxk.out).1
        rw [(List.getElem?_eq_some_iff.1 Hxk.out).2] at hd
        have hu:=hupG.out.drop (i:=k)
        rw [hd] at hu hy
        have hne:=hxl.out
        rcases List.mem_cons.1 hy with rfl | hy
        ·omega
        ·have:=(List.pairwise_cons.1 hu).1 y hy; omega),List.map_take]
       exact hres.out
     ·obtain rfl:k=n:=by omega
      have i1:¬ (k:Int)<(k:Int):=by omega
      have hres:=hid hfr
      go_wp2_with fail
      go_ret
      refine ⟨⟨_,_,_,rfl,?_⟩,below_chain hb1 hb⟩
      rw [seg_filter (P:=P) (M:=G) (R:=[]) (by rw [hPG.out.1]; simp) hPG.out.2 (fun y hy=>hall.out y (by rw [List.take_of_length_le (by omega)]; exact hy)) (fun y hy=>by cases hy)]
      exact hfr.out
   ·have k1:(0:Int)<(n:Int):=by omega
    have k2:decide ((0:Int)<(n:Int))=true:=decide_eq_true k1
    have k3:¬ (z:Int)<(l:Int):=by omega
    have k4:decide ((z:Int)<(l:Int))=false:=decide_eq_false k3
    go_upto_region 4 with fail
    clear k1 k2 k3 k4 c1
    go_wp2_with fail
    go_loopw [28] (fun iv wr=>∃ k:Nat,k<=n/\iv=.int .i64 (k:Int)/\Hid (∀ y∈G.take k,y.2.1=l)/\Below wo.heap.size wo wr) (fun iv _=>n-(intOf iv).toNat)
    case atStart=>exact ⟨0,by omega,rfl,hid (fun y hy=>by simp at hy),Below.refl _ _⟩
    case round =>
     obtain ⟨k,hk,rfl,hall,hb⟩:=hrel
     have hfr:=hid (hfG.out.next hb)
     by_cases hlt:k<n
     ·obtain ⟨x,hxk,b2,o2,hao,hcs⟩:=hfr.out.get hlt
      have i1:(k:Int)<(n:Int):=by omega
      have i0:(0:Int)<=(k:Int):=by omega
      have i2:(k:Int)<=(n:Int):=by omega
      have hfc:=hfr.out.le
      have i3:(k:Int)<=(c:Int):=by omega
      have hxge:=hge.out x (List.mem_of_getElem? hxk)
      have hbX:Below wr.heap.size wr (wr.alloc (.cells (acC x).toArray 54)):=below_alloc _
      have hX:=Bl.fresh wr (acC x) 54
      have z1:=hX.cell (i:=1) rfl
      have hres:=hid ((hfr.out.pre (j:=k) (by omega)).next hbX)
      have hb2:=hb.trans (hbX.mono hb.size)
      have Hxk:=hid hxk
      injection hao with hao; injection hao with hao1 hao2; subst hao1 hao2
      clear hxk hX
      by_cases hxl:x.2.1=l
      ·have e1:((x.2.1:Int) != (l:Int))=false:=by simp [hxl]
       have e2:(x.2.1:Int)=(l:Int):=by omega
       have hxl:=hid hxl
       go_wp2_with ((first | ((with_reducible refine wp_loadArc rfl _ rfl b (o+k*11) ?_ x hcs ?_); exact rfl) | ((with_reducible refine wp_storeVArc rfl _ _ rfl _ _ ?_ x ?_ ?_ ?_); exact rfl; exact rfl; exact rfl)))
       go_roundw
       case rel=>exact ⟨k+1,by omega,by go_num,hid (fun y hy=>by
        rw [List.take_succ_eq_append_getElem (List.getElem?_eq_some_iff.1 Hxk.out).1] at hy
        rcases List.mem_append.1 hy with hy | hy
        ·exact hall.out y hy
        ·rw [List.mem_singleton.1 hy,(List.getElem?_eq_some_iff.1 Hxk.out).2]; exact hxl.out),hb2⟩
       case measure=>simp [intOf]; omega
      ·have e1:((x.2.1:Int) != (l:Int))=true:=by simp; omega
       have e2:¬ (x.2.1:Int)=(l:Int):=by omega
       have hxl:=hid hxl
       go_wp2_with ((first | ((with_reducible refine wp_loadArc rfl _ rfl b (o+k*11) ?_ x hcs ?_); exact rfl) | ((with_reducible refine wp_storeVArc rfl _ _ rfl _ _ ?_ x ?_ ?_ ?_); exact rfl; exact rfl; exact rfl)))
       go_ret
       refine ⟨⟨_,_,_,rfl,?_⟩,below_chain hb1 hb2⟩
       rw [seg_filter (P:=P) (M:=G.take k) (R:=G.drop k) (by rw [hPG.out.1,List.append_assoc,List.take_append_drop]) hPG.out.2 hall.out (fun y hy=>by
        have hd:=List.drop_eq_getElem_cons (List.getElem?_eq_some_iff.1 Hxk.out).1
        rw [(List.getElem?_eq_some_iff.1 Hxk.out).2] at hd
        have hu:=hupG.out.drop (i:=k)
        rw [hd] at hu hy
        have hne:=hxl.out
        rcases List.mem_cons.1 hy with rfl | hy
        ·omega
        ·have:=(List.pairwise_cons.1 hu).1 y hy; omega),List.map_take]
       exact hres.out
     ·obtain rfl:k=n:=by omega
      have i1:¬ (k:Int)<(k:Int):=by omega
      have hres:=hid hfr
      go_wp2_with fail
      go_ret
      refine ⟨⟨_,_,_,rfl,?_⟩,below_chain hb1 hb⟩
      rw [seg_filter (P:=P) (M:=G) (R:=[]) (by rw [hPG.out.1]; simp) hPG.out.2 (fun y hy=>hall.out y (by rw [List.take_of_length_le (by omega)]; exact hy)) (fun y hy=>by cases hy)]
      exact hfr.out
end
section
open Go.RowKit
def cF (E:Nat->Bool) (n:Nat):Nat:=((List.range n).filter fun j=>!E j).length
def updB (E:Nat->Bool) (j:Nat) (b:Bool):Nat->Bool:=fun i=>if i=j then b else E i
theorem cF_set {E:Nat->Bool} {n j:Nat} (hj:j<n) (h:E j=false):cF (updB E j true) n+1=cF E n:=by
 unfold cF
 have key:∀ (L:List Nat),L.Nodup->j∈L->(L.filter fun i=>!updB E j true i).length+1=(L.filter fun i=>!E i).length:=by
  intro L
  induction L with
  | nil=>intro _ h; cases h
  | cons a r ih =>
   intro hn hm
   have hn2:=List.nodup_cons.1 hn
   by_cases ha:a=j
   ·subst ha
    have e:(r.filter fun i=>!updB E a true i)=r.filter fun i=>!E i:=by
     apply List.filter_congr
     intro i hi
     have:i≠a:=fun e=>hn2.1 (by rw [<-e]; exact hi)
     simp [updB,this]
    rw [List.filter_cons_of_neg (by simp [updB]),List.filter_cons_of_pos (by simp [h]),e]
    rfl
   ·have hm2:j∈r:=by
     rcases List.mem_cons.1 hm with h | h
     ·exact absurd h.symm ha
     ·exact h
    have ih':=ih hn2.2 hm2
    have e:updB E j true a=E a:=if_neg ha
    by_cases hE:E a
    ·rw [List.filter_cons_of_neg (by simp [e,hE]),List.filter_cons_of_neg (by simp [hE])]; exact ih'
    ·rw [List.filter_cons_of_pos (by simp [e,hE]),List.filter_cons_of_pos (by simp [hE])]
     simp only [List.length_cons]; omega
 exact key (List.range n) List.nodup_range (List.mem_range.2 hj)
theorem cF_le (E:Nat->Bool) (n:Nat):cF E n<=n:=by unfold cF; exact Nat.le_trans (List.length_filter_le _ _) (by simp)
def fBo (E:Nat->Bool) (j:Nat):Value:=.bool (E j)
theorem fBo_upd (E:Nat->Bool) (j:Nat) (b:Bool):∀ i,updF (fBo E) j (.bool b) i=fBo (updB E j b) i:=fun i=>by
 unfold updF fBo updB; split<;>rfl
def eN (fin:List Tw) (k j:Nat):Bool:=decide (j<k)&&(fin.getD j none).isSome
theorem eN_step {fin:List Tw} {k:Nat} {v:Tw} (h:fin[k]? = some v):∀ i,updF (fBo (eN fin k)) k (.bool v.isSome) i=fBo (eN fin (k+1)) i:=fun i=>by
 rw [fBo_upd]
 unfold fBo updB eN
 by_cases hi:i=k
 ·subst hi; simp [List.getD_eq_getElem?_getD,h]
 ·rw [if_neg hi]
  congr 2
  exact decide_eq_decide.2 (by omega)
def Snd (N:Au) (E:Nat->Bool):Prop:=(∀ q,q<N.st->E q=true->ToEnd N.arcs N.fin q)/\∀ q c,N.fin[q]? = some (some c)->E q=true
def Cld (A:List Ac) (E:Nat->Bool):Prop:=∀ x∈A,E x.2.2.1=true->E x.1=true
theorem toEnd_of {N:Au} {E:Nat->Bool} (h:Snd N E) (hc:Cld N.arcs E) {q:Nat} (ht:ToEnd N.arcs N.fin q):E q=true:=by
 induction ht with
 | here h1=>exact h.2 _ _ h1
 | step hx _ ih=>exact hc _ hx ih
theorem snd_upd {N:Au} {E:Nat->Bool} (h:Snd N E) {x:Ac} (hx:x∈N.arcs) (hst:x.2.2.1<N.st) (ht:E x.2.2.1=true):Snd N (updB E x.1 true) :=
 ⟨fun q hq hE=>by
  unfold updB at hE
  split at hE
  ·rename_i e; subst e; exact ToEnd.step hx (h.1 _ hst ht)
  ·exact h.1 q hq hE,fun q c hc=>by
  unfold updB
  split
  ·rfl
  ·exact h.2 q c hc⟩
theorem snd_start (N:Au) (hf:N.fin.length=N.st):Snd N (eN N.fin N.st) :=
 ⟨fun q hq hE=>by
  unfold eN at hE
  simp only [Bool.and_eq_true,decide_eq_true_eq] at hE
  have h1:q<N.fin.length:=by omega
  cases hv:N.fin[q]? with
  | none=>rw [List.getElem?_eq_none_iff] at hv; omega
  | some v =>
   rw [List.getD_eq_getElem?_getD,hv] at hE
   cases v with
   | none=>simp at hE
   | some c=>exact ToEnd.here hv,fun q c hc=>by
  have:=(List.getElem?_eq_some_iff.1 hc).1
  unfold eN
  rw [List.getD_eq_getElem?_getD,hc]
  simp; omega⟩
theorem Tryz.infoBool:(Tryz.prog.info? 4).map (fun i=>(i.zero,i.size,i.bytes))=some (some (.bool false),1,1):=by kernel_rfl
theorem ended_any (syms:Nat) (N:Au) (hA:∀ x∈N.arcs,x.1<N.st/\x.2.2.1<N.st) (hfin:N.fin.length=N.st) (io:OA) (ci:Nat) (fo:OA) (cf:Nat) (ro:OA) (nr cr:Nat) (vo:OA) (cv:Nat) (hst:N.st<=64) (hn:nr<=4096) (w:World) (h:Vm w syms N io ci fo cf ro nr cr vo cv) :
  Calls Tryz.prog 54 #[.agg (viC syms N.st (.slice io N.st ci) (.slice fo N.st cf) (.slice ro nr cr) (.slice vo (N.st+1) cv)).toArray] w fun e w' =>
   (∃ g E,e=.returned (.slice (some ⟨g,0,none⟩) N.st N.st)/\Rw 4 w' w.heap.size (.slice (some ⟨g,0,none⟩) N.st N.st) N.st (fBo E)/\∀ q,q<N.st->(E q=true↔ToEnd N.arcs N.fin q))/\Below w.heap.size w w':=by
 have hA:=hid hA
 have hfin:=hid hfin
 have hsnd:=hid (snd_start N hfin.out)
 have hb0:Below w.heap.size w (w.alloc (.cells (viC syms N.st (.slice io N.st ci) (.slice fo N.st cf) (.slice ro nr cr) (.slice vo (N.st+1) cv)).toArray 63)):=below_alloc _
 have hG:=Bl.fresh w (viC syms N.st (.slice io N.st ci) (.slice fo N.st cf) (.slice ro nr cr) (.slice vo (N.st+1) cv)) 63
 have hm:=hid (h.next hb0)
 have hnl:=hid h.mo.arcs.lenMap
 clear h
 have x3:=hG.cell (i:=3) rfl
 have hGl:=hG.lt
 go_enter Tryz.func54,Tryz.ntmps54
 go_upto_region 1 with fail
 generalize (w.alloc (.cells (viC syms N.st (.slice io N.st ci) (.slice fo N.st cf) (.slice ro nr cr) (.slice vo (N.st+1) cv)).toArray 63))=W0 at *
 go_upto_region 2 with (at_make; (with_reducible refine wp_makeR rfl _ _ 66 rfl 4 (.bool false) 1 Tryz.underlying66 Tryz.infoBool ?_ .i64 .i64 (N.st:Int) (N.st:Int) N.st ?_ ?_ ?_ ?_ ?_ ?_ ?_); exact rfl; exact rfl; exact rfl; exact rfl; exact rfl; omega; omega; intro w1 g hR1 hb1)
 have hR1:Rw 4 w1 W0.heap.size (.slice (some ⟨g,0,none⟩) N.st N.st) N.st (fBo (eN N.fin 0)):=hR1.congr fun i _=>by unfold fBo eN; simp
 have hgl:=hR1.lt rfl
 go_wp2_with fail
 go_loopw [14] (fun iv wr=>∃ k:Nat,k<=N.st/\iv=.int .i64 (k:Int)/\Rw 4 wr W0.heap.size (.slice (some ⟨g,0,none⟩) N.st N.st) N.st (fBo (eN N.fin k))/\Below W0.heap.size W0 wr) (fun iv _=>N.st-(intOf iv).toNat)
 case atStart=>exact ⟨0,by omega,rfl,hR1,hb1⟩
 case round =>
  clear hR1 hb1
  obtain ⟨k,hk,rfl,hrow,hb⟩:=hrel
  by_cases hlt:k<N.st
  ·have i1:(k:Int)<(N.st:Int):=by omega
   have i0:(0:Int)<=(k:Int):=by omega
   have hXc:=(hG.next hb).cs
   obtain ⟨v,hv⟩:∃ v,N.fin[k]? = some v:=⟨_,List.getElem?_eq_getElem (by have:=hfin.out; omega)⟩
   have hstep:=hid (eN_step hv)
   have hends:=hid (ends_any syms N.st (.slice io N.st ci) (.slice ro nr cr) (.slice vo (N.st+1) cv) fo cf N.fin k v hv wr (hm.out.next hb).mo.fin)
   clear hv
   go_wp2_with ((with_reducible refine wp_loadView rfl _ rfl w.heap.size 0 ?_ (viC syms N.st (.slice io N.st ci) (.slice fo N.st cf) (.slice ro nr cr) (.slice vo (N.st+1) cv)) rfl hXc ?_); exact rfl)
   refine hends.out.mono ?_; rintro e w2 ⟨rfl,hb2⟩
   have hrow2:=hrow.next hb2
   have hc1:=hrow2.cell hlt
   have hc2:=hrow2.free k
   have hb3:=hb.trans (hb2.mono hb.size)
   go_wp2_with fail
   go_roundw
   case rel=>exact ⟨k+1,by omega,by go_num,(hrow2.put k _).congr (fun i _=>hstep.out i),hb3.setCell (p:=⟨g,k,none⟩) hgl.1 _⟩
   case measure=>simp [intOf]; omega
  ·obtain rfl:k=N.st:=by omega
   have i1:¬ (N.st:Int)<(N.st:Int):=by omega
   go_wp2_with fail
   have hrow0:=hrow
   have hb':=hb
   go_loopg [5] (N.st+2) (fun gk cv wr=>∃ (E:Nat->Bool) (ch:Bool),cv=.bool ch/\Rw 4 wr W0.heap.size (.slice (some ⟨g,0,none⟩) N.st N.st) N.st (fBo E)/\Hid (Snd N E)/\Hid (ch=false->Cld N.arcs E)/\Hid (cF E N.st+(if ch then 1 else 0)<gk)/\Below W0.heap.size W0 wr)
   case atStart=>exact ⟨eN N.fin N.st,true,rfl,hrow0,hsnd,hid (fun h=>by cases h),hid (by have:=cF_le (eN N.fin N.st) N.st; simp; omega),hb'⟩
   case round =>
    clear hrow hb hrow0 hb'
    obtain ⟨E,ch,rfl,hrow,hS,hcl,hcnt,hb⟩:=hrel
    cases ch with
    | false =>
     go_wp2_with fail
     go_ret
     exact ⟨⟨g,rfl,E,hrow.mono (by omega),fun q hq=>⟨hS.out.1 q hq,toEnd_of hS.out (hcl.out (by simp))⟩⟩,below_chain hb0 hb⟩
    | true =>
     have x6:=(hG.next hb).cell (i:=6) rfl
     obtain ⟨wo,rfl⟩:∃ wo:World,wo=wr:=⟨_,rfl⟩
     go_wp2_with fail
     go_loopw [5,29] (fun cv iv wr=>∃ (k:Nat) (E':Nat->Bool) (ch':Bool),k<=nr/\iv=.int .i64 (k:Int)/\cv=.bool ch'/\Rw 4 wr W0.heap.size (.slice (some ⟨g,0,none⟩) N.st N.st) N.st (fBo E')/\Hid (Snd N E')/\Hid (ch'=false->Cld (N.arcs.take k) E')/\Hid (cF E' N.st+(if ch' then 1 else 0)<=cF E N.st)/\Below W0.heap.size W0 wr) (fun _ iv _=>nr-(intOf iv).toNat)
     case atStart=>exact ⟨0,E,false,by omega,rfl,rfl,hrow,hS,hid (fun _ x hx=>by simp at hx),hid (by simp),hb⟩
     case round =>
      clear hrow hS hcl hb x6
      obtain ⟨k,E',ch',hk,rfl,rfl,hrow,hS,hcl,hcn,hb⟩:=hrel
      by_cases hlt:k<nr
      ·obtain ⟨x,hxk,b,off,rfl,hcs⟩:=(hm.out.mo.arcs.next hb).get hlt
       have hxm:=List.mem_of_getElem? hxk
       have hxs:=hA.out x hxm
       have i1:(k:Int)<(nr:Int):=by omega
       have i0:(0:Int)<=(k:Int):=by omega
       have i2:(x.1:Int)<(N.st:Int):=by omega
       have i3:(x.2.2.1:Int)<(N.st:Int):=by omega
       have i4:(0:Int)<=(x.1:Int):=by omega
       have i5:(0:Int)<=(x.2.2.1:Int):=by omega
       have htk:Hid (N.arcs.take (k+1)=N.arcs.take k++[x]):=hid (by rw [List.take_succ_eq_append_getElem (List.getElem?_eq_some_iff.1 hxk).1,(List.getElem?_eq_some_iff.1 hxk).2])
       have hbX:Below wr.heap.size wr (wr.alloc (.cells (acC x).toArray 54)):=below_alloc _
       have hX:=Bl.fresh wr (acC x) 54
       have z0:=hX.cell (i:=0) rfl
       have z2:=hX.cell (i:=2) rfl
       have hrow2:=hrow.next hbX
       have c1:=hrow2.cell hxs.2
       have c2:=hrow2.cell hxs.1
       have c3:=hrow2.free x.1
       have hb2:=hb.trans (hbX.mono hb.size)
       obtain ⟨e1,he1⟩:∃ e1,E' x.2.2.1=e1:=⟨_,rfl⟩
       obtain ⟨e2,he2⟩:∃ e2,E' x.1=e2:=⟨_,rfl⟩
       unfold fBo at c1 c2
       rw [he1] at c1
       rw [he2] at c2
       have He1:=hid he1
       have He2:=hid he2
       have Hxm:=hid hxm
       clear he1 he2 hxk hX hxm
       go_upto_region 13 with ((first | ((with_reducible refine wp_loadArc rfl _ rfl b (off+k*11) ?_ x hcs ?_); exact rfl) | ((with_reducible refine wp_storeVArc rfl _ _ rfl _ _ ?_ x ?_ ?_ ?_); exact rfl; exact rfl; exact rfl)))
       generalize hW2:(wr.alloc (.cells (acC x).toArray 54))=W2 at *
       clear hW2
       have hkeep:Hid (¬ (e1=true/\e2=false)->ch'=false->Cld (N.arcs.take (k+1)) E'):=hid fun hn hc y hy hE=>by
        rw [htk.out] at hy
        rcases List.mem_append.1 hy with hy | hy
        ·exact hcl.out hc y hy hE
        ·rw [List.mem_singleton.1 hy] at hE ⊢
         rw [He1.out] at hE
         rw [He2.out]
         cases e2 with
         | true=>rfl
         | false=>exact absurd ⟨hE,rfl⟩ hn
       cases e1 with
       | false =>
        go_wp2_with fail
        go_roundw
        case rel=>exact ⟨k+1,E',ch',by omega,by go_num,rfl,hrow2,hS,hid (hkeep.out (by simp)),hcn,hb2⟩
        case measure=>simp [intOf]; omega
       | true =>
        cases e2 with
        | true =>
         go_wp2_with fail
         go_roundw
         case rel=>exact ⟨k+1,E',ch',by omega,by go_num,rfl,hrow2,hS,hid (hkeep.out (by simp)),hcn,hb2⟩
         case measure=>simp [intOf]; omega
        | false =>
         go_wp2_with fail
         go_roundw
         case rel=>exact ⟨k+1,updB E' x.1 true,true,by omega,by go_num,rfl,(hrow2.put x.1 _).congr (fun i _=>fBo_upd E' x.1 true i),hid (snd_upd hS.out Hxm.out hxs.2 He1.out),hid (fun h=>by cases h),hid (by
          have h1:=cF_set hxs.1 He2.out
          have h2:=hcn.out
          simp only [if_true] at h2 ⊢
          omega),hb2.setCell (p:=⟨g,x.1,none⟩) hgl.1 _⟩
         case measure=>simp [intOf]; omega
      ·obtain rfl:k=nr:=by omega
       have i1:¬ (k:Int)<(k:Int):=by omega
       have htk:N.arcs.take k=N.arcs:=List.take_of_length_le (by rw [hnl.out]; exact Nat.le_refl _)
       rw [htk] at hcl
       clear htk
       go_wp2_with fail
       go_roundg (gk-1)
       case measure=>have:=hcnt.out; simp only [if_true] at this; omega
       case rel=>exact ⟨E',ch',rfl,hrow,hS,hcl,hid (by have:=hcnt.out; have:=hcn.out; simp only [if_true] at *; omega),hb⟩
end
section
open Go.RowKit
def SndF (N:Au) (E:Nat->Bool):Prop:=(∀ q,q<N.st->E q=true->FromS N.arcs N.ini q)/\∀ q c,N.ini[q]? = some (some c)->E q=true
def CldF (A:List Ac) (E:Nat->Bool):Prop:=∀ x∈A,E x.1=true->E x.2.2.1=true
theorem fromS_of {N:Au} {E:Nat->Bool} (h:SndF N E) (hc:CldF N.arcs E) {q:Nat} (ht:FromS N.arcs N.ini q):E q=true:=by
 induction ht with
 | here h1=>exact h.2 _ _ h1
 | step hx _ ih=>exact hc _ hx ih
theorem sndF_upd {N:Au} {E:Nat->Bool} (h:SndF N E) {x:Ac} (hx:x∈N.arcs) (hst:x.1<N.st) (ht:E x.1=true):SndF N (updB E x.2.2.1 true) :=
 ⟨fun q hq hE=>by
  unfold updB at hE
  split at hE
  ·rename_i e; subst e; exact FromS.step hx (h.1 _ hst ht)
  ·exact h.1 q hq hE,fun q c hc=>by
  unfold updB
  split
  ·rfl
  ·exact h.2 q c hc⟩
theorem sndF_start (N:Au) (hf:N.ini.length=N.st):SndF N (eN N.ini N.st) :=
 ⟨fun q hq hE=>by
  unfold eN at hE
  simp only [Bool.and_eq_true,decide_eq_true_eq] at hE
  have h1:q<N.ini.length:=by omega
  cases hv:N.ini[q]? with
  | none=>rw [List.getElem?_eq_none_iff] at hv; omega
  | some v =>
   rw [List.getD_eq_getElem?_getD,hv] at hE
   cases v with
   | none=>simp at hE
   | some c=>exact FromS.here hv,fun q c hc=>by
  have:=(List.getElem?_eq_some_iff.1 hc).1
  unfold eN
  rw [List.getD_eq_getElem?_getD,hc]
  simp; omega⟩
def uF (E R:Nat->Bool) (k j:Nat):Bool:=if j<k then E j&&R j else E j
theorem uF_step {E R:Nat->Bool} {k:Nat}:∀ i,updF (fBo (uF E R k)) k (.bool (E k&&R k)) i=fBo (uF E R (k+1)) i:=fun i=>by
 rw [fBo_upd]
 unfold fBo updB uF
 by_cases hi:i=k
 ·subst hi; simp
 ·rw [if_neg hi]
  by_cases h:i<k
  ·rw [if_pos h,if_pos (by omega)]
  ·rw [if_neg h,if_neg (by omega)]
theorem Rw.keep {e:TypeId} {w w':World} {base n B:Nat} {v:Value} {F:Nat->Value} (h:Rw e w base v n F) (hb:Below B w w') (hB:w.heap.size<=B):Rw e w' base v n F:=h.same fun g hg=>hb.block g (Nat.lt_of_lt_of_le (h.lt hg).2 hB)
theorem useful_any (syms:Nat) (N:Au) (hA:∀ x∈N.arcs,x.1<N.st/\x.2.2.1<N.st) (hfin:N.fin.length=N.st) (hini:N.ini.length=N.st) (io:OA) (ci:Nat) (fo:OA) (cf:Nat) (ro:OA) (nr cr:Nat) (vo:OA) (cv:Nat) (hst:N.st<=64) (hn:nr<=4096) (w:World) (h:Vm w syms N io ci fo cf ro nr cr vo cv) :
  Calls Tryz.prog 24 #[.agg (viC syms N.st (.slice io N.st ci) (.slice fo N.st cf) (.slice ro nr cr) (.slice vo (N.st+1) cv)).toArray] w fun e w' =>
   (∃ g us,e=.returned (.slice (some ⟨g,0,none⟩) N.st N.st)/\Rw 4 w' w.heap.size (.slice (some ⟨g,0,none⟩) N.st N.st) N.st (fBo fun q=>us.getD q false)/\UsOk us N)/\Below w.heap.size w w':=by
 have hA:=hid hA
 have hfin:=hid hfin
 have hini:=hid hini
 have hsnd:=hid (sndF_start N hini.out)
 have hb0:Below w.heap.size w (w.alloc (.cells (viC syms N.st (.slice io N.st ci) (.slice fo N.st cf) (.slice ro nr cr) (.slice vo (N.st+1) cv)).toArray 63)):=below_alloc _
 have hG:=Bl.fresh w (viC syms N.st (.slice io N.st ci) (.slice fo N.st cf) (.slice ro nr cr) (.slice vo (N.st+1) cv)) 63
 have hm:=hid (h.next hb0)
 have hnl:=hid h.mo.arcs.lenMap
 clear h
 have x3:=hG.cell (i:=3) rfl
 have hGl:=hG.lt
 go_enter Tryz.func24,Tryz.ntmps24
 go_upto_region 1 with fail
 generalize (w.alloc (.cells (viC syms N.st (.slice io N.st ci) (.slice fo N.st cf) (.slice ro nr cr) (.slice vo (N.st+1) cv)).toArray 63))=W0 at *
 have hXc0:=hG.cs
 go_upto_region 2 with (first | ((with_reducible refine wp_loadView rfl _ rfl w.heap.size 0 ?_ (viC syms N.st (.slice io N.st ci) (.slice fo N.st cf) (.slice ro nr cr) (.slice vo (N.st+1) cv)) rfl hXc0 ?_); exact rfl) | (go_at_call 54; refine (ended_any syms N hA.out hfin.out io ci fo cf ro nr cr vo cv hst hn _ hm.out).mono ?_; rintro e wE ⟨⟨gE,EE,rfl,hRE,hEE⟩,hbE⟩))
 have hEE:=hid hEE
 have hbE0:=hbE
 have hbW:w.heap.size<=W0.heap.size:=hb0.size
 have hREs:=(hRE.lt rfl)
 replace hRE:=hRE.mono hbW
 replace hb0:=below_chain hb0 hbE
 replace hG:=hG.next hbE
 have hm:=hid (hm.out.next hbE)
 have hGl:=hG.lt
 have x3:=hG.cell (i:=3) rfl
 clear hXc0 hbE hbE0 hbW
 obtain ⟨W0',rfl⟩:∃ W0',W0'=W0:=⟨_,rfl⟩
 obtain ⟨W0,rfl⟩:∃ W0,W0=wE:=⟨_,rfl⟩
 go_upto_region 3 with (at_make; (with_reducible refine wp_makeR rfl _ _ 66 rfl 4 (.bool false) 1 Tryz.underlying66 Tryz.infoBool ?_ .i64 .i64 (N.st:Int) (N.st:Int) N.st ?_ ?_ ?_ ?_ ?_ ?_ ?_); exact rfl; exact rfl; exact rfl; exact rfl; exact rfl; omega; omega; intro w1 g hR1 hb1)
 have hR1:Rw 4 w1 W0.heap.size (.slice (some ⟨g,0,none⟩) N.st N.st) N.st (fBo (eN N.ini 0)):=hR1.congr fun i _=>by unfold fBo eN; simp
 have hgl:=hR1.lt rfl
 go_wp2_with fail
 go_loopw [18] (fun iv wr=>∃ k:Nat,k<=N.st/\iv=.int .i64 (k:Int)/\Rw 4 wr W0.heap.size (.slice (some ⟨g,0,none⟩) N.st N.st) N.st (fBo (eN N.ini k))/\Below W0.heap.size W0 wr) (fun iv _=>N.st-(intOf iv).toNat)
 case atStart=>exact ⟨0,by omega,rfl,hR1,hb1⟩
 case round =>
  clear hR1 hb1
  obtain ⟨k,hk,rfl,hrow,hb⟩:=hrel
  by_cases hlt:k<N.st
  ·have i1:(k:Int)<(N.st:Int):=by omega
   have i0:(0:Int)<=(k:Int):=by omega
   have hXc:=(hG.next hb).cs
   obtain ⟨v,hv⟩:∃ v,N.ini[k]? = some v:=⟨_,List.getElem?_eq_getElem (by have:=hini.out; omega)⟩
   have hstep:=hid (eN_step hv)
   have hends:=hid (begins_any syms N.st (.slice fo N.st cf) (.slice ro nr cr) (.slice vo (N.st+1) cv) io ci N.ini k v hv wr (hm.out.next hb).mo.ini)
   clear hv
   go_wp2_with ((with_reducible refine wp_loadView rfl _ rfl w.heap.size 0 ?_ (viC syms N.st (.slice io N.st ci) (.slice fo N.st cf) (.slice ro nr cr) (.slice vo (N.st+1) cv)) rfl hXc ?_); exact rfl)
   refine hends.out.mono ?_; rintro e w2 ⟨rfl,hb2⟩
   have hrow2:=hrow.next hb2
   have hc1:=hrow2.cell hlt
   have hc2:=hrow2.free k
   have hb3:=hb.trans (hb2.mono hb.size)
   go_wp2_with fail
   go_roundw
   case rel=>exact ⟨k+1,by omega,by go_num,(hrow2.put k _).congr (fun i _=>hstep.out i),hb3.setCell (p:=⟨g,k,none⟩) hgl.1 _⟩
   case measure=>simp [intOf]; omega
  ·obtain rfl:k=N.st:=by omega
   have i1:¬ (N.st:Int)<(N.st:Int):=by omega
   go_wp2_with fail
   have hrow0:=hrow
   have hb':=hb
   go_loopg [6] (N.st+2) (fun gk cv wr=>∃ (E:Nat->Bool) (ch:Bool),cv=.bool ch/\Rw 4 wr W0.heap.size (.slice (some ⟨g,0,none⟩) N.st N.st) N.st (fBo E)/\Hid (SndF N E)/\Hid (ch=false->CldF N.arcs E)/\Hid (cF E N.st+(if ch then 1 else 0)<gk)/\Below W0.heap.size W0 wr)
   case atStart=>exact ⟨eN N.ini N.st,true,rfl,hrow0,hsnd,hid (fun h=>by cases h),hid (by have:=cF_le (eN N.ini N.st) N.st; simp; omega),hb'⟩
   case round =>
    clear hrow hb hrow0 hb'
    obtain ⟨E,ch,rfl,hrow,hS,hcl,hcnt,hb⟩:=hrel
    cases ch with
    | false =>
     have hREr:=hRE.keep hb (Nat.le_refl _)
     have hne:g≠gE:=fun e=>by have h1:=hgl.1; have h2:gE<W0.heap.size:=(hRE.lt rfl).2; omega
     have hfin2:Hid (∀ q,q<N.st->(E q=true↔FromS N.arcs N.ini q)):=hid fun q hq=>⟨hS.out.1 q hq,fromS_of hS.out (hcl.out (by simp))⟩
     have hge:w.heap.size<=gE:=(hRE.lt rfl).1
     have hb9:=below_chain hb0 hb
     clear hS hcl hcnt
     go_wp2_with fail
     go_loopw [57] (fun iv wq=>∃ k:Nat,k<=N.st/\iv=.int .i64 (k:Int)/\Rw 4 wq w.heap.size (.slice (some ⟨gE,0,none⟩) N.st N.st) N.st (fBo (uF EE E k))/\Rw 4 wq W0.heap.size (.slice (some ⟨g,0,none⟩) N.st N.st) N.st (fBo E)/\Below w.heap.size w wq) (fun iv _=>N.st-(intOf iv).toNat)
     case atStart=>exact ⟨0,by omega,rfl,hREr.congr (fun i _=>by unfold fBo uF; rw [if_neg (by omega)]),hrow,hb9⟩
     case round =>
      clear hREr hrow hb hb9
      obtain ⟨k,hk,rfl,hRq,hrow,hb⟩:=hrel
      by_cases hlt:k<N.st
      ·have i1:(k:Int)<(N.st:Int):=by omega
       have i0:(0:Int)<=(k:Int):=by omega
       have c1:=hRq.cell hlt
       have c2:=hrow.cell hlt
       have c3:=hRq.free k
       obtain ⟨e1,he1⟩:∃ e1,EE k=e1:=⟨_,rfl⟩
       obtain ⟨e2,he2⟩:∃ e2,E k=e2:=⟨_,rfl⟩
       unfold fBo at c1 c2
       unfold uF at c1
       rw [if_neg (by omega),he1] at c1
       rw [he2] at c2
       have hst':=hid (uF_step (E:=EE) (R:=E) (k:=k))
       rw [he1,he2] at hst'
       clear he1 he2
       cases e1 with
       | false =>
        go_wp2_with fail
        go_roundw
        case rel=>exact ⟨k+1,by omega,by go_num,(hRq.put k _).congr (fun i _=>hst'.out i),hrow.fr (Fr.set (T:=fun j=>j=gE) _ (p:=⟨gE,k,none⟩) rfl _) (fun g' hg'=>by injection hg' with hg'; subst hg'; exact hne),hb.setCell (p:=⟨gE,k,none⟩) hge _⟩
        case measure=>simp [intOf]; omega
       | true =>
        go_wp2_with fail
        go_roundw
        case rel=>exact ⟨k+1,by omega,by go_num,(hRq.put k _).congr (fun i _=>hst'.out i),hrow.fr (Fr.set (T:=fun j=>j=gE) _ (p:=⟨gE,k,none⟩) rfl _) (fun g' hg'=>by injection hg' with hg'; subst hg'; exact hne),hb.setCell (p:=⟨gE,k,none⟩) hge _⟩
        case measure=>simp [intOf]; omega
      ·obtain rfl:k=N.st:=by omega
       have i1:¬ (N.st:Int)<(N.st:Int):=by omega
       go_wp2_with fail
       go_ret
       refine ⟨⟨gE,rfl,(List.range N.st).map (fun q=>EE q&&E q),?_,by simp,fun q hq=>?_⟩,hb⟩
       ·refine hRq.congr fun i hi=>?_
        unfold fBo uF
        rw [if_pos hi]
        show Value.bool (EE i&&E i)=Value.bool (((List.range N.st).map (fun q=>EE q&&E q))[i]?.getD false)
        rw [List.getElem?_map,List.getElem?_range hi]; rfl
       ·rw [List.getD_eq_getElem?_getD,List.getElem?_map,List.getElem?_range hq]
        simp only [Option.map_some,Option.getD_some,Bool.and_eq_true]
        rw [hEE.out q hq,hfin2.out q hq]
        exact ⟨fun h=>⟨h.2,h.1⟩,fun h=>⟨h.2,h.1⟩⟩
    | true =>
     have x6:=(hG.next hb).cell (i:=6) rfl
     obtain ⟨wo,rfl⟩:∃ wo:World,wo=wr:=⟨_,rfl⟩
     go_wp2_with fail
     go_loopw [6,33] (fun cv iv wr=>∃ (k:Nat) (E':Nat->Bool) (ch':Bool),k<=nr/\iv=.int .i64 (k:Int)/\cv=.bool ch'/\Rw 4 wr W0.heap.size (.slice (some ⟨g,0,none⟩) N.st N.st) N.st (fBo E')/\Hid (SndF N E')/\Hid (ch'=false->CldF (N.arcs.take k) E')/\Hid (cF E' N.st+(if ch' then 1 else 0)<=cF E N.st)/\Below W0.heap.size W0 wr) (fun _ iv _=>nr-(intOf iv).toNat)
     case atStart=>exact ⟨0,E,false,by omega,rfl,rfl,hrow,hS,hid (fun _ x hx=>by simp at hx),hid (by simp),hb⟩
     case round =>
      clear hrow hS hcl hb x6
      obtain ⟨k,E',ch',hk,rfl,rfl,hrow,hS,hcl,hcn,hb⟩:=hrel
      by_cases hlt:k<nr
      ·obtain ⟨x,hxk,b,off,rfl,hcs⟩:=(hm.out.mo.arcs.next hb).get hlt
       have hxm:=List.mem_of_getElem? hxk
       have hxs:=hA.out x hxm
       have i1:(k:Int)<(nr:Int):=by omega
       have i0:(0:Int)<=(k:Int):=by omega
       have i2:(x.1:Int)<(N.st:Int):=by omega
       have i3:(x.2.2.1:Int)<(N.st:Int):=by omega
       have i4:(0:Int)<=(x.1:Int):=by omega
       have i5:(0:Int)<=(x.2.2.1:Int):=by omega
       have htk:Hid (N.arcs.take (k+1)=N.arcs.take k++[x]):=hid (by rw [List.take_succ_eq_append_getElem (List.getElem?_eq_some_iff.1 hxk).1,(List.getElem?_eq_some_iff.1 hxk).2])
       have hbX:Below wr.heap.size wr (wr.alloc (.cells (acC x).toArray 54)):=below_alloc _
       have hX:=Bl.fresh wr (acC x) 54
       have z0:=hX.cell (i:=0) rfl
       have z2:=hX.cell (i:=2) rfl
       have hrow2:=hrow.next hbX
       have c1:=hrow2.cell hxs.1
       have c2:=hrow2.cell hxs.2
       have c3:=hrow2.free x.2.2.1
       have hb2:=hb.trans (hbX.mono hb.size)
       obtain ⟨e1,he1⟩:∃ e1,E' x.1=e1:=⟨_,rfl⟩
       obtain ⟨e2,he2⟩:∃ e2,E' x.2.2.1=e2:=⟨_,rfl⟩
       unfold fBo at c1 c2
       rw [he1] at c1
       rw [he2] at c2
       have He1:=hid he1
       have He2:=hid he2
       have Hxm:=hid hxm
       clear he1 he2 hxk hX hxm
       go_upto_region 14 with ((first | ((with_reducible refine wp_loadArc rfl _ rfl b (off+k*11) ?_ x hcs ?_); exact rfl) | ((with_reducible refine wp_storeVArc rfl _ _ rfl _ _ ?_ x ?_ ?_ ?_); exact rfl; exact rfl; exact rfl)))
       generalize hW2:(wr.alloc (.cells (acC x).toArray 54))=W2 at *
       clear hW2
       have hkeep:Hid (¬ (e1=true/\e2=false)->ch'=false->CldF (N.arcs.take (k+1)) E'):=hid fun hn hc y hy hE=>by
        rw [htk.out] at hy
        rcases List.mem_append.1 hy with hy | hy
        ·exact hcl.out hc y hy hE
        ·rw [List.mem_singleton.1 hy] at hE ⊢
         rw [He1.out] at hE
         rw [He2.out]
         cases e2 with
         | true=>rfl
         | false=>exact absurd ⟨hE,rfl⟩ hn
       cases e1 with
       | false =>
        go_wp2_with fail
        go_roundw
        case rel=>exact ⟨k+1,E',ch',by omega,by go_num,rfl,hrow2,hS,hid (hkeep.out (by simp)),hcn,hb2⟩
        case measure=>simp [intOf]; omega
       | true =>
        cases e2 with
        | true =>
         go_wp2_with fail
         go_roundw
         case rel=>exact ⟨k+1,E',ch',by omega,by go_num,rfl,hrow2,hS,hid (hkeep.out (by simp)),hcn,hb2⟩
         case measure=>simp [intOf]; omega
        | false =>
         go_wp2_with fail
         go_roundw
         case rel=>exact ⟨k+1,updB E' x.2.2.1 true,true,by omega,by go_num,rfl,(hrow2.put x.2.2.1 _).congr (fun i _=>fBo_upd E' x.2.2.1 true i),hid (sndF_upd hS.out Hxm.out hxs.1 He1.out),hid (fun h=>by cases h),hid (by
          have h1:=cF_set hxs.2 He2.out
          have h2:=hcn.out
          simp only [if_true] at h2 ⊢
          omega),hb2.setCell (p:=⟨g,x.2.2.1,none⟩) hgl.1 _⟩
         case measure=>simp [intOf]; omega
      ·obtain rfl:k=nr:=by omega
       have i1:¬ (k:Int)<(k:Int):=by omega
       have htk:N.arcs.take k=N.arcs:=List.take_of_length_le (by rw [hnl.out]; exact Nat.le_refl _)
       rw [htk] at hcl
       clear htk
       go_wp2_with fail
       go_roundg (gk-1)
       case measure=>have:=hcnt.out; simp only [if_true] at this; omega
       case rel=>exact ⟨E',ch',rfl,hrow,hS,hcl,hid (by have:=hcnt.out; have:=hcn.out; simp only [if_true] at *; omega),hb⟩
end
section
open Go.RowKit
def oI (o:Option Nat):Int:=match o with
 | none => -1
 | some r=>(r:Int)
def oV (o:Option Nat):Value:=.int .i64 (oI o)
theorem oI_none:oI none = -1:=rfl
theorem oI_some (r:Nat):oI (some r)=(r:Int):=rfl
def fS (S:Vx) (j:Nat):Value:=oV (S.getD j none)
def Sb (w:World) (base g:Nat) (S:Vx):Prop:=Rw 3 w base (.slice (some ⟨g,0,none⟩) S.length S.length) S.length (fS S)
theorem fS_set (S:Vx) (q:Nat) (hq:q<S.length) (r:Nat):∀ i,updF (fS S) q (.int .i64 (r:Int)) i=fS (S.set q (some r)) i:=fun i=>by
 unfold updF fS
 rw [List.getD_eq_getElem?_getD,List.getD_eq_getElem?_getD,List.getElem?_set]
 split
 ·rename_i e; subst e; first | (rw [if_pos rfl,if_pos hq]; rfl) | (rw [if_pos rfl]; rfl) | rfl
 ·rename_i e; rw [if_neg (fun h=>e h.symm)]
theorem results_cellC1 {P:Program} {fn:Func} {p:Tmp} {ty:TypeId} (h:fn.results=#[.cell p ty]) (tmps:Array Value) (w:World) (g:Nat) (cs:List Value) (d:TypeDesc)
  (hp:tmps.getD p undef=.pointer (some ⟨g,0,none⟩)) (hc:Cs w g 0 cs)
  (hu:P.underlying ty=some d) (hd:(match d with | .struct _ | .array _ _=>true | _=>false)=true) (hi:(P.info? ty).map (·.size)=some cs.length) :
  (results fn tmps).run P w=.ok (.agg cs.toArray) w:=by
 have hp':tmps[p]?.getD undef=.pointer (some ⟨g,0,none⟩):=by simpa using hp
 simp [results,h,hp',asAddr,run_loadC w ty g 0 cs d hc hu hd hi]
theorem cost_any (o:Option Nat) (w:World):Calls Tryz.prog 31 #[oV o] w fun e w'=>e=.returned (.agg #[.bool false,.slice none 0 0,.slice none 0 0,.int .i64 (tc (o):Int),.bool (ti (o)),.int .u64 0,.slice none 0 0,.slice none 0 0])/\Below w.heap.size w w':=by
 cases o with
 | none =>
  unfold oV
  rw [oI_none]
  go_enter Tryz.func31,Tryz.ntmps31
  go_wp2_with fail
  exact bodyPost_ret (results_cellC1 rfl _ _ w.heap.size (twC none) _ rfl (Bl.fresh w (twC none) 45).cs Tryz.underlying45 rfl Tryz.sizeTw) rfl ⟨rfl,below_alloc _⟩
 | some r =>
  unfold oV
  rw [oI_some]
  have c1:((r:Int) == -1)=false:=by rw [beq_eq_false_iff_ne]; omega
  have c2:¬ (r:Int) = -1:=by omega
  go_enter Tryz.func31,Tryz.ntmps31
  go_wp2_with fail
  exact bodyPost_ret (results_cellC1 rfl _ _ w.heap.size (twC (some r)) _ rfl (Bl.fresh w (twC (some r)) 45).cs Tryz.underlying45 rfl Tryz.sizeTw) rfl ⟨rfl,below_alloc _⟩
theorem note_any (base g q r:Nat) (S:Vx) (hq:q<S.length) (w:World) (h:Sb w base g S) :
  Calls Tryz.prog 27 #[.slice (some ⟨g,0,none⟩) S.length S.length,.int .i64 (q:Int),.int .i64 (r:Int)] w fun e w'=>e=.returned (.tuple #[])/\Sb w' base g (noteV S q r)/\Fr (fun k=>k=g) w w':=by
 have hbd:=h.rdS.2.bound
 obtain ⟨n,hn⟩:∃ n,S.length=n:=⟨_,rfl⟩
 have c1:=h.cell hq
 have c2:=h.free q
 have hset:=hid (fS_set S q hq r)
 unfold Sb at *
 rw [noteV_len]
 have i0:(0:Int)<=(q:Int):=by omega
 have i1:(q:Int)<(n:Int):=by omega
 have hS:∀ o,S[q]? = some o->fS S q=oV o:=fun o ho=>by unfold fS; rw [List.getD_eq_getElem?_getD,ho]; rfl
 obtain ⟨o,ho⟩:∃ o,S[q]? = some o:=⟨_,List.getElem?_eq_getElem hq⟩
 rw [hS o ho] at c1
 have Ho:=hid ho
 rw [hn] at h ⊢
 have Hn:=hid hn
 clear hS ho hn hq
 have hst:=hid h
 cases o with
 | none =>
  unfold oV at c1
  rw [oI_none] at c1
  have hnv:Hid (noteV S q r=S.set q (some r)):=hid (by unfold noteV; rw [Ho.out])
  clear h
  go_enter Tryz.func27,Tryz.ntmps27
  go_wp2_with fail
  go_end0
  exact ⟨rfl,by rw [hnv.out]; exact (hst.out.put q _).congr (fun i _=>hset.out i),Fr.set (T:=fun k=>k=g) _ (p:=⟨g,q,none⟩) rfl _⟩
 | some u =>
  unfold oV at c1
  rw [oI_some] at c1
  have k1:((u:Int) == -1)=false:=by rw [beq_eq_false_iff_ne]; omega
  have k2:¬ (u:Int) = -1:=by omega
  by_cases hlt:r<u
  ·have hnv:Hid (noteV S q r=S.set q (some r)):=hid (by unfold noteV; rw [Ho.out]; simp only; rw [if_pos hlt])
   have k3:(r:Int)<(u:Int):=by omega
   clear h
   go_enter Tryz.func27,Tryz.ntmps27
   go_wp2_with fail
   go_end0
   exact ⟨rfl,by rw [hnv.out]; exact (hst.out.put q _).congr (fun i _=>hset.out i),Fr.set (T:=fun k=>k=g) _ (p:=⟨g,q,none⟩) rfl _⟩
  ·have hnv:Hid (noteV S q r=S):=hid (by unfold noteV; rw [Ho.out]; simp only; rw [if_neg hlt])
   have k3:¬ (r:Int)<(u:Int):=by omega
   clear h
   go_enter Tryz.func27,Tryz.ntmps27
   go_wp2_with fail
   go_end0
   exact ⟨rfl,by rw [hnv.out]; exact hst.out,Fr.refl _ _⟩
end
end Go.Proofs.YtnapapijhhldpaaGreatDoor

/-
  Texts joined by program: TwA, TwB, TwC. No condition of its own.
-/
import Derived.Test.YtnapapijhhldpaaGreatDoorJtAL
namespace Go.Proofs.YtnapapijhhldpaaGreatDoor
set_option linter.unusedSimpArgs false
set_option linter.unusedVariables false
set_option maxRecDepth 100000
set_option maxHeartbeats 4000000
section
open Go.RowKit
theorem VmF.next {w w':World} {base:Nat} {N:Au} {io fo ro vo:OA} {ci cf nr cr cv:Nat} (h:VmF w base N io ci fo cf ro nr cr vo cv) (hb:Below w.heap.size w w'):VmF w' base N io ci fo cf ro nr cr vo cv:=⟨h.mo.next hb,h.fst.next hb⟩
theorem VmF.mono {w:World} {base base':Nat} {N:Au} {io fo ro vo:OA} {ci cf nr cr cv:Nat} (h:VmF w base N io ci fo cf ro nr cr vo cv) (hb:base'<=base):VmF w base' N io ci fo cf ro nr cr vo cv:=⟨h.mo.mono hb,h.fst.mono hb⟩
theorem VmF.fr {w w':World} {base H:Nat} {N:Au} {io fo ro vo:OA} {ci cf nr cr cv:Nat} (h:VmF w base N io ci fo cf ro nr cr vo cv) (hf:Fr (fun k=>k=H) w w') (hH:H<base):VmF w' base N io ci fo cf ro nr cr vo cv :=
 ⟨h.mo.fr hf hH,h.fst.fr hf fun g hg e=>by have:=(h.fst.lt hg).1; omega⟩
theorem wp_storeVView {ops:Array Oper} {rest:List Oper} {o:Oper} {a:Act} {w:World} {Q:EP} (hgd:o.guard=none) (x y:Operand) (ho:o.op=.store 63 x y)
  (T:TypeId) (zs:Array Value) (hx:a.eval x=.pointer (some ⟨w.heap.size,0,none⟩)) (cs:List Value) (hk:zs.size=8) (hc:cs.length=8) (hy:a.eval y=.agg cs.toArray) (h1:∀ u∈cs,u.oneCell'=true)
  (h:wpList Tryz.prog ops Q rest (a.put o.dst undef) (w.alloc (.cells cs.toArray T))):wpList Tryz.prog ops Q (o::rest) a (w.alloc (.cells zs T)) :=
 wp_storeV hgd _ x y ho T zs hx cs (by rw [hc,hk]) hy h1 (by rw [hc]; exact Tryz.sizeView) h
def Lw (N:Au):Prop:=(∀ v∈N.ini,tc v<=1048576)/\(∀ v∈N.fin,tc v<=1048576)/\∀ x∈N.arcs,tc (wt x)<=1048576/\1<=x.2.1
theorem light_any (syms:Nat) (A:Au) (hV:Vo syms A) (hs:A.arcs.length<20\/UpA A.arcs) (hli:A.ini.length=A.st) (hlf:A.fin.length=A.st) (hL:Lw A) (io:OA) (ci:Nat) (fo:OA) (cf:Nat) (ro:OA) (nr cr:Nat) (w:World) (h:Mo w syms A io ci fo cf ro nr cr) :
  Calls Tryz.prog 23 #[.agg (auC syms A.st (.slice io A.st ci) (.slice fo A.st cf) (.slice ro nr cr)).toArray] w fun e w' =>
   (∃ io' ci' fo' cf' ro' nr' cr' vo' cv' C,e=.returned (.tuple #[.agg (viC syms A.st (.slice io' A.st ci') (.slice fo' A.st cf') (.slice ro' nr' cr') (.slice vo' (A.st+1) cv')).toArray,.int .i64 0])/\VmF w' w.heap.size ⟨A.st,A.ini,A.fin,C.filter nz⟩ io' ci' fo' cf' ro' nr' cr' vo' cv'/\Nf C A.arcs)/\Below w.heap.size w w':=by
 have hli:=hid hli
 have hlf:=hid hlf
 have hL:=hid hL
 have hb0:Below w.heap.size w ((w.alloc (.cells (auC syms A.st (.slice io A.st ci) (.slice fo A.st cf) (.slice ro nr cr)).toArray 30)).alloc (.cells #[.int .i64 0,.slice none 0 0,.int .i64 0,.int .i64 0,.slice none 0 0,.slice none 0 0,.slice none 0 0,.slice none 0 0] 63)):=below_chain (below_alloc _) (below_alloc _)
 have hG:=(Bl.fresh w (auC syms A.st (.slice io A.st ci) (.slice fo A.st cf) (.slice ro nr cr)) 30).new (.cells #[.int .i64 0,.slice none 0 0,.int .i64 0,.int .i64 0,.slice none 0 0,.slice none 0 0,.slice none 0 0,.slice none 0 0] 63)
 have hR:=Bl.fresh' (G:=w.heap.size+1) (w.alloc (.cells (auC syms A.st (.slice io A.st ci) (.slice fo A.st cf) (.slice ro nr cr)).toArray 30)) [.int .i64 0,.slice none 0 0,.int .i64 0,.int .i64 0,.slice none 0 0,.slice none 0 0,.slice none 0 0,.slice none 0 0] 63 (by simp)
 have hm:=hid (h.next hb0)
 clear h
 go_enter Tryz.func23,Tryz.ntmps23
 go_upto_region 1 with fail
 generalize hW0:((w.alloc (.cells (auC syms A.st (.slice io A.st ci) (.slice fo A.st cf) (.slice ro nr cr)).toArray 30)).alloc (.cells #[.int .i64 0,.slice none 0 0,.int .i64 0,.int .i64 0,.slice none 0 0,.slice none 0 0,.slice none 0 0,.slice none 0 0] 63))=W0 at *
 have hRl0:=hR.lt
 have hGl0:=hG.lt
 obtain ⟨⟨x0,x1,x2,x3⟩,x4,x5,x6⟩:=hG.seven
 have hW0:=hid hW0
 go_wp2_with fail
 refine (viewNew_any syms A hV hs hli.out hlf.out io ci fo cf ro nr cr _ hm.out).mono ?_; rintro e w1 ⟨⟨io',ci',fo',cf',ro',nr',cr',vo',cv',C,rfl,hv1,hnf⟩,hb1⟩
 have hw0w1:w.heap.size+1<w1.heap.size:=Nat.lt_of_lt_of_le hRl0 hb1.size
 replace hR:=hR.next hb1
 replace hG:=hG.next hb1
 replace hb0:Below w.heap.size w w1:=below_chain hb0 hb1
 have hnf:=hid hnf
 have hone:∀ u∈viC syms A.st (.slice io' A.st ci') (.slice fo' A.st cf') (.slice ro' nr' cr') (.slice vo' (A.st+1) cv'),u.oneCell'=true:=viC_1 _ _ _ _ _ _ _ _ _ _ _ _ _ _
 clear hb1 x0 x1 x2 x3 x4 x5 x6 hm
 have hbX:Below w1.heap.size w1 (w1.alloc (.cells (viC syms A.st (.slice io' A.st ci') (.slice fo' A.st cf') (.slice ro' nr' cr') (.slice vo' (A.st+1) cv')).toArray 63)):=below_alloc _
 have hX:=Bl.fresh w1 (viC syms A.st (.slice io' A.st ci') (.slice fo' A.st cf') (.slice ro' nr' cr') (.slice vo' (A.st+1) cv')) 63
 go_upto_region 4 with ((with_reducible refine wp_storeVView rfl _ _ rfl _ _ ?_ (viC syms A.st (.slice io' A.st ci') (.slice fo' A.st cf') (.slice ro' nr' cr') (.slice vo' (A.st+1) cv')) ?_ ?_ ?_ hone ?_); exact rfl; exact rfl; exact rfl; exact rfl)
 replace hR:=hR.next hbX
 replace hG:=hG.next hbX
 have hv2:=hid (hv1.next hbX)
 replace hb0:=below_chain hb0 hbX
 have hX4:w1.heap.size<(w1.alloc (.cells (viC syms A.st (.slice io' A.st ci') (.slice fo' A.st cf') (.slice ro' nr' cr') (.slice vo' (A.st+1) cv')).toArray 63)).heap.size:=hX.lt
 generalize hW1:(w1.alloc (.cells (viC syms A.st (.slice io' A.st ci') (.slice fo' A.st cf') (.slice ro' nr' cr') (.slice vo' (A.st+1) cv')).toArray 63))=W1 at *
 generalize hG4:w1.heap.size=G4 at *
 clear hbX hW1 hG4 hv1
 obtain ⟨⟨x0,x1,x2,x3⟩,x4,x5,x6⟩:=hG.seven
 have hnb:Hid (nr'<=4096):=hid (by
  have h1:=nf_len hnf.out (fun z hz=>(hV.arcs z hz))
  have h2:=List.length_filter_le nz C
  have h3:=hV.num
  have h4:=fo_n hv2.out.mo.arcs
  simp only [List.length_map] at h4
  omega)
 have hnl:Hid ((C.filter nz).length=nr'):=hid (by have h4:=fo_n hv2.out.mo.arcs; simpa using h4)
 have hlab:Hid (∀ x∈C.filter nz,1<=x.2.1/\tc (wt x)<=1048576):=hid fun x hx=>by
  obtain ⟨⟨z,hz,hk,hw⟩,_⟩:=hnf.out.2.1 x (List.mem_filter.1 hx).1
  have h1:=hL.out.2.2 z hz
  have h2:z.2.1=x.2.1:=congrArg (fun q:Ky=>q.2.1) hk
  rw [<-h2,<-hw]; exact ⟨h1.2,h1.1⟩
 have hXc:=hX.cs
 go_wp2_with ((with_reducible refine wp_loadView rfl _ rfl G4 0 ?_ (viC syms A.st (.slice io' A.st ci') (.slice fo' A.st cf') (.slice ro' nr' cr') (.slice vo' (A.st+1) cv')) rfl hXc ?_); exact rfl)
 refine (empty_any syms ⟨A.st,A.ini,A.fin,C.filter nz⟩ (fun x hx=>(hlab.out x hx).1) io' ci' fo' cf' ro' nr' cr' vo' cv' _ (hv2.out.vm syms) hnb.out).mono ?_; rintro e w2 ⟨rfl,hb2⟩
 have hv3:=hid (hv2.out.next hb2)
 replace hR:=hR.next hb2
 replace hX:=hX.next hb2
 have hXc:=hX.cs
 replace hb0:=below_chain hb0 hb2
 clear x0 x1 x2 x3 x4 x5 x6 hG
 go_wp2_with ((with_reducible refine wp_loadView rfl _ rfl G4 0 ?_ (viC syms A.st (.slice io' A.st ci') (.slice fo' A.st cf') (.slice ro' nr' cr') (.slice vo' (A.st+1) cv')) rfl hXc ?_); exact rfl)
 refine (weightsD_any syms ⟨A.st,A.ini,A.fin,C.filter nz⟩ io' ci' fo' cf' ro' nr' cr' vo' cv' _ (hv3.out.vm syms) hnb.out hV.st).mono ?_; rintro e w3 ⟨⟨vl,rfl,hc3⟩,hb3⟩
 have hv4:=hid (hv3.out.next hb3)
 replace hR:=hR.next hb3
 replace hX:=hX.next hb3
 replace hb0:=below_chain hb0 hb3
 obtain ⟨al,cl,hvl,hfl,hz⟩:=hc3.fl
 clear hz
 have hall:Hid (∀ v∈A.ini++A.fin++(C.filter nz).map wt,tc v<=1048576):=hid fun v hv=>by
  rcases List.mem_append.1 hv with hv | hv
  ·rcases List.mem_append.1 hv with hv | hv
   ·exact hL.out.1 v hv
   ·exact hL.out.2.1 v hv
  ·obtain ⟨x,hx,rfl⟩:=List.mem_map.1 hv
   exact (hlab.out x hx).2
 obtain ⟨Lv,hLv⟩:∃ Lv,A.ini++A.fin++(C.filter nz).map wt=Lv:=⟨_,rfl⟩
 have hLl:Lv.length<=5000:=by
  rw [<-hLv,List.length_append,List.length_append,List.length_map,hnl.out,hli.out,hlf.out]
  have:=hV.st; have:=hnb.out; omega
 simp only at hvl hfl
 rw [hLv] at hvl hfl hall
 obtain ⟨ll,hll⟩:∃ ll,(Lv.map twC).length=ll:=⟨_,rfl⟩
 rw [hll] at hvl hfl
 have hllb:ll<=100000:=by rw [<-hll,List.length_map]; exact Nat.le_trans hLl (by decide)
 subst hvl
 clear hc3 hLv hll hXc hLl
 go_wp2_with fail
 go_loopw [30] (fun iv wr=>∃ k:Nat,k<=ll/\iv=.int .i64 (k:Int)/\Below w3.heap.size w3 wr) (fun iv _=>ll-(intOf iv).toNat)
 case atStart=>exact ⟨0,by omega,rfl,Below.refl _ _⟩
 case round =>
  obtain ⟨k,hk,rfl,hb⟩:=hrel
  by_cases hlt:k<ll
  ·obtain ⟨x,hxk,b,off,rfl,hcs⟩:=(hfl.next hb).get hlt
   have i1:(k:Int)<(ll:Int):=by omega
   have i0:(0:Int)<=(k:Int):=by omega
   have hx1:=hall.out x (List.mem_of_getElem? hxk)
   have hx2:¬ (1048576:Int)<(tc x:Int):=by omega
   have hx3:decide ((1048576:Int)<(tc x:Int))=false:=decide_eq_false hx2
   have Hxk:=hid hxk
   have hbY:Below wr.heap.size wr (wr.alloc (.cells (twC x).toArray 45)):=below_alloc _
   have hY:=Bl.fresh wr (twC x) 45
   have z3:=hY.cell (i:=3) rfl
   clear hxk hY
   go_upto_region 11 with ((first | ((with_reducible refine wp_loadTw rfl _ rfl b (off+k*8) ?_ x hcs ?_); exact rfl) | ((with_reducible refine wp_storeVTw rfl _ _ rfl _ _ ?_ x ?_ ?_ ?_); exact rfl; exact rfl; exact rfl)))
   have hb2:=hb.trans (hbY.mono hb.size)
   generalize hW2:(wr.alloc (.cells (twC x).toArray 45))=W2 at *
   clear hW2
   go_wp2_with fail
   go_roundw
   case rel=>exact ⟨k+1,by omega,by go_num,hb2⟩
   case measure=>simp [intOf]; omega
  ·have i1:¬ (k:Int)<(ll:Int):=by omega
   have hX4:=(hX.next hb).cs
   have hR4:=hR.next hb
   have hv5:=hid (hv4.out.next hb)
   have hb5:=below_chain hb0 hb
   go_wp2_with (first | ((with_reducible refine wp_loadView rfl _ rfl G4 0 ?_ (viC syms A.st (.slice io' A.st ci') (.slice fo' A.st cf') (.slice ro' nr' cr') (.slice vo' (A.st+1) cv')) rfl hX4 ?_); exact rfl) | ((with_reducible refine wp_storeBView rfl _ _ rfl (w.heap.size+1) 63 _ hR4 ?_ (viC syms A.st (.slice io' A.st ci') (.slice fo' A.st cf') (.slice ro' nr' cr') (.slice vo' (A.st+1) cv')) rfl rfl ?_ ?_ ?_); exact rfl; exact rfl; exact hone; intro w9 hR9 hfr9))
   refine bodyPost_ret (results_cellC rfl _ _ (w.heap.size+1) (viC syms A.st (.slice io' A.st ci') (.slice fo' A.st cf') (.slice ro' nr' cr') (.slice vo' (A.st+1) cv')) _ rfl hR9.cs Tryz.underlying63 rfl Tryz.sizeView) rfl ⟨⟨io',ci',fo',cf',ro',nr',cr',vo',cv',rfl,C,(hv5.out.fr hfr9 hRl0).mono (by omega),hnf.out⟩,hb5.trans (hfr9.below (fun k hk=>by omega) hb5.size)⟩
end
section
open Go.RowKit
theorem ring_of {w:World} {b:Nat} {syms st:Nat} {iv fv rv sv:Value} (h:Cs w b 0 (viC syms st iv fv rv sv)):Cs w b 0 rgC:=h.part 0 rgC (fun i v hi=>by match i,hi with | 0,h=>exact h | 1,h=>exact h)
theorem viewZero_any (syms st:Nat) (iv fv rv sv:Value) (v:Tw) (w:World) :
  Calls Tryz.prog 64 #[.agg (viC syms st iv fv rv sv).toArray,.agg #[.bool false,.slice none 0 0,.slice none 0 0,.int .i64 (tc (v):Int),.bool (ti (v)),.int .u64 0,.slice none 0 0,.slice none 0 0]] w fun e w'=>e=.returned (.bool (decide (v=none)))/\Below w.heap.size w w':=by
 have hb0:Below w.heap.size w ((w.alloc (.cells (viC syms st iv fv rv sv).toArray 63)).alloc (.cells (twC v).toArray 45)):=below_chain (below_alloc _) (below_alloc _)
 have hG:=(Bl.fresh w (viC syms st iv fv rv sv) 63).new (.cells (twC v).toArray 45)
 have hR:=Bl.fresh' (G:=w.heap.size+1) (w.alloc (.cells (viC syms st iv fv rv sv).toArray 63)) (twC v) 45 (by simp)
 go_enter Tryz.func64,Tryz.ntmps64
 go_upto_region 1 with fail
 generalize hW0:((w.alloc (.cells (viC syms st iv fv rv sv).toArray 63)).alloc (.cells (twC v).toArray 45))=W0 at *
 obtain ⟨G,hGw⟩:∃ G,w.heap.size=G:=⟨_,rfl⟩
 rw [hGw] at hG hR
 simp only [hGw]
 have hd:=(Below.refl W0.heap.size W0).drew
 have hS:Cs W0.drew G 0 (viC syms st iv fv rv sv)/\Cs W0.drew (G+1) 0 (twC v):=⟨(hG.next hd).cs,(hR.next hd).cs⟩
 have hb1:=below_chain hb0 hd
 have HGw:=hid hGw
 clear hG hR hb0 hd hW0 hGw
 refine wp_region_D (fun w'=>Cs w' G 0 (viC syms st iv fv rv sv)/\Cs w' (G+1) 0 (twC v)) [6] (by kernel_rfl) ?_
 refine tkAl 0 (some 5) (v:=?_) rfl rfl ?_ hS ?_
 rotate_left
 ·intro wz hw; obtain ⟨c1',c2'⟩:=hw; refine exec_loadTw (G+1) 0 ?_ v c2'; go_simp
 refine tkAp 1 (some 6) rfl rfl hS ?_
 refine tkAp 2 (some 7) rfl rfl hS ?_
 refine tkAl 3 (some 8) (v:=?_) rfl rfl ?_ hS ?_
 rotate_left
 ·intro wz hw; obtain ⟨c1',c2'⟩:=hw; refine exec_loadRing G 0 ?_ (ring_of c1'); go_simp
 refine wpO (i:=4) rfl fun KK hKK=>?_
 go_simp
 go_at_call 76
 refine (zeroTw_any _).mono ?_; rintro e w4 ⟨rfl,hb4⟩
 try go_simp
 refine hKK _ _ ⟨fun _=>(And.intro (hS.1.next hb4) (hS.2.next hb4)),?_⟩; clear hKK KK
 refine wpO (i:=5) rfl fun KK hKK=>?_
 go_simp
 go_at_call 92
 refine (equalTw_any v none _).mono ?_; rintro e w5 ⟨rfl,hb5⟩
 try go_simp
 refine hKK _ _ ⟨fun _=>(And.intro ((And.intro (hS.1.next hb4) (hS.2.next hb4)).1.next hb5) ((And.intro (hS.1.next hb4) (hS.2.next hb4)).2.next hb5)),?_⟩; clear hKK KK
 refine wpO (i:=6) rfl fun KK hKK=>?_
 go_simp
 refine lN hKK ?_; clear hKK KK
 refine wpAnyD_done (by kernel_rfl) ?_ _
 go_simp
 go_wp2_with fail
 go_ret
 exact ⟨rfl,by first | exact below_chain (below_chain hb1 hb4) hb5 | (rw [<-HGw.out]; exact below_chain (below_chain hb1 hb4) hb5)⟩
theorem begins_any (syms st:Nat) (fv rv sv:Value) (ao:OA) (cap:Nat) (xs:List Tw) (q:Nat) (v:Tw) (hq:xs[q]? = some v) (w:World) (hf:Fl 8 w ao st cap (xs.map twC)) :
  Calls Tryz.prog 26 #[.agg (viC syms st (.slice ao st cap) fv rv sv).toArray,.int .i64 (q:Int)] w fun e w'=>e=.returned (.bool v.isSome)/\Below w.heap.size w w':=by
 have hb0:Below w.heap.size w (w.alloc (.cells (viC syms st (.slice ao st cap) fv rv sv).toArray 63)):=below_alloc _
 have hG:=Bl.fresh w (viC syms st (.slice ao st cap) fv rv sv) 63
 have hqs:q<st:=by have:=hf.lenMap; have:=(List.getElem?_eq_some_iff.1 hq).1; omega
 obtain ⟨b,off,rfl,hcs⟩:=(hf.next hb0).at_ q (twC v) (by rw [List.getElem?_map,hq]; rfl)
 have i1:(q:Int)<(st:Int):=by omega
 have i0:(0:Int)<=(q:Int):=by omega
 have hbd:=hf.bound
 have hiv:v.isSome=!(decide (v=none)):=by cases v<;>rfl
 rw [hiv]
 clear hf hiv hq
 go_enter Tryz.func26,Tryz.ntmps26
 go_upto_region 1 with fail
 generalize hW0:(w.alloc (.cells (viC syms st (.slice (some ⟨b,off,none⟩) st cap) fv rv sv).toArray 63))=W0 at *
 have hd:=(Below.refl W0.heap.size W0).drew
 have hS:Cs W0.drew w.heap.size 0 (viC syms st (.slice (some ⟨b,off,none⟩) st cap) fv rv sv)/\Cs W0.drew b (off+q*8) (twC v):=⟨(hG.next hd).cs,hcs.next hd⟩
 have hb1:=below_chain hb0 hd
 clear hG hb0 hd hW0 hcs
 refine wp_region_D (fun w'=>Cs w' w.heap.size 0 (viC syms st (.slice (some ⟨b,off,none⟩) st cap) fv rv sv)/\Cs w' b (off+q*8) (twC v)) [9] (by kernel_rfl) ?_
 refine tkAl 0 (some 5) (v:=?_) rfl rfl ?_ hS ?_
 rotate_left
 ·intro wz hw; obtain ⟨c1',c2'⟩:=hw; refine exec_loadView w.heap.size 0 ?_ (viC syms st (.slice (some ⟨b,off,none⟩) st cap) fv rv sv) rfl c1'; go_simp
 refine tkAp 1 (some 6) rfl rfl hS ?_
 refine tkAp 2 (some 7) rfl rfl hS ?_
 refine tkAl 3 (some 8) (v:=?_) rfl rfl ?_ hS ?_
 rotate_left
 ·intro wz hw; obtain ⟨c1',c2'⟩:=hw; refine exec_load1 w.heap.size 4 ?_ (.slice (some ⟨b,off,none⟩) st cap) (c1' 4 _ rfl) _ Tryz.underlying27 (by rfl); go_simp
 refine tkAp 4 (some 9) rfl rfl hS ?_
 refine tkAp 5 (some 10) rfl rfl hS ?_
 refine tkAl 6 (some 11) (v:=?_) rfl rfl ?_ hS ?_
 rotate_left
 ·intro wz hw; obtain ⟨c1',c2'⟩:=hw; refine exec_loadTw b (off+q*8) ?_ v c2'; go_simp
 refine wpO (i:=7) rfl fun KK hKK=>?_
 go_simp
 go_at_call 64
 refine (viewZero_any syms st _ _ _ _ v _).mono ?_; rintro e w4 ⟨rfl,hb4⟩
 try go_simp
 refine hKK _ _ ⟨fun _=>(And.intro (hS.1.next hb4) (hS.2.next hb4)),?_⟩; clear hKK KK
 refine tkAp 8 (some 13) rfl rfl (And.intro (hS.1.next hb4) (hS.2.next hb4)) ?_
 refine wpO (i:=9) rfl fun KK hKK=>?_
 go_simp
 refine lN hKK ?_; clear hKK KK
 refine wpAnyD_done (by kernel_rfl) ?_ _
 go_simp
 go_wp2_with fail
 go_ret
 exact ⟨rfl,below_chain hb1 hb4⟩
theorem ends_any (syms st:Nat) (iv rv sv:Value) (ao:OA) (cap:Nat) (xs:List Tw) (q:Nat) (v:Tw) (hq:xs[q]? = some v) (w:World) (hf:Fl 8 w ao st cap (xs.map twC)) :
  Calls Tryz.prog 30 #[.agg (viC syms st iv (.slice ao st cap) rv sv).toArray,.int .i64 (q:Int)] w fun e w'=>e=.returned (.bool v.isSome)/\Below w.heap.size w w':=by
 have hb0:Below w.heap.size w (w.alloc (.cells (viC syms st iv (.slice ao st cap) rv sv).toArray 63)):=below_alloc _
 have hG:=Bl.fresh w (viC syms st iv (.slice ao st cap) rv sv) 63
 have hqs:q<st:=by have:=hf.lenMap; have:=(List.getElem?_eq_some_iff.1 hq).1; omega
 obtain ⟨b,off,rfl,hcs⟩:=(hf.next hb0).at_ q (twC v) (by rw [List.getElem?_map,hq]; rfl)
 have i1:(q:Int)<(st:Int):=by omega
 have i0:(0:Int)<=(q:Int):=by omega
 have hbd:=hf.bound
 have hiv:v.isSome=!(decide (v=none)):=by cases v<;>rfl
 rw [hiv]
 clear hf hiv hq
 go_enter Tryz.func30,Tryz.ntmps30
 go_upto_region 1 with fail
 generalize hW0:(w.alloc (.cells (viC syms st iv (.slice (some ⟨b,off,none⟩) st cap) rv sv).toArray 63))=W0 at *
 have hd:=(Below.refl W0.heap.size W0).drew
 have hS:Cs W0.drew w.heap.size 0 (viC syms st iv (.slice (some ⟨b,off,none⟩) st cap) rv sv)/\Cs W0.drew b (off+q*8) (twC v):=⟨(hG.next hd).cs,hcs.next hd⟩
 have hb1:=below_chain hb0 hd
 clear hG hb0 hd hW0 hcs
 refine wp_region_D (fun w'=>Cs w' w.heap.size 0 (viC syms st iv (.slice (some ⟨b,off,none⟩) st cap) rv sv)/\Cs w' b (off+q*8) (twC v)) [9] (by kernel_rfl) ?_
 refine tkAl 0 (some 5) (v:=?_) rfl rfl ?_ hS ?_
 rotate_left
 ·intro wz hw; obtain ⟨c1',c2'⟩:=hw; refine exec_loadView w.heap.size 0 ?_ (viC syms st iv (.slice (some ⟨b,off,none⟩) st cap) rv sv) rfl c1'; go_simp
 refine tkAp 1 (some 6) rfl rfl hS ?_
 refine tkAp 2 (some 7) rfl rfl hS ?_
 refine tkAl 3 (some 8) (v:=?_) rfl rfl ?_ hS ?_
 rotate_left
 ·intro wz hw; obtain ⟨c1',c2'⟩:=hw; refine exec_load1 w.heap.size 5 ?_ (.slice (some ⟨b,off,none⟩) st cap) (c1' 5 _ rfl) _ Tryz.underlying27 (by rfl); go_simp
 refine tkAp 4 (some 9) rfl rfl hS ?_
 refine tkAp 5 (some 10) rfl rfl hS ?_
 refine tkAl 6 (some 11) (v:=?_) rfl rfl ?_ hS ?_
 rotate_left
 ·intro wz hw; obtain ⟨c1',c2'⟩:=hw; refine exec_loadTw b (off+q*8) ?_ v c2'; go_simp
 refine wpO (i:=7) rfl fun KK hKK=>?_
 go_simp
 go_at_call 64
 refine (viewZero_any syms st _ _ _ _ v _).mono ?_; rintro e w4 ⟨rfl,hb4⟩
 try go_simp
 refine hKK _ _ ⟨fun _=>(And.intro (hS.1.next hb4) (hS.2.next hb4)),?_⟩; clear hKK KK
 refine tkAp 8 (some 13) rfl rfl (And.intro (hS.1.next hb4) (hS.2.next hb4)) ?_
 refine wpO (i:=9) rfl fun KK hKK=>?_
 go_simp
 refine lN hKK ?_; clear hKK KK
 refine wpAnyD_done (by kernel_rfl) ?_ _
 go_simp
 go_wp2_with fail
 go_ret
 exact ⟨rfl,below_chain hb1 hb4⟩
end
section
open Go.RowKit
theorem mono_app {N:List Ac} (h:N.Pairwise fun x y=>x.1<=y.1) (q:Nat):N=N.filter (fun x=>decide (x.1<q))++N.filter (fun x=>!decide (x.1<q)):=by
 induction N with
 | nil=>rfl
 | cons a r ih =>
  obtain ⟨h1,h2⟩:=List.pairwise_cons.1 h
  by_cases ha:a.1<q
  ·rw [List.filter_cons_of_pos (by simp [ha]),List.filter_cons_of_neg (by simp [ha]),List.cons_append,<-ih h2]
  ·have e1:(a::r).filter (fun x=>decide (x.1<q))=[]:=by
    rw [List.filter_eq_nil_iff]
    intro x hx
    rcases List.mem_cons.1 hx with rfl | hx
    ·simp [ha]
    ·have:=h1 x hx; simp; omega
   have e2:(a::r).filter (fun x=>!decide (x.1<q))=a::r:=by
    rw [List.filter_eq_self]
    intro x hx
    rcases List.mem_cons.1 hx with rfl | hx
    ·simp [ha]
    ·have:=h1 x hx; simp; omega
   rw [e1,e2]; rfl
theorem mono_split {N:List Ac} (h:N.Pairwise fun x y=>x.1<=y.1) (q:Nat):N.take (cB N q)=N.filter (fun x=>decide (x.1<q))/\N.drop (cB N q)=N.filter (fun x=>!decide (x.1<q)):=by
 have hl:(N.filter (fun x=>decide (x.1<q))).length=cB N q:=(List.countP_eq_length_filter).symm
 have ha:=mono_app h q
 constructor
 ·conv=>lhs; rw [ha]
  exact List.take_left' (by rw [<-ha]; exact hl)
 ·conv=>lhs; rw [ha]
  exact List.drop_left' (by rw [<-ha]; exact hl)
theorem ss_mono {N:List Ac} (h:Ss N):N.Pairwise fun x y=>x.1<=y.1:=by
 induction N with
 | nil=>exact List.Pairwise.nil
 | cons a r ih =>
  have h1:(∀ y∈r,klt (ky a) (ky y))/\Ss r:=h
  refine List.pairwise_cons.2 ⟨fun y hy=>?_,ih h1.2⟩
  have:=h1.1 y hy
  unfold klt ky at this
  simp only at this
  omega
theorem from_seg {N:List Ac} (hs:Ss N) (q:Nat):(N.take (cB N (q+1))).drop (cB N q)=N.filter fun x=>decide (x.1=q):=by
 have hm:=ss_mono hs
 rw [(mono_split hm (q+1)).1]
 have hc:cB N q=cB (N.filter fun x=>decide (x.1<q+1)) q:=by
  unfold cB
  rw [List.countP_filter]
  congr 1
  funext x
  by_cases h:x.1<q
  ·simp [h,show x.1<q+1 by omega]
  ·simp [h]
 rw [hc,(mono_split (hm.filter _) q).2,List.filter_filter]
 congr 1
 funext x
 by_cases h:x.1=q
 ·simp [h]
 ·by_cases h2:x.1<q
  ·simp [h,h2]
  ·simp [h,h2]; omega
theorem cB_mono (N:List Ac) (q:Nat):cB N q<=cB N (q+1):=by rw [cB_succ]; omega
theorem from_lt (syms st:Nat) (iv fv:Value) (b o nr cr:Nat) (hnc':nr<=cr) (hnc:nr<=cr) (vb vp cv:Nat) (q p0 p1:Nat) (hq:q<st) (h01:p0<=p1) (h1n:p1<=nr) (hpc:p0<cr) (hst:st<=64) (w:World) (hc0:w.cell? ⟨vb,vp+q,none⟩=some (.int .i64 (p0:Int))) (hc1:w.cell? ⟨vb,vp+(q+1),none⟩=some (.int .i64 (p1:Int))) :
  Calls Tryz.prog 68 #[.agg (viC syms st iv fv (.slice (some ⟨b,o,none⟩) nr cr) (.slice (some ⟨vb,vp,none⟩) (st+1) cv)).toArray,.int .i64 (q:Int)] w fun e w'=>e=.returned (.slice (some ⟨b,o+p0*11,none⟩) (p1-p0) (cr-p0))/\Below w.heap.size w w':=by
 have hb0:Below w.heap.size w (w.alloc (.cells (viC syms st iv fv (.slice (some ⟨b,o,none⟩) nr cr) (.slice (some ⟨vb,vp,none⟩) (st+1) cv)).toArray 63)):=below_alloc _
 have hG:=Bl.fresh w (viC syms st iv fv (.slice (some ⟨b,o,none⟩) nr cr) (.slice (some ⟨vb,vp,none⟩) (st+1) cv)) 63
 have i1:(q:Int)<(st:Int)+1:=by omega
 have i0:(0:Int)<=(q:Int):=by omega
 have i2:(q:Int)+1<(st:Int)+1:=by omega
 have i2':(q:Int)<(st:Int):=by omega
 have i3:(0:Int)<=(q:Int)+1:=by omega
 have w1':IntKind.i64.wrap ((q:Int)+1)=((q+1:Nat):Int):=IntWalk.i64_in _ (by omega)
 have j0:(0:Int)<=(p0:Int):=by omega
 have j1:(p0:Int)<=(p1:Int):=by omega
 have j2:(p1:Int)<=(nr:Int):=by omega
 have j3:(p1:Int)<=(cr:Int):=by omega
 have j4:(0:Int)<=(p1:Int):=by omega
 have j5:(p0:Int)<(cr:Int):=by omega
 have k0:=cellN hc0 hb0
 have k1:=cellN hc1 hb0
 clear hc0 hc1
 go_enter Tryz.func68,Tryz.ntmps68
 go_upto_region 1 with fail
 generalize hW0:(w.alloc (.cells (viC syms st iv fv (.slice (some ⟨b,o,none⟩) nr cr) (.slice (some ⟨vb,vp,none⟩) (st+1) cv)).toArray 63))=W0 at *
 have hd:=(Below.refl W0.heap.size W0).drew
 have hS:Cs W0.drew w.heap.size 0 (viC syms st iv fv (.slice (some ⟨b,o,none⟩) nr cr) (.slice (some ⟨vb,vp,none⟩) (st+1) cv))/\W0.drew.cell? ⟨vb,vp+q,none⟩=some (.int .i64 (p0:Int))/\W0.drew.cell? ⟨vb,vp+(q+1),none⟩=some (.int .i64 (p1:Int)):=⟨(hG.next hd).cs,cellN k0 hd,cellN k1 hd⟩
 have hb1:=below_chain hb0 hd
 clear hG hb0 hd hW0 k0 k1
 refine wp_region_D (fun w'=>Cs w' w.heap.size 0 (viC syms st iv fv (.slice (some ⟨b,o,none⟩) nr cr) (.slice (some ⟨vb,vp,none⟩) (st+1) cv))/\w'.cell? ⟨vb,vp+q,none⟩=some (.int .i64 (p0:Int))/\w'.cell? ⟨vb,vp+(q+1),none⟩=some (.int .i64 (p1:Int))) [15] (by kernel_rfl) ?_
 refine tkAp 0 (some 5) rfl rfl hS ?_
 refine tkAp 1 (some 6) rfl rfl hS ?_
 refine tkAl 2 (some 7) (v:=?_) rfl rfl ?_ hS ?_
 rotate_left
 ·intro wz hw; obtain ⟨c1',c2',c3'⟩:=hw; refine exec_load1 w.heap.size 6 ?_ (.slice (some ⟨b,o,none⟩) nr cr) (c1' 6 _ rfl) _ Tryz.underlying28 (by rfl); go_simp
 refine tkAp 3 (some 8) rfl rfl hS ?_
 refine tkAl 4 (some 9) (v:=?_) rfl rfl ?_ hS ?_
 rotate_left
 ·intro wz hw; obtain ⟨c1',c2',c3'⟩:=hw; refine exec_load1 w.heap.size 7 ?_ (.slice (some ⟨vb,vp,none⟩) (st+1) cv) (c1' 7 _ rfl) _ Tryz.underlying22 (by rfl); go_simp
 refine tkAp 5 (some 10) rfl rfl hS ?_
 refine tkAp 6 (some 11) rfl rfl hS ?_
 refine tkAl 7 (some 12) (v:=?_) rfl rfl ?_ hS ?_
 rotate_left
 ·intro wz hw; obtain ⟨c1',c2',c3'⟩:=hw; refine exec_load1 vb (vp+q) ?_ (.int .i64 (p0:Int)) c2' _ Tryz.underlying3 (by rfl); go_simp
 refine tkAp 8 (some 13) rfl rfl hS ?_
 refine tkAl 9 (some 14) (v:=?_) rfl rfl ?_ hS ?_
 rotate_left
 ·intro wz hw; obtain ⟨c1',c2',c3'⟩:=hw; refine exec_load1 w.heap.size 7 ?_ (.slice (some ⟨vb,vp,none⟩) (st+1) cv) (c1' 7 _ rfl) _ Tryz.underlying22 (by rfl); go_simp
 refine tkAp 10 (some 15) rfl rfl hS ?_
 refine tkAp 11 (some 16) rfl rfl hS ?_
 refine tkAp 12 (some 17) rfl rfl hS ?_
 refine tkAl 13 (some 18) (v:=?_) rfl rfl ?_ hS ?_
 rotate_left
 ·intro wz hw; obtain ⟨c1',c2',c3'⟩:=hw; refine exec_load1 vb (vp+(q+1)) ?_ (.int .i64 (p1:Int)) c3' _ Tryz.underlying3 (by rfl); go_simp
 refine tkAp 14 (some 19) rfl rfl hS ?_
 refine wpO (i:=15) rfl fun KK hKK=>?_
 go_simp
 refine lN hKK ?_; clear hKK KK
 refine wpAnyD_done (by kernel_rfl) ?_ _
 go_simp
 go_wp2_with fail
 go_ret
 exact ⟨rfl,hb1⟩
theorem from_eq (syms st:Nat) (iv fv:Value) (b o n:Nat) (hn:n<=4096) (vb vp cv:Nat) (q:Nat) (hq:q<st) (hst:st<=64) (w:World) (hc0:w.cell? ⟨vb,vp+q,none⟩=some (.int .i64 (n:Int))) (hc1:w.cell? ⟨vb,vp+(q+1),none⟩=some (.int .i64 (n:Int))) :
  Calls Tryz.prog 68 #[.agg (viC syms st iv fv (.slice (some ⟨b,o,none⟩) n n) (.slice (some ⟨vb,vp,none⟩) (st+1) cv)).toArray,.int .i64 (q:Int)] w fun e w'=>e=.returned (.slice (some ⟨b,o,none⟩) 0 0)/\Below w.heap.size w w':=by
 have hb0:Below w.heap.size w (w.alloc (.cells (viC syms st iv fv (.slice (some ⟨b,o,none⟩) n n) (.slice (some ⟨vb,vp,none⟩) (st+1) cv)).toArray 63)):=below_alloc _
 have hG:=Bl.fresh w (viC syms st iv fv (.slice (some ⟨b,o,none⟩) n n) (.slice (some ⟨vb,vp,none⟩) (st+1) cv)) 63
 have i1:(q:Int)<(st:Int)+1:=by omega
 have i0:(0:Int)<=(q:Int):=by omega
 have i2:(q:Int)+1<(st:Int)+1:=by omega
 have i2':(q:Int)<(st:Int):=by omega
 have i3:(0:Int)<=(q:Int)+1:=by omega
 have w1':IntKind.i64.wrap ((q:Int)+1)=((q+1:Nat):Int):=IntWalk.i64_in _ (by omega)
 have j0:(0:Int)<=(n:Int):=by omega
 have j1:(n:Int)<=(n:Int):=by omega
 have j2:(n:Int)<=(n:Int):=by omega
 have j3:(n:Int)<=(n:Int):=by omega
 have j4:(0:Int)<=(n:Int):=by omega
 have k0:=cellN hc0 hb0
 have k1:=cellN hc1 hb0
 clear hc0 hc1
 go_enter Tryz.func68,Tryz.ntmps68
 go_upto_region 1 with fail
 generalize hW0:(w.alloc (.cells (viC syms st iv fv (.slice (some ⟨b,o,none⟩) n n) (.slice (some ⟨vb,vp,none⟩) (st+1) cv)).toArray 63))=W0 at *
 have hd:=(Below.refl W0.heap.size W0).drew
 have hS:Cs W0.drew w.heap.size 0 (viC syms st iv fv (.slice (some ⟨b,o,none⟩) n n) (.slice (some ⟨vb,vp,none⟩) (st+1) cv))/\W0.drew.cell? ⟨vb,vp+q,none⟩=some (.int .i64 (n:Int))/\W0.drew.cell? ⟨vb,vp+(q+1),none⟩=some (.int .i64 (n:Int)):=⟨(hG.next hd).cs,cellN k0 hd,cellN k1 hd⟩
 have hb1:=below_chain hb0 hd
 clear hG hb0 hd hW0 k0 k1
 refine wp_region_D (fun w'=>Cs w' w.heap.size 0 (viC syms st iv fv (.slice (some ⟨b,o,none⟩) n n) (.slice (some ⟨vb,vp,none⟩) (st+1) cv))/\w'.cell? ⟨vb,vp+q,none⟩=some (.int .i64 (n:Int))/\w'.cell? ⟨vb,vp+(q+1),none⟩=some (.int .i64 (n:Int))) [15] (by kernel_rfl) ?_
 refine tkAp 0 (some 5) rfl rfl hS ?_
 refine tkAp 1 (some 6) rfl rfl hS ?_
 refine tkAl 2 (some 7) (v:=?_) rfl rfl ?_ hS ?_
 rotate_left
 ·intro wz hw; obtain ⟨c1',c2',c3'⟩:=hw; refine exec_load1 w.heap.size 6 ?_ (.slice (some ⟨b,o,none⟩) n n) (c1' 6 _ rfl) _ Tryz.underlying28 (by rfl); go_simp
 refine tkAp 3 (some 8) rfl rfl hS ?_
 refine tkAl 4 (some 9) (v:=?_) rfl rfl ?_ hS ?_
 rotate_left
 ·intro wz hw; obtain ⟨c1',c2',c3'⟩:=hw; refine exec_load1 w.heap.size 7 ?_ (.slice (some ⟨vb,vp,none⟩) (st+1) cv) (c1' 7 _ rfl) _ Tryz.underlying22 (by rfl); go_simp
 refine tkAp 5 (some 10) rfl rfl hS ?_
 refine tkAp 6 (some 11) rfl rfl hS ?_
 refine tkAl 7 (some 12) (v:=?_) rfl rfl ?_ hS ?_
 rotate_left
 ·intro wz hw; obtain ⟨c1',c2',c3'⟩:=hw; refine exec_load1 vb (vp+q) ?_ (.int .i64 (n:Int)) c2' _ Tryz.underlying3 (by rfl); go_simp
 refine tkAp 8 (some 13) rfl rfl hS ?_
 refine tkAl 9 (some 14) (v:=?_) rfl rfl ?_ hS ?_
 rotate_left
 ·intro wz hw; obtain ⟨c1',c2',c3'⟩:=hw; refine exec_load1 w.heap.size 7 ?_ (.slice (some ⟨vb,vp,none⟩) (st+1) cv) (c1' 7 _ rfl) _ Tryz.underlying22 (by rfl); go_simp
 refine tkAp 10 (some 15) rfl rfl hS ?_
 refine tkAp 11 (some 16) rfl rfl hS ?_
 refine tkAp 12 (some 17) rfl rfl hS ?_
 refine tkAl 13 (some 18) (v:=?_) rfl rfl ?_ hS ?_
 rotate_left
 ·intro wz hw; obtain ⟨c1',c2',c3'⟩:=hw; refine exec_load1 vb (vp+(q+1)) ?_ (.int .i64 (n:Int)) c3' _ Tryz.underlying3 (by rfl); go_simp
 refine tkAp 14 (some 19) rfl rfl hS ?_
 refine wpO (i:=15) rfl fun KK hKK=>?_
 go_simp
 refine lN hKK ?_; clear hKK KK
 refine wpAnyD_done (by kernel_rfl) ?_ _
 go_simp
 go_wp2_with fail
 go_ret
 exact ⟨rfl,hb1⟩
theorem from_none (syms st:Nat) (iv fv:Value)  (vb vp cv:Nat) (q:Nat) (hq:q<st) (hst:st<=64) (w:World) (hc0:w.cell? ⟨vb,vp+q,none⟩=some (.int .i64 (0:Int))) (hc1:w.cell? ⟨vb,vp+(q+1),none⟩=some (.int .i64 (0:Int))) :
  Calls Tryz.prog 68 #[.agg (viC syms st iv fv (.slice none 0 0) (.slice (some ⟨vb,vp,none⟩) (st+1) cv)).toArray,.int .i64 (q:Int)] w fun e w'=>e=.returned (.slice none 0 0)/\Below w.heap.size w w':=by
 have hb0:Below w.heap.size w (w.alloc (.cells (viC syms st iv fv (.slice none 0 0) (.slice (some ⟨vb,vp,none⟩) (st+1) cv)).toArray 63)):=below_alloc _
 have hG:=Bl.fresh w (viC syms st iv fv (.slice none 0 0) (.slice (some ⟨vb,vp,none⟩) (st+1) cv)) 63
 have i1:(q:Int)<(st:Int)+1:=by omega
 have i0:(0:Int)<=(q:Int):=by omega
 have i2:(q:Int)+1<(st:Int)+1:=by omega
 have i2':(q:Int)<(st:Int):=by omega
 have i3:(0:Int)<=(q:Int)+1:=by omega
 have w1':IntKind.i64.wrap ((q:Int)+1)=((q+1:Nat):Int):=IntWalk.i64_in _ (by omega)
 have j0:(0:Int)<=(0:Int):=by omega
 have j1:(0:Int)<=(0:Int):=by omega
 have j2:(0:Int)<=(0:Int):=by omega
 have j3:(0:Int)<=(0:Int):=by omega
 have j4:(0:Int)<=(0:Int):=by omega
 have k0:=cellN hc0 hb0
 have k1:=cellN hc1 hb0
 clear hc0 hc1
 go_enter Tryz.func68,Tryz.ntmps68
 go_upto_region 1 with fail
 generalize hW0:(w.alloc (.cells (viC syms st iv fv (.slice none 0 0) (.slice (some ⟨vb,vp,none⟩) (st+1) cv)).toArray 63))=W0 at *
 have hd:=(Below.refl W0.heap.size W0).drew
 have hS:Cs W0.drew w.heap.size 0 (viC syms st iv fv (.slice none 0 0) (.slice (some ⟨vb,vp,none⟩) (st+1) cv))/\W0.drew.cell? ⟨vb,vp+q,none⟩=some (.int .i64 (0:Int))/\W0.drew.cell? ⟨vb,vp+(q+1),none⟩=some (.int .i64 (0:Int)):=⟨(hG.next hd).cs,cellN k0 hd,cellN k1 hd⟩
 have hb1:=below_chain hb0 hd
 clear hG hb0 hd hW0 k0 k1
 refine wp_region_D (fun w'=>Cs w' w.heap.size 0 (viC syms st iv fv (.slice none 0 0) (.slice (some ⟨vb,vp,none⟩) (st+1) cv))/\w'.cell? ⟨vb,vp+q,none⟩=some (.int .i64 (0:Int))/\w'.cell? ⟨vb,vp+(q+1),none⟩=some (.int .i64 (0:Int))) [15] (by kernel_rfl) ?_
 refine tkAp 0 (some 5) rfl rfl hS ?_
 refine tkAp 1 (some 6) rfl rfl hS ?_
 refine tkAl 2 (some 7) (v:=?_) rfl rfl ?_ hS ?_
 rotate_left
 ·intro wz hw; obtain ⟨c1',c2',c3'⟩:=hw; refine exec_load1 w.heap.size 6 ?_ (.slice none 0 0) (c1' 6 _ rfl) _ Tryz.underlying28 (by rfl); go_simp
 refine tkAp 3 (some 8) rfl rfl hS ?_
 refine tkAl 4 (some 9) (v:=?_) rfl rfl ?_ hS ?_
 rotate_left
 ·intro wz hw; obtain ⟨c1',c2',c3'⟩:=hw; refine exec_load1 w.heap.size 7 ?_ (.slice (some ⟨vb,vp,none⟩) (st+1) cv) (c1' 7 _ rfl) _ Tryz.underlying22 (by rfl); go_simp
 refine tkAp 5 (some 10) rfl rfl hS ?_
 refine tkAp 6 (some 11) rfl rfl hS ?_
 refine tkAl 7 (some 12) (v:=?_) rfl rfl ?_ hS ?_
 rotate_left
 ·intro wz hw; obtain ⟨c1',c2',c3'⟩:=hw; refine exec_load1 vb (vp+q) ?_ (.int .i64 (0:Int)) c2' _ Tryz.underlying3 (by rfl); go_simp
 refine tkAp 8 (some 13) rfl rfl hS ?_
 refine tkAl 9 (some 14) (v:=?_) rfl rfl ?_ hS ?_
 rotate_left
 ·intro wz hw; obtain ⟨c1',c2',c3'⟩:=hw; refine exec_load1 w.heap.size 7 ?_ (.slice (some ⟨vb,vp,none⟩) (st+1) cv) (c1' 7 _ rfl) _ Tryz.underlying22 (by rfl); go_simp
 refine tkAp 10 (some 15) rfl rfl hS ?_
 refine tkAp 11 (some 16) rfl rfl hS ?_
 refine tkAp 12 (some 17) rfl rfl hS ?_
 refine tkAl 13 (some 18) (v:=?_) rfl rfl ?_ hS ?_
 rotate_left
 ·intro wz hw; obtain ⟨c1',c2',c3'⟩:=hw; refine exec_load1 vb (vp+(q+1)) ?_ (.int .i64 (0:Int)) c3' _ Tryz.underlying3 (by rfl); go_simp
 refine tkAp 14 (some 19) rfl rfl hS ?_
 refine wpO (i:=15) rfl fun KK hKK=>?_
 go_simp
 refine lN hKK ?_; clear hKK KK
 refine wpAnyD_done (by kernel_rfl) ?_ _
 go_simp
 go_wp2_with fail
 go_ret
 exact ⟨rfl,hb1⟩
theorem from_any (syms:Nat) (N:Au) (hs:Ss N.arcs) (iv fv:Value) (ro:OA) (hro:ro=none\/∃ b,ro=some ⟨b,0,none⟩) (nr cr:Nat) (vo:OA) (cv:Nat) (q:Nat) (hq:q<N.st) (hst:N.st<=64) (hn:nr<=4096) (w:World) (hf:Fl 11 w ro nr cr (N.arcs.map acC)) (hv:Rd w vo (N.st+1) cv (fB N.arcs)) :
  Calls Tryz.prog 68 #[.agg (viC syms N.st iv fv (.slice ro nr cr) (.slice vo (N.st+1) cv)).toArray,.int .i64 (q:Int)] w fun e w' =>
   (∃ ro' n' c',e=.returned (.slice ro' n' c')/\Fl 11 w' ro' n' c' ((N.arcs.filter fun x=>decide (x.1=q)).map acC))/\Below w.heap.size w w':=by
 have hl:=hf.lenMap
 have hseg:=from_seg hs q
 have h01:=cB_mono N.arcs q
 have h1n:cB N.arcs (q+1)<=nr:=by rw [<-hl]; exact cB_le _ _
 obtain ⟨vb,vp,rfl,hc0⟩:=hv.get (j:=q) (by omega)
 obtain ⟨vb',vp',e1,hc1⟩:=hv.get (j:=q+1) (by omega)
 injection e1 with e1
 injection e1 with e1 e2
 subst e1 e2
 cases ro with
 | none =>
  have hcr:=hf.nil rfl
  have hnr:nr=0:=by have:=hf.le; omega
  subst hnr
  subst hcr
  have hN:N.arcs=[]:=List.eq_nil_of_length_eq_zero hl
  have z0:fB N.arcs q=.int .i64 ((0:Nat):Int):=by rw [hN]; rfl
  have z1:fB N.arcs (q+1)=.int .i64 ((0:Nat):Int):=by rw [hN]; rfl
  rw [z0] at hc0
  rw [z1] at hc1
  refine (from_none syms N.st iv fv vb vp cv q hq hst w hc0 hc1).mono ?_
  rintro e w' ⟨rfl,hb⟩
  refine ⟨⟨none,0,0,rfl,?_⟩,hb⟩
  rw [hN]; exact Fl.none_ 11 w'
 | some ad =>
  obtain ⟨b,rfl⟩:∃ b,ad=⟨b,0,none⟩:=by
   rcases hro with h | ⟨b,h⟩
   ·cases h
   ·injection h with h; exact ⟨b,h⟩
  have hnc:=hf.le
  by_cases hlt:cB N.arcs q<cr
  ·refine (from_lt syms N.st iv fv b 0 nr cr hnc hnc vb vp cv q _ _ hq h01 h1n hlt hst w hc0 hc1).mono ?_
   rintro e w' ⟨rfl,hb⟩
   refine ⟨⟨_,_,_,rfl,?_⟩,hb⟩
   have h2:=(hf.next hb).slice h01 h1n
   rw [<-List.map_take,<-List.map_drop,hseg] at h2
   exact h2
  ·obtain rfl:nr=cr:=by omega
   have e0:cB N.arcs q=nr:=by omega
   have e1:cB N.arcs (q+1)=nr:=by omega
   have z0:fB N.arcs q=.int .i64 (nr:Int):=by unfold fB; rw [e0]
   have z1:fB N.arcs (q+1)=.int .i64 (nr:Int):=by unfold fB; rw [e1]
   rw [z0] at hc0
   rw [z1] at hc1
   refine (from_eq syms N.st iv fv b 0 nr hn vb vp cv q hq hst w hc0 hc1).mono ?_
   rintro e w' ⟨rfl,hb⟩
   refine ⟨⟨_,_,_,rfl,?_⟩,hb⟩
   have h2:(N.arcs.filter fun x=>decide (x.1=q))=[]:=by
    rw [<-hseg,e0,e1]
    exact List.drop_eq_nil_of_le (by rw [List.length_take]; omega)
   rw [h2]
   exact ⟨rfl,Nat.le_refl _,by simp [maxLen],(fun e=>by cases e),fun i cs h=>by cases h⟩
end
end Go.Proofs.YtnapapijhhldpaaGreatDoor

/-
  Texts joined by program: Twy, Twz, TwA. No condition of its own.
-/
import Derived.Test.YtnapapijhhldpaaGreatDoorJcAM
namespace Go.Proofs.YtnapapijhhldpaaGreatDoor
set_option linter.unusedSimpArgs false
set_option linter.unusedVariables false
section
open Go.Shelf Go.RowKit
def Tryz.laysGrow_ren:Go.Shelf.Ren:=⟨fun | 4=>132 | n=>n,fun | 22=>27 | 25=>45 | 3=>3 | 4=>4 | 9=>9 | 20=>20 | 0=>0 | n=>n,fun | n=>n⟩
theorem Tryz.laysGrow:Go.Proofs.Lays8.n4 Tryz.prog Tryz.laysGrow_ren:={
 mixed:=by kernel_rfl
 f4:=⟨Tryz.f132.name,by decide,Tryz.func132.trans (congrArg some (by kernel_rfl))⟩
 t0:=Tryz.underlying0
 a0:=Tryz.isAgg0
 z0:=Tryz.sizeOf0
 v0:=Tryz.zeroValue0
 t3:=Tryz.underlying3
 a3:=Tryz.isAgg3
 z3:=Tryz.sizeOf3
 v3:=Tryz.zeroValue3
 t4:=Tryz.underlying4
 a4:=Tryz.isAgg4
 z4:=Tryz.sizeOf4
 v4:=Tryz.zeroValue4
 t9:=Tryz.underlying9
 a9:=Tryz.isAgg9
 z9:=Tryz.sizeOf9
 v9:=Tryz.zeroValue9
 t20:=Tryz.underlying20
 a20:=Tryz.isAgg20
 z20:=Tryz.sizeOf20
 v20:=Tryz.zeroValue20
 t22:=Tryz.underlying27
 a22:=Tryz.isAgg27
 z22:=Tryz.sizeOf27
 v22:=Tryz.zeroValue27 }
theorem Tryz.infoTw:(Tryz.prog.info? 45).map (fun i=>(i.zero,i.size,i.bytes))=some (some (.agg #[.bool false,.slice none 0 0,.slice none 0 0,.int .i64 0,.bool false,.int .u64 0,.slice none 0 0,.slice none 0 0]),8,128):=by kernel_rfl
theorem zcW_size (k:Nat):(Builtin.zeroCells (.agg #[.bool false,.slice none 0 0,.slice none 0 0,.int .i64 0,.bool false,.int .u64 0,.slice none 0 0,.slice none 0 0]:Value).cells k).size=k*8:=by
 simp [Builtin.zeroCells,Value.cells]
theorem growW_any (n:Nat) (hn:n≤1000000000) (w:World):Calls Tryz.prog 132 #[.slice none 0 0,.int .i64 n] w fun e w'=>∃ v,e=.returned v∧FO 45 8 w' w.heap.size v []∧Below w.heap.size w w':=by
 by_cases h0:n=0
 ·subst h0
  have hcon:=Any8.slices_Grow_room Tryz.laysGrow none 0 0 0 w (by decide) (by decide) (by decide) (by decide)
  change Calls Tryz.prog 132 _ _ _ at hcon
  exact hcon.mono fun e w' ⟨he,hw⟩=>⟨_,he,FO.nil _ _ _ _,by rw [hw]; exact Below.refl _ _⟩
 ·obtain ⟨i,hi,hz0,hsz,hby⟩:=info_parts Tryz.infoTw
  have hcon:=Any8.slices_Grow_grow Tryz.laysGrow i _ hi hz0 (by rw [hsz]; decide) none 0 0 n [] w (by decide) (by omega) (by rw [hby]; omega) (by omega) (by simp) (fun _=>rfl) (fun a h=>by cases h)
  change Calls Tryz.prog 132 _ _ _ at hcon
  refine hcon.mono ?_
  rintro e w' ⟨he,rfl⟩
  simp only [Nat.zero_add,Nat.sub_zero] at he ⊢
  have hge:=grownCap_ge w n 0 45
  have hle:=grownCap_le_maxLen w n 0 45 (by unfold maxLen; omega)
  change Ending at e
  obtain ⟨cap,hcap⟩:∃ cap,grownCap w n 0 45=cap:=⟨_,rfl⟩
  have hcap':=hcap
  change grownCap w n 0 (Tryz.laysGrow_ren.t 25)=cap at hcap'
  rw [hcap] at hge hle
  rw [hcap'] at he ⊢
  have hheap:=heap_alloc_new w.drew (.cells (([]:List Value).toArray++Builtin.zeroCells (.agg #[.bool false,.slice none 0 0,.slice none 0 0,.int .i64 0,.bool false,.int .u64 0,.slice none 0 0,.slice none 0 0]:Value).cells n++Builtin.zeroCells (.agg #[.bool false,.slice none 0 0,.slice none 0 0,.int .i64 0,.bool false,.int .u64 0,.slice none 0 0,.slice none 0 0]:Value).cells (cap-n)) 45)
  refine ⟨_,he,⟨⟨rfl,.inr ⟨w.heap.size,cap,_,rfl,Nat.le_refl _,hheap,Nat.zero_le _,hle,?_,rfl⟩⟩,fun cs h=>by cases h⟩,((Below.refl _ _).drew).alloc (Nat.le_refl _) _⟩
  simp only [Array.size_append,zcW_size,List.size_toArray,List.length_nil]
  omega
theorem twC_len (xs:List Tw):∀ cs∈xs.map twC,cs.length=8:=fun cs hc=>by
 obtain ⟨x,_,rfl⟩:=List.mem_map.1 hc; rfl
theorem twC_one (xs:List Tw):∀ cs∈xs.map twC,∀ u∈cs,u.oneCell'=true:=fun cs hc u hu=>by
 obtain ⟨x,_,rfl⟩:=List.mem_map.1 hc; exact twC_1 x u hu
theorem wp_appW {w:World} {ops:Array Oper} {rest:List Oper} {o:Oper} {a:Act} {Q:Exit→Act→World→Prop} (hgd:o.guard=none) (s x:Operand)
  (ho:o.op=.call { callee:=.builtin .append,args:=#[s,x],argTypes:=#[27,27] })
  (base:Nat) (v:Value) (ys:List Tw) (hs:a.eval s=v) (hown:FO 45 8 w base v (ys.map twC))
  (ao:Option Addr) (m c:Nat) (xs:List Tw) (hx:a.eval x=.slice ao m c) (hfl:Fl 8 w ao m c (xs.map twC))
  (hy:ys.length≤1000000) (hm:m≤1000000) (hbase:base≤w.heap.size)
  (h:∀ v' w',FO 45 8 w' base v' ((ys++xs).map twC)→Below base w w'→wpList Tryz.prog ops Q rest (a.put o.dst v') w'):wpList Tryz.prog ops Q (o::rest) a w:=by
 cases ao with
 | none =>
  have hc:=hfl.nil rfl
  have hm0:m=0:=by have:=hfl.le; omega
  subst hm0
  subst hc
  have hxs:xs=[]:=List.eq_nil_of_length_eq_zero hfl.lenMap
  subst hxs
  obtain ⟨i,hi,hz,hsz,hby⟩:=info_parts Tryz.infoTw
  refine wpList_append_own_none hgd s x _ ho base _ i 8 Tryz.underlying27 hi v _ _ hs hown.1 hx ?_
  exact h v w (by rw [List.append_nil]; exact hown) (Below.refl _ _)
 | some ad =>
  refine wp_appF0 hgd s x _ ho _ _ 8 128 Tryz.underlying27 Tryz.infoTw rfl (by decide) base v _ hs hown ad m c _ hx hfl (twC_len xs) (twC_one xs) ?_ ?_ hbase ?_
  ·rw [List.length_map]; omega
  ·rw [List.length_map]; omega
  ·intro v' w' h1 _ h3
   exact h v' w' (by rw [List.map_append]; exact h1) h3
set_option maxRecDepth 10000 in
set_option maxHeartbeats 4000000 in
theorem concatW_any (G:Nat) (ao:Option Addr) (n cap:Nat) (l:List Tw) (bo:Option Addr) (m cap':Nat) (l':List Tw) (w:World) (h:Fl 8 w ao n cap (l.map twC)) (h':Fl 8 w bo m cap' (l'.map twC)) (g0:w.cell? ⟨G,0,none⟩=some (.slice ao n cap)) (g1:w.cell? ⟨G,1,none⟩=some (.slice bo m cap')) (hn:n≤4096) (hm:m≤4096) :
  Calls Tryz.prog 90 #[.slice (some ⟨G,0,none⟩) 2 2] w fun e w'=>(∃ v,e=.returned v∧FO 45 8 w' w.heap.size v ((l++l').map twC))∧Below w.heap.size w w':=by
 have hgrow:=hid (growW_any (n+m) (by omega) w)
 have hpush:((n+m:Nat):Int)=(n:Int)+(m:Int):=by omega
 rw [hpush] at hgrow
 clear hpush
 have hln:=hid h.lenMap
 have hlm:=hid h'.lenMap
 go_enter Tryz.func90,Tryz.ntmps90
 go_wp2_with fail
 go_loopw [11,3] (fun iv sv wr=>∃ k s:Int,(k=0∨k=1∨k=2)∧iv=.int .i64 k∧sv=.int .i64 s∧Hid ((k=0→s=0)∧(k=1→s=n)∧(k=2→s=n+m))∧w=wr) (fun i _ _=>(2-intOf i).toNat)
 case atStart=>exact ⟨0,0,.inl rfl,rfl,rfl,hid ⟨fun _=>rfl,fun h=>by omega,fun h=>by omega⟩,rfl⟩
 case round =>
  obtain ⟨k,s,hk,rfl,rfl,Hs,rfl⟩:=hrel
  rcases hk with rfl | rfl | rfl
  ·have hs:0=s:=(Hs.out.1 rfl).symm
   subst hs
   clear Hs
   go_wp2_with fail
   go_roundw
   case rel=>exact ⟨1,n,.inr (.inl rfl),by go_num,by go_num,hid ⟨fun h=>by omega,fun _=>rfl,fun h=>by omega⟩,by trivial⟩
   case measure=>simp [intOf]
  ·have hs:(n:Int)=s:=(Hs.out.2.1 rfl).symm
   subst hs
   clear Hs
   go_wp2_with fail
   go_roundw
   case rel=>exact ⟨2,n+m,.inr (.inr rfl),by go_num,by go_num,hid ⟨fun h=>by omega,fun h=>by omega,fun _=>rfl⟩,by trivial⟩
   case measure=>simp [intOf]
  ·have hs:(n:Int)+m=s:=(Hs.out.2.2 rfl).symm
   subst hs
   clear Hs
   go_wp2_with fail
   refine hgrow.out.mono ?_; rintro e w1 ⟨v1,rfl,hown,hb1⟩
   go_wp2_with fail
   go_loopw [27,6] (fun iv vv wr=>∃ (k:Int) (v:Value) (ps:List Tw),(k=0∨k=1∨k=2)∧iv=.int .i64 k∧v=vv∧FO 45 8 wr w.heap.size v (ps.map twC)∧Hid ((k=0→ps=[])∧(k=1→ps=l)∧(k=2→ps=l++l'))∧Below w.heap.size w wr) (fun i _ _=>(2-intOf i).toNat)
   case atStart=>exact ⟨0,v1,[],.inl rfl,rfl,rfl,hown,hid ⟨fun _=>rfl,fun h=>by omega,fun h=>by omega⟩,hb1⟩
   case round =>
    clear hown hb1
    obtain ⟨k,v,ps,hk,rfl,rfl,hown,Hs,hbel⟩:=hrel
    have c0:=((bcell hbel).1 _ _ (World.block_lt_of_cell? _ _ g0)).trans g0
    have c1:=((bcell hbel).1 _ _ (World.block_lt_of_cell? _ _ g1)).trans g1
    rcases hk with rfl | rfl | rfl
    ·obtain rfl:=Hs.out.1 rfl
     clear Hs
     have hl:=h.next hbel
     go_wp2_with (at_builtin; refine wp_appW rfl (.tmp 31) (.tmp 32) rfl w.heap.size _ [] rfl hown ao n cap l rfl hl (by decide) (by omega) hbel.size ?_)
     intro v' w2 hown2 hb2
     have hb3:=hbel.trans hb2
     clear c0 c1
     go_wp2_with fail
     go_roundw
     case rel=>exact ⟨1,v',l,.inr (.inl rfl),by go_num,rfl,hown2,hid ⟨fun h=>by omega,fun _=>rfl,fun h=>by omega⟩,hb3⟩
     case measure=>simp [intOf]
    ·obtain rfl:=Hs.out.2.1 rfl
     clear Hs
     have hl:=h'.next hbel
     go_wp2_with (at_builtin; refine wp_appW rfl (.tmp 31) (.tmp 32) rfl w.heap.size _ ps rfl hown bo m cap' l' rfl hl (by rw [hln.out]; omega) (by omega) hbel.size ?_)
     intro v' w2 hown2 hb2
     have hb3:=hbel.trans hb2
     clear c0 c1
     go_wp2_with fail
     go_roundw
     case rel=>exact ⟨2,v',ps++l',.inr (.inr rfl),by go_num,rfl,by rw [List.map_append] at *; exact hown2,hid ⟨fun h=>by omega,fun h=>by omega,fun _=>rfl⟩,hb3⟩
     case measure=>simp [intOf]
    ·have hy0:=hid (Hs.out.2.2 rfl)
     clear Hs
     go_wp2_with fail
     go_ret
     exact ⟨⟨_,rfl,by have h9:=hown; rw [hy0.out,List.map_append] at h9; exact h9⟩,hbel⟩
end
section
open Go.RowKit
theorem wp_loadTw {ops:Array Oper} {rest:List Oper} {o:Oper} {a:Act} {w:World} {Q:Exit→Act→World→Prop} (hgd:o.guard=none) (x:Operand) (ho:o.op=.load 45 x)
  (b off:Nat) (hx:a.eval x=.pointer (some ⟨b,off,none⟩)) (y:Tw) (hc:Cs w b off (twC y)) (h:wpList Tryz.prog ops Q rest (a.put o.dst (.agg (twC y).toArray)) w):wpList Tryz.prog ops Q (o::rest) a w :=
 wp_loadC hgd _ x ho b off hx (twC y) hc _ Tryz.underlying45 rfl Tryz.sizeTw h
theorem wp_storeVTw {ops:Array Oper} {rest:List Oper} {o:Oper} {a:Act} {w:World} {Q:Exit→Act→World→Prop} (hgd:o.guard=none) (x y:Operand) (ho:o.op=.store 45 x y)
  (T:TypeId) (zs:Array Value) (hx:a.eval x=.pointer (some ⟨w.heap.size,0,none⟩)) (z:Tw) (hk:zs.size=8) (hy:a.eval y=.agg (twC z).toArray)
  (h:wpList Tryz.prog ops Q rest (a.put o.dst undef) (w.alloc (.cells (twC z).toArray T))):wpList Tryz.prog ops Q (o::rest) a (w.alloc (.cells zs T)) :=
 wp_storeV hgd _ x y ho T zs hx (twC z) hk.symm hy (twC_1 z) Tryz.sizeTw h
set_option maxHeartbeats 1000000 in
theorem empty_any (syms:Nat) (N:Au) (hl:∀ x∈N.arcs,1≤x.2.1) (io:Option Addr) (ci:Nat) (fo:Option Addr) (cf:Nat) (ro:Option Addr) (nr cr:Nat) (vo:Option Addr) (cv:Nat) (w:World) (h:Vm w syms N io ci fo cf ro nr cr vo cv) (hn:nr≤4096) :
  Calls Tryz.prog 61 #[.agg (viC syms N.st (.slice io N.st ci) (.slice fo N.st cf) (.slice ro nr cr) (.slice vo (N.st+1) cv)).toArray] w fun e w'=>e=.returned (.bool false)∧Below w.heap.size w w':=by
 have hb0:Below w.heap.size w (w.alloc (.cells (viC syms N.st (.slice io N.st ci) (.slice fo N.st cf) (.slice ro nr cr) (.slice vo (N.st+1) cv)).toArray 63)):=below_alloc _
 have hG:=Bl.fresh w (viC syms N.st (.slice io N.st ci) (.slice fo N.st cf) (.slice ro nr cr) (.slice vo (N.st+1) cv)) 63
 have hf:=hid (h.mo.arcs.next hb0)
 have hnl:=hid h.mo.arcs.lenMap
 have hl:=hid hl
 clear h
 have x6:=hG.cell (i:=6) rfl
 go_enter Tryz.func61,Tryz.ntmps61
 go_upto_region 1 with fail
 generalize (w.alloc (.cells (viC syms N.st (.slice io N.st ci) (.slice fo N.st cf) (.slice ro nr cr) (.slice vo (N.st+1) cv)).toArray 63))=W0 at *
 go_wp2_with fail
 go_loopw [9] (fun iv wr=>∃ k:Nat,k≤nr∧iv=.int .i64 (k:Int)∧Below W0.heap.size W0 wr) (fun iv _=>nr-(intOf iv).toNat)
 case atStart=>exact ⟨0,by omega,rfl,Below.refl _ _⟩
 case round =>
  obtain ⟨k,hk,rfl,hb⟩:=hrel
  by_cases hlt:k<nr
  ·obtain ⟨x,hxk,b,off,rfl,hcs⟩:=(hf.out.next hb).get hlt
   have i1:(k:Int)<(nr:Int):=by omega
   have i0:(0:Int)≤(k:Int):=by omega
   have hx1:=hl.out x (List.mem_of_getElem? hxk)
   have hx2:((x.2.1:Int)==0)=false:=by rw [beq_eq_false_iff_ne]; omega
   have hx3:¬ (x.2.1:Int)=0:=by omega
   have Hxk:=hid hxk
   have hbX:Below wr.heap.size wr (wr.alloc (.cells (acC x).toArray 54)):=below_alloc _
   have hX:=Bl.fresh wr (acC x) 54
   have z1:=hX.cell (i:=1) rfl
   clear hxk hX
   go_upto_region 4 with ((first | ((with_reducible refine wp_loadArc rfl _ rfl b (off+k*11) ?_ x hcs ?_); exact rfl) | ((with_reducible refine wp_storeVArc rfl _ _ rfl _ _ ?_ x ?_ ?_ ?_); exact rfl; exact rfl; exact rfl)))
   have hb2:=hb.trans (hbX.mono hb.size)
   generalize hW2:(wr.alloc (.cells (acC x).toArray 54))=W2 at *
   clear hW2
   go_wp2_with fail
   go_roundw
   case rel=>exact ⟨k+1,by omega,by go_num,hb2⟩
   case measure=>simp [intOf]; omega
  ·have i1:¬ (k:Int)<(nr:Int):=by omega
   go_wp2_with fail
   go_ret
   exact ⟨rfl,below_chain hb0 hb⟩
set_option maxRecDepth 10000 in
set_option maxHeartbeats 2000000 in
theorem weightsD_any (syms:Nat) (N:Au) (io:Option Addr) (ci:Nat) (fo:Option Addr) (cf:Nat) (ro:Option Addr) (nr cr:Nat) (vo:Option Addr) (cv:Nat) (w:World) (h:Vm w syms N io ci fo cf ro nr cr vo cv) (hn:nr≤4096) (hst:N.st≤64) :
  Calls Tryz.prog 62 #[.agg (viC syms N.st (.slice io N.st ci) (.slice fo N.st cf) (.slice ro nr cr) (.slice vo (N.st+1) cv)).toArray] w fun e w'=>(∃ v,e=.returned v∧FO 45 8 w' w.heap.size v ((N.ini++N.fin++N.arcs.map wt).map twC))∧Below w.heap.size w w':=by
 have hb0:Below w.heap.size w (w.alloc (.cells (viC syms N.st (.slice io N.st ci) (.slice fo N.st cf) (.slice ro nr cr) (.slice vo (N.st+1) cv)).toArray 63)):=below_alloc _
 have hG:=Bl.fresh w (viC syms N.st (.slice io N.st ci) (.slice fo N.st cf) (.slice ro nr cr) (.slice vo (N.st+1) cv)) 63
 have hmw:=hid h
 have hm:=hid (h.next hb0)
 have hnl:=hid h.mo.arcs.lenMap
 have hl1:=hid h.mo.ini.lenMap
 have hl2:=hid h.mo.fin.lenMap
 clear h
 have x4:=hG.cell (i:=4) rfl
 have x5:=hG.cell (i:=5) rfl
 have x6:=hG.cell (i:=6) rfl
 go_enter Tryz.func62,Tryz.ntmps62
 go_upto_region 1 with fail
 generalize (w.alloc (.cells (viC syms N.st (.slice io N.st ci) (.slice fo N.st cf) (.slice ro nr cr) (.slice vo (N.st+1) cv)).toArray 63))=W0 at *
 have hbN:Below W0.heap.size W0 (W0.alloc (.cells #[.slice io N.st ci,.slice fo N.st cf] 27)):=below_alloc _
 have hnew:=Bl.fresh W0 [.slice io N.st ci,.slice fo N.st cf] 27
 have hm1:=hid (hm.out.next hbN)
 have hfi:Hid (Fl 8 (W0.alloc (.cells #[.slice io N.st ci,.slice fo N.st cf] 27)) io N.st ci (N.ini.map twC)):=hid hm1.out.mo.ini
 have hff:Hid (Fl 8 (W0.alloc (.cells #[.slice io N.st ci,.slice fo N.st cf] 27)) fo N.st cf (N.fin.map twC)):=hid hm1.out.mo.fin
 have hG1:=hG.next hbN
 go_wp2_with fail
 refine (concatW_any W0.heap.size io N.st ci N.ini fo N.st cf N.fin _ hfi.out hff.out (hnew.cell (i:=0) rfl) (hnew.cell (i:=1) rfl) (by omega) (by omega)).mono ?_; rintro e w1 ⟨⟨v1,rfl,hc1⟩,hb1⟩
 have hG2:=hG1.next hb1
 have x6:=hG2.cell (i:=6) rfl
 have hm2:=hid (hm1.out.next hb1)
 have hbA:Below w.heap.size w w1:=below_chain (below_chain hb0 hbN) hb1
 have hbs:w.heap.size≤W0.heap.size∧W0.heap.size≤(W0.alloc (.cells #[.slice io N.st ci,.slice fo N.st cf] 27)).heap.size:=⟨hb0.size,hbN.size⟩
 have hc2:=hc1.mono (base':=w.heap.size) (Nat.le_trans hbs.1 hbs.2)
 clear hc1 hG hG1 x4 x5 hnew
 go_wp2_with fail
 go_loopw [3,18] (fun ov iv wr=>∃ (v:Value) (k:Nat),v=ov∧k≤nr∧iv=.int .i64 (k:Int)∧FO 45 8 wr w.heap.size v ((N.ini++N.fin++(N.arcs.take k).map wt).map twC)∧Below w.heap.size w wr) (fun _ iv _=>nr-(intOf iv).toNat)
 case atStart=>exact ⟨v1,0,rfl,by omega,rfl,by rw [List.take_zero,List.map_nil,List.append_nil]; exact hc2,hbA⟩
 case round =>
  obtain ⟨v,k,rfl,hk,rfl,hC,hb⟩:=hrel
  have hfr:=hmw.out.mo.arcs.next hb
  by_cases hlt:k<nr
  ·obtain ⟨x,hxk,b,off,rfl,hcs⟩:=hfr.get hlt
   have i1:(k:Int)<(nr:Int):=by omega
   have i0:(0:Int)≤(k:Int):=by omega
   have Hxk:Hid ((N.arcs.take (k+1)).map wt=(N.arcs.take k).map wt++[wt x]):=hid (take_map_step hxk)
   have hlen:Hid ((N.ini++N.fin++(N.arcs.take k).map wt).length≤5000):=hid (by
    rw [List.length_append,List.length_append,List.length_map,List.length_take,hl1.out,hl2.out]; omega)
   clear hxk
   have hbX:Below wr.heap.size wr (wr.alloc (.cells (acC x).toArray 54)):=below_alloc _
   have hX:=Bl.fresh wr (acC x) 54
   go_upto_region 5 with ((first | ((with_reducible refine wp_loadArc rfl _ rfl b (off+k*11) ?_ x hcs ?_); exact rfl) | ((with_reducible refine wp_storeVArc rfl _ _ rfl _ _ ?_ x ?_ ?_ ?_); exact rfl; exact rfl; exact rfl)))
   have hC1:=hC.next hbX
   have hb2:=hb.trans (hbX.mono hb.size)
   have hXw:=hX.cs.part 3 (twC (wt x)) (acC_wt x)
   generalize hW2:(wr.alloc (.cells (acC x).toArray 54))=W2 at *
   generalize hGX:wr.heap.size=GX at *
   clear hW2 hX hC hcs hfr
   go_wp2_with (first | ((with_reducible refine wp_loadTw rfl _ rfl GX 3 ?_ (wt x) hXw ?_); exact rfl) | (at_builtin; go_loud (refine wp_appW rfl (.tmp 22) (.tmp 25) rfl w.heap.size v _ rfl (hC1.next (below_alloc _)) (some ⟨W2.heap.size,0,none⟩) 1 1 [wt x] rfl (Fl.lit1 W2 (twC (wt x)) _ 8 rfl) ?_ (by decide) ?_ ?_); exact Nat.le_trans hlen.out (by decide); exact Nat.le_trans hb2.size (below_alloc _).size; intro v' w7 hC7 hb7; have hb8:=hb2.trans (((below_alloc _).mono hb2.size).trans hb7)))
   go_roundw
   case rel=>exact ⟨v',k+1,rfl,by omega,by go_num,by rw [Hxk.out,←List.append_assoc]; exact hC7,hb8⟩
   case measure=>simp [intOf]; omega
  ·obtain rfl:k=nr:=by omega
   have i1:¬ (k:Int)<(k:Int):=by omega
   have htk:Hid (N.arcs.take k=N.arcs):=hid (List.take_of_length_le (by rw [hnl.out]; exact Nat.le_refl _))
   go_wp2_with fail
   go_ret
   have h9:=hC
   rw [htk.out] at h9
   exact ⟨⟨v,rfl,by simpa using h9⟩,hb⟩
end
section
open Go.RowKit
theorem VmF.next {w w':World} {base:Nat} {N:Au} {io fo ro vo:Option Addr} {ci cf nr cr cv:Nat} (h:VmF w base N io ci fo cf ro nr cr vo cv) (hb:Below w.heap.size w w'):VmF w' base N io ci fo cf ro nr cr vo cv:=⟨h.mo.next hb,h.fst.next hb⟩
theorem VmF.mono {w:World} {base base':Nat} {N:Au} {io fo ro vo:Option Addr} {ci cf nr cr cv:Nat} (h:VmF w base N io ci fo cf ro nr cr vo cv) (hb:base'≤base):VmF w base' N io ci fo cf ro nr cr vo cv:=⟨h.mo.mono hb,h.fst.mono hb⟩
theorem VmF.fr {w w':World} {base H:Nat} {N:Au} {io fo ro vo:Option Addr} {ci cf nr cr cv:Nat} (h:VmF w base N io ci fo cf ro nr cr vo cv) (hf:Fr (fun k=>k=H) w w') (hH:H<base):VmF w' base N io ci fo cf ro nr cr vo cv :=
 ⟨h.mo.fr hf hH,h.fst.fr hf fun g hg e=>by have:=(h.fst.lt hg).1; omega⟩
theorem wp_storeVView {ops:Array Oper} {rest:List Oper} {o:Oper} {a:Act} {w:World} {Q:Exit→Act→World→Prop} (hgd:o.guard=none) (x y:Operand) (ho:o.op=.store 63 x y)
  (T:TypeId) (zs:Array Value) (hx:a.eval x=.pointer (some ⟨w.heap.size,0,none⟩)) (cs:List Value) (hk:zs.size=8) (hc:cs.length=8) (hy:a.eval y=.agg cs.toArray) (h1:∀ u∈cs,u.oneCell'=true)
  (h:wpList Tryz.prog ops Q rest (a.put o.dst undef) (w.alloc (.cells cs.toArray T))):wpList Tryz.prog ops Q (o::rest) a (w.alloc (.cells zs T)) :=
 wp_storeV hgd _ x y ho T zs hx cs (by rw [hc,hk]) hy h1 (by rw [hc]; exact Tryz.sizeView) h
def Lw (N:Au):Prop:=(∀ v∈N.ini,tc v≤1048576)∧(∀ v∈N.fin,tc v≤1048576)∧∀ x∈N.arcs,tc (wt x)≤1048576∧1≤x.2.1
set_option maxRecDepth 10000 in
set_option maxHeartbeats 4000000 in
theorem light_any (syms:Nat) (A:Au) (hV:Vo syms A) (hs:A.arcs.length<20∨UpA A.arcs) (hli:A.ini.length=A.st) (hlf:A.fin.length=A.st) (hL:Lw A) (io:Option Addr) (ci:Nat) (fo:Option Addr) (cf:Nat) (ro:Option Addr) (nr cr:Nat) (w:World) (h:Mo w syms A io ci fo cf ro nr cr) :
  Calls Tryz.prog 23 #[.agg (auC syms A.st (.slice io A.st ci) (.slice fo A.st cf) (.slice ro nr cr)).toArray] w fun e w' =>
   (∃ io' ci' fo' cf' ro' nr' cr' vo' cv' C,e=.returned (.tuple #[.agg (viC syms A.st (.slice io' A.st ci') (.slice fo' A.st cf') (.slice ro' nr' cr') (.slice vo' (A.st+1) cv')).toArray,.int .i64 0])∧VmF w' w.heap.size ⟨A.st,A.ini,A.fin,C.filter nz⟩ io' ci' fo' cf' ro' nr' cr' vo' cv'∧Nf C A.arcs)∧Below w.heap.size w w':=by
 have hli:=hid hli
 have hlf:=hid hlf
 have hL:=hid hL
 have hb0:Below w.heap.size w ((w.alloc (.cells (auC syms A.st (.slice io A.st ci) (.slice fo A.st cf) (.slice ro nr cr)).toArray 30)).alloc (.cells #[.int .i64 0,.slice none 0 0,.int .i64 0,.int .i64 0,.slice none 0 0,.slice none 0 0,.slice none 0 0,.slice none 0 0] 63)):=below_chain (below_alloc _) (below_alloc _)
 have hG:=(Bl.fresh w (auC syms A.st (.slice io A.st ci) (.slice fo A.st cf) (.slice ro nr cr)) 30).new (.cells #[.int .i64 0,.slice none 0 0,.int .i64 0,.int .i64 0,.slice none 0 0,.slice none 0 0,.slice none 0 0,.slice none 0 0] 63)
 have hR:=Bl.fresh' (G:=w.heap.size+1) (w.alloc (.cells (auC syms A.st (.slice io A.st ci) (.slice fo A.st cf) (.slice ro nr cr)).toArray 30)) [.int .i64 0,.slice none 0 0,.int .i64 0,.int .i64 0,.slice none 0 0,.slice none 0 0,.slice none 0 0,.slice none 0 0] 63 (by simp)
 have hm:=hid (h.next hb0)
 clear h
 go_enter Tryz.func23,Tryz.ntmps23
 go_upto_region 1 with fail
 generalize hW0:((w.alloc (.cells (auC syms A.st (.slice io A.st ci) (.slice fo A.st cf) (.slice ro nr cr)).toArray 30)).alloc (.cells #[.int .i64 0,.slice none 0 0,.int .i64 0,.int .i64 0,.slice none 0 0,.slice none 0 0,.slice none 0 0,.slice none 0 0] 63))=W0 at *
 have hRl0:=hR.lt
 have hGl0:=hG.lt
 obtain ⟨⟨x0,x1,x2,x3⟩,x4,x5,x6⟩:=hG.seven
 have hW0:=hid hW0
 go_wp2_with fail
 refine (viewNew_any syms A hV hs hli.out hlf.out io ci fo cf ro nr cr _ hm.out).mono ?_; rintro e w1 ⟨⟨io',ci',fo',cf',ro',nr',cr',vo',cv',C,rfl,hv1,hnf⟩,hb1⟩
 have hw0w1:w.heap.size+1<w1.heap.size:=Nat.lt_of_lt_of_le hRl0 hb1.size
 replace hR:=hR.next hb1
 replace hG:=hG.next hb1
 replace hb0:Below w.heap.size w w1:=below_chain hb0 hb1
 have hnf:=hid hnf
 have hone:∀ u∈viC syms A.st (.slice io' A.st ci') (.slice fo' A.st cf') (.slice ro' nr' cr') (.slice vo' (A.st+1) cv'),u.oneCell'=true:=viC_1 _ _ _ _ _ _ _ _ _ _ _ _ _ _
 clear hb1 x0 x1 x2 x3 x4 x5 x6 hm
 have hbX:Below w1.heap.size w1 (w1.alloc (.cells (viC syms A.st (.slice io' A.st ci') (.slice fo' A.st cf') (.slice ro' nr' cr') (.slice vo' (A.st+1) cv')).toArray 63)):=below_alloc _
 have hX:=Bl.fresh w1 (viC syms A.st (.slice io' A.st ci') (.slice fo' A.st cf') (.slice ro' nr' cr') (.slice vo' (A.st+1) cv')) 63
 go_upto_region 4 with ((with_reducible refine wp_storeVView rfl _ _ rfl _ _ ?_ (viC syms A.st (.slice io' A.st ci') (.slice fo' A.st cf') (.slice ro' nr' cr') (.slice vo' (A.st+1) cv')) ?_ ?_ ?_ hone ?_); exact rfl; exact rfl; exact rfl; exact rfl)
 replace hR:=hR.next hbX
 replace hG:=hG.next hbX
 have hv2:=hid (hv1.next hbX)
 replace hb0:=below_chain hb0 hbX
 have hX4:w1.heap.size<(w1.alloc (.cells (viC syms A.st (.slice io' A.st ci') (.slice fo' A.st cf') (.slice ro' nr' cr') (.slice vo' (A.st+1) cv')).toArray 63)).heap.size:=hX.lt
 generalize hW1:(w1.alloc (.cells (viC syms A.st (.slice io' A.st ci') (.slice fo' A.st cf') (.slice ro' nr' cr') (.slice vo' (A.st+1) cv')).toArray 63))=W1 at *
 generalize hG4:w1.heap.size=G4 at *
 clear hbX hW1 hG4 hv1
 obtain ⟨⟨x0,x1,x2,x3⟩,x4,x5,x6⟩:=hG.seven
 have hnb:Hid (nr'≤4096):=hid (by
  have h1:=nf_len hnf.out (fun z hz=>(hV.arcs z hz))
  have h2:=List.length_filter_le nz C
  have h3:=hV.num
  have h4:=fo_n hv2.out.mo.arcs
  simp only [List.length_map] at h4
  omega)
 have hnl:Hid ((C.filter nz).length=nr'):=hid (by have h4:=fo_n hv2.out.mo.arcs; simpa using h4)
 have hlab:Hid (∀ x∈C.filter nz,1≤x.2.1∧tc (wt x)≤1048576):=hid fun x hx=>by
  obtain ⟨⟨z,hz,hk,hw⟩,_⟩:=hnf.out.2.1 x (List.mem_filter.1 hx).1
  have h1:=hL.out.2.2 z hz
  have h2:z.2.1=x.2.1:=congrArg (fun q:Ky=>q.2.1) hk
  rw [←h2,←hw]; exact ⟨h1.2,h1.1⟩
 have hXc:=hX.cs
 go_wp2_with ((with_reducible refine wp_loadView rfl _ rfl G4 0 ?_ (viC syms A.st (.slice io' A.st ci') (.slice fo' A.st cf') (.slice ro' nr' cr') (.slice vo' (A.st+1) cv')) rfl hXc ?_); exact rfl)
 refine (empty_any syms ⟨A.st,A.ini,A.fin,C.filter nz⟩ (fun x hx=>(hlab.out x hx).1) io' ci' fo' cf' ro' nr' cr' vo' cv' _ (hv2.out.vm syms) hnb.out).mono ?_; rintro e w2 ⟨rfl,hb2⟩
 have hv3:=hid (hv2.out.next hb2)
 replace hR:=hR.next hb2
 replace hX:=hX.next hb2
 have hXc:=hX.cs
 replace hb0:=below_chain hb0 hb2
 clear x0 x1 x2 x3 x4 x5 x6 hG
 go_wp2_with ((with_reducible refine wp_loadView rfl _ rfl G4 0 ?_ (viC syms A.st (.slice io' A.st ci') (.slice fo' A.st cf') (.slice ro' nr' cr') (.slice vo' (A.st+1) cv')) rfl hXc ?_); exact rfl)
 refine (weightsD_any syms ⟨A.st,A.ini,A.fin,C.filter nz⟩ io' ci' fo' cf' ro' nr' cr' vo' cv' _ (hv3.out.vm syms) hnb.out hV.st).mono ?_; rintro e w3 ⟨⟨vl,rfl,hc3⟩,hb3⟩
 have hv4:=hid (hv3.out.next hb3)
 replace hR:=hR.next hb3
 replace hX:=hX.next hb3
 replace hb0:=below_chain hb0 hb3
 obtain ⟨al,cl,hvl,hfl,hz⟩:=hc3.fl
 clear hz
 have hall:Hid (∀ v∈A.ini++A.fin++(C.filter nz).map wt,tc v≤1048576):=hid fun v hv=>by
  rcases List.mem_append.1 hv with hv | hv
  ·rcases List.mem_append.1 hv with hv | hv
   ·exact hL.out.1 v hv
   ·exact hL.out.2.1 v hv
  ·obtain ⟨x,hx,rfl⟩:=List.mem_map.1 hv
   exact (hlab.out x hx).2
 obtain ⟨Lv,hLv⟩:∃ Lv,A.ini++A.fin++(C.filter nz).map wt=Lv:=⟨_,rfl⟩
 have hLl:Lv.length≤5000:=by
  rw [←hLv,List.length_append,List.length_append,List.length_map,hnl.out,hli.out,hlf.out]
  have:=hV.st; have:=hnb.out; omega
 simp only at hvl hfl
 rw [hLv] at hvl hfl hall
 obtain ⟨ll,hll⟩:∃ ll,(Lv.map twC).length=ll:=⟨_,rfl⟩
 rw [hll] at hvl hfl
 have hllb:ll≤100000:=by rw [←hll,List.length_map]; exact Nat.le_trans hLl (by decide)
 subst hvl
 clear hc3 hLv hll hXc hLl
 go_wp2_with fail
 go_loopw [30] (fun iv wr=>∃ k:Nat,k≤ll∧iv=.int .i64 (k:Int)∧Below w3.heap.size w3 wr) (fun iv _=>ll-(intOf iv).toNat)
 case atStart=>exact ⟨0,by omega,rfl,Below.refl _ _⟩
 case round =>
  obtain ⟨k,hk,rfl,hb⟩:=hrel
  by_cases hlt:k<ll
  ·obtain ⟨x,hxk,b,off,rfl,hcs⟩:=(hfl.next hb).get hlt
   have i1:(k:Int)<(ll:Int):=by omega
   have i0:(0:Int)≤(k:Int):=by omega
   have hx1:=hall.out x (List.mem_of_getElem? hxk)
   have hx2:¬ (1048576:Int)<(tc x:Int):=by omega
   have hx3:decide ((1048576:Int)<(tc x:Int))=false:=decide_eq_false hx2
   have Hxk:=hid hxk
   have hbY:Below wr.heap.size wr (wr.alloc (.cells (twC x).toArray 45)):=below_alloc _
   have hY:=Bl.fresh wr (twC x) 45
   have z3:=hY.cell (i:=3) rfl
   clear hxk hY
   go_upto_region 11 with ((first | ((with_reducible refine wp_loadTw rfl _ rfl b (off+k*8) ?_ x hcs ?_); exact rfl) | ((with_reducible refine wp_storeVTw rfl _ _ rfl _ _ ?_ x ?_ ?_ ?_); exact rfl; exact rfl; exact rfl)))
   have hb2:=hb.trans (hbY.mono hb.size)
   generalize hW2:(wr.alloc (.cells (twC x).toArray 45))=W2 at *
   clear hW2
   go_wp2_with fail
   go_roundw
   case rel=>exact ⟨k+1,by omega,by go_num,hb2⟩
   case measure=>simp [intOf]; omega
  ·have i1:¬ (k:Int)<(ll:Int):=by omega
   have hX4:=(hX.next hb).cs
   have hR4:=hR.next hb
   have hv5:=hid (hv4.out.next hb)
   have hb5:=below_chain hb0 hb
   go_wp2_with (first | ((with_reducible refine wp_loadView rfl _ rfl G4 0 ?_ (viC syms A.st (.slice io' A.st ci') (.slice fo' A.st cf') (.slice ro' nr' cr') (.slice vo' (A.st+1) cv')) rfl hX4 ?_); exact rfl) | ((with_reducible refine wp_storeBView rfl _ _ rfl (w.heap.size+1) 63 _ hR4 ?_ (viC syms A.st (.slice io' A.st ci') (.slice fo' A.st cf') (.slice ro' nr' cr') (.slice vo' (A.st+1) cv')) rfl rfl ?_ ?_ ?_); exact rfl; exact rfl; exact hone; intro w9 hR9 hfr9))
   refine bodyPost_ret (results_cellC rfl _ _ (w.heap.size+1) (viC syms A.st (.slice io' A.st ci') (.slice fo' A.st cf') (.slice ro' nr' cr') (.slice vo' (A.st+1) cv')) _ rfl hR9.cs Tryz.underlying63 rfl Tryz.sizeView) rfl ⟨⟨io',ci',fo',cf',ro',nr',cr',vo',cv',rfl,C,(hv5.out.fr hfr9 hRl0).mono (by omega),hnf.out⟩,hb5.trans (hfr9.below (fun k hk=>by omega) hb5.size)⟩
end
end Go.Proofs.YtnapapijhhldpaaGreatDoor

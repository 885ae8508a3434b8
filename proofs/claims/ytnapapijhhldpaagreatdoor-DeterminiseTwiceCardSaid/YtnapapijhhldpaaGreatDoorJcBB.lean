/-
  Texts joined by program: Trb. No condition of its own.
-/
import Derived.Test.YtnapapijhhldpaaGreatDoorJcBA
namespace Go.Proofs.YtnapapijhhldpaaGreatDoor
set_option linter.unusedSimpArgs false
set_option linter.unusedVariables false
section
open Go.RowKit
abbrev zqC:List Value:=[.bool false,.slice none 0 0,.slice none 0 0]
theorem Tryz.sizeRat:(Tryz.prog.info? 41).map (·.size)=some 3:=by kernel_rfl
theorem zqC_1:∀ v∈zqC,v.oneCell'=true:=fun v hv=>by
 simp only [List.mem_cons,List.not_mem_nil,or_false] at hv
 rcases hv with rfl | rfl | rfl<;>rfl
theorem rOneNil_any (w:World):Calls Tryz.prog 126 #[.slice none 0 0] w fun e w'=>e=.returned (.bool false)∧w=w':=by
 go_enter Tryz.func126,Tryz.ntmps126
 go_wp2_with fail
 go_ret
 exact ⟨rfl,rfl⟩
theorem rValid1_any (w:World):Calls Tryz.prog 120 #[.agg #[.bool false,.slice none 0 0,.slice none 0 0]] w fun e w'=>e=.returned (.bool true)∧Below w.heap.size w w':=by
 have hb0:Below w.heap.size w (w.alloc (.cells #[.bool false,.slice none 0 0,.slice none 0 0] 41)):=below_alloc _
 go_enter Tryz.func120,Tryz.ntmps120
 go_wp2_with fail
 refine (rOneNil_any _).mono ?_; rintro e w1 ⟨rfl,rfl⟩
 go_wp2_with fail
 go_ret
 exact ⟨rfl,hb0⟩
theorem rValid2_any (w:World):Calls Tryz.prog 123 #[.slice none 0 0] w fun e w'=>e=.returned (.bool true)∧w=w':=by
 go_enter Tryz.func123,Tryz.ntmps123
 go_wp2_with fail
 refine wp_loop_rounds 1 ?_
 rw [rounds_succ]
 go_wp2_with fail
 go_ret
 exact ⟨rfl,rfl⟩
theorem rTake2_any (w:World):Calls Tryz.prog 154 #[.slice none 0 0] w fun e w'=>e=.returned (.slice none 0 0)∧w=w':=by
 go_enter Tryz.func154,Tryz.ntmps154
 go_wp2_with fail
 refine (rValid2_any _).mono ?_; rintro e w1 ⟨rfl,rfl⟩
 go_wp2_with fail
 refine wp_loop_rounds 1 ?_
 rw [rounds_succ]
 go_wp2_with fail
 go_ret
 exact ⟨rfl,rfl⟩
theorem rTake1_any (w:World):Calls Tryz.prog 153 #[.agg #[.bool false,.slice none 0 0,.slice none 0 0]] w fun e w'=>e=.returned (.agg #[.bool false,.slice none 0 0,.slice none 0 0])∧Below w.heap.size w w':=by
 have hb0:Below w.heap.size w ((w.alloc (.cells zqC.toArray 41)).alloc (.cells zqC.toArray 41)):=below_chain (below_alloc _) (below_alloc _)
 have hA:=(Bl.fresh w zqC 41).new (.cells zqC.toArray 41)
 have hR:=Bl.fresh' (G:=w.heap.size+1) (w.alloc (.cells zqC.toArray 41)) zqC 41 (by simp)
 go_enter Tryz.func153,Tryz.ntmps153
 go_wp2_with fail
 refine (rValid1_any _).mono ?_; rintro e w1 ⟨rfl,hb1⟩
 replace hA:=hA.next hb1
 replace hR:=hR.next hb1
 have hb:=below_chain hb0 hb1
 clear hb0 hb1
 go_upto_region 3 with fail
 have hdr:=(Below.refl w1.heap.size w1).drew
 have hbd:=below_chain hb hdr
 have hA2:=hA.next hdr
 have hR2:=hR.next hdr
 have hS:Cs w1.drew w.heap.size 0 zqC:=hA2.cs
 refine wp_region_D (fun w'=>Cs w' w.heap.size 0 zqC) [9] (by kernel_rfl) ?_
 refine wpTDp (some 7) (i:=0) rfl rfl hS ?_
 refine wpTD (some 8) (i:=1) (v:=?_) rfl rfl (Or.inl ⟨by rfl,?_⟩) hS ?_
 rotate_left
 ·intro wz hw; obtain hw:=hw; refine exec_load1 w.heap.size 0 ?_ (.bool false) (by have h:=hw 0 _ rfl; simpa using h) _ Tryz.underlying4 rfl; go_simp
 refine wpTDp (some 9) (i:=2) rfl rfl hS ?_
 refine wpTD (some 10) (i:=3) (v:=?_) rfl rfl (Or.inl ⟨by rfl,?_⟩) hS ?_
 rotate_left
 ·intro wz hw; obtain hw:=hw; refine exec_load1 w.heap.size 1 ?_ (.slice none 0 0) (by have h:=hw 1 _ rfl; simpa using h) _ Tryz.underlying39 rfl; go_simp
 refine wpTDp (some 12) (i:=5) rfl rfl hS ?_
 refine wpTD (some 13) (i:=6) (v:=?_) rfl rfl (Or.inl ⟨by rfl,?_⟩) hS ?_
 rotate_left
 ·intro wz hw; obtain hw:=hw; refine exec_load1 w.heap.size 2 ?_ (.slice none 0 0) (by have h:=hw 2 _ rfl; simpa using h) _ Tryz.underlying39 rfl; go_simp
 refine wpAnyD_one (i:=4) (by kernel_rfl) rfl (fun KK hKK=>?_)
 go_simp
 refine hKK _ _ ⟨fun _=>(hS),?_⟩; clear hKK KK
 refine wpAnyD_one (i:=7) (by kernel_rfl) rfl (fun KK hKK=>?_)
 go_simp
 refine hKK _ _ ⟨fun _=>((hS)),?_⟩; clear hKK KK
 refine wpTDp (some 15) (i:=8) rfl rfl ((hS)) ?_
 refine wpAnyD_one (i:=9) (by kernel_rfl) rfl (fun KK hKK=>?_)
 rw [if_pos (by rfl)]
 with_reducible refine op_storeB 41 (.tmp 2) (.tmp 15) ?_ (w.heap.size+1) 41 zqC hR2 ?_ zqC ?_ ?_ ?_ ?_ ?_
 ·rfl
 ·rfl
 ·rfl
 ·go_simp
 ·exact zqC_1
 ·exact Tryz.sizeRat
 intro w9 hR9 hfr9
 refine hKK _ _ ⟨fun hn=>absurd (by simp) hn,?_⟩; clear hKK KK
 refine wpAnyD_done (by kernel_rfl) ?_ _
 go_wp2_with fail
 exact bodyPost_ret (results_cellC1 rfl _ _ (w.heap.size+1) zqC _ rfl hR9.cs Tryz.underlying41 rfl Tryz.sizeRat) rfl ⟨rfl,hbd.trans (hfr9.below (fun k e=>by omega) hbd.size)⟩
theorem wp_storeBTw {ops:Array Oper} {rest:List Oper} {o:Oper} {a:Act} {w:World} {Q:Exit→Act→World→Prop} (hgd:o.guard=none) (x y:Operand) (ho:o.op=.store 45 x y)
  (G:Nat) (T:TypeId) (old:List Value) (hG:Bl G old T w) (hx:a.eval x=.pointer (some ⟨G,0,none⟩)) (v:Tw) (hk:old.length=8) (hy:a.eval y=.agg (twC v).toArray)
  (h:∀ w',Bl G (twC v) T w'→Fr (fun k=>k=G) w w'→wpList Tryz.prog ops Q rest (a.put o.dst undef) w'):wpList Tryz.prog ops Q (o::rest) a w :=
 wpList_plain hgd fun _ hK=>op_storeB _ x y ho G T old hG hx (twC v) (by rw [hk]; rfl) hy (twC_1 v) Tryz.sizeTw fun w' h2 h3=>hK _ _ (h w' h2 h3)
set_option maxHeartbeats 1000000 in
theorem rZero_any (w:World):Calls Tryz.prog 22 #[.agg #[.int .i64 2,.slice none 0 0]] w fun e w'=>e=.returned (.agg #[.bool false,.slice none 0 0,.slice none 0 0,.int .i64 (tc (none):Int),.bool (ti (none)),.int .u64 0,.slice none 0 0,.slice none 0 0])∧Below w.heap.size w w':=by
 have hb0:Below w.heap.size w ((w.alloc (.cells #[.int .i64 2,.slice none 0 0] 26)).alloc (.cells #[.bool false,.slice none 0 0,.slice none 0 0,.int .i64 0,.bool false,.int .u64 0,.slice none 0 0,.slice none 0 0] 45)):=below_chain (below_alloc _) (below_alloc _)
 have hA:=(Bl.fresh w rgC 26).new (.cells #[.bool false,.slice none 0 0,.slice none 0 0,.int .i64 0,.bool false,.int .u64 0,.slice none 0 0,.slice none 0 0] 45)
 have hR:=Bl.fresh' (G:=w.heap.size+1) (w.alloc (.cells #[.int .i64 2,.slice none 0 0] 26)) [.bool false,.slice none 0 0,.slice none 0 0,.int .i64 0,.bool false,.int .u64 0,.slice none 0 0,.slice none 0 0] 45 (by simp)
 have hsz:((w.alloc (.cells #[.int .i64 2,.slice none 0 0] 26)).alloc (.cells #[.bool false,.slice none 0 0,.slice none 0 0,.int .i64 0,.bool false,.int .u64 0,.slice none 0 0,.slice none 0 0] 45)).heap.size=w.heap.size+2:=by simp
 go_enter Tryz.func22,Tryz.ntmps22
 go_upto_region 1 with fail
 obtain ⟨W0,hW0⟩:∃ W0,W0=((w.alloc (.cells #[.int .i64 2,.slice none 0 0] 26)).alloc (.cells #[.bool false,.slice none 0 0,.slice none 0 0,.int .i64 0,.bool false,.int .u64 0,.slice none 0 0,.slice none 0 0] 45)):=⟨_,rfl⟩
 rw [←hW0] at hA hR hsz hb0
 have hbX:Below W0.heap.size W0 (W0.alloc (.cells #[.bool false,.slice none 0 0,.slice none 0 0,.int .i64 0,.bool false,.int .u64 0,.slice none 0 0,.slice none 0 0] 45)):=below_alloc _
 have hX:=Bl.fresh W0 [.bool false,.slice none 0 0,.slice none 0 0,.int .i64 0,.bool false,.int .u64 0,.slice none 0 0,.slice none 0 0] 45
 replace hA:=hA.next hbX
 replace hR:=hR.next hbX
 go_upto_region 2 with ((with_reducible refine wp_storeVTw rfl _ _ rfl _ _ ?_ (some 0) ?_ ?_ ?_); exact rfl; exact rfl; exact rfl)
 have hb1:=below_chain hb0 hbX
 rw [hsz] at hX
 clear hb0 hbX
 subst hW0
 obtain ⟨r0,r1⟩:=hA.two
 go_wp2_with fail
 refine (rValid3_any _).mono ?_; rintro e w2 ⟨rfl,hb2⟩
 clear r0 r1
 replace hA:=hA.next hb2
 replace hR:=hR.next hb2
 replace hX:=hX.next hb2
 have hb:=below_chain hb1 hb2
 obtain ⟨r0,r1⟩:=hA.two
 have x4:=hX.cell (i:=4) rfl
 have x4f:=hX.free 4
 have hX2:Bl (w.heap.size+2) (twC none) 45 (w2.setCell ⟨w.heap.size+2,4,none⟩ (.bool true)):=hX.put 4 (.bool true)
 have hF2:Fr (fun k=>k=w.heap.size+2) w2 (w2.setCell ⟨w.heap.size+2,4,none⟩ (.bool true)):=Fr.set (T:=fun k=>k=w.heap.size+2) w2 (p:=⟨w.heap.size+2,4,none⟩) rfl _
 have hR2:=hR.fr hF2 (by omega)
 have hXc:=hX2.cs
 have hb3:=hb.trans (hF2.below (fun k e=>by omega) hb.size)
 clear hb1 hb2 hA hR hX hF2
 go_wp2_with fail
 refine wp_loop_rounds 1 ?_
 rw [rounds_succ]
 go_wp2_with (first | ((with_reducible refine wp_loadTw rfl _ rfl (w.heap.size+2) 0 ?_ none hXc ?_); exact rfl) | ((with_reducible refine wp_storeBTw rfl _ _ rfl (w.heap.size+1) 45 _ hR2 ?_ none rfl ?_ ?_); exact rfl; exact rfl; intro w9 hR9 hfr9))
 exact bodyPost_ret (results_cellC1 rfl _ _ (w.heap.size+1) (twC none) _ rfl hR9.cs Tryz.underlying45 rfl Tryz.sizeTw) rfl ⟨rfl,hb3.trans (hfr9.below (fun k e=>by omega) hb3.size)⟩
theorem exec_loadRat {dst:Option Tmp} {ty:TypeId} {pos:String} {after:Array Edge} {guard:Option (Nat×Bool)} {x:Operand} {a:Act} {w:World}
  (b off:Nat) (hx:a.eval x=.pointer (some ⟨b,off,none⟩)) (hc:Cs w b off zqC):(execOp a.eval ⟨dst,.load 41 x,ty,pos,after,guard⟩).run Tryz.prog w=.ok (.value (.agg zqC.toArray)) w :=
 exec_loadC _ x rfl b off hx zqC hc _ Tryz.underlying41 rfl Tryz.sizeRat
theorem tw_rat {w:World} {b:Nat} {v:Tw} (h:Cs w b 0 (twC v)):Cs w b 0 zqC:=fun c u hu=>h c u (by
 match c,hu with
 | 0,hu=>exact hu
 | 1,hu=>exact hu
 | 2,hu=>exact hu
 | c+3,hu=>simp at hu)
set_option maxRecDepth 100000 in
set_option maxHeartbeats 2000000 in
theorem rTake_any (v:Tw) (hv:TwOk v) (w:World):Calls Tryz.prog 114 #[.agg #[.int .i64 2,.slice none 0 0],.agg #[.bool false,.slice none 0 0,.slice none 0 0,.int .i64 (tc (v):Int),.bool (ti (v)),.int .u64 0,.slice none 0 0,.slice none 0 0]] w fun e w'=>e=.returned (.agg #[.bool false,.slice none 0 0,.slice none 0 0,.int .i64 (tc (v):Int),.bool (ti (v)),.int .u64 0,.slice none 0 0,.slice none 0 0])∧Below w.heap.size w w':=by
 obtain ⟨hb0,hA,hB⟩:=ring_box w (tc (v):Int) (ti (v))
 have hbR:=below_alloc (w:=((w.alloc (.cells #[.int .i64 2,.slice none 0 0] 26)).alloc (.cells #[.bool false,.slice none 0 0,.slice none 0 0,.int .i64 (tc (v):Int),.bool (ti (v)),.int .u64 0,.slice none 0 0,.slice none 0 0] 45))) (.cells #[.bool false,.slice none 0 0,.slice none 0 0,.int .i64 0,.bool false,.int .u64 0,.slice none 0 0,.slice none 0 0] 45)
 have hR:=Bl.fresh' (G:=w.heap.size+2) ((w.alloc (.cells #[.int .i64 2,.slice none 0 0] 26)).alloc (.cells #[.bool false,.slice none 0 0,.slice none 0 0,.int .i64 (tc (v):Int),.bool (ti (v)),.int .u64 0,.slice none 0 0,.slice none 0 0] 45)) [.bool false,.slice none 0 0,.slice none 0 0,.int .i64 0,.bool false,.int .u64 0,.slice none 0 0,.slice none 0 0] 45 (by simp)
 replace hA:=hA.next hbR
 replace hB:=hB.next hbR
 replace hb0:=below_chain hb0 hbR
 obtain ⟨r0,r1⟩:=hA.two
 obtain ⟨⟨x0,x1,x2,x3⟩,x4,x5,x6,x7⟩:=hB.eight
 clear hbR
 go_enter Tryz.func114,Tryz.ntmps114
 go_wp2_with fail
 refine (rCheck_any v hv _).mono ?_; rintro e w1 ⟨rfl,hb1⟩
 have hBx:Bl (w.heap.size+1) (twC v) 45 w1:=hB.next hb1
 have hRx:=hR.next hb1
 have hbx:=below_chain hb0 hb1
 clear r0 r1 x0 x1 x2 x3 x4 x5 x6 x7 hA hB hR hb0 hb1
 go_upto_region 3 with fail
 have hdr:=(Below.refl w1.heap.size w1).drew
 replace hbx:=below_chain hbx hdr
 replace hBx:=hBx.next hdr
 replace hRx:=hRx.next hdr
 have hS:Cs w1.drew (w.heap.size+1) 0 (twC v):=hBx.cs
 refine wp_region_D (fun w'=>Cs w' (w.heap.size+1) 0 (twC v)) [14] (by kernel_rfl) ?_
 refine wpTDp (some 13) (i:=0) rfl rfl hS ?_
 refine wpTD (some 14) (i:=1) (v:=?_) rfl rfl (Or.inl ⟨by rfl,?_⟩) hS ?_
 rotate_left
 ·intro wz hw; obtain hw:=hw; refine exec_loadRat (w.heap.size+1) 0 ?_ (tw_rat hw); go_simp
 refine wpTDp (some 16) (i:=3) rfl rfl hS ?_
 refine wpTD (some 17) (i:=4) (v:=?_) rfl rfl (Or.inl ⟨by rfl,?_⟩) hS ?_
 rotate_left
 ·intro wz hw; obtain hw:=hw; refine exec_load1 (w.heap.size+1) 3 ?_ (.int .i64 (tc (v):Int)) (by have h:=hw 3 _ rfl; simpa using h) _ Tryz.underlying3 rfl; go_simp
 refine wpTDp (some 18) (i:=5) rfl rfl hS ?_
 refine wpTD (some 19) (i:=6) (v:=?_) rfl rfl (Or.inl ⟨by rfl,?_⟩) hS ?_
 rotate_left
 ·intro wz hw; obtain hw:=hw; refine exec_load1 (w.heap.size+1) 4 ?_ (.bool (ti (v))) (by have h:=hw 4 _ rfl; simpa using h) _ Tryz.underlying4 rfl; go_simp
 refine wpTDp (some 20) (i:=7) rfl rfl hS ?_
 refine wpTD (some 21) (i:=8) (v:=?_) rfl rfl (Or.inl ⟨by rfl,?_⟩) hS ?_
 rotate_left
 ·intro wz hw; obtain hw:=hw; refine exec_load1 (w.heap.size+1) 5 ?_ (.int .u64 0) (by have h:=hw 5 _ rfl; simpa using h) _ Tryz.underlying42 rfl; go_simp
 refine wpTDp (some 22) (i:=9) rfl rfl hS ?_
 refine wpTD (some 23) (i:=10) (v:=?_) rfl rfl (Or.inl ⟨by rfl,?_⟩) hS ?_
 rotate_left
 ·intro wz hw; obtain hw:=hw; refine exec_load1 (w.heap.size+1) 6 ?_ (.slice none 0 0) (by have h:=hw 6 _ rfl; simpa using h) _ Tryz.underlying43 rfl; go_simp
 refine wpAnyD_two (i:=2) (j:=13) ?_ rfl rfl (fun KK hKK=>?_) (fun KK hKK=>?_)
 ·kernel_rfl
 ·skip
  go_simp
  go_at_call 153
  refine (rTake1_any _).mono ?_; rintro e w2 ⟨rfl,hb2⟩
  replace hBx:=hBx.next hb2
  replace hRx:=hRx.next hb2
  replace hbx:=below_chain hbx hb2
  try replace hGx:=hGx.next hb2
  try go_simp
  refine hKK _ _ ⟨fun _=>(hBx.cs),?_⟩; clear hKK KK
  refine wpAnyD_two (i:=11) (j:=13) ?_ rfl rfl (fun KK hKK=>?_) (fun KK hKK=>?_)
  ·kernel_rfl
  ·skip
   go_simp
   go_at_call 154
   refine (rTake2_any _).mono ?_; rintro e w3 ⟨rfl,rfl⟩
   try go_simp
   refine hKK _ _ ⟨fun _=>(hBx.cs),?_⟩; clear hKK KK
   refine wpTDp (some 25) (i:=12) rfl rfl (hBx.cs) ?_
   refine wpAnyD_one (i:=13) (by kernel_rfl) rfl (fun KK hKK=>?_)
   rw [if_pos (by kernel_rfl)]
   with_reducible refine op_allocB 45 ?_ [.bool false,.slice none 0 0,.slice none 0 0,.int .i64 0,.bool false,.int .u64 0,.slice none 0 0,.slice none 0 0] ?_ ?_
   ·rfl
   ·exact fun _=>by kernel_rfl
   intro w6 G6 hGx hb6 hz6
   have hG6:w.heap.size+2<G6:=Nat.lt_of_lt_of_le hRx.lt hz6
   replace hBx:=hBx.next hb6
   replace hRx:=hRx.next hb6
   replace hbx:=below_chain hbx hb6
   refine hKK _ _ ⟨fun _=>(hBx.cs),?_⟩; clear hKK KK
   refine wpAnyD_one (i:=14) (by kernel_rfl) rfl (fun KK hKK=>?_)
   rw [if_pos (by kernel_rfl)]
   with_reducible refine op_storeB 45 (.tmp 5) (.tmp 25) ?_ G6 45 [.bool false,.slice none 0 0,.slice none 0 0,.int .i64 0,.bool false,.int .u64 0,.slice none 0 0,.slice none 0 0] hGx ?_ (twC v) ?_ ?_ ?_ ?_ ?_
   ·rfl
   ·go_simp
   ·rfl
   ·go_simp
   ·exact twC_1 v
   ·exact Tryz.sizeTw
   intro w7 hG7 hfr7
   refine hKK _ _ ⟨fun hn=>absurd (by simp) hn,?_⟩; clear hKK KK
   refine wpAnyD_done (by kernel_rfl) ?_ _
   have hB7:=hBx.fr hfr7 (by omega)
   have hR7:=hRx.fr hfr7 (by omega)
   replace hbx:=hbx.trans (hfr7.below (fun k e=>by omega) hbx.size)
   have x7:=hB7.cell (i:=7) rfl
   have hGc:=hG7.cs
   clear hBx hRx hfr7 hB7
   go_wp2_with fail
   refine wp_loop_rounds 1 ?_
   rw [rounds_succ]
   go_wp2_with (first | ((with_reducible refine wp_loadTw rfl _ rfl G6 0 ?_ v hGc ?_); exact rfl) | ((with_reducible refine wp_storeBTw rfl _ _ rfl (w.heap.size+2) 45 _ hR7 ?_ v rfl ?_ ?_); exact rfl; exact rfl; intro w9 hR9 hfr9))
   exact bodyPost_ret (results_cellC1 rfl _ _ (w.heap.size+2) (twC v) _ rfl hR9.cs Tryz.underlying45 rfl Tryz.sizeTw) rfl ⟨rfl,hbx.trans (hfr9.below (fun k e=>by omega) hbx.size)⟩
  ·skip
   rw [if_pos (by kernel_rfl)]
   with_reducible refine op_allocB 45 ?_ [.bool false,.slice none 0 0,.slice none 0 0,.int .i64 0,.bool false,.int .u64 0,.slice none 0 0,.slice none 0 0] ?_ ?_
   ·rfl
   ·exact fun _=>by kernel_rfl
   intro w6 G6 hGx hb6 hz6
   have hG6:w.heap.size+2<G6:=Nat.lt_of_lt_of_le hRx.lt hz6
   replace hBx:=hBx.next hb6
   replace hRx:=hRx.next hb6
   replace hbx:=below_chain hbx hb6
   refine hKK _ _ ⟨fun _=>(hBx.cs),?_⟩; clear hKK KK
   refine wpAnyD_one (i:=11) (by kernel_rfl) rfl (fun KK hKK=>?_)
   go_simp
   go_at_call 154
   refine (rTake2_any _).mono ?_; rintro e w3 ⟨rfl,rfl⟩
   try go_simp
   refine hKK _ _ ⟨fun _=>(hBx.cs),?_⟩; clear hKK KK
   refine wpTDp (some 25) (i:=12) rfl rfl (hBx.cs) ?_
   refine wpAnyD_one (i:=14) (by kernel_rfl) rfl (fun KK hKK=>?_)
   rw [if_pos (by kernel_rfl)]
   with_reducible refine op_storeB 45 (.tmp 5) (.tmp 25) ?_ G6 45 [.bool false,.slice none 0 0,.slice none 0 0,.int .i64 0,.bool false,.int .u64 0,.slice none 0 0,.slice none 0 0] hGx ?_ (twC v) ?_ ?_ ?_ ?_ ?_
   ·rfl
   ·go_simp
   ·rfl
   ·go_simp
   ·exact twC_1 v
   ·exact Tryz.sizeTw
   intro w7 hG7 hfr7
   refine hKK _ _ ⟨fun hn=>absurd (by simp) hn,?_⟩; clear hKK KK
   refine wpAnyD_done (by kernel_rfl) ?_ _
   have hB7:=hBx.fr hfr7 (by omega)
   have hR7:=hRx.fr hfr7 (by omega)
   replace hbx:=hbx.trans (hfr7.below (fun k e=>by omega) hbx.size)
   have x7:=hB7.cell (i:=7) rfl
   have hGc:=hG7.cs
   clear hBx hRx hfr7 hB7
   go_wp2_with fail
   refine wp_loop_rounds 1 ?_
   rw [rounds_succ]
   go_wp2_with (first | ((with_reducible refine wp_loadTw rfl _ rfl G6 0 ?_ v hGc ?_); exact rfl) | ((with_reducible refine wp_storeBTw rfl _ _ rfl (w.heap.size+2) 45 _ hR7 ?_ v rfl ?_ ?_); exact rfl; exact rfl; intro w9 hR9 hfr9))
   exact bodyPost_ret (results_cellC1 rfl _ _ (w.heap.size+2) (twC v) _ rfl hR9.cs Tryz.underlying45 rfl Tryz.sizeTw) rfl ⟨rfl,hbx.trans (hfr9.below (fun k e=>by omega) hbx.size)⟩
 ·skip
  rw [if_pos (by kernel_rfl)]
  with_reducible refine op_allocB 45 ?_ [.bool false,.slice none 0 0,.slice none 0 0,.int .i64 0,.bool false,.int .u64 0,.slice none 0 0,.slice none 0 0] ?_ ?_
  ·rfl
  ·exact fun _=>by kernel_rfl
  intro w6 G6 hGx hb6 hz6
  have hG6:w.heap.size+2<G6:=Nat.lt_of_lt_of_le hRx.lt hz6
  replace hBx:=hBx.next hb6
  replace hRx:=hRx.next hb6
  replace hbx:=below_chain hbx hb6
  refine hKK _ _ ⟨fun _=>(hBx.cs),?_⟩; clear hKK KK
  refine wpAnyD_one (i:=2) (by kernel_rfl) rfl (fun KK hKK=>?_)
  go_simp
  go_at_call 153
  refine (rTake1_any _).mono ?_; rintro e w2 ⟨rfl,hb2⟩
  replace hBx:=hBx.next hb2
  replace hRx:=hRx.next hb2
  replace hbx:=below_chain hbx hb2
  try replace hGx:=hGx.next hb2
  try go_simp
  refine hKK _ _ ⟨fun _=>(hBx.cs),?_⟩; clear hKK KK
  refine wpAnyD_one (i:=11) (by kernel_rfl) rfl (fun KK hKK=>?_)
  go_simp
  go_at_call 154
  refine (rTake2_any _).mono ?_; rintro e w3 ⟨rfl,rfl⟩
  try go_simp
  refine hKK _ _ ⟨fun _=>(hBx.cs),?_⟩; clear hKK KK
  refine wpTDp (some 25) (i:=12) rfl rfl (hBx.cs) ?_
  refine wpAnyD_one (i:=14) (by kernel_rfl) rfl (fun KK hKK=>?_)
  rw [if_pos (by kernel_rfl)]
  with_reducible refine op_storeB 45 (.tmp 5) (.tmp 25) ?_ G6 45 [.bool false,.slice none 0 0,.slice none 0 0,.int .i64 0,.bool false,.int .u64 0,.slice none 0 0,.slice none 0 0] hGx ?_ (twC v) ?_ ?_ ?_ ?_ ?_
  ·rfl
  ·go_simp
  ·rfl
  ·go_simp
  ·exact twC_1 v
  ·exact Tryz.sizeTw
  intro w7 hG7 hfr7
  refine hKK _ _ ⟨fun hn=>absurd (by simp) hn,?_⟩; clear hKK KK
  refine wpAnyD_done (by kernel_rfl) ?_ _
  have hB7:=hBx.fr hfr7 (by omega)
  have hR7:=hRx.fr hfr7 (by omega)
  replace hbx:=hbx.trans (hfr7.below (fun k e=>by omega) hbx.size)
  have x7:=hB7.cell (i:=7) rfl
  have hGc:=hG7.cs
  clear hBx hRx hfr7 hB7
  go_wp2_with fail
  refine wp_loop_rounds 1 ?_
  rw [rounds_succ]
  go_wp2_with (first | ((with_reducible refine wp_loadTw rfl _ rfl G6 0 ?_ v hGc ?_); exact rfl) | ((with_reducible refine wp_storeBTw rfl _ _ rfl (w.heap.size+2) 45 _ hR7 ?_ v rfl ?_ ?_); exact rfl; exact rfl; intro w9 hR9 hfr9))
  exact bodyPost_ret (results_cellC1 rfl _ _ (w.heap.size+2) (twC v) _ rfl hR9.cs Tryz.underlying45 rfl Tryz.sizeTw) rfl ⟨rfl,hbx.trans (hfr9.below (fun k e=>by omega) hbx.size)⟩
end
end Go.Proofs.YtnapapijhhldpaaGreatDoor

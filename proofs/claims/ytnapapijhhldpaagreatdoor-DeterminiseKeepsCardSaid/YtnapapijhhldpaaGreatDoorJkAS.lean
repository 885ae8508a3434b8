/-
  Texts joined by program: Tra, Trb, Trc. No condition of its own.
-/
import Derived.Test.YtnapapijhhldpaaGreatDoorJkAR
namespace Go.Proofs.YtnapapijhhldpaaGreatDoor
set_option linter.unusedSimpArgs false
set_option linter.unusedVariables false
set_option maxRecDepth 100000
set_option maxHeartbeats 4000000
section
open Go.RowKit
theorem q5p (w:World):Calls Tryz.prog 83 #[.slice none 0 0,.slice none 0 0] w fun e w'=>e=.returned (.bool true)/\w=w':=by
 go_enter Tryz.func83,Tryz.ntmps83
 go_wp2_with fail
 refine wp_loop_rounds 1 ?_
 rw [rounds_succ]
 go_wp2_with fail
 go_ret
 exact ⟨rfl,rfl⟩
theorem q5s (w:World):Calls Tryz.prog 47 #[.agg #[.bool false,.slice none 0 0,.slice none 0 0],.agg #[.bool false,.slice none 0 0,.slice none 0 0]] w fun e w'=>e=.returned (.bool true)/\Below w.heap.size w w':=by
 have hb0:Below w.heap.size w ((w.alloc (.cells #[.bool false,.slice none 0 0,.slice none 0 0] 41)).alloc (.cells #[.bool false,.slice none 0 0,.slice none 0 0] 41)):=qQ (qJ _) (qJ _)
 go_enter Tryz.func47,Tryz.ntmps47
 go_wp2_with fail
 refine (q5p _).mono ?_; rintro e w1 ⟨rfl,rfl⟩
 go_wp2_with fail
 refine (q5p _).mono ?_; rintro e w2 ⟨rfl,rfl⟩
 go_wp2_with fail
 go_ret
 exact ⟨rfl,hb0⟩
theorem j0k (w:World):Calls Tryz.prog 48 #[.slice none 0 0,.slice none 0 0] w fun e w'=>e=.returned (.bool true)/\w=w':=by
 go_enter Tryz.func48,Tryz.ntmps48
 go_wp2_with fail
 refine wp_loop_rounds 1 ?_
 rw [rounds_succ]
 go_wp2_with fail
 go_ret
 exact ⟨rfl,rfl⟩
theorem j0j (c d:Nat) (i j:Bool) (w:World):Calls Tryz.prog 14 #[.agg #[.bool false,.slice none 0 0,.slice none 0 0,.int .i64 (c:Int),.bool i,.int .u64 0,.slice none 0 0,.slice none 0 0],.agg #[.bool false,.slice none 0 0,.slice none 0 0,.int .i64 (d:Int),.bool j,.int .u64 0,.slice none 0 0,.slice none 0 0]] w fun e w'=>e=.returned (.bool (decide (c=d/\i=j)))/\Below w.heap.size w w':=by
 obtain ⟨hb0,hA,hB⟩:=q2e w c d i j
 obtain ⟨⟨x0,x1,x2,x3⟩,x4,x5,x6,x7⟩:=hA.eight
 obtain ⟨⟨y0,y1,y2,y3⟩,y4,y5,y6,y7⟩:=hB.eight
 go_enter Tryz.func14,Tryz.ntmps14
 go_wp2_with fail
 refine (q5s _).mono ?_; rintro e w1 ⟨rfl,hb1⟩
 clear x0 x1 x2 x3 x4 x5 x6 x7 y0 y1 y2 y3 y4 y5 y6 y7
 replace hA:=hA.next hb1
 replace hB:=hB.next hb1
 have hb:=qQ hb0 hb1
 obtain ⟨⟨x0,x1,x2,x3⟩,x4,x5,x6,x7⟩:=hA.eight
 obtain ⟨⟨y0,y1,y2,y3⟩,y4,y5,y6,y7⟩:=hB.eight
 clear hb0 hb1 hA hB
 by_cases h:c=d
 ·subst h
  cases i<;>cases j
  case false.true | true.false =>
   go_wp2_with fail
   go_ret
   exact ⟨by simp,hb⟩
  all_goals
   go_wp2_with fail
   refine (j0k _).mono ?_; rintro e w2 ⟨rfl,rfl⟩
   go_wp2_with fail
   refine wp_loop_rounds 1 ?_
   rw [rounds_succ]
   go_wp2_with fail
   go_ret
   exact ⟨by simp,hb⟩
 ·have c1:((c:Int)==(d:Int))=false:=by rw [beq_eq_false_iff_ne]; omega
  have c2:(c==d)=false:=by rw [beq_eq_false_iff_ne]; omega
  have c3:((c:Int) != (d:Int))=true:=by simp only [bne,c1]; rfl
  have c4:(c != d)=true:=by simp only [bne,c2]; rfl
  have hdd:Hid (decide (c=d/\i=j)=false):=hid (by simp [h])
  clear h
  go_wp2_with fail
  go_ret
  exact ⟨by rw [hdd.out]; rfl,hb⟩
theorem q5u (v u:Tw) (w:World):Calls Tryz.prog 14 #[.agg #[.bool false,.slice none 0 0,.slice none 0 0,.int .i64 (tc (v):Int),.bool (ti (v)),.int .u64 0,.slice none 0 0,.slice none 0 0],.agg #[.bool false,.slice none 0 0,.slice none 0 0,.int .i64 (tc (u):Int),.bool (ti (u)),.int .u64 0,.slice none 0 0,.slice none 0 0]] w fun e w'=>e=.returned (.bool (decide (v=u)))/\Below w.heap.size w w' :=
 (j0j (tc v) (tc u) (ti v) (ti u) w).mono (by rintro e w' ⟨rfl,hb⟩; exact ⟨by rw [decide_eq_decide.2 ⟨fun h=>z0z h.1 h.2,fun h=>by rw [h]; exact ⟨rfl,rfl⟩⟩],hb⟩)
theorem kU (w:World):Calls Tryz.prog 49 #[.agg #[.int .i64 2,.slice none 0 0]] w fun e w'=>e=.returned (.bool true)/\Below w.heap.size w w':=by
 have hb0:Below w.heap.size w (w.alloc (.cells #[.int .i64 2,.slice none 0 0] 26)):=qJ _
 go_enter Tryz.func49,Tryz.ntmps49
 go_wp2_with fail
 go_ret
 exact ⟨rfl,hb0⟩
theorem q8c (c:Nat) (i:Bool) (hc:c<=1099511627776) (hi:i=true->c=0) (w:World):Calls Tryz.prog 84 #[.int .i64 2,.agg #[.bool false,.slice none 0 0,.slice none 0 0,.int .i64 (c:Int),.bool i,.int .u64 0,.slice none 0 0,.slice none 0 0]] w fun e w'=>e=.returned (.bool true)/\Below w.heap.size w w':=by
 have hb0:Below w.heap.size w (w.alloc (.cells #[.bool false,.slice none 0 0,.slice none 0 0,.int .i64 (c:Int),.bool i,.int .u64 0,.slice none 0 0,.slice none 0 0] 45)):=qJ _
 have hA:=Bl.fresh w [.bool false,.slice none 0 0,.slice none 0 0,.int .i64 (c:Int),.bool i,.int .u64 0,.slice none 0 0,.slice none 0 0] 45
 have c1:(0:Int)<=(c:Int):=by omega
 have c2:(c:Int)<=1099511627776:=by omega
 have c1':decide ((0:Int)<=(c:Int))=true:=decide_eq_true c1
 have c2':decide ((c:Int)<=1099511627776)=true:=decide_eq_true c2
 go_enter Tryz.func84,Tryz.ntmps84
 go_wp2_with fail
 refine (q5s _).mono ?_; rintro e w1 ⟨rfl,hb1⟩
 replace hA:=hA.next hb1
 have hb:=qQ hb0 hb1
 obtain ⟨⟨x0,x1,x2,x3⟩,x4,x5,x6,x7⟩:=hA.eight
 clear hb0 hb1 hA
 cases i with
 | false =>
  clear hi
  go_wp2_with fail
  go_ret
  exact ⟨rfl,hb⟩
 | true =>
  have hc0:=hi rfl
  subst hc0
  clear hi
  go_wp2_with fail
  go_ret
  exact ⟨rfl,hb⟩
theorem q3b (v:Tw) (hv:vW v) (w:World):Calls Tryz.prog 53 #[.agg #[.int .i64 2,.slice none 0 0],.agg #[.bool false,.slice none 0 0,.slice none 0 0,.int .i64 (tc (v):Int),.bool (ti (v)),.int .u64 0,.slice none 0 0,.slice none 0 0]] w fun e w'=>e=.returned (.bool true)/\Below w.heap.size w w':=by
 obtain ⟨hb0,hA,hB⟩:=vP w (tc (v):Int) (ti (v))
 obtain ⟨r0,r1⟩:=hA.two
 go_enter Tryz.func53,Tryz.ntmps53
 go_wp2_with fail
 refine (kU _).mono ?_; rintro e w1 ⟨rfl,hb1⟩
 replace hA:=hA.next hb1
 replace hB:=hB.next hb1
 have hb:=qQ hb0 hb1
 clear r0 r1
 obtain ⟨r0,r1⟩:=hA.two
 obtain ⟨⟨x0,x1,x2,x3⟩,x4,x5,x6,x7⟩:=hB.eight
 clear hb0 hb1 hA hB
 go_wp2_with fail
 refine (q8c (tc v) (ti v) hv (fun h=>j2w h) _).mono ?_; rintro e w2 ⟨rfl,hb2⟩
 go_wp2_with fail
 go_ret
 exact ⟨rfl,qQ hb hb2⟩
end
section
open Go.RowKit
abbrev zqC:List Value:=[.bool false,.slice none 0 0,.slice none 0 0]
theorem Tryz.sizeRat:(Tryz.prog.info? 41).map (·.size)=some 3:=by kernel_rfl
theorem z5y:∀ v∈zqC,v.oneCell'=true:=fun v hv=>by
 simp only [List.mem_cons,List.not_mem_nil,or_false] at hv
 rcases hv with rfl | rfl | rfl<;>rfl
theorem j0h (w:World):Calls Tryz.prog 126 #[.slice none 0 0] w fun e w'=>e=.returned (.bool false)/\w=w':=by
 go_enter Tryz.func126,Tryz.ntmps126
 go_wp2_with fail
 go_ret
 exact ⟨rfl,rfl⟩
theorem j0e (w:World):Calls Tryz.prog 120 #[.agg #[.bool false,.slice none 0 0,.slice none 0 0]] w fun e w'=>e=.returned (.bool true)/\Below w.heap.size w w':=by
 have hb0:Below w.heap.size w (w.alloc (.cells #[.bool false,.slice none 0 0,.slice none 0 0] 41)):=qJ _
 go_enter Tryz.func120,Tryz.ntmps120
 go_wp2_with fail
 refine (j0h _).mono ?_; rintro e w1 ⟨rfl,rfl⟩
 go_wp2_with fail
 go_ret
 exact ⟨rfl,hb0⟩
theorem j0d (w:World):Calls Tryz.prog 123 #[.slice none 0 0] w fun e w'=>e=.returned (.bool true)/\w=w':=by
 go_enter Tryz.func123,Tryz.ntmps123
 go_wp2_with fail
 refine wp_loop_rounds 1 ?_
 rw [rounds_succ]
 go_wp2_with fail
 go_ret
 exact ⟨rfl,rfl⟩
theorem q3a (w:World):Calls Tryz.prog 154 #[.slice none 0 0] w fun e w'=>e=.returned (.slice none 0 0)/\w=w':=by
 go_enter Tryz.func154,Tryz.ntmps154
 go_wp2_with fail
 refine (j0d _).mono ?_; rintro e w1 ⟨rfl,rfl⟩
 go_wp2_with fail
 refine wp_loop_rounds 1 ?_
 rw [rounds_succ]
 go_wp2_with fail
 go_ret
 exact ⟨rfl,rfl⟩
theorem q5r (w:World):Calls Tryz.prog 153 #[.agg #[.bool false,.slice none 0 0,.slice none 0 0]] w fun e w'=>e=.returned (.agg #[.bool false,.slice none 0 0,.slice none 0 0])/\Below w.heap.size w w':=by
 have hb0:Below w.heap.size w ((w.alloc (.cells zqC.toArray 41)).alloc (.cells zqC.toArray 41)):=qQ (qJ _) (qJ _)
 have hA:=(Bl.fresh w zqC 41).new (.cells zqC.toArray 41)
 have hR:=Bl.fresh' (G:=w.heap.size+1) (w.alloc (.cells zqC.toArray 41)) zqC 41 (by simp)
 go_enter Tryz.func153,Tryz.ntmps153
 go_wp2_with fail
 refine (j0e _).mono ?_; rintro e w1 ⟨rfl,hb1⟩
 replace hA:=hA.next hb1
 replace hR:=hR.next hb1
 have hb:=qQ hb0 hb1
 clear hb0 hb1
 go_upto_region 3 with fail
 have hdr:=(Below.refl w1.heap.size w1).drew
 have hbd:=qQ hb hdr
 have hA2:=hA.next hdr
 have hR2:=hR.next hdr
 have hS:Cs w1.drew w.heap.size 0 zqC:=hA2.cs
 refine qV (fun w'=>Cs w' w.heap.size 0 zqC) [9] (by kernel_rfl) ?_
 refine wAp 0 (some 7) rfl rfl hS ?_
 refine wAl 1 (some 8) (v:=?_) rfl rfl ?_ hS ?_
 rotate_left
 ·intro wz hw; obtain hw:=hw; refine qK w.heap.size 0 ?_ (.bool false) (by have h:=hw 0 _ rfl; simpa using h) _ Tryz.underlying4 rfl; go_simp
 refine wAp 2 (some 9) rfl rfl hS ?_
 refine wAl 3 (some 10) (v:=?_) rfl rfl ?_ hS ?_
 rotate_left
 ·intro wz hw; obtain hw:=hw; refine qK w.heap.size 1 ?_ (.slice none 0 0) (by have h:=hw 1 _ rfl; simpa using h) _ Tryz.underlying39 rfl; go_simp
 refine wAp 5 (some 12) rfl rfl hS ?_
 refine wAl 6 (some 13) (v:=?_) rfl rfl ?_ hS ?_
 rotate_left
 ·intro wz hw; obtain hw:=hw; refine qK w.heap.size 2 ?_ (.slice none 0 0) (by have h:=hw 2 _ rfl; simpa using h) _ Tryz.underlying39 rfl; go_simp
 refine wpO (i:=4) rfl fun KK hKK=>?_
 go_simp
 refine hKK _ _ ⟨fun _=>(hS),?_⟩; clear hKK KK
 refine wpO (i:=7) rfl fun KK hKK=>?_
 go_simp
 refine hKK _ _ ⟨fun _=>((hS)),?_⟩; clear hKK KK
 refine wAp 8 (some 15) rfl rfl ((hS)) ?_
 refine wpO (i:=9) rfl fun KK hKK=>?_
 rw [if_pos (by rfl)]
 with_reducible refine qB 41 (.tmp 2) (.tmp 15) ?_ (w.heap.size+1) 41 zqC hR2 ?_ zqC ?_ ?_ ?_ ?_ ?_
 ·rfl
 ·rfl
 ·rfl
 ·go_simp
 ·exact z5y
 ·exact Tryz.sizeRat
 intro w9 hR9 hfr9
 refine lN hKK ?_; clear hKK KK
 refine qZ (by kernel_rfl) ?_ _
 go_wp2_with fail
 exact bodyPost_ret (qN rfl _ _ (w.heap.size+1) zqC _ rfl hR9.cs Tryz.underlying41 rfl Tryz.sizeRat) rfl ⟨rfl,hbd.trans (hfr9.below (fun k e=>by omega) hbd.size)⟩
theorem jJ {ops:Array Oper} {rest:List Oper} {o:Oper} {a:Act} {w:World} {Q:EP} (hgd:o.guard=none) (x y:Operand) (ho:o.op=.store 45 x y)
  (G:Nat) (T:TypeId) (old:List Value) (hG:Bl G old T w) (hx:a.eval x=.pointer (some ⟨G,0,none⟩)) (v:Tw) (hk:old.length=8) (hy:a.eval y=.agg (twC v).toArray)
  (h:∀ w',Bl G (twC v) T w'->Fr (fun k=>k=G) w w'->wpList Tryz.prog ops Q rest (a.put o.dst undef) w'):wpList Tryz.prog ops Q (o::rest) a w :=
 wpList_plain hgd fun _ hK=>qB _ x y ho G T old hG hx (twC v) (by rw [hk]; rfl) hy (q0f v) Tryz.sizeTw fun w' h2 h3=>hK _ _ (h w' h2 h3)
theorem j5p (w:World):Calls Tryz.prog 22 #[.agg #[.int .i64 2,.slice none 0 0]] w fun e w'=>e=.returned (.agg #[.bool false,.slice none 0 0,.slice none 0 0,.int .i64 (tc (none):Int),.bool (ti (none)),.int .u64 0,.slice none 0 0,.slice none 0 0])/\Below w.heap.size w w':=by
 have hb0:Below w.heap.size w ((w.alloc (.cells #[.int .i64 2,.slice none 0 0] 26)).alloc (.cells #[.bool false,.slice none 0 0,.slice none 0 0,.int .i64 0,.bool false,.int .u64 0,.slice none 0 0,.slice none 0 0] 45)):=qQ (qJ _) (qJ _)
 have hA:=(Bl.fresh w rgC 26).new (.cells #[.bool false,.slice none 0 0,.slice none 0 0,.int .i64 0,.bool false,.int .u64 0,.slice none 0 0,.slice none 0 0] 45)
 have hR:=Bl.fresh' (G:=w.heap.size+1) (w.alloc (.cells #[.int .i64 2,.slice none 0 0] 26)) [.bool false,.slice none 0 0,.slice none 0 0,.int .i64 0,.bool false,.int .u64 0,.slice none 0 0,.slice none 0 0] 45 (by simp)
 have hsz:((w.alloc (.cells #[.int .i64 2,.slice none 0 0] 26)).alloc (.cells #[.bool false,.slice none 0 0,.slice none 0 0,.int .i64 0,.bool false,.int .u64 0,.slice none 0 0,.slice none 0 0] 45)).heap.size=w.heap.size+2:=by simp
 go_enter Tryz.func22,Tryz.ntmps22
 go_upto_region 1 with fail
 obtain ⟨W0,hW0⟩:∃ W0,W0=((w.alloc (.cells #[.int .i64 2,.slice none 0 0] 26)).alloc (.cells #[.bool false,.slice none 0 0,.slice none 0 0,.int .i64 0,.bool false,.int .u64 0,.slice none 0 0,.slice none 0 0] 45)):=⟨_,rfl⟩
 rw [<-hW0] at hA hR hsz hb0
 have hbX:Below W0.heap.size W0 (W0.alloc (.cells #[.bool false,.slice none 0 0,.slice none 0 0,.int .i64 0,.bool false,.int .u64 0,.slice none 0 0,.slice none 0 0] 45)):=qJ _
 have hX:=Bl.fresh W0 [.bool false,.slice none 0 0,.slice none 0 0,.int .i64 0,.bool false,.int .u64 0,.slice none 0 0,.slice none 0 0] 45
 replace hA:=hA.next hbX
 replace hR:=hR.next hbX
 go_upto_region 2 with ((with_reducible refine zR rfl _ _ rfl _ _ ?_ (some 0) ?_ ?_ ?_); exact rfl; exact rfl; exact rfl)
 have hb1:=qQ hb0 hbX
 rw [hsz] at hX
 clear hb0 hbX
 subst hW0
 obtain ⟨r0,r1⟩:=hA.two
 go_wp2_with fail
 refine (kU _).mono ?_; rintro e w2 ⟨rfl,hb2⟩
 clear r0 r1
 replace hA:=hA.next hb2
 replace hR:=hR.next hb2
 replace hX:=hX.next hb2
 have hb:=qQ hb1 hb2
 obtain ⟨r0,r1⟩:=hA.two
 have x4:=hX.cell (i:=4) rfl
 have x4f:=hX.free 4
 have hX2:Bl (w.heap.size+2) (twC none) 45 (w2.setCell ⟨w.heap.size+2,4,none⟩ (.bool true)):=hX.put 4 (.bool true)
 have hF2:Fr (fun k=>k=w.heap.size+2) w2 (w2.setCell ⟨w.heap.size+2,4,none⟩ (.bool true)):=Fr.set (T:=fun k=>k=w.heap.size+2) w2 (p:=⟨w.heap.size+2,4,none⟩) rfl _
 have hR2:=hR.fr hF2 (by omega)
 have hXc:=hX2.cs
 have hb3:=hb.trans (hF2.below (fun k e=>by omega) hb.size)
 clear hb1 hb2 hA hR hX hF2
 go_wp2_with fail
 refine wp_loop_rounds 1 ?_
 rw [rounds_succ]
 go_wp2_with (first | ((with_reducible refine jB rfl _ rfl (w.heap.size+2) 0 ?_ none hXc ?_); exact rfl) | ((with_reducible refine jJ rfl _ _ rfl (w.heap.size+1) 45 _ hR2 ?_ none rfl ?_ ?_); exact rfl; exact rfl; intro w9 hR9 hfr9))
 exact bodyPost_ret (qN rfl _ _ (w.heap.size+1) (twC none) _ rfl hR9.cs Tryz.underlying45 rfl Tryz.sizeTw) rfl ⟨rfl,hb3.trans (hfr9.below (fun k e=>by omega) hb3.size)⟩
theorem q8y {dst:Option Tmp} {ty:TypeId} {pos:String} {after:Array Edge} {guard:Option (Nat×Bool)} {x:Operand} {a:Act} {w:World}
  (b off:Nat) (hx:a.eval x=.pointer (some ⟨b,off,none⟩)) (hc:Cs w b off zqC):(execOp a.eval ⟨dst,.load 41 x,ty,pos,after,guard⟩).run Tryz.prog w=.ok (.value (.agg zqC.toArray)) w :=
 kZ _ x rfl b off hx zqC hc _ Tryz.underlying41 rfl Tryz.sizeRat
theorem z4k {w:World} {b:Nat} {v:Tw} (h:Cs w b 0 (twC v)):Cs w b 0 zqC:=fun c u hu=>h c u (by
 match c,hu with
 | 0,hu=>exact hu
 | 1,hu=>exact hu
 | 2,hu=>exact hu
 | c+3,hu=>simp at hu)
theorem q0r (v:Tw) (hv:vW v) (w:World):Calls Tryz.prog 114 #[.agg #[.int .i64 2,.slice none 0 0],.agg #[.bool false,.slice none 0 0,.slice none 0 0,.int .i64 (tc (v):Int),.bool (ti (v)),.int .u64 0,.slice none 0 0,.slice none 0 0]] w fun e w'=>e=.returned (.agg #[.bool false,.slice none 0 0,.slice none 0 0,.int .i64 (tc (v):Int),.bool (ti (v)),.int .u64 0,.slice none 0 0,.slice none 0 0])/\Below w.heap.size w w':=by
 obtain ⟨hb0,hA,hB⟩:=vP w (tc (v):Int) (ti (v))
 have hbR:=qJ (w:=((w.alloc (.cells #[.int .i64 2,.slice none 0 0] 26)).alloc (.cells #[.bool false,.slice none 0 0,.slice none 0 0,.int .i64 (tc (v):Int),.bool (ti (v)),.int .u64 0,.slice none 0 0,.slice none 0 0] 45))) (.cells #[.bool false,.slice none 0 0,.slice none 0 0,.int .i64 0,.bool false,.int .u64 0,.slice none 0 0,.slice none 0 0] 45)
 have hR:=Bl.fresh' (G:=w.heap.size+2) ((w.alloc (.cells #[.int .i64 2,.slice none 0 0] 26)).alloc (.cells #[.bool false,.slice none 0 0,.slice none 0 0,.int .i64 (tc (v):Int),.bool (ti (v)),.int .u64 0,.slice none 0 0,.slice none 0 0] 45)) [.bool false,.slice none 0 0,.slice none 0 0,.int .i64 0,.bool false,.int .u64 0,.slice none 0 0,.slice none 0 0] 45 (by simp)
 replace hA:=hA.next hbR
 replace hB:=hB.next hbR
 replace hb0:=qQ hb0 hbR
 obtain ⟨r0,r1⟩:=hA.two
 obtain ⟨⟨x0,x1,x2,x3⟩,x4,x5,x6,x7⟩:=hB.eight
 clear hbR
 go_enter Tryz.func114,Tryz.ntmps114
 go_wp2_with fail
 refine (q3b v hv _).mono ?_; rintro e w1 ⟨rfl,hb1⟩
 have hBx:Bl (w.heap.size+1) (twC v) 45 w1:=hB.next hb1
 have hRx:=hR.next hb1
 have hbx:=qQ hb0 hb1
 clear r0 r1 x0 x1 x2 x3 x4 x5 x6 x7 hA hB hR hb0 hb1
 go_upto_region 3 with fail
 have hdr:=(Below.refl w1.heap.size w1).drew
 replace hbx:=qQ hbx hdr
 replace hBx:=hBx.next hdr
 replace hRx:=hRx.next hdr
 have hS:Cs w1.drew (w.heap.size+1) 0 (twC v):=hBx.cs
 refine qV (fun w'=>Cs w' (w.heap.size+1) 0 (twC v)) [14] (by kernel_rfl) ?_
 refine wAp 0 (some 13) rfl rfl hS ?_
 refine wAl 1 (some 14) (v:=?_) rfl rfl ?_ hS ?_
 rotate_left
 ·intro wz hw; obtain hw:=hw; refine q8y (w.heap.size+1) 0 ?_ (z4k hw); go_simp
 refine wAp 3 (some 16) rfl rfl hS ?_
 refine wAl 4 (some 17) (v:=?_) rfl rfl ?_ hS ?_
 rotate_left
 ·intro wz hw; obtain hw:=hw; refine qK (w.heap.size+1) 3 ?_ (.int .i64 (tc (v):Int)) (by have h:=hw 3 _ rfl; simpa using h) _ Tryz.underlying3 rfl; go_simp
 refine wAp 5 (some 18) rfl rfl hS ?_
 refine wAl 6 (some 19) (v:=?_) rfl rfl ?_ hS ?_
 rotate_left
 ·intro wz hw; obtain hw:=hw; refine qK (w.heap.size+1) 4 ?_ (.bool (ti (v))) (by have h:=hw 4 _ rfl; simpa using h) _ Tryz.underlying4 rfl; go_simp
 refine wAp 7 (some 20) rfl rfl hS ?_
 refine wAl 8 (some 21) (v:=?_) rfl rfl ?_ hS ?_
 rotate_left
 ·intro wz hw; obtain hw:=hw; refine qK (w.heap.size+1) 5 ?_ (.int .u64 0) (by have h:=hw 5 _ rfl; simpa using h) _ Tryz.underlying42 rfl; go_simp
 refine wAp 9 (some 22) rfl rfl hS ?_
 refine wAl 10 (some 23) (v:=?_) rfl rfl ?_ hS ?_
 rotate_left
 ·intro wz hw; obtain hw:=hw; refine qK (w.heap.size+1) 6 ?_ (.slice none 0 0) (by have h:=hw 6 _ rfl; simpa using h) _ Tryz.underlying43 rfl; go_simp
 refine jM (i:=2) (j:=13) ?_ rfl rfl (fun KK hKK=>?_) (fun KK hKK=>?_)
 ·kernel_rfl
 ·skip
  go_simp
  go_at_call 153
  refine (q5r _).mono ?_; rintro e w2 ⟨rfl,hb2⟩
  replace hBx:=hBx.next hb2
  replace hRx:=hRx.next hb2
  replace hbx:=qQ hbx hb2
  try replace hGx:=hGx.next hb2
  try go_simp
  refine hKK _ _ ⟨fun _=>(hBx.cs),?_⟩; clear hKK KK
  refine jM (i:=11) (j:=13) ?_ rfl rfl (fun KK hKK=>?_) (fun KK hKK=>?_)
  ·kernel_rfl
  ·skip
   go_simp
   go_at_call 154
   refine (q3a _).mono ?_; rintro e w3 ⟨rfl,rfl⟩
   try go_simp
   refine hKK _ _ ⟨fun _=>(hBx.cs),?_⟩; clear hKK KK
   refine wAp 12 (some 25) rfl rfl (hBx.cs) ?_
   refine wpO (i:=13) rfl fun KK hKK=>?_
   rw [if_pos (by kernel_rfl)]
   with_reducible refine zV 45 ?_ [.bool false,.slice none 0 0,.slice none 0 0,.int .i64 0,.bool false,.int .u64 0,.slice none 0 0,.slice none 0 0] ?_ ?_
   ·rfl
   ·exact fun _=>by kernel_rfl
   intro w6 G6 hGx hb6 hz6
   have hG6:w.heap.size+2<G6:=Nat.lt_of_lt_of_le hRx.lt hz6
   replace hBx:=hBx.next hb6
   replace hRx:=hRx.next hb6
   replace hbx:=qQ hbx hb6
   refine hKK _ _ ⟨fun _=>(hBx.cs),?_⟩; clear hKK KK
   refine wpO (i:=14) rfl fun KK hKK=>?_
   rw [if_pos (by kernel_rfl)]
   with_reducible refine qB 45 (.tmp 5) (.tmp 25) ?_ G6 45 [.bool false,.slice none 0 0,.slice none 0 0,.int .i64 0,.bool false,.int .u64 0,.slice none 0 0,.slice none 0 0] hGx ?_ (twC v) ?_ ?_ ?_ ?_ ?_
   ·rfl
   ·go_simp
   ·rfl
   ·go_simp
   ·exact q0f v
   ·exact Tryz.sizeTw
   intro w7 hG7 hfr7
   refine lN hKK ?_; clear hKK KK
   refine qZ (by kernel_rfl) ?_ _
   have hB7:=hBx.fr hfr7 (by omega)
   have hR7:=hRx.fr hfr7 (by omega)
   replace hbx:=hbx.trans (hfr7.below (fun k e=>by omega) hbx.size)
   have x7:=hB7.cell (i:=7) rfl
   have hGc:=hG7.cs
   clear hBx hRx hfr7 hB7
   go_wp2_with fail
   refine wp_loop_rounds 1 ?_
   rw [rounds_succ]
   go_wp2_with (first | ((with_reducible refine jB rfl _ rfl G6 0 ?_ v hGc ?_); exact rfl) | ((with_reducible refine jJ rfl _ _ rfl (w.heap.size+2) 45 _ hR7 ?_ v rfl ?_ ?_); exact rfl; exact rfl; intro w9 hR9 hfr9))
   exact bodyPost_ret (qN rfl _ _ (w.heap.size+2) (twC v) _ rfl hR9.cs Tryz.underlying45 rfl Tryz.sizeTw) rfl ⟨rfl,hbx.trans (hfr9.below (fun k e=>by omega) hbx.size)⟩
  ·skip
   rw [if_pos (by kernel_rfl)]
   with_reducible refine zV 45 ?_ [.bool false,.slice none 0 0,.slice none 0 0,.int .i64 0,.bool false,.int .u64 0,.slice none 0 0,.slice none 0 0] ?_ ?_
   ·rfl
   ·exact fun _=>by kernel_rfl
   intro w6 G6 hGx hb6 hz6
   have hG6:w.heap.size+2<G6:=Nat.lt_of_lt_of_le hRx.lt hz6
   replace hBx:=hBx.next hb6
   replace hRx:=hRx.next hb6
   replace hbx:=qQ hbx hb6
   refine hKK _ _ ⟨fun _=>(hBx.cs),?_⟩; clear hKK KK
   refine wpO (i:=11) rfl fun KK hKK=>?_
   go_simp
   go_at_call 154
   refine (q3a _).mono ?_; rintro e w3 ⟨rfl,rfl⟩
   try go_simp
   refine hKK _ _ ⟨fun _=>(hBx.cs),?_⟩; clear hKK KK
   refine wAp 12 (some 25) rfl rfl (hBx.cs) ?_
   refine wpO (i:=14) rfl fun KK hKK=>?_
   rw [if_pos (by kernel_rfl)]
   with_reducible refine qB 45 (.tmp 5) (.tmp 25) ?_ G6 45 [.bool false,.slice none 0 0,.slice none 0 0,.int .i64 0,.bool false,.int .u64 0,.slice none 0 0,.slice none 0 0] hGx ?_ (twC v) ?_ ?_ ?_ ?_ ?_
   ·rfl
   ·go_simp
   ·rfl
   ·go_simp
   ·exact q0f v
   ·exact Tryz.sizeTw
   intro w7 hG7 hfr7
   refine lN hKK ?_; clear hKK KK
   refine qZ (by kernel_rfl) ?_ _
   have hB7:=hBx.fr hfr7 (by omega)
   have hR7:=hRx.fr hfr7 (by omega)
   replace hbx:=hbx.trans (hfr7.below (fun k e=>by omega) hbx.size)
   have x7:=hB7.cell (i:=7) rfl
   have hGc:=hG7.cs
   clear hBx hRx hfr7 hB7
   go_wp2_with fail
   refine wp_loop_rounds 1 ?_
   rw [rounds_succ]
   go_wp2_with (first | ((with_reducible refine jB rfl _ rfl G6 0 ?_ v hGc ?_); exact rfl) | ((with_reducible refine jJ rfl _ _ rfl (w.heap.size+2) 45 _ hR7 ?_ v rfl ?_ ?_); exact rfl; exact rfl; intro w9 hR9 hfr9))
   exact bodyPost_ret (qN rfl _ _ (w.heap.size+2) (twC v) _ rfl hR9.cs Tryz.underlying45 rfl Tryz.sizeTw) rfl ⟨rfl,hbx.trans (hfr9.below (fun k e=>by omega) hbx.size)⟩
 ·skip
  rw [if_pos (by kernel_rfl)]
  with_reducible refine zV 45 ?_ [.bool false,.slice none 0 0,.slice none 0 0,.int .i64 0,.bool false,.int .u64 0,.slice none 0 0,.slice none 0 0] ?_ ?_
  ·rfl
  ·exact fun _=>by kernel_rfl
  intro w6 G6 hGx hb6 hz6
  have hG6:w.heap.size+2<G6:=Nat.lt_of_lt_of_le hRx.lt hz6
  replace hBx:=hBx.next hb6
  replace hRx:=hRx.next hb6
  replace hbx:=qQ hbx hb6
  refine hKK _ _ ⟨fun _=>(hBx.cs),?_⟩; clear hKK KK
  refine wpO (i:=2) rfl fun KK hKK=>?_
  go_simp
  go_at_call 153
  refine (q5r _).mono ?_; rintro e w2 ⟨rfl,hb2⟩
  replace hBx:=hBx.next hb2
  replace hRx:=hRx.next hb2
  replace hbx:=qQ hbx hb2
  try replace hGx:=hGx.next hb2
  try go_simp
  refine hKK _ _ ⟨fun _=>(hBx.cs),?_⟩; clear hKK KK
  refine wpO (i:=11) rfl fun KK hKK=>?_
  go_simp
  go_at_call 154
  refine (q3a _).mono ?_; rintro e w3 ⟨rfl,rfl⟩
  try go_simp
  refine hKK _ _ ⟨fun _=>(hBx.cs),?_⟩; clear hKK KK
  refine wAp 12 (some 25) rfl rfl (hBx.cs) ?_
  refine wpO (i:=14) rfl fun KK hKK=>?_
  rw [if_pos (by kernel_rfl)]
  with_reducible refine qB 45 (.tmp 5) (.tmp 25) ?_ G6 45 [.bool false,.slice none 0 0,.slice none 0 0,.int .i64 0,.bool false,.int .u64 0,.slice none 0 0,.slice none 0 0] hGx ?_ (twC v) ?_ ?_ ?_ ?_ ?_
  ·rfl
  ·go_simp
  ·rfl
  ·go_simp
  ·exact q0f v
  ·exact Tryz.sizeTw
  intro w7 hG7 hfr7
  refine lN hKK ?_; clear hKK KK
  refine qZ (by kernel_rfl) ?_ _
  have hB7:=hBx.fr hfr7 (by omega)
  have hR7:=hRx.fr hfr7 (by omega)
  replace hbx:=hbx.trans (hfr7.below (fun k e=>by omega) hbx.size)
  have x7:=hB7.cell (i:=7) rfl
  have hGc:=hG7.cs
  clear hBx hRx hfr7 hB7
  go_wp2_with fail
  refine wp_loop_rounds 1 ?_
  rw [rounds_succ]
  go_wp2_with (first | ((with_reducible refine jB rfl _ rfl G6 0 ?_ v hGc ?_); exact rfl) | ((with_reducible refine jJ rfl _ _ rfl (w.heap.size+2) 45 _ hR7 ?_ v rfl ?_ ?_); exact rfl; exact rfl; intro w9 hR9 hfr9))
  exact bodyPost_ret (qN rfl _ _ (w.heap.size+2) (twC v) _ rfl hR9.cs Tryz.underlying45 rfl Tryz.sizeTw) rfl ⟨rfl,hbx.trans (hfr9.below (fun k e=>by omega) hbx.size)⟩
end
section
open Go.RowKit
theorem q4o (v u:Tw) (hv:vW v) (hu:vW u) (w:World):Calls Tryz.prog 81 #[.agg #[.int .i64 2,.slice none 0 0],.agg #[.bool false,.slice none 0 0,.slice none 0 0,.int .i64 (tc (v):Int),.bool (ti (v)),.int .u64 0,.slice none 0 0,.slice none 0 0],.agg #[.bool false,.slice none 0 0,.slice none 0 0,.int .i64 (tc (u):Int),.bool (ti (u)),.int .u64 0,.slice none 0 0,.slice none 0 0]] w fun e w'=>e=.returned (.agg #[.bool false,.slice none 0 0,.slice none 0 0,.int .i64 (tc (qP v u):Int),.bool (ti (qP v u)),.int .u64 0,.slice none 0 0,.slice none 0 0])/\Below w.heap.size w w':=by
 obtain ⟨hb0,hA,hB⟩:=vP w (tc (v):Int) (ti (v))
 have hbC:=qJ (w:=((w.alloc (.cells #[.int .i64 2,.slice none 0 0] 26)).alloc (.cells #[.bool false,.slice none 0 0,.slice none 0 0,.int .i64 (tc (v):Int),.bool (ti (v)),.int .u64 0,.slice none 0 0,.slice none 0 0] 45))) (.cells #[.bool false,.slice none 0 0,.slice none 0 0,.int .i64 (tc (u):Int),.bool (ti (u)),.int .u64 0,.slice none 0 0,.slice none 0 0] 45)
 have hC:=Bl.fresh' (G:=w.heap.size+2) ((w.alloc (.cells #[.int .i64 2,.slice none 0 0] 26)).alloc (.cells #[.bool false,.slice none 0 0,.slice none 0 0,.int .i64 (tc (v):Int),.bool (ti (v)),.int .u64 0,.slice none 0 0,.slice none 0 0] 45)) [.bool false,.slice none 0 0,.slice none 0 0,.int .i64 (tc (u):Int),.bool (ti (u)),.int .u64 0,.slice none 0 0,.slice none 0 0] 45 (by simp)
 replace hA:=hA.next hbC
 replace hB:=hB.next hbC
 replace hb0:=qQ hb0 hbC
 have hbR:=qJ (w:=(((w.alloc (.cells #[.int .i64 2,.slice none 0 0] 26)).alloc (.cells #[.bool false,.slice none 0 0,.slice none 0 0,.int .i64 (tc (v):Int),.bool (ti (v)),.int .u64 0,.slice none 0 0,.slice none 0 0] 45)).alloc (.cells #[.bool false,.slice none 0 0,.slice none 0 0,.int .i64 (tc (u):Int),.bool (ti (u)),.int .u64 0,.slice none 0 0,.slice none 0 0] 45))) (.cells #[.bool false,.slice none 0 0,.slice none 0 0,.int .i64 0,.bool false,.int .u64 0,.slice none 0 0,.slice none 0 0] 45)
 have hR:=Bl.fresh' (G:=w.heap.size+3) (((w.alloc (.cells #[.int .i64 2,.slice none 0 0] 26)).alloc (.cells #[.bool false,.slice none 0 0,.slice none 0 0,.int .i64 (tc (v):Int),.bool (ti (v)),.int .u64 0,.slice none 0 0,.slice none 0 0] 45)).alloc (.cells #[.bool false,.slice none 0 0,.slice none 0 0,.int .i64 (tc (u):Int),.bool (ti (u)),.int .u64 0,.slice none 0 0,.slice none 0 0] 45)) [.bool false,.slice none 0 0,.slice none 0 0,.int .i64 0,.bool false,.int .u64 0,.slice none 0 0,.slice none 0 0] 45 (by simp)
 replace hA:=hA.next hbR
 replace hB:=hB.next hbR
 replace hC:=hC.next hbR
 replace hb0:=qQ hb0 hbR
 obtain ⟨r0,r1⟩:=hA.two
 clear hbR hbC
 go_enter Tryz.func81,Tryz.ntmps81
 go_wp2_with fail
 refine (kU _).mono ?_; rintro e w1 ⟨rfl,hb1⟩
 have hAx:Bl w.heap.size rgC 26 w1:=hA.next hb1
 have hBx:Bl (w.heap.size+1) (twC v) 45 w1:=hB.next hb1
 have hCx:Bl (w.heap.size+2) (twC u) 45 w1:=hC.next hb1
 have hRx:=hR.next hb1
 have hbx:=qQ hb0 hb1
 clear r0 r1 hA hB hC hR hb0 hb1
 go_upto_region 3 with fail
 have hdr:=(Below.refl w1.heap.size w1).drew
 replace hbx:=qQ hbx hdr
 replace hAx:=hAx.next hdr
 replace hBx:=hBx.next hdr
 replace hCx:=hCx.next hdr
 replace hRx:=hRx.next hdr
 have hS:Cs w1.drew w.heap.size 0 rgC/\Cs w1.drew (w.heap.size+1) 0 (twC v)/\Cs w1.drew (w.heap.size+2) 0 (twC u):=⟨hAx.cs,hBx.cs,hCx.cs⟩
 refine qV (fun w'=>Cs w' w.heap.size 0 rgC/\Cs w' (w.heap.size+1) 0 (twC v)/\Cs w' (w.heap.size+2) 0 (twC u)) [6,7] (by kernel_rfl) ?_
 refine wAl 0 (some 13) (v:=?_) rfl rfl ?_ hS ?_
 rotate_left
 ·intro wz hw; skip; refine qX w.heap.size 0 ?_ hw.1; go_simp
 refine wAl 1 (some 14) (v:=?_) rfl rfl ?_ hS ?_
 rotate_left
 ·intro wz hw; skip; refine qY (w.heap.size+1) 0 ?_ v hw.2.1; go_simp
 refine wAl 3 (some 16) (v:=?_) rfl rfl ?_ hS ?_
 rotate_left
 ·intro wz hw; skip; refine qX w.heap.size 0 ?_ hw.1; go_simp
 refine wAl 4 (some 17) (v:=?_) rfl rfl ?_ hS ?_
 rotate_left
 ·intro wz hw; skip; refine qY (w.heap.size+2) 0 ?_ u hw.2.2; go_simp
 refine wpO (i:=2) rfl fun KK hKK=>?_
 go_simp
 go_at_call 114
 refine (q0r v hv _).mono ?_; rintro e w2 ⟨rfl,hb2⟩
 replace hAx:=hAx.next hb2
 replace hBx:=hBx.next hb2
 replace hCx:=hCx.next hb2
 replace hRx:=hRx.next hb2
 replace hbx:=qQ hbx hb2
 try go_simp
 refine hKK _ _ ⟨fun _=>(⟨hAx.cs,hBx.cs,hCx.cs⟩),?_⟩; clear hKK KK
 refine wpO (i:=5) rfl fun KK hKK=>?_
 go_simp
 go_at_call 114
 refine (q0r u hu _).mono ?_; rintro e w3 ⟨rfl,hb3⟩
 replace hAx:=hAx.next hb3
 replace hBx:=hBx.next hb3
 replace hCx:=hCx.next hb3
 replace hRx:=hRx.next hb3
 replace hbx:=qQ hbx hb3
 try go_simp
 refine hKK _ _ ⟨fun _=>(⟨hAx.cs,hBx.cs,hCx.cs⟩),?_⟩; clear hKK KK
 refine wpO (i:=6) rfl fun KK hKK=>?_
 rw [if_pos (by rfl)]
 with_reducible refine qB 45 (.tmp 4) (.tmp 15) ?_ (w.heap.size+1) 45 (twC v) hBx ?_ (twC v) ?_ ?_ ?_ ?_ ?_
 ·rfl
 ·rfl
 ·rfl
 ·rfl
 ·exact q0f v
 ·exact Tryz.sizeTw
 intro w6 hB6 hfr6
 have hC6:=hCx.fr hfr6 (by omega)
 have hA6:=hAx.fr hfr6 (by omega)
 have hR6:=hRx.fr hfr6 (by omega)
 replace hbx:=hbx.trans (hfr6.below (fun k e=>by omega) hbx.size)
 refine lN hKK ?_; clear hKK KK
 refine wpO (i:=7) rfl fun KK hKK=>?_
 rw [if_pos (by rfl)]
 with_reducible refine qB 45 (.tmp 5) (.tmp 18) ?_ (w.heap.size+2) 45 (twC u) hC6 ?_ (twC u) ?_ ?_ ?_ ?_ ?_
 ·rfl
 ·rfl
 ·rfl
 ·rfl
 ·exact q0f u
 ·exact Tryz.sizeTw
 intro w7 hC7 hfr7
 have hB7:=hB6.fr hfr7 (by omega)
 have hA7:=hA6.fr hfr7 (by omega)
 have hR7:=hR6.fr hfr7 (by omega)
 replace hbx:=hbx.trans (hfr7.below (fun k e=>by omega) hbx.size)
 refine lN hKK ?_; clear hKK KK
 refine qZ (by kernel_rfl) ?_ _
 obtain ⟨a0,a1⟩:=hA7.two
 have b3:=hB7.cell (i:=3) rfl
 have b4:=hB7.cell (i:=4) rfl
 have c3:=hC7.cell (i:=3) rfl
 have c4:=hC7.cell (i:=4) rfl
 have hBc:=hB7.cs
 have hCc:=hC7.cs
 clear hAx hBx hCx hRx hfr6 hfr7 hA6 hB6 hC6 hR6 hA7 hB7 hC7
 cases hv4:ti v with
 | true =>
  have hvn:v=none:=by cases v with | none=>rfl | some a=>cases hv4
  rw [hv4] at b4
  have hres:Hid (qP v u=u):=hid (by rw [hvn,zB])
  clear hvn
  go_wp2_with (first | ((with_reducible refine jB rfl _ rfl (w.heap.size+2) 0 ?_ u hCc ?_); exact rfl) | ((with_reducible refine jJ rfl _ _ rfl (w.heap.size+3) 45 _ hR7 ?_ u rfl ?_ ?_); exact rfl; exact rfl; intro w9 hR9 hfr9))
  exact bodyPost_ret (qN rfl _ _ (w.heap.size+3) (twC u) _ rfl hR9.cs Tryz.underlying45 rfl Tryz.sizeTw) rfl ⟨by rw [hres.out],hbx.trans (hfr9.below (fun k e=>by omega) hbx.size)⟩
 | false =>
  cases hu4:ti u with
  | true =>
   have hun:u=none:=by cases u with | none=>rfl | some a=>cases hu4
   rw [hv4] at b4
   rw [hu4] at c4
   have hres:Hid (qP v u=v):=hid (by rw [hun,jU])
   clear hun
   go_wp2_with (first | ((with_reducible refine jB rfl _ rfl (w.heap.size+1) 0 ?_ v hBc ?_); exact rfl) | ((with_reducible refine jJ rfl _ _ rfl (w.heap.size+3) 45 _ hR7 ?_ v rfl ?_ ?_); exact rfl; exact rfl; intro w9 hR9 hfr9))
   exact bodyPost_ret (qN rfl _ _ (w.heap.size+3) (twC v) _ rfl hR9.cs Tryz.underlying45 rfl Tryz.sizeTw) rfl ⟨by rw [hres.out],hbx.trans (hfr9.below (fun k e=>by omega) hbx.size)⟩
  | false =>
   rw [hv4] at b4
   rw [hu4] at c4
   have hpl:qP v u=if tc u<tc v then u else v:=by
    cases v with
    | none=>cases hv4
    | some a =>
     cases u with
     | none=>cases hu4
     | some b=>rw [zY]; show some (min a b)=if b<a then some b else some a; split<;>(congr 1; omega)
   by_cases hlt:tc u<tc v
   ·have hres:Hid (qP v u=u):=hid (by rw [hpl,if_pos hlt])
    have k1:(tc u:Int)<(tc v:Int):=by omega
    have k2:decide ((tc u:Int)<(tc v:Int))=true:=decide_eq_true k1
    clear hpl
    go_wp2_with (first | ((with_reducible refine jB rfl _ rfl (w.heap.size+2) 0 ?_ u hCc ?_); exact rfl) | ((with_reducible refine jJ rfl _ _ rfl (w.heap.size+3) 45 _ hR7 ?_ u rfl ?_ ?_); exact rfl; exact rfl; intro w9 hR9 hfr9))
    exact bodyPost_ret (qN rfl _ _ (w.heap.size+3) (twC u) _ rfl hR9.cs Tryz.underlying45 rfl Tryz.sizeTw) rfl ⟨by rw [hres.out],hbx.trans (hfr9.below (fun k e=>by omega) hbx.size)⟩
   ·have hres:Hid (qP v u=v):=hid (by rw [hpl,if_neg hlt])
    have k1:¬ (tc u:Int)<(tc v:Int):=by omega
    have k2:decide ((tc u:Int)<(tc v:Int))=false:=decide_eq_false k1
    clear hpl
    go_wp2_with (first | ((with_reducible refine jB rfl _ rfl (w.heap.size+1) 0 ?_ v hBc ?_); exact rfl) | ((with_reducible refine jJ rfl _ _ rfl (w.heap.size+3) 45 _ hR7 ?_ v rfl ?_ ?_); exact rfl; exact rfl; intro w9 hR9 hfr9))
    exact bodyPost_ret (qN rfl _ _ (w.heap.size+3) (twC v) _ rfl hR9.cs Tryz.underlying45 rfl Tryz.sizeTw) rfl ⟨by rw [hres.out],hbx.trans (hfr9.below (fun k e=>by omega) hbx.size)⟩
theorem q4p (v:Tw) (w:World):Calls Tryz.prog 141 #[.agg #[.int .i64 2,.slice none 0 0],.agg #[.bool false,.slice none 0 0,.slice none 0 0,.int .i64 (tc (v):Int),.bool (ti (v)),.int .u64 0,.slice none 0 0,.slice none 0 0]] w fun e w'=>e=.returned (.bool (decide (v=none)))/\Below w.heap.size w w':=by
 obtain ⟨hb0,hA,hB⟩:=vP w (tc (v):Int) (ti (v))
 go_enter Tryz.func141,Tryz.ntmps141
 go_upto_region 1 with fail
 generalize ((w.alloc (.cells #[.int .i64 2,.slice none 0 0] 26)).alloc (.cells #[.bool false,.slice none 0 0,.slice none 0 0,.int .i64 (tc (v):Int),.bool (ti (v)),.int .u64 0,.slice none 0 0,.slice none 0 0] 45))=W1 at *
 have hdr:=(Below.refl W1.heap.size W1).drew
 have hS:Cs W1.drew w.heap.size 0 rgC/\Cs W1.drew (w.heap.size+1) 0 (twC v):=⟨(hA.next hdr).cs,(hB.next hdr).cs⟩
 have hK:∀ w' w'',(Cs w' w.heap.size 0 rgC/\Cs w' (w.heap.size+1) 0 (twC v))->Below w'.heap.size w' w''->(Cs w'' w.heap.size 0 rgC/\Cs w'' (w.heap.size+1) 0 (twC v)):=fun w' w'' h hb=>⟨h.1.next hb,h.2.next hb⟩
 have hb1:=qQ hb0 hdr
 clear hA hB hb0 hdr
 refine qV (fun w'=>Cs w' w.heap.size 0 rgC/\Cs w' (w.heap.size+1) 0 (twC v)) [4] (by kernel_rfl) ?_
 refine wAl 0 (some 5) (v:=?_) rfl rfl ?_ hS ?_
 rotate_left
 ·intro wz hw; skip; refine qY (w.heap.size+1) 0 ?_ v hw.2; go_simp
 refine wAl 1 (some 6) (v:=?_) rfl rfl ?_ hS ?_
 rotate_left
 ·intro wz hw; skip; refine qX w.heap.size 0 ?_ hw.1; go_simp
 refine wpO (i:=2) rfl fun KK hKK=>?_
 go_simp
 go_at_call 22
 refine (j5p _).mono ?_; rintro e w2 ⟨rfl,hb2⟩
 try go_simp
 refine hKK _ _ ⟨fun _=>(hK _ _ hS hb2),?_⟩; clear hKK KK
 refine wpO (i:=3) rfl fun KK hKK=>?_
 go_simp
 go_at_call 14
 refine (q5u v none _).mono ?_; rintro e w3 ⟨rfl,hb3⟩
 try go_simp
 refine hKK _ _ ⟨fun _=>(hK _ _ (hK _ _ hS hb2) hb3),?_⟩; clear hKK KK
 refine wpO (i:=4) rfl fun KK hKK=>?_
 go_simp
 refine lN hKK ?_; clear hKK KK
 refine qZ (by kernel_rfl) ?_ _
 go_wp2_with fail
 go_ret
 exact ⟨rfl,qQ (qQ hb1 hb2) hb3⟩
end
end Go.Proofs.YtnapapijhhldpaaGreatDoor

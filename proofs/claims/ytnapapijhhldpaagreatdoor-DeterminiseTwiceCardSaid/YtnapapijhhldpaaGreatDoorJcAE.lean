/-
  Texts joined by program: Twf, Db, Twg. No condition of its own.
-/
import Derived.Test.YtnapapijhhldpaaGreatDoorJcAD
namespace Go.Proofs.YtnapapijhhldpaaGreatDoor
set_option linter.unusedSimpArgs false
set_option linter.unusedVariables false
section
open Go.RowKit
theorem box4 (w:World) (c d:Int) (i j:Bool):∃ W,W=((((w.alloc (.cells #[.int .i64 2,.slice none 0 0] 26)).alloc (.cells #[.bool false,.slice none 0 0,.slice none 0 0,.int .i64 c,.bool i,.int .u64 0,.slice none 0 0,.slice none 0 0] 45)).alloc (.cells #[.bool false,.slice none 0 0,.slice none 0 0,.int .i64 d,.bool j,.int .u64 0,.slice none 0 0,.slice none 0 0] 45)).alloc (.cells #[.bool false,.slice none 0 0,.slice none 0 0,.int .i64 0,.bool false,.int .u64 0,.slice none 0 0,.slice none 0 0] 45))∧Below w.heap.size w W ∧
  Bl w.heap.size [.int .i64 2,.slice none 0 0] 26 W∧Bl (w.heap.size+1) [.bool false,.slice none 0 0,.slice none 0 0,.int .i64 c,.bool i,.int .u64 0,.slice none 0 0,.slice none 0 0] 45 W∧Bl (w.heap.size+1+1) [.bool false,.slice none 0 0,.slice none 0 0,.int .i64 d,.bool j,.int .u64 0,.slice none 0 0,.slice none 0 0] 45 W∧Bl (w.heap.size+1+1+1) [.bool false,.slice none 0 0,.slice none 0 0,.int .i64 0,.bool false,.int .u64 0,.slice none 0 0,.slice none 0 0] 45 W:=by
 obtain ⟨h1,h2,h3,h4⟩:=box3 w c d i j
 exact ⟨_,rfl,below_chain h1 (below_alloc _),h2.new _,h3.new _,h4.new _,Bl.fresh' (G:=w.heap.size+1+1+1) (((w.alloc (.cells #[.int .i64 2,.slice none 0 0] 26)).alloc (.cells #[.bool false,.slice none 0 0,.slice none 0 0,.int .i64 c,.bool i,.int .u64 0,.slice none 0 0,.slice none 0 0] 45)).alloc (.cells #[.bool false,.slice none 0 0,.slice none 0 0,.int .i64 d,.bool j,.int .u64 0,.slice none 0 0,.slice none 0 0] 45)) [.bool false,.slice none 0 0,.slice none 0 0,.int .i64 0,.bool false,.int .u64 0,.slice none 0 0,.slice none 0 0] 45 (by simp)⟩
theorem Bl.off8 {H G:Nat} {cs:List Value} {T:TypeId} {w:World} (h:Bl H cs T w) (hG:H≠G) (a' b' c' d' e' f' g' k':Value):Bl H cs T ((((((((w.setCell ⟨G,0,none⟩ a').setCell ⟨G,1,none⟩ b').setCell ⟨G,2,none⟩ c').setCell ⟨G,3,none⟩ d').setCell ⟨G,4,none⟩ e').setCell ⟨G,5,none⟩ f').setCell ⟨G,6,none⟩ g').setCell ⟨G,7,none⟩ k') :=
 (((((((h.off (p:=⟨G,0,none⟩) hG a').off (p:=⟨G,1,none⟩) hG b').off (p:=⟨G,2,none⟩) hG c').off (p:=⟨G,3,none⟩) hG d').off (p:=⟨G,4,none⟩) hG e').off (p:=⟨G,5,none⟩) hG f').off (p:=⟨G,6,none⟩) hG g').off (p:=⟨G,7,none⟩) hG k'
set_option maxRecDepth 100000 in
set_option maxHeartbeats 2000000 in
theorem plusT_any (c d:Nat) (i j:Bool) (hc:c≤1099511627776) (hi:i=true→c=0) (hd:d≤1099511627776) (hj:j=true→d=0) (w:World):Calls Tryz.prog 77 #[.agg #[.int .i64 2,.slice none 0 0],.agg #[.bool false,.slice none 0 0,.slice none 0 0,.int .i64 (c:Int),.bool i,.int .u64 0,.slice none 0 0,.slice none 0 0],.agg #[.bool false,.slice none 0 0,.slice none 0 0,.int .i64 (d:Int),.bool j,.int .u64 0,.slice none 0 0,.slice none 0 0]] w fun e w'=>e=.returned (if (!j&&(i||decide (d<c)))=true then .agg #[.bool false,.slice none 0 0,.slice none 0 0,.int .i64 (d:Int),.bool j,.int .u64 0,.slice none 0 0,.slice none 0 0] else .agg #[.bool false,.slice none 0 0,.slice none 0 0,.int .i64 (c:Int),.bool i,.int .u64 0,.slice none 0 0,.slice none 0 0])∧Below w.heap.size w w':=by
 obtain ⟨W,hW,hb0,hA,hB,hC,hO⟩:=box4 w (c:Int) (d:Int) i j
 have hle:=hid (fun W=>(costs4_any c d i j W))
 obtain ⟨q,hq⟩:∃ q,(!j&&(i||decide (d<c)))=q:=⟨_,rfl⟩
 rw [hq] at hle ⊢
 clear hq
 obtain ⟨V,hV,hX,hX2⟩:∃ V:Value,V=(if q=true then .agg #[.bool false,.slice none 0 0,.slice none 0 0,.int .i64 (d:Int),.bool j,.int .u64 0,.slice none 0 0,.slice none 0 0] else .agg #[.bool false,.slice none 0 0,.slice none 0 0,.int .i64 (c:Int),.bool i,.int .u64 0,.slice none 0 0,.slice none 0 0])∧(∃ (z:Int) (b:Bool),V=.agg #[.bool false,.slice none 0 0,.slice none 0 0,.int .i64 z,.bool b,.int .u64 0,.slice none 0 0,.slice none 0 0])∧True:=⟨_,rfl,by cases q<;>exact ⟨_,_,rfl⟩,trivial⟩
 rw [←hV] at hle ⊢
 obtain ⟨z,b,rfl⟩:=hX
 clear hV hX2
 go_enter Tryz.func77,Tryz.ntmps77
 go_wp2_with fail
 rw [←hW]
 clear hW
 refine (validT_any _).mono ?_; rintro e w1 ⟨rfl,hb1⟩
 replace hA:=hA.next hb1
 replace hB:=hB.next hb1
 replace hC:=hC.next hb1
 replace hO:=hO.next hb1
 have hb:=below_chain hb0 hb1
 clear hb0 hb1
 go_wp2_with fail
 have hdr:=(Below.refl w1.heap.size w1).drew
 have hS:C2w w.heap.size (.int .i64 2) (.slice none 0 0) w1.drew∧C8w (w.heap.size+1) (.bool false) (.slice none 0 0) (.slice none 0 0) (.int .i64 (c:Int)) (.bool i) (.int .u64 0) (.slice none 0 0) (.slice none 0 0) w1.drew∧C8w (w.heap.size+1+1) (.bool false) (.slice none 0 0) (.slice none 0 0) (.int .i64 (d:Int)) (.bool j) (.int .u64 0) (.slice none 0 0) (.slice none 0 0) w1.drew:=⟨C2w.next hA.two hdr,C8w.next hB.eight hdr,C8w.next hC.eight hdr⟩
 have hK:∀ w' w'',(C2w w.heap.size (.int .i64 2) (.slice none 0 0) w'∧C8w (w.heap.size+1) (.bool false) (.slice none 0 0) (.slice none 0 0) (.int .i64 (c:Int)) (.bool i) (.int .u64 0) (.slice none 0 0) (.slice none 0 0) w'∧C8w (w.heap.size+1+1) (.bool false) (.slice none 0 0) (.slice none 0 0) (.int .i64 (d:Int)) (.bool j) (.int .u64 0) (.slice none 0 0) (.slice none 0 0) w')→Below w'.heap.size w' w''→(C2w w.heap.size (.int .i64 2) (.slice none 0 0) w''∧C8w (w.heap.size+1) (.bool false) (.slice none 0 0) (.slice none 0 0) (.int .i64 (c:Int)) (.bool i) (.int .u64 0) (.slice none 0 0) (.slice none 0 0) w''∧C8w (w.heap.size+1+1) (.bool false) (.slice none 0 0) (.slice none 0 0) (.int .i64 (d:Int)) (.bool j) (.int .u64 0) (.slice none 0 0) (.slice none 0 0) w''):=fun w' w'' h hb=>⟨C2w.next h.1 hb,C8w.next h.2.1 hb,C8w.next h.2.2 hb⟩
 replace hA:=hA.next hdr
 replace hB:=hB.next hdr
 replace hC:=hC.next hdr
 replace hO:=hO.next hdr
 replace hb:=hb.trans (hdr.mono hb.size)
 clear hdr
 refine wp_region_D (fun w'=>C2w w.heap.size (.int .i64 2) (.slice none 0 0) w'∧C8w (w.heap.size+1) (.bool false) (.slice none 0 0) (.slice none 0 0) (.int .i64 (c:Int)) (.bool i) (.int .u64 0) (.slice none 0 0) (.slice none 0 0) w'∧C8w (w.heap.size+1+1) (.bool false) (.slice none 0 0) (.slice none 0 0) (.int .i64 (d:Int)) (.bool j) (.int .u64 0) (.slice none 0 0) (.slice none 0 0) w') [6,7] (by kernel_rfl) ?_
 refine wpS (i:=0) (v:=?_) rfl (Or.inl ⟨by rfl,?_⟩) hS ?_
 rotate_left
 ·intro w hw; obtain ⟨⟨a0,a1⟩,⟨⟨b0,b1,b2,b3⟩,b4,b5,b6,b7⟩,⟨c0,c1,c2,c3⟩,c4,c5,c6,c7⟩:=hw; first | (go_simp; done) | (go_simp; with_reducible rfl)
 refine wpS (i:=1) (v:=?_) rfl (Or.inl ⟨by rfl,?_⟩) hS ?_
 rotate_left
 ·intro w hw; obtain ⟨⟨a0,a1⟩,⟨⟨b0,b1,b2,b3⟩,b4,b5,b6,b7⟩,⟨c0,c1,c2,c3⟩,c4,c5,c6,c7⟩:=hw; first | (go_simp; done) | (go_simp; with_reducible rfl)
 refine wpS (i:=3) (v:=?_) rfl (Or.inl ⟨by rfl,?_⟩) hS ?_
 rotate_left
 ·intro w hw; obtain ⟨⟨a0,a1⟩,⟨⟨b0,b1,b2,b3⟩,b4,b5,b6,b7⟩,⟨c0,c1,c2,c3⟩,c4,c5,c6,c7⟩:=hw; first | (go_simp; done) | (go_simp; with_reducible rfl)
 refine wpS (i:=4) (v:=?_) rfl (Or.inl ⟨by rfl,?_⟩) hS ?_
 rotate_left
 ·intro w hw; obtain ⟨⟨a0,a1⟩,⟨⟨b0,b1,b2,b3⟩,b4,b5,b6,b7⟩,⟨c0,c1,c2,c3⟩,c4,c5,c6,c7⟩:=hw; first | (go_simp; done) | (go_simp; with_reducible rfl)
 refine wpAnyD_one (i:=2) (by kernel_rfl) rfl (fun KK hKK=>?_)
 go_simp
 go_at_call 108
 refine (valueT_any c i hc hi _).mono ?_; rintro e w2 ⟨rfl,hb2⟩
 try go_simp
 refine hKK _ _ ⟨fun _=>(hK _ _ hS hb2),?_⟩; clear hKK KK
 refine wpAnyD_one (i:=5) (by kernel_rfl) rfl (fun KK hKK=>?_)
 go_simp
 go_at_call 108
 refine (valueT_any d j hd hj _).mono ?_; rintro e w3 ⟨rfl,hb3⟩
 have hbb:=below_chain (below_chain hb hb2) hb3
 replace hA:=(hA.next hb2).next hb3
 replace hB:=(hB.next hb2).next hb3
 replace hC:=(hC.next hb2).next hb3
 replace hO:=(hO.next hb2).next hb3
 try go_simp
 refine hKK _ _ ⟨fun _=>(hK _ _ (hK _ _ hS hb2) hb3),?_⟩; clear hKK KK
 refine wpAnyD_one (i:=6) (by kernel_rfl) rfl (fun KK hKK=>?_)
 have e8b:=hB.eight
 have b0:=e8b.1.1
 have b1:=e8b.1.2.1
 have b2:=e8b.1.2.2.1
 have b3:=e8b.1.2.2.2
 have b4:=e8b.2.1
 have b5:=e8b.2.2.1
 have b6:=e8b.2.2.2.1
 have b7:=e8b.2.2.2.2
 clear e8b
 have e8f:=hB.free8
 have f0:=e8f.1.1
 have f1:=e8f.1.2.1
 have f2:=e8f.1.2.2.1
 have f3:=e8f.1.2.2.2
 have f4:=e8f.2.1
 have f5:=e8f.2.2.1
 have f6:=e8f.2.2.2.1
 have f7:=e8f.2.2.2.2
 clear e8f
 go_simp
 refine hKK _ _ ⟨fun hn=>absurd (by simp) hn,?_⟩; clear hKK KK
 refine wpAnyD_one (i:=7) (by kernel_rfl) rfl (fun KK hKK=>?_)
 have hB1:=hB.put8 (.bool false) (.slice none 0 0) (.slice none 0 0) (.int .i64 (c:Int)) (.bool i) (.int .u64 0) (.slice none 0 0) (.slice none 0 0)
 have hC1:=hC.off8 (G:=w.heap.size+1) (by omega) (.bool false) (.slice none 0 0) (.slice none 0 0) (.int .i64 (c:Int)) (.bool i) (.int .u64 0) (.slice none 0 0) (.slice none 0 0)
 have hA1:=hA.off8 (G:=w.heap.size+1) (by omega) (.bool false) (.slice none 0 0) (.slice none 0 0) (.int .i64 (c:Int)) (.bool i) (.int .u64 0) (.slice none 0 0) (.slice none 0 0)
 have hO1:=hO.off8 (G:=w.heap.size+1) (by omega) (.bool false) (.slice none 0 0) (.slice none 0 0) (.int .i64 (c:Int)) (.bool i) (.int .u64 0) (.slice none 0 0) (.slice none 0 0)
 have hbb1:=below8 hbb (show w.heap.size≤w.heap.size+1 by omega) (.bool false) (.slice none 0 0) (.slice none 0 0) (.int .i64 (c:Int)) (.bool i) (.int .u64 0) (.slice none 0 0) (.slice none 0 0)
 clear hA hB hC hO hbb
 clear b0 b1 b2 b3 b4 b5 b6 b7 f0 f1 f2 f3 f4 f5 f6 f7
 have e8c:=hC1.eight
 have c0:=e8c.1.1
 have c1:=e8c.1.2.1
 have c2:=e8c.1.2.2.1
 have c3:=e8c.1.2.2.2
 have c4:=e8c.2.1
 have c5:=e8c.2.2.1
 have c6:=e8c.2.2.2.1
 have c7:=e8c.2.2.2.2
 clear e8c
 have e8f:=hC1.free8
 have f0:=e8f.1.1
 have f1:=e8f.1.2.1
 have f2:=e8f.1.2.2.1
 have f3:=e8f.1.2.2.2
 have f4:=e8f.2.1
 have f5:=e8f.2.2.1
 have f6:=e8f.2.2.2.1
 have f7:=e8f.2.2.2.2
 clear e8f
 go_simp
 refine hKK _ _ ⟨fun hn=>absurd (by simp) hn,?_⟩; clear hKK KK
 refine wpAnyD_done (by kernel_rfl) ?_ _
 have hC2:=hC1.put8 (.bool false) (.slice none 0 0) (.slice none 0 0) (.int .i64 (d:Int)) (.bool j) (.int .u64 0) (.slice none 0 0) (.slice none 0 0)
 have hB2:=hB1.off8 (G:=w.heap.size+1+1) (by omega) (.bool false) (.slice none 0 0) (.slice none 0 0) (.int .i64 (d:Int)) (.bool j) (.int .u64 0) (.slice none 0 0) (.slice none 0 0)
 have hA2:=hA1.off8 (G:=w.heap.size+1+1) (by omega) (.bool false) (.slice none 0 0) (.slice none 0 0) (.int .i64 (d:Int)) (.bool j) (.int .u64 0) (.slice none 0 0) (.slice none 0 0)
 have hO2:=hO1.off8 (G:=w.heap.size+1+1) (by omega) (.bool false) (.slice none 0 0) (.slice none 0 0) (.int .i64 (d:Int)) (.bool j) (.int .u64 0) (.slice none 0 0) (.slice none 0 0)
 have hbb2:=below8 hbb1 (show w.heap.size≤w.heap.size+1+1 by omega) (.bool false) (.slice none 0 0) (.slice none 0 0) (.int .i64 (d:Int)) (.bool j) (.int .u64 0) (.slice none 0 0) (.slice none 0 0)
 clear hA1 hB1 hC1 hO1 hbb1 hS hb hb2 hb3
 clear c0 c1 c2 c3 c4 c5 c6 c7 f0 f1 f2 f3 f4 f5 f6 f7
 generalize (World.setCell _ ⟨w.heap.size+1+1,7,none⟩ (.slice none 0 0))=W4 at *
 have e2a:=hA2.two
 have a0:=e2a.1
 have a1:=e2a.2
 clear e2a
 go_upto_region 5 with fail
 clear a0 a1
 have hdr:=(Below.refl W4.heap.size W4).drew
 have hS:C2w w.heap.size (.int .i64 2) (.slice none 0 0) W4.drew∧C8w (w.heap.size+1) (.bool false) (.slice none 0 0) (.slice none 0 0) (.int .i64 (c:Int)) (.bool i) (.int .u64 0) (.slice none 0 0) (.slice none 0 0) W4.drew∧C8w (w.heap.size+1+1) (.bool false) (.slice none 0 0) (.slice none 0 0) (.int .i64 (d:Int)) (.bool j) (.int .u64 0) (.slice none 0 0) (.slice none 0 0) W4.drew:=⟨C2w.next hA2.two hdr,C8w.next hB2.eight hdr,C8w.next hC2.eight hdr⟩
 replace hO2:=hO2.next hdr
 replace hbb2:=hbb2.trans (hdr.mono hbb2.size)
 clear hdr hA2 hB2 hC2
 refine wp_region_D (fun w'=>C2w w.heap.size (.int .i64 2) (.slice none 0 0) w'∧C8w (w.heap.size+1) (.bool false) (.slice none 0 0) (.slice none 0 0) (.int .i64 (c:Int)) (.bool i) (.int .u64 0) (.slice none 0 0) (.slice none 0 0) w'∧C8w (w.heap.size+1+1) (.bool false) (.slice none 0 0) (.slice none 0 0) (.int .i64 (d:Int)) (.bool j) (.int .u64 0) (.slice none 0 0) (.slice none 0 0) w') [7] (by kernel_rfl) ?_
 refine wpSp (i:=0) rfl hS ?_
 refine wpS (i:=1) (v:=?_) rfl (Or.inl ⟨by rfl,?_⟩) hS ?_
 rotate_left
 ·intro w hw; obtain ⟨⟨a0,a1⟩,⟨⟨b0,b1,b2,b3⟩,b4,b5,b6,b7⟩,⟨c0,c1,c2,c3⟩,c4,c5,c6,c7⟩:=hw; first | (go_simp; done) | (go_simp; with_reducible rfl)
 refine wpS (i:=4) (v:=?_) rfl (Or.inl ⟨by rfl,?_⟩) hS ?_
 rotate_left
 ·intro w hw; obtain ⟨⟨a0,a1⟩,⟨⟨b0,b1,b2,b3⟩,b4,b5,b6,b7⟩,⟨c0,c1,c2,c3⟩,c4,c5,c6,c7⟩:=hw; first | (go_simp; done) | (go_simp; with_reducible rfl)
 refine wpS (i:=5) (v:=?_) rfl (Or.inl ⟨by rfl,?_⟩) hS ?_
 rotate_left
 ·intro w hw; obtain ⟨⟨a0,a1⟩,⟨⟨b0,b1,b2,b3⟩,b4,b5,b6,b7⟩,⟨c0,c1,c2,c3⟩,c4,c5,c6,c7⟩:=hw; first | (go_simp; done) | (go_simp; with_reducible rfl)
 refine wpAnyD_one (i:=2) (by kernel_rfl) rfl (fun KK hKK=>?_)
 go_simp
 go_at_call 105
 refine (kindT_any _).mono ?_; rintro e w5 ⟨⟨u,p,rfl⟩,hb5⟩
 have hfl:=algF3 u p
 try go_simp
 refine hKK _ _ ⟨fun _=>(hK _ _ hS hb5),?_⟩; clear hKK KK
 refine wpSp (i:=3) rfl (hK _ _ hS hb5) ?_
 refine wpAnyD_one (i:=6) (by kernel_rfl) rfl (fun KK hKK=>?_)
 go_simp
 go_at_call 197
 refine (hle.out _).mono ?_; rintro e w6 ⟨rfl,hb6⟩
 replace hO2:=(hO2.next hb5).next hb6
 have hbb6:=below_chain (below_chain hbb2 hb5) hb6
 try go_simp
 refine hKK _ _ ⟨fun _=>(hK _ _ (hK _ _ hS hb5) hb6),?_⟩; clear hKK KK
 refine wpAnyD_one (i:=7) (by kernel_rfl) rfl (fun KK hKK=>?_)
 have hO6:=hO2.put8 (.bool false) (.slice none 0 0) (.slice none 0 0) (.int .i64 z) (.bool b) (.int .u64 0) (.slice none 0 0) (.slice none 0 0)
 have hbd:=below8 hbb6 (show w.heap.size≤w.heap.size+1+1+1 by omega) (.bool false) (.slice none 0 0) (.slice none 0 0) (.int .i64 z) (.bool b) (.int .u64 0) (.slice none 0 0) (.slice none 0 0)
 clear hS
 have e8o:=hO2.eight
 have o0:=e8o.1.1
 have o1:=e8o.1.2.1
 have o2:=e8o.1.2.2.1
 have o3:=e8o.1.2.2.2
 have o4:=e8o.2.1
 have o5:=e8o.2.2.1
 have o6:=e8o.2.2.2.1
 have o7:=e8o.2.2.2.2
 clear e8o
 have e8f:=hO2.free8
 have f0:=e8f.1.1
 have f1:=e8f.1.2.1
 have f2:=e8f.1.2.2.1
 have f3:=e8f.1.2.2.2
 have f4:=e8f.2.1
 have f5:=e8f.2.2.1
 have f6:=e8f.2.2.2.1
 have f7:=e8f.2.2.2.2
 clear e8f
 go_simp
 refine hKK _ _ ⟨fun hn=>absurd (by simp) hn,?_⟩; clear hKK KK
 refine wpAnyD_done (by kernel_rfl) ?_ _
 obtain ⟨⟨e0,e1,e2,e3⟩,e4,e5,e6,e7⟩:=hO6.eight
 go_wp2_with fail
 refine bodyPost_ret (v:=.agg #[.bool false,.slice none 0 0,.slice none 0 0,.int .i64 z,.bool b,.int .u64 0,.slice none 0 0,.slice none 0 0]) (by simp [results,Tryz.results77,go_sem,e0,e1,e2,e3,e4,e5,e6,e7]) rfl ?_
 exact ⟨rfl,hbd⟩
end
section
abbrev Vx:=List (Option Nat)
def noteV (S:Vx) (q r:Nat):Vx:=match S[q]? with
 | some (some u)=>if r<u then S.set q (some r) else S
 | _=>S.set q (some r)
def cst (x:Ac):Nat:=(wt x).getD 0
def stepQ (us:List Bool) (r:Nat):List Ac→Vx→Vx
 | [],S=>S
 | x::A,S=>stepQ us r A (if us.getD x.2.2.1 false then noteV S x.2.2.1 (r+cst x) else S)
def stp (N:List Ac) (q l:Nat):List Ac:=N.filter fun x=>decide (x.1=q)&&decide (x.2.1=l)
def nextTo (N:List Ac) (us:List Bool) (R:Vx) (l:Nat):Nat→Vx
 | 0=>List.replicate R.length none
 | q+1=>match R[q]? with
  | some (some r)=>stepQ us r (stp N q l) (nextTo N us R l q)
  | _=>nextTo N us R l q
def nextV (N:List Ac) (us:List Bool) (R:Vx) (l:Nat):Vx:=nextTo N us R l R.length
def leastV:Vx→Tw
 | []=>none
 | x::r=>twPlus x (leastV r)
def lowV (S:Vx) (m:Nat):Vx:=S.map fun o=>o.map (· - m)
def setl (S:Vx):Option (Nat×Vx):=match leastV S with
 | none=>none
 | some m=>some (m,lowV S m)
def ends1 (a:Option Nat) (b:Tw):Tw:=match a,b with
 | some r,some c=>some (r+c)
 | _,_=>none
def endV (fin:List Tw) (R:Vx):Tw:=leastV (List.zipWith ends1 R fin)
structure Ds where
 subs:List Vx
 arcs:List Ac
def oneS (N:List Ac) (us:List Bool) (k l:Nat) (X:Ds):Option Ds:=match setl (nextV N us (X.subs.getD k []) l) with
 | none=>some X
 | some (c,nx)=>match X.subs.findIdx? (· == nx) with
  | some num=>some ⟨X.subs,X.arcs++[(k,l,num,some c)]⟩
  | none=>if X.subs.length=64 then none else some ⟨X.subs++[nx],X.arcs++[(k,l,X.subs.length,some c)]⟩
def rowS (N:List Ac) (us:List Bool) (k:Nat):Nat→Nat→Ds→Option Ds
 | 0,_,X=>some X
 | n+1,l,X=>match oneS N us k l X with
  | none=>none
  | some Y=>rowS N us k n (l+1) Y
def runS (N:List Ac) (us:List Bool) (syms:Nat):Nat→Nat→Ds→Option Ds
 | 0,_,_=>none
 | f+1,k,X=>if X.subs.length≤k then some X else match rowS N us k syms 1 X with
  | none=>none
  | some Y=>runS N us syms f (k+1) Y
def firstV (us:List Bool) (ini:List Tw):Vx:=List.zipWith (fun u w=>if u then w else none) us ini
structure Au where
 st:Nat
 ini:List Tw
 fin:List Tw
 arcs:List Ac
def detP (syms:Nat) (us:List Bool) (A:Au):Option Au:=match setl (firstV us A.ini) with
 | none=>some ⟨0,[],[],[]⟩
 | some (c,f)=>match runS A.arcs us syms 66 0 ⟨[f],[]⟩ with
  | none=>none
  | some X=>some ⟨X.subs.length,some c::List.replicate (X.subs.length-1) none,X.subs.map (endV A.fin),X.arcs⟩
theorem noteV_len (S:Vx) (q r:Nat):(noteV S q r).length=S.length:=by
 unfold noteV
 split
 ·split
  ·rw [List.length_set]
  ·rfl
 ·rw [List.length_set]
theorem stepQ_len (us:List Bool) (r:Nat):∀ (A:List Ac) (S:Vx),(stepQ us r A S).length=S.length
 | [],S=>rfl
 | x::A,S=>by
  rw [stepQ,stepQ_len us r A]
  split
  ·exact noteV_len _ _ _
  ·rfl
theorem nextTo_len (N:List Ac) (us:List Bool) (R:Vx) (l:Nat):∀ q,(nextTo N us R l q).length=R.length
 | 0=>by simp [nextTo]
 | q+1=>by
  unfold nextTo
  split
  ·rw [stepQ_len]; exact nextTo_len N us R l q
  ·exact nextTo_len N us R l q
theorem nextV_len (N:List Ac) (us:List Bool) (R:Vx) (l:Nat):(nextV N us R l).length=R.length:=nextTo_len N us R l _
theorem lowV_len (S:Vx) (m:Nat):(lowV S m).length=S.length:=by simp [lowV]
def Bd (B:Nat) (S:Vx):Prop:=∀ r,some r∈S→r≤B
theorem Bd.mono {B C:Nat} {S:Vx} (h:Bd B S) (hB:B≤C):Bd C S:=fun r hr=>Nat.le_trans (h r hr) hB
theorem Bd.set {B:Nat} {S:Vx} (h:Bd B S) {q r:Nat} (hr:r≤B):Bd B (S.set q (some r)):=fun x hx=>by
 rcases List.mem_or_eq_of_mem_set hx with hx | hx
 ·exact h x hx
 ·cases hx; exact hr
theorem Bd.note {B:Nat} {S:Vx} (h:Bd B S) {q r:Nat} (hr:r≤B):Bd B (noteV S q r):=by
 unfold noteV
 split
 ·split
  ·exact h.set hr
  ·exact h
 ·exact h.set hr
theorem Bd.stepQ {B r:Nat} {us:List Bool}:∀ {A:List Ac} {S:Vx},Bd B S→(∀ x∈A,r+cst x≤B)→Bd B (stepQ us r A S)
 | [],S,h,_=>h
 | x::A,S,h,hA=>by
  rw [Go.Proofs.YtnapapijhhldpaaGreatDoor.stepQ]
  refine Bd.stepQ ?_ fun y hy=>hA y (List.mem_cons_of_mem _ hy)
  split
  ·exact h.note (hA x List.mem_cons_self)
  ·exact h
theorem bd_nextTo {N:List Ac} {us:List Bool} {R:Vx} {l B C:Nat} (hR:Bd B R) (hN:∀ x∈N,cst x≤C):∀ q,Bd (B+C) (nextTo N us R l q)
 | 0=>fun r hr=>by
  unfold nextTo at hr
  rw [List.mem_replicate] at hr
  cases hr.2
 | q+1=>by
  unfold nextTo
  split
  ·rename_i r hr
   have h1:=hR r (List.mem_of_getElem? hr)
   refine Bd.stepQ (bd_nextTo hR hN q) fun x hx=>?_
   have:=hN x (((List.mem_filter.1 hx).1))
   omega
  ·exact bd_nextTo hR hN q
theorem bd_low {B m:Nat} {S:Vx} (h:Bd B S):Bd B (lowV S m):=fun r hr=>by
 unfold lowV at hr
 obtain ⟨o,ho,e⟩:=List.mem_map.1 hr
 cases o with
 | none=>cases e
 | some u =>
  have:=h u ho
  simp at e
  omega
theorem least_mem:∀ {S:Vx} {m:Nat},leastV S=some m→some m∈S
 | [],m,h=>by cases h
 | x::S,m,h=>by
  unfold leastV at h
  rcases twPlus_cases x (leastV S) with ⟨e,_⟩ | ⟨e,_⟩<;>rw [e] at h
  ·rw [h]; exact List.mem_cons_self
  ·exact List.mem_cons_of_mem _ (least_mem h)
theorem least_le:∀ {S:Vx} {x:Tw},x∈S→twLe (leastV S) x
 | y::S,x,h=>by
  unfold leastV
  rcases List.mem_cons.1 h with rfl | h
  ·exact twPlus_le_left _ _
  ·exact twLe_trans (twPlus_le_right _ _) (least_le h)
theorem setl_some {S:Vx} {m:Nat} {T:Vx} (h:setl S=some (m,T)):leastV S=some m∧T=lowV S m:=by
 unfold setl at h
 split at h
 ·cases h
 ·rename_i k hk
  simp only [Option.some.injEq,Prod.mk.injEq] at h
  exact ⟨by rw [hk,h.1],by rw [←h.2,h.1]⟩
theorem setl_none {S:Vx} (h:setl S=none):leastV S=none:=by
 unfold setl at h
 split at h
 ·assumption
 ·cases h
structure Dok (st C:Nat) (k:Nat) (X:Ds):Prop where
 len:∀ v∈X.subs,v.length=st
 num:X.subs.length≤64
 bd:∀ (i:Nat) v,X.subs[i]? = some v→Bd (C*(i+1)) v
 arc:∀ x∈X.arcs,x.1≤k∧x.1<X.subs.length∧x.2.2.1<X.subs.length∧∃ c,wt x=some c∧c≤C*66
theorem Dok.one {st C k:Nat} {N:List Ac} {us:List Bool} {l:Nat} {X Y:Ds} (h:Dok st C k X) (hk:k<X.subs.length) (hN:∀ x∈N,cst x≤C) (hs:oneS N us k l X=some Y):Dok st C k Y∧X.subs.length≤Y.subs.length:=by
 unfold oneS at hs
 obtain ⟨v,hv⟩:∃ v,X.subs[k]? = some v:=⟨_,List.getElem?_eq_getElem hk⟩
 have hget:X.subs.getD k []=v:=by rw [List.getD_eq_getElem?_getD,hv]; rfl
 rw [hget] at hs
 have hvl:=h.len v (List.mem_of_getElem? hv)
 have hb:=bd_nextTo (us:=us) (l:=l) (h.bd k v hv) hN v.length
 have hk64:=h.num
 split at hs
 ·cases hs; exact ⟨h,Nat.le_refl _⟩
 ·rename_i c nx hset
  obtain ⟨h1,h2⟩:=setl_some hset
  have hc:c≤C*(k+1)+C:=hb c (least_mem h1)
  have hc66:c≤C*66:=Nat.le_trans hc (by
   have:C*(k+1)+C=C*(k+2):=by rw [Nat.mul_add,Nat.mul_add]; omega
   rw [this]
   exact Nat.mul_le_mul_left _ (by omega))
  have hnx:nx.length=st:=by rw [h2,lowV_len,nextV_len,hvl]
  have hbn:Bd (C*(k+2)) nx:=by
   rw [h2]
   refine (bd_low hb).mono ?_
   rw [Nat.mul_add C k 1,Nat.mul_add C k 2]; omega
  split at hs
  ·rename_i num hnum
   cases hs
   have hlt:num<X.subs.length:=by
    have:=List.findIdx?_eq_some_iff_getElem.1 hnum
    exact this.1
   exact ⟨⟨h.len,h.num,h.bd,fun x hx=>by
    rcases List.mem_append.1 hx with hx | hx
    ·exact h.arc x hx
    ·obtain rfl:x=(k,l,num,some c):=by simpa using hx
     exact ⟨Nat.le_refl _,hk,hlt,c,rfl,hc66⟩⟩,Nat.le_refl _⟩
  ·split at hs
   ·cases hs
   ·rename_i h64
    cases hs
    refine ⟨⟨fun w hw=>?_,by simp; omega,fun i w hw=>?_,fun x hx=>?_⟩,by simp⟩
    ·rcases List.mem_append.1 hw with hw | hw
     ·exact h.len w hw
     ·obtain rfl:w=nx:=by simpa using hw
      exact hnx
    ·rw [List.getElem?_append] at hw
     split at hw
     ·exact h.bd i w hw
     ·rename_i hi
      have hi0:i-X.subs.length=0:=by
       have:=(List.getElem?_eq_some_iff.1 hw).1
       simp at this; omega
      rw [hi0] at hw
      simp at hw
      subst hw
      exact hbn.mono (Nat.mul_le_mul_left _ (by omega))
    ·simp only [List.length_append,List.length_cons,List.length_nil]
     rcases List.mem_append.1 hx with hx | hx
     ·obtain ⟨a,b,c',d⟩:=h.arc x hx
      exact ⟨a,by omega,by omega,d⟩
     ·obtain rfl:x=(k,l,X.subs.length,some c):=by simpa using hx
      exact ⟨Nat.le_refl _,by simp only; omega,by simp only; omega,c,rfl,hc66⟩
theorem Dok.next {st C k:Nat} {X:Ds} (h:Dok st C k X):Dok st C (k+1) X:=⟨h.len,h.num,h.bd,fun x hx=>by obtain ⟨a,b⟩:=h.arc x hx; exact ⟨by omega,b⟩⟩
end
section
open Go.RowKit
def tc (v:Tw):Nat:=v.getD 0
def ti (v:Tw):Bool:=v.isNone
abbrev twC (v:Tw):List Value:=[.bool false,.slice none 0 0,.slice none 0 0,.int .i64 (tc (v):Int),.bool (ti (v)),.int .u64 0,.slice none 0 0,.slice none 0 0]
def TwOk (v:Tw):Prop:=tc v≤1099511627776
theorem ti_tc {v:Tw} (h:ti v=true):tc v=0:=by cases v with
 | none=>rfl
 | some a=>cases h
theorem plusTw_eq (v w:Tw):(if (!ti w&&(ti v||decide (tc w<tc v)))=true then .agg #[.bool false,.slice none 0 0,.slice none 0 0,.int .i64 (tc (w):Int),.bool (ti (w)),.int .u64 0,.slice none 0 0,.slice none 0 0] else .agg #[.bool false,.slice none 0 0,.slice none 0 0,.int .i64 (tc (v):Int),.bool (ti (v)),.int .u64 0,.slice none 0 0,.slice none 0 0]:Value)=.agg #[.bool false,.slice none 0 0,.slice none 0 0,.int .i64 (tc (twPlus v w):Int),.bool (ti (twPlus v w)),.int .u64 0,.slice none 0 0,.slice none 0 0]:=by
 cases v with
 | none=>cases w<;>simp [ti,tc,twPlus,twLess]
 | some a=>cases w with
  | none=>simp [ti,tc,twPlus,twLess]
  | some b =>
   by_cases h:b<a<;>simp [ti,tc,twPlus,twLess,h]
theorem plusTw_any (v u:Tw) (hv:TwOk v) (hu:TwOk u) (w:World):Calls Tryz.prog 77 #[.agg #[.int .i64 2,.slice none 0 0],.agg #[.bool false,.slice none 0 0,.slice none 0 0,.int .i64 (tc (v):Int),.bool (ti (v)),.int .u64 0,.slice none 0 0,.slice none 0 0],.agg #[.bool false,.slice none 0 0,.slice none 0 0,.int .i64 (tc (u):Int),.bool (ti (u)),.int .u64 0,.slice none 0 0,.slice none 0 0]] w fun e w'=>e=.returned (.agg #[.bool false,.slice none 0 0,.slice none 0 0,.int .i64 (tc (twPlus v u):Int),.bool (ti (twPlus v u)),.int .u64 0,.slice none 0 0,.slice none 0 0])∧Below w.heap.size w w' :=
 (plusT_any (tc v) (tc u) (ti v) (ti u) hv ti_tc hu ti_tc w).mono (by rintro e w' ⟨rfl,hb⟩; exact ⟨by rw [plusTw_eq],hb⟩)
theorem zeroTw_any (w:World):Calls Tryz.prog 76 #[.agg #[.int .i64 2,.slice none 0 0]] w fun e w'=>e=.returned (.agg #[.bool false,.slice none 0 0,.slice none 0 0,.int .i64 (tc (none):Int),.bool (ti (none)),.int .u64 0,.slice none 0 0,.slice none 0 0])∧Below w.heap.size w w':=zeroT_any w
theorem checkTw_any (v:Tw) (hv:TwOk v) (w:World):Calls Tryz.prog 152 #[.agg #[.int .i64 2,.slice none 0 0],.agg #[.bool false,.slice none 0 0,.slice none 0 0,.int .i64 (tc (v):Int),.bool (ti (v)),.int .u64 0,.slice none 0 0,.slice none 0 0]] w fun e w'=>e=.returned (.bool true)∧Below w.heap.size w w' :=
 checkT_any (tc v) (ti v) hv ti_tc w
theorem tw_ext {v u:Tw} (h1:tc v=tc u) (h2:ti v=ti u):v=u:=by
 cases v<;>cases u<;>simp_all [tc,ti]
abbrev acC (x:Ac):List Value:=[.int .i64 ((x).1:Int),.int .i64 ((x).2.1:Int),.int .i64 ((x).2.2.1:Int),.bool false,.slice none 0 0,.slice none 0 0,.int .i64 (tc (wt x):Int),.bool (ti (wt x)),.int .u64 0,.slice none 0 0,.slice none 0 0]
theorem weights1_any (v:Tw) (hv:TwOk v) (G:Nat) (w:World) (hG:Bl G [.int .i64 2,.slice none 0 0] 26 w):Calls Tryz.prog 243 #[.agg #[.bool false,.slice none 0 0,.slice none 0 0,.int .i64 (tc (v):Int),.bool (ti (v)),.int .u64 0,.slice none 0 0,.slice none 0 0],.pointer (some ⟨G,0,none⟩)] w fun e w'=>e=.returned (.bool false)∧Below w.heap.size w w':=by
 have hb0:Below w.heap.size w (w.alloc (.cells #[.bool false,.slice none 0 0,.slice none 0 0,.int .i64 (tc v:Int),.bool (ti v),.int .u64 0,.slice none 0 0,.slice none 0 0] 45)):=below_alloc _
 have hA:=hG.new (.cells #[.bool false,.slice none 0 0,.slice none 0 0,.int .i64 (tc v:Int),.bool (ti v),.int .u64 0,.slice none 0 0,.slice none 0 0] 45)
 have hB:=Bl.fresh w (twC v) 45
 obtain ⟨a0,a1⟩:=hA.two
 obtain ⟨⟨y0,y1,y2,y3⟩,y4,y5,y6,y7⟩:=hB.eight
 clear hA hB
 go_enter Tryz.func243,Tryz.ntmps243
 go_wp2_with fail
 refine (checkTw_any v hv _).mono ?_; rintro e w1 ⟨rfl,hb1⟩
 go_wp2_with fail
 go_ret
 exact ⟨rfl,below_chain hb0 hb1⟩
theorem Cs.eight {w:World} {b o:Nat} {a0 a1 a2 a3 a4 a5 a6 a7:Value} (h:Cs w b o [a0,a1,a2,a3,a4,a5,a6,a7]) :
  (w.cell? ⟨b,o,none⟩=some a0∧w.cell? ⟨b,o+1,none⟩=some a1∧w.cell? ⟨b,o+2,none⟩=some a2∧w.cell? ⟨b,o+3,none⟩=some a3)∧w.cell? ⟨b,o+4,none⟩=some a4∧w.cell? ⟨b,o+5,none⟩=some a5∧w.cell? ⟨b,o+6,none⟩=some a6∧w.cell? ⟨b,o+7,none⟩=some a7 :=
 ⟨⟨h 0 _ rfl,h 1 _ rfl,h 2 _ rfl,h 3 _ rfl⟩,h 4 _ rfl,h 5 _ rfl,h 6 _ rfl,h 7 _ rfl⟩
set_option maxHeartbeats 1000000 in
theorem indexW_any (xs:List Tw) (hx:∀ v∈xs,TwOk v) (G:Nat) (ao:Option Addr) (n cap:Nat) (w:World) (h:Fl 8 w ao n cap (xs.map twC)) (hG:Bl G [.int .i64 2,.slice none 0 0] 26 w) :
  Calls Tryz.prog 292 #[.slice ao n cap,.func (.func 243) #[] #[.pointer (some ⟨G,0,none⟩)]] w fun e w' =>
   e=.returned (.int .i64 (-1))∧Below w.heap.size w w':=by
 have hbd:=h.bound
 have hl:=hid h.lenMap
 go_enter Tryz.func292,Tryz.ntmps292
 go_wp2_with fail
 go_loopw [8] (fun iv wr=>∃ k:Nat,k≤n∧iv=.int .i64 k∧Below w.heap.size w wr) (fun i _=>n-(intOf i).toNat)
 case atStart=>exact ⟨0,by omega,rfl,Below.refl _ _⟩
 case round =>
  obtain ⟨k,hk,rfl,hb⟩:=hrel
  have hf:=h.next hb
  have hGr:=hG.next hb
  by_cases hlt:k<n
  ·obtain ⟨x,hxk,b,off,rfl,hcs⟩:=hf.get hlt
   have hxo:TwOk x:=hx x (List.mem_of_getElem? hxk)
   obtain ⟨⟨y0,y1,y2,y3⟩,y4,y5,y6,y7⟩:=hcs.eight
   have hxk:=hid hxk
   go_wp2_with fail
   refine (weights1_any x hxo G _ hGr).mono ?_; rintro e w' ⟨rfl,hb'⟩
   go_wp2_with fail
   go_round
   case rel=>exact ⟨k+1,by omega,by go_num,below_chain hb hb'⟩
   case measure=>simp [intOf]; omega
  ·go_wp2_with fail
   go_ret
   exact ⟨rfl,hb⟩
theorem containsW_any (xs:List Tw) (hx:∀ v∈xs,TwOk v) (G:Nat) (ao:Option Addr) (n cap:Nat) (w:World) (h:Fl 8 w ao n cap (xs.map twC)) (hG:Bl G [.int .i64 2,.slice none 0 0] 26 w) :
  Calls Tryz.prog 242 #[.slice ao n cap,.func (.func 243) #[] #[.pointer (some ⟨G,0,none⟩)]] w fun e w' =>
   e=.returned (.bool false)∧Below w.heap.size w w':=by
 go_enter Tryz.func242,Tryz.ntmps242
 go_wp2_with fail
 refine (indexW_any xs hx G ao n cap w h hG).mono ?_; rintro e w' ⟨rfl,hb'⟩
 go_wp2_with fail
 go_ret
 exact ⟨rfl,hb'⟩
theorem weights_any (xs:List Tw) (hx:∀ v∈xs,TwOk v) (ao:Option Addr) (n cap:Nat) (w:World) (h:Fl 8 w ao n cap (xs.map twC)) :
  Calls Tryz.prog 166 #[.agg #[.int .i64 2,.slice none 0 0],.slice ao n cap] w fun e w' =>
   e=.returned (.bool true)∧Below w.heap.size w w':=by
 have hb0:Below w.heap.size w (w.alloc (.cells #[.int .i64 2,.slice none 0 0] 26)):=below_alloc _
 have hG:=Bl.fresh w [.int .i64 2,.slice none 0 0] 26
 have hf:=h.next hb0
 go_enter Tryz.func166,Tryz.ntmps166
 go_wp2_with fail
 refine (containsW_any xs hx w.heap.size ao n cap _ hf hG).mono ?_; rintro e w' ⟨rfl,hb'⟩
 go_wp2_with fail
 go_ret
 exact ⟨rfl,below_chain hb0 hb'⟩
end
end Go.Proofs.YtnapapijhhldpaaGreatDoor

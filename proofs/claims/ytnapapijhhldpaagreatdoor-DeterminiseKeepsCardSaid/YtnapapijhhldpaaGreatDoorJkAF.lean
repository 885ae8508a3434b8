/-
  Texts joined by program: Twf, Twg. No condition of its own.
-/
import Derived.Test.YtnapapijhhldpaaGreatDoorJkAE
namespace Go.Proofs.YtnapapijhhldpaaGreatDoor
set_option linter.unusedSimpArgs false
set_option linter.unusedVariables false
set_option maxRecDepth 100000
set_option maxHeartbeats 4000000
section
open Go.RowKit
theorem z6q (w:World) (c d:Int) (i j:Bool):∃ W,W=((((w.alloc (.cells #[.int .i64 2,.slice none 0 0] 26)).alloc (.cells #[.bool false,.slice none 0 0,.slice none 0 0,.int .i64 c,.bool i,.int .u64 0,.slice none 0 0,.slice none 0 0] 45)).alloc (.cells #[.bool false,.slice none 0 0,.slice none 0 0,.int .i64 d,.bool j,.int .u64 0,.slice none 0 0,.slice none 0 0] 45)).alloc (.cells #[.bool false,.slice none 0 0,.slice none 0 0,.int .i64 0,.bool false,.int .u64 0,.slice none 0 0,.slice none 0 0] 45))/\Below w.heap.size w W /\
  Bl w.heap.size [.int .i64 2,.slice none 0 0] 26 W/\Bl (w.heap.size+1) [.bool false,.slice none 0 0,.slice none 0 0,.int .i64 c,.bool i,.int .u64 0,.slice none 0 0,.slice none 0 0] 45 W/\Bl (w.heap.size+1+1) [.bool false,.slice none 0 0,.slice none 0 0,.int .i64 d,.bool j,.int .u64 0,.slice none 0 0,.slice none 0 0] 45 W/\Bl (w.heap.size+1+1+1) [.bool false,.slice none 0 0,.slice none 0 0,.int .i64 0,.bool false,.int .u64 0,.slice none 0 0,.slice none 0 0] 45 W:=by
 obtain ⟨h1,h2,h3,h4⟩:=z6r w c d i j
 exact ⟨_,rfl,qQ h1 (qJ _),h2.new _,h3.new _,h4.new _,Bl.fresh' (G:=w.heap.size+1+1+1) (((w.alloc (.cells #[.int .i64 2,.slice none 0 0] 26)).alloc (.cells #[.bool false,.slice none 0 0,.slice none 0 0,.int .i64 c,.bool i,.int .u64 0,.slice none 0 0,.slice none 0 0] 45)).alloc (.cells #[.bool false,.slice none 0 0,.slice none 0 0,.int .i64 d,.bool j,.int .u64 0,.slice none 0 0,.slice none 0 0] 45)) [.bool false,.slice none 0 0,.slice none 0 0,.int .i64 0,.bool false,.int .u64 0,.slice none 0 0,.slice none 0 0] 45 (by simp)⟩
theorem Bl.off8 {H G:Nat} {cs:List Value} {T:TypeId} {w:World} (h:Bl H cs T w) (hG:H≠G) (a' b' c' d' e' f' g' k':Value):Bl H cs T ((((((((w.setCell ⟨G,0,none⟩ a').setCell ⟨G,1,none⟩ b').setCell ⟨G,2,none⟩ c').setCell ⟨G,3,none⟩ d').setCell ⟨G,4,none⟩ e').setCell ⟨G,5,none⟩ f').setCell ⟨G,6,none⟩ g').setCell ⟨G,7,none⟩ k') :=
 (((((((h.off (p:=⟨G,0,none⟩) hG a').off (p:=⟨G,1,none⟩) hG b').off (p:=⟨G,2,none⟩) hG c').off (p:=⟨G,3,none⟩) hG d').off (p:=⟨G,4,none⟩) hG e').off (p:=⟨G,5,none⟩) hG f').off (p:=⟨G,6,none⟩) hG g').off (p:=⟨G,7,none⟩) hG k'
theorem j5z (c d:Nat) (i j:Bool) (hc:c<=1099511627776) (hi:i=true->c=0) (hd:d<=1099511627776) (hj:j=true->d=0) (w:World):Calls Tryz.prog 77 #[.agg #[.int .i64 2,.slice none 0 0],.agg #[.bool false,.slice none 0 0,.slice none 0 0,.int .i64 (c:Int),.bool i,.int .u64 0,.slice none 0 0,.slice none 0 0],.agg #[.bool false,.slice none 0 0,.slice none 0 0,.int .i64 (d:Int),.bool j,.int .u64 0,.slice none 0 0,.slice none 0 0]] w fun e w'=>e=.returned (if (!j&&(i||decide (d<c)))=true then .agg #[.bool false,.slice none 0 0,.slice none 0 0,.int .i64 (d:Int),.bool j,.int .u64 0,.slice none 0 0,.slice none 0 0] else .agg #[.bool false,.slice none 0 0,.slice none 0 0,.int .i64 (c:Int),.bool i,.int .u64 0,.slice none 0 0,.slice none 0 0])/\Below w.heap.size w w':=by
 obtain ⟨W,hW,hb0,hA,hB,hC,hO⟩:=z6q w (c:Int) (d:Int) i j
 have hle:=hid (fun W=>(j4b c d i j W))
 obtain ⟨q,hq⟩:∃ q,(!j&&(i||decide (d<c)))=q:=⟨_,rfl⟩
 rw [hq] at hle ⊢
 clear hq
 obtain ⟨V,hV,hX,hX2⟩:∃ V:Value,V=(if q=true then .agg #[.bool false,.slice none 0 0,.slice none 0 0,.int .i64 (d:Int),.bool j,.int .u64 0,.slice none 0 0,.slice none 0 0] else .agg #[.bool false,.slice none 0 0,.slice none 0 0,.int .i64 (c:Int),.bool i,.int .u64 0,.slice none 0 0,.slice none 0 0])/\(∃ (z:Int) (b:Bool),V=.agg #[.bool false,.slice none 0 0,.slice none 0 0,.int .i64 z,.bool b,.int .u64 0,.slice none 0 0,.slice none 0 0])/\True:=⟨_,rfl,by cases q<;>exact ⟨_,_,rfl⟩,trivial⟩
 rw [<-hV] at hle ⊢
 obtain ⟨z,b,rfl⟩:=hX
 clear hV hX2
 go_enter Tryz.func77,Tryz.ntmps77
 go_wp2_with fail
 rw [<-hW]
 clear hW
 refine (q0n _).mono ?_; rintro e w1 ⟨rfl,hb1⟩
 replace hA:=hA.next hb1
 replace hB:=hB.next hb1
 replace hC:=hC.next hb1
 replace hO:=hO.next hb1
 have hb:=qQ hb0 hb1
 clear hb0 hb1
 go_wp2_with fail
 have hdr:=(Below.refl w1.heap.size w1).drew
 have hS:C2w w.heap.size (.int .i64 2) (.slice none 0 0) w1.drew/\C8w (w.heap.size+1) (.bool false) (.slice none 0 0) (.slice none 0 0) (.int .i64 (c:Int)) (.bool i) (.int .u64 0) (.slice none 0 0) (.slice none 0 0) w1.drew/\C8w (w.heap.size+1+1) (.bool false) (.slice none 0 0) (.slice none 0 0) (.int .i64 (d:Int)) (.bool j) (.int .u64 0) (.slice none 0 0) (.slice none 0 0) w1.drew:=⟨C2w.next hA.two hdr,C8w.next hB.eight hdr,C8w.next hC.eight hdr⟩
 have hK:∀ w' w'',(C2w w.heap.size (.int .i64 2) (.slice none 0 0) w'/\C8w (w.heap.size+1) (.bool false) (.slice none 0 0) (.slice none 0 0) (.int .i64 (c:Int)) (.bool i) (.int .u64 0) (.slice none 0 0) (.slice none 0 0) w'/\C8w (w.heap.size+1+1) (.bool false) (.slice none 0 0) (.slice none 0 0) (.int .i64 (d:Int)) (.bool j) (.int .u64 0) (.slice none 0 0) (.slice none 0 0) w')->Below w'.heap.size w' w''->(C2w w.heap.size (.int .i64 2) (.slice none 0 0) w''/\C8w (w.heap.size+1) (.bool false) (.slice none 0 0) (.slice none 0 0) (.int .i64 (c:Int)) (.bool i) (.int .u64 0) (.slice none 0 0) (.slice none 0 0) w''/\C8w (w.heap.size+1+1) (.bool false) (.slice none 0 0) (.slice none 0 0) (.int .i64 (d:Int)) (.bool j) (.int .u64 0) (.slice none 0 0) (.slice none 0 0) w''):=fun w' w'' h hb=>⟨C2w.next h.1 hb,C8w.next h.2.1 hb,C8w.next h.2.2 hb⟩
 replace hA:=hA.next hdr
 replace hB:=hB.next hdr
 replace hC:=hC.next hdr
 replace hO:=hO.next hdr
 replace hb:=hb.trans (hdr.mono hb.size)
 clear hdr
 refine qV (fun w'=>C2w w.heap.size (.int .i64 2) (.slice none 0 0) w'/\C8w (w.heap.size+1) (.bool false) (.slice none 0 0) (.slice none 0 0) (.int .i64 (c:Int)) (.bool i) (.int .u64 0) (.slice none 0 0) (.slice none 0 0) w'/\C8w (w.heap.size+1+1) (.bool false) (.slice none 0 0) (.slice none 0 0) (.int .i64 (d:Int)) (.bool j) (.int .u64 0) (.slice none 0 0) (.slice none 0 0) w') [6,7] (by kernel_rfl) ?_
 refine wCl 0 (v:=?_) rfl ?_ hS ?_
 rotate_left
 ·intro w hw; obtain ⟨⟨a0,a1⟩,⟨⟨b0,b1,b2,b3⟩,b4,b5,b6,b7⟩,⟨c0,c1,c2,c3⟩,c4,c5,c6,c7⟩:=hw; first | (go_simp; done) | (go_simp; with_reducible rfl)
 refine wCl 1 (v:=?_) rfl ?_ hS ?_
 rotate_left
 ·intro w hw; obtain ⟨⟨a0,a1⟩,⟨⟨b0,b1,b2,b3⟩,b4,b5,b6,b7⟩,⟨c0,c1,c2,c3⟩,c4,c5,c6,c7⟩:=hw; first | (go_simp; done) | (go_simp; with_reducible rfl)
 refine wCl 3 (v:=?_) rfl ?_ hS ?_
 rotate_left
 ·intro w hw; obtain ⟨⟨a0,a1⟩,⟨⟨b0,b1,b2,b3⟩,b4,b5,b6,b7⟩,⟨c0,c1,c2,c3⟩,c4,c5,c6,c7⟩:=hw; first | (go_simp; done) | (go_simp; with_reducible rfl)
 refine wCl 4 (v:=?_) rfl ?_ hS ?_
 rotate_left
 ·intro w hw; obtain ⟨⟨a0,a1⟩,⟨⟨b0,b1,b2,b3⟩,b4,b5,b6,b7⟩,⟨c0,c1,c2,c3⟩,c4,c5,c6,c7⟩:=hw; first | (go_simp; done) | (go_simp; with_reducible rfl)
 refine wpO (i:=2) rfl fun KK hKK=>?_
 go_simp
 go_at_call 108
 refine (q1l c i hc hi _).mono ?_; rintro e w2 ⟨rfl,hb2⟩
 try go_simp
 refine hKK _ _ ⟨fun _=>(hK _ _ hS hb2),?_⟩; clear hKK KK
 refine wpO (i:=5) rfl fun KK hKK=>?_
 go_simp
 go_at_call 108
 refine (q1l d j hd hj _).mono ?_; rintro e w3 ⟨rfl,hb3⟩
 have hbb:=qQ (qQ hb hb2) hb3
 replace hA:=(hA.next hb2).next hb3
 replace hB:=(hB.next hb2).next hb3
 replace hC:=(hC.next hb2).next hb3
 replace hO:=(hO.next hb2).next hb3
 try go_simp
 refine hKK _ _ ⟨fun _=>(hK _ _ (hK _ _ hS hb2) hb3),?_⟩; clear hKK KK
 refine wpO (i:=6) rfl fun KK hKK=>?_
 have e8b:=hB.eight
 have b0:=e8b.1.1
 have b1:=e8b.1.2.1
 have b2:=e8b.1.2.2.1
 have b3:=e8b.1.2.2.2
 have b4:=e8b.2.1
 have b5:=e8b.2.2.1
 have b6:=e8b.2.2.2.1
 have b7:=e8b.2.2.2.2
 clear e8b
 have e8f:=hB.free8
 have f0:=e8f.1.1
 have f1:=e8f.1.2.1
 have f2:=e8f.1.2.2.1
 have f3:=e8f.1.2.2.2
 have f4:=e8f.2.1
 have f5:=e8f.2.2.1
 have f6:=e8f.2.2.2.1
 have f7:=e8f.2.2.2.2
 clear e8f
 go_simp
 refine lN hKK ?_; clear hKK KK
 refine wpO (i:=7) rfl fun KK hKK=>?_
 have hB1:=hB.put8 (.bool false) (.slice none 0 0) (.slice none 0 0) (.int .i64 (c:Int)) (.bool i) (.int .u64 0) (.slice none 0 0) (.slice none 0 0)
 have hC1:=hC.off8 (G:=w.heap.size+1) (by omega) (.bool false) (.slice none 0 0) (.slice none 0 0) (.int .i64 (c:Int)) (.bool i) (.int .u64 0) (.slice none 0 0) (.slice none 0 0)
 have hA1:=hA.off8 (G:=w.heap.size+1) (by omega) (.bool false) (.slice none 0 0) (.slice none 0 0) (.int .i64 (c:Int)) (.bool i) (.int .u64 0) (.slice none 0 0) (.slice none 0 0)
 have hO1:=hO.off8 (G:=w.heap.size+1) (by omega) (.bool false) (.slice none 0 0) (.slice none 0 0) (.int .i64 (c:Int)) (.bool i) (.int .u64 0) (.slice none 0 0) (.slice none 0 0)
 have hbb1:=q0d hbb (show w.heap.size<=w.heap.size+1 by omega) (.bool false) (.slice none 0 0) (.slice none 0 0) (.int .i64 (c:Int)) (.bool i) (.int .u64 0) (.slice none 0 0) (.slice none 0 0)
 clear hA hB hC hO hbb
 clear b0 b1 b2 b3 b4 b5 b6 b7 f0 f1 f2 f3 f4 f5 f6 f7
 have e8c:=hC1.eight
 have c0:=e8c.1.1
 have c1:=e8c.1.2.1
 have c2:=e8c.1.2.2.1
 have c3:=e8c.1.2.2.2
 have c4:=e8c.2.1
 have c5:=e8c.2.2.1
 have c6:=e8c.2.2.2.1
 have c7:=e8c.2.2.2.2
 clear e8c
 have e8f:=hC1.free8
 have f0:=e8f.1.1
 have f1:=e8f.1.2.1
 have f2:=e8f.1.2.2.1
 have f3:=e8f.1.2.2.2
 have f4:=e8f.2.1
 have f5:=e8f.2.2.1
 have f6:=e8f.2.2.2.1
 have f7:=e8f.2.2.2.2
 clear e8f
 go_simp
 refine lN hKK ?_; clear hKK KK
 refine qZ (by kernel_rfl) ?_ _
 have hC2:=hC1.put8 (.bool false) (.slice none 0 0) (.slice none 0 0) (.int .i64 (d:Int)) (.bool j) (.int .u64 0) (.slice none 0 0) (.slice none 0 0)
 have hB2:=hB1.off8 (G:=w.heap.size+1+1) (by omega) (.bool false) (.slice none 0 0) (.slice none 0 0) (.int .i64 (d:Int)) (.bool j) (.int .u64 0) (.slice none 0 0) (.slice none 0 0)
 have hA2:=hA1.off8 (G:=w.heap.size+1+1) (by omega) (.bool false) (.slice none 0 0) (.slice none 0 0) (.int .i64 (d:Int)) (.bool j) (.int .u64 0) (.slice none 0 0) (.slice none 0 0)
 have hO2:=hO1.off8 (G:=w.heap.size+1+1) (by omega) (.bool false) (.slice none 0 0) (.slice none 0 0) (.int .i64 (d:Int)) (.bool j) (.int .u64 0) (.slice none 0 0) (.slice none 0 0)
 have hbb2:=q0d hbb1 (show w.heap.size<=w.heap.size+1+1 by omega) (.bool false) (.slice none 0 0) (.slice none 0 0) (.int .i64 (d:Int)) (.bool j) (.int .u64 0) (.slice none 0 0) (.slice none 0 0)
 clear hA1 hB1 hC1 hO1 hbb1 hS hb hb2 hb3
 clear c0 c1 c2 c3 c4 c5 c6 c7 f0 f1 f2 f3 f4 f5 f6 f7
 generalize (World.setCell _ ⟨w.heap.size+1+1,7,none⟩ (.slice none 0 0))=W4 at *
 have e2a:=hA2.two
 have a0:=e2a.1
 have a1:=e2a.2
 clear e2a
 go_upto_region 5 with fail
 clear a0 a1
 have hdr:=(Below.refl W4.heap.size W4).drew
 have hS:C2w w.heap.size (.int .i64 2) (.slice none 0 0) W4.drew/\C8w (w.heap.size+1) (.bool false) (.slice none 0 0) (.slice none 0 0) (.int .i64 (c:Int)) (.bool i) (.int .u64 0) (.slice none 0 0) (.slice none 0 0) W4.drew/\C8w (w.heap.size+1+1) (.bool false) (.slice none 0 0) (.slice none 0 0) (.int .i64 (d:Int)) (.bool j) (.int .u64 0) (.slice none 0 0) (.slice none 0 0) W4.drew:=⟨C2w.next hA2.two hdr,C8w.next hB2.eight hdr,C8w.next hC2.eight hdr⟩
 replace hO2:=hO2.next hdr
 replace hbb2:=hbb2.trans (hdr.mono hbb2.size)
 clear hdr hA2 hB2 hC2
 refine qV (fun w'=>C2w w.heap.size (.int .i64 2) (.slice none 0 0) w'/\C8w (w.heap.size+1) (.bool false) (.slice none 0 0) (.slice none 0 0) (.int .i64 (c:Int)) (.bool i) (.int .u64 0) (.slice none 0 0) (.slice none 0 0) w'/\C8w (w.heap.size+1+1) (.bool false) (.slice none 0 0) (.slice none 0 0) (.int .i64 (d:Int)) (.bool j) (.int .u64 0) (.slice none 0 0) (.slice none 0 0) w') [7] (by kernel_rfl) ?_
 refine wCp 0 rfl hS ?_
 refine wCl 1 (v:=?_) rfl ?_ hS ?_
 rotate_left
 ·intro w hw; obtain ⟨⟨a0,a1⟩,⟨⟨b0,b1,b2,b3⟩,b4,b5,b6,b7⟩,⟨c0,c1,c2,c3⟩,c4,c5,c6,c7⟩:=hw; first | (go_simp; done) | (go_simp; with_reducible rfl)
 refine wCl 4 (v:=?_) rfl ?_ hS ?_
 rotate_left
 ·intro w hw; obtain ⟨⟨a0,a1⟩,⟨⟨b0,b1,b2,b3⟩,b4,b5,b6,b7⟩,⟨c0,c1,c2,c3⟩,c4,c5,c6,c7⟩:=hw; first | (go_simp; done) | (go_simp; with_reducible rfl)
 refine wCl 5 (v:=?_) rfl ?_ hS ?_
 rotate_left
 ·intro w hw; obtain ⟨⟨a0,a1⟩,⟨⟨b0,b1,b2,b3⟩,b4,b5,b6,b7⟩,⟨c0,c1,c2,c3⟩,c4,c5,c6,c7⟩:=hw; first | (go_simp; done) | (go_simp; with_reducible rfl)
 refine wpO (i:=2) rfl fun KK hKK=>?_
 go_simp
 go_at_call 105
 refine (q2p _).mono ?_; rintro e w5 ⟨⟨u,p,rfl⟩,hb5⟩
 have hfl:=z6j u p
 try go_simp
 refine hKK _ _ ⟨fun _=>(hK _ _ hS hb5),?_⟩; clear hKK KK
 refine wCp 3 rfl (hK _ _ hS hb5) ?_
 refine wpO (i:=6) rfl fun KK hKK=>?_
 go_simp
 go_at_call 197
 refine (hle.out _).mono ?_; rintro e w6 ⟨rfl,hb6⟩
 replace hO2:=(hO2.next hb5).next hb6
 have hbb6:=qQ (qQ hbb2 hb5) hb6
 try go_simp
 refine hKK _ _ ⟨fun _=>(hK _ _ (hK _ _ hS hb5) hb6),?_⟩; clear hKK KK
 refine wpO (i:=7) rfl fun KK hKK=>?_
 have hO6:=hO2.put8 (.bool false) (.slice none 0 0) (.slice none 0 0) (.int .i64 z) (.bool b) (.int .u64 0) (.slice none 0 0) (.slice none 0 0)
 have hbd:=q0d hbb6 (show w.heap.size<=w.heap.size+1+1+1 by omega) (.bool false) (.slice none 0 0) (.slice none 0 0) (.int .i64 z) (.bool b) (.int .u64 0) (.slice none 0 0) (.slice none 0 0)
 clear hS
 have e8o:=hO2.eight
 have o0:=e8o.1.1
 have o1:=e8o.1.2.1
 have o2:=e8o.1.2.2.1
 have o3:=e8o.1.2.2.2
 have o4:=e8o.2.1
 have o5:=e8o.2.2.1
 have o6:=e8o.2.2.2.1
 have o7:=e8o.2.2.2.2
 clear e8o
 have e8f:=hO2.free8
 have f0:=e8f.1.1
 have f1:=e8f.1.2.1
 have f2:=e8f.1.2.2.1
 have f3:=e8f.1.2.2.2
 have f4:=e8f.2.1
 have f5:=e8f.2.2.1
 have f6:=e8f.2.2.2.1
 have f7:=e8f.2.2.2.2
 clear e8f
 go_simp
 refine lN hKK ?_; clear hKK KK
 refine qZ (by kernel_rfl) ?_ _
 obtain ⟨⟨e0,e1,e2,e3⟩,e4,e5,e6,e7⟩:=hO6.eight
 go_wp2_with fail
 refine bodyPost_ret (v:=.agg #[.bool false,.slice none 0 0,.slice none 0 0,.int .i64 z,.bool b,.int .u64 0,.slice none 0 0,.slice none 0 0]) (by simp [results,Tryz.results77,go_sem,e0,e1,e2,e3,e4,e5,e6,e7]) rfl ?_
 exact ⟨rfl,hbd⟩
theorem j2v (c d:Nat) (i j:Bool) (hc:c<=1099511627776) (hi:i=true->c=0) (hd:d<=1099511627776) (hj:j=true->d=0) (w:World):Calls Tryz.prog 78 #[.agg #[.int .i64 2,.slice none 0 0],.agg #[.bool false,.slice none 0 0,.slice none 0 0,.int .i64 (c:Int),.bool i,.int .u64 0,.slice none 0 0,.slice none 0 0],.agg #[.bool false,.slice none 0 0,.slice none 0 0,.int .i64 (d:Int),.bool j,.int .u64 0,.slice none 0 0,.slice none 0 0]] w fun e w'=>e=.returned (if (i||j||decide (1099511627776<c+d))=true then .agg #[.bool false,.slice none 0 0,.slice none 0 0,.int .i64 0,.bool true,.int .u64 0,.slice none 0 0,.slice none 0 0] else .agg #[.bool false,.slice none 0 0,.slice none 0 0,.int .i64 ((c+d:Nat):Int),.bool false,.int .u64 0,.slice none 0 0,.slice none 0 0])/\Below w.heap.size w w':=by
 obtain ⟨W,hW,hb0,hA,hB,hC,hO⟩:=z6q w (c:Int) (d:Int) i j
 have hle:=hid (fun W=>(j4a c d i j hc hd W))
 obtain ⟨q,hq⟩:∃ q,(i||j||decide (1099511627776<c+d))=q:=⟨_,rfl⟩
 rw [hq] at hle ⊢
 clear hq
 obtain ⟨V,hV,hX,hX2⟩:∃ V:Value,V=(if q=true then .agg #[.bool false,.slice none 0 0,.slice none 0 0,.int .i64 0,.bool true,.int .u64 0,.slice none 0 0,.slice none 0 0] else .agg #[.bool false,.slice none 0 0,.slice none 0 0,.int .i64 ((c+d:Nat):Int),.bool false,.int .u64 0,.slice none 0 0,.slice none 0 0])/\(∃ (z:Int) (b:Bool),V=.agg #[.bool false,.slice none 0 0,.slice none 0 0,.int .i64 z,.bool b,.int .u64 0,.slice none 0 0,.slice none 0 0])/\True:=⟨_,rfl,by cases q<;>exact ⟨_,_,rfl⟩,trivial⟩
 rw [<-hV] at hle ⊢
 obtain ⟨z,b,rfl⟩:=hX
 clear hV hX2
 go_enter Tryz.func78,Tryz.ntmps78
 go_wp2_with fail
 rw [<-hW]
 clear hW
 refine (q0n _).mono ?_; rintro e w1 ⟨rfl,hb1⟩
 replace hA:=hA.next hb1
 replace hB:=hB.next hb1
 replace hC:=hC.next hb1
 replace hO:=hO.next hb1
 have hb:=qQ hb0 hb1
 clear hb0 hb1
 go_wp2_with fail
 have hdr:=(Below.refl w1.heap.size w1).drew
 have hS:C2w w.heap.size (.int .i64 2) (.slice none 0 0) w1.drew/\C8w (w.heap.size+1) (.bool false) (.slice none 0 0) (.slice none 0 0) (.int .i64 (c:Int)) (.bool i) (.int .u64 0) (.slice none 0 0) (.slice none 0 0) w1.drew/\C8w (w.heap.size+1+1) (.bool false) (.slice none 0 0) (.slice none 0 0) (.int .i64 (d:Int)) (.bool j) (.int .u64 0) (.slice none 0 0) (.slice none 0 0) w1.drew:=⟨C2w.next hA.two hdr,C8w.next hB.eight hdr,C8w.next hC.eight hdr⟩
 have hK:∀ w' w'',(C2w w.heap.size (.int .i64 2) (.slice none 0 0) w'/\C8w (w.heap.size+1) (.bool false) (.slice none 0 0) (.slice none 0 0) (.int .i64 (c:Int)) (.bool i) (.int .u64 0) (.slice none 0 0) (.slice none 0 0) w'/\C8w (w.heap.size+1+1) (.bool false) (.slice none 0 0) (.slice none 0 0) (.int .i64 (d:Int)) (.bool j) (.int .u64 0) (.slice none 0 0) (.slice none 0 0) w')->Below w'.heap.size w' w''->(C2w w.heap.size (.int .i64 2) (.slice none 0 0) w''/\C8w (w.heap.size+1) (.bool false) (.slice none 0 0) (.slice none 0 0) (.int .i64 (c:Int)) (.bool i) (.int .u64 0) (.slice none 0 0) (.slice none 0 0) w''/\C8w (w.heap.size+1+1) (.bool false) (.slice none 0 0) (.slice none 0 0) (.int .i64 (d:Int)) (.bool j) (.int .u64 0) (.slice none 0 0) (.slice none 0 0) w''):=fun w' w'' h hb=>⟨C2w.next h.1 hb,C8w.next h.2.1 hb,C8w.next h.2.2 hb⟩
 replace hA:=hA.next hdr
 replace hB:=hB.next hdr
 replace hC:=hC.next hdr
 replace hO:=hO.next hdr
 replace hb:=hb.trans (hdr.mono hb.size)
 clear hdr
 refine qV (fun w'=>C2w w.heap.size (.int .i64 2) (.slice none 0 0) w'/\C8w (w.heap.size+1) (.bool false) (.slice none 0 0) (.slice none 0 0) (.int .i64 (c:Int)) (.bool i) (.int .u64 0) (.slice none 0 0) (.slice none 0 0) w'/\C8w (w.heap.size+1+1) (.bool false) (.slice none 0 0) (.slice none 0 0) (.int .i64 (d:Int)) (.bool j) (.int .u64 0) (.slice none 0 0) (.slice none 0 0) w') [6,7] (by kernel_rfl) ?_
 refine wCl 0 (v:=?_) rfl ?_ hS ?_
 rotate_left
 ·intro w hw; obtain ⟨⟨a0,a1⟩,⟨⟨b0,b1,b2,b3⟩,b4,b5,b6,b7⟩,⟨c0,c1,c2,c3⟩,c4,c5,c6,c7⟩:=hw; first | (go_simp; done) | (go_simp; with_reducible rfl)
 refine wCl 1 (v:=?_) rfl ?_ hS ?_
 rotate_left
 ·intro w hw; obtain ⟨⟨a0,a1⟩,⟨⟨b0,b1,b2,b3⟩,b4,b5,b6,b7⟩,⟨c0,c1,c2,c3⟩,c4,c5,c6,c7⟩:=hw; first | (go_simp; done) | (go_simp; with_reducible rfl)
 refine wCl 3 (v:=?_) rfl ?_ hS ?_
 rotate_left
 ·intro w hw; obtain ⟨⟨a0,a1⟩,⟨⟨b0,b1,b2,b3⟩,b4,b5,b6,b7⟩,⟨c0,c1,c2,c3⟩,c4,c5,c6,c7⟩:=hw; first | (go_simp; done) | (go_simp; with_reducible rfl)
 refine wCl 4 (v:=?_) rfl ?_ hS ?_
 rotate_left
 ·intro w hw; obtain ⟨⟨a0,a1⟩,⟨⟨b0,b1,b2,b3⟩,b4,b5,b6,b7⟩,⟨c0,c1,c2,c3⟩,c4,c5,c6,c7⟩:=hw; first | (go_simp; done) | (go_simp; with_reducible rfl)
 refine wpO (i:=2) rfl fun KK hKK=>?_
 go_simp
 go_at_call 108
 refine (q1l c i hc hi _).mono ?_; rintro e w2 ⟨rfl,hb2⟩
 try go_simp
 refine hKK _ _ ⟨fun _=>(hK _ _ hS hb2),?_⟩; clear hKK KK
 refine wpO (i:=5) rfl fun KK hKK=>?_
 go_simp
 go_at_call 108
 refine (q1l d j hd hj _).mono ?_; rintro e w3 ⟨rfl,hb3⟩
 have hbb:=qQ (qQ hb hb2) hb3
 replace hA:=(hA.next hb2).next hb3
 replace hB:=(hB.next hb2).next hb3
 replace hC:=(hC.next hb2).next hb3
 replace hO:=(hO.next hb2).next hb3
 try go_simp
 refine hKK _ _ ⟨fun _=>(hK _ _ (hK _ _ hS hb2) hb3),?_⟩; clear hKK KK
 refine wpO (i:=6) rfl fun KK hKK=>?_
 have e8b:=hB.eight
 have b0:=e8b.1.1
 have b1:=e8b.1.2.1
 have b2:=e8b.1.2.2.1
 have b3:=e8b.1.2.2.2
 have b4:=e8b.2.1
 have b5:=e8b.2.2.1
 have b6:=e8b.2.2.2.1
 have b7:=e8b.2.2.2.2
 clear e8b
 have e8f:=hB.free8
 have f0:=e8f.1.1
 have f1:=e8f.1.2.1
 have f2:=e8f.1.2.2.1
 have f3:=e8f.1.2.2.2
 have f4:=e8f.2.1
 have f5:=e8f.2.2.1
 have f6:=e8f.2.2.2.1
 have f7:=e8f.2.2.2.2
 clear e8f
 go_simp
 refine lN hKK ?_; clear hKK KK
 refine wpO (i:=7) rfl fun KK hKK=>?_
 have hB1:=hB.put8 (.bool false) (.slice none 0 0) (.slice none 0 0) (.int .i64 (c:Int)) (.bool i) (.int .u64 0) (.slice none 0 0) (.slice none 0 0)
 have hC1:=hC.off8 (G:=w.heap.size+1) (by omega) (.bool false) (.slice none 0 0) (.slice none 0 0) (.int .i64 (c:Int)) (.bool i) (.int .u64 0) (.slice none 0 0) (.slice none 0 0)
 have hA1:=hA.off8 (G:=w.heap.size+1) (by omega) (.bool false) (.slice none 0 0) (.slice none 0 0) (.int .i64 (c:Int)) (.bool i) (.int .u64 0) (.slice none 0 0) (.slice none 0 0)
 have hO1:=hO.off8 (G:=w.heap.size+1) (by omega) (.bool false) (.slice none 0 0) (.slice none 0 0) (.int .i64 (c:Int)) (.bool i) (.int .u64 0) (.slice none 0 0) (.slice none 0 0)
 have hbb1:=q0d hbb (show w.heap.size<=w.heap.size+1 by omega) (.bool false) (.slice none 0 0) (.slice none 0 0) (.int .i64 (c:Int)) (.bool i) (.int .u64 0) (.slice none 0 0) (.slice none 0 0)
 clear hA hB hC hO hbb
 clear b0 b1 b2 b3 b4 b5 b6 b7 f0 f1 f2 f3 f4 f5 f6 f7
 have e8c:=hC1.eight
 have c0:=e8c.1.1
 have c1:=e8c.1.2.1
 have c2:=e8c.1.2.2.1
 have c3:=e8c.1.2.2.2
 have c4:=e8c.2.1
 have c5:=e8c.2.2.1
 have c6:=e8c.2.2.2.1
 have c7:=e8c.2.2.2.2
 clear e8c
 have e8f:=hC1.free8
 have f0:=e8f.1.1
 have f1:=e8f.1.2.1
 have f2:=e8f.1.2.2.1
 have f3:=e8f.1.2.2.2
 have f4:=e8f.2.1
 have f5:=e8f.2.2.1
 have f6:=e8f.2.2.2.1
 have f7:=e8f.2.2.2.2
 clear e8f
 go_simp
 refine lN hKK ?_; clear hKK KK
 refine qZ (by kernel_rfl) ?_ _
 have hC2:=hC1.put8 (.bool false) (.slice none 0 0) (.slice none 0 0) (.int .i64 (d:Int)) (.bool j) (.int .u64 0) (.slice none 0 0) (.slice none 0 0)
 have hB2:=hB1.off8 (G:=w.heap.size+1+1) (by omega) (.bool false) (.slice none 0 0) (.slice none 0 0) (.int .i64 (d:Int)) (.bool j) (.int .u64 0) (.slice none 0 0) (.slice none 0 0)
 have hA2:=hA1.off8 (G:=w.heap.size+1+1) (by omega) (.bool false) (.slice none 0 0) (.slice none 0 0) (.int .i64 (d:Int)) (.bool j) (.int .u64 0) (.slice none 0 0) (.slice none 0 0)
 have hO2:=hO1.off8 (G:=w.heap.size+1+1) (by omega) (.bool false) (.slice none 0 0) (.slice none 0 0) (.int .i64 (d:Int)) (.bool j) (.int .u64 0) (.slice none 0 0) (.slice none 0 0)
 have hbb2:=q0d hbb1 (show w.heap.size<=w.heap.size+1+1 by omega) (.bool false) (.slice none 0 0) (.slice none 0 0) (.int .i64 (d:Int)) (.bool j) (.int .u64 0) (.slice none 0 0) (.slice none 0 0)
 clear hA1 hB1 hC1 hO1 hbb1 hS hb hb2 hb3
 clear c0 c1 c2 c3 c4 c5 c6 c7 f0 f1 f2 f3 f4 f5 f6 f7
 generalize (World.setCell _ ⟨w.heap.size+1+1,7,none⟩ (.slice none 0 0))=W4 at *
 have e2a:=hA2.two
 have a0:=e2a.1
 have a1:=e2a.2
 clear e2a
 go_upto_region 5 with fail
 clear a0 a1
 have hdr:=(Below.refl W4.heap.size W4).drew
 have hS:C2w w.heap.size (.int .i64 2) (.slice none 0 0) W4.drew/\C8w (w.heap.size+1) (.bool false) (.slice none 0 0) (.slice none 0 0) (.int .i64 (c:Int)) (.bool i) (.int .u64 0) (.slice none 0 0) (.slice none 0 0) W4.drew/\C8w (w.heap.size+1+1) (.bool false) (.slice none 0 0) (.slice none 0 0) (.int .i64 (d:Int)) (.bool j) (.int .u64 0) (.slice none 0 0) (.slice none 0 0) W4.drew:=⟨C2w.next hA2.two hdr,C8w.next hB2.eight hdr,C8w.next hC2.eight hdr⟩
 replace hO2:=hO2.next hdr
 replace hbb2:=hbb2.trans (hdr.mono hbb2.size)
 clear hdr hA2 hB2 hC2
 refine qV (fun w'=>C2w w.heap.size (.int .i64 2) (.slice none 0 0) w'/\C8w (w.heap.size+1) (.bool false) (.slice none 0 0) (.slice none 0 0) (.int .i64 (c:Int)) (.bool i) (.int .u64 0) (.slice none 0 0) (.slice none 0 0) w'/\C8w (w.heap.size+1+1) (.bool false) (.slice none 0 0) (.slice none 0 0) (.int .i64 (d:Int)) (.bool j) (.int .u64 0) (.slice none 0 0) (.slice none 0 0) w') [7] (by kernel_rfl) ?_
 refine wCp 0 rfl hS ?_
 refine wCl 1 (v:=?_) rfl ?_ hS ?_
 rotate_left
 ·intro w hw; obtain ⟨⟨a0,a1⟩,⟨⟨b0,b1,b2,b3⟩,b4,b5,b6,b7⟩,⟨c0,c1,c2,c3⟩,c4,c5,c6,c7⟩:=hw; first | (go_simp; done) | (go_simp; with_reducible rfl)
 refine wCl 4 (v:=?_) rfl ?_ hS ?_
 rotate_left
 ·intro w hw; obtain ⟨⟨a0,a1⟩,⟨⟨b0,b1,b2,b3⟩,b4,b5,b6,b7⟩,⟨c0,c1,c2,c3⟩,c4,c5,c6,c7⟩:=hw; first | (go_simp; done) | (go_simp; with_reducible rfl)
 refine wCl 5 (v:=?_) rfl ?_ hS ?_
 rotate_left
 ·intro w hw; obtain ⟨⟨a0,a1⟩,⟨⟨b0,b1,b2,b3⟩,b4,b5,b6,b7⟩,⟨c0,c1,c2,c3⟩,c4,c5,c6,c7⟩:=hw; first | (go_simp; done) | (go_simp; with_reducible rfl)
 refine wpO (i:=2) rfl fun KK hKK=>?_
 go_simp
 go_at_call 105
 refine (q2p _).mono ?_; rintro e w5 ⟨⟨u,p,rfl⟩,hb5⟩
 have hfl:=z6i u p
 try go_simp
 refine hKK _ _ ⟨fun _=>(hK _ _ hS hb5),?_⟩; clear hKK KK
 refine wCp 3 rfl (hK _ _ hS hb5) ?_
 refine wpO (i:=6) rfl fun KK hKK=>?_
 go_simp
 go_at_call 199
 refine (hle.out _).mono ?_; rintro e w6 ⟨rfl,hb6⟩
 replace hO2:=(hO2.next hb5).next hb6
 have hbb6:=qQ (qQ hbb2 hb5) hb6
 try go_simp
 refine hKK _ _ ⟨fun _=>(hK _ _ (hK _ _ hS hb5) hb6),?_⟩; clear hKK KK
 refine wpO (i:=7) rfl fun KK hKK=>?_
 have hO6:=hO2.put8 (.bool false) (.slice none 0 0) (.slice none 0 0) (.int .i64 z) (.bool b) (.int .u64 0) (.slice none 0 0) (.slice none 0 0)
 have hbd:=q0d hbb6 (show w.heap.size<=w.heap.size+1+1+1 by omega) (.bool false) (.slice none 0 0) (.slice none 0 0) (.int .i64 z) (.bool b) (.int .u64 0) (.slice none 0 0) (.slice none 0 0)
 clear hS
 have e8o:=hO2.eight
 have o0:=e8o.1.1
 have o1:=e8o.1.2.1
 have o2:=e8o.1.2.2.1
 have o3:=e8o.1.2.2.2
 have o4:=e8o.2.1
 have o5:=e8o.2.2.1
 have o6:=e8o.2.2.2.1
 have o7:=e8o.2.2.2.2
 clear e8o
 have e8f:=hO2.free8
 have f0:=e8f.1.1
 have f1:=e8f.1.2.1
 have f2:=e8f.1.2.2.1
 have f3:=e8f.1.2.2.2
 have f4:=e8f.2.1
 have f5:=e8f.2.2.1
 have f6:=e8f.2.2.2.1
 have f7:=e8f.2.2.2.2
 clear e8f
 go_simp
 refine lN hKK ?_; clear hKK KK
 refine qZ (by kernel_rfl) ?_ _
 obtain ⟨⟨e0,e1,e2,e3⟩,e4,e5,e6,e7⟩:=hO6.eight
 go_wp2_with fail
 refine bodyPost_ret (v:=.agg #[.bool false,.slice none 0 0,.slice none 0 0,.int .i64 z,.bool b,.int .u64 0,.slice none 0 0,.slice none 0 0]) (by simp [results,Tryz.results78,go_sem,e0,e1,e2,e3,e4,e5,e6,e7]) rfl ?_
 exact ⟨rfl,hbd⟩
end
section
open Go.RowKit
def tc (v:Tw):Nat:=v.getD 0
def ti (v:Tw):Bool:=v.isNone
abbrev twC (v:Tw):List Value:=[.bool false,.slice none 0 0,.slice none 0 0,.int .i64 (tc (v):Int),.bool (ti (v)),.int .u64 0,.slice none 0 0,.slice none 0 0]
def vW (v:Tw):Prop:=tc v<=1099511627776
theorem j2w {v:Tw} (h:ti v=true):tc v=0:=by cases v with
 | none=>rfl
 | some a=>cases h
theorem j5y (v w:Tw):(if (!ti w&&(ti v||decide (tc w<tc v)))=true then .agg #[.bool false,.slice none 0 0,.slice none 0 0,.int .i64 (tc (w):Int),.bool (ti (w)),.int .u64 0,.slice none 0 0,.slice none 0 0] else .agg #[.bool false,.slice none 0 0,.slice none 0 0,.int .i64 (tc (v):Int),.bool (ti (v)),.int .u64 0,.slice none 0 0,.slice none 0 0]:Value)=.agg #[.bool false,.slice none 0 0,.slice none 0 0,.int .i64 (tc (qP v w):Int),.bool (ti (qP v w)),.int .u64 0,.slice none 0 0,.slice none 0 0]:=by
 cases v with
 | none=>cases w<;>simp [ti,tc,qP,q4e]
 | some a=>cases w with
  | none=>simp [ti,tc,qP,q4e]
  | some b =>
   by_cases h:b<a<;>simp [ti,tc,qP,q4e,h]
theorem j2u (v w:Tw):(if (ti v||ti w||decide (1099511627776<tc v+tc w))=true then .agg #[.bool false,.slice none 0 0,.slice none 0 0,.int .i64 0,.bool true,.int .u64 0,.slice none 0 0,.slice none 0 0] else .agg #[.bool false,.slice none 0 0,.slice none 0 0,.int .i64 ((tc v+tc w:Nat):Int),.bool false,.int .u64 0,.slice none 0 0,.slice none 0 0]:Value)=.agg #[.bool false,.slice none 0 0,.slice none 0 0,.int .i64 (tc (jH v w):Int),.bool (ti (jH v w)),.int .u64 0,.slice none 0 0,.slice none 0 0]:=by
 cases v with
 | none=>cases w<;>simp [ti,tc,jH]
 | some a=>cases w with
  | none=>simp [ti,tc,jH]
  | some b =>
   by_cases h:a+b<=1099511627776
   ·have h2:¬ 1099511627776<a+b:=by omega
    simp [ti,tc,jH,h,h2]
   ·have h2:1099511627776<a+b:=by omega
    simp [ti,tc,jH,h,h2]
theorem q7u {v w:Tw} (hv:vW v) (hw:vW w):vW (qP v w):=by
 unfold qP; split<;>assumption
theorem q0s (v u:Tw) (hv:vW v) (hu:vW u) (w:World):Calls Tryz.prog 77 #[.agg #[.int .i64 2,.slice none 0 0],.agg #[.bool false,.slice none 0 0,.slice none 0 0,.int .i64 (tc (v):Int),.bool (ti (v)),.int .u64 0,.slice none 0 0,.slice none 0 0],.agg #[.bool false,.slice none 0 0,.slice none 0 0,.int .i64 (tc (u):Int),.bool (ti (u)),.int .u64 0,.slice none 0 0,.slice none 0 0]] w fun e w'=>e=.returned (.agg #[.bool false,.slice none 0 0,.slice none 0 0,.int .i64 (tc (qP v u):Int),.bool (ti (qP v u)),.int .u64 0,.slice none 0 0,.slice none 0 0])/\Below w.heap.size w w' :=
 (j5z (tc v) (tc u) (ti v) (ti u) hv j2w hu j2w w).mono (by rintro e w' ⟨rfl,hb⟩; exact ⟨by rw [j5y],hb⟩)
theorem q4f (v u:Tw) (hv:vW v) (hu:vW u) (w:World):Calls Tryz.prog 78 #[.agg #[.int .i64 2,.slice none 0 0],.agg #[.bool false,.slice none 0 0,.slice none 0 0,.int .i64 (tc (v):Int),.bool (ti (v)),.int .u64 0,.slice none 0 0,.slice none 0 0],.agg #[.bool false,.slice none 0 0,.slice none 0 0,.int .i64 (tc (u):Int),.bool (ti (u)),.int .u64 0,.slice none 0 0,.slice none 0 0]] w fun e w'=>e=.returned (.agg #[.bool false,.slice none 0 0,.slice none 0 0,.int .i64 (tc (jH v u):Int),.bool (ti (jH v u)),.int .u64 0,.slice none 0 0,.slice none 0 0])/\Below w.heap.size w w' :=
 (j2v (tc v) (tc u) (ti v) (ti u) hv j2w hu j2w w).mono (by rintro e w' ⟨rfl,hb⟩; exact ⟨by rw [j2u],hb⟩)
theorem vB (w:World):Calls Tryz.prog 76 #[.agg #[.int .i64 2,.slice none 0 0]] w fun e w'=>e=.returned (.agg #[.bool false,.slice none 0 0,.slice none 0 0,.int .i64 (tc (none):Int),.bool (ti (none)),.int .u64 0,.slice none 0 0,.slice none 0 0])/\Below w.heap.size w w':=j4k w
theorem q5e (v:Tw) (hv:vW v) (w:World):Calls Tryz.prog 152 #[.agg #[.int .i64 2,.slice none 0 0],.agg #[.bool false,.slice none 0 0,.slice none 0 0,.int .i64 (tc (v):Int),.bool (ti (v)),.int .u64 0,.slice none 0 0,.slice none 0 0]] w fun e w'=>e=.returned (.bool true)/\Below w.heap.size w w' :=
 q6e (tc v) (ti v) hv j2w w
theorem z0z {v u:Tw} (h1:tc v=tc u) (h2:ti v=ti u):v=u:=by
 cases v<;>cases u<;>simp_all [tc,ti]
abbrev acC (x:Ac):List Value:=[.int .i64 ((x).1:Int),.int .i64 ((x).2.1:Int),.int .i64 ((x).2.2.1:Int),.bool false,.slice none 0 0,.slice none 0 0,.int .i64 (tc (wt x):Int),.bool (ti (wt x)),.int .u64 0,.slice none 0 0,.slice none 0 0]
theorem q7q (v:Tw) (hv:vW v) (G:Nat) (w:World) (hG:Bl G [.int .i64 2,.slice none 0 0] 26 w):Calls Tryz.prog 243 #[.agg #[.bool false,.slice none 0 0,.slice none 0 0,.int .i64 (tc (v):Int),.bool (ti (v)),.int .u64 0,.slice none 0 0,.slice none 0 0],.pointer (some ⟨G,0,none⟩)] w fun e w'=>e=.returned (.bool false)/\Below w.heap.size w w':=by
 have hb0:Below w.heap.size w (w.alloc (.cells #[.bool false,.slice none 0 0,.slice none 0 0,.int .i64 (tc v:Int),.bool (ti v),.int .u64 0,.slice none 0 0,.slice none 0 0] 45)):=qJ _
 have hA:=hG.new (.cells #[.bool false,.slice none 0 0,.slice none 0 0,.int .i64 (tc v:Int),.bool (ti v),.int .u64 0,.slice none 0 0,.slice none 0 0] 45)
 have hB:=Bl.fresh w (twC v) 45
 obtain ⟨a0,a1⟩:=hA.two
 obtain ⟨⟨y0,y1,y2,y3⟩,y4,y5,y6,y7⟩:=hB.eight
 clear hA hB
 go_enter Tryz.func243,Tryz.ntmps243
 go_wp2_with fail
 refine (q5e v hv _).mono ?_; rintro e w1 ⟨rfl,hb1⟩
 go_wp2_with fail
 go_ret
 exact ⟨rfl,qQ hb0 hb1⟩
theorem Cs.eight {w:World} {b o:Nat} {a0 a1 a2 a3 a4 a5 a6 a7:Value} (h:Cs w b o [a0,a1,a2,a3,a4,a5,a6,a7]) :
  (w.cell? ⟨b,o,none⟩=some a0/\w.cell? ⟨b,o+1,none⟩=some a1/\w.cell? ⟨b,o+2,none⟩=some a2/\w.cell? ⟨b,o+3,none⟩=some a3)/\w.cell? ⟨b,o+4,none⟩=some a4/\w.cell? ⟨b,o+5,none⟩=some a5/\w.cell? ⟨b,o+6,none⟩=some a6/\w.cell? ⟨b,o+7,none⟩=some a7 :=
 ⟨⟨h 0 _ rfl,h 1 _ rfl,h 2 _ rfl,h 3 _ rfl⟩,h 4 _ rfl,h 5 _ rfl,h 6 _ rfl,h 7 _ rfl⟩
theorem j3t (xs:List Tw) (hx:∀ v∈xs,vW v) (G:Nat) (ao:OA) (n cap:Nat) (w:World) (h:Fl 8 w ao n cap (xs.map twC)) (hG:Bl G [.int .i64 2,.slice none 0 0] 26 w) :
  Calls Tryz.prog 292 #[.slice ao n cap,.func (.func 243) #[] #[.pointer (some ⟨G,0,none⟩)]] w fun e w' =>
   e=.returned (.int .i64 (-1))/\Below w.heap.size w w':=by
 have hbd:=h.bound
 have hl:=hid h.lenMap
 go_enter Tryz.func292,Tryz.ntmps292
 go_wp2_with fail
 go_loopw [8] (fun iv wr=>∃ k:Nat,k<=n/\iv=.int .i64 k/\Below w.heap.size w wr) (fun i _=>n-(intOf i).toNat)
 case atStart=>exact ⟨0,by omega,rfl,Below.refl _ _⟩
 case round =>
  obtain ⟨k,hk,rfl,hb⟩:=hrel
  have hf:=h.next hb
  have hGr:=hG.next hb
  by_cases hlt:k<n
  ·obtain ⟨x,hxk,b,off,rfl,hcs⟩:=hf.get hlt
   have hxo:vW x:=hx x (List.mem_of_getElem? hxk)
   obtain ⟨⟨y0,y1,y2,y3⟩,y4,y5,y6,y7⟩:=hcs.eight
   have hxk:=hid hxk
   go_wp2_with fail
   refine (q7q x hxo G _ hGr).mono ?_; rintro e w' ⟨rfl,hb'⟩
   go_wp2_with fail
   go_round
   case rel=>exact ⟨k+1,by omega,by go_num,qQ hb hb'⟩
   case measure=>simp [intOf]; omega
  ·go_wp2_with fail
   go_ret
   exact ⟨rfl,hb⟩
theorem q7h (xs:List Tw) (hx:∀ v∈xs,vW v) (G:Nat) (ao:OA) (n cap:Nat) (w:World) (h:Fl 8 w ao n cap (xs.map twC)) (hG:Bl G [.int .i64 2,.slice none 0 0] 26 w) :
  Calls Tryz.prog 242 #[.slice ao n cap,.func (.func 243) #[] #[.pointer (some ⟨G,0,none⟩)]] w fun e w' =>
   e=.returned (.bool false)/\Below w.heap.size w w':=by
 go_enter Tryz.func242,Tryz.ntmps242
 go_wp2_with fail
 refine (j3t xs hx G ao n cap w h hG).mono ?_; rintro e w' ⟨rfl,hb'⟩
 go_wp2_with fail
 go_ret
 exact ⟨rfl,hb'⟩
theorem q4c (xs:List Tw) (hx:∀ v∈xs,vW v) (ao:OA) (n cap:Nat) (w:World) (h:Fl 8 w ao n cap (xs.map twC)) :
  Calls Tryz.prog 166 #[.agg #[.int .i64 2,.slice none 0 0],.slice ao n cap] w fun e w' =>
   e=.returned (.bool true)/\Below w.heap.size w w':=by
 have hb0:Below w.heap.size w (w.alloc (.cells #[.int .i64 2,.slice none 0 0] 26)):=qJ _
 have hG:=Bl.fresh w [.int .i64 2,.slice none 0 0] 26
 have hf:=h.next hb0
 go_enter Tryz.func166,Tryz.ntmps166
 go_wp2_with fail
 refine (q7h xs hx w.heap.size ao n cap _ hf hG).mono ?_; rintro e w' ⟨rfl,hb'⟩
 go_wp2_with fail
 go_ret
 exact ⟨rfl,qQ hb0 hb'⟩
end
end Go.Proofs.YtnapapijhhldpaaGreatDoor

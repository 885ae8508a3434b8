/-
  Texts joined by program: Twe, Twf, Twg, Twh. No condition of its own.
-/
import Derived.Test.YtnapapijhhldpaaGreatDoorJtAE
namespace Go.Proofs.YtnapapijhhldpaaGreatDoor
set_option linter.unusedSimpArgs false
set_option linter.unusedVariables false
set_option maxRecDepth 100000
set_option maxHeartbeats 4000000
section
open Go.RowKit
theorem zeroT_any (w:World):Calls Tryz.prog 76 #[.agg #[.int .i64 2,.slice none 0 0]] w fun e w'=>e=.returned (.agg #[.bool false,.slice none 0 0,.slice none 0 0,.int .i64 0,.bool true,.int .u64 0,.slice none 0 0,.slice none 0 0])/\Below w.heap.size w w':=by
 obtain ⟨hb0,hA,hB⟩:=ring_box w 0 false
 go_enter Tryz.func76,Tryz.ntmps76
 go_wp2_with fail
 refine (validT_any _).mono ?_; rintro e w1 ⟨rfl,hb1⟩
 replace hA:=hA.next hb1
 replace hB:=hB.next hb1
 have hb:=below_chain hb0 hb1
 obtain ⟨r0,r1⟩:=hA.two
 clear hb0 hb1
 go_wp2_with fail
 refine (kindT_any _).mono ?_; rintro e w2 ⟨⟨u,p,rfl⟩,hb2⟩
 have hfl:=algF1 u p
 replace hA:=hA.next hb2
 replace hB:=hB.next hb2
 have hbb:=below_chain hb hb2
 clear r0 r1 hb2
 go_wp2_with fail
 refine (costs2_any _).mono ?_; rintro e w3 ⟨rfl,hb3⟩
 replace hB:=hB.next hb3
 have hbc:=below_chain hbb hb3
 have hO2:=hB.put8 (.bool false) (.slice none 0 0) (.slice none 0 0) (.int .i64 0) (.bool true) (.int .u64 0) (.slice none 0 0) (.slice none 0 0)
 have hbd:=below8 hbc (show w.heap.size<=w.heap.size+1 by omega) (.bool false) (.slice none 0 0) (.slice none 0 0) (.int .i64 0) (.bool true) (.int .u64 0) (.slice none 0 0) (.slice none 0 0)
 have HO:=hid hO2.eight
 obtain ⟨⟨f0,f1,f2,f3⟩,f4,f5,f6,f7⟩:=hB.free8
 obtain ⟨⟨o0,o1,o2,o3⟩,o4,o5,o6,o7⟩:=hB.eight
 clear hO2 hB hA hb hbb hbc hb3 hfl
 go_wp2_with fail
 obtain ⟨⟨e0,e1,e2,e3⟩,e4,e5,e6,e7⟩:=HO.out
 refine bodyPost_ret (v:=.agg #[.bool false,.slice none 0 0,.slice none 0 0,.int .i64 0,.bool true,.int .u64 0,.slice none 0 0,.slice none 0 0]) (by simp [results,Tryz.results76,go_sem,e0,e1,e2,e3,e4,e5,e6,e7]) rfl ?_
 exact ⟨rfl,hbd⟩
theorem box3 (w:World) (c d:Int) (i j:Bool):Below w.heap.size w (((w.alloc (.cells #[.int .i64 2,.slice none 0 0] 26)).alloc (.cells #[.bool false,.slice none 0 0,.slice none 0 0,.int .i64 c,.bool i,.int .u64 0,.slice none 0 0,.slice none 0 0] 45)).alloc (.cells #[.bool false,.slice none 0 0,.slice none 0 0,.int .i64 d,.bool j,.int .u64 0,.slice none 0 0,.slice none 0 0] 45)) /\
  Bl w.heap.size [.int .i64 2,.slice none 0 0] 26 (((w.alloc (.cells #[.int .i64 2,.slice none 0 0] 26)).alloc (.cells #[.bool false,.slice none 0 0,.slice none 0 0,.int .i64 c,.bool i,.int .u64 0,.slice none 0 0,.slice none 0 0] 45)).alloc (.cells #[.bool false,.slice none 0 0,.slice none 0 0,.int .i64 d,.bool j,.int .u64 0,.slice none 0 0,.slice none 0 0] 45)) /\
  Bl (w.heap.size+1) [.bool false,.slice none 0 0,.slice none 0 0,.int .i64 c,.bool i,.int .u64 0,.slice none 0 0,.slice none 0 0] 45 (((w.alloc (.cells #[.int .i64 2,.slice none 0 0] 26)).alloc (.cells #[.bool false,.slice none 0 0,.slice none 0 0,.int .i64 c,.bool i,.int .u64 0,.slice none 0 0,.slice none 0 0] 45)).alloc (.cells #[.bool false,.slice none 0 0,.slice none 0 0,.int .i64 d,.bool j,.int .u64 0,.slice none 0 0,.slice none 0 0] 45)) /\
  Bl (w.heap.size+1+1) [.bool false,.slice none 0 0,.slice none 0 0,.int .i64 d,.bool j,.int .u64 0,.slice none 0 0,.slice none 0 0] 45 (((w.alloc (.cells #[.int .i64 2,.slice none 0 0] 26)).alloc (.cells #[.bool false,.slice none 0 0,.slice none 0 0,.int .i64 c,.bool i,.int .u64 0,.slice none 0 0,.slice none 0 0] 45)).alloc (.cells #[.bool false,.slice none 0 0,.slice none 0 0,.int .i64 d,.bool j,.int .u64 0,.slice none 0 0,.slice none 0 0] 45)):=by
 obtain ⟨h1,h2,h3⟩:=ring_box w c i
 exact ⟨below_chain h1 (below_alloc _),h2.new _,h3.new _,Bl.fresh' (G:=w.heap.size+1+1) ((w.alloc (.cells #[.int .i64 2,.slice none 0 0] 26)).alloc (.cells #[.bool false,.slice none 0 0,.slice none 0 0,.int .i64 c,.bool i,.int .u64 0,.slice none 0 0,.slice none 0 0] 45)) [.bool false,.slice none 0 0,.slice none 0 0,.int .i64 d,.bool j,.int .u64 0,.slice none 0 0,.slice none 0 0] 45 (by simp)⟩
theorem valueT_any (c:Nat) (i:Bool) (hc:c<=1099511627776) (hi:i=true->c=0) (w:World):Calls Tryz.prog 108 #[.agg #[.int .i64 2,.slice none 0 0],.agg #[.bool false,.slice none 0 0,.slice none 0 0,.int .i64 (c:Int),.bool i,.int .u64 0,.slice none 0 0,.slice none 0 0]] w fun e w'=>e=.returned (.agg #[.bool false,.slice none 0 0,.slice none 0 0,.int .i64 (c:Int),.bool i,.int .u64 0,.slice none 0 0,.slice none 0 0])/\Below w.heap.size w w':=by
 obtain ⟨hb0,hA,hB,hO⟩:=box3 w (c:Int) 0 i false
 go_enter Tryz.func108,Tryz.ntmps108
 go_wp2_with fail
 refine (checkT_any c i hc hi _).mono ?_; rintro e w1 ⟨rfl,hb1⟩
 replace hB:=hB.next hb1
 replace hO:=hO.next hb1
 have hb:=below_chain hb0 hb1
 have hO2:=hO.put8 (.bool false) (.slice none 0 0) (.slice none 0 0) (.int .i64 (c:Int)) (.bool i) (.int .u64 0) (.slice none 0 0) (.slice none 0 0)
 have hbd:=below8 hb (show w.heap.size<=w.heap.size+1+1 by omega) (.bool false) (.slice none 0 0) (.slice none 0 0) (.int .i64 (c:Int)) (.bool i) (.int .u64 0) (.slice none 0 0) (.slice none 0 0)
 have HO:=hid hO2.eight
 obtain ⟨⟨x0,x1,x2,x3⟩,x4,x5,x6,x7⟩:=hB.eight
 obtain ⟨⟨f0,f1,f2,f3⟩,f4,f5,f6,f7⟩:=hO.free8
 obtain ⟨⟨o0,o1,o2,o3⟩,o4,o5,o6,o7⟩:=hO.eight
 clear hO2 hB hA hb hb0 hb1 hO
 go_wp2_with fail
 obtain ⟨⟨e0,e1,e2,e3⟩,e4,e5,e6,e7⟩:=HO.out
 refine bodyPost_ret (v:=.agg #[.bool false,.slice none 0 0,.slice none 0 0,.int .i64 (c:Int),.bool i,.int .u64 0,.slice none 0 0,.slice none 0 0]) (by simp [results,Tryz.results108,go_sem,e0,e1,e2,e3,e4,e5,e6,e7]) rfl ?_
 exact ⟨rfl,hbd⟩
theorem box2r (w:World) (c d:Int) (i j:Bool):Below w.heap.size w (((w.alloc (.cells #[.bool false,.slice none 0 0,.slice none 0 0,.int .i64 c,.bool i,.int .u64 0,.slice none 0 0,.slice none 0 0] 45)).alloc (.cells #[.bool false,.slice none 0 0,.slice none 0 0,.int .i64 d,.bool j,.int .u64 0,.slice none 0 0,.slice none 0 0] 45)).alloc (.cells #[.bool false,.slice none 0 0,.slice none 0 0,.int .i64 0,.bool false,.int .u64 0,.slice none 0 0,.slice none 0 0] 45)) /\
  Bl w.heap.size [.bool false,.slice none 0 0,.slice none 0 0,.int .i64 c,.bool i,.int .u64 0,.slice none 0 0,.slice none 0 0] 45 (((w.alloc (.cells #[.bool false,.slice none 0 0,.slice none 0 0,.int .i64 c,.bool i,.int .u64 0,.slice none 0 0,.slice none 0 0] 45)).alloc (.cells #[.bool false,.slice none 0 0,.slice none 0 0,.int .i64 d,.bool j,.int .u64 0,.slice none 0 0,.slice none 0 0] 45)).alloc (.cells #[.bool false,.slice none 0 0,.slice none 0 0,.int .i64 0,.bool false,.int .u64 0,.slice none 0 0,.slice none 0 0] 45)) /\
  Bl (w.heap.size+1) [.bool false,.slice none 0 0,.slice none 0 0,.int .i64 d,.bool j,.int .u64 0,.slice none 0 0,.slice none 0 0] 45 (((w.alloc (.cells #[.bool false,.slice none 0 0,.slice none 0 0,.int .i64 c,.bool i,.int .u64 0,.slice none 0 0,.slice none 0 0] 45)).alloc (.cells #[.bool false,.slice none 0 0,.slice none 0 0,.int .i64 d,.bool j,.int .u64 0,.slice none 0 0,.slice none 0 0] 45)).alloc (.cells #[.bool false,.slice none 0 0,.slice none 0 0,.int .i64 0,.bool false,.int .u64 0,.slice none 0 0,.slice none 0 0] 45)) /\
  Bl (w.heap.size+1+1) [.bool false,.slice none 0 0,.slice none 0 0,.int .i64 0,.bool false,.int .u64 0,.slice none 0 0,.slice none 0 0] 45 (((w.alloc (.cells #[.bool false,.slice none 0 0,.slice none 0 0,.int .i64 c,.bool i,.int .u64 0,.slice none 0 0,.slice none 0 0] 45)).alloc (.cells #[.bool false,.slice none 0 0,.slice none 0 0,.int .i64 d,.bool j,.int .u64 0,.slice none 0 0,.slice none 0 0] 45)).alloc (.cells #[.bool false,.slice none 0 0,.slice none 0 0,.int .i64 0,.bool false,.int .u64 0,.slice none 0 0,.slice none 0 0] 45)):=by
 obtain ⟨h1,h2,h3⟩:=two_boxes w c d i j
 exact ⟨below_chain h1 (below_alloc _),h2.new _,h3.new _,Bl.fresh' (G:=w.heap.size+1+1) ((w.alloc (.cells #[.bool false,.slice none 0 0,.slice none 0 0,.int .i64 c,.bool i,.int .u64 0,.slice none 0 0,.slice none 0 0] 45)).alloc (.cells #[.bool false,.slice none 0 0,.slice none 0 0,.int .i64 d,.bool j,.int .u64 0,.slice none 0 0,.slice none 0 0] 45)) [.bool false,.slice none 0 0,.slice none 0 0,.int .i64 0,.bool false,.int .u64 0,.slice none 0 0,.slice none 0 0] 45 (by simp)⟩
theorem costs4_any (c d:Nat) (i j:Bool) (w:World):Calls Tryz.prog 197 #[.agg #[.bool false,.slice none 0 0,.slice none 0 0,.int .i64 (c:Int),.bool i,.int .u64 0,.slice none 0 0,.slice none 0 0],.agg #[.bool false,.slice none 0 0,.slice none 0 0,.int .i64 (d:Int),.bool j,.int .u64 0,.slice none 0 0,.slice none 0 0]] w fun e w'=>e=.returned (if (!j&&(i||decide (d<c)))=true then .agg #[.bool false,.slice none 0 0,.slice none 0 0,.int .i64 (d:Int),.bool j,.int .u64 0,.slice none 0 0,.slice none 0 0] else .agg #[.bool false,.slice none 0 0,.slice none 0 0,.int .i64 (c:Int),.bool i,.int .u64 0,.slice none 0 0,.slice none 0 0])/\Below w.heap.size w w':=by
 obtain ⟨hb0,hA,hB,hO⟩:=box2r w (c:Int) (d:Int) i j
 have hle:=hid (fun W=>lessT_any d c j i W)
 obtain ⟨q,hq⟩:∃ q,(!j&&(i||decide (d<c)))=q:=⟨_,rfl⟩
 rw [hq] at hle ⊢
 clear hq
 go_enter Tryz.func197,Tryz.ntmps197
 go_wp2_with fail
 refine (hle.out _).mono ?_; rintro e w1 ⟨rfl,hb1⟩
 replace hA:=hA.next hb1
 replace hB:=hB.next hb1
 replace hO:=hO.next hb1
 have hb:=below_chain hb0 hb1
 obtain ⟨⟨x0,x1,x2,x3⟩,x4,x5,x6,x7⟩:=hA.eight
 obtain ⟨⟨y0,y1,y2,y3⟩,y4,y5,y6,y7⟩:=hB.eight
 clear hA hB hb0 hb1 hle
 cases q with
 | true =>
  have hO2:=hO.put8 (.bool false) (.slice none 0 0) (.slice none 0 0) (.int .i64 (d:Int)) (.bool j) (.int .u64 0) (.slice none 0 0) (.slice none 0 0)
  have hbd:=below8 hb (show w.heap.size<=w.heap.size+1+1 by omega) (.bool false) (.slice none 0 0) (.slice none 0 0) (.int .i64 (d:Int)) (.bool j) (.int .u64 0) (.slice none 0 0) (.slice none 0 0)
  have HO:=hid hO2.eight
  obtain ⟨⟨f0,f1,f2,f3⟩,f4,f5,f6,f7⟩:=hO.free8
  obtain ⟨⟨o0,o1,o2,o3⟩,o4,o5,o6,o7⟩:=hO.eight
  clear hO2 hb hO
  go_wp2_with fail
  obtain ⟨⟨e0,e1,e2,e3⟩,e4,e5,e6,e7⟩:=HO.out
  refine bodyPost_ret (v:=.agg #[.bool false,.slice none 0 0,.slice none 0 0,.int .i64 (d:Int),.bool j,.int .u64 0,.slice none 0 0,.slice none 0 0]) (by simp [results,Tryz.results197,go_sem,e0,e1,e2,e3,e4,e5,e6,e7]) rfl ?_
  exact ⟨rfl,hbd⟩
 | false =>
  have hO2:=hO.put8 (.bool false) (.slice none 0 0) (.slice none 0 0) (.int .i64 (c:Int)) (.bool i) (.int .u64 0) (.slice none 0 0) (.slice none 0 0)
  have hbd:=below8 hb (show w.heap.size<=w.heap.size+1+1 by omega) (.bool false) (.slice none 0 0) (.slice none 0 0) (.int .i64 (c:Int)) (.bool i) (.int .u64 0) (.slice none 0 0) (.slice none 0 0)
  have HO:=hid hO2.eight
  obtain ⟨⟨f0,f1,f2,f3⟩,f4,f5,f6,f7⟩:=hO.free8
  obtain ⟨⟨o0,o1,o2,o3⟩,o4,o5,o6,o7⟩:=hO.eight
  clear hO2 hb hO
  go_wp2_with fail
  obtain ⟨⟨e0,e1,e2,e3⟩,e4,e5,e6,e7⟩:=HO.out
  refine bodyPost_ret (v:=.agg #[.bool false,.slice none 0 0,.slice none 0 0,.int .i64 (c:Int),.bool i,.int .u64 0,.slice none 0 0,.slice none 0 0]) (by simp [results,Tryz.results197,go_sem,e0,e1,e2,e3,e4,e5,e6,e7]) rfl ?_
  exact ⟨rfl,hbd⟩
end
section
open Go.RowKit
theorem box4 (w:World) (c d:Int) (i j:Bool):∃ W,W=((((w.alloc (.cells #[.int .i64 2,.slice none 0 0] 26)).alloc (.cells #[.bool false,.slice none 0 0,.slice none 0 0,.int .i64 c,.bool i,.int .u64 0,.slice none 0 0,.slice none 0 0] 45)).alloc (.cells #[.bool false,.slice none 0 0,.slice none 0 0,.int .i64 d,.bool j,.int .u64 0,.slice none 0 0,.slice none 0 0] 45)).alloc (.cells #[.bool false,.slice none 0 0,.slice none 0 0,.int .i64 0,.bool false,.int .u64 0,.slice none 0 0,.slice none 0 0] 45))/\Below w.heap.size w W /\
  Bl w.heap.size [.int .i64 2,.slice none 0 0] 26 W/\Bl (w.heap.size+1) [.bool false,.slice none 0 0,.slice none 0 0,.int .i64 c,.bool i,.int .u64 0,.slice none 0 0,.slice none 0 0] 45 W/\Bl (w.heap.size+1+1) [.bool false,.slice none 0 0,.slice none 0 0,.int .i64 d,.bool j,.int .u64 0,.slice none 0 0,.slice none 0 0] 45 W/\Bl (w.heap.size+1+1+1) [.bool false,.slice none 0 0,.slice none 0 0,.int .i64 0,.bool false,.int .u64 0,.slice none 0 0,.slice none 0 0] 45 W:=by
 obtain ⟨h1,h2,h3,h4⟩:=box3 w c d i j
 exact ⟨_,rfl,below_chain h1 (below_alloc _),h2.new _,h3.new _,h4.new _,Bl.fresh' (G:=w.heap.size+1+1+1) (((w.alloc (.cells #[.int .i64 2,.slice none 0 0] 26)).alloc (.cells #[.bool false,.slice none 0 0,.slice none 0 0,.int .i64 c,.bool i,.int .u64 0,.slice none 0 0,.slice none 0 0] 45)).alloc (.cells #[.bool false,.slice none 0 0,.slice none 0 0,.int .i64 d,.bool j,.int .u64 0,.slice none 0 0,.slice none 0 0] 45)) [.bool false,.slice none 0 0,.slice none 0 0,.int .i64 0,.bool false,.int .u64 0,.slice none 0 0,.slice none 0 0] 45 (by simp)⟩
theorem Bl.off8 {H G:Nat} {cs:List Value} {T:TypeId} {w:World} (h:Bl H cs T w) (hG:H≠G) (a' b' c' d' e' f' g' k':Value):Bl H cs T ((((((((w.setCell ⟨G,0,none⟩ a').setCell ⟨G,1,none⟩ b').setCell ⟨G,2,none⟩ c').setCell ⟨G,3,none⟩ d').setCell ⟨G,4,none⟩ e').setCell ⟨G,5,none⟩ f').setCell ⟨G,6,none⟩ g').setCell ⟨G,7,none⟩ k') :=
 (((((((h.off (p:=⟨G,0,none⟩) hG a').off (p:=⟨G,1,none⟩) hG b').off (p:=⟨G,2,none⟩) hG c').off (p:=⟨G,3,none⟩) hG d').off (p:=⟨G,4,none⟩) hG e').off (p:=⟨G,5,none⟩) hG f').off (p:=⟨G,6,none⟩) hG g').off (p:=⟨G,7,none⟩) hG k'
theorem plusT_any (c d:Nat) (i j:Bool) (hc:c<=1099511627776) (hi:i=true->c=0) (hd:d<=1099511627776) (hj:j=true->d=0) (w:World):Calls Tryz.prog 77 #[.agg #[.int .i64 2,.slice none 0 0],.agg #[.bool false,.slice none 0 0,.slice none 0 0,.int .i64 (c:Int),.bool i,.int .u64 0,.slice none 0 0,.slice none 0 0],.agg #[.bool false,.slice none 0 0,.slice none 0 0,.int .i64 (d:Int),.bool j,.int .u64 0,.slice none 0 0,.slice none 0 0]] w fun e w'=>e=.returned (if (!j&&(i||decide (d<c)))=true then .agg #[.bool false,.slice none 0 0,.slice none 0 0,.int .i64 (d:Int),.bool j,.int .u64 0,.slice none 0 0,.slice none 0 0] else .agg #[.bool false,.slice none 0 0,.slice none 0 0,.int .i64 (c:Int),.bool i,.int .u64 0,.slice none 0 0,.slice none 0 0])/\Below w.heap.size w w':=by
 obtain ⟨W,hW,hb0,hA,hB,hC,hO⟩:=box4 w (c:Int) (d:Int) i j
 have hle:=hid (fun W=>(costs4_any c d i j W))
 obtain ⟨q,hq⟩:∃ q,(!j&&(i||decide (d<c)))=q:=⟨_,rfl⟩
 rw [hq] at hle ⊢
 clear hq
 obtain ⟨V,hV,hX,hX2⟩:∃ V:Value,V=(if q=true then .agg #[.bool false,.slice none 0 0,.slice none 0 0,.int .i64 (d:Int),.bool j,.int .u64 0,.slice none 0 0,.slice none 0 0] else .agg #[.bool false,.slice none 0 0,.slice none 0 0,.int .i64 (c:Int),.bool i,.int .u64 0,.slice none 0 0,.slice none 0 0])/\(∃ (z:Int) (b:Bool),V=.agg #[.bool false,.slice none 0 0,.slice none 0 0,.int .i64 z,.bool b,.int .u64 0,.slice none 0 0,.slice none 0 0])/\True:=⟨_,rfl,by cases q<;>exact ⟨_,_,rfl⟩,trivial⟩
 rw [<-hV] at hle ⊢
 obtain ⟨z,b,rfl⟩:=hX
 clear hV hX2
 go_enter Tryz.func77,Tryz.ntmps77
 go_wp2_with fail
 rw [<-hW]
 clear hW
 refine (validT_any _).mono ?_; rintro e w1 ⟨rfl,hb1⟩
 replace hA:=hA.next hb1
 replace hB:=hB.next hb1
 replace hC:=hC.next hb1
 replace hO:=hO.next hb1
 have hb:=below_chain hb0 hb1
 clear hb0 hb1
 go_wp2_with fail
 have hdr:=(Below.refl w1.heap.size w1).drew
 have hS:C2w w.heap.size (.int .i64 2) (.slice none 0 0) w1.drew/\C8w (w.heap.size+1) (.bool false) (.slice none 0 0) (.slice none 0 0) (.int .i64 (c:Int)) (.bool i) (.int .u64 0) (.slice none 0 0) (.slice none 0 0) w1.drew/\C8w (w.heap.size+1+1) (.bool false) (.slice none 0 0) (.slice none 0 0) (.int .i64 (d:Int)) (.bool j) (.int .u64 0) (.slice none 0 0) (.slice none 0 0) w1.drew:=⟨C2w.next hA.two hdr,C8w.next hB.eight hdr,C8w.next hC.eight hdr⟩
 have hK:∀ w' w'',(C2w w.heap.size (.int .i64 2) (.slice none 0 0) w'/\C8w (w.heap.size+1) (.bool false) (.slice none 0 0) (.slice none 0 0) (.int .i64 (c:Int)) (.bool i) (.int .u64 0) (.slice none 0 0) (.slice none 0 0) w'/\C8w (w.heap.size+1+1) (.bool false) (.slice none 0 0) (.slice none 0 0) (.int .i64 (d:Int)) (.bool j) (.int .u64 0) (.slice none 0 0) (.slice none 0 0) w')->Below w'.heap.size w' w''->(C2w w.heap.size (.int .i64 2) (.slice none 0 0) w''/\C8w (w.heap.size+1) (.bool false) (.slice none 0 0) (.slice none 0 0) (.int .i64 (c:Int)) (.bool i) (.int .u64 0) (.slice none 0 0) (.slice none 0 0) w''/\C8w (w.heap.size+1+1) (.bool false) (.slice none 0 0) (.slice none 0 0) (.int .i64 (d:Int)) (.bool j) (.int .u64 0) (.slice none 0 0) (.slice none 0 0) w''):=fun w' w'' h hb=>⟨C2w.next h.1 hb,C8w.next h.2.1 hb,C8w.next h.2.2 hb⟩
 replace hA:=hA.next hdr
 replace hB:=hB.next hdr
 replace hC:=hC.next hdr
 replace hO:=hO.next hdr
 replace hb:=hb.trans (hdr.mono hb.size)
 clear hdr
 refine wp_region_D (fun w'=>C2w w.heap.size (.int .i64 2) (.slice none 0 0) w'/\C8w (w.heap.size+1) (.bool false) (.slice none 0 0) (.slice none 0 0) (.int .i64 (c:Int)) (.bool i) (.int .u64 0) (.slice none 0 0) (.slice none 0 0) w'/\C8w (w.heap.size+1+1) (.bool false) (.slice none 0 0) (.slice none 0 0) (.int .i64 (d:Int)) (.bool j) (.int .u64 0) (.slice none 0 0) (.slice none 0 0) w') [6,7] (by kernel_rfl) ?_
 refine tkCl 0 (v:=?_) rfl ?_ hS ?_
 rotate_left
 ·intro w hw; obtain ⟨⟨a0,a1⟩,⟨⟨b0,b1,b2,b3⟩,b4,b5,b6,b7⟩,⟨c0,c1,c2,c3⟩,c4,c5,c6,c7⟩:=hw; first | (go_simp; done) | (go_simp; with_reducible rfl)
 refine tkCl 1 (v:=?_) rfl ?_ hS ?_
 rotate_left
 ·intro w hw; obtain ⟨⟨a0,a1⟩,⟨⟨b0,b1,b2,b3⟩,b4,b5,b6,b7⟩,⟨c0,c1,c2,c3⟩,c4,c5,c6,c7⟩:=hw; first | (go_simp; done) | (go_simp; with_reducible rfl)
 refine tkCl 3 (v:=?_) rfl ?_ hS ?_
 rotate_left
 ·intro w hw; obtain ⟨⟨a0,a1⟩,⟨⟨b0,b1,b2,b3⟩,b4,b5,b6,b7⟩,⟨c0,c1,c2,c3⟩,c4,c5,c6,c7⟩:=hw; first | (go_simp; done) | (go_simp; with_reducible rfl)
 refine tkCl 4 (v:=?_) rfl ?_ hS ?_
 rotate_left
 ·intro w hw; obtain ⟨⟨a0,a1⟩,⟨⟨b0,b1,b2,b3⟩,b4,b5,b6,b7⟩,⟨c0,c1,c2,c3⟩,c4,c5,c6,c7⟩:=hw; first | (go_simp; done) | (go_simp; with_reducible rfl)
 refine wpO (i:=2) rfl fun KK hKK=>?_
 go_simp
 go_at_call 108
 refine (valueT_any c i hc hi _).mono ?_; rintro e w2 ⟨rfl,hb2⟩
 try go_simp
 refine hKK _ _ ⟨fun _=>(hK _ _ hS hb2),?_⟩; clear hKK KK
 refine wpO (i:=5) rfl fun KK hKK=>?_
 go_simp
 go_at_call 108
 refine (valueT_any d j hd hj _).mono ?_; rintro e w3 ⟨rfl,hb3⟩
 have hbb:=below_chain (below_chain hb hb2) hb3
 replace hA:=(hA.next hb2).next hb3
 replace hB:=(hB.next hb2).next hb3
 replace hC:=(hC.next hb2).next hb3
 replace hO:=(hO.next hb2).next hb3
 try go_simp
 refine hKK _ _ ⟨fun _=>(hK _ _ (hK _ _ hS hb2) hb3),?_⟩; clear hKK KK
 refine wpO (i:=6) rfl fun KK hKK=>?_
 have e8b:=hB.eight
 have b0:=e8b.1.1
 have b1:=e8b.1.2.1
 have b2:=e8b.1.2.2.1
 have b3:=e8b.1.2.2.2
 have b4:=e8b.2.1
 have b5:=e8b.2.2.1
 have b6:=e8b.2.2.2.1
 have b7:=e8b.2.2.2.2
 clear e8b
 have e8f:=hB.free8
 have f0:=e8f.1.1
 have f1:=e8f.1.2.1
 have f2:=e8f.1.2.2.1
 have f3:=e8f.1.2.2.2
 have f4:=e8f.2.1
 have f5:=e8f.2.2.1
 have f6:=e8f.2.2.2.1
 have f7:=e8f.2.2.2.2
 clear e8f
 go_simp
 refine lN hKK ?_; clear hKK KK
 refine wpO (i:=7) rfl fun KK hKK=>?_
 have hB1:=hB.put8 (.bool false) (.slice none 0 0) (.slice none 0 0) (.int .i64 (c:Int)) (.bool i) (.int .u64 0) (.slice none 0 0) (.slice none 0 0)
 have hC1:=hC.off8 (G:=w.heap.size+1) (by omega) (.bool false) (.slice none 0 0) (.slice none 0 0) (.int .i64 (c:Int)) (.bool i) (.int .u64 0) (.slice none 0 0) (.slice none 0 0)
 have hA1:=hA.off8 (G:=w.heap.size+1) (by omega) (.bool false) (.slice none 0 0) (.slice none 0 0) (.int .i64 (c:Int)) (.bool i) (.int .u64 0) (.slice none 0 0) (.slice none 0 0)
 have hO1:=hO.off8 (G:=w.heap.size+1) (by omega) (.bool false) (.slice none 0 0) (.slice none 0 0) (.int .i64 (c:Int)) (.bool i) (.int .u64 0) (.slice none 0 0) (.slice none 0 0)
 have hbb1:=below8 hbb (show w.heap.size<=w.heap.size+1 by omega) (.bool false) (.slice none 0 0) (.slice none 0 0) (.int .i64 (c:Int)) (.bool i) (.int .u64 0) (.slice none 0 0) (.slice none 0 0)
 clear hA hB hC hO hbb
 clear b0 b1 b2 b3 b4 b5 b6 b7 f0 f1 f2 f3 f4 f5 f6 f7
 have e8c:=hC1.eight
 have c0:=e8c.1.1
 have c1:=e8c.1.2.1
 have c2:=e8c.1.2.2.1
 have c3:=e8c.1.2.2.2
 have c4:=e8c.2.1
 have c5:=e8c.2.2.1
 have c6:=e8c.2.2.2.1
 have c7:=e8c.2.2.2.2
 clear e8c
 have e8f:=hC1.free8
 have f0:=e8f.1.1
 have f1:=e8f.1.2.1
 have f2:=e8f.1.2.2.1
 have f3:=e8f.1.2.2.2
 have f4:=e8f.2.1
 have f5:=e8f.2.2.1
 have f6:=e8f.2.2.2.1
 have f7:=e8f.2.2.2.2
 clear e8f
 go_simp
 refine lN hKK ?_; clear hKK KK
 refine wpAnyD_done (by kernel_rfl) ?_ _
 have hC2:=hC1.put8 (.bool false) (.slice none 0 0) (.slice none 0 0) (.int .i64 (d:Int)) (.bool j) (.int .u64 0) (.slice none 0 0) (.slice none 0 0)
 have hB2:=hB1.off8 (G:=w.heap.size+1+1) (by omega) (.bool false) (.slice none 0 0) (.slice none 0 0) (.int .i64 (d:Int)) (.bool j) (.int .u64 0) (.slice none 0 0) (.slice none 0 0)
 have hA2:=hA1.off8 (G:=w.heap.size+1+1) (by omega) (.bool false) (.slice none 0 0) (.slice none 0 0) (.int .i64 (d:Int)) (.bool j) (.int .u64 0) (.slice none 0 0) (.slice none 0 0)
 have hO2:=hO1.off8 (G:=w.heap.size+1+1) (by omega) (.bool false) (.slice none 0 0) (.slice none 0 0) (.int .i64 (d:Int)) (.bool j) (.int .u64 0) (.slice none 0 0) (.slice none 0 0)
 have hbb2:=below8 hbb1 (show w.heap.size<=w.heap.size+1+1 by omega) (.bool false) (.slice none 0 0) (.slice none 0 0) (.int .i64 (d:Int)) (.bool j) (.int .u64 0) (.slice none 0 0) (.slice none 0 0)
 clear hA1 hB1 hC1 hO1 hbb1 hS hb hb2 hb3
 clear c0 c1 c2 c3 c4 c5 c6 c7 f0 f1 f2 f3 f4 f5 f6 f7
 generalize (World.setCell _ ⟨w.heap.size+1+1,7,none⟩ (.slice none 0 0))=W4 at *
 have e2a:=hA2.two
 have a0:=e2a.1
 have a1:=e2a.2
 clear e2a
 go_upto_region 5 with fail
 clear a0 a1
 have hdr:=(Below.refl W4.heap.size W4).drew
 have hS:C2w w.heap.size (.int .i64 2) (.slice none 0 0) W4.drew/\C8w (w.heap.size+1) (.bool false) (.slice none 0 0) (.slice none 0 0) (.int .i64 (c:Int)) (.bool i) (.int .u64 0) (.slice none 0 0) (.slice none 0 0) W4.drew/\C8w (w.heap.size+1+1) (.bool false) (.slice none 0 0) (.slice none 0 0) (.int .i64 (d:Int)) (.bool j) (.int .u64 0) (.slice none 0 0) (.slice none 0 0) W4.drew:=⟨C2w.next hA2.two hdr,C8w.next hB2.eight hdr,C8w.next hC2.eight hdr⟩
 replace hO2:=hO2.next hdr
 replace hbb2:=hbb2.trans (hdr.mono hbb2.size)
 clear hdr hA2 hB2 hC2
 refine wp_region_D (fun w'=>C2w w.heap.size (.int .i64 2) (.slice none 0 0) w'/\C8w (w.heap.size+1) (.bool false) (.slice none 0 0) (.slice none 0 0) (.int .i64 (c:Int)) (.bool i) (.int .u64 0) (.slice none 0 0) (.slice none 0 0) w'/\C8w (w.heap.size+1+1) (.bool false) (.slice none 0 0) (.slice none 0 0) (.int .i64 (d:Int)) (.bool j) (.int .u64 0) (.slice none 0 0) (.slice none 0 0) w') [7] (by kernel_rfl) ?_
 refine tkCp 0 rfl hS ?_
 refine tkCl 1 (v:=?_) rfl ?_ hS ?_
 rotate_left
 ·intro w hw; obtain ⟨⟨a0,a1⟩,⟨⟨b0,b1,b2,b3⟩,b4,b5,b6,b7⟩,⟨c0,c1,c2,c3⟩,c4,c5,c6,c7⟩:=hw; first | (go_simp; done) | (go_simp; with_reducible rfl)
 refine tkCl 4 (v:=?_) rfl ?_ hS ?_
 rotate_left
 ·intro w hw; obtain ⟨⟨a0,a1⟩,⟨⟨b0,b1,b2,b3⟩,b4,b5,b6,b7⟩,⟨c0,c1,c2,c3⟩,c4,c5,c6,c7⟩:=hw; first | (go_simp; done) | (go_simp; with_reducible rfl)
 refine tkCl 5 (v:=?_) rfl ?_ hS ?_
 rotate_left
 ·intro w hw; obtain ⟨⟨a0,a1⟩,⟨⟨b0,b1,b2,b3⟩,b4,b5,b6,b7⟩,⟨c0,c1,c2,c3⟩,c4,c5,c6,c7⟩:=hw; first | (go_simp; done) | (go_simp; with_reducible rfl)
 refine wpO (i:=2) rfl fun KK hKK=>?_
 go_simp
 go_at_call 105
 refine (kindT_any _).mono ?_; rintro e w5 ⟨⟨u,p,rfl⟩,hb5⟩
 have hfl:=algF3 u p
 try go_simp
 refine hKK _ _ ⟨fun _=>(hK _ _ hS hb5),?_⟩; clear hKK KK
 refine tkCp 3 rfl (hK _ _ hS hb5) ?_
 refine wpO (i:=6) rfl fun KK hKK=>?_
 go_simp
 go_at_call 197
 refine (hle.out _).mono ?_; rintro e w6 ⟨rfl,hb6⟩
 replace hO2:=(hO2.next hb5).next hb6
 have hbb6:=below_chain (below_chain hbb2 hb5) hb6
 try go_simp
 refine hKK _ _ ⟨fun _=>(hK _ _ (hK _ _ hS hb5) hb6),?_⟩; clear hKK KK
 refine wpO (i:=7) rfl fun KK hKK=>?_
 have hO6:=hO2.put8 (.bool false) (.slice none 0 0) (.slice none 0 0) (.int .i64 z) (.bool b) (.int .u64 0) (.slice none 0 0) (.slice none 0 0)
 have hbd:=below8 hbb6 (show w.heap.size<=w.heap.size+1+1+1 by omega) (.bool false) (.slice none 0 0) (.slice none 0 0) (.int .i64 z) (.bool b) (.int .u64 0) (.slice none 0 0) (.slice none 0 0)
 clear hS
 have e8o:=hO2.eight
 have o0:=e8o.1.1
 have o1:=e8o.1.2.1
 have o2:=e8o.1.2.2.1
 have o3:=e8o.1.2.2.2
 have o4:=e8o.2.1
 have o5:=e8o.2.2.1
 have o6:=e8o.2.2.2.1
 have o7:=e8o.2.2.2.2
 clear e8o
 have e8f:=hO2.free8
 have f0:=e8f.1.1
 have f1:=e8f.1.2.1
 have f2:=e8f.1.2.2.1
 have f3:=e8f.1.2.2.2
 have f4:=e8f.2.1
 have f5:=e8f.2.2.1
 have f6:=e8f.2.2.2.1
 have f7:=e8f.2.2.2.2
 clear e8f
 go_simp
 refine lN hKK ?_; clear hKK KK
 refine wpAnyD_done (by kernel_rfl) ?_ _
 obtain ⟨⟨e0,e1,e2,e3⟩,e4,e5,e6,e7⟩:=hO6.eight
 go_wp2_with fail
 refine bodyPost_ret (v:=.agg #[.bool false,.slice none 0 0,.slice none 0 0,.int .i64 z,.bool b,.int .u64 0,.slice none 0 0,.slice none 0 0]) (by simp [results,Tryz.results77,go_sem,e0,e1,e2,e3,e4,e5,e6,e7]) rfl ?_
 exact ⟨rfl,hbd⟩
end
section
open Go.RowKit
def tc (v:Tw):Nat:=v.getD 0
def ti (v:Tw):Bool:=v.isNone
abbrev twC (v:Tw):List Value:=[.bool false,.slice none 0 0,.slice none 0 0,.int .i64 (tc (v):Int),.bool (ti (v)),.int .u64 0,.slice none 0 0,.slice none 0 0]
def TwOk (v:Tw):Prop:=tc v<=1099511627776
theorem ti_tc {v:Tw} (h:ti v=true):tc v=0:=by cases v with
 | none=>rfl
 | some a=>cases h
theorem plusTw_eq (v w:Tw):(if (!ti w&&(ti v||decide (tc w<tc v)))=true then .agg #[.bool false,.slice none 0 0,.slice none 0 0,.int .i64 (tc (w):Int),.bool (ti (w)),.int .u64 0,.slice none 0 0,.slice none 0 0] else .agg #[.bool false,.slice none 0 0,.slice none 0 0,.int .i64 (tc (v):Int),.bool (ti (v)),.int .u64 0,.slice none 0 0,.slice none 0 0]:Value)=.agg #[.bool false,.slice none 0 0,.slice none 0 0,.int .i64 (tc (twPlus v w):Int),.bool (ti (twPlus v w)),.int .u64 0,.slice none 0 0,.slice none 0 0]:=by
 cases v with
 | none=>cases w<;>simp [ti,tc,twPlus,twLess]
 | some a=>cases w with
  | none=>simp [ti,tc,twPlus,twLess]
  | some b =>
   by_cases h:b<a<;>simp [ti,tc,twPlus,twLess,h]
theorem plusTw_any (v u:Tw) (hv:TwOk v) (hu:TwOk u) (w:World):Calls Tryz.prog 77 #[.agg #[.int .i64 2,.slice none 0 0],.agg #[.bool false,.slice none 0 0,.slice none 0 0,.int .i64 (tc (v):Int),.bool (ti (v)),.int .u64 0,.slice none 0 0,.slice none 0 0],.agg #[.bool false,.slice none 0 0,.slice none 0 0,.int .i64 (tc (u):Int),.bool (ti (u)),.int .u64 0,.slice none 0 0,.slice none 0 0]] w fun e w'=>e=.returned (.agg #[.bool false,.slice none 0 0,.slice none 0 0,.int .i64 (tc (twPlus v u):Int),.bool (ti (twPlus v u)),.int .u64 0,.slice none 0 0,.slice none 0 0])/\Below w.heap.size w w' :=
 (plusT_any (tc v) (tc u) (ti v) (ti u) hv ti_tc hu ti_tc w).mono (by rintro e w' ⟨rfl,hb⟩; exact ⟨by rw [plusTw_eq],hb⟩)
theorem zeroTw_any (w:World):Calls Tryz.prog 76 #[.agg #[.int .i64 2,.slice none 0 0]] w fun e w'=>e=.returned (.agg #[.bool false,.slice none 0 0,.slice none 0 0,.int .i64 (tc (none):Int),.bool (ti (none)),.int .u64 0,.slice none 0 0,.slice none 0 0])/\Below w.heap.size w w':=zeroT_any w
theorem checkTw_any (v:Tw) (hv:TwOk v) (w:World):Calls Tryz.prog 152 #[.agg #[.int .i64 2,.slice none 0 0],.agg #[.bool false,.slice none 0 0,.slice none 0 0,.int .i64 (tc (v):Int),.bool (ti (v)),.int .u64 0,.slice none 0 0,.slice none 0 0]] w fun e w'=>e=.returned (.bool true)/\Below w.heap.size w w' :=
 checkT_any (tc v) (ti v) hv ti_tc w
theorem tw_ext {v u:Tw} (h1:tc v=tc u) (h2:ti v=ti u):v=u:=by
 cases v<;>cases u<;>simp_all [tc,ti]
abbrev acC (x:Ac):List Value:=[.int .i64 ((x).1:Int),.int .i64 ((x).2.1:Int),.int .i64 ((x).2.2.1:Int),.bool false,.slice none 0 0,.slice none 0 0,.int .i64 (tc (wt x):Int),.bool (ti (wt x)),.int .u64 0,.slice none 0 0,.slice none 0 0]
theorem weights1_any (v:Tw) (hv:TwOk v) (G:Nat) (w:World) (hG:Bl G [.int .i64 2,.slice none 0 0] 26 w):Calls Tryz.prog 243 #[.agg #[.bool false,.slice none 0 0,.slice none 0 0,.int .i64 (tc (v):Int),.bool (ti (v)),.int .u64 0,.slice none 0 0,.slice none 0 0],.pointer (some ⟨G,0,none⟩)] w fun e w'=>e=.returned (.bool false)/\Below w.heap.size w w':=by
 have hb0:Below w.heap.size w (w.alloc (.cells #[.bool false,.slice none 0 0,.slice none 0 0,.int .i64 (tc v:Int),.bool (ti v),.int .u64 0,.slice none 0 0,.slice none 0 0] 45)):=below_alloc _
 have hA:=hG.new (.cells #[.bool false,.slice none 0 0,.slice none 0 0,.int .i64 (tc v:Int),.bool (ti v),.int .u64 0,.slice none 0 0,.slice none 0 0] 45)
 have hB:=Bl.fresh w (twC v) 45
 obtain ⟨a0,a1⟩:=hA.two
 obtain ⟨⟨y0,y1,y2,y3⟩,y4,y5,y6,y7⟩:=hB.eight
 clear hA hB
 go_enter Tryz.func243,Tryz.ntmps243
 go_wp2_with fail
 refine (checkTw_any v hv _).mono ?_; rintro e w1 ⟨rfl,hb1⟩
 go_wp2_with fail
 go_ret
 exact ⟨rfl,below_chain hb0 hb1⟩
theorem Cs.eight {w:World} {b o:Nat} {a0 a1 a2 a3 a4 a5 a6 a7:Value} (h:Cs w b o [a0,a1,a2,a3,a4,a5,a6,a7]) :
  (w.cell? ⟨b,o,none⟩=some a0/\w.cell? ⟨b,o+1,none⟩=some a1/\w.cell? ⟨b,o+2,none⟩=some a2/\w.cell? ⟨b,o+3,none⟩=some a3)/\w.cell? ⟨b,o+4,none⟩=some a4/\w.cell? ⟨b,o+5,none⟩=some a5/\w.cell? ⟨b,o+6,none⟩=some a6/\w.cell? ⟨b,o+7,none⟩=some a7 :=
 ⟨⟨h 0 _ rfl,h 1 _ rfl,h 2 _ rfl,h 3 _ rfl⟩,h 4 _ rfl,h 5 _ rfl,h 6 _ rfl,h 7 _ rfl⟩
theorem indexW_any (xs:List Tw) (hx:∀ v∈xs,TwOk v) (G:Nat) (ao:OA) (n cap:Nat) (w:World) (h:Fl 8 w ao n cap (xs.map twC)) (hG:Bl G [.int .i64 2,.slice none 0 0] 26 w) :
  Calls Tryz.prog 292 #[.slice ao n cap,.func (.func 243) #[] #[.pointer (some ⟨G,0,none⟩)]] w fun e w' =>
   e=.returned (.int .i64 (-1))/\Below w.heap.size w w':=by
 have hbd:=h.bound
 have hl:=hid h.lenMap
 go_enter Tryz.func292,Tryz.ntmps292
 go_wp2_with fail
 go_loopw [8] (fun iv wr=>∃ k:Nat,k<=n/\iv=.int .i64 k/\Below w.heap.size w wr) (fun i _=>n-(intOf i).toNat)
 case atStart=>exact ⟨0,by omega,rfl,Below.refl _ _⟩
 case round =>
  obtain ⟨k,hk,rfl,hb⟩:=hrel
  have hf:=h.next hb
  have hGr:=hG.next hb
  by_cases hlt:k<n
  ·obtain ⟨x,hxk,b,off,rfl,hcs⟩:=hf.get hlt
   have hxo:TwOk x:=hx x (List.mem_of_getElem? hxk)
   obtain ⟨⟨y0,y1,y2,y3⟩,y4,y5,y6,y7⟩:=hcs.eight
   have hxk:=hid hxk
   go_wp2_with fail
   refine (weights1_any x hxo G _ hGr).mono ?_; rintro e w' ⟨rfl,hb'⟩
   go_wp2_with fail
   go_round
   case rel=>exact ⟨k+1,by omega,by go_num,below_chain hb hb'⟩
   case measure=>simp [intOf]; omega
  ·go_wp2_with fail
   go_ret
   exact ⟨rfl,hb⟩
theorem containsW_any (xs:List Tw) (hx:∀ v∈xs,TwOk v) (G:Nat) (ao:OA) (n cap:Nat) (w:World) (h:Fl 8 w ao n cap (xs.map twC)) (hG:Bl G [.int .i64 2,.slice none 0 0] 26 w) :
  Calls Tryz.prog 242 #[.slice ao n cap,.func (.func 243) #[] #[.pointer (some ⟨G,0,none⟩)]] w fun e w' =>
   e=.returned (.bool false)/\Below w.heap.size w w':=by
 go_enter Tryz.func242,Tryz.ntmps242
 go_wp2_with fail
 refine (indexW_any xs hx G ao n cap w h hG).mono ?_; rintro e w' ⟨rfl,hb'⟩
 go_wp2_with fail
 go_ret
 exact ⟨rfl,hb'⟩
theorem weights_any (xs:List Tw) (hx:∀ v∈xs,TwOk v) (ao:OA) (n cap:Nat) (w:World) (h:Fl 8 w ao n cap (xs.map twC)) :
  Calls Tryz.prog 166 #[.agg #[.int .i64 2,.slice none 0 0],.slice ao n cap] w fun e w' =>
   e=.returned (.bool true)/\Below w.heap.size w w':=by
 have hb0:Below w.heap.size w (w.alloc (.cells #[.int .i64 2,.slice none 0 0] 26)):=below_alloc _
 have hG:=Bl.fresh w [.int .i64 2,.slice none 0 0] 26
 have hf:=h.next hb0
 go_enter Tryz.func166,Tryz.ntmps166
 go_wp2_with fail
 refine (containsW_any xs hx w.heap.size ao n cap _ hf hG).mono ?_; rintro e w' ⟨rfl,hb'⟩
 go_wp2_with fail
 go_ret
 exact ⟨rfl,below_chain hb0 hb'⟩
end
section
open Go.RowKit
def ArcOk (st syms:Nat) (x:Ac):Prop:=x.1<st/\x.2.2.1<st/\x.2.1<=syms/\TwOk (wt x)
theorem inside1_any (q st syms:Nat) (hq:q<st) (io fo ro:OA) (ni ci nf cf nr cr:Nat) (G:Nat) (w:World) (hG:Bl G [.int .i64 2,.slice none 0 0,.int .i64 (syms:Int),.int .i64 (st:Int),.slice io ni ci,.slice fo nf cf,.slice ro nr cr] 30 w):Calls Tryz.prog 241 #[.int .i64 (q:Int),.pointer (some ⟨G,0,none⟩)] w fun e w'=>e=.returned (.bool true)/\w=w':=by
 obtain ⟨⟨a0,a1,a2,a3⟩,a4,a5,a6⟩:=hG.seven
 have c1:decide ((0:Int)<=(q:Int))=true:=decide_eq_true (by omega)
 have c2:decide ((q:Int)<(st:Int))=true:=decide_eq_true (by omega)
 have c3:(0:Int)<=(q:Int):=by omega
 have c4:(q:Int)<(st:Int):=by omega
 go_enter Tryz.func241,Tryz.ntmps241
 go_wp2_with fail
 go_ret
 exact ⟨rfl,rfl⟩
theorem inside_any (x:Ac) (st syms:Nat) (hx:ArcOk st syms x) (io fo ro:OA) (ni ci nf cf nr cr:Nat) (w:World):Calls Tryz.prog 165 #[.agg #[.int .i64 ((x).1:Int),.int .i64 ((x).2.1:Int),.int .i64 ((x).2.2.1:Int),.bool false,.slice none 0 0,.slice none 0 0,.int .i64 (tc (wt x):Int),.bool (ti (wt x)),.int .u64 0,.slice none 0 0,.slice none 0 0],.agg #[.int .i64 2,.slice none 0 0,.int .i64 (syms:Int),.int .i64 (st:Int),.slice io ni ci,.slice fo nf cf,.slice ro nr cr]] w fun e w'=>e=.returned (.bool true)/\Below w.heap.size w w':=by
 have hb0:Below w.heap.size w ((w.alloc (.cells #[.int .i64 ((x).1:Int),.int .i64 ((x).2.1:Int),.int .i64 ((x).2.2.1:Int),.bool false,.slice none 0 0,.slice none 0 0,.int .i64 (tc (wt x):Int),.bool (ti (wt x)),.int .u64 0,.slice none 0 0,.slice none 0 0] 54)).alloc (.cells #[.int .i64 2,.slice none 0 0,.int .i64 (syms:Int),.int .i64 (st:Int),.slice io ni ci,.slice fo nf cf,.slice ro nr cr] 30)):=below_chain (below_alloc _) (below_alloc _)
 have hA:=(Bl.fresh w [.int .i64 ((x).1:Int),.int .i64 ((x).2.1:Int),.int .i64 ((x).2.2.1:Int),.bool false,.slice none 0 0,.slice none 0 0,.int .i64 (tc (wt x):Int),.bool (ti (wt x)),.int .u64 0,.slice none 0 0,.slice none 0 0] 54).new (.cells #[.int .i64 2,.slice none 0 0,.int .i64 (syms:Int),.int .i64 (st:Int),.slice io ni ci,.slice fo nf cf,.slice ro nr cr] 30)
 have hB:=Bl.fresh' (G:=w.heap.size+1) (w.alloc (.cells #[.int .i64 ((x).1:Int),.int .i64 ((x).2.1:Int),.int .i64 ((x).2.2.1:Int),.bool false,.slice none 0 0,.slice none 0 0,.int .i64 (tc (wt x):Int),.bool (ti (wt x)),.int .u64 0,.slice none 0 0,.slice none 0 0] 54)) [.int .i64 2,.slice none 0 0,.int .i64 (syms:Int),.int .i64 (st:Int),.slice io ni ci,.slice fo nf cf,.slice ro nr cr] 30 (by simp)
 obtain ⟨h1,h2,h3,h4⟩:=hx
 have c1:decide ((0:Int)<=(x.2.1:Int))=true:=decide_eq_true (by omega)
 have c2:decide ((x.2.1:Int)<=(syms:Int))=true:=decide_eq_true (by omega)
 have c3:(0:Int)<=(x.2.1:Int):=by omega
 have c4:(x.2.1:Int)<=(syms:Int):=by omega
 go_enter Tryz.func165,Tryz.ntmps165
 go_upto_region 2 with fail
 generalize ((w.alloc (.cells #[.int .i64 ((x).1:Int),.int .i64 ((x).2.1:Int),.int .i64 ((x).2.2.1:Int),.bool false,.slice none 0 0,.slice none 0 0,.int .i64 (tc (wt x):Int),.bool (ti (wt x)),.int .u64 0,.slice none 0 0,.slice none 0 0] 54)).alloc (.cells #[.int .i64 2,.slice none 0 0,.int .i64 (syms:Int),.int .i64 (st:Int),.slice io ni ci,.slice fo nf cf,.slice ro nr cr] 30))=W0 at *
 obtain ⟨⟨x0,x1,x2,x3⟩,⟨x4,x5,x6,x7⟩,x8,x9,x10⟩:=hA.eleven
 obtain ⟨⟨a0,a1,a2,a3⟩,a4,a5,a6⟩:=hB.seven
 go_wp2_with fail
 refine (inside1_any x.1 st syms h1 io fo ro ni ci nf cf nr cr _ _ hB).mono ?_; rintro e w1 ⟨rfl,rfl⟩
 go_wp2_with fail
 refine (inside1_any x.2.2.1 st syms h2 io fo ro ni ci nf cf nr cr _ _ hB).mono ?_; rintro e w1 ⟨rfl,rfl⟩
 go_wp2_with fail
 refine (checkTw_any _ h4 _).mono ?_; rintro e w1 ⟨rfl,hb1⟩
 go_wp2_with fail
 go_ret
 exact ⟨rfl,below_chain hb0 hb1⟩
theorem Cs.eleven {w:World} {b o:Nat} {z0 z1 z2 a0 a1 a2 a3 a4 a5 a6 a7:Value} (h:Cs w b o [z0,z1,z2,a0,a1,a2,a3,a4,a5,a6,a7]) :
  (w.cell? ⟨b,o,none⟩=some z0/\w.cell? ⟨b,o+1,none⟩=some z1/\w.cell? ⟨b,o+2,none⟩=some z2/\w.cell? ⟨b,o+3,none⟩=some a0)/\(w.cell? ⟨b,o+4,none⟩=some a1/\w.cell? ⟨b,o+5,none⟩=some a2/\w.cell? ⟨b,o+6,none⟩=some a3/\w.cell? ⟨b,o+7,none⟩=some a4)/\w.cell? ⟨b,o+8,none⟩=some a5/\w.cell? ⟨b,o+9,none⟩=some a6/\w.cell? ⟨b,o+10,none⟩=some a7 :=
 ⟨⟨h 0 _ rfl,h 1 _ rfl,h 2 _ rfl,h 3 _ rfl⟩,⟨h 4 _ rfl,h 5 _ rfl,h 6 _ rfl,h 7 _ rfl⟩,h 8 _ rfl,h 9 _ rfl,h 10 _ rfl⟩
theorem valid1_any (x:Ac) (st syms:Nat) (hx:ArcOk st syms x) (io fo ro:OA) (ni ci nf cf nr cr:Nat) (G:Nat) (w:World) (hG:Bl G [.int .i64 2,.slice none 0 0,.int .i64 (syms:Int),.int .i64 (st:Int),.slice io ni ci,.slice fo nf cf,.slice ro nr cr] 30 w):Calls Tryz.prog 164 #[.agg #[.int .i64 ((x).1:Int),.int .i64 ((x).2.1:Int),.int .i64 ((x).2.2.1:Int),.bool false,.slice none 0 0,.slice none 0 0,.int .i64 (tc (wt x):Int),.bool (ti (wt x)),.int .u64 0,.slice none 0 0,.slice none 0 0],.pointer (some ⟨G,0,none⟩)] w fun e w'=>e=.returned (.bool false)/\Below w.heap.size w w':=by
 have hb0:Below w.heap.size w (w.alloc (.cells #[.int .i64 ((x).1:Int),.int .i64 ((x).2.1:Int),.int .i64 ((x).2.2.1:Int),.bool false,.slice none 0 0,.slice none 0 0,.int .i64 (tc (wt x):Int),.bool (ti (wt x)),.int .u64 0,.slice none 0 0,.slice none 0 0] 54)):=below_alloc _
 have hA:=Bl.fresh w [.int .i64 ((x).1:Int),.int .i64 ((x).2.1:Int),.int .i64 ((x).2.2.1:Int),.bool false,.slice none 0 0,.slice none 0 0,.int .i64 (tc (wt x):Int),.bool (ti (wt x)),.int .u64 0,.slice none 0 0,.slice none 0 0] 54
 have hB:=hG.new (.cells #[.int .i64 ((x).1:Int),.int .i64 ((x).2.1:Int),.int .i64 ((x).2.2.1:Int),.bool false,.slice none 0 0,.slice none 0 0,.int .i64 (tc (wt x):Int),.bool (ti (wt x)),.int .u64 0,.slice none 0 0,.slice none 0 0] 54)
 obtain ⟨⟨x0,x1,x2,x3⟩,⟨x4,x5,x6,x7⟩,x8,x9,x10⟩:=hA.eleven
 obtain ⟨⟨a0,a1,a2,a3⟩,a4,a5,a6⟩:=hB.seven
 clear hA hB
 go_enter Tryz.func164,Tryz.ntmps164
 go_wp2_with fail
 refine (inside_any x st syms hx io fo ro ni ci nf cf nr cr _).mono ?_; rintro e w1 ⟨rfl,hb1⟩
 go_wp2_with fail
 go_ret
 exact ⟨rfl,below_chain hb0 hb1⟩
theorem indexA_any (xs:List Ac) (st syms:Nat) (hx:∀ x∈xs,ArcOk st syms x) (io fo ro:OA) (ni ci nf cf nr cr:Nat) (G:Nat) (ao:OA) (n cap:Nat) (w:World) (h:Fl 11 w ao n cap (xs.map acC)) (hG:Bl G [.int .i64 2,.slice none 0 0,.int .i64 (syms:Int),.int .i64 (st:Int),.slice io ni ci,.slice fo nf cf,.slice ro nr cr] 30 w) :
  Calls Tryz.prog 143 #[.slice ao n cap,.func (.func 164) #[] #[.pointer (some ⟨G,0,none⟩)]] w fun e w' =>
   e=.returned (.int .i64 (-1))/\Below w.heap.size w w':=by
 have hbd:=h.bound
 have hl:=hid h.lenMap
 go_enter Tryz.func143,Tryz.ntmps143
 go_wp2_with fail
 go_loopw [8] (fun iv wr=>∃ k:Nat,k<=n/\iv=.int .i64 k/\Below w.heap.size w wr) (fun i _=>n-(intOf i).toNat)
 case atStart=>exact ⟨0,by omega,rfl,Below.refl _ _⟩
 case round =>
  obtain ⟨k,hk,rfl,hb⟩:=hrel
  have hf:=h.next hb
  have hGr:=hG.next hb
  by_cases hlt:k<n
  ·obtain ⟨x,hxk,b,off,rfl,hcs⟩:=hf.get hlt
   have hxo:ArcOk st syms x:=hx x (List.mem_of_getElem? hxk)
   obtain ⟨⟨x0,x1,x2,x3⟩,⟨x4,x5,x6,x7⟩,x8,x9,x10⟩:=hcs.eleven
   have hxk:=hid hxk
   go_wp2_with fail
   refine (valid1_any x st syms hxo io fo ro ni ci nf cf nr cr G _ hGr).mono ?_; rintro e w' ⟨rfl,hb'⟩
   go_wp2_with fail
   go_round
   case rel=>exact ⟨k+1,by omega,by go_num,below_chain hb hb'⟩
   case measure=>simp [intOf]; omega
  ·go_wp2_with fail
   go_ret
   exact ⟨rfl,hb⟩
theorem containsA_any (xs:List Ac) (st syms:Nat) (hx:∀ x∈xs,ArcOk st syms x) (io fo ro:OA) (ni ci nf cf nr cr:Nat) (G:Nat) (ao:OA) (n cap:Nat) (w:World) (h:Fl 11 w ao n cap (xs.map acC)) (hG:Bl G [.int .i64 2,.slice none 0 0,.int .i64 (syms:Int),.int .i64 (st:Int),.slice io ni ci,.slice fo nf cf,.slice ro nr cr] 30 w) :
  Calls Tryz.prog 100 #[.slice ao n cap,.func (.func 164) #[] #[.pointer (some ⟨G,0,none⟩)]] w fun e w' =>
   e=.returned (.bool false)/\Below w.heap.size w w':=by
 go_enter Tryz.func100,Tryz.ntmps100
 go_wp2_with fail
 refine (indexA_any xs st syms hx io fo ro ni ci nf cf nr cr G ao n cap w h hG).mono ?_; rintro e w' ⟨rfl,hb'⟩
 go_wp2_with fail
 go_ret
 exact ⟨rfl,hb'⟩
structure Mo (w:World) (syms:Nat) (A:Au) (io:OA) (ci:Nat) (fo:OA) (cf:Nat) (ro:OA) (nr cr:Nat):Prop where
 ini:Fl 8 w io A.st ci (A.ini.map twC)
 fin:Fl 8 w fo A.st cf (A.fin.map twC)
 arcs:Fl 11 w ro nr cr (A.arcs.map acC)
theorem Mo.next {w w':World} {syms:Nat} {A:Au} {io fo ro:OA} {ci cf nr cr:Nat} (h:Mo w syms A io ci fo cf ro nr cr) (hb:Below w.heap.size w w'):Mo w' syms A io ci fo cf ro nr cr :=
 ⟨h.ini.next hb,h.fin.next hb,h.arcs.next hb⟩
structure Vo (syms:Nat) (A:Au):Prop where
 sym:1<=syms/\syms<=32
 st:A.st<=64
 num:A.arcs.length<=2048
 ini:∀ v∈A.ini,TwOk v
 fin:∀ v∈A.fin,TwOk v
 arcs:∀ x∈A.arcs,ArcOk A.st syms x
theorem valid_any (syms:Nat) (A:Au) (hV:Vo syms A) (io:OA) (ci:Nat) (fo:OA) (cf:Nat) (ro:OA) (nr cr:Nat) (w:World) (h:Mo w syms A io ci fo cf ro nr cr) :
  Calls Tryz.prog 128 #[.agg #[.int .i64 2,.slice none 0 0,.int .i64 (syms:Int),.int .i64 (A.st:Int),.slice io A.st ci,.slice fo A.st cf,.slice ro nr cr]] w fun e w'=>e=.returned (.bool true)/\Below w.heap.size w w':=by
 have hb0:Below w.heap.size w (w.alloc (.cells #[.int .i64 2,.slice none 0 0,.int .i64 (syms:Int),.int .i64 (A.st:Int),.slice io A.st ci,.slice fo A.st cf,.slice ro nr cr] 30)):=below_alloc _
 have hB:=Bl.fresh w [.int .i64 2,.slice none 0 0,.int .i64 (syms:Int),.int .i64 (A.st:Int),.slice io A.st ci,.slice fo A.st cf,.slice ro nr cr] 30
 have hm:=h.next hb0
 clear h
 obtain ⟨⟨a0,a1,a2,a3⟩,a4,a5,a6⟩:=hB.seven
 obtain ⟨⟨s1,s2⟩,s3,s4,s5,s6,s7⟩:=hV
 have hnr:=hm.arcs.lenMap
 have bi:=hm.ini.bound
 have bf:=hm.fin.bound
 have br:=hm.arcs.bound
 obtain ⟨st,ini,fin,arcs⟩:=A
 simp only at *
 have c1:decide ((syms:Int)<1)=false:=decide_eq_false (by omega)
 have c2:decide ((32:Int)<(syms:Int))=false:=decide_eq_false (by omega)
 have c3:decide ((st:Int)<0)=false:=decide_eq_false (by omega)
 have c4:decide ((64:Int)<(st:Int))=false:=decide_eq_false (by omega)
 have c5:decide ((2048:Int)<(nr:Int))=false:=decide_eq_false (by omega)
 have d1:¬ ((syms:Int)<1):=by omega
 have d2:¬ ((32:Int)<(syms:Int)):=by omega
 have d3:¬ ((st:Int)<0):=by omega
 have d4:¬ ((64:Int)<(st:Int)):=by omega
 have d5:¬ ((2048:Int)<(nr:Int)):=by omega
 have hm:=hid hm
 go_enter Tryz.func128,Tryz.ntmps128
 go_upto_region 1 with fail
 generalize (w.alloc (.cells #[.int .i64 2,.slice none 0 0,.int .i64 (syms:Int),.int .i64 (st:Int),.slice io st ci,.slice fo st cf,.slice ro nr cr] 30))=W0 at *
 go_wp2_with fail
 refine (validT_any _).mono ?_; rintro e w1 ⟨rfl,hb1⟩
 replace hB:=hB.next hb1
 replace hb0:=below_chain hb0 hb1
 replace hm:=hid (hm.out.next hb1)
 obtain ⟨⟨a0,a1,a2,a3⟩,a4,a5,a6⟩:=hB.seven
 go_wp2_with fail
 refine (containsA_any arcs st syms s7 io fo ro st ci st cf nr cr _ ro nr cr _ hm.out.arcs hB).mono ?_; rintro e w2 ⟨rfl,hb2⟩
 replace hB:=hB.next hb2
 replace hb0:=below_chain hb0 hb2
 replace hm:=hid (hm.out.next hb2)
 clear a0 a1 a2 a3 a4 a5 a6
 obtain ⟨⟨a0,a1,a2,a3⟩,a4,a5,a6⟩:=hB.seven
 go_wp2_with fail
 refine (weights_any ini s5 io st ci _ hm.out.ini).mono ?_; rintro e w3 ⟨rfl,hb3⟩
 replace hB:=hB.next hb3
 replace hb0:=below_chain hb0 hb3
 replace hm:=hid (hm.out.next hb3)
 clear a0 a1 a2 a3 a4 a5 a6
 obtain ⟨⟨a0,a1,a2,a3⟩,a4,a5,a6⟩:=hB.seven
 go_wp2_with fail
 refine (weights_any fin s6 fo st cf _ hm.out.fin).mono ?_; rintro e w4 ⟨rfl,hb4⟩
 go_wp2_with fail
 go_ret
 exact ⟨rfl,below_chain hb0 hb4⟩
end
end Go.Proofs.YtnapapijhhldpaaGreatDoor

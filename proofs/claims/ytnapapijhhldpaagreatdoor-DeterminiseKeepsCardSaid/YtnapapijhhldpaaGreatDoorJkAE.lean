/-
  Texts joined by program: Twd, Twe. No condition of its own.
-/
import Derived.Test.YtnapapijhhldpaaGreatDoorJkAD
namespace Go.Proofs.YtnapapijhhldpaaGreatDoor
set_option linter.unusedSimpArgs false
set_option linter.unusedVariables false
set_option maxRecDepth 100000
set_option maxHeartbeats 4000000
section
open Go.RowKit
theorem j8i (g:FuncId) (w:World):Calls Tryz.prog 201 #[.func (.func g) #[] #[]] w fun e w'=>e=.returned (.func (.func 266) #[] #[.pointer (some ⟨w.heap.size,0,none⟩)])/\Below w.heap.size w w':=by
 have hb:Below w.heap.size w (w.alloc (.cells #[.func (.func g) #[] #[]] 156)):=qJ _
 go_enter Tryz.func201,Tryz.ntmps201
 go_wp2_with fail
 go_ret
 exact ⟨rfl,hb⟩
theorem q9x (w:World):Calls Tryz.prog 144 #[.int .i64 2] w fun e w'=>e=.returned (.bool true)/\w=w':=by
 go_enter Tryz.func144,Tryz.ntmps144
 go_wp2_with fail
 go_ret
 exact ⟨rfl,rfl⟩
theorem q0n (w:World):Calls Tryz.prog 104 #[.agg #[.int .i64 2,.slice none 0 0]] w fun e w'=>e=.returned (.bool true)/\Below w.heap.size w w':=by
 have hb0:Below w.heap.size w (w.alloc (.cells #[.int .i64 2,.slice none 0 0] 26)):=qJ _
 go_enter Tryz.func104,Tryz.ntmps104
 go_wp2_with fail
 refine (q9x _).mono ?_; rintro e w1 ⟨rfl,rfl⟩
 go_wp2_with fail
 go_ret
 exact ⟨rfl,hb0⟩
theorem j7q (w:World):Calls Tryz.prog 148 #[] w fun e w'=>(∃ u p:Nat,e=.returned (.agg #[.func (.func 194) #[] #[],.func (.func 195) #[] #[],.func (.func 196) #[] #[],.func (.func 197) #[] #[],.func (.func 199) #[] #[],.func (.func 266) #[] #[.pointer (some ⟨u,0,none⟩)],.func (.func 198) #[] #[],.func (.func 200) #[] #[],.func (.func 202) #[] #[.pointer (some ⟨p,0,none⟩)]]))/\Below w.heap.size w w':=by
 have hR:=(Bl.fresh w [.nilFunc,.nilFunc,.nilFunc,.nilFunc,.nilFunc,.nilFunc,.nilFunc,.nilFunc,.nilFunc] 162).new (.cells #[.func (.func 194) #[] #[],.func (.func 195) #[] #[],.func (.func 196) #[] #[],.func (.func 197) #[] #[],.func (.func 199) #[] #[],.nilFunc,.func (.func 198) #[] #[],.func (.func 200) #[] #[],.nilFunc] 162)
 have hA:=Bl.fresh' (G:=w.heap.size+1) (w.alloc (.cells #[.nilFunc,.nilFunc,.nilFunc,.nilFunc,.nilFunc,.nilFunc,.nilFunc,.nilFunc,.nilFunc] 162)) [.func (.func 194) #[] #[],.func (.func 195) #[] #[],.func (.func 196) #[] #[],.func (.func 197) #[] #[],.func (.func 199) #[] #[],.nilFunc,.func (.func 198) #[] #[],.func (.func 200) #[] #[],.nilFunc] 162 (by simp)
 have hb0:Below w.heap.size w ((w.alloc (.cells #[.nilFunc,.nilFunc,.nilFunc,.nilFunc,.nilFunc,.nilFunc,.nilFunc,.nilFunc,.nilFunc] 162)).alloc (.cells #[.func (.func 194) #[] #[],.func (.func 195) #[] #[],.func (.func 196) #[] #[],.func (.func 197) #[] #[],.func (.func 199) #[] #[],.nilFunc,.func (.func 198) #[] #[],.func (.func 200) #[] #[],.nilFunc] 162)):=qQ (qJ _) (qJ _)
 go_enter Tryz.func148,Tryz.ntmps148
 go_upto_region 2 with fail
 generalize (w.alloc (.cells #[.nilFunc,.nilFunc,.nilFunc,.nilFunc,.nilFunc,.nilFunc,.nilFunc,.nilFunc,.nilFunc] 162)).alloc (.cells #[.func (.func 194) #[] #[],.func (.func 195) #[] #[],.func (.func 196) #[] #[],.func (.func 197) #[] #[],.func (.func 199) #[] #[],.nilFunc,.func (.func 198) #[] #[],.func (.func 200) #[] #[],.nilFunc] 162)=W0 at *
 obtain ⟨⟨x0,x1,x2,x3⟩,x4,x5,x6,x7,x8⟩:=hA.nine
 go_wp2_with fail
 refine (j8i _ _).mono ?_; rintro e w1 ⟨rfl,hb1⟩
 replace hA:=hA.next hb1
 replace hR:=hR.next hb1
 have hb:=qQ hb0 hb1
 generalize W0.heap.size=U at *
 have hA5:=hA.put 5 (.func (.func 266) #[] #[.pointer (some ⟨U,0,none⟩)])
 have hA8:=hA5.put 8 (.func (.func 202) #[] #[.pointer (some ⟨w.heap.size+1,0,none⟩)])
 have hR8:=((hR.off (p:=⟨w.heap.size+1,5,none⟩) (by show w.heap.size≠w.heap.size+1; omega) (.func (.func 266) #[] #[.pointer (some ⟨U,0,none⟩)])).off (p:=⟨w.heap.size+1,8,none⟩) (by show w.heap.size≠w.heap.size+1; omega) (.func (.func 202) #[] #[.pointer (some ⟨w.heap.size+1,0,none⟩)]))
 have hR9:=hR8.put9 (.func (.func 194) #[] #[]) (.func (.func 195) #[] #[]) (.func (.func 196) #[] #[]) (.func (.func 197) #[] #[]) (.func (.func 199) #[] #[]) (.func (.func 266) #[] #[.pointer (some ⟨U,0,none⟩)]) (.func (.func 198) #[] #[]) (.func (.func 200) #[] #[]) (.func (.func 202) #[] #[.pointer (some ⟨w.heap.size+1,0,none⟩)])
 have hb9:=z1k ((hb.setCell (p:=⟨w.heap.size+1,5,none⟩) (by show w.heap.size<=w.heap.size+1; omega) (.func (.func 266) #[] #[.pointer (some ⟨U,0,none⟩)])).setCell (p:=⟨w.heap.size+1,8,none⟩) (by show w.heap.size<=w.heap.size+1; omega) (.func (.func 202) #[] #[.pointer (some ⟨w.heap.size+1,0,none⟩)])) (Nat.le_refl w.heap.size) (.func (.func 194) #[] #[]) (.func (.func 195) #[] #[]) (.func (.func 196) #[] #[]) (.func (.func 197) #[] #[]) (.func (.func 199) #[] #[]) (.func (.func 266) #[] #[.pointer (some ⟨U,0,none⟩)]) (.func (.func 198) #[] #[]) (.func (.func 200) #[] #[]) (.func (.func 202) #[] #[.pointer (some ⟨w.heap.size+1,0,none⟩)])
 clear x0 x1 x2 x3 x4 x5 x6 x7 x8
 obtain ⟨⟨x0,x1,x2,x3⟩,x4,x5,x6,x7,x8⟩:=hA.nine
 have f5:=hA.free 5
 have f8:=hA5.free 8
 obtain ⟨⟨y0,y1,y2,y3⟩,y4,y5,y6,y7,y8⟩:=hR.nine
 have g0:=hR.free 0
 have g1:=hR.free 1
 have g2:=hR.free 2
 have g3:=hR.free 3
 have g4:=hR.free 4
 have g5:=hR.free 5
 have g6:=hR.free 6
 have g7:=hR.free 7
 have g8:=hR.free 8
 have HR:=hid hR9.nine
 clear hR9 hR8 hA8 hA5 hA hR hb0 hb1 hb
 go_wp2_with fail
 obtain ⟨⟨e0,e1,e2,e3⟩,e4,e5,e6,e7,e8⟩:=HR.out
 refine bodyPost_ret (v:=.agg #[.func (.func 194) #[] #[],.func (.func 195) #[] #[],.func (.func 196) #[] #[],.func (.func 197) #[] #[],.func (.func 199) #[] #[],.func (.func 266) #[] #[.pointer (some ⟨U,0,none⟩)],.func (.func 198) #[] #[],.func (.func 200) #[] #[],.func (.func 202) #[] #[.pointer (some ⟨w.heap.size+1,0,none⟩)]]) (by simp [results,Tryz.results148,go_sem,e0,e1,e2,e3,e4,e5,e6,e7,e8]) rfl ?_
 exact ⟨⟨_,_,rfl⟩,hb9⟩
theorem q2p (w:World):Calls Tryz.prog 105 #[.int .i64 2] w fun e w'=>(∃ u p:Nat,e=.returned (.agg #[.func (.func 194) #[] #[],.func (.func 195) #[] #[],.func (.func 196) #[] #[],.func (.func 197) #[] #[],.func (.func 199) #[] #[],.func (.func 266) #[] #[.pointer (some ⟨u,0,none⟩)],.func (.func 198) #[] #[],.func (.func 200) #[] #[],.func (.func 202) #[] #[.pointer (some ⟨p,0,none⟩)]]))/\Below w.heap.size w w':=by
 have hR:=Bl.fresh w [.nilFunc,.nilFunc,.nilFunc,.nilFunc,.nilFunc,.nilFunc,.nilFunc,.nilFunc,.nilFunc] 162
 have hb0:Below w.heap.size w (w.alloc (.cells #[.nilFunc,.nilFunc,.nilFunc,.nilFunc,.nilFunc,.nilFunc,.nilFunc,.nilFunc,.nilFunc] 162)):=qJ _
 go_enter Tryz.func105,Tryz.ntmps105
 go_wp2_with fail
 refine (j7q _).mono ?_; rintro e w1 ⟨⟨u,p,rfl⟩,hb1⟩
 replace hR:=hR.next hb1
 have hb:=qQ hb0 hb1
 have hR9:=hR.put9 (.func (.func 194) #[] #[]) (.func (.func 195) #[] #[]) (.func (.func 196) #[] #[]) (.func (.func 197) #[] #[]) (.func (.func 199) #[] #[]) (.func (.func 266) #[] #[.pointer (some ⟨u,0,none⟩)]) (.func (.func 198) #[] #[]) (.func (.func 200) #[] #[]) (.func (.func 202) #[] #[.pointer (some ⟨p,0,none⟩)])
 have hb9:=z1k hb (Nat.le_refl w.heap.size) (.func (.func 194) #[] #[]) (.func (.func 195) #[] #[]) (.func (.func 196) #[] #[]) (.func (.func 197) #[] #[]) (.func (.func 199) #[] #[]) (.func (.func 266) #[] #[.pointer (some ⟨u,0,none⟩)]) (.func (.func 198) #[] #[]) (.func (.func 200) #[] #[]) (.func (.func 202) #[] #[.pointer (some ⟨p,0,none⟩)])
 obtain ⟨⟨y0,y1,y2,y3⟩,y4,y5,y6,y7,y8⟩:=hR.nine
 have g0:=hR.free 0
 have g1:=hR.free 1
 have g2:=hR.free 2
 have g3:=hR.free 3
 have g4:=hR.free 4
 have g5:=hR.free 5
 have g6:=hR.free 6
 have g7:=hR.free 7
 have g8:=hR.free 8
 have HR:=hid hR9.nine
 clear hR9 hR hb0 hb1 hb
 go_wp2_with fail
 obtain ⟨⟨e0,e1,e2,e3⟩,e4,e5,e6,e7,e8⟩:=HR.out
 refine bodyPost_ret (v:=.agg #[.func (.func 194) #[] #[],.func (.func 195) #[] #[],.func (.func 196) #[] #[],.func (.func 197) #[] #[],.func (.func 199) #[] #[],.func (.func 266) #[] #[.pointer (some ⟨u,0,none⟩)],.func (.func 198) #[] #[],.func (.func 200) #[] #[],.func (.func 202) #[] #[.pointer (some ⟨p,0,none⟩)]]) (by simp [results,Tryz.results105,go_sem,e0,e1,e2,e3,e4,e5,e6,e7,e8]) rfl ?_
 exact ⟨⟨_,_,rfl⟩,hb9⟩
theorem z6l (u p:Nat) (W:World):(Instr.field 162 (.agg #[.func (.func 194) #[] #[],.func (.func 195) #[] #[],.func (.func 196) #[] #[],.func (.func 197) #[] #[],.func (.func 199) #[] #[],.func (.func 266) #[] #[.pointer (some ⟨u,0,none⟩)],.func (.func 198) #[] #[],.func (.func 200) #[] #[],.func (.func 202) #[] #[.pointer (some ⟨p,0,none⟩)]]) 0).run Tryz.prog W=.ok (.func (.func 194) #[] #[]) W:=by kernel_rfl
theorem z6k (u p:Nat) (W:World):(Instr.field 162 (.agg #[.func (.func 194) #[] #[],.func (.func 195) #[] #[],.func (.func 196) #[] #[],.func (.func 197) #[] #[],.func (.func 199) #[] #[],.func (.func 266) #[] #[.pointer (some ⟨u,0,none⟩)],.func (.func 198) #[] #[],.func (.func 200) #[] #[],.func (.func 202) #[] #[.pointer (some ⟨p,0,none⟩)]]) 1).run Tryz.prog W=.ok (.func (.func 195) #[] #[]) W:=by kernel_rfl
theorem z6j (u p:Nat) (W:World):(Instr.field 162 (.agg #[.func (.func 194) #[] #[],.func (.func 195) #[] #[],.func (.func 196) #[] #[],.func (.func 197) #[] #[],.func (.func 199) #[] #[],.func (.func 266) #[] #[.pointer (some ⟨u,0,none⟩)],.func (.func 198) #[] #[],.func (.func 200) #[] #[],.func (.func 202) #[] #[.pointer (some ⟨p,0,none⟩)]]) 3).run Tryz.prog W=.ok (.func (.func 197) #[] #[]) W:=by kernel_rfl
theorem z6i (u p:Nat) (W:World):(Instr.field 162 (.agg #[.func (.func 194) #[] #[],.func (.func 195) #[] #[],.func (.func 196) #[] #[],.func (.func 197) #[] #[],.func (.func 199) #[] #[],.func (.func 266) #[] #[.pointer (some ⟨u,0,none⟩)],.func (.func 198) #[] #[],.func (.func 200) #[] #[],.func (.func 202) #[] #[.pointer (some ⟨p,0,none⟩)]]) 4).run Tryz.prog W=.ok (.func (.func 199) #[] #[]) W:=by kernel_rfl
abbrev C2w (G:Nat) (a b:Value) (w:World):Prop:=w.cell? ⟨G,0,none⟩=some a/\w.cell? ⟨G,1,none⟩=some b
abbrev C8w (G:Nat) (a b c d e f g k:Value) (w:World):Prop:=(w.cell? ⟨G,0,none⟩=some a/\w.cell? ⟨G,1,none⟩=some b/\w.cell? ⟨G,2,none⟩=some c/\w.cell? ⟨G,3,none⟩=some d)/\w.cell? ⟨G,4,none⟩=some e/\w.cell? ⟨G,5,none⟩=some f/\w.cell? ⟨G,6,none⟩=some g/\w.cell? ⟨G,7,none⟩=some k
theorem qR {w w':World} {G i:Nat} {v:Value} (h:w.cell? ⟨G,i,none⟩=some v) (hb:Below w.heap.size w w'):w'.cell? ⟨G,i,none⟩=some v:=(hb.cell (p:=⟨G,i,none⟩) (World.block_lt_of_cell? w _ h)).trans h
theorem C2w.next {G:Nat} {a b:Value} {w w':World} (h:C2w G a b w) (hb:Below w.heap.size w w'):C2w G a b w':=⟨qR h.1 hb,qR h.2 hb⟩
theorem C8w.next {G:Nat} {a b c d e f g k:Value} {w w':World} (h:C8w G a b c d e f g k w) (hb:Below w.heap.size w w'):C8w G a b c d e f g k w' :=
 ⟨⟨qR h.1.1 hb,qR h.1.2.1 hb,qR h.1.2.2.1 hb,qR h.1.2.2.2 hb⟩,qR h.2.1 hb,qR h.2.2.1 hb,qR h.2.2.2.1 hb,qR h.2.2.2.2 hb⟩
theorem vP (w:World) (c:Int) (i:Bool):Below w.heap.size w ((w.alloc (.cells #[.int .i64 2,.slice none 0 0] 26)).alloc (.cells #[.bool false,.slice none 0 0,.slice none 0 0,.int .i64 c,.bool i,.int .u64 0,.slice none 0 0,.slice none 0 0] 45)) /\
  Bl w.heap.size [.int .i64 2,.slice none 0 0] 26 ((w.alloc (.cells #[.int .i64 2,.slice none 0 0] 26)).alloc (.cells #[.bool false,.slice none 0 0,.slice none 0 0,.int .i64 c,.bool i,.int .u64 0,.slice none 0 0,.slice none 0 0] 45)) /\
  Bl (w.heap.size+1) [.bool false,.slice none 0 0,.slice none 0 0,.int .i64 c,.bool i,.int .u64 0,.slice none 0 0,.slice none 0 0] 45 ((w.alloc (.cells #[.int .i64 2,.slice none 0 0] 26)).alloc (.cells #[.bool false,.slice none 0 0,.slice none 0 0,.int .i64 c,.bool i,.int .u64 0,.slice none 0 0,.slice none 0 0] 45)) :=
 ⟨qQ (qJ _) (qJ _),(Bl.fresh w [.int .i64 2,.slice none 0 0] 26).new _,Bl.fresh' (G:=w.heap.size+1) (w.alloc (.cells #[.int .i64 2,.slice none 0 0] 26)) [.bool false,.slice none 0 0,.slice none 0 0,.int .i64 c,.bool i,.int .u64 0,.slice none 0 0,.slice none 0 0] 45 (by simp)⟩
theorem q6e (c:Nat) (i:Bool) (hc:c<=1099511627776) (hi:i=true->c=0) (w:World):Calls Tryz.prog 152 #[.agg #[.int .i64 2,.slice none 0 0],.agg #[.bool false,.slice none 0 0,.slice none 0 0,.int .i64 (c:Int),.bool i,.int .u64 0,.slice none 0 0,.slice none 0 0]] w fun e w'=>e=.returned (.bool true)/\Below w.heap.size w w':=by
 obtain ⟨hb0,hA,hB⟩:=vP w (c:Int) i
 go_enter Tryz.func152,Tryz.ntmps152
 go_wp2_with fail
 refine (q0n _).mono ?_; rintro e w1 ⟨rfl,hb1⟩
 replace hA:=hA.next hb1
 replace hB:=hB.next hb1
 have hb:=qQ hb0 hb1
 have r:=hA.two
 have x:=hB.eight
 obtain ⟨r0,r1⟩:=hA.two
 clear hb0 hb1 hA hB
 go_upto_region 4 with fail
 have hd:=(Below.refl w1.heap.size w1).drew
 have hS:C2w w.heap.size (.int .i64 2) (.slice none 0 0) w1.drew/\C8w (w.heap.size+1) (.bool false) (.slice none 0 0) (.slice none 0 0) (.int .i64 (c:Int)) (.bool i) (.int .u64 0) (.slice none 0 0) (.slice none 0 0) w1.drew:=⟨C2w.next r hd,C8w.next x hd⟩
 have hK:∀ w' w'',(C2w w.heap.size (.int .i64 2) (.slice none 0 0) w'/\C8w (w.heap.size+1) (.bool false) (.slice none 0 0) (.slice none 0 0) (.int .i64 (c:Int)) (.bool i) (.int .u64 0) (.slice none 0 0) (.slice none 0 0) w')->Below w'.heap.size w' w''->(C2w w.heap.size (.int .i64 2) (.slice none 0 0) w''/\C8w (w.heap.size+1) (.bool false) (.slice none 0 0) (.slice none 0 0) (.int .i64 (c:Int)) (.bool i) (.int .u64 0) (.slice none 0 0) (.slice none 0 0) w''):=fun w' w'' h hb=>⟨C2w.next h.1 hb,C8w.next h.2 hb⟩
 have hbd:=hb.trans (hd.mono hb.size)
 clear r x r0 r1
 refine qV (fun w'=>C2w w.heap.size (.int .i64 2) (.slice none 0 0) w'/\C8w (w.heap.size+1) (.bool false) (.slice none 0 0) (.slice none 0 0) (.int .i64 (c:Int)) (.bool i) (.int .u64 0) (.slice none 0 0) (.slice none 0 0) w') [] (by kernel_rfl) ?_
 refine wCp 0 rfl hS ?_
 refine wCl 1 (v:=?_) rfl ?_ hS ?_
 rotate_left
 ·intro w hw; obtain ⟨⟨a0,a1⟩,⟨b0,b1,b2,b3⟩,b4,b5,b6,b7⟩:=hw; first | (go_simp; done) | (go_simp; with_reducible rfl)
 refine wCl 4 (v:=?_) rfl ?_ hS ?_
 rotate_left
 ·intro w hw; obtain ⟨⟨a0,a1⟩,⟨b0,b1,b2,b3⟩,b4,b5,b6,b7⟩:=hw; first | (go_simp; done) | (go_simp; with_reducible rfl)
 refine wpO (i:=2) rfl fun KK hKK=>?_
 go_simp
 go_at_call 105
 refine (q2p _).mono ?_; rintro e w2 ⟨⟨u,p,rfl⟩,hb2⟩
 have hfl:=z6l u p
 try go_simp
 refine hKK _ _ ⟨fun _=>hK _ _ hS hb2,?_⟩; clear hKK KK
 refine wCp 3 rfl (hK _ _ hS hb2) ?_
 refine wpO (i:=5) rfl fun KK hKK=>?_
 go_simp
 go_at_call 194
 refine (j4d c i hc hi _).mono ?_; rintro e w3 ⟨rfl,hb3⟩
 try go_simp
 refine hKK _ _ ⟨fun _=>hK _ _ (hK _ _ hS hb2) hb3,?_⟩; clear hKK KK
 refine wpO (i:=6) rfl fun KK hKK=>?_
 go_simp
 refine hKK _ _ ⟨fun _=>hK _ _ (hK _ _ hS hb2) hb3,?_⟩; clear hKK KK
 refine qZ (by kernel_rfl) ?_ _
 go_wp2_with fail
 go_ret
 exact ⟨rfl,qQ (qQ hbd hb2) hb3⟩
end
section
open Go.RowKit
theorem j4k (w:World):Calls Tryz.prog 76 #[.agg #[.int .i64 2,.slice none 0 0]] w fun e w'=>e=.returned (.agg #[.bool false,.slice none 0 0,.slice none 0 0,.int .i64 0,.bool true,.int .u64 0,.slice none 0 0,.slice none 0 0])/\Below w.heap.size w w':=by
 obtain ⟨hb0,hA,hB⟩:=vP w 0 false
 go_enter Tryz.func76,Tryz.ntmps76
 go_wp2_with fail
 refine (q0n _).mono ?_; rintro e w1 ⟨rfl,hb1⟩
 replace hA:=hA.next hb1
 replace hB:=hB.next hb1
 have hb:=qQ hb0 hb1
 obtain ⟨r0,r1⟩:=hA.two
 clear hb0 hb1
 go_wp2_with fail
 refine (q2p _).mono ?_; rintro e w2 ⟨⟨u,p,rfl⟩,hb2⟩
 have hfl:=z6k u p
 replace hA:=hA.next hb2
 replace hB:=hB.next hb2
 have hbb:=qQ hb hb2
 clear r0 r1 hb2
 go_wp2_with fail
 refine (j4c _).mono ?_; rintro e w3 ⟨rfl,hb3⟩
 replace hB:=hB.next hb3
 have hbc:=qQ hbb hb3
 have hO2:=hB.put8 (.bool false) (.slice none 0 0) (.slice none 0 0) (.int .i64 0) (.bool true) (.int .u64 0) (.slice none 0 0) (.slice none 0 0)
 have hbd:=q0d hbc (show w.heap.size<=w.heap.size+1 by omega) (.bool false) (.slice none 0 0) (.slice none 0 0) (.int .i64 0) (.bool true) (.int .u64 0) (.slice none 0 0) (.slice none 0 0)
 have HO:=hid hO2.eight
 obtain ⟨⟨f0,f1,f2,f3⟩,f4,f5,f6,f7⟩:=hB.free8
 obtain ⟨⟨o0,o1,o2,o3⟩,o4,o5,o6,o7⟩:=hB.eight
 clear hO2 hB hA hb hbb hbc hb3 hfl
 go_wp2_with fail
 obtain ⟨⟨e0,e1,e2,e3⟩,e4,e5,e6,e7⟩:=HO.out
 refine bodyPost_ret (v:=.agg #[.bool false,.slice none 0 0,.slice none 0 0,.int .i64 0,.bool true,.int .u64 0,.slice none 0 0,.slice none 0 0]) (by simp [results,Tryz.results76,go_sem,e0,e1,e2,e3,e4,e5,e6,e7]) rfl ?_
 exact ⟨rfl,hbd⟩
theorem z6r (w:World) (c d:Int) (i j:Bool):Below w.heap.size w (((w.alloc (.cells #[.int .i64 2,.slice none 0 0] 26)).alloc (.cells #[.bool false,.slice none 0 0,.slice none 0 0,.int .i64 c,.bool i,.int .u64 0,.slice none 0 0,.slice none 0 0] 45)).alloc (.cells #[.bool false,.slice none 0 0,.slice none 0 0,.int .i64 d,.bool j,.int .u64 0,.slice none 0 0,.slice none 0 0] 45)) /\
  Bl w.heap.size [.int .i64 2,.slice none 0 0] 26 (((w.alloc (.cells #[.int .i64 2,.slice none 0 0] 26)).alloc (.cells #[.bool false,.slice none 0 0,.slice none 0 0,.int .i64 c,.bool i,.int .u64 0,.slice none 0 0,.slice none 0 0] 45)).alloc (.cells #[.bool false,.slice none 0 0,.slice none 0 0,.int .i64 d,.bool j,.int .u64 0,.slice none 0 0,.slice none 0 0] 45)) /\
  Bl (w.heap.size+1) [.bool false,.slice none 0 0,.slice none 0 0,.int .i64 c,.bool i,.int .u64 0,.slice none 0 0,.slice none 0 0] 45 (((w.alloc (.cells #[.int .i64 2,.slice none 0 0] 26)).alloc (.cells #[.bool false,.slice none 0 0,.slice none 0 0,.int .i64 c,.bool i,.int .u64 0,.slice none 0 0,.slice none 0 0] 45)).alloc (.cells #[.bool false,.slice none 0 0,.slice none 0 0,.int .i64 d,.bool j,.int .u64 0,.slice none 0 0,.slice none 0 0] 45)) /\
  Bl (w.heap.size+1+1) [.bool false,.slice none 0 0,.slice none 0 0,.int .i64 d,.bool j,.int .u64 0,.slice none 0 0,.slice none 0 0] 45 (((w.alloc (.cells #[.int .i64 2,.slice none 0 0] 26)).alloc (.cells #[.bool false,.slice none 0 0,.slice none 0 0,.int .i64 c,.bool i,.int .u64 0,.slice none 0 0,.slice none 0 0] 45)).alloc (.cells #[.bool false,.slice none 0 0,.slice none 0 0,.int .i64 d,.bool j,.int .u64 0,.slice none 0 0,.slice none 0 0] 45)):=by
 obtain ⟨h1,h2,h3⟩:=vP w c i
 exact ⟨qQ h1 (qJ _),h2.new _,h3.new _,Bl.fresh' (G:=w.heap.size+1+1) ((w.alloc (.cells #[.int .i64 2,.slice none 0 0] 26)).alloc (.cells #[.bool false,.slice none 0 0,.slice none 0 0,.int .i64 c,.bool i,.int .u64 0,.slice none 0 0,.slice none 0 0] 45)) [.bool false,.slice none 0 0,.slice none 0 0,.int .i64 d,.bool j,.int .u64 0,.slice none 0 0,.slice none 0 0] 45 (by simp)⟩
theorem q1l (c:Nat) (i:Bool) (hc:c<=1099511627776) (hi:i=true->c=0) (w:World):Calls Tryz.prog 108 #[.agg #[.int .i64 2,.slice none 0 0],.agg #[.bool false,.slice none 0 0,.slice none 0 0,.int .i64 (c:Int),.bool i,.int .u64 0,.slice none 0 0,.slice none 0 0]] w fun e w'=>e=.returned (.agg #[.bool false,.slice none 0 0,.slice none 0 0,.int .i64 (c:Int),.bool i,.int .u64 0,.slice none 0 0,.slice none 0 0])/\Below w.heap.size w w':=by
 obtain ⟨hb0,hA,hB,hO⟩:=z6r w (c:Int) 0 i false
 go_enter Tryz.func108,Tryz.ntmps108
 go_wp2_with fail
 refine (q6e c i hc hi _).mono ?_; rintro e w1 ⟨rfl,hb1⟩
 replace hB:=hB.next hb1
 replace hO:=hO.next hb1
 have hb:=qQ hb0 hb1
 have hO2:=hO.put8 (.bool false) (.slice none 0 0) (.slice none 0 0) (.int .i64 (c:Int)) (.bool i) (.int .u64 0) (.slice none 0 0) (.slice none 0 0)
 have hbd:=q0d hb (show w.heap.size<=w.heap.size+1+1 by omega) (.bool false) (.slice none 0 0) (.slice none 0 0) (.int .i64 (c:Int)) (.bool i) (.int .u64 0) (.slice none 0 0) (.slice none 0 0)
 have HO:=hid hO2.eight
 obtain ⟨⟨x0,x1,x2,x3⟩,x4,x5,x6,x7⟩:=hB.eight
 obtain ⟨⟨f0,f1,f2,f3⟩,f4,f5,f6,f7⟩:=hO.free8
 obtain ⟨⟨o0,o1,o2,o3⟩,o4,o5,o6,o7⟩:=hO.eight
 clear hO2 hB hA hb hb0 hb1 hO
 go_wp2_with fail
 obtain ⟨⟨e0,e1,e2,e3⟩,e4,e5,e6,e7⟩:=HO.out
 refine bodyPost_ret (v:=.agg #[.bool false,.slice none 0 0,.slice none 0 0,.int .i64 (c:Int),.bool i,.int .u64 0,.slice none 0 0,.slice none 0 0]) (by simp [results,Tryz.results108,go_sem,e0,e1,e2,e3,e4,e5,e6,e7]) rfl ?_
 exact ⟨rfl,hbd⟩
theorem z5p (w:World) (c d:Int) (i j:Bool):Below w.heap.size w (((w.alloc (.cells #[.bool false,.slice none 0 0,.slice none 0 0,.int .i64 c,.bool i,.int .u64 0,.slice none 0 0,.slice none 0 0] 45)).alloc (.cells #[.bool false,.slice none 0 0,.slice none 0 0,.int .i64 d,.bool j,.int .u64 0,.slice none 0 0,.slice none 0 0] 45)).alloc (.cells #[.bool false,.slice none 0 0,.slice none 0 0,.int .i64 0,.bool false,.int .u64 0,.slice none 0 0,.slice none 0 0] 45)) /\
  Bl w.heap.size [.bool false,.slice none 0 0,.slice none 0 0,.int .i64 c,.bool i,.int .u64 0,.slice none 0 0,.slice none 0 0] 45 (((w.alloc (.cells #[.bool false,.slice none 0 0,.slice none 0 0,.int .i64 c,.bool i,.int .u64 0,.slice none 0 0,.slice none 0 0] 45)).alloc (.cells #[.bool false,.slice none 0 0,.slice none 0 0,.int .i64 d,.bool j,.int .u64 0,.slice none 0 0,.slice none 0 0] 45)).alloc (.cells #[.bool false,.slice none 0 0,.slice none 0 0,.int .i64 0,.bool false,.int .u64 0,.slice none 0 0,.slice none 0 0] 45)) /\
  Bl (w.heap.size+1) [.bool false,.slice none 0 0,.slice none 0 0,.int .i64 d,.bool j,.int .u64 0,.slice none 0 0,.slice none 0 0] 45 (((w.alloc (.cells #[.bool false,.slice none 0 0,.slice none 0 0,.int .i64 c,.bool i,.int .u64 0,.slice none 0 0,.slice none 0 0] 45)).alloc (.cells #[.bool false,.slice none 0 0,.slice none 0 0,.int .i64 d,.bool j,.int .u64 0,.slice none 0 0,.slice none 0 0] 45)).alloc (.cells #[.bool false,.slice none 0 0,.slice none 0 0,.int .i64 0,.bool false,.int .u64 0,.slice none 0 0,.slice none 0 0] 45)) /\
  Bl (w.heap.size+1+1) [.bool false,.slice none 0 0,.slice none 0 0,.int .i64 0,.bool false,.int .u64 0,.slice none 0 0,.slice none 0 0] 45 (((w.alloc (.cells #[.bool false,.slice none 0 0,.slice none 0 0,.int .i64 c,.bool i,.int .u64 0,.slice none 0 0,.slice none 0 0] 45)).alloc (.cells #[.bool false,.slice none 0 0,.slice none 0 0,.int .i64 d,.bool j,.int .u64 0,.slice none 0 0,.slice none 0 0] 45)).alloc (.cells #[.bool false,.slice none 0 0,.slice none 0 0,.int .i64 0,.bool false,.int .u64 0,.slice none 0 0,.slice none 0 0] 45)):=by
 obtain ⟨h1,h2,h3⟩:=q2e w c d i j
 exact ⟨qQ h1 (qJ _),h2.new _,h3.new _,Bl.fresh' (G:=w.heap.size+1+1) ((w.alloc (.cells #[.bool false,.slice none 0 0,.slice none 0 0,.int .i64 c,.bool i,.int .u64 0,.slice none 0 0,.slice none 0 0] 45)).alloc (.cells #[.bool false,.slice none 0 0,.slice none 0 0,.int .i64 d,.bool j,.int .u64 0,.slice none 0 0,.slice none 0 0] 45)) [.bool false,.slice none 0 0,.slice none 0 0,.int .i64 0,.bool false,.int .u64 0,.slice none 0 0,.slice none 0 0] 45 (by simp)⟩
theorem j4b (c d:Nat) (i j:Bool) (w:World):Calls Tryz.prog 197 #[.agg #[.bool false,.slice none 0 0,.slice none 0 0,.int .i64 (c:Int),.bool i,.int .u64 0,.slice none 0 0,.slice none 0 0],.agg #[.bool false,.slice none 0 0,.slice none 0 0,.int .i64 (d:Int),.bool j,.int .u64 0,.slice none 0 0,.slice none 0 0]] w fun e w'=>e=.returned (if (!j&&(i||decide (d<c)))=true then .agg #[.bool false,.slice none 0 0,.slice none 0 0,.int .i64 (d:Int),.bool j,.int .u64 0,.slice none 0 0,.slice none 0 0] else .agg #[.bool false,.slice none 0 0,.slice none 0 0,.int .i64 (c:Int),.bool i,.int .u64 0,.slice none 0 0,.slice none 0 0])/\Below w.heap.size w w':=by
 obtain ⟨hb0,hA,hB,hO⟩:=z5p w (c:Int) (d:Int) i j
 have hle:=hid (fun W=>j6l d c j i W)
 obtain ⟨q,hq⟩:∃ q,(!j&&(i||decide (d<c)))=q:=⟨_,rfl⟩
 rw [hq] at hle ⊢
 clear hq
 go_enter Tryz.func197,Tryz.ntmps197
 go_wp2_with fail
 refine (hle.out _).mono ?_; rintro e w1 ⟨rfl,hb1⟩
 replace hA:=hA.next hb1
 replace hB:=hB.next hb1
 replace hO:=hO.next hb1
 have hb:=qQ hb0 hb1
 obtain ⟨⟨x0,x1,x2,x3⟩,x4,x5,x6,x7⟩:=hA.eight
 obtain ⟨⟨y0,y1,y2,y3⟩,y4,y5,y6,y7⟩:=hB.eight
 clear hA hB hb0 hb1 hle
 cases q with
 | true =>
  have hO2:=hO.put8 (.bool false) (.slice none 0 0) (.slice none 0 0) (.int .i64 (d:Int)) (.bool j) (.int .u64 0) (.slice none 0 0) (.slice none 0 0)
  have hbd:=q0d hb (show w.heap.size<=w.heap.size+1+1 by omega) (.bool false) (.slice none 0 0) (.slice none 0 0) (.int .i64 (d:Int)) (.bool j) (.int .u64 0) (.slice none 0 0) (.slice none 0 0)
  have HO:=hid hO2.eight
  obtain ⟨⟨f0,f1,f2,f3⟩,f4,f5,f6,f7⟩:=hO.free8
  obtain ⟨⟨o0,o1,o2,o3⟩,o4,o5,o6,o7⟩:=hO.eight
  clear hO2 hb hO
  go_wp2_with fail
  obtain ⟨⟨e0,e1,e2,e3⟩,e4,e5,e6,e7⟩:=HO.out
  refine bodyPost_ret (v:=.agg #[.bool false,.slice none 0 0,.slice none 0 0,.int .i64 (d:Int),.bool j,.int .u64 0,.slice none 0 0,.slice none 0 0]) (by simp [results,Tryz.results197,go_sem,e0,e1,e2,e3,e4,e5,e6,e7]) rfl ?_
  exact ⟨rfl,hbd⟩
 | false =>
  have hO2:=hO.put8 (.bool false) (.slice none 0 0) (.slice none 0 0) (.int .i64 (c:Int)) (.bool i) (.int .u64 0) (.slice none 0 0) (.slice none 0 0)
  have hbd:=q0d hb (show w.heap.size<=w.heap.size+1+1 by omega) (.bool false) (.slice none 0 0) (.slice none 0 0) (.int .i64 (c:Int)) (.bool i) (.int .u64 0) (.slice none 0 0) (.slice none 0 0)
  have HO:=hid hO2.eight
  obtain ⟨⟨f0,f1,f2,f3⟩,f4,f5,f6,f7⟩:=hO.free8
  obtain ⟨⟨o0,o1,o2,o3⟩,o4,o5,o6,o7⟩:=hO.eight
  clear hO2 hb hO
  go_wp2_with fail
  obtain ⟨⟨e0,e1,e2,e3⟩,e4,e5,e6,e7⟩:=HO.out
  refine bodyPost_ret (v:=.agg #[.bool false,.slice none 0 0,.slice none 0 0,.int .i64 (c:Int),.bool i,.int .u64 0,.slice none 0 0,.slice none 0 0]) (by simp [results,Tryz.results197,go_sem,e0,e1,e2,e3,e4,e5,e6,e7]) rfl ?_
  exact ⟨rfl,hbd⟩
theorem j4a (c d:Nat) (i j:Bool) (hc:c<=1099511627776) (hd:d<=1099511627776) (w:World):Calls Tryz.prog 199 #[.agg #[.bool false,.slice none 0 0,.slice none 0 0,.int .i64 (c:Int),.bool i,.int .u64 0,.slice none 0 0,.slice none 0 0],.agg #[.bool false,.slice none 0 0,.slice none 0 0,.int .i64 (d:Int),.bool j,.int .u64 0,.slice none 0 0,.slice none 0 0]] w fun e w'=>e=.returned (if (i||j||decide (1099511627776<c+d))=true then .agg #[.bool false,.slice none 0 0,.slice none 0 0,.int .i64 0,.bool true,.int .u64 0,.slice none 0 0,.slice none 0 0] else .agg #[.bool false,.slice none 0 0,.slice none 0 0,.int .i64 ((c+d:Nat):Int),.bool false,.int .u64 0,.slice none 0 0,.slice none 0 0])/\Below w.heap.size w w':=by
 obtain ⟨hb0,hA,hB,hO⟩:=z5p w (c:Int) (d:Int) i j
 go_enter Tryz.func199,Tryz.ntmps199
 go_upto_region 1 with fail
 generalize (((w.alloc (.cells #[.bool false,.slice none 0 0,.slice none 0 0,.int .i64 (c:Int),.bool i,.int .u64 0,.slice none 0 0,.slice none 0 0] 45)).alloc (.cells #[.bool false,.slice none 0 0,.slice none 0 0,.int .i64 (d:Int),.bool j,.int .u64 0,.slice none 0 0,.slice none 0 0] 45)).alloc (.cells #[.bool false,.slice none 0 0,.slice none 0 0,.int .i64 0,.bool false,.int .u64 0,.slice none 0 0,.slice none 0 0] 45))=W0 at *
 obtain ⟨⟨x0,x1,x2,x3⟩,x4,x5,x6,x7⟩:=hA.eight
 obtain ⟨⟨y0,y1,y2,y3⟩,y4,y5,y6,y7⟩:=hB.eight
 have hb:=hb0
 clear hA hB hb0
 obtain ⟨q,hq⟩:∃ q,(i||j||decide (1099511627776<c+d))=q:=⟨_,rfl⟩
 cases q with
 | true =>
  have Hq:=hid hq
  have hO2:=hO.put8 (.bool false) (.slice none 0 0) (.slice none 0 0) (.int .i64 0) (.bool true) (.int .u64 0) (.slice none 0 0) (.slice none 0 0)
  have hbd:=q0d hb (show w.heap.size<=w.heap.size+1+1 by omega) (.bool false) (.slice none 0 0) (.slice none 0 0) (.int .i64 0) (.bool true) (.int .u64 0) (.slice none 0 0) (.slice none 0 0)
  have HO:=hid hO2.eight
  obtain ⟨⟨f0,f1,f2,f3⟩,f4,f5,f6,f7⟩:=hO.free8
  obtain ⟨⟨o0,o1,o2,o3⟩,o4,o5,o6,o7⟩:=hO.eight
  clear hO2 hb hO
  cases i with
  | true =>
   clear hq
   go_wp2_with fail
   obtain ⟨⟨e0,e1,e2,e3⟩,e4,e5,e6,e7⟩:=HO.out
   refine bodyPost_ret (v:=.agg #[.bool false,.slice none 0 0,.slice none 0 0,.int .i64 0,.bool true,.int .u64 0,.slice none 0 0,.slice none 0 0]) (by simp [results,Tryz.results199,go_sem,e0,e1,e2,e3,e4,e5,e6,e7]) rfl ?_
   exact ⟨by first | rfl | (rw [Hq.out]; rfl) | (rw [Hq.out]; simp),hbd⟩
  | false =>
   cases j with
   | true =>
    clear hq
    go_wp2_with fail
    obtain ⟨⟨e0,e1,e2,e3⟩,e4,e5,e6,e7⟩:=HO.out
    refine bodyPost_ret (v:=.agg #[.bool false,.slice none 0 0,.slice none 0 0,.int .i64 0,.bool true,.int .u64 0,.slice none 0 0,.slice none 0 0]) (by simp [results,Tryz.results199,go_sem,e0,e1,e2,e3,e4,e5,e6,e7]) rfl ?_
    exact ⟨by first | rfl | (rw [Hq.out]; rfl) | (rw [Hq.out]; simp),hbd⟩
   | false =>
    have c0:1099511627776<c+d:=by simpa using hq
    have c1:decide ((1099511627776:Int)<(c:Int)+(d:Int))=true:=decide_eq_true (by omega)
    have c2:(1099511627776:Int)<(c:Int)+(d:Int):=by omega
    clear hq c0
    go_wp2_with fail
    obtain ⟨⟨e0,e1,e2,e3⟩,e4,e5,e6,e7⟩:=HO.out
    refine bodyPost_ret (v:=.agg #[.bool false,.slice none 0 0,.slice none 0 0,.int .i64 0,.bool true,.int .u64 0,.slice none 0 0,.slice none 0 0]) (by simp [results,Tryz.results199,go_sem,e0,e1,e2,e3,e4,e5,e6,e7]) rfl ?_
    exact ⟨by first | rfl | (rw [Hq.out]; rfl) | (rw [Hq.out]; simp),hbd⟩
 | false =>
  have Hq:=hid hq
  have c0:i=false/\j=false/\¬ 1099511627776<c+d:=by
   cases i<;>cases j<;>simp at hq ⊢
   omega
  obtain ⟨rfl,rfl,c0⟩:=c0
  have c1:decide ((1099511627776:Int)<(c:Int)+(d:Int))=false:=decide_eq_false (by omega)
  have c2:¬ (1099511627776:Int)<(c:Int)+(d:Int):=by omega
  clear hq c0
  have hO2:=hO.put8 (.bool false) (.slice none 0 0) (.slice none 0 0) (.int .i64 ((c:Int)+(d:Int))) (.bool false) (.int .u64 0) (.slice none 0 0) (.slice none 0 0)
  have hbd:=q0d hb (show w.heap.size<=w.heap.size+1+1 by omega) (.bool false) (.slice none 0 0) (.slice none 0 0) (.int .i64 ((c:Int)+(d:Int))) (.bool false) (.int .u64 0) (.slice none 0 0) (.slice none 0 0)
  have HO:=hid hO2.eight
  obtain ⟨⟨f0,f1,f2,f3⟩,f4,f5,f6,f7⟩:=hO.free8
  obtain ⟨⟨o0,o1,o2,o3⟩,o4,o5,o6,o7⟩:=hO.eight
  clear hO2 hb hO
  go_wp2_with fail
  obtain ⟨⟨e0,e1,e2,e3⟩,e4,e5,e6,e7⟩:=HO.out
  refine bodyPost_ret (v:=.agg #[.bool false,.slice none 0 0,.slice none 0 0,.int .i64 ((c:Int)+(d:Int)),.bool false,.int .u64 0,.slice none 0 0,.slice none 0 0]) (by simp [results,Tryz.results199,go_sem,e0,e1,e2,e3,e4,e5,e6,e7]) rfl ?_
  exact ⟨by first | rfl | (rw [Hq.out]; rfl) | (rw [Hq.out]; simp),hbd⟩
end
end Go.Proofs.YtnapapijhhldpaaGreatDoor

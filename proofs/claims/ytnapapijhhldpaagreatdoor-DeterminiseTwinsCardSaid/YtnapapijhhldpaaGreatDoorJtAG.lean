/-
  Texts joined by program: Twi, Twj, Twk, Twl, Twm, Twn, Two. No condition of its own.
-/
import Derived.Test.YtnapapijhhldpaaGreatDoorJtAF
namespace Go.Proofs.YtnapapijhhldpaaGreatDoor
set_option linter.unusedSimpArgs false
set_option linter.unusedVariables false
set_option maxRecDepth 100000
set_option maxHeartbeats 4000000
section
open Go.RowKit
theorem take_map_step {α β:Type} {f:α->β} {xs:List α} {k:Nat} {x:α} (h:xs[k]? = some x):(xs.take (k+1)).map f=(xs.take k).map f++[f x]:=by
 rw [List.take_succ_eq_append_getElem (List.getElem?_eq_some_iff.1 h).1,List.map_append,(List.getElem?_eq_some_iff.1 h).2]; rfl
theorem below_chain' {B:Nat} {a b c:World} (h:Below B a b) (k:Below B b c):Below B a c:=h.trans k
theorem twOk_none:TwOk none:=Nat.zero_le _
theorem copy_any (xs:List Tw) (hx:∀ v∈xs,TwOk v) (ao:OA) (n cap:Nat) (hn:n<=4096) (w:World) (h:Fl 8 w ao n cap (xs.map twC)) :
  Calls Tryz.prog 130 #[.agg #[.int .i64 2,.slice none 0 0],.slice ao n cap] w fun e w'=>(∃ v,e=.returned v/\FO 45 8 w' w.heap.size v (xs.map twC))/\Below w.heap.size w w':=by
 have hb0:Below w.heap.size w (w.alloc (.cells #[.int .i64 2,.slice none 0 0] 26)):=below_alloc _
 have hG:=Bl.fresh w [.int .i64 2,.slice none 0 0] 26
 have hf:=h.next hb0
 have hl:=hid h.lenMap
 clear h
 go_enter Tryz.func130,Tryz.ntmps130
 go_upto_region 1 with fail
 generalize (w.alloc (.cells #[.int .i64 2,.slice none 0 0] 26))=W0 at *
 go_wp2_with fail
 go_loopw [5,10] (fun ov iv wr=>∃ (v:Value) (k:Nat),v=ov/\k<=n/\iv=.int .i64 k/\FO 45 8 wr W0.heap.size v ((xs.take k).map twC)/\Below W0.heap.size W0 wr) (fun _ i _=>n-(intOf i).toNat)
 case atStart=>exact ⟨_,0,rfl,by omega,rfl,FO.nil _ _ _ _,Below.refl _ _⟩
 case round =>
  obtain ⟨v,k,rfl,hk,rfl,hown,hb⟩:=hrel
  have hfr:=hf.next hb
  have hGr:=hG.next hb
  by_cases hlt:k<n
  ·obtain ⟨x,hxk,b,off,rfl,hcs⟩:=hfr.get hlt
   have hxo:TwOk x:=hx x (List.mem_of_getElem? hxk)
   obtain ⟨⟨y0,y1,y2,y3⟩,y4,y5,y6,y7⟩:=hcs.eight
   have hxk:=hid hxk
   have i1:(k:Int)<(n:Int):=by omega
   have i0:(0:Int)<=(k:Int):=by omega
   have hbA:Below wr.heap.size wr (wr.alloc (.cells #[.bool false,.slice none 0 0,.slice none 0 0,.int .i64 (tc (x):Int),.bool (ti (x)),.int .u64 0,.slice none 0 0,.slice none 0 0] 45)):=below_alloc _
   have hA:=Bl.fresh wr [.bool false,.slice none 0 0,.slice none 0 0,.int .i64 (tc (x):Int),.bool (ti (x)),.int .u64 0,.slice none 0 0,.slice none 0 0] 45
   have hG1:=hGr.next hbA
   have hown1:=hown.next hbA
   have hb1:=below_chain hb hbA
   obtain ⟨GA,hGA⟩:∃ GA,wr.heap.size=GA:=⟨_,rfl⟩
   rw [hGA] at hA
   clear hcs hGr hown
   go_upto_region 5 with fail
   generalize (wr.alloc (.cells #[.bool false,.slice none 0 0,.slice none 0 0,.int .i64 (tc (x):Int),.bool (ti (x)),.int .u64 0,.slice none 0 0,.slice none 0 0] 45))=W1 at *
   clear y0 y1 y2 y3 y4 y5 y6 y7
   have hdr:=(Below.refl W1.heap.size W1).drew
   have hS:C2w w.heap.size (.int .i64 2) (.slice none 0 0) W1.drew/\C8w GA (.bool false) (.slice none 0 0) (.slice none 0 0) (.int .i64 (tc (x):Int)) (.bool (ti (x))) (.int .u64 0) (.slice none 0 0) (.slice none 0 0) W1.drew:=⟨C2w.next hG1.two hdr,C8w.next hA.eight hdr⟩
   have hK:∀ w' w'',(C2w w.heap.size (.int .i64 2) (.slice none 0 0) w'/\C8w GA (.bool false) (.slice none 0 0) (.slice none 0 0) (.int .i64 (tc (x):Int)) (.bool (ti (x))) (.int .u64 0) (.slice none 0 0) (.slice none 0 0) w')->Below w'.heap.size w' w''->(C2w w.heap.size (.int .i64 2) (.slice none 0 0) w''/\C8w GA (.bool false) (.slice none 0 0) (.slice none 0 0) (.int .i64 (tc (x):Int)) (.bool (ti (x))) (.int .u64 0) (.slice none 0 0) (.slice none 0 0) w''):=fun w' w'' h hb=>⟨C2w.next h.1 hb,C8w.next h.2 hb⟩
   have hown2:=hown1.next hdr
   have hb2:=below_chain hb1 hdr
   have hlk:((xs.take k).map twC).length=k:=by rw [List.length_map,List.length_take,hl.out]; omega
   clear hA hG1 hown1 hb1
   refine wp_region_D (fun w'=>C2w w.heap.size (.int .i64 2) (.slice none 0 0) w'/\C8w GA (.bool false) (.slice none 0 0) (.slice none 0 0) (.int .i64 (tc (x):Int)) (.bool (ti (x))) (.int .u64 0) (.slice none 0 0) (.slice none 0 0) w') [7,8] (by kernel_rfl) ?_
   refine tkCp 0 rfl hS ?_
   refine tkCl 1 (v:=?_) rfl ?_ hS ?_
   rotate_left
   ·intro w hw; obtain ⟨⟨a0,a1⟩,⟨b0,b1,b2,b3⟩,b4,b5,b6,b7⟩:=hw; first | (go_simp; done) | (go_simp; with_reducible rfl)
   refine tkCl 2 (v:=?_) rfl ?_ hS ?_
   rotate_left
   ·intro w hw; obtain ⟨⟨a0,a1⟩,⟨b0,b1,b2,b3⟩,b4,b5,b6,b7⟩:=hw; first | (go_simp; done) | (go_simp; with_reducible rfl)
   refine tkCl 3 (v:=?_) rfl ?_ hS ?_
   rotate_left
   ·intro w hw; obtain ⟨⟨a0,a1⟩,⟨b0,b1,b2,b3⟩,b4,b5,b6,b7⟩:=hw; first | (go_simp; done) | (go_simp; with_reducible rfl)
   refine wpO (i:=4) rfl fun KK hKK=>?_
   go_simp
   go_at_call 76
   refine (zeroTw_any _).mono ?_; rintro e w2 ⟨rfl,hb3⟩
   have hown3:=hown2.next hb3
   have hb4:=below_chain hb2 hb3
   try go_simp
   refine hKK _ _ ⟨fun _=>(hK _ _ hS hb3),?_⟩; clear hKK KK
   refine wpO (i:=5) rfl fun KK hKK=>?_
   go_simp
   go_at_call 77
   refine (plusTw_any x none hxo twOk_none _).mono ?_; rw [twPlus_none]; rintro e w3 ⟨rfl,hb5⟩
   have hown4:=hown3.next hb5
   have hb6:=below_chain hb4 hb5
   try go_simp
   refine hKK _ _ ⟨fun _=>(hK _ _ (hK _ _ hS hb3) hb5),?_⟩; clear hKK KK
   refine wpO (i:=6) rfl fun KK hKK=>?_
   have hbN:Below w3.heap.size w3 (w3.alloc (.cells #[.bool false,.slice none 0 0,.slice none 0 0,.int .i64 (tc (x):Int),.bool (ti (x)),.int .u64 0,.slice none 0 0,.slice none 0 0] 45)):=below_alloc _
   have hnew:=Cs.fresh w3 [.bool false,.slice none 0 0,.slice none 0 0,.int .i64 (tc (x):Int),.bool (ti (x)),.int .u64 0,.slice none 0 0,.slice none 0 0] 45
   have hown5:=hown4.next hbN
   have hb7:=below_chain hb6 hbN
   go_simp
   refine hKK _ _ ⟨fun _=>(hK _ _ (hK _ _ (hK _ _ hS hb3) hb5) hbN),?_⟩; clear hKK KK
   refine wpO (i:=7) rfl fun KK hKK=>?_
   rw [if_pos (by rfl)]
   refine op_appF (.tmp 14) (.tmp 20) 27 rfl 45 (.agg #[.bool false,.slice none 0 0,.slice none 0 0,.int .i64 0,.bool false,.int .u64 0,.slice none 0 0,.slice none 0 0]) 8 128 (by kernel_rfl) (by kernel_rfl) (by rfl) (by decide) W0.heap.size v _ rfl hown5 w3.heap.size 0 1 1 [[.bool false,.slice none 0 0,.slice none 0 0,.int .i64 (tc (x):Int),.bool (ti (x)),.int .u64 0,.slice none 0 0,.slice none 0 0]] rfl (by rfl) (by decide) (by intro cs hc; obtain rfl:=List.mem_singleton.1 hc; rfl) (by simpa using hnew) (by intro cs hc u hu; obtain rfl:=List.mem_singleton.1 hc; simp at hu; rcases hu with rfl | rfl | rfl | rfl | rfl | rfl<;>rfl) (by rw [hlk]; omega) (by rw [hlk]; omega) hb7.size ?_
   intro v' w5 hown6 hg6 hb8 _
   refine lN hKK ?_; clear hKK KK
   refine wpO (i:=8) rfl fun KK hKK=>?_
   go_simp
   refine lN hKK ?_; clear hKK KK
   refine wpAnyD_done (by kernel_rfl) ?_ _
   go_simp
   go_wp2_with fail
   go_roundw
   case rel=>exact ⟨v',k+1,rfl,by omega,by go_num,by rw [take_map_step hxk.out]; exact hown6,below_chain' hb7 hb8⟩
   case measure=>simp [intOf]; omega
  ·have i1:¬ (k:Int)<(n:Int):=by omega
   go_wp2_with fail
   go_ret
   refine ⟨⟨_,rfl,?_⟩,below_chain hb0 hb⟩
   rw [List.take_of_length_le (by rw [hl.out]; omega)] at hown
   exact hown.mono hb0.size
end
section
open Go.RowKit
theorem isNaN_any (a:Int) (w:World):Calls Tryz.prog 295 #[.int .i64 a] w fun e w'=>e=.returned (.bool false)/\w=w':=by
 go_enter Tryz.func295,Tryz.ntmps295
 go_wp2_with fail
 go_ret
 exact ⟨rfl,rfl⟩
theorem compareI_any (a b:Nat) (w:World):Calls Tryz.prog 246 #[.int .i64 (a:Int),.int .i64 (b:Int)] w fun e w'=>e=.returned (.int .i64 (cmpN a b))/\w=w':=by
 go_enter Tryz.func246,Tryz.ntmps246
 go_wp2_with fail
 refine (isNaN_any _ _).mono ?_; rintro e w1 ⟨rfl,rfl⟩
 go_wp2_with fail
 refine (isNaN_any _ _).mono ?_; rintro e w1 ⟨rfl,rfl⟩
 by_cases h1:a<b
 ·have c1:(a:Int)<(b:Int):=by omega
  have c2:decide ((a:Int)<(b:Int))=true:=decide_eq_true c1
  go_wp2_with fail
  go_ret
  exact ⟨by simp [cmpN,h1],rfl⟩
 ·have c1:¬ (a:Int)<(b:Int):=by omega
  have c2:decide ((a:Int)<(b:Int))=false:=decide_eq_false c1
  by_cases h2:b<a
  ·have c3:(b:Int)<(a:Int):=by omega
   have c4:decide ((b:Int)<(a:Int))=true:=decide_eq_true c3
   go_wp2_with fail
   go_ret
   exact ⟨by simp [cmpN,h1,h2],rfl⟩
  ·have c3:¬ (b:Int)<(a:Int):=by omega
   have c4:decide ((b:Int)<(a:Int))=false:=decide_eq_false c3
   go_wp2_with fail
   go_ret
   exact ⟨by simp [cmpN,h1,h2],rfl⟩
theorem or3_any (x y z:Int) (b:Nat) (w:World) (h:Cs w b 0 [.int .i64 x,.int .i64 y,.int .i64 z]):Calls Tryz.prog 245 #[.slice (some ⟨b,0,none⟩) 3 3] w fun e w'=>e=.returned (.int .i64 (if x≠0 then x else if y≠0 then y else z))/\w=w':=by
 have h0:w.cell? ⟨b,0,none⟩=some (.int .i64 x):=h 0 _ rfl
 have h1:w.cell? ⟨b,1,none⟩=some (.int .i64 y):=h 1 _ rfl
 have h2:w.cell? ⟨b,2,none⟩=some (.int .i64 z):=h 2 _ rfl
 clear h
 obtain ⟨r,hr⟩:∃ r,(if x≠0 then x else if y≠0 then y else z)=r:=⟨_,rfl⟩
 rw [hr]
 have Hr:=hid hr
 clear hr
 go_enter Tryz.func245,Tryz.ntmps245
 go_wp2_with fail
 go_loopw [8] (fun iv wr=>∃ k:Nat,k<=3/\iv=.int .i64 k/\wr=w/\Hid ((1<=k->x=0)/\(2<=k->y=0)/\(3<=k->z=0))) (fun i _=>3-(intOf i).toNat)
 case atStart=>exact ⟨0,by omega,rfl,rfl,by unfold Hid; refine ⟨?_,?_,?_⟩<;>omega⟩
 case round =>
  obtain ⟨k,hk,rfl,rfl,hall⟩:=hrel
  rcases (show k=0\/k=1\/k=2\/k=3 by omega) with rfl | rfl | rfl | rfl
  ·by_cases hz:x=0
   ·have Hz:=hid hz
    rw [hz] at h0
    clear hz
    go_wp2_with fail
    go_round
    case rel=>exact ⟨1,by omega,by go_num,by first | trivial | rfl,by unfold Hid; exact ⟨fun _=>Hz.out,by omega,by omega⟩⟩
    case measure=>simp [intOf]
   ·go_wp2_with fail
    go_ret
    exact ⟨by rw [<-Hr.out,if_pos hz]; rfl,rfl⟩
  ·by_cases hz:y=0
   ·have Hz:=hid hz
    rw [hz] at h1
    clear hz
    go_wp2_with fail
    go_round
    case rel=>exact ⟨2,by omega,by go_num,by first | trivial | rfl,by unfold Hid; exact ⟨fun _=>hall.out.1 (by omega),fun _=>Hz.out,by omega⟩⟩
    case measure=>simp [intOf]
   ·go_wp2_with fail
    go_ret
    exact ⟨by rw [<-Hr.out,if_neg (by simp [hall.out.1 (by omega)]),if_pos hz]; rfl,rfl⟩
  ·by_cases hz:z=0
   ·have Hz:=hid hz
    rw [hz] at h2
    clear hz
    go_wp2_with fail
    go_round
    case rel=>exact ⟨3,by omega,by go_num,by first | trivial | rfl,by unfold Hid; exact ⟨fun _=>hall.out.1 (by omega),fun _=>hall.out.2.1 (by omega),fun _=>Hz.out⟩⟩
    case measure=>simp [intOf]
   ·go_wp2_with fail
    go_ret
    exact ⟨by rw [<-Hr.out,if_neg (by simp [hall.out.1 (by omega)]),if_neg (by simp [hall.out.2.1 (by omega)])]; rfl,rfl⟩
  ·go_wp2_with fail
   go_ret
   exact ⟨by rw [<-Hr.out,if_neg (by simp [hall.out.1 (by omega)]),if_neg (by simp [hall.out.2.1 (by omega)]),hall.out.2.2 (by omega)]; rfl,rfl⟩
abbrev C3w (G:Nat) (a b c:Value) (w:World):Prop:=w.cell? ⟨G,0,none⟩=some a/\w.cell? ⟨G,1,none⟩=some b/\w.cell? ⟨G,2,none⟩=some c
theorem C3w.next {G:Nat} {a b c:Value} {w w':World} (h:C3w G a b c w) (hb:Below w.heap.size w w'):C3w G a b c w':=⟨cellN h.1 hb,cellN h.2.1 hb,cellN h.2.2 hb⟩
theorem Bl.three {G:Nat} {a b c:Value} {r:List Value} {T:TypeId} {w:World} (h:Bl G (a::b::c::r) T w):C3w G a b c w:=⟨h.cell rfl,h.cell rfl,h.cell rfl⟩
theorem or3K_any (x y:Ky) (b:Nat) (w:World) (h:Cs w b 0 [.int .i64 (cmpN x.1 y.1),.int .i64 (cmpN x.2.1 y.2.1),.int .i64 (cmpN x.2.2 y.2.2)]):Calls Tryz.prog 245 #[.slice (some ⟨b,0,none⟩) 3 3] w fun e w'=>e=.returned (.int .i64 (cmpK x y))/\w=w':=or3_any _ _ _ b w h
theorem orderX_any (x y:Ac) (w:World):Calls Tryz.prog 170 #[.agg #[.int .i64 ((x).1:Int),.int .i64 ((x).2.1:Int),.int .i64 ((x).2.2.1:Int),.bool false,.slice none 0 0,.slice none 0 0,.int .i64 (tc (wt x):Int),.bool (ti (wt x)),.int .u64 0,.slice none 0 0,.slice none 0 0],.agg #[.int .i64 ((y).1:Int),.int .i64 ((y).2.1:Int),.int .i64 ((y).2.2.1:Int),.bool false,.slice none 0 0,.slice none 0 0,.int .i64 (tc (wt y):Int),.bool (ti (wt y)),.int .u64 0,.slice none 0 0,.slice none 0 0]] w fun e w'=>e=.returned (.int .i64 (cmpK (ky x) (ky y)))/\w'=((w.alloc (.cells #[.int .i64 ((x).1:Int),.int .i64 ((x).2.1:Int),.int .i64 ((x).2.2.1:Int),.bool false,.slice none 0 0,.slice none 0 0,.int .i64 (tc (wt x):Int),.bool (ti (wt x)),.int .u64 0,.slice none 0 0,.slice none 0 0] 54)).alloc (.cells #[.int .i64 ((y).1:Int),.int .i64 ((y).2.1:Int),.int .i64 ((y).2.2.1:Int),.bool false,.slice none 0 0,.slice none 0 0,.int .i64 (tc (wt y):Int),.bool (ti (wt y)),.int .u64 0,.slice none 0 0,.slice none 0 0] 54)).drew.alloc (.cells #[.int .i64 (cmpN x.1 y.1),.int .i64 (cmpN x.2.1 y.2.1),.int .i64 (cmpN x.2.2.1 y.2.2.1)] 3):=by
 have hb0:Below w.heap.size w ((w.alloc (.cells #[.int .i64 ((x).1:Int),.int .i64 ((x).2.1:Int),.int .i64 ((x).2.2.1:Int),.bool false,.slice none 0 0,.slice none 0 0,.int .i64 (tc (wt x):Int),.bool (ti (wt x)),.int .u64 0,.slice none 0 0,.slice none 0 0] 54)).alloc (.cells #[.int .i64 ((y).1:Int),.int .i64 ((y).2.1:Int),.int .i64 ((y).2.2.1:Int),.bool false,.slice none 0 0,.slice none 0 0,.int .i64 (tc (wt y):Int),.bool (ti (wt y)),.int .u64 0,.slice none 0 0,.slice none 0 0] 54)):=below_chain (below_alloc _) (below_alloc _)
 have hA:=(Bl.fresh w [.int .i64 ((x).1:Int),.int .i64 ((x).2.1:Int),.int .i64 ((x).2.2.1:Int),.bool false,.slice none 0 0,.slice none 0 0,.int .i64 (tc (wt x):Int),.bool (ti (wt x)),.int .u64 0,.slice none 0 0,.slice none 0 0] 54).new (.cells #[.int .i64 ((y).1:Int),.int .i64 ((y).2.1:Int),.int .i64 ((y).2.2.1:Int),.bool false,.slice none 0 0,.slice none 0 0,.int .i64 (tc (wt y):Int),.bool (ti (wt y)),.int .u64 0,.slice none 0 0,.slice none 0 0] 54)
 have hB:=Bl.fresh' (G:=w.heap.size+1) (w.alloc (.cells #[.int .i64 ((x).1:Int),.int .i64 ((x).2.1:Int),.int .i64 ((x).2.2.1:Int),.bool false,.slice none 0 0,.slice none 0 0,.int .i64 (tc (wt x):Int),.bool (ti (wt x)),.int .u64 0,.slice none 0 0,.slice none 0 0] 54)) [.int .i64 ((y).1:Int),.int .i64 ((y).2.1:Int),.int .i64 ((y).2.2.1:Int),.bool false,.slice none 0 0,.slice none 0 0,.int .i64 (tc (wt y):Int),.bool (ti (wt y)),.int .u64 0,.slice none 0 0,.slice none 0 0] 54 (by simp)
 go_enter Tryz.func170,Tryz.ntmps170
 go_upto_region 1 with fail
 obtain ⟨W1,hW1⟩:∃ W1,W1=((w.alloc (.cells #[.int .i64 ((x).1:Int),.int .i64 ((x).2.1:Int),.int .i64 ((x).2.2.1:Int),.bool false,.slice none 0 0,.slice none 0 0,.int .i64 (tc (wt x):Int),.bool (ti (wt x)),.int .u64 0,.slice none 0 0,.slice none 0 0] 54)).alloc (.cells #[.int .i64 ((y).1:Int),.int .i64 ((y).2.1:Int),.int .i64 ((y).2.2.1:Int),.bool false,.slice none 0 0,.slice none 0 0,.int .i64 (tc (wt y):Int),.bool (ti (wt y)),.int .u64 0,.slice none 0 0,.slice none 0 0] 54)):=⟨_,rfl⟩
 rw [<-hW1] at hb0 hA hB
 rw [<-hW1]
 have HW:=hid hW1
 clear hW1
 have hdr:=(Below.refl W1.heap.size W1).drew
 have hS:C3w w.heap.size (.int .i64 (x.1:Int)) (.int .i64 (x.2.1:Int)) (.int .i64 (x.2.2.1:Int)) W1.drew/\C3w (w.heap.size+1) (.int .i64 (y.1:Int)) (.int .i64 (y.2.1:Int)) (.int .i64 (y.2.2.1:Int)) W1.drew:=⟨C3w.next hA.three hdr,C3w.next hB.three hdr⟩
 have hb1:=below_chain hb0 hdr
 clear hA hB hb0 hdr
 refine wp_region_D (fun w'=>C3w w.heap.size (.int .i64 (x.1:Int)) (.int .i64 (x.2.1:Int)) (.int .i64 (x.2.2.1:Int)) w'/\C3w (w.heap.size+1) (.int .i64 (y.1:Int)) (.int .i64 (y.2.1:Int)) (.int .i64 (y.2.2.1:Int)) w') [17] (by kernel_rfl) ?_
 refine tkCp 0 rfl hS ?_
 refine tkCl 1 (v:=?_) rfl ?_ hS ?_
 rotate_left
 ·intro w hw; obtain ⟨⟨a0,a1,a2⟩,b0,b1,b2⟩:=hw; first | (go_simp; done) | (go_simp; with_reducible rfl)
 refine tkCp 2 rfl hS ?_
 refine tkCl 3 (v:=?_) rfl ?_ hS ?_
 rotate_left
 ·intro w hw; obtain ⟨⟨a0,a1,a2⟩,b0,b1,b2⟩:=hw; first | (go_simp; done) | (go_simp; with_reducible rfl)
 refine tkCp 5 rfl hS ?_
 refine tkCl 6 (v:=?_) rfl ?_ hS ?_
 rotate_left
 ·intro w hw; obtain ⟨⟨a0,a1,a2⟩,b0,b1,b2⟩:=hw; first | (go_simp; done) | (go_simp; with_reducible rfl)
 refine tkCp 7 rfl hS ?_
 refine tkCl 8 (v:=?_) rfl ?_ hS ?_
 rotate_left
 ·intro w hw; obtain ⟨⟨a0,a1,a2⟩,b0,b1,b2⟩:=hw; first | (go_simp; done) | (go_simp; with_reducible rfl)
 refine tkCp 10 rfl hS ?_
 refine tkCl 11 (v:=?_) rfl ?_ hS ?_
 rotate_left
 ·intro w hw; obtain ⟨⟨a0,a1,a2⟩,b0,b1,b2⟩:=hw; first | (go_simp; done) | (go_simp; with_reducible rfl)
 refine tkCp 12 rfl hS ?_
 refine tkCl 13 (v:=?_) rfl ?_ hS ?_
 rotate_left
 ·intro w hw; obtain ⟨⟨a0,a1,a2⟩,b0,b1,b2⟩:=hw; first | (go_simp; done) | (go_simp; with_reducible rfl)
 refine wpO (i:=4) rfl fun KK hKK=>?_
 go_simp
 go_at_call 246
 refine (compareI_any (x.1) (y.1) _).mono ?_; rintro e w4 ⟨rfl,rfl⟩
 try go_simp
 refine hKK _ _ ⟨fun _=>hS,?_⟩; clear hKK KK
 refine wpO (i:=9) rfl fun KK hKK=>?_
 go_simp
 go_at_call 246
 refine (compareI_any (x.2.1) (y.2.1) _).mono ?_; rintro e w9 ⟨rfl,rfl⟩
 try go_simp
 refine hKK _ _ ⟨fun _=>hS,?_⟩; clear hKK KK
 refine wpO (i:=14) rfl fun KK hKK=>?_
 go_simp
 go_at_call 246
 refine (compareI_any (x.2.2.1) (y.2.2.1) _).mono ?_; rintro e w14 ⟨rfl,rfl⟩
 try go_simp
 refine hKK _ _ ⟨fun _=>hS,?_⟩; clear hKK KK
 refine wpO (i:=15) rfl fun KK hKK=>?_
 have hbN:Below W1.drew.heap.size W1.drew (W1.drew.alloc (.cells #[.int .i64 (cmpN x.1 y.1),.int .i64 (cmpN x.2.1 y.2.1),.int .i64 (cmpN x.2.2.1 y.2.2.1)] 3)):=below_alloc _
 have hnew:=Cs.fresh W1.drew [.int .i64 (cmpN x.1 y.1),.int .i64 (cmpN x.2.1 y.2.1),.int .i64 (cmpN x.2.2.1 y.2.2.1)] 3
 have hb2:=below_chain hb1 hbN
 go_simp
 refine hKK _ _ ⟨fun _=>⟨C3w.next hS.1 hbN,C3w.next hS.2 hbN⟩,?_⟩; clear hKK KK
 refine wpO (i:=16) rfl fun KK hKK=>?_
 go_simp
 go_at_call 245
 refine (or3K_any (ky x) (ky y) _ _ hnew).mono ?_; rintro e w5 ⟨rfl,rfl⟩
 try go_simp
 refine hKK _ _ ⟨fun _=>⟨C3w.next hS.1 hbN,C3w.next hS.2 hbN⟩,?_⟩; clear hKK KK
 refine wpO (i:=17) rfl fun KK hKK=>?_
 go_simp
 refine lN hKK ?_; clear hKK KK
 refine wpAnyD_done (by kernel_rfl) ?_ _
 go_simp
 go_wp2_with fail
 go_ret
 exact ⟨rfl,by rw [HW.out]; rfl⟩
theorem order_any (x y:Ac) (w:World):Calls Tryz.prog 170 #[.agg #[.int .i64 ((x).1:Int),.int .i64 ((x).2.1:Int),.int .i64 ((x).2.2.1:Int),.bool false,.slice none 0 0,.slice none 0 0,.int .i64 (tc (wt x):Int),.bool (ti (wt x)),.int .u64 0,.slice none 0 0,.slice none 0 0],.agg #[.int .i64 ((y).1:Int),.int .i64 ((y).2.1:Int),.int .i64 ((y).2.2.1:Int),.bool false,.slice none 0 0,.slice none 0 0,.int .i64 (tc (wt y):Int),.bool (ti (wt y)),.int .u64 0,.slice none 0 0,.slice none 0 0]] w fun e w'=>e=.returned (.int .i64 (cmpK (ky x) (ky y)))/\Below w.heap.size w w' :=
 (orderX_any x y w).mono (by rintro e w' ⟨rfl,rfl⟩; exact ⟨rfl,below_chain (below_chain (below_chain (below_alloc _) (below_alloc _)) (Below.refl _ _).drew) (below_alloc _)⟩)
end
section
open Go.RowKit
theorem cloneNil_any (w:World):Calls Tryz.prog 167 #[.slice none 0 0] w fun e w'=>e=.returned (.slice none 0 0)/\w=w':=by
 go_enter Tryz.func167,Tryz.ntmps167
 have hq:∀ W,Sem.run Tryz.prog (binOp .eql 22 (.slice none 0 0) (.slice none 0 0)) W=.ok (.bool true) W:=fun W=>by kernel_rfl
 go_wp2_with fail
 go_ret
 exact ⟨rfl,rfl⟩
theorem equalTw_any (v u:Tw) (w:World):Calls Tryz.prog 92 #[.agg #[.bool false,.slice none 0 0,.slice none 0 0,.int .i64 (tc (v):Int),.bool (ti (v)),.int .u64 0,.slice none 0 0,.slice none 0 0],.agg #[.bool false,.slice none 0 0,.slice none 0 0,.int .i64 (tc (u):Int),.bool (ti (u)),.int .u64 0,.slice none 0 0,.slice none 0 0]] w fun e w'=>e=.returned (.bool (decide (v=u)))/\Below w.heap.size w w' :=
 (equalT_any (tc v) (tc u) (ti v) (ti u) w).mono (by rintro e w' ⟨rfl,hb⟩; exact ⟨by rw [decide_eq_decide.2 ⟨fun h=>tw_ext h.1 h.2,fun h=>by rw [h]; exact ⟨rfl,rfl⟩⟩],hb⟩)
theorem isZeroTw_any (v:Tw) (w:World):Calls Tryz.prog 173 #[.agg #[.int .i64 2,.slice none 0 0],.agg #[.bool false,.slice none 0 0,.slice none 0 0,.int .i64 (tc (v):Int),.bool (ti (v)),.int .u64 0,.slice none 0 0,.slice none 0 0]] w fun e w'=>e=.returned (.bool (decide (v=none)))/\Below w.heap.size w w':=by
 obtain ⟨hb0,hA,hB⟩:=ring_box w (tc (v):Int) (ti (v))
 go_enter Tryz.func173,Tryz.ntmps173
 go_upto_region 1 with fail
 generalize ((w.alloc (.cells #[.int .i64 2,.slice none 0 0] 26)).alloc (.cells #[.bool false,.slice none 0 0,.slice none 0 0,.int .i64 (tc (v):Int),.bool (ti (v)),.int .u64 0,.slice none 0 0,.slice none 0 0] 45))=W1 at *
 have hdr:=(Below.refl W1.heap.size W1).drew
 have hS:C2w w.heap.size (.int .i64 2) (.slice none 0 0) W1.drew/\C8w (w.heap.size+1) (.bool false) (.slice none 0 0) (.slice none 0 0) (.int .i64 (tc (v):Int)) (.bool (ti (v))) (.int .u64 0) (.slice none 0 0) (.slice none 0 0) W1.drew:=⟨C2w.next hA.two hdr,C8w.next hB.eight hdr⟩
 have hb1:=below_chain hb0 hdr
 clear hA hB hb0 hdr
 refine wp_region_D (fun w'=>C2w w.heap.size (.int .i64 2) (.slice none 0 0) w'/\C8w (w.heap.size+1) (.bool false) (.slice none 0 0) (.slice none 0 0) (.int .i64 (tc (v):Int)) (.bool (ti (v))) (.int .u64 0) (.slice none 0 0) (.slice none 0 0) w') [4] (by kernel_rfl) ?_
 refine tkCl 0 (v:=?_) rfl ?_ hS ?_
 rotate_left
 ·intro w hw; obtain ⟨⟨a0,a1⟩,⟨b0,b1,b2,b3⟩,b4,b5,b6,b7⟩:=hw; first | (go_simp; done) | (go_simp; with_reducible rfl)
 refine tkCl 1 (v:=?_) rfl ?_ hS ?_
 rotate_left
 ·intro w hw; obtain ⟨⟨a0,a1⟩,⟨b0,b1,b2,b3⟩,b4,b5,b6,b7⟩:=hw; first | (go_simp; done) | (go_simp; with_reducible rfl)
 refine wpO (i:=2) rfl fun KK hKK=>?_
 go_simp
 go_at_call 76
 refine (zeroTw_any _).mono ?_; rintro e w2 ⟨rfl,hb2⟩
 try go_simp
 refine hKK _ _ ⟨fun _=>⟨C2w.next hS.1 hb2,C8w.next hS.2 hb2⟩,?_⟩; clear hKK KK
 refine wpO (i:=3) rfl fun KK hKK=>?_
 go_simp
 go_at_call 92
 refine (equalTw_any v none _).mono ?_; rintro e w3 ⟨rfl,hb3⟩
 try go_simp
 refine hKK _ _ ⟨fun _=>⟨C2w.next (C2w.next hS.1 hb2) hb3,C8w.next (C8w.next hS.2 hb2) hb3⟩,?_⟩; clear hKK KK
 refine wpO (i:=4) rfl fun KK hKK=>?_
 go_simp
 refine lN hKK ?_; clear hKK KK
 refine wpAnyD_done (by kernel_rfl) ?_ _
 go_simp
 go_wp2_with fail
 go_ret
 exact ⟨rfl,below_chain (below_chain hb1 hb2) hb3⟩
theorem tidy1_any (x:Ac) (G:Nat) (w:World) (hG:Bl G [.int .i64 2,.slice none 0 0] 26 w):Calls Tryz.prog 172 #[.agg #[.int .i64 ((x).1:Int),.int .i64 ((x).2.1:Int),.int .i64 ((x).2.2.1:Int),.bool false,.slice none 0 0,.slice none 0 0,.int .i64 (tc (wt x):Int),.bool (ti (wt x)),.int .u64 0,.slice none 0 0,.slice none 0 0],.pointer (some ⟨G,0,none⟩)] w fun e w'=>e=.returned (.bool (decide (wt x=none)))/\Below w.heap.size w w':=by
 have hb0:Below w.heap.size w (w.alloc (.cells #[.int .i64 ((x).1:Int),.int .i64 ((x).2.1:Int),.int .i64 ((x).2.2.1:Int),.bool false,.slice none 0 0,.slice none 0 0,.int .i64 (tc (wt x):Int),.bool (ti (wt x)),.int .u64 0,.slice none 0 0,.slice none 0 0] 54)):=below_alloc _
 have hA:=Bl.fresh w [.int .i64 ((x).1:Int),.int .i64 ((x).2.1:Int),.int .i64 ((x).2.2.1:Int),.bool false,.slice none 0 0,.slice none 0 0,.int .i64 (tc (wt x):Int),.bool (ti (wt x)),.int .u64 0,.slice none 0 0,.slice none 0 0] 54
 have hB:=hG.new (.cells #[.int .i64 ((x).1:Int),.int .i64 ((x).2.1:Int),.int .i64 ((x).2.2.1:Int),.bool false,.slice none 0 0,.slice none 0 0,.int .i64 (tc (wt x):Int),.bool (ti (wt x)),.int .u64 0,.slice none 0 0,.slice none 0 0] 54)
 obtain ⟨⟨x0,x1,x2,x3⟩,⟨x4,x5,x6,x7⟩,x8,x9,x10⟩:=hA.eleven
 obtain ⟨a0,a1⟩:=hB.two
 clear hA hB
 go_enter Tryz.func172,Tryz.ntmps172
 go_wp2_with fail
 refine (isZeroTw_any (wt x) _).mono ?_; rintro e w1 ⟨rfl,hb1⟩
 go_wp2_with fail
 go_ret
 exact ⟨rfl,below_chain hb0 hb1⟩
theorem put2_below {B G:Nat} {v w:World} (h:Below B v w) (hG:B<=G) (a b:Value):Below B v ((w.setCell ⟨G,0,none⟩ a).setCell ⟨G,1,none⟩ b):=(h.setCell (p:=⟨G,0,none⟩) hG a).setCell (p:=⟨G,1,none⟩) hG b
theorem Bl.put2 {G:Nat} {a b:Value} {T:TypeId} {w:World} (h:Bl G [a,b] T w) (a' b':Value):Bl G [a',b'] T ((w.setCell ⟨G,0,none⟩ a').setCell ⟨G,1,none⟩ b'):=(h.put 0 a').put 1 b'
theorem ringT_any (w:World):Calls Tryz.prog 129 #[.agg #[.int .i64 2,.slice none 0 0]] w fun e w'=>e=.returned (.agg #[.int .i64 2,.slice none 0 0])/\Below w.heap.size w w':=by
 have hb0:Below w.heap.size w ((w.alloc (.cells #[.int .i64 2,.slice none 0 0] 26)).alloc (.cells #[.int .i64 0,.slice none 0 0] 26)):=below_chain (below_alloc _) (below_alloc _)
 have hA:=(Bl.fresh w [.int .i64 2,.slice none 0 0] 26).new (.cells #[.int .i64 0,.slice none 0 0] 26)
 have hB:=Bl.fresh' (G:=w.heap.size+1) (w.alloc (.cells #[.int .i64 2,.slice none 0 0] 26)) [.int .i64 0,.slice none 0 0] 26 (by simp)
 go_enter Tryz.func129,Tryz.ntmps129
 go_upto_region 1 with fail
 generalize ((w.alloc (.cells #[.int .i64 2,.slice none 0 0] 26)).alloc (.cells #[.int .i64 0,.slice none 0 0] 26))=W1 at *
 have hdr:=(Below.refl W1.heap.size W1).drew
 have hS:C2w w.heap.size (.int .i64 2) (.slice none 0 0) W1.drew:=C2w.next hA.two hdr
 have hb1:=below_chain hb0 hdr
 have hB1:=hB.put 0 (.int .i64 2)
 have hB3:=hB.put2 (.int .i64 2) (.slice none 0 0)
 have hb2:=(put2_below hb0 (show w.heap.size<=w.heap.size+1 by omega) (.int .i64 2) (.slice none 0 0)).drew
 have o0:=hB.two.1
 have o1:=hB.two.2
 have f0:=hB.free 0
 have f1:=hB.free 1
 clear hA hB hb0 hdr
 refine wp_region_D (fun w'=>C2w w.heap.size (.int .i64 2) (.slice none 0 0) w') [6] (by kernel_rfl) ?_
 refine tkCp 0 rfl hS ?_
 refine tkCl 1 (v:=?_) rfl ?_ hS ?_
 rotate_left
 ·intro w hw; obtain ⟨a0,a1⟩:=hw; first | (go_simp; done) | (go_simp; with_reducible rfl)
 refine tkCp 2 rfl hS ?_
 refine tkCl 3 (v:=?_) rfl ?_ hS ?_
 rotate_left
 ·intro w hw; obtain ⟨a0,a1⟩:=hw; first | (go_simp; done) | (go_simp; with_reducible rfl)
 refine wpO (i:=4) rfl fun KK hKK=>?_
 go_simp
 go_at_call 167
 refine (cloneNil_any _).mono ?_; rintro e w2 ⟨rfl,rfl⟩
 try go_simp
 refine hKK _ _ ⟨fun _=>hS,?_⟩; clear hKK KK
 refine tkCp 5 rfl hS ?_
 refine wpO (i:=6) rfl fun KK hKK=>?_
 go_simp
 refine lN hKK ?_; clear hKK KK
 refine wpAnyD_done (by kernel_rfl) ?_ _
 go_simp
 obtain ⟨e0,e1⟩:=hB3.two
 have e2:(W1.setCell ⟨w.heap.size+1,0,none⟩ (.int .i64 2)).cell? ⟨w.heap.size+1,0,none⟩=some (.int .i64 2):=hB1.cell rfl
 go_wp2_with fail
 refine bodyPost_ret (v:=.agg #[.int .i64 2,.slice none 0 0]) (by simp [results,Tryz.results129,go_sem,e0,e1,e2]) rfl ?_
 exact ⟨rfl,hb2⟩
end
section
open Go.RowKit
theorem wp_appF0 {P:Program} {w:World} {ops:Array Oper} {rest:List Oper} {o:Oper} {a:Act} {Q:EP} (hgd:o.guard=none) (s x:Operand) (t:TypeId)
  (ho:o.op=.call { callee:=.builtin .append,args:=#[s,x],argTypes:=#[t,t] }) (e:TypeId) (z:Value) (k bytes:Nat) (ht:P.underlying t=some (.slice e))
  (hinfo:(P.info? e).map (fun i=>(i.zero,i.size,i.bytes))=some (some z,k,bytes)) (hzs:z.cells.size=k) (hk:0<k)
  (base:Nat) (v:Value) (css:List (List Value)) (hs:a.eval s=v) (hown:FO e k w base v css)
  (ad:Addr) (m c:Nat) (new:List (List Value)) (hx:a.eval x=.slice (some ad) m c) (hfl:Fl k w (some ad) m c new) (hnk:∀ cs∈new,cs.length=k) (h1:∀ cs∈new,∀ u∈cs,u.oneCell'=true)
  (hroom:(css.length+m)*bytes<=140737488355328) (hml:css.length+m<=9223372036854775807) (hbase:base<=w.heap.size)
  (h:∀ v' w',FO e k w' base v' (css++new)->w.grownBy w' v.ownBlock->Below base w w'->wpList P ops Q rest (a.put o.dst v') w'):wpList P ops Q (o::rest) a w:=by
 obtain ⟨i,hi,hz,hsz,hby⟩:=info_parts hinfo
 obtain ⟨hown1,hown2⟩:=hown
 have hm:=hfl.len
 have hl:new.flatten.length=m*k:=by rw [flat_len hnk,hm]
 obtain ⟨v',w',hr,ho',hg,_⟩:=run_append_own (P:=P) w base t o.type e i z k bytes ht hi hz hsz hby hzs hk v css.length css.flatten hown1 ad m c new.flatten hl (fun j u hj=>by
  have hjl:=(List.getElem?_eq_some_iff.1 hj).1
  have hjk:j<m*k:=by omega
  have hq:j/k<m:=(Nat.div_lt_iff_lt_mul hk).2 hjk
  have hq':j/k<new.length:=by omega
  obtain ⟨b,o,e1,hc⟩:=hfl.at_ (j/k) _ (List.getElem?_eq_getElem hq')
  have hcl:(new[j/k]).length=k:=hnk _ (List.getElem_mem hq')
  have hr:j%k<(new[j/k]).length:=by rw [hcl]; exact Nat.mod_lt _ hk
  have hcell:=hc (j%k) _ (List.getElem?_eq_getElem hr)
  have hf:=flat_get hnk (List.getElem?_eq_getElem hq') (List.getElem?_eq_getElem hr)
  have hj2:j/k*k+j%k=j:=by rw [Nat.mul_comm]; exact Nat.div_add_mod j k
  rw [hj2,hj] at hf
  injection e1 with e1
  subst e1
  rw [Addr.add_lit,show o+j=o+j/k*k+j%k by rw [Nat.add_assoc,hj2]]
  rw [hcell]
  exact hf.symm) (fun u hu=>by
  obtain ⟨cs,hcs,hu⟩:=List.mem_flatten.1 hu
  exact h1 cs hcs u hu) (by unfold maxLen; omega) hroom hbase
 refine wpList_plain hgd fun K' hK=>?_
 unfold Oper.wp execOp
 simp only [ho,resolve,invoke,builtin,Sem.run_bind,Sem.run_pure,Result.andThen_ok,List.map_toArray,List.map_cons,List.map_nil,hs,hx,hr]
 refine hK _ _ (h v' w' ⟨?_,fun cs hcs=>?_⟩ hg ((Below.refl _ _).grown hg hbase (fun k hk=>(hown1.lt k hk).1)))
 ·rw [List.length_append,hm,List.flatten_append]
  exact ho'
 ·rcases List.mem_append.1 hcs with hcs | hcs
  ·exact hown2 cs hcs
  ·exact hnk cs hcs
theorem acC_one (xs:List Ac):∀ cs∈xs.map acC,∀ u∈cs,u.oneCell'=true:=by
 intro cs hc u hu
 obtain ⟨x,_,rfl⟩:=List.mem_map.1 hc
 simp at hu
 rcases hu with rfl | rfl | rfl | rfl | rfl | rfl | rfl | rfl | rfl<;>rfl
theorem acC_len (xs:List Ac):∀ cs∈xs.map acC,cs.length=11:=by
 intro cs hc
 obtain ⟨x,_,rfl⟩:=List.mem_map.1 hc
 rfl
theorem Tryz.infoArc:(Tryz.prog.info? 54).map (fun i=>(i.zero,i.size,i.bytes))=some (some (.agg #[.int .i64 0,.int .i64 0,.int .i64 0,.bool false,.slice none 0 0,.slice none 0 0,.int .i64 0,.bool false,.int .u64 0,.slice none 0 0,.slice none 0 0]),11,152):=by kernel_rfl
theorem FO.lit (e:TypeId) (k:Nat) (w:World):FO e k (w.alloc (.cells #[] e)) w.heap.size (.slice (some ⟨w.heap.size,0,none⟩) 0 0) [] :=
 ⟨World.ownsRow_lit w #[] 0 (Nat.le_refl _) (by decide) (by simp),fun cs h=>by cases h⟩
theorem cloneArc_any (xs:List Ac) (ao:OA) (n cap:Nat) (hn:n<=4096) (w:World) (h:Fl 11 w ao n cap (xs.map acC)) :
  Calls Tryz.prog 168 #[.slice ao n cap] w fun e w'=>(∃ v,e=.returned v/\FO 54 11 w' w.heap.size v (xs.map acC))/\Below w.heap.size w w':=by
 have hnil:=fun w=>Lib.run_eql_slice_nil (P:=Tryz.prog) w 28 54 ao n cap 0 0 Tryz.underlying28
 cases ao with
 | none =>
  have hn0:n=0:=by have h1:=h.nil rfl; have h2:=h.le; omega
  subst hn0
  have hT:xs=[]:=List.eq_nil_of_length_eq_zero h.lenMap
  subst hT
  go_enter Tryz.func168,Tryz.ntmps168
  go_wp2_with fail
  go_ret
  exact ⟨⟨_,rfl,FO.nil _ _ _ _⟩,Below.refl _ _⟩
 | some ad =>
  go_enter Tryz.func168,Tryz.ntmps168
  go_wp2_with (at_builtin; refine wp_appF0 rfl (.tmp 5) (.tmp 6) 28 rfl 54 _ 11 152 Tryz.underlying28 Tryz.infoArc rfl (by decide) w.heap.size _ [] rfl (FO.lit _ _ w) ad n cap (xs.map acC) rfl (h.next (below_alloc _)) (acC_len xs) (acC_one xs) (by
   simp; omega) (by simp; omega) (by simp) ?_)
  intro v' w' hown _ hb
  go_wp2_with fail
  go_ret
  exact ⟨⟨_,rfl,hown⟩,(below_alloc _).trans hb⟩
end
section
open Go.RowKit
def Srt (i j:Nat) (L:List Ac):Prop:=∀ p q x y,p<q->q<=i->q≠j->L[p]? = some x->L[q]? = some y->¬ klt (ky y) (ky x)
def Sr (i:Nat) (L:List Ac):Prop:=∀ p q x y,p<q->q<i->L[p]? = some x->L[q]? = some y->¬ klt (ky y) (ky x)
theorem Sr.enter {i:Nat} {L:List Ac} (h:Sr i L):Srt i i L:=fun p q x y hp hq hn hx hy=>h p q x y hp (by omega) hx hy
theorem nklt_trans {x y z:Ky} (h:¬ klt y x) (k:¬ klt z y):¬ klt z x:=by unfold klt at *; omega
theorem Srt.leave {i j:Nat} {L:List Ac} {x y:Ac} (h:Srt i (j+1) L) (hj:j+1<=i) (hx:L[j]? = some x) (hy:L[j+1]? = some y) (hk:¬ klt (ky y) (ky x)):Sr (i+1) L:=fun p q a b hp hq ha hb=>by
 by_cases hq1:q=j+1
 ·subst hq1
  rw [hy] at hb
  obtain rfl:y=b:=by simpa using hb
  by_cases hpj:p=j
  ·subst hpj
   rw [hx] at ha
   obtain rfl:x=a:=by simpa using ha
   exact hk
  ·exact nklt_trans (h p j a x (by omega) (by omega) (by omega) ha hx) hk
 ·exact h p q a b hp (by omega) hq1 ha hb
theorem Sr.one (L:List Ac):Sr 1 L:=fun p q x y hp hq _ _=>by omega
section
variable {e:TypeId} {k base g n cap i:Nat} {w:World} {css:List (List Value)}
theorem FO.free (h:FO e k w base (.slice (some ⟨g,0,none⟩) n cap) css) (j:Nat):w.frozen? ⟨g,j,none⟩=false:=by
 have hn:n=css.length:=by
  rcases h.1.2 with ⟨hv,_⟩ | ⟨g',cap',cur,hv,_⟩
  ·cases hv
  ·injection hv
 subst hn
 exact h.1.frozenAt j
end
end
section
open Go.Shelf Go.RowKit Go.Lib
def Tryz.laysIns_ren:Go.Shelf.Ren:=⟨fun | 20=>293 | _=>0,fun | 0=>0 | 3=>3 | 4=>4 | 22=>28 | 24=>54 | 25=>91 | _=>0,fun _=>0⟩
theorem Tryz.laysIns:Go.Proofs.SlLaysF0.n20 Tryz.prog Tryz.laysIns_ren:={
 mixed:=by kernel_rfl
 f20:=⟨Tryz.f293.name,by decide,Tryz.func293.trans (congrArg some (by kernel_rfl))⟩
 t0:=Tryz.underlying0
 a0:=Tryz.isAgg0
 z0:=Tryz.sizeOf0
 v0:=Tryz.zeroValue0
 t3:=Tryz.underlying3
 a3:=Tryz.isAgg3
 z3:=Tryz.sizeOf3
 v3:=Tryz.zeroValue3
 t4:=Tryz.underlying4
 a4:=Tryz.isAgg4
 z4:=Tryz.sizeOf4
 v4:=Tryz.zeroValue4
 t22:=Tryz.underlying28
 a22:=Tryz.isAgg28
 z22:=Tryz.sizeOf28
 v22:=Tryz.zeroValue28
 t25:=Tryz.underlying91
 a25:=Tryz.isAgg91
 z25:=Tryz.sizeOf91
 v25:=Tryz.zeroValue91 }
instance:Inhabited Ac:=⟨(0,0,0,none)⟩
def cfA (x y:Ac):Int:=cmpK (ky x) (ky y)
theorem ltA (x y:Ac):ltOf cfA x y=decide (klt (ky x) (ky y)):=by
 unfold ltOf cfA
 exact decide_eq_decide.2 cmpK_neg
theorem swoA:Go.Sort.SWO (ltOf cfA) where
 irrefl x:=by rw [ltA]; exact decide_eq_false (klt_irrefl _)
 trans x y z h1 h2:=by rw [ltA] at *; exact decide_eq_true (klt_trans (of_decide_eq_true h1) (of_decide_eq_true h2))
 ntrans x y z h1 h2:=by rw [ltA] at *; exact decide_eq_false (fun h=>by have h1:=of_decide_eq_false h1; have h2:=of_decide_eq_false h2; unfold klt at *; omega)
theorem flatA (xs:List Ac):Go.Sort.flatK acC 11 xs.toArray=((xs.map acC).flatten).toArray:=by
 have hk:∀ cs∈xs.map acC,cs.length=11:=acC_len xs
 have hfl:=flat_len hk
 rw [List.length_map] at hfl
 refine Array.ext (by rw [Go.Sort.size_flatK,List.size_toArray,List.size_toArray,hfl]) fun t h1 h2=>?_
 have ht:t<xs.length*11:=by rw [Go.Sort.size_flatK,List.size_toArray] at h1; exact h1
 have hi:t/11<xs.length:=by omega
 have h6:t%11<(acC xs[t/11]).length:=by show t%11<11; omega
 have hg:=flat_get hk (i:=t/11) (c:=t%11) (cs:=acC xs[t/11]) (by rw [List.getElem?_map,List.getElem?_eq_getElem hi]; rfl) (List.getElem?_eq_getElem h6)
 rw [show t/11*11+t%11=t by omega] at hg
 have e1:(Go.Sort.flatK acC 11 xs.toArray)[t]! = (Go.Sort.flatK acC 11 xs.toArray)[t]:=getElem!_pos _ t h1
 rw [<-e1,Go.Sort.get_flatK acC 11 xs.toArray t (by rw [List.size_toArray]; exact ht)]
 have e2:xs.toArray[t/11]! = xs[t/11]:=by rw [getElem!_pos xs.toArray (t/11) (by rw [List.size_toArray]; exact hi)]; simp
 rw [e2,getElem!_pos (acC xs[t/11]) (t%11) h6]
 have e3:((xs.map acC).flatten)[t]? = some ((xs.map acC).flatten).toArray[t]:=by
  rw [List.getElem?_eq_getElem (by rw [hfl]; exact ht)]; simp
 rw [e3] at hg
 exact (Option.some.inj hg).symm
theorem orderG_any (x y:Ac) (w:World):Calls Tryz.prog 170 #[.agg (acC x).toArray,.agg (acC y).toArray] w fun e w'=>e=.returned (.int .i64 (cfA x y))/\∃ q os',w'=Go.Sort.grow (w.drewN q) os' :=
 (orderX_any x y w).mono (by rintro e w' ⟨rfl,rfl⟩; exact ⟨rfl,1,_,by rw [Go.Sort.alloc_eq_grow,Go.Sort.alloc_eq_grow,Go.Sort.alloc_eq_grow,Go.Sort.drew_grow,Go.Sort.drew_grow,Go.Sort.grow_grow,Go.Sort.grow_grow]; rfl⟩)
theorem order_lays (blk off size:Nat) (w:World):CmpLays Tryz.prog 170 #[] acC 11 cfA blk off size w :=
 fun _ _ _ _ x y=>orderG_any x y _
theorem fo_len {e:TypeId} {k base g n cap:Nat} {w:World} {xs:List Ac} (h:FO e k w base (.slice (some ⟨g,0,none⟩) n cap) (xs.map acC)):xs.length=n:=by
 rcases h.1.2 with ⟨hv,_⟩ | ⟨g',cap',cur,hv,_⟩
 ·cases hv
 ·injection hv with _ h1; simpa using h1.symm
def UpA (L:List Ac):Prop:=L.Pairwise fun a b=>¬ klt (ky b) (ky a)
theorem insert_any (base g n cap:Nat) (xs:List Ac) (w:World) (h:FO 54 11 w base (.slice (some ⟨g,0,none⟩) n cap) (xs.map acC)) (hn:n<=4096) :
  Calls Tryz.prog 293 #[.slice (some ⟨g,0,none⟩) n cap,.int .i64 0,.int .i64 (n:Int),.func (.func 170) #[] #[]] w fun e w'=>e=.returned (.tuple #[]) /\
   ∃ L,FO 54 11 w' base (.slice (some ⟨g,0,none⟩) n cap) (L.map acC)/\L.Perm xs/\UpA L/\Below base w w':=by
 have hlx:xs.length=n:=fo_len h
 have hfx:=flat_len (acC_len xs)
 rw [List.length_map] at hfx
 obtain ⟨hown,hk⟩:=h
 rw [List.length_map] at hown
 rcases hown.2 with ⟨hv,_⟩ | ⟨g',cap',cur,hv,hb,hg,hnc,hcm,hcs,htake⟩
 ·cases hv
 ·injection hv with hv1 hv2 hv3
  injection hv1 with hv1
  injection hv1 with hv1
  subst hv1 hv3 hlx
  have hgl:g<w.heap.size:=(Array.getElem?_eq_some_iff.1 hg).1
  have hH:Go.Sort.HoldsK acC 11 w g 0 xs.toArray:=by
   intro j hj
   rw [flatA] at hj ⊢
   have hj':j<((xs.map acC).flatten).length:=by simpa using hj
   refine ⟨?_,by simp [World.frozen?,hg]⟩
   have:=hown.cellAt j (by rw [hfx] at hj'; exact hj')
   rw [Nat.zero_add,this,List.getElem?_eq_getElem hj',getElem!_pos _ j hj]
   simp
  have eg:∀ args w,(callFunc 170 args).run Tryz.prog w=.ok (.enter 170 args) w:=enters_of Tryz.func170 (by kernel_rfl) rfl
  have hcon:=AnyQ.insertionSortCmpFunc Tryz.laysIns 11 Tryz.isAgg54 Tryz.sizeOf54 acC (fun _=>rfl) (fun x u hu=>acC_one [x] (acC x) (by simp) u hu) cfA 170 #[] g 0 cap 0 xs.length xs.toArray w eg (order_lays g 0 _ w) hH hgl (Nat.zero_le _) (by rw [List.size_toArray]; exact Nat.le_refl _) (by rw [List.size_toArray]; omega)
  change Calls Tryz.prog 293 _ _ _ at hcon
  rw [List.size_toArray] at hcon
  have hspec:=Go.Sort.insertionSort_holds (lt:=ltOf cfA) swoA xs.toArray 0 xs.length (Nat.zero_le _) (by rw [List.size_toArray]; exact Nat.le_refl _)
  refine hcon.mono ?_
  rintro e w' ⟨he,m,os,rfl⟩
  obtain ⟨hp,hs⟩:=hspec
  generalize Go.Sort.insertionSort (ltOf cfA) xs.toArray 0 xs.length=d' at hp hs
  obtain ⟨L,rfl⟩:∃ L,d'=List.toArray L:=⟨d'.toList,by simp⟩
  have hsz:L.length=xs.length:=by have:=hp.1; simpa using this
  have hperm:L.Perm xs:=by
   have:=hp.2.2
   have h1:List.take xs.length L=L:=List.take_of_length_le (by omega)
   simpa [h1] using this
  have hw:sortWorldK acC 11 w g 0 m L.toArray os=Go.Sort.grow (Go.Sort.putRow id (Go.Sort.ahead w m) g 0 ((L.map acC).flatten).toArray) os:=by
   unfold sortWorldK Go.Sort.putRowK; rw [flatA]
  have hheap:(sortWorldK acC 11 w g 0 m L.toArray os).heap[g]? = some (.cells (Go.Sort.putCells id 0 ((L.map acC).flatten).toArray cur) 54 (0,0)):=by
   rw [hw,Go.Sort.heap_grow_old _ _ (by simpa using hgl)]
   simp [Go.Sort.putRow,Go.Sort.mapBlock,Go.Sort.ahead,Array.getElem?_modify,hg,Go.Sort.onCells]
  have hgr:w.grownBy (sortWorldK acC 11 w g 0 m L.toArray os) (some g):=by
   rw [hw]
   refine ⟨rfl,rfl,rfl,by simp,fun k hk hne=>?_⟩
   rw [Go.Sort.heap_grow_old _ _ (by simpa using hk)]
   have:g≠k:=fun e=>hne (by rw [e])
   simp [Go.Sort.putRow,Go.Sort.mapBlock,Go.Sort.ahead,Array.getElem?_modify,this]
  have hlf:((L.map acC).flatten).length=xs.length*11:=by have:=flat_len (acC_len L); rw [List.length_map,hsz] at this; exact this
  have hcap:xs.length*11<=cur.size:=by rw [hcs]; exact Nat.mul_le_mul_right _ hnc
  have hput:∀ j,(Go.Sort.putCells id 0 ((L.map acC).flatten).toArray cur)[j]? = if j<xs.length*11 then ((L.map acC).flatten)[j]? else cur[j]? := by
   intro j
   unfold Go.Sort.putCells
   rw [Array.getElem?_mapIdx]
   by_cases hj:j<xs.length*11
   ·rw [if_pos hj,Array.getElem?_eq_getElem (show j<cur.size by omega)]
    simp only [Option.map_some,Nat.zero_le,true_and,List.size_toArray,Nat.zero_add,hlf,hj,if_true,Nat.sub_zero,id]
    rw [getElem!_pos _ j (by rw [List.size_toArray,hlf]; exact hj),List.getElem?_eq_getElem (by rw [hlf]; exact hj)]
    simp
   ·rw [if_neg hj]
    simp [hlf,hj]
  refine ⟨he,L,⟨⟨by rw [List.length_map,hlf,hsz],.inr ⟨g,cap,_,by rw [List.length_map,hsz],hb,hheap,by rw [List.length_map,hsz]; exact hnc,hcm,by simp [Go.Sort.putCells,hcs],?_⟩⟩,acC_len L⟩,hperm,?_,?_⟩
  ·apply List.ext_getElem?
   intro j
   rw [List.length_map,hsz,List.getElem?_take,Array.getElem?_toList,hput]
   by_cases hj:j<xs.length*11
   ·rw [if_pos hj,if_pos hj]
   ·rw [if_neg hj,List.getElem?_eq_none (by rw [hlf]; omega)]
  ·unfold UpA
   rw [List.pairwise_iff_getElem]
   intro i j hi hj hij
   have:=hs i j (Nat.zero_le _) hij (by rw [<-hsz]; exact hj)
   rw [ltA,getElem!_pos L.toArray i (by rw [List.size_toArray]; exact hi),getElem!_pos L.toArray j (by rw [List.size_toArray]; exact hj)] at this
   simpa using this
  ·exact (Below.refl _ _).grown hgr (by omega) (fun k hk=>by cases hk; exact hb)
end
section
open Go.RowKit
theorem insertV_any (base:Nat) (v:Value) (xs:List Ac) (w:World) (h:FO 54 11 w base v (xs.map acC)) (hn:xs.length<=4096) :
  Calls Tryz.prog 293 #[v,.int .i64 0,.int .i64 (xs.length:Int),.func (.func 170) #[] #[]] w fun e w'=>e=.returned (.tuple #[]) /\
   ∃ L,FO 54 11 w' base v (L.map acC)/\L.Perm xs/\UpA L/\Below base w w':=by
 rcases h.1.2 with ⟨rfl,h0⟩ | ⟨g,cap,cur,rfl,_⟩
 ·obtain rfl:xs=[]:=List.eq_nil_of_length_eq_zero (by simpa using h0)
  have hcon:=AnyF.insertionSortCmpFunc_none Tryz.laysIns none 0 (.func (.func 170) #[] #[]) w
  change Calls Tryz.prog 293 _ _ _ at hcon
  exact hcon.mono fun e w' ⟨he,hw⟩=>⟨he,[],by rw [hw]; exact h,List.Perm.refl _,List.Pairwise.nil,by rw [hw]; exact Below.refl _ _⟩
 ·rw [List.length_map] at h ⊢
  exact insert_any base g xs.length cap xs w h hn
theorem stable_any (base:Nat) (v:Value) (xs:List Ac) (w:World) (h:FO 54 11 w base v (xs.map acC)) (hn:xs.length<20) :
  Calls Tryz.prog 244 #[v,.int .i64 (xs.length:Int),.func (.func 170) #[] #[]] w fun e w'=>e=.returned (.tuple #[]) /\
   ∃ L,FO 54 11 w' base v (L.map acC)/\L.Perm xs/\UpA L/\Below base w w':=by
 obtain ⟨n,hxn⟩:∃ n,xs.length=n:=⟨_,rfl⟩
 have hins:=hid (fun W h=>insertV_any base v xs W h (by omega))
 rw [hxn] at hins hn ⊢
 have c1:¬ (20:Int)<=(n:Int):=by omega
 have c2:¬ (20:Int)<(n:Int):=by omega
 have c3:decide ((20:Int)<=(n:Int))=false:=decide_eq_false c1
 have c4:decide ((20:Int)<(n:Int))=false:=decide_eq_false c2
 go_enter Tryz.func244,Tryz.ntmps244
 go_wp2_with fail
 go_loopw [7,8] (fun av bv wr=>av=.int .i64 0/\bv=.int .i64 20/\wr=w) (fun _ _ _=>0)
 case atStart=>exact ⟨rfl,rfl,rfl⟩
 case round =>
  obtain ⟨rfl,rfl,rfl⟩:=hrel
  go_wp2_with fail
  refine (hins.out _ h).mono ?_; rintro e w1 ⟨rfl,L,h1,h2,h3,h4⟩
  have HL:=hid h1
  clear h1
  go_wp2_with fail
  go_loopw [6] (fun bv wr=>bv=.int .i64 20/\wr=w1) (fun _ _=>0)
  case atStart=>exact ⟨rfl,rfl⟩
  case round =>
   obtain ⟨rfl,rfl⟩:=hrel
   go_wp2_with fail
   go_end0
   exact ⟨rfl,L,HL.out,h2,h3,h4⟩
theorem sortStable_any (base:Nat) (v:Value) (xs:List Ac) (w:World) (h:FO 54 11 w base v (xs.map acC)) (hn:xs.length<20) :
  Calls Tryz.prog 169 #[v,.func (.func 170) #[] #[]] w fun e w'=>e=.returned (.tuple #[]) /\
   ∃ L,FO 54 11 w' base v (L.map acC)/\L.Perm xs/\UpA L/\Below base w w':=by
 have hst:=hid (fun W h=>stable_any base v xs W h hn)
 obtain ⟨ao,cap,hv⟩:=h.form
 rw [List.length_map] at hv
 obtain ⟨n,hxn⟩:∃ n,xs.length=n:=⟨_,rfl⟩
 rw [hxn] at hv hst hn
 subst hv
 go_enter Tryz.func169,Tryz.ntmps169
 go_wp2_with fail
 refine (hst.out _ h).mono ?_; rintro e w1 ⟨rfl,L,h1,h2,h3,h4⟩
 go_wp2_with fail
 go_end0
 exact ⟨rfl,L,h1,h2,h3,h4⟩
end
end Go.Proofs.YtnapapijhhldpaaGreatDoor

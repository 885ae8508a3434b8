/-
  Texts joined by program: Twh, Twi, Twj, Twk, Twl, Twm. No condition of its own.
-/
import Derived.Test.YtnapapijhhldpaaGreatDoorJkAF
namespace Go.Proofs.YtnapapijhhldpaaGreatDoor
set_option linter.unusedSimpArgs false
set_option linter.unusedVariables false
set_option maxRecDepth 100000
set_option maxHeartbeats 4000000
section
open Go.RowKit
def q9l (st syms:Nat) (x:Ac):Prop:=x.1<st/\x.2.2.1<st/\x.2.1<=syms/\vW (wt x)
theorem q4x (q st syms:Nat) (hq:q<st) (io fo ro:OA) (ni ci nf cf nr cr:Nat) (G:Nat) (w:World) (hG:Bl G [.int .i64 2,.slice none 0 0,.int .i64 (syms:Int),.int .i64 (st:Int),.slice io ni ci,.slice fo nf cf,.slice ro nr cr] 30 w):Calls Tryz.prog 241 #[.int .i64 (q:Int),.pointer (some ⟨G,0,none⟩)] w fun e w'=>e=.returned (.bool true)/\w=w':=by
 obtain ⟨⟨a0,a1,a2,a3⟩,a4,a5,a6⟩:=hG.seven
 have c1:decide ((0:Int)<=(q:Int))=true:=decide_eq_true (by omega)
 have c2:decide ((q:Int)<(st:Int))=true:=decide_eq_true (by omega)
 have c3:(0:Int)<=(q:Int):=by omega
 have c4:(q:Int)<(st:Int):=by omega
 go_enter Tryz.func241,Tryz.ntmps241
 go_wp2_with fail
 go_ret
 exact ⟨rfl,rfl⟩
theorem j3p (x:Ac) (st syms:Nat) (hx:q9l st syms x) (io fo ro:OA) (ni ci nf cf nr cr:Nat) (w:World):Calls Tryz.prog 165 #[.agg #[.int .i64 ((x).1:Int),.int .i64 ((x).2.1:Int),.int .i64 ((x).2.2.1:Int),.bool false,.slice none 0 0,.slice none 0 0,.int .i64 (tc (wt x):Int),.bool (ti (wt x)),.int .u64 0,.slice none 0 0,.slice none 0 0],.agg #[.int .i64 2,.slice none 0 0,.int .i64 (syms:Int),.int .i64 (st:Int),.slice io ni ci,.slice fo nf cf,.slice ro nr cr]] w fun e w'=>e=.returned (.bool true)/\Below w.heap.size w w':=by
 have hb0:Below w.heap.size w ((w.alloc (.cells #[.int .i64 ((x).1:Int),.int .i64 ((x).2.1:Int),.int .i64 ((x).2.2.1:Int),.bool false,.slice none 0 0,.slice none 0 0,.int .i64 (tc (wt x):Int),.bool (ti (wt x)),.int .u64 0,.slice none 0 0,.slice none 0 0] 54)).alloc (.cells #[.int .i64 2,.slice none 0 0,.int .i64 (syms:Int),.int .i64 (st:Int),.slice io ni ci,.slice fo nf cf,.slice ro nr cr] 30)):=qQ (qJ _) (qJ _)
 have hA:=(Bl.fresh w [.int .i64 ((x).1:Int),.int .i64 ((x).2.1:Int),.int .i64 ((x).2.2.1:Int),.bool false,.slice none 0 0,.slice none 0 0,.int .i64 (tc (wt x):Int),.bool (ti (wt x)),.int .u64 0,.slice none 0 0,.slice none 0 0] 54).new (.cells #[.int .i64 2,.slice none 0 0,.int .i64 (syms:Int),.int .i64 (st:Int),.slice io ni ci,.slice fo nf cf,.slice ro nr cr] 30)
 have hB:=Bl.fresh' (G:=w.heap.size+1) (w.alloc (.cells #[.int .i64 ((x).1:Int),.int .i64 ((x).2.1:Int),.int .i64 ((x).2.2.1:Int),.bool false,.slice none 0 0,.slice none 0 0,.int .i64 (tc (wt x):Int),.bool (ti (wt x)),.int .u64 0,.slice none 0 0,.slice none 0 0] 54)) [.int .i64 2,.slice none 0 0,.int .i64 (syms:Int),.int .i64 (st:Int),.slice io ni ci,.slice fo nf cf,.slice ro nr cr] 30 (by simp)
 obtain ⟨h1,h2,h3,h4⟩:=hx
 have c1:decide ((0:Int)<=(x.2.1:Int))=true:=decide_eq_true (by omega)
 have c2:decide ((x.2.1:Int)<=(syms:Int))=true:=decide_eq_true (by omega)
 have c3:(0:Int)<=(x.2.1:Int):=by omega
 have c4:(x.2.1:Int)<=(syms:Int):=by omega
 go_enter Tryz.func165,Tryz.ntmps165
 go_upto_region 2 with fail
 generalize ((w.alloc (.cells #[.int .i64 ((x).1:Int),.int .i64 ((x).2.1:Int),.int .i64 ((x).2.2.1:Int),.bool false,.slice none 0 0,.slice none 0 0,.int .i64 (tc (wt x):Int),.bool (ti (wt x)),.int .u64 0,.slice none 0 0,.slice none 0 0] 54)).alloc (.cells #[.int .i64 2,.slice none 0 0,.int .i64 (syms:Int),.int .i64 (st:Int),.slice io ni ci,.slice fo nf cf,.slice ro nr cr] 30))=W0 at *
 obtain ⟨⟨x0,x1,x2,x3⟩,⟨x4,x5,x6,x7⟩,x8,x9,x10⟩:=hA.eleven
 obtain ⟨⟨a0,a1,a2,a3⟩,a4,a5,a6⟩:=hB.seven
 go_wp2_with fail
 refine (q4x x.1 st syms h1 io fo ro ni ci nf cf nr cr _ _ hB).mono ?_; rintro e w1 ⟨rfl,rfl⟩
 go_wp2_with fail
 refine (q4x x.2.2.1 st syms h2 io fo ro ni ci nf cf nr cr _ _ hB).mono ?_; rintro e w1 ⟨rfl,rfl⟩
 go_wp2_with fail
 refine (q5e _ h4 _).mono ?_; rintro e w1 ⟨rfl,hb1⟩
 go_wp2_with fail
 go_ret
 exact ⟨rfl,qQ hb0 hb1⟩
theorem Cs.eleven {w:World} {b o:Nat} {z0 z1 z2 a0 a1 a2 a3 a4 a5 a6 a7:Value} (h:Cs w b o [z0,z1,z2,a0,a1,a2,a3,a4,a5,a6,a7]) :
  (w.cell? ⟨b,o,none⟩=some z0/\w.cell? ⟨b,o+1,none⟩=some z1/\w.cell? ⟨b,o+2,none⟩=some z2/\w.cell? ⟨b,o+3,none⟩=some a0)/\(w.cell? ⟨b,o+4,none⟩=some a1/\w.cell? ⟨b,o+5,none⟩=some a2/\w.cell? ⟨b,o+6,none⟩=some a3/\w.cell? ⟨b,o+7,none⟩=some a4)/\w.cell? ⟨b,o+8,none⟩=some a5/\w.cell? ⟨b,o+9,none⟩=some a6/\w.cell? ⟨b,o+10,none⟩=some a7 :=
 ⟨⟨h 0 _ rfl,h 1 _ rfl,h 2 _ rfl,h 3 _ rfl⟩,⟨h 4 _ rfl,h 5 _ rfl,h 6 _ rfl,h 7 _ rfl⟩,h 8 _ rfl,h 9 _ rfl,h 10 _ rfl⟩
theorem j2r (x:Ac) (st syms:Nat) (hx:q9l st syms x) (io fo ro:OA) (ni ci nf cf nr cr:Nat) (G:Nat) (w:World) (hG:Bl G [.int .i64 2,.slice none 0 0,.int .i64 (syms:Int),.int .i64 (st:Int),.slice io ni ci,.slice fo nf cf,.slice ro nr cr] 30 w):Calls Tryz.prog 164 #[.agg #[.int .i64 ((x).1:Int),.int .i64 ((x).2.1:Int),.int .i64 ((x).2.2.1:Int),.bool false,.slice none 0 0,.slice none 0 0,.int .i64 (tc (wt x):Int),.bool (ti (wt x)),.int .u64 0,.slice none 0 0,.slice none 0 0],.pointer (some ⟨G,0,none⟩)] w fun e w'=>e=.returned (.bool false)/\Below w.heap.size w w':=by
 have hb0:Below w.heap.size w (w.alloc (.cells #[.int .i64 ((x).1:Int),.int .i64 ((x).2.1:Int),.int .i64 ((x).2.2.1:Int),.bool false,.slice none 0 0,.slice none 0 0,.int .i64 (tc (wt x):Int),.bool (ti (wt x)),.int .u64 0,.slice none 0 0,.slice none 0 0] 54)):=qJ _
 have hA:=Bl.fresh w [.int .i64 ((x).1:Int),.int .i64 ((x).2.1:Int),.int .i64 ((x).2.2.1:Int),.bool false,.slice none 0 0,.slice none 0 0,.int .i64 (tc (wt x):Int),.bool (ti (wt x)),.int .u64 0,.slice none 0 0,.slice none 0 0] 54
 have hB:=hG.new (.cells #[.int .i64 ((x).1:Int),.int .i64 ((x).2.1:Int),.int .i64 ((x).2.2.1:Int),.bool false,.slice none 0 0,.slice none 0 0,.int .i64 (tc (wt x):Int),.bool (ti (wt x)),.int .u64 0,.slice none 0 0,.slice none 0 0] 54)
 obtain ⟨⟨x0,x1,x2,x3⟩,⟨x4,x5,x6,x7⟩,x8,x9,x10⟩:=hA.eleven
 obtain ⟨⟨a0,a1,a2,a3⟩,a4,a5,a6⟩:=hB.seven
 clear hA hB
 go_enter Tryz.func164,Tryz.ntmps164
 go_wp2_with fail
 refine (j3p x st syms hx io fo ro ni ci nf cf nr cr _).mono ?_; rintro e w1 ⟨rfl,hb1⟩
 go_wp2_with fail
 go_ret
 exact ⟨rfl,qQ hb0 hb1⟩
theorem j3v (xs:List Ac) (st syms:Nat) (hx:∀ x∈xs,q9l st syms x) (io fo ro:OA) (ni ci nf cf nr cr:Nat) (G:Nat) (ao:OA) (n cap:Nat) (w:World) (h:Fl 11 w ao n cap (xs.map acC)) (hG:Bl G [.int .i64 2,.slice none 0 0,.int .i64 (syms:Int),.int .i64 (st:Int),.slice io ni ci,.slice fo nf cf,.slice ro nr cr] 30 w) :
  Calls Tryz.prog 143 #[.slice ao n cap,.func (.func 164) #[] #[.pointer (some ⟨G,0,none⟩)]] w fun e w' =>
   e=.returned (.int .i64 (-1))/\Below w.heap.size w w':=by
 have hbd:=h.bound
 have hl:=hid h.lenMap
 go_enter Tryz.func143,Tryz.ntmps143
 go_wp2_with fail
 go_loopw [8] (fun iv wr=>∃ k:Nat,k<=n/\iv=.int .i64 k/\Below w.heap.size w wr) (fun i _=>n-(intOf i).toNat)
 case atStart=>exact ⟨0,by omega,rfl,Below.refl _ _⟩
 case round =>
  obtain ⟨k,hk,rfl,hb⟩:=hrel
  have hf:=h.next hb
  have hGr:=hG.next hb
  by_cases hlt:k<n
  ·obtain ⟨x,hxk,b,off,rfl,hcs⟩:=hf.get hlt
   have hxo:q9l st syms x:=hx x (List.mem_of_getElem? hxk)
   obtain ⟨⟨x0,x1,x2,x3⟩,⟨x4,x5,x6,x7⟩,x8,x9,x10⟩:=hcs.eleven
   have hxk:=hid hxk
   go_wp2_with fail
   refine (j2r x st syms hxo io fo ro ni ci nf cf nr cr G _ hGr).mono ?_; rintro e w' ⟨rfl,hb'⟩
   go_wp2_with fail
   go_round
   case rel=>exact ⟨k+1,by omega,by go_num,qQ hb hb'⟩
   case measure=>simp [intOf]; omega
  ·go_wp2_with fail
   go_ret
   exact ⟨rfl,hb⟩
theorem q7j (xs:List Ac) (st syms:Nat) (hx:∀ x∈xs,q9l st syms x) (io fo ro:OA) (ni ci nf cf nr cr:Nat) (G:Nat) (ao:OA) (n cap:Nat) (w:World) (h:Fl 11 w ao n cap (xs.map acC)) (hG:Bl G [.int .i64 2,.slice none 0 0,.int .i64 (syms:Int),.int .i64 (st:Int),.slice io ni ci,.slice fo nf cf,.slice ro nr cr] 30 w) :
  Calls Tryz.prog 100 #[.slice ao n cap,.func (.func 164) #[] #[.pointer (some ⟨G,0,none⟩)]] w fun e w' =>
   e=.returned (.bool false)/\Below w.heap.size w w':=by
 go_enter Tryz.func100,Tryz.ntmps100
 go_wp2_with fail
 refine (j3v xs st syms hx io fo ro ni ci nf cf nr cr G ao n cap w h hG).mono ?_; rintro e w' ⟨rfl,hb'⟩
 go_wp2_with fail
 go_ret
 exact ⟨rfl,hb'⟩
structure Mo (w:World) (syms:Nat) (A:Au) (io:OA) (ci:Nat) (fo:OA) (cf:Nat) (ro:OA) (nr cr:Nat):Prop where
 ini:Fl 8 w io A.st ci (A.ini.map twC)
 fin:Fl 8 w fo A.st cf (A.fin.map twC)
 arcs:Fl 11 w ro nr cr (A.arcs.map acC)
theorem Mo.next {w w':World} {syms:Nat} {A:Au} {io fo ro:OA} {ci cf nr cr:Nat} (h:Mo w syms A io ci fo cf ro nr cr) (hb:Below w.heap.size w w'):Mo w' syms A io ci fo cf ro nr cr :=
 ⟨h.ini.next hb,h.fin.next hb,h.arcs.next hb⟩
structure Vo (syms:Nat) (A:Au):Prop where
 sym:1<=syms/\syms<=32
 st:A.st<=64
 num:A.arcs.length<=2048
 ini:∀ v∈A.ini,vW v
 fin:∀ v∈A.fin,vW v
 arcs:∀ x∈A.arcs,q9l A.st syms x
theorem j4r (syms:Nat) (A:Au) (hV:Vo syms A) (io:OA) (ci:Nat) (fo:OA) (cf:Nat) (ro:OA) (nr cr:Nat) (w:World) (h:Mo w syms A io ci fo cf ro nr cr) :
  Calls Tryz.prog 128 #[.agg #[.int .i64 2,.slice none 0 0,.int .i64 (syms:Int),.int .i64 (A.st:Int),.slice io A.st ci,.slice fo A.st cf,.slice ro nr cr]] w fun e w'=>e=.returned (.bool true)/\Below w.heap.size w w':=by
 have hb0:Below w.heap.size w (w.alloc (.cells #[.int .i64 2,.slice none 0 0,.int .i64 (syms:Int),.int .i64 (A.st:Int),.slice io A.st ci,.slice fo A.st cf,.slice ro nr cr] 30)):=qJ _
 have hB:=Bl.fresh w [.int .i64 2,.slice none 0 0,.int .i64 (syms:Int),.int .i64 (A.st:Int),.slice io A.st ci,.slice fo A.st cf,.slice ro nr cr] 30
 have hm:=h.next hb0
 clear h
 obtain ⟨⟨a0,a1,a2,a3⟩,a4,a5,a6⟩:=hB.seven
 obtain ⟨⟨s1,s2⟩,s3,s4,s5,s6,s7⟩:=hV
 have hnr:=hm.arcs.lenMap
 have bi:=hm.ini.bound
 have bf:=hm.fin.bound
 have br:=hm.arcs.bound
 obtain ⟨st,ini,fin,arcs⟩:=A
 simp only at *
 have c1:decide ((syms:Int)<1)=false:=decide_eq_false (by omega)
 have c2:decide ((32:Int)<(syms:Int))=false:=decide_eq_false (by omega)
 have c3:decide ((st:Int)<0)=false:=decide_eq_false (by omega)
 have c4:decide ((64:Int)<(st:Int))=false:=decide_eq_false (by omega)
 have c5:decide ((2048:Int)<(nr:Int))=false:=decide_eq_false (by omega)
 have d1:¬ ((syms:Int)<1):=by omega
 have d2:¬ ((32:Int)<(syms:Int)):=by omega
 have d3:¬ ((st:Int)<0):=by omega
 have d4:¬ ((64:Int)<(st:Int)):=by omega
 have d5:¬ ((2048:Int)<(nr:Int)):=by omega
 have hm:=hid hm
 go_enter Tryz.func128,Tryz.ntmps128
 go_upto_region 1 with fail
 generalize (w.alloc (.cells #[.int .i64 2,.slice none 0 0,.int .i64 (syms:Int),.int .i64 (st:Int),.slice io st ci,.slice fo st cf,.slice ro nr cr] 30))=W0 at *
 go_wp2_with fail
 refine (q0n _).mono ?_; rintro e w1 ⟨rfl,hb1⟩
 replace hB:=hB.next hb1
 replace hb0:=qQ hb0 hb1
 replace hm:=hid (hm.out.next hb1)
 obtain ⟨⟨a0,a1,a2,a3⟩,a4,a5,a6⟩:=hB.seven
 go_wp2_with fail
 refine (q7j arcs st syms s7 io fo ro st ci st cf nr cr _ ro nr cr _ hm.out.arcs hB).mono ?_; rintro e w2 ⟨rfl,hb2⟩
 replace hB:=hB.next hb2
 replace hb0:=qQ hb0 hb2
 replace hm:=hid (hm.out.next hb2)
 clear a0 a1 a2 a3 a4 a5 a6
 obtain ⟨⟨a0,a1,a2,a3⟩,a4,a5,a6⟩:=hB.seven
 go_wp2_with fail
 refine (q4c ini s5 io st ci _ hm.out.ini).mono ?_; rintro e w3 ⟨rfl,hb3⟩
 replace hB:=hB.next hb3
 replace hb0:=qQ hb0 hb3
 replace hm:=hid (hm.out.next hb3)
 clear a0 a1 a2 a3 a4 a5 a6
 obtain ⟨⟨a0,a1,a2,a3⟩,a4,a5,a6⟩:=hB.seven
 go_wp2_with fail
 refine (q4c fin s6 fo st cf _ hm.out.fin).mono ?_; rintro e w4 ⟨rfl,hb4⟩
 go_wp2_with fail
 go_ret
 exact ⟨rfl,qQ hb0 hb4⟩
end
section
open Go.RowKit
theorem q2g {α β:Type} {f:α->β} {xs:List α} {k:Nat} {x:α} (h:xs[k]? = some x):(xs.take (k+1)).map f=(xs.take k).map f++[f x]:=by
 rw [List.take_succ_eq_append_getElem (List.getElem?_eq_some_iff.1 h).1,List.map_append,(List.getElem?_eq_some_iff.1 h).2]; rfl
theorem q9g {B:Nat} {a b c:World} (h:Below B a b) (k:Below B b c):Below B a c:=h.trans k
theorem q7v:vW none:=Nat.zero_le _
theorem j2k (xs:List Tw) (hx:∀ v∈xs,vW v) (ao:OA) (n cap:Nat) (hn:n<=4096) (w:World) (h:Fl 8 w ao n cap (xs.map twC)) :
  Calls Tryz.prog 130 #[.agg #[.int .i64 2,.slice none 0 0],.slice ao n cap] w fun e w'=>(∃ v,e=.returned v/\FO 45 8 w' w.heap.size v (xs.map twC))/\Below w.heap.size w w':=by
 have hb0:Below w.heap.size w (w.alloc (.cells #[.int .i64 2,.slice none 0 0] 26)):=qJ _
 have hG:=Bl.fresh w [.int .i64 2,.slice none 0 0] 26
 have hf:=h.next hb0
 have hl:=hid h.lenMap
 clear h
 go_enter Tryz.func130,Tryz.ntmps130
 go_upto_region 1 with fail
 generalize (w.alloc (.cells #[.int .i64 2,.slice none 0 0] 26))=W0 at *
 go_wp2_with fail
 go_loopw [5,10] (fun ov iv wr=>∃ (v:Value) (k:Nat),v=ov/\k<=n/\iv=.int .i64 k/\FO 45 8 wr W0.heap.size v ((xs.take k).map twC)/\Below W0.heap.size W0 wr) (fun _ i _=>n-(intOf i).toNat)
 case atStart=>exact ⟨_,0,rfl,by omega,rfl,FO.nil _ _ _ _,Below.refl _ _⟩
 case round =>
  obtain ⟨v,k,rfl,hk,rfl,hown,hb⟩:=hrel
  have hfr:=hf.next hb
  have hGr:=hG.next hb
  by_cases hlt:k<n
  ·obtain ⟨x,hxk,b,off,rfl,hcs⟩:=hfr.get hlt
   have hxo:vW x:=hx x (List.mem_of_getElem? hxk)
   obtain ⟨⟨y0,y1,y2,y3⟩,y4,y5,y6,y7⟩:=hcs.eight
   have hxk:=hid hxk
   have i1:(k:Int)<(n:Int):=by omega
   have i0:(0:Int)<=(k:Int):=by omega
   have hbA:Below wr.heap.size wr (wr.alloc (.cells #[.bool false,.slice none 0 0,.slice none 0 0,.int .i64 (tc (x):Int),.bool (ti (x)),.int .u64 0,.slice none 0 0,.slice none 0 0] 45)):=qJ _
   have hA:=Bl.fresh wr [.bool false,.slice none 0 0,.slice none 0 0,.int .i64 (tc (x):Int),.bool (ti (x)),.int .u64 0,.slice none 0 0,.slice none 0 0] 45
   have hG1:=hGr.next hbA
   have hown1:=hown.next hbA
   have hb1:=qQ hb hbA
   obtain ⟨GA,hGA⟩:∃ GA,wr.heap.size=GA:=⟨_,rfl⟩
   rw [hGA] at hA
   clear hcs hGr hown
   go_upto_region 5 with fail
   generalize (wr.alloc (.cells #[.bool false,.slice none 0 0,.slice none 0 0,.int .i64 (tc (x):Int),.bool (ti (x)),.int .u64 0,.slice none 0 0,.slice none 0 0] 45))=W1 at *
   clear y0 y1 y2 y3 y4 y5 y6 y7
   have hdr:=(Below.refl W1.heap.size W1).drew
   have hS:C2w w.heap.size (.int .i64 2) (.slice none 0 0) W1.drew/\C8w GA (.bool false) (.slice none 0 0) (.slice none 0 0) (.int .i64 (tc (x):Int)) (.bool (ti (x))) (.int .u64 0) (.slice none 0 0) (.slice none 0 0) W1.drew:=⟨C2w.next hG1.two hdr,C8w.next hA.eight hdr⟩
   have hK:∀ w' w'',(C2w w.heap.size (.int .i64 2) (.slice none 0 0) w'/\C8w GA (.bool false) (.slice none 0 0) (.slice none 0 0) (.int .i64 (tc (x):Int)) (.bool (ti (x))) (.int .u64 0) (.slice none 0 0) (.slice none 0 0) w')->Below w'.heap.size w' w''->(C2w w.heap.size (.int .i64 2) (.slice none 0 0) w''/\C8w GA (.bool false) (.slice none 0 0) (.slice none 0 0) (.int .i64 (tc (x):Int)) (.bool (ti (x))) (.int .u64 0) (.slice none 0 0) (.slice none 0 0) w''):=fun w' w'' h hb=>⟨C2w.next h.1 hb,C8w.next h.2 hb⟩
   have hown2:=hown1.next hdr
   have hb2:=qQ hb1 hdr
   have hlk:((xs.take k).map twC).length=k:=by rw [List.length_map,List.length_take,hl.out]; omega
   clear hA hG1 hown1 hb1
   refine qV (fun w'=>C2w w.heap.size (.int .i64 2) (.slice none 0 0) w'/\C8w GA (.bool false) (.slice none 0 0) (.slice none 0 0) (.int .i64 (tc (x):Int)) (.bool (ti (x))) (.int .u64 0) (.slice none 0 0) (.slice none 0 0) w') [7,8] (by kernel_rfl) ?_
   refine wCp 0 rfl hS ?_
   refine wCl 1 (v:=?_) rfl ?_ hS ?_
   rotate_left
   ·intro w hw; obtain ⟨⟨a0,a1⟩,⟨b0,b1,b2,b3⟩,b4,b5,b6,b7⟩:=hw; first | (go_simp; done) | (go_simp; with_reducible rfl)
   refine wCl 2 (v:=?_) rfl ?_ hS ?_
   rotate_left
   ·intro w hw; obtain ⟨⟨a0,a1⟩,⟨b0,b1,b2,b3⟩,b4,b5,b6,b7⟩:=hw; first | (go_simp; done) | (go_simp; with_reducible rfl)
   refine wCl 3 (v:=?_) rfl ?_ hS ?_
   rotate_left
   ·intro w hw; obtain ⟨⟨a0,a1⟩,⟨b0,b1,b2,b3⟩,b4,b5,b6,b7⟩:=hw; first | (go_simp; done) | (go_simp; with_reducible rfl)
   refine wpO (i:=4) rfl fun KK hKK=>?_
   go_simp
   go_at_call 76
   refine (vB _).mono ?_; rintro e w2 ⟨rfl,hb3⟩
   have hown3:=hown2.next hb3
   have hb4:=qQ hb2 hb3
   try go_simp
   refine hKK _ _ ⟨fun _=>(hK _ _ hS hb3),?_⟩; clear hKK KK
   refine wpO (i:=5) rfl fun KK hKK=>?_
   go_simp
   go_at_call 77
   refine (q0s x none hxo q7v _).mono ?_; rw [jU]; rintro e w3 ⟨rfl,hb5⟩
   have hown4:=hown3.next hb5
   have hb6:=qQ hb4 hb5
   try go_simp
   refine hKK _ _ ⟨fun _=>(hK _ _ (hK _ _ hS hb3) hb5),?_⟩; clear hKK KK
   refine wpO (i:=6) rfl fun KK hKK=>?_
   have hbN:Below w3.heap.size w3 (w3.alloc (.cells #[.bool false,.slice none 0 0,.slice none 0 0,.int .i64 (tc (x):Int),.bool (ti (x)),.int .u64 0,.slice none 0 0,.slice none 0 0] 45)):=qJ _
   have hnew:=Cs.fresh w3 [.bool false,.slice none 0 0,.slice none 0 0,.int .i64 (tc (x):Int),.bool (ti (x)),.int .u64 0,.slice none 0 0,.slice none 0 0] 45
   have hown5:=hown4.next hbN
   have hb7:=qQ hb6 hbN
   go_simp
   refine hKK _ _ ⟨fun _=>(hK _ _ (hK _ _ (hK _ _ hS hb3) hb5) hbN),?_⟩; clear hKK KK
   refine wpO (i:=7) rfl fun KK hKK=>?_
   rw [if_pos (by rfl)]
   refine jP (.tmp 14) (.tmp 20) 27 rfl 45 (.agg #[.bool false,.slice none 0 0,.slice none 0 0,.int .i64 0,.bool false,.int .u64 0,.slice none 0 0,.slice none 0 0]) 8 128 (by kernel_rfl) (by kernel_rfl) (by rfl) (by decide) W0.heap.size v _ rfl hown5 w3.heap.size 0 1 1 [[.bool false,.slice none 0 0,.slice none 0 0,.int .i64 (tc (x):Int),.bool (ti (x)),.int .u64 0,.slice none 0 0,.slice none 0 0]] rfl (by rfl) (by decide) (by intro cs hc; obtain rfl:=List.mem_singleton.1 hc; rfl) (by simpa using hnew) (by intro cs hc u hu; obtain rfl:=List.mem_singleton.1 hc; simp at hu; rcases hu with rfl | rfl | rfl | rfl | rfl | rfl<;>rfl) (by rw [hlk]; omega) (by rw [hlk]; omega) hb7.size ?_
   intro v' w5 hown6 hg6 hb8 _
   refine lN hKK ?_; clear hKK KK
   refine wpO (i:=8) rfl fun KK hKK=>?_
   go_simp
   refine lN hKK ?_; clear hKK KK
   refine qZ (by kernel_rfl) ?_ _
   go_simp
   go_wp2_with fail
   go_roundw
   case rel=>exact ⟨v',k+1,rfl,by omega,by go_num,by rw [q2g hxk.out]; exact hown6,q9g hb7 hb8⟩
   case measure=>simp [intOf]; omega
  ·have i1:¬ (k:Int)<(n:Int):=by omega
   go_wp2_with fail
   go_ret
   refine ⟨⟨_,rfl,?_⟩,qQ hb0 hb⟩
   rw [List.take_of_length_le (by rw [hl.out]; omega)] at hown
   exact hown.mono hb0.size
end
section
open Go.RowKit
theorem q8p (a:Int) (w:World):Calls Tryz.prog 295 #[.int .i64 a] w fun e w'=>e=.returned (.bool false)/\w=w':=by
 go_enter Tryz.func295,Tryz.ntmps295
 go_wp2_with fail
 go_ret
 exact ⟨rfl,rfl⟩
theorem q1i (a b:Nat) (w:World):Calls Tryz.prog 246 #[.int .i64 (a:Int),.int .i64 (b:Int)] w fun e w'=>e=.returned (.int .i64 (q3o a b))/\w=w':=by
 go_enter Tryz.func246,Tryz.ntmps246
 go_wp2_with fail
 refine (q8p _ _).mono ?_; rintro e w1 ⟨rfl,rfl⟩
 go_wp2_with fail
 refine (q8p _ _).mono ?_; rintro e w1 ⟨rfl,rfl⟩
 by_cases h1:a<b
 ·have c1:(a:Int)<(b:Int):=by omega
  have c2:decide ((a:Int)<(b:Int))=true:=decide_eq_true c1
  go_wp2_with fail
  go_ret
  exact ⟨by simp [q3o,h1],rfl⟩
 ·have c1:¬ (a:Int)<(b:Int):=by omega
  have c2:decide ((a:Int)<(b:Int))=false:=decide_eq_false c1
  by_cases h2:b<a
  ·have c3:(b:Int)<(a:Int):=by omega
   have c4:decide ((b:Int)<(a:Int))=true:=decide_eq_true c3
   go_wp2_with fail
   go_ret
   exact ⟨by simp [q3o,h1,h2],rfl⟩
  ·have c3:¬ (b:Int)<(a:Int):=by omega
   have c4:decide ((b:Int)<(a:Int))=false:=decide_eq_false c3
   go_wp2_with fail
   go_ret
   exact ⟨by simp [q3o,h1,h2],rfl⟩
theorem z2m (x y z:Int) (b:Nat) (w:World) (h:Cs w b 0 [.int .i64 x,.int .i64 y,.int .i64 z]):Calls Tryz.prog 245 #[.slice (some ⟨b,0,none⟩) 3 3] w fun e w'=>e=.returned (.int .i64 (if x≠0 then x else if y≠0 then y else z))/\w=w':=by
 have h0:w.cell? ⟨b,0,none⟩=some (.int .i64 x):=h 0 _ rfl
 have h1:w.cell? ⟨b,1,none⟩=some (.int .i64 y):=h 1 _ rfl
 have h2:w.cell? ⟨b,2,none⟩=some (.int .i64 z):=h 2 _ rfl
 clear h
 obtain ⟨r,hr⟩:∃ r,(if x≠0 then x else if y≠0 then y else z)=r:=⟨_,rfl⟩
 rw [hr]
 have Hr:=hid hr
 clear hr
 go_enter Tryz.func245,Tryz.ntmps245
 go_wp2_with fail
 go_loopw [8] (fun iv wr=>∃ k:Nat,k<=3/\iv=.int .i64 k/\wr=w/\Hid ((1<=k->x=0)/\(2<=k->y=0)/\(3<=k->z=0))) (fun i _=>3-(intOf i).toNat)
 case atStart=>exact ⟨0,by omega,rfl,rfl,by unfold Hid; refine ⟨?_,?_,?_⟩<;>omega⟩
 case round =>
  obtain ⟨k,hk,rfl,rfl,hall⟩:=hrel
  rcases (show k=0\/k=1\/k=2\/k=3 by omega) with rfl | rfl | rfl | rfl
  ·by_cases hz:x=0
   ·have Hz:=hid hz
    rw [hz] at h0
    clear hz
    go_wp2_with fail
    go_round
    case rel=>exact ⟨1,by omega,by go_num,by first | trivial | rfl,by unfold Hid; exact ⟨fun _=>Hz.out,by omega,by omega⟩⟩
    case measure=>simp [intOf]
   ·go_wp2_with fail
    go_ret
    exact ⟨by rw [<-Hr.out,if_pos hz]; rfl,rfl⟩
  ·by_cases hz:y=0
   ·have Hz:=hid hz
    rw [hz] at h1
    clear hz
    go_wp2_with fail
    go_round
    case rel=>exact ⟨2,by omega,by go_num,by first | trivial | rfl,by unfold Hid; exact ⟨fun _=>hall.out.1 (by omega),fun _=>Hz.out,by omega⟩⟩
    case measure=>simp [intOf]
   ·go_wp2_with fail
    go_ret
    exact ⟨by rw [<-Hr.out,if_neg (by simp [hall.out.1 (by omega)]),if_pos hz]; rfl,rfl⟩
  ·by_cases hz:z=0
   ·have Hz:=hid hz
    rw [hz] at h2
    clear hz
    go_wp2_with fail
    go_round
    case rel=>exact ⟨3,by omega,by go_num,by first | trivial | rfl,by unfold Hid; exact ⟨fun _=>hall.out.1 (by omega),fun _=>hall.out.2.1 (by omega),fun _=>Hz.out⟩⟩
    case measure=>simp [intOf]
   ·go_wp2_with fail
    go_ret
    exact ⟨by rw [<-Hr.out,if_neg (by simp [hall.out.1 (by omega)]),if_neg (by simp [hall.out.2.1 (by omega)])]; rfl,rfl⟩
  ·go_wp2_with fail
   go_ret
   exact ⟨by rw [<-Hr.out,if_neg (by simp [hall.out.1 (by omega)]),if_neg (by simp [hall.out.2.1 (by omega)]),hall.out.2.2 (by omega)]; rfl,rfl⟩
abbrev C3w (G:Nat) (a b c:Value) (w:World):Prop:=w.cell? ⟨G,0,none⟩=some a/\w.cell? ⟨G,1,none⟩=some b/\w.cell? ⟨G,2,none⟩=some c
theorem C3w.next {G:Nat} {a b c:Value} {w w':World} (h:C3w G a b c w) (hb:Below w.heap.size w w'):C3w G a b c w':=⟨qR h.1 hb,qR h.2.1 hb,qR h.2.2 hb⟩
theorem Bl.three {G:Nat} {a b c:Value} {r:List Value} {T:TypeId} {w:World} (h:Bl G (a::b::c::r) T w):C3w G a b c w:=⟨h.cell rfl,h.cell rfl,h.cell rfl⟩
theorem j9i (x y:Ky) (b:Nat) (w:World) (h:Cs w b 0 [.int .i64 (q3o x.1 y.1),.int .i64 (q3o x.2.1 y.2.1),.int .i64 (q3o x.2.2 y.2.2)]):Calls Tryz.prog 245 #[.slice (some ⟨b,0,none⟩) 3 3] w fun e w'=>e=.returned (.int .i64 (j2l x y))/\w=w':=z2m _ _ _ b w h
theorem q5w (x y:Ac) (w:World):Calls Tryz.prog 170 #[.agg #[.int .i64 ((x).1:Int),.int .i64 ((x).2.1:Int),.int .i64 ((x).2.2.1:Int),.bool false,.slice none 0 0,.slice none 0 0,.int .i64 (tc (wt x):Int),.bool (ti (wt x)),.int .u64 0,.slice none 0 0,.slice none 0 0],.agg #[.int .i64 ((y).1:Int),.int .i64 ((y).2.1:Int),.int .i64 ((y).2.2.1:Int),.bool false,.slice none 0 0,.slice none 0 0,.int .i64 (tc (wt y):Int),.bool (ti (wt y)),.int .u64 0,.slice none 0 0,.slice none 0 0]] w fun e w'=>e=.returned (.int .i64 (j2l (ky x) (ky y)))/\w'=((w.alloc (.cells #[.int .i64 ((x).1:Int),.int .i64 ((x).2.1:Int),.int .i64 ((x).2.2.1:Int),.bool false,.slice none 0 0,.slice none 0 0,.int .i64 (tc (wt x):Int),.bool (ti (wt x)),.int .u64 0,.slice none 0 0,.slice none 0 0] 54)).alloc (.cells #[.int .i64 ((y).1:Int),.int .i64 ((y).2.1:Int),.int .i64 ((y).2.2.1:Int),.bool false,.slice none 0 0,.slice none 0 0,.int .i64 (tc (wt y):Int),.bool (ti (wt y)),.int .u64 0,.slice none 0 0,.slice none 0 0] 54)).drew.alloc (.cells #[.int .i64 (q3o x.1 y.1),.int .i64 (q3o x.2.1 y.2.1),.int .i64 (q3o x.2.2.1 y.2.2.1)] 3):=by
 have hb0:Below w.heap.size w ((w.alloc (.cells #[.int .i64 ((x).1:Int),.int .i64 ((x).2.1:Int),.int .i64 ((x).2.2.1:Int),.bool false,.slice none 0 0,.slice none 0 0,.int .i64 (tc (wt x):Int),.bool (ti (wt x)),.int .u64 0,.slice none 0 0,.slice none 0 0] 54)).alloc (.cells #[.int .i64 ((y).1:Int),.int .i64 ((y).2.1:Int),.int .i64 ((y).2.2.1:Int),.bool false,.slice none 0 0,.slice none 0 0,.int .i64 (tc (wt y):Int),.bool (ti (wt y)),.int .u64 0,.slice none 0 0,.slice none 0 0] 54)):=qQ (qJ _) (qJ _)
 have hA:=(Bl.fresh w [.int .i64 ((x).1:Int),.int .i64 ((x).2.1:Int),.int .i64 ((x).2.2.1:Int),.bool false,.slice none 0 0,.slice none 0 0,.int .i64 (tc (wt x):Int),.bool (ti (wt x)),.int .u64 0,.slice none 0 0,.slice none 0 0] 54).new (.cells #[.int .i64 ((y).1:Int),.int .i64 ((y).2.1:Int),.int .i64 ((y).2.2.1:Int),.bool false,.slice none 0 0,.slice none 0 0,.int .i64 (tc (wt y):Int),.bool (ti (wt y)),.int .u64 0,.slice none 0 0,.slice none 0 0] 54)
 have hB:=Bl.fresh' (G:=w.heap.size+1) (w.alloc (.cells #[.int .i64 ((x).1:Int),.int .i64 ((x).2.1:Int),.int .i64 ((x).2.2.1:Int),.bool false,.slice none 0 0,.slice none 0 0,.int .i64 (tc (wt x):Int),.bool (ti (wt x)),.int .u64 0,.slice none 0 0,.slice none 0 0] 54)) [.int .i64 ((y).1:Int),.int .i64 ((y).2.1:Int),.int .i64 ((y).2.2.1:Int),.bool false,.slice none 0 0,.slice none 0 0,.int .i64 (tc (wt y):Int),.bool (ti (wt y)),.int .u64 0,.slice none 0 0,.slice none 0 0] 54 (by simp)
 go_enter Tryz.func170,Tryz.ntmps170
 go_upto_region 1 with fail
 obtain ⟨W1,hW1⟩:∃ W1,W1=((w.alloc (.cells #[.int .i64 ((x).1:Int),.int .i64 ((x).2.1:Int),.int .i64 ((x).2.2.1:Int),.bool false,.slice none 0 0,.slice none 0 0,.int .i64 (tc (wt x):Int),.bool (ti (wt x)),.int .u64 0,.slice none 0 0,.slice none 0 0] 54)).alloc (.cells #[.int .i64 ((y).1:Int),.int .i64 ((y).2.1:Int),.int .i64 ((y).2.2.1:Int),.bool false,.slice none 0 0,.slice none 0 0,.int .i64 (tc (wt y):Int),.bool (ti (wt y)),.int .u64 0,.slice none 0 0,.slice none 0 0] 54)):=⟨_,rfl⟩
 rw [<-hW1] at hb0 hA hB
 rw [<-hW1]
 have HW:=hid hW1
 clear hW1
 have hdr:=(Below.refl W1.heap.size W1).drew
 have hS:C3w w.heap.size (.int .i64 (x.1:Int)) (.int .i64 (x.2.1:Int)) (.int .i64 (x.2.2.1:Int)) W1.drew/\C3w (w.heap.size+1) (.int .i64 (y.1:Int)) (.int .i64 (y.2.1:Int)) (.int .i64 (y.2.2.1:Int)) W1.drew:=⟨C3w.next hA.three hdr,C3w.next hB.three hdr⟩
 have hb1:=qQ hb0 hdr
 clear hA hB hb0 hdr
 refine qV (fun w'=>C3w w.heap.size (.int .i64 (x.1:Int)) (.int .i64 (x.2.1:Int)) (.int .i64 (x.2.2.1:Int)) w'/\C3w (w.heap.size+1) (.int .i64 (y.1:Int)) (.int .i64 (y.2.1:Int)) (.int .i64 (y.2.2.1:Int)) w') [17] (by kernel_rfl) ?_
 refine wCp 0 rfl hS ?_
 refine wCl 1 (v:=?_) rfl ?_ hS ?_
 rotate_left
 ·intro w hw; obtain ⟨⟨a0,a1,a2⟩,b0,b1,b2⟩:=hw; first | (go_simp; done) | (go_simp; with_reducible rfl)
 refine wCp 2 rfl hS ?_
 refine wCl 3 (v:=?_) rfl ?_ hS ?_
 rotate_left
 ·intro w hw; obtain ⟨⟨a0,a1,a2⟩,b0,b1,b2⟩:=hw; first | (go_simp; done) | (go_simp; with_reducible rfl)
 refine wCp 5 rfl hS ?_
 refine wCl 6 (v:=?_) rfl ?_ hS ?_
 rotate_left
 ·intro w hw; obtain ⟨⟨a0,a1,a2⟩,b0,b1,b2⟩:=hw; first | (go_simp; done) | (go_simp; with_reducible rfl)
 refine wCp 7 rfl hS ?_
 refine wCl 8 (v:=?_) rfl ?_ hS ?_
 rotate_left
 ·intro w hw; obtain ⟨⟨a0,a1,a2⟩,b0,b1,b2⟩:=hw; first | (go_simp; done) | (go_simp; with_reducible rfl)
 refine wCp 10 rfl hS ?_
 refine wCl 11 (v:=?_) rfl ?_ hS ?_
 rotate_left
 ·intro w hw; obtain ⟨⟨a0,a1,a2⟩,b0,b1,b2⟩:=hw; first | (go_simp; done) | (go_simp; with_reducible rfl)
 refine wCp 12 rfl hS ?_
 refine wCl 13 (v:=?_) rfl ?_ hS ?_
 rotate_left
 ·intro w hw; obtain ⟨⟨a0,a1,a2⟩,b0,b1,b2⟩:=hw; first | (go_simp; done) | (go_simp; with_reducible rfl)
 refine wpO (i:=4) rfl fun KK hKK=>?_
 go_simp
 go_at_call 246
 refine (q1i (x.1) (y.1) _).mono ?_; rintro e w4 ⟨rfl,rfl⟩
 try go_simp
 refine hKK _ _ ⟨fun _=>hS,?_⟩; clear hKK KK
 refine wpO (i:=9) rfl fun KK hKK=>?_
 go_simp
 go_at_call 246
 refine (q1i (x.2.1) (y.2.1) _).mono ?_; rintro e w9 ⟨rfl,rfl⟩
 try go_simp
 refine hKK _ _ ⟨fun _=>hS,?_⟩; clear hKK KK
 refine wpO (i:=14) rfl fun KK hKK=>?_
 go_simp
 go_at_call 246
 refine (q1i (x.2.2.1) (y.2.2.1) _).mono ?_; rintro e w14 ⟨rfl,rfl⟩
 try go_simp
 refine hKK _ _ ⟨fun _=>hS,?_⟩; clear hKK KK
 refine wpO (i:=15) rfl fun KK hKK=>?_
 have hbN:Below W1.drew.heap.size W1.drew (W1.drew.alloc (.cells #[.int .i64 (q3o x.1 y.1),.int .i64 (q3o x.2.1 y.2.1),.int .i64 (q3o x.2.2.1 y.2.2.1)] 3)):=qJ _
 have hnew:=Cs.fresh W1.drew [.int .i64 (q3o x.1 y.1),.int .i64 (q3o x.2.1 y.2.1),.int .i64 (q3o x.2.2.1 y.2.2.1)] 3
 have hb2:=qQ hb1 hbN
 go_simp
 refine hKK _ _ ⟨fun _=>⟨C3w.next hS.1 hbN,C3w.next hS.2 hbN⟩,?_⟩; clear hKK KK
 refine wpO (i:=16) rfl fun KK hKK=>?_
 go_simp
 go_at_call 245
 refine (j9i (ky x) (ky y) _ _ hnew).mono ?_; rintro e w5 ⟨rfl,rfl⟩
 try go_simp
 refine hKK _ _ ⟨fun _=>⟨C3w.next hS.1 hbN,C3w.next hS.2 hbN⟩,?_⟩; clear hKK KK
 refine wpO (i:=17) rfl fun KK hKK=>?_
 go_simp
 refine lN hKK ?_; clear hKK KK
 refine qZ (by kernel_rfl) ?_ _
 go_simp
 go_wp2_with fail
 go_ret
 exact ⟨rfl,by rw [HW.out]; rfl⟩
theorem q4s (x y:Ac) (w:World):Calls Tryz.prog 170 #[.agg #[.int .i64 ((x).1:Int),.int .i64 ((x).2.1:Int),.int .i64 ((x).2.2.1:Int),.bool false,.slice none 0 0,.slice none 0 0,.int .i64 (tc (wt x):Int),.bool (ti (wt x)),.int .u64 0,.slice none 0 0,.slice none 0 0],.agg #[.int .i64 ((y).1:Int),.int .i64 ((y).2.1:Int),.int .i64 ((y).2.2.1:Int),.bool false,.slice none 0 0,.slice none 0 0,.int .i64 (tc (wt y):Int),.bool (ti (wt y)),.int .u64 0,.slice none 0 0,.slice none 0 0]] w fun e w'=>e=.returned (.int .i64 (j2l (ky x) (ky y)))/\Below w.heap.size w w' :=
 (q5w x y w).mono (by rintro e w' ⟨rfl,rfl⟩; exact ⟨rfl,qQ (qQ (qQ (qJ _) (qJ _)) (Below.refl _ _).drew) (qJ _)⟩)
end
section
open Go.RowKit
theorem q9d (w:World):Calls Tryz.prog 167 #[.slice none 0 0] w fun e w'=>e=.returned (.slice none 0 0)/\w=w':=by
 go_enter Tryz.func167,Tryz.ntmps167
 have hq:∀ W,Sem.run Tryz.prog (binOp .eql 22 (.slice none 0 0) (.slice none 0 0)) W=.ok (.bool true) W:=fun W=>by kernel_rfl
 go_wp2_with fail
 go_ret
 exact ⟨rfl,rfl⟩
theorem q5c (v u:Tw) (w:World):Calls Tryz.prog 92 #[.agg #[.bool false,.slice none 0 0,.slice none 0 0,.int .i64 (tc (v):Int),.bool (ti (v)),.int .u64 0,.slice none 0 0,.slice none 0 0],.agg #[.bool false,.slice none 0 0,.slice none 0 0,.int .i64 (tc (u):Int),.bool (ti (u)),.int .u64 0,.slice none 0 0,.slice none 0 0]] w fun e w'=>e=.returned (.bool (decide (v=u)))/\Below w.heap.size w w' :=
 (q6d (tc v) (tc u) (ti v) (ti u) w).mono (by rintro e w' ⟨rfl,hb⟩; exact ⟨by rw [decide_eq_decide.2 ⟨fun h=>z0z h.1 h.2,fun h=>by rw [h]; exact ⟨rfl,rfl⟩⟩],hb⟩)
theorem q8o (v:Tw) (w:World):Calls Tryz.prog 173 #[.agg #[.int .i64 2,.slice none 0 0],.agg #[.bool false,.slice none 0 0,.slice none 0 0,.int .i64 (tc (v):Int),.bool (ti (v)),.int .u64 0,.slice none 0 0,.slice none 0 0]] w fun e w'=>e=.returned (.bool (decide (v=none)))/\Below w.heap.size w w':=by
 obtain ⟨hb0,hA,hB⟩:=vP w (tc (v):Int) (ti (v))
 go_enter Tryz.func173,Tryz.ntmps173
 go_upto_region 1 with fail
 generalize ((w.alloc (.cells #[.int .i64 2,.slice none 0 0] 26)).alloc (.cells #[.bool false,.slice none 0 0,.slice none 0 0,.int .i64 (tc (v):Int),.bool (ti (v)),.int .u64 0,.slice none 0 0,.slice none 0 0] 45))=W1 at *
 have hdr:=(Below.refl W1.heap.size W1).drew
 have hS:C2w w.heap.size (.int .i64 2) (.slice none 0 0) W1.drew/\C8w (w.heap.size+1) (.bool false) (.slice none 0 0) (.slice none 0 0) (.int .i64 (tc (v):Int)) (.bool (ti (v))) (.int .u64 0) (.slice none 0 0) (.slice none 0 0) W1.drew:=⟨C2w.next hA.two hdr,C8w.next hB.eight hdr⟩
 have hb1:=qQ hb0 hdr
 clear hA hB hb0 hdr
 refine qV (fun w'=>C2w w.heap.size (.int .i64 2) (.slice none 0 0) w'/\C8w (w.heap.size+1) (.bool false) (.slice none 0 0) (.slice none 0 0) (.int .i64 (tc (v):Int)) (.bool (ti (v))) (.int .u64 0) (.slice none 0 0) (.slice none 0 0) w') [4] (by kernel_rfl) ?_
 refine wCl 0 (v:=?_) rfl ?_ hS ?_
 rotate_left
 ·intro w hw; obtain ⟨⟨a0,a1⟩,⟨b0,b1,b2,b3⟩,b4,b5,b6,b7⟩:=hw; first | (go_simp; done) | (go_simp; with_reducible rfl)
 refine wCl 1 (v:=?_) rfl ?_ hS ?_
 rotate_left
 ·intro w hw; obtain ⟨⟨a0,a1⟩,⟨b0,b1,b2,b3⟩,b4,b5,b6,b7⟩:=hw; first | (go_simp; done) | (go_simp; with_reducible rfl)
 refine wpO (i:=2) rfl fun KK hKK=>?_
 go_simp
 go_at_call 76
 refine (vB _).mono ?_; rintro e w2 ⟨rfl,hb2⟩
 try go_simp
 refine hKK _ _ ⟨fun _=>⟨C2w.next hS.1 hb2,C8w.next hS.2 hb2⟩,?_⟩; clear hKK KK
 refine wpO (i:=3) rfl fun KK hKK=>?_
 go_simp
 go_at_call 92
 refine (q5c v none _).mono ?_; rintro e w3 ⟨rfl,hb3⟩
 try go_simp
 refine hKK _ _ ⟨fun _=>⟨C2w.next (C2w.next hS.1 hb2) hb3,C8w.next (C8w.next hS.2 hb2) hb3⟩,?_⟩; clear hKK KK
 refine wpO (i:=4) rfl fun KK hKK=>?_
 go_simp
 refine lN hKK ?_; clear hKK KK
 refine qZ (by kernel_rfl) ?_ _
 go_simp
 go_wp2_with fail
 go_ret
 exact ⟨rfl,qQ (qQ hb1 hb2) hb3⟩
theorem q7x (x:Ac) (G:Nat) (w:World) (hG:Bl G [.int .i64 2,.slice none 0 0] 26 w):Calls Tryz.prog 172 #[.agg #[.int .i64 ((x).1:Int),.int .i64 ((x).2.1:Int),.int .i64 ((x).2.2.1:Int),.bool false,.slice none 0 0,.slice none 0 0,.int .i64 (tc (wt x):Int),.bool (ti (wt x)),.int .u64 0,.slice none 0 0,.slice none 0 0],.pointer (some ⟨G,0,none⟩)] w fun e w'=>e=.returned (.bool (decide (wt x=none)))/\Below w.heap.size w w':=by
 have hb0:Below w.heap.size w (w.alloc (.cells #[.int .i64 ((x).1:Int),.int .i64 ((x).2.1:Int),.int .i64 ((x).2.2.1:Int),.bool false,.slice none 0 0,.slice none 0 0,.int .i64 (tc (wt x):Int),.bool (ti (wt x)),.int .u64 0,.slice none 0 0,.slice none 0 0] 54)):=qJ _
 have hA:=Bl.fresh w [.int .i64 ((x).1:Int),.int .i64 ((x).2.1:Int),.int .i64 ((x).2.2.1:Int),.bool false,.slice none 0 0,.slice none 0 0,.int .i64 (tc (wt x):Int),.bool (ti (wt x)),.int .u64 0,.slice none 0 0,.slice none 0 0] 54
 have hB:=hG.new (.cells #[.int .i64 ((x).1:Int),.int .i64 ((x).2.1:Int),.int .i64 ((x).2.2.1:Int),.bool false,.slice none 0 0,.slice none 0 0,.int .i64 (tc (wt x):Int),.bool (ti (wt x)),.int .u64 0,.slice none 0 0,.slice none 0 0] 54)
 obtain ⟨⟨x0,x1,x2,x3⟩,⟨x4,x5,x6,x7⟩,x8,x9,x10⟩:=hA.eleven
 obtain ⟨a0,a1⟩:=hB.two
 clear hA hB
 go_enter Tryz.func172,Tryz.ntmps172
 go_wp2_with fail
 refine (q8o (wt x) _).mono ?_; rintro e w1 ⟨rfl,hb1⟩
 go_wp2_with fail
 go_ret
 exact ⟨rfl,qQ hb0 hb1⟩
theorem j3h {B G:Nat} {v w:World} (h:Below B v w) (hG:B<=G) (a b:Value):Below B v ((w.setCell ⟨G,0,none⟩ a).setCell ⟨G,1,none⟩ b):=(h.setCell (p:=⟨G,0,none⟩) hG a).setCell (p:=⟨G,1,none⟩) hG b
theorem Bl.put2 {G:Nat} {a b:Value} {T:TypeId} {w:World} (h:Bl G [a,b] T w) (a' b':Value):Bl G [a',b'] T ((w.setCell ⟨G,0,none⟩ a').setCell ⟨G,1,none⟩ b'):=(h.put 0 a').put 1 b'
theorem j5j (w:World):Calls Tryz.prog 129 #[.agg #[.int .i64 2,.slice none 0 0]] w fun e w'=>e=.returned (.agg #[.int .i64 2,.slice none 0 0])/\Below w.heap.size w w':=by
 have hb0:Below w.heap.size w ((w.alloc (.cells #[.int .i64 2,.slice none 0 0] 26)).alloc (.cells #[.int .i64 0,.slice none 0 0] 26)):=qQ (qJ _) (qJ _)
 have hA:=(Bl.fresh w [.int .i64 2,.slice none 0 0] 26).new (.cells #[.int .i64 0,.slice none 0 0] 26)
 have hB:=Bl.fresh' (G:=w.heap.size+1) (w.alloc (.cells #[.int .i64 2,.slice none 0 0] 26)) [.int .i64 0,.slice none 0 0] 26 (by simp)
 go_enter Tryz.func129,Tryz.ntmps129
 go_upto_region 1 with fail
 generalize ((w.alloc (.cells #[.int .i64 2,.slice none 0 0] 26)).alloc (.cells #[.int .i64 0,.slice none 0 0] 26))=W1 at *
 have hdr:=(Below.refl W1.heap.size W1).drew
 have hS:C2w w.heap.size (.int .i64 2) (.slice none 0 0) W1.drew:=C2w.next hA.two hdr
 have hb1:=qQ hb0 hdr
 have hB1:=hB.put 0 (.int .i64 2)
 have hB3:=hB.put2 (.int .i64 2) (.slice none 0 0)
 have hb2:=(j3h hb0 (show w.heap.size<=w.heap.size+1 by omega) (.int .i64 2) (.slice none 0 0)).drew
 have o0:=hB.two.1
 have o1:=hB.two.2
 have f0:=hB.free 0
 have f1:=hB.free 1
 clear hA hB hb0 hdr
 refine qV (fun w'=>C2w w.heap.size (.int .i64 2) (.slice none 0 0) w') [6] (by kernel_rfl) ?_
 refine wCp 0 rfl hS ?_
 refine wCl 1 (v:=?_) rfl ?_ hS ?_
 rotate_left
 ·intro w hw; obtain ⟨a0,a1⟩:=hw; first | (go_simp; done) | (go_simp; with_reducible rfl)
 refine wCp 2 rfl hS ?_
 refine wCl 3 (v:=?_) rfl ?_ hS ?_
 rotate_left
 ·intro w hw; obtain ⟨a0,a1⟩:=hw; first | (go_simp; done) | (go_simp; with_reducible rfl)
 refine wpO (i:=4) rfl fun KK hKK=>?_
 go_simp
 go_at_call 167
 refine (q9d _).mono ?_; rintro e w2 ⟨rfl,rfl⟩
 try go_simp
 refine hKK _ _ ⟨fun _=>hS,?_⟩; clear hKK KK
 refine wCp 5 rfl hS ?_
 refine wpO (i:=6) rfl fun KK hKK=>?_
 go_simp
 refine lN hKK ?_; clear hKK KK
 refine qZ (by kernel_rfl) ?_ _
 go_simp
 obtain ⟨e0,e1⟩:=hB3.two
 have e2:(W1.setCell ⟨w.heap.size+1,0,none⟩ (.int .i64 2)).cell? ⟨w.heap.size+1,0,none⟩=some (.int .i64 2):=hB1.cell rfl
 go_wp2_with fail
 refine bodyPost_ret (v:=.agg #[.int .i64 2,.slice none 0 0]) (by simp [results,Tryz.results129,go_sem,e0,e1,e2]) rfl ?_
 exact ⟨rfl,hb2⟩
end
section
open Go.RowKit
theorem q2c {P:Program} {w:World} {ops:Array Oper} {rest:List Oper} {o:Oper} {a:Act} {Q:EP} (hgd:o.guard=none) (s x:Operand) (t:TypeId)
  (ho:o.op=.call { callee:=.builtin .append,args:=#[s,x],argTypes:=#[t,t] }) (e:TypeId) (z:Value) (k bytes:Nat) (ht:P.underlying t=some (.slice e))
  (hinfo:(P.info? e).map (fun i=>(i.zero,i.size,i.bytes))=some (some z,k,bytes)) (hzs:z.cells.size=k) (hk:0<k)
  (base:Nat) (v:Value) (css:List (List Value)) (hs:a.eval s=v) (hown:FO e k w base v css)
  (ad:Addr) (m c:Nat) (new:List (List Value)) (hx:a.eval x=.slice (some ad) m c) (hfl:Fl k w (some ad) m c new) (hnk:∀ cs∈new,cs.length=k) (h1:∀ cs∈new,∀ u∈cs,u.oneCell'=true)
  (hroom:(css.length+m)*bytes<=140737488355328) (hml:css.length+m<=9223372036854775807) (hbase:base<=w.heap.size)
  (h:∀ v' w',FO e k w' base v' (css++new)->w.grownBy w' v.ownBlock->Below base w w'->wpList P ops Q rest (a.put o.dst v') w'):wpList P ops Q (o::rest) a w:=by
 obtain ⟨i,hi,hz,hsz,hby⟩:=info_parts hinfo
 obtain ⟨hown1,hown2⟩:=hown
 have hm:=hfl.len
 have hl:new.flatten.length=m*k:=by rw [vS hnk,hm]
 obtain ⟨v',w',hr,ho',hg,_⟩:=run_append_own (P:=P) w base t o.type e i z k bytes ht hi hz hsz hby hzs hk v css.length css.flatten hown1 ad m c new.flatten hl (fun j u hj=>by
  have hjl:=(List.getElem?_eq_some_iff.1 hj).1
  have hjk:j<m*k:=by omega
  have hq:j/k<m:=(Nat.div_lt_iff_lt_mul hk).2 hjk
  have hq':j/k<new.length:=by omega
  obtain ⟨b,o,e1,hc⟩:=hfl.at_ (j/k) _ (List.getElem?_eq_getElem hq')
  have hcl:(new[j/k]).length=k:=hnk _ (List.getElem_mem hq')
  have hr:j%k<(new[j/k]).length:=by rw [hcl]; exact Nat.mod_lt _ hk
  have hcell:=hc (j%k) _ (List.getElem?_eq_getElem hr)
  have hf:=q2r hnk (List.getElem?_eq_getElem hq') (List.getElem?_eq_getElem hr)
  have hj2:j/k*k+j%k=j:=by rw [Nat.mul_comm]; exact Nat.div_add_mod j k
  rw [hj2,hj] at hf
  injection e1 with e1
  subst e1
  rw [Addr.add_lit,show o+j=o+j/k*k+j%k by rw [Nat.add_assoc,hj2]]
  rw [hcell]
  exact hf.symm) (fun u hu=>by
  obtain ⟨cs,hcs,hu⟩:=List.mem_flatten.1 hu
  exact h1 cs hcs u hu) (by unfold maxLen; omega) hroom hbase
 refine wpList_plain hgd fun K' hK=>?_
 unfold Oper.wp execOp
 simp only [ho,resolve,invoke,builtin,Sem.run_bind,Sem.run_pure,Result.andThen_ok,List.map_toArray,List.map_cons,List.map_nil,hs,hx,hr]
 refine hK _ _ (h v' w' ⟨?_,fun cs hcs=>?_⟩ hg ((Below.refl _ _).grown hg hbase (fun k hk=>(hown1.lt k hk).1)))
 ·rw [List.length_append,hm,List.flatten_append]
  exact ho'
 ·rcases List.mem_append.1 hcs with hcs | hcs
  ·exact hown2 cs hcs
  ·exact hnk cs hcs
theorem kK (xs:List Ac):∀ cs∈xs.map acC,∀ u∈cs,u.oneCell'=true:=by
 intro cs hc u hu
 obtain ⟨x,_,rfl⟩:=List.mem_map.1 hc
 simp at hu
 rcases hu with rfl | rfl | rfl | rfl | rfl | rfl | rfl | rfl | rfl<;>rfl
theorem vU (xs:List Ac):∀ cs∈xs.map acC,cs.length=11:=by
 intro cs hc
 obtain ⟨x,_,rfl⟩:=List.mem_map.1 hc
 rfl
theorem Tryz.infoArc:(Tryz.prog.info? 54).map (fun i=>(i.zero,i.size,i.bytes))=some (some (.agg #[.int .i64 0,.int .i64 0,.int .i64 0,.bool false,.slice none 0 0,.slice none 0 0,.int .i64 0,.bool false,.int .u64 0,.slice none 0 0,.slice none 0 0]),11,152):=by kernel_rfl
theorem FO.lit (e:TypeId) (k:Nat) (w:World):FO e k (w.alloc (.cells #[] e)) w.heap.size (.slice (some ⟨w.heap.size,0,none⟩) 0 0) [] :=
 ⟨World.ownsRow_lit w #[] 0 (Nat.le_refl _) (by decide) (by simp),fun cs h=>by cases h⟩
theorem q9e (xs:List Ac) (ao:OA) (n cap:Nat) (hn:n<=4096) (w:World) (h:Fl 11 w ao n cap (xs.map acC)) :
  Calls Tryz.prog 168 #[.slice ao n cap] w fun e w'=>(∃ v,e=.returned v/\FO 54 11 w' w.heap.size v (xs.map acC))/\Below w.heap.size w w':=by
 have hnil:=fun w=>Lib.run_eql_slice_nil (P:=Tryz.prog) w 28 54 ao n cap 0 0 Tryz.underlying28
 cases ao with
 | none =>
  have hn0:n=0:=by have h1:=h.nil rfl; have h2:=h.le; omega
  subst hn0
  have hT:xs=[]:=List.eq_nil_of_length_eq_zero h.lenMap
  subst hT
  go_enter Tryz.func168,Tryz.ntmps168
  go_wp2_with fail
  go_ret
  exact ⟨⟨_,rfl,FO.nil _ _ _ _⟩,Below.refl _ _⟩
 | some ad =>
  go_enter Tryz.func168,Tryz.ntmps168
  go_wp2_with (at_builtin; refine q2c rfl (.tmp 5) (.tmp 6) 28 rfl 54 _ 11 152 Tryz.underlying28 Tryz.infoArc rfl (by decide) w.heap.size _ [] rfl (FO.lit _ _ w) ad n cap (xs.map acC) rfl (h.next (qJ _)) (vU xs) (kK xs) (by
   simp; omega) (by simp; omega) (by simp) ?_)
  intro v' w' hown _ hb
  go_wp2_with fail
  go_ret
  exact ⟨⟨_,rfl,hown⟩,(qJ _).trans hb⟩
end
section
open Go.RowKit
def Srt (i j:Nat) (L:List Ac):Prop:=∀ p q x y,p<q->q<=i->q≠j->L[p]? = some x->L[q]? = some y->¬ klt (ky y) (ky x)
def Sr (i:Nat) (L:List Ac):Prop:=∀ p q x y,p<q->q<i->L[p]? = some x->L[q]? = some y->¬ klt (ky y) (ky x)
theorem Sr.enter {i:Nat} {L:List Ac} (h:Sr i L):Srt i i L:=fun p q x y hp hq hn hx hy=>h p q x y hp (by omega) hx hy
theorem j3n {x y z:Ky} (h:¬ klt y x) (k:¬ klt z y):¬ klt z x:=by unfold klt at *; omega
theorem Srt.leave {i j:Nat} {L:List Ac} {x y:Ac} (h:Srt i (j+1) L) (hj:j+1<=i) (hx:L[j]? = some x) (hy:L[j+1]? = some y) (hk:¬ klt (ky y) (ky x)):Sr (i+1) L:=fun p q a b hp hq ha hb=>by
 by_cases hq1:q=j+1
 ·subst hq1
  rw [hy] at hb
  obtain rfl:y=b:=by simpa using hb
  by_cases hpj:p=j
  ·subst hpj
   rw [hx] at ha
   obtain rfl:x=a:=by simpa using ha
   exact hk
  ·exact j3n (h p j a x (by omega) (by omega) (by omega) ha hx) hk
 ·exact h p q a b hp (by omega) hq1 ha hb
theorem Sr.one (L:List Ac):Sr 1 L:=fun p q x y hp hq _ _=>by omega
section
variable {e:TypeId} {k base g n cap i:Nat} {w:World} {css:List (List Value)}
theorem FO.free (h:FO e k w base (.slice (some ⟨g,0,none⟩) n cap) css) (j:Nat):w.frozen? ⟨g,j,none⟩=false:=by
 have hn:n=css.length:=by
  rcases h.1.2 with ⟨hv,_⟩ | ⟨g',cap',cur,hv,_⟩
  ·cases hv
  ·injection hv
 subst hn
 exact h.1.frozenAt j
end
end
end Go.Proofs.YtnapapijhhldpaaGreatDoor

/-
  Texts joined by program: Twh, Twi, Twj. No condition of its own.
-/
import Derived.Test.YtnapapijhhldpaaGreatDoorJcAE
namespace Go.Proofs.YtnapapijhhldpaaGreatDoor
set_option linter.unusedSimpArgs false
set_option linter.unusedVariables false
section
open Go.RowKit
def ArcOk (st syms:Nat) (x:Ac):Prop:=x.1<st∧x.2.2.1<st∧x.2.1≤syms∧TwOk (wt x)
theorem inside1_any (q st syms:Nat) (hq:q<st) (io fo ro:Option Addr) (ni ci nf cf nr cr:Nat) (G:Nat) (w:World) (hG:Bl G [.int .i64 2,.slice none 0 0,.int .i64 (syms:Int),.int .i64 (st:Int),.slice io ni ci,.slice fo nf cf,.slice ro nr cr] 30 w):Calls Tryz.prog 241 #[.int .i64 (q:Int),.pointer (some ⟨G,0,none⟩)] w fun e w'=>e=.returned (.bool true)∧w=w':=by
 obtain ⟨⟨a0,a1,a2,a3⟩,a4,a5,a6⟩:=hG.seven
 have c1:decide ((0:Int)≤(q:Int))=true:=decide_eq_true (by omega)
 have c2:decide ((q:Int)<(st:Int))=true:=decide_eq_true (by omega)
 have c3:(0:Int)≤(q:Int):=by omega
 have c4:(q:Int)<(st:Int):=by omega
 go_enter Tryz.func241,Tryz.ntmps241
 go_wp2_with fail
 go_ret
 exact ⟨rfl,rfl⟩
set_option maxHeartbeats 1000000 in
theorem inside_any (x:Ac) (st syms:Nat) (hx:ArcOk st syms x) (io fo ro:Option Addr) (ni ci nf cf nr cr:Nat) (w:World):Calls Tryz.prog 165 #[.agg #[.int .i64 ((x).1:Int),.int .i64 ((x).2.1:Int),.int .i64 ((x).2.2.1:Int),.bool false,.slice none 0 0,.slice none 0 0,.int .i64 (tc (wt x):Int),.bool (ti (wt x)),.int .u64 0,.slice none 0 0,.slice none 0 0],.agg #[.int .i64 2,.slice none 0 0,.int .i64 (syms:Int),.int .i64 (st:Int),.slice io ni ci,.slice fo nf cf,.slice ro nr cr]] w fun e w'=>e=.returned (.bool true)∧Below w.heap.size w w':=by
 have hb0:Below w.heap.size w ((w.alloc (.cells #[.int .i64 ((x).1:Int),.int .i64 ((x).2.1:Int),.int .i64 ((x).2.2.1:Int),.bool false,.slice none 0 0,.slice none 0 0,.int .i64 (tc (wt x):Int),.bool (ti (wt x)),.int .u64 0,.slice none 0 0,.slice none 0 0] 54)).alloc (.cells #[.int .i64 2,.slice none 0 0,.int .i64 (syms:Int),.int .i64 (st:Int),.slice io ni ci,.slice fo nf cf,.slice ro nr cr] 30)):=below_chain (below_alloc _) (below_alloc _)
 have hA:=(Bl.fresh w [.int .i64 ((x).1:Int),.int .i64 ((x).2.1:Int),.int .i64 ((x).2.2.1:Int),.bool false,.slice none 0 0,.slice none 0 0,.int .i64 (tc (wt x):Int),.bool (ti (wt x)),.int .u64 0,.slice none 0 0,.slice none 0 0] 54).new (.cells #[.int .i64 2,.slice none 0 0,.int .i64 (syms:Int),.int .i64 (st:Int),.slice io ni ci,.slice fo nf cf,.slice ro nr cr] 30)
 have hB:=Bl.fresh' (G:=w.heap.size+1) (w.alloc (.cells #[.int .i64 ((x).1:Int),.int .i64 ((x).2.1:Int),.int .i64 ((x).2.2.1:Int),.bool false,.slice none 0 0,.slice none 0 0,.int .i64 (tc (wt x):Int),.bool (ti (wt x)),.int .u64 0,.slice none 0 0,.slice none 0 0] 54)) [.int .i64 2,.slice none 0 0,.int .i64 (syms:Int),.int .i64 (st:Int),.slice io ni ci,.slice fo nf cf,.slice ro nr cr] 30 (by simp)
 obtain ⟨h1,h2,h3,h4⟩:=hx
 have c1:decide ((0:Int)≤(x.2.1:Int))=true:=decide_eq_true (by omega)
 have c2:decide ((x.2.1:Int)≤(syms:Int))=true:=decide_eq_true (by omega)
 have c3:(0:Int)≤(x.2.1:Int):=by omega
 have c4:(x.2.1:Int)≤(syms:Int):=by omega
 go_enter Tryz.func165,Tryz.ntmps165
 go_upto_region 2 with fail
 generalize ((w.alloc (.cells #[.int .i64 ((x).1:Int),.int .i64 ((x).2.1:Int),.int .i64 ((x).2.2.1:Int),.bool false,.slice none 0 0,.slice none 0 0,.int .i64 (tc (wt x):Int),.bool (ti (wt x)),.int .u64 0,.slice none 0 0,.slice none 0 0] 54)).alloc (.cells #[.int .i64 2,.slice none 0 0,.int .i64 (syms:Int),.int .i64 (st:Int),.slice io ni ci,.slice fo nf cf,.slice ro nr cr] 30))=W0 at *
 obtain ⟨⟨x0,x1,x2,x3⟩,⟨x4,x5,x6,x7⟩,x8,x9,x10⟩:=hA.eleven
 obtain ⟨⟨a0,a1,a2,a3⟩,a4,a5,a6⟩:=hB.seven
 go_wp2_with fail
 refine (inside1_any x.1 st syms h1 io fo ro ni ci nf cf nr cr _ _ hB).mono ?_; rintro e w1 ⟨rfl,rfl⟩
 go_wp2_with fail
 refine (inside1_any x.2.2.1 st syms h2 io fo ro ni ci nf cf nr cr _ _ hB).mono ?_; rintro e w1 ⟨rfl,rfl⟩
 go_wp2_with fail
 refine (checkTw_any _ h4 _).mono ?_; rintro e w1 ⟨rfl,hb1⟩
 go_wp2_with fail
 go_ret
 exact ⟨rfl,below_chain hb0 hb1⟩
theorem Cs.eleven {w:World} {b o:Nat} {z0 z1 z2 a0 a1 a2 a3 a4 a5 a6 a7:Value} (h:Cs w b o [z0,z1,z2,a0,a1,a2,a3,a4,a5,a6,a7]) :
  (w.cell? ⟨b,o,none⟩=some z0∧w.cell? ⟨b,o+1,none⟩=some z1∧w.cell? ⟨b,o+2,none⟩=some z2∧w.cell? ⟨b,o+3,none⟩=some a0)∧(w.cell? ⟨b,o+4,none⟩=some a1∧w.cell? ⟨b,o+5,none⟩=some a2∧w.cell? ⟨b,o+6,none⟩=some a3∧w.cell? ⟨b,o+7,none⟩=some a4)∧w.cell? ⟨b,o+8,none⟩=some a5∧w.cell? ⟨b,o+9,none⟩=some a6∧w.cell? ⟨b,o+10,none⟩=some a7 :=
 ⟨⟨h 0 _ rfl,h 1 _ rfl,h 2 _ rfl,h 3 _ rfl⟩,⟨h 4 _ rfl,h 5 _ rfl,h 6 _ rfl,h 7 _ rfl⟩,h 8 _ rfl,h 9 _ rfl,h 10 _ rfl⟩
theorem valid1_any (x:Ac) (st syms:Nat) (hx:ArcOk st syms x) (io fo ro:Option Addr) (ni ci nf cf nr cr:Nat) (G:Nat) (w:World) (hG:Bl G [.int .i64 2,.slice none 0 0,.int .i64 (syms:Int),.int .i64 (st:Int),.slice io ni ci,.slice fo nf cf,.slice ro nr cr] 30 w):Calls Tryz.prog 164 #[.agg #[.int .i64 ((x).1:Int),.int .i64 ((x).2.1:Int),.int .i64 ((x).2.2.1:Int),.bool false,.slice none 0 0,.slice none 0 0,.int .i64 (tc (wt x):Int),.bool (ti (wt x)),.int .u64 0,.slice none 0 0,.slice none 0 0],.pointer (some ⟨G,0,none⟩)] w fun e w'=>e=.returned (.bool false)∧Below w.heap.size w w':=by
 have hb0:Below w.heap.size w (w.alloc (.cells #[.int .i64 ((x).1:Int),.int .i64 ((x).2.1:Int),.int .i64 ((x).2.2.1:Int),.bool false,.slice none 0 0,.slice none 0 0,.int .i64 (tc (wt x):Int),.bool (ti (wt x)),.int .u64 0,.slice none 0 0,.slice none 0 0] 54)):=below_alloc _
 have hA:=Bl.fresh w [.int .i64 ((x).1:Int),.int .i64 ((x).2.1:Int),.int .i64 ((x).2.2.1:Int),.bool false,.slice none 0 0,.slice none 0 0,.int .i64 (tc (wt x):Int),.bool (ti (wt x)),.int .u64 0,.slice none 0 0,.slice none 0 0] 54
 have hB:=hG.new (.cells #[.int .i64 ((x).1:Int),.int .i64 ((x).2.1:Int),.int .i64 ((x).2.2.1:Int),.bool false,.slice none 0 0,.slice none 0 0,.int .i64 (tc (wt x):Int),.bool (ti (wt x)),.int .u64 0,.slice none 0 0,.slice none 0 0] 54)
 obtain ⟨⟨x0,x1,x2,x3⟩,⟨x4,x5,x6,x7⟩,x8,x9,x10⟩:=hA.eleven
 obtain ⟨⟨a0,a1,a2,a3⟩,a4,a5,a6⟩:=hB.seven
 clear hA hB
 go_enter Tryz.func164,Tryz.ntmps164
 go_wp2_with fail
 refine (inside_any x st syms hx io fo ro ni ci nf cf nr cr _).mono ?_; rintro e w1 ⟨rfl,hb1⟩
 go_wp2_with fail
 go_ret
 exact ⟨rfl,below_chain hb0 hb1⟩
set_option maxHeartbeats 1000000 in
theorem indexA_any (xs:List Ac) (st syms:Nat) (hx:∀ x∈xs,ArcOk st syms x) (io fo ro:Option Addr) (ni ci nf cf nr cr:Nat) (G:Nat) (ao:Option Addr) (n cap:Nat) (w:World) (h:Fl 11 w ao n cap (xs.map acC)) (hG:Bl G [.int .i64 2,.slice none 0 0,.int .i64 (syms:Int),.int .i64 (st:Int),.slice io ni ci,.slice fo nf cf,.slice ro nr cr] 30 w) :
  Calls Tryz.prog 143 #[.slice ao n cap,.func (.func 164) #[] #[.pointer (some ⟨G,0,none⟩)]] w fun e w' =>
   e=.returned (.int .i64 (-1))∧Below w.heap.size w w':=by
 have hbd:=h.bound
 have hl:=hid h.lenMap
 go_enter Tryz.func143,Tryz.ntmps143
 go_wp2_with fail
 go_loopw [8] (fun iv wr=>∃ k:Nat,k≤n∧iv=.int .i64 k∧Below w.heap.size w wr) (fun i _=>n-(intOf i).toNat)
 case atStart=>exact ⟨0,by omega,rfl,Below.refl _ _⟩
 case round =>
  obtain ⟨k,hk,rfl,hb⟩:=hrel
  have hf:=h.next hb
  have hGr:=hG.next hb
  by_cases hlt:k<n
  ·obtain ⟨x,hxk,b,off,rfl,hcs⟩:=hf.get hlt
   have hxo:ArcOk st syms x:=hx x (List.mem_of_getElem? hxk)
   obtain ⟨⟨x0,x1,x2,x3⟩,⟨x4,x5,x6,x7⟩,x8,x9,x10⟩:=hcs.eleven
   have hxk:=hid hxk
   go_wp2_with fail
   refine (valid1_any x st syms hxo io fo ro ni ci nf cf nr cr G _ hGr).mono ?_; rintro e w' ⟨rfl,hb'⟩
   go_wp2_with fail
   go_round
   case rel=>exact ⟨k+1,by omega,by go_num,below_chain hb hb'⟩
   case measure=>simp [intOf]; omega
  ·go_wp2_with fail
   go_ret
   exact ⟨rfl,hb⟩
theorem containsA_any (xs:List Ac) (st syms:Nat) (hx:∀ x∈xs,ArcOk st syms x) (io fo ro:Option Addr) (ni ci nf cf nr cr:Nat) (G:Nat) (ao:Option Addr) (n cap:Nat) (w:World) (h:Fl 11 w ao n cap (xs.map acC)) (hG:Bl G [.int .i64 2,.slice none 0 0,.int .i64 (syms:Int),.int .i64 (st:Int),.slice io ni ci,.slice fo nf cf,.slice ro nr cr] 30 w) :
  Calls Tryz.prog 100 #[.slice ao n cap,.func (.func 164) #[] #[.pointer (some ⟨G,0,none⟩)]] w fun e w' =>
   e=.returned (.bool false)∧Below w.heap.size w w':=by
 go_enter Tryz.func100,Tryz.ntmps100
 go_wp2_with fail
 refine (indexA_any xs st syms hx io fo ro ni ci nf cf nr cr G ao n cap w h hG).mono ?_; rintro e w' ⟨rfl,hb'⟩
 go_wp2_with fail
 go_ret
 exact ⟨rfl,hb'⟩
structure Mo (w:World) (syms:Nat) (A:Au) (io:Option Addr) (ci:Nat) (fo:Option Addr) (cf:Nat) (ro:Option Addr) (nr cr:Nat):Prop where
 ini:Fl 8 w io A.st ci (A.ini.map twC)
 fin:Fl 8 w fo A.st cf (A.fin.map twC)
 arcs:Fl 11 w ro nr cr (A.arcs.map acC)
theorem Mo.next {w w':World} {syms:Nat} {A:Au} {io fo ro:Option Addr} {ci cf nr cr:Nat} (h:Mo w syms A io ci fo cf ro nr cr) (hb:Below w.heap.size w w'):Mo w' syms A io ci fo cf ro nr cr :=
 ⟨h.ini.next hb,h.fin.next hb,h.arcs.next hb⟩
structure Vo (syms:Nat) (A:Au):Prop where
 sym:1≤syms∧syms≤32
 st:A.st≤64
 num:A.arcs.length≤2048
 ini:∀ v∈A.ini,TwOk v
 fin:∀ v∈A.fin,TwOk v
 arcs:∀ x∈A.arcs,ArcOk A.st syms x
set_option maxHeartbeats 2000000 in
theorem valid_any (syms:Nat) (A:Au) (hV:Vo syms A) (io:Option Addr) (ci:Nat) (fo:Option Addr) (cf:Nat) (ro:Option Addr) (nr cr:Nat) (w:World) (h:Mo w syms A io ci fo cf ro nr cr) :
  Calls Tryz.prog 128 #[.agg #[.int .i64 2,.slice none 0 0,.int .i64 (syms:Int),.int .i64 (A.st:Int),.slice io A.st ci,.slice fo A.st cf,.slice ro nr cr]] w fun e w'=>e=.returned (.bool true)∧Below w.heap.size w w':=by
 have hb0:Below w.heap.size w (w.alloc (.cells #[.int .i64 2,.slice none 0 0,.int .i64 (syms:Int),.int .i64 (A.st:Int),.slice io A.st ci,.slice fo A.st cf,.slice ro nr cr] 30)):=below_alloc _
 have hB:=Bl.fresh w [.int .i64 2,.slice none 0 0,.int .i64 (syms:Int),.int .i64 (A.st:Int),.slice io A.st ci,.slice fo A.st cf,.slice ro nr cr] 30
 have hm:=h.next hb0
 clear h
 obtain ⟨⟨a0,a1,a2,a3⟩,a4,a5,a6⟩:=hB.seven
 obtain ⟨⟨s1,s2⟩,s3,s4,s5,s6,s7⟩:=hV
 have hnr:=hm.arcs.lenMap
 have bi:=hm.ini.bound
 have bf:=hm.fin.bound
 have br:=hm.arcs.bound
 obtain ⟨st,ini,fin,arcs⟩:=A
 simp only at *
 have c1:decide ((syms:Int)<1)=false:=decide_eq_false (by omega)
 have c2:decide ((32:Int)<(syms:Int))=false:=decide_eq_false (by omega)
 have c3:decide ((st:Int)<0)=false:=decide_eq_false (by omega)
 have c4:decide ((64:Int)<(st:Int))=false:=decide_eq_false (by omega)
 have c5:decide ((2048:Int)<(nr:Int))=false:=decide_eq_false (by omega)
 have d1:¬ ((syms:Int)<1):=by omega
 have d2:¬ ((32:Int)<(syms:Int)):=by omega
 have d3:¬ ((st:Int)<0):=by omega
 have d4:¬ ((64:Int)<(st:Int)):=by omega
 have d5:¬ ((2048:Int)<(nr:Int)):=by omega
 have hm:=hid hm
 go_enter Tryz.func128,Tryz.ntmps128
 go_upto_region 1 with fail
 generalize (w.alloc (.cells #[.int .i64 2,.slice none 0 0,.int .i64 (syms:Int),.int .i64 (st:Int),.slice io st ci,.slice fo st cf,.slice ro nr cr] 30))=W0 at *
 go_wp2_with fail
 refine (validT_any _).mono ?_; rintro e w1 ⟨rfl,hb1⟩
 replace hB:=hB.next hb1
 replace hb0:=below_chain hb0 hb1
 replace hm:=hid (hm.out.next hb1)
 obtain ⟨⟨a0,a1,a2,a3⟩,a4,a5,a6⟩:=hB.seven
 go_wp2_with fail
 refine (containsA_any arcs st syms s7 io fo ro st ci st cf nr cr _ ro nr cr _ hm.out.arcs hB).mono ?_; rintro e w2 ⟨rfl,hb2⟩
 replace hB:=hB.next hb2
 replace hb0:=below_chain hb0 hb2
 replace hm:=hid (hm.out.next hb2)
 clear a0 a1 a2 a3 a4 a5 a6
 obtain ⟨⟨a0,a1,a2,a3⟩,a4,a5,a6⟩:=hB.seven
 go_wp2_with fail
 refine (weights_any ini s5 io st ci _ hm.out.ini).mono ?_; rintro e w3 ⟨rfl,hb3⟩
 replace hB:=hB.next hb3
 replace hb0:=below_chain hb0 hb3
 replace hm:=hid (hm.out.next hb3)
 clear a0 a1 a2 a3 a4 a5 a6
 obtain ⟨⟨a0,a1,a2,a3⟩,a4,a5,a6⟩:=hB.seven
 go_wp2_with fail
 refine (weights_any fin s6 fo st cf _ hm.out.fin).mono ?_; rintro e w4 ⟨rfl,hb4⟩
 go_wp2_with fail
 go_ret
 exact ⟨rfl,below_chain hb0 hb4⟩
end
section
open Go.RowKit
theorem take_map_step {α β:Type} {f:α→β} {xs:List α} {k:Nat} {x:α} (h:xs[k]? = some x):(xs.take (k+1)).map f=(xs.take k).map f++[f x]:=by
 rw [List.take_succ_eq_append_getElem (List.getElem?_eq_some_iff.1 h).1,List.map_append,(List.getElem?_eq_some_iff.1 h).2]; rfl
theorem below_chain' {B:Nat} {a b c:World} (h:Below B a b) (k:Below B b c):Below B a c:=h.trans k
theorem twOk_none:TwOk none:=Nat.zero_le _
set_option maxHeartbeats 2000000 in
theorem copy_any (xs:List Tw) (hx:∀ v∈xs,TwOk v) (ao:Option Addr) (n cap:Nat) (hn:n≤4096) (w:World) (h:Fl 8 w ao n cap (xs.map twC)) :
  Calls Tryz.prog 130 #[.agg #[.int .i64 2,.slice none 0 0],.slice ao n cap] w fun e w'=>(∃ v,e=.returned v∧FO 45 8 w' w.heap.size v (xs.map twC))∧Below w.heap.size w w':=by
 have hb0:Below w.heap.size w (w.alloc (.cells #[.int .i64 2,.slice none 0 0] 26)):=below_alloc _
 have hG:=Bl.fresh w [.int .i64 2,.slice none 0 0] 26
 have hf:=h.next hb0
 have hl:=hid h.lenMap
 clear h
 go_enter Tryz.func130,Tryz.ntmps130
 go_upto_region 1 with fail
 generalize (w.alloc (.cells #[.int .i64 2,.slice none 0 0] 26))=W0 at *
 go_wp2_with fail
 go_loopw [5,10] (fun ov iv wr=>∃ (v:Value) (k:Nat),v=ov∧k≤n∧iv=.int .i64 k∧FO 45 8 wr W0.heap.size v ((xs.take k).map twC)∧Below W0.heap.size W0 wr) (fun _ i _=>n-(intOf i).toNat)
 case atStart=>exact ⟨_,0,rfl,by omega,rfl,FO.nil _ _ _ _,Below.refl _ _⟩
 case round =>
  obtain ⟨v,k,rfl,hk,rfl,hown,hb⟩:=hrel
  have hfr:=hf.next hb
  have hGr:=hG.next hb
  by_cases hlt:k<n
  ·obtain ⟨x,hxk,b,off,rfl,hcs⟩:=hfr.get hlt
   have hxo:TwOk x:=hx x (List.mem_of_getElem? hxk)
   obtain ⟨⟨y0,y1,y2,y3⟩,y4,y5,y6,y7⟩:=hcs.eight
   have hxk:=hid hxk
   have i1:(k:Int)<(n:Int):=by omega
   have i0:(0:Int)≤(k:Int):=by omega
   have hbA:Below wr.heap.size wr (wr.alloc (.cells #[.bool false,.slice none 0 0,.slice none 0 0,.int .i64 (tc (x):Int),.bool (ti (x)),.int .u64 0,.slice none 0 0,.slice none 0 0] 45)):=below_alloc _
   have hA:=Bl.fresh wr [.bool false,.slice none 0 0,.slice none 0 0,.int .i64 (tc (x):Int),.bool (ti (x)),.int .u64 0,.slice none 0 0,.slice none 0 0] 45
   have hG1:=hGr.next hbA
   have hown1:=hown.next hbA
   have hb1:=below_chain hb hbA
   obtain ⟨GA,hGA⟩:∃ GA,wr.heap.size=GA:=⟨_,rfl⟩
   rw [hGA] at hA
   clear hcs hGr hown
   go_upto_region 5 with fail
   generalize (wr.alloc (.cells #[.bool false,.slice none 0 0,.slice none 0 0,.int .i64 (tc (x):Int),.bool (ti (x)),.int .u64 0,.slice none 0 0,.slice none 0 0] 45))=W1 at *
   clear y0 y1 y2 y3 y4 y5 y6 y7
   have hdr:=(Below.refl W1.heap.size W1).drew
   have hS:C2w w.heap.size (.int .i64 2) (.slice none 0 0) W1.drew∧C8w GA (.bool false) (.slice none 0 0) (.slice none 0 0) (.int .i64 (tc (x):Int)) (.bool (ti (x))) (.int .u64 0) (.slice none 0 0) (.slice none 0 0) W1.drew:=⟨C2w.next hG1.two hdr,C8w.next hA.eight hdr⟩
   have hK:∀ w' w'',(C2w w.heap.size (.int .i64 2) (.slice none 0 0) w'∧C8w GA (.bool false) (.slice none 0 0) (.slice none 0 0) (.int .i64 (tc (x):Int)) (.bool (ti (x))) (.int .u64 0) (.slice none 0 0) (.slice none 0 0) w')→Below w'.heap.size w' w''→(C2w w.heap.size (.int .i64 2) (.slice none 0 0) w''∧C8w GA (.bool false) (.slice none 0 0) (.slice none 0 0) (.int .i64 (tc (x):Int)) (.bool (ti (x))) (.int .u64 0) (.slice none 0 0) (.slice none 0 0) w''):=fun w' w'' h hb=>⟨C2w.next h.1 hb,C8w.next h.2 hb⟩
   have hown2:=hown1.next hdr
   have hb2:=below_chain hb1 hdr
   have hlk:((xs.take k).map twC).length=k:=by rw [List.length_map,List.length_take,hl.out]; omega
   clear hA hG1 hown1 hb1
   refine wp_region_D (fun w'=>C2w w.heap.size (.int .i64 2) (.slice none 0 0) w'∧C8w GA (.bool false) (.slice none 0 0) (.slice none 0 0) (.int .i64 (tc (x):Int)) (.bool (ti (x))) (.int .u64 0) (.slice none 0 0) (.slice none 0 0) w') [7,8] (by kernel_rfl) ?_
   refine wpSp (i:=0) rfl hS ?_
   refine wpS (i:=1) (v:=?_) rfl (Or.inl ⟨by rfl,?_⟩) hS ?_
   rotate_left
   ·intro w hw; obtain ⟨⟨a0,a1⟩,⟨b0,b1,b2,b3⟩,b4,b5,b6,b7⟩:=hw; first | (go_simp; done) | (go_simp; with_reducible rfl)
   refine wpS (i:=2) (v:=?_) rfl (Or.inl ⟨by rfl,?_⟩) hS ?_
   rotate_left
   ·intro w hw; obtain ⟨⟨a0,a1⟩,⟨b0,b1,b2,b3⟩,b4,b5,b6,b7⟩:=hw; first | (go_simp; done) | (go_simp; with_reducible rfl)
   refine wpS (i:=3) (v:=?_) rfl (Or.inl ⟨by rfl,?_⟩) hS ?_
   rotate_left
   ·intro w hw; obtain ⟨⟨a0,a1⟩,⟨b0,b1,b2,b3⟩,b4,b5,b6,b7⟩:=hw; first | (go_simp; done) | (go_simp; with_reducible rfl)
   refine wpAnyD_one (i:=4) (by kernel_rfl) rfl (fun KK hKK=>?_)
   go_simp
   go_at_call 76
   refine (zeroTw_any _).mono ?_; rintro e w2 ⟨rfl,hb3⟩
   have hown3:=hown2.next hb3
   have hb4:=below_chain hb2 hb3
   try go_simp
   refine hKK _ _ ⟨fun _=>(hK _ _ hS hb3),?_⟩; clear hKK KK
   refine wpAnyD_one (i:=5) (by kernel_rfl) rfl (fun KK hKK=>?_)
   go_simp
   go_at_call 77
   refine (plusTw_any x none hxo twOk_none _).mono ?_; rw [twPlus_none]; rintro e w3 ⟨rfl,hb5⟩
   have hown4:=hown3.next hb5
   have hb6:=below_chain hb4 hb5
   try go_simp
   refine hKK _ _ ⟨fun _=>(hK _ _ (hK _ _ hS hb3) hb5),?_⟩; clear hKK KK
   refine wpAnyD_one (i:=6) (by kernel_rfl) rfl (fun KK hKK=>?_)
   have hbN:Below w3.heap.size w3 (w3.alloc (.cells #[.bool false,.slice none 0 0,.slice none 0 0,.int .i64 (tc (x):Int),.bool (ti (x)),.int .u64 0,.slice none 0 0,.slice none 0 0] 45)):=below_alloc _
   have hnew:=Cs.fresh w3 [.bool false,.slice none 0 0,.slice none 0 0,.int .i64 (tc (x):Int),.bool (ti (x)),.int .u64 0,.slice none 0 0,.slice none 0 0] 45
   have hown5:=hown4.next hbN
   have hb7:=below_chain hb6 hbN
   go_simp
   refine hKK _ _ ⟨fun _=>(hK _ _ (hK _ _ (hK _ _ hS hb3) hb5) hbN),?_⟩; clear hKK KK
   refine wpAnyD_one (i:=7) (by kernel_rfl) rfl (fun KK hKK=>?_)
   rw [if_pos (by rfl)]
   refine op_appF (.tmp 14) (.tmp 20) 27 rfl 45 (.agg #[.bool false,.slice none 0 0,.slice none 0 0,.int .i64 0,.bool false,.int .u64 0,.slice none 0 0,.slice none 0 0]) 8 128 (by kernel_rfl) (by kernel_rfl) (by rfl) (by decide) W0.heap.size v _ rfl hown5 w3.heap.size 0 1 1 [[.bool false,.slice none 0 0,.slice none 0 0,.int .i64 (tc (x):Int),.bool (ti (x)),.int .u64 0,.slice none 0 0,.slice none 0 0]] rfl (by rfl) (by decide) (by intro cs hc; obtain rfl:=List.mem_singleton.1 hc; rfl) (by simpa using hnew) (by intro cs hc u hu; obtain rfl:=List.mem_singleton.1 hc; simp at hu; rcases hu with rfl | rfl | rfl | rfl | rfl | rfl<;>rfl) (by rw [hlk]; omega) (by rw [hlk]; omega) hb7.size ?_
   intro v' w5 hown6 hg6 hb8 _
   refine hKK _ _ ⟨fun hn=>absurd (by simp) hn,?_⟩; clear hKK KK
   refine wpAnyD_one (i:=8) (by kernel_rfl) rfl (fun KK hKK=>?_)
   go_simp
   refine hKK _ _ ⟨fun hn=>absurd (by simp) hn,?_⟩; clear hKK KK
   refine wpAnyD_done (by kernel_rfl) ?_ _
   go_simp
   go_wp2_with fail
   go_roundw
   case rel=>exact ⟨v',k+1,rfl,by omega,by go_num,by rw [take_map_step hxk.out]; exact hown6,below_chain' hb7 hb8⟩
   case measure=>simp [intOf]; omega
  ·have i1:¬ (k:Int)<(n:Int):=by omega
   go_wp2_with fail
   go_ret
   refine ⟨⟨_,rfl,?_⟩,below_chain hb0 hb⟩
   rw [List.take_of_length_le (by rw [hl.out]; omega)] at hown
   exact hown.mono hb0.size
end
section
open Go.RowKit
theorem isNaN_any (a:Int) (w:World):Calls Tryz.prog 295 #[.int .i64 a] w fun e w'=>e=.returned (.bool false)∧w=w':=by
 go_enter Tryz.func295,Tryz.ntmps295
 go_wp2_with fail
 go_ret
 exact ⟨rfl,rfl⟩
theorem compareI_any (a b:Nat) (w:World):Calls Tryz.prog 246 #[.int .i64 (a:Int),.int .i64 (b:Int)] w fun e w'=>e=.returned (.int .i64 (cmpN a b))∧w=w':=by
 go_enter Tryz.func246,Tryz.ntmps246
 go_wp2_with fail
 refine (isNaN_any _ _).mono ?_; rintro e w1 ⟨rfl,rfl⟩
 go_wp2_with fail
 refine (isNaN_any _ _).mono ?_; rintro e w1 ⟨rfl,rfl⟩
 by_cases h1:a<b
 ·have c1:(a:Int)<(b:Int):=by omega
  have c2:decide ((a:Int)<(b:Int))=true:=decide_eq_true c1
  go_wp2_with fail
  go_ret
  exact ⟨by simp [cmpN,h1],rfl⟩
 ·have c1:¬ (a:Int)<(b:Int):=by omega
  have c2:decide ((a:Int)<(b:Int))=false:=decide_eq_false c1
  by_cases h2:b<a
  ·have c3:(b:Int)<(a:Int):=by omega
   have c4:decide ((b:Int)<(a:Int))=true:=decide_eq_true c3
   go_wp2_with fail
   go_ret
   exact ⟨by simp [cmpN,h1,h2],rfl⟩
  ·have c3:¬ (b:Int)<(a:Int):=by omega
   have c4:decide ((b:Int)<(a:Int))=false:=decide_eq_false c3
   go_wp2_with fail
   go_ret
   exact ⟨by simp [cmpN,h1,h2],rfl⟩
set_option maxHeartbeats 1000000 in
theorem or3_any (x y z:Int) (b:Nat) (w:World) (h:Cs w b 0 [.int .i64 x,.int .i64 y,.int .i64 z]):Calls Tryz.prog 245 #[.slice (some ⟨b,0,none⟩) 3 3] w fun e w'=>e=.returned (.int .i64 (if x≠0 then x else if y≠0 then y else z))∧w=w':=by
 have h0:w.cell? ⟨b,0,none⟩=some (.int .i64 x):=h 0 _ rfl
 have h1:w.cell? ⟨b,1,none⟩=some (.int .i64 y):=h 1 _ rfl
 have h2:w.cell? ⟨b,2,none⟩=some (.int .i64 z):=h 2 _ rfl
 clear h
 obtain ⟨r,hr⟩:∃ r,(if x≠0 then x else if y≠0 then y else z)=r:=⟨_,rfl⟩
 rw [hr]
 have Hr:=hid hr
 clear hr
 go_enter Tryz.func245,Tryz.ntmps245
 go_wp2_with fail
 go_loopw [8] (fun iv wr=>∃ k:Nat,k≤3∧iv=.int .i64 k∧wr=w∧Hid ((1≤k→x=0)∧(2≤k→y=0)∧(3≤k→z=0))) (fun i _=>3-(intOf i).toNat)
 case atStart=>exact ⟨0,by omega,rfl,rfl,by unfold Hid; refine ⟨?_,?_,?_⟩<;>omega⟩
 case round =>
  obtain ⟨k,hk,rfl,rfl,hall⟩:=hrel
  rcases (show k=0∨k=1∨k=2∨k=3 by omega) with rfl | rfl | rfl | rfl
  ·by_cases hz:x=0
   ·have Hz:=hid hz
    rw [hz] at h0
    clear hz
    go_wp2_with fail
    go_round
    case rel=>exact ⟨1,by omega,by go_num,by first | trivial | rfl,by unfold Hid; exact ⟨fun _=>Hz.out,by omega,by omega⟩⟩
    case measure=>simp [intOf]
   ·go_wp2_with fail
    go_ret
    exact ⟨by rw [←Hr.out,if_pos hz]; rfl,rfl⟩
  ·by_cases hz:y=0
   ·have Hz:=hid hz
    rw [hz] at h1
    clear hz
    go_wp2_with fail
    go_round
    case rel=>exact ⟨2,by omega,by go_num,by first | trivial | rfl,by unfold Hid; exact ⟨fun _=>hall.out.1 (by omega),fun _=>Hz.out,by omega⟩⟩
    case measure=>simp [intOf]
   ·go_wp2_with fail
    go_ret
    exact ⟨by rw [←Hr.out,if_neg (by simp [hall.out.1 (by omega)]),if_pos hz]; rfl,rfl⟩
  ·by_cases hz:z=0
   ·have Hz:=hid hz
    rw [hz] at h2
    clear hz
    go_wp2_with fail
    go_round
    case rel=>exact ⟨3,by omega,by go_num,by first | trivial | rfl,by unfold Hid; exact ⟨fun _=>hall.out.1 (by omega),fun _=>hall.out.2.1 (by omega),fun _=>Hz.out⟩⟩
    case measure=>simp [intOf]
   ·go_wp2_with fail
    go_ret
    exact ⟨by rw [←Hr.out,if_neg (by simp [hall.out.1 (by omega)]),if_neg (by simp [hall.out.2.1 (by omega)])]; rfl,rfl⟩
  ·go_wp2_with fail
   go_ret
   exact ⟨by rw [←Hr.out,if_neg (by simp [hall.out.1 (by omega)]),if_neg (by simp [hall.out.2.1 (by omega)]),hall.out.2.2 (by omega)]; rfl,rfl⟩
abbrev C3w (G:Nat) (a b c:Value) (w:World):Prop:=w.cell? ⟨G,0,none⟩=some a∧w.cell? ⟨G,1,none⟩=some b∧w.cell? ⟨G,2,none⟩=some c
theorem C3w.next {G:Nat} {a b c:Value} {w w':World} (h:C3w G a b c w) (hb:Below w.heap.size w w'):C3w G a b c w':=⟨cellN h.1 hb,cellN h.2.1 hb,cellN h.2.2 hb⟩
theorem Bl.three {G:Nat} {a b c:Value} {r:List Value} {T:TypeId} {w:World} (h:Bl G (a::b::c::r) T w):C3w G a b c w:=⟨h.cell rfl,h.cell rfl,h.cell rfl⟩
theorem or3K_any (x y:Ky) (b:Nat) (w:World) (h:Cs w b 0 [.int .i64 (cmpN x.1 y.1),.int .i64 (cmpN x.2.1 y.2.1),.int .i64 (cmpN x.2.2 y.2.2)]):Calls Tryz.prog 245 #[.slice (some ⟨b,0,none⟩) 3 3] w fun e w'=>e=.returned (.int .i64 (cmpK x y))∧w=w':=or3_any _ _ _ b w h
set_option maxHeartbeats 2000000 in
theorem orderX_any (x y:Ac) (w:World):Calls Tryz.prog 170 #[.agg #[.int .i64 ((x).1:Int),.int .i64 ((x).2.1:Int),.int .i64 ((x).2.2.1:Int),.bool false,.slice none 0 0,.slice none 0 0,.int .i64 (tc (wt x):Int),.bool (ti (wt x)),.int .u64 0,.slice none 0 0,.slice none 0 0],.agg #[.int .i64 ((y).1:Int),.int .i64 ((y).2.1:Int),.int .i64 ((y).2.2.1:Int),.bool false,.slice none 0 0,.slice none 0 0,.int .i64 (tc (wt y):Int),.bool (ti (wt y)),.int .u64 0,.slice none 0 0,.slice none 0 0]] w fun e w'=>e=.returned (.int .i64 (cmpK (ky x) (ky y)))∧w'=((w.alloc (.cells #[.int .i64 ((x).1:Int),.int .i64 ((x).2.1:Int),.int .i64 ((x).2.2.1:Int),.bool false,.slice none 0 0,.slice none 0 0,.int .i64 (tc (wt x):Int),.bool (ti (wt x)),.int .u64 0,.slice none 0 0,.slice none 0 0] 54)).alloc (.cells #[.int .i64 ((y).1:Int),.int .i64 ((y).2.1:Int),.int .i64 ((y).2.2.1:Int),.bool false,.slice none 0 0,.slice none 0 0,.int .i64 (tc (wt y):Int),.bool (ti (wt y)),.int .u64 0,.slice none 0 0,.slice none 0 0] 54)).drew.alloc (.cells #[.int .i64 (cmpN x.1 y.1),.int .i64 (cmpN x.2.1 y.2.1),.int .i64 (cmpN x.2.2.1 y.2.2.1)] 3):=by
 have hb0:Below w.heap.size w ((w.alloc (.cells #[.int .i64 ((x).1:Int),.int .i64 ((x).2.1:Int),.int .i64 ((x).2.2.1:Int),.bool false,.slice none 0 0,.slice none 0 0,.int .i64 (tc (wt x):Int),.bool (ti (wt x)),.int .u64 0,.slice none 0 0,.slice none 0 0] 54)).alloc (.cells #[.int .i64 ((y).1:Int),.int .i64 ((y).2.1:Int),.int .i64 ((y).2.2.1:Int),.bool false,.slice none 0 0,.slice none 0 0,.int .i64 (tc (wt y):Int),.bool (ti (wt y)),.int .u64 0,.slice none 0 0,.slice none 0 0] 54)):=below_chain (below_alloc _) (below_alloc _)
 have hA:=(Bl.fresh w [.int .i64 ((x).1:Int),.int .i64 ((x).2.1:Int),.int .i64 ((x).2.2.1:Int),.bool false,.slice none 0 0,.slice none 0 0,.int .i64 (tc (wt x):Int),.bool (ti (wt x)),.int .u64 0,.slice none 0 0,.slice none 0 0] 54).new (.cells #[.int .i64 ((y).1:Int),.int .i64 ((y).2.1:Int),.int .i64 ((y).2.2.1:Int),.bool false,.slice none 0 0,.slice none 0 0,.int .i64 (tc (wt y):Int),.bool (ti (wt y)),.int .u64 0,.slice none 0 0,.slice none 0 0] 54)
 have hB:=Bl.fresh' (G:=w.heap.size+1) (w.alloc (.cells #[.int .i64 ((x).1:Int),.int .i64 ((x).2.1:Int),.int .i64 ((x).2.2.1:Int),.bool false,.slice none 0 0,.slice none 0 0,.int .i64 (tc (wt x):Int),.bool (ti (wt x)),.int .u64 0,.slice none 0 0,.slice none 0 0] 54)) [.int .i64 ((y).1:Int),.int .i64 ((y).2.1:Int),.int .i64 ((y).2.2.1:Int),.bool false,.slice none 0 0,.slice none 0 0,.int .i64 (tc (wt y):Int),.bool (ti (wt y)),.int .u64 0,.slice none 0 0,.slice none 0 0] 54 (by simp)
 go_enter Tryz.func170,Tryz.ntmps170
 go_upto_region 1 with fail
 obtain ⟨W1,hW1⟩:∃ W1,W1=((w.alloc (.cells #[.int .i64 ((x).1:Int),.int .i64 ((x).2.1:Int),.int .i64 ((x).2.2.1:Int),.bool false,.slice none 0 0,.slice none 0 0,.int .i64 (tc (wt x):Int),.bool (ti (wt x)),.int .u64 0,.slice none 0 0,.slice none 0 0] 54)).alloc (.cells #[.int .i64 ((y).1:Int),.int .i64 ((y).2.1:Int),.int .i64 ((y).2.2.1:Int),.bool false,.slice none 0 0,.slice none 0 0,.int .i64 (tc (wt y):Int),.bool (ti (wt y)),.int .u64 0,.slice none 0 0,.slice none 0 0] 54)):=⟨_,rfl⟩
 rw [←hW1] at hb0 hA hB
 rw [←hW1]
 have HW:=hid hW1
 clear hW1
 have hdr:=(Below.refl W1.heap.size W1).drew
 have hS:C3w w.heap.size (.int .i64 (x.1:Int)) (.int .i64 (x.2.1:Int)) (.int .i64 (x.2.2.1:Int)) W1.drew∧C3w (w.heap.size+1) (.int .i64 (y.1:Int)) (.int .i64 (y.2.1:Int)) (.int .i64 (y.2.2.1:Int)) W1.drew:=⟨C3w.next hA.three hdr,C3w.next hB.three hdr⟩
 have hb1:=below_chain hb0 hdr
 clear hA hB hb0 hdr
 refine wp_region_D (fun w'=>C3w w.heap.size (.int .i64 (x.1:Int)) (.int .i64 (x.2.1:Int)) (.int .i64 (x.2.2.1:Int)) w'∧C3w (w.heap.size+1) (.int .i64 (y.1:Int)) (.int .i64 (y.2.1:Int)) (.int .i64 (y.2.2.1:Int)) w') [17] (by kernel_rfl) ?_
 refine wpSp (i:=0) rfl hS ?_
 refine wpS (i:=1) (v:=?_) rfl (Or.inl ⟨by rfl,?_⟩) hS ?_
 rotate_left
 ·intro w hw; obtain ⟨⟨a0,a1,a2⟩,b0,b1,b2⟩:=hw; first | (go_simp; done) | (go_simp; with_reducible rfl)
 refine wpSp (i:=2) rfl hS ?_
 refine wpS (i:=3) (v:=?_) rfl (Or.inl ⟨by rfl,?_⟩) hS ?_
 rotate_left
 ·intro w hw; obtain ⟨⟨a0,a1,a2⟩,b0,b1,b2⟩:=hw; first | (go_simp; done) | (go_simp; with_reducible rfl)
 refine wpSp (i:=5) rfl hS ?_
 refine wpS (i:=6) (v:=?_) rfl (Or.inl ⟨by rfl,?_⟩) hS ?_
 rotate_left
 ·intro w hw; obtain ⟨⟨a0,a1,a2⟩,b0,b1,b2⟩:=hw; first | (go_simp; done) | (go_simp; with_reducible rfl)
 refine wpSp (i:=7) rfl hS ?_
 refine wpS (i:=8) (v:=?_) rfl (Or.inl ⟨by rfl,?_⟩) hS ?_
 rotate_left
 ·intro w hw; obtain ⟨⟨a0,a1,a2⟩,b0,b1,b2⟩:=hw; first | (go_simp; done) | (go_simp; with_reducible rfl)
 refine wpSp (i:=10) rfl hS ?_
 refine wpS (i:=11) (v:=?_) rfl (Or.inl ⟨by rfl,?_⟩) hS ?_
 rotate_left
 ·intro w hw; obtain ⟨⟨a0,a1,a2⟩,b0,b1,b2⟩:=hw; first | (go_simp; done) | (go_simp; with_reducible rfl)
 refine wpSp (i:=12) rfl hS ?_
 refine wpS (i:=13) (v:=?_) rfl (Or.inl ⟨by rfl,?_⟩) hS ?_
 rotate_left
 ·intro w hw; obtain ⟨⟨a0,a1,a2⟩,b0,b1,b2⟩:=hw; first | (go_simp; done) | (go_simp; with_reducible rfl)
 refine wpAnyD_one (i:=4) (by kernel_rfl) rfl (fun KK hKK=>?_)
 go_simp
 go_at_call 246
 refine (compareI_any (x.1) (y.1) _).mono ?_; rintro e w4 ⟨rfl,rfl⟩
 try go_simp
 refine hKK _ _ ⟨fun _=>hS,?_⟩; clear hKK KK
 refine wpAnyD_one (i:=9) (by kernel_rfl) rfl (fun KK hKK=>?_)
 go_simp
 go_at_call 246
 refine (compareI_any (x.2.1) (y.2.1) _).mono ?_; rintro e w9 ⟨rfl,rfl⟩
 try go_simp
 refine hKK _ _ ⟨fun _=>hS,?_⟩; clear hKK KK
 refine wpAnyD_one (i:=14) (by kernel_rfl) rfl (fun KK hKK=>?_)
 go_simp
 go_at_call 246
 refine (compareI_any (x.2.2.1) (y.2.2.1) _).mono ?_; rintro e w14 ⟨rfl,rfl⟩
 try go_simp
 refine hKK _ _ ⟨fun _=>hS,?_⟩; clear hKK KK
 refine wpAnyD_one (i:=15) (by kernel_rfl) rfl (fun KK hKK=>?_)
 have hbN:Below W1.drew.heap.size W1.drew (W1.drew.alloc (.cells #[.int .i64 (cmpN x.1 y.1),.int .i64 (cmpN x.2.1 y.2.1),.int .i64 (cmpN x.2.2.1 y.2.2.1)] 3)):=below_alloc _
 have hnew:=Cs.fresh W1.drew [.int .i64 (cmpN x.1 y.1),.int .i64 (cmpN x.2.1 y.2.1),.int .i64 (cmpN x.2.2.1 y.2.2.1)] 3
 have hb2:=below_chain hb1 hbN
 go_simp
 refine hKK _ _ ⟨fun _=>⟨C3w.next hS.1 hbN,C3w.next hS.2 hbN⟩,?_⟩; clear hKK KK
 refine wpAnyD_one (i:=16) (by kernel_rfl) rfl (fun KK hKK=>?_)
 go_simp
 go_at_call 245
 refine (or3K_any (ky x) (ky y) _ _ hnew).mono ?_; rintro e w5 ⟨rfl,rfl⟩
 try go_simp
 refine hKK _ _ ⟨fun _=>⟨C3w.next hS.1 hbN,C3w.next hS.2 hbN⟩,?_⟩; clear hKK KK
 refine wpAnyD_one (i:=17) (by kernel_rfl) rfl (fun KK hKK=>?_)
 go_simp
 refine hKK _ _ ⟨fun hn=>absurd (by simp) hn,?_⟩; clear hKK KK
 refine wpAnyD_done (by kernel_rfl) ?_ _
 go_simp
 go_wp2_with fail
 go_ret
 exact ⟨rfl,by rw [HW.out]; rfl⟩
theorem order_any (x y:Ac) (w:World):Calls Tryz.prog 170 #[.agg #[.int .i64 ((x).1:Int),.int .i64 ((x).2.1:Int),.int .i64 ((x).2.2.1:Int),.bool false,.slice none 0 0,.slice none 0 0,.int .i64 (tc (wt x):Int),.bool (ti (wt x)),.int .u64 0,.slice none 0 0,.slice none 0 0],.agg #[.int .i64 ((y).1:Int),.int .i64 ((y).2.1:Int),.int .i64 ((y).2.2.1:Int),.bool false,.slice none 0 0,.slice none 0 0,.int .i64 (tc (wt y):Int),.bool (ti (wt y)),.int .u64 0,.slice none 0 0,.slice none 0 0]] w fun e w'=>e=.returned (.int .i64 (cmpK (ky x) (ky y)))∧Below w.heap.size w w' :=
 (orderX_any x y w).mono (by rintro e w' ⟨rfl,rfl⟩; exact ⟨rfl,below_chain (below_chain (below_chain (below_alloc _) (below_alloc _)) (Below.refl _ _).drew) (below_alloc _)⟩)
end
end Go.Proofs.YtnapapijhhldpaaGreatDoor

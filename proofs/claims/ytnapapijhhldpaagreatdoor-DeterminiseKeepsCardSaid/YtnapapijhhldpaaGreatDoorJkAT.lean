/-
  Texts joined by program: Trd, Tre, Trf, Trg, Trh. No condition of its own.
-/
import Derived.Test.YtnapapijhhldpaaGreatDoorJkAS
namespace Go.Proofs.YtnapapijhhldpaaGreatDoor
set_option linter.unusedSimpArgs false
set_option linter.unusedVariables false
set_option maxRecDepth 100000
set_option maxHeartbeats 4000000
section
open Go.RowKit
def j1b:List Nat->List Nat->Int
 | x::xs,y::ys=>if x<y then -1 else if y<x then 1 else j1b xs ys
 | _,_=>0
theorem j4e (a b c d e f:Nat):j1b [a,b,c] [d,e,f]=j2l (a,b,c) (d,e,f):=by
 unfold j2l q3o
 simp only [j1b]
 by_cases h1:a<d
 ·simp [h1]
 ·by_cases h2:d<a
  ·simp [h1,h2]
  ·by_cases h3:b<e
   ·simp [h1,h2,h3]
   ·by_cases h4:e<b
    ·simp [h1,h2,h3,h4]
    ·simp [h1,h2,h3,h4]
def vN (x:Nat):Value:=.int .i64 (x:Int)
theorem z3r {xs ys:List Nat} {k x y:Nat} (hx:xs[k]? = some x) (hy:ys[k]? = some y) (h:x<y):j1b (xs.drop k) (ys.drop k) = -1:=by
 rw [kX hx,kX hy]; simp [j1b,h]
theorem z3s {xs ys:List Nat} {k x y:Nat} (hx:xs[k]? = some x) (hy:ys[k]? = some y) (h:y<x):j1b (xs.drop k) (ys.drop k)=1:=by
 rw [kX hx,kX hy]; simp [j1b,h,show ¬ x<y by omega]
theorem z3t {xs ys:List Nat} {k x:Nat} (hx:xs[k]? = some x) (hy:ys[k]? = some x):j1b (xs.drop k) (ys.drop k)=j1b (xs.drop (k+1)) (ys.drop (k+1)):=by
 rw [kX hx,kX hy]; simp [j1b]
theorem z0j {xs ys:List Nat} {k:Nat} (hx:xs.length<=k):j1b (xs.drop k) (ys.drop k)=0:=by
 rw [List.drop_eq_nil_of_le hx]; simp [j1b]
theorem q8g (xs ys:List Nat) (ao bo:OA) (n ca cb:Nat) (w:World) (hb1:∀ x∈xs,x<=1000000) (hb2:∀ x∈ys,x<=1000000) (hx:Sl w ao n ca (xs.map vN)) (hy:Sl w bo n cb (ys.map vN)) :
  Calls Tryz.prog 73 #[.slice ao n ca,.slice bo n cb] w fun e w'=>e=.returned (.int .i64 (j1b xs ys))/\Below w.heap.size w w':=by
 have hbx:=hx.bound
 have hlx:=hid hx.lenMap
 have hly:=hid hy.lenMap
 replace hx:=hid hx
 replace hy:=hid hy
 replace hb1:=hid hb1
 replace hb2:=hid hb2
 go_enter Tryz.func73,Tryz.ntmps73
 go_wp2_with fail
 go_loopw [5] (fun iv wr=>∃ k:Nat,k<=n/\iv=.int .i64 (k:Int)/\Hid (j1b xs ys=j1b (xs.drop k) (ys.drop k))/\Below w.heap.size w wr) (fun iv _=>n-(intOf iv).toNat)
 case atStart=>exact ⟨0,by omega,rfl,hid (by rw [List.drop_zero,List.drop_zero]),Below.refl _ _⟩
 case round =>
  obtain ⟨k,hk,rfl,heq,hb⟩:=hrel
  by_cases hlt:k<n
  ·obtain ⟨x,hxk,b1,o1,rfl,hc1⟩:=(hx.out.next hb).get hlt
   obtain ⟨y,hyk,b2,o2,rfl,hc2⟩:=(hy.out.next hb).get hlt
   have i1:(k:Int)<(n:Int):=by omega
   have i0:(0:Int)<=(k:Int):=by omega
   have hxB:=hb1.out x (List.mem_of_getElem? hxk)
   have hyB:=hb2.out y (List.mem_of_getElem? hyk)
   replace hxk:=hid hxk
   replace hyk:=hid hyk
   have c1:wr.cell? ⟨b1,o1+k,none⟩=some (.int .i64 (x:Int)):=hc1
   have c2:wr.cell? ⟨b2,o2+k,none⟩=some (.int .i64 (y:Int)):=hc2
   clear hc1 hc2
   obtain ⟨q,hq⟩:∃ q,decide (x<y)=q:=⟨_,rfl⟩
   obtain ⟨q2,hq2⟩:∃ q2,decide (y<x)=q2:=⟨_,rfl⟩
   replace hq:=hid hq
   replace hq2:=hid hq2
   have hdr:=(Below.refl wr.heap.size wr).drew
   have hb3:=qQ hb hdr
   have hS:wr.drew.cell? ⟨b1,o1+k,none⟩=some (.int .i64 (x:Int))/\wr.drew.cell? ⟨b2,o2+k,none⟩=some (.int .i64 (y:Int)):=⟨qR c1 hdr,qR c2 hdr⟩
   have hdr2:=(Below.refl wr.drew.heap.size wr.drew).drew
   have hb4:=qQ hb3 hdr2
   have hS2:wr.drew.drew.cell? ⟨b1,o1+k,none⟩=some (.int .i64 (x:Int))/\wr.drew.drew.cell? ⟨b2,o2+k,none⟩=some (.int .i64 (y:Int)):=⟨qR hS.1 hdr2,qR hS.2 hdr2⟩
   clear c1 c2 hdr hdr2
   go_upto_region 8 with fail
   refine qV (fun w'=>w'.cell? ⟨b1,o1+k,none⟩=some (.int .i64 (x:Int))/\w'.cell? ⟨b2,o2+k,none⟩=some (.int .i64 (y:Int))) [] (by kernel_rfl) ?_
   refine wAp 0 (some 22) rfl rfl hS ?_
   refine wAp 1 (some 23) rfl rfl hS ?_
   refine wAp 2 (some 24) rfl rfl hS ?_
   refine wAl 3 (some 25) (v:=?_) rfl rfl ?_ hS ?_
   rotate_left
   ·intro wz hw; refine qK b1 (o1+k) ?_ (.int .i64 (x:Int)) hw.1 _ Tryz.underlying3 rfl; go_simp
   refine wAp 4 (some 26) rfl rfl hS ?_
   refine wAp 5 (some 27) rfl rfl hS ?_
   refine wAp 6 (some 28) rfl rfl hS ?_
   refine wAl 7 (some 29) (v:=?_) rfl rfl ?_ hS ?_
   rotate_left
   ·intro wz hw; refine qK b2 (o2+k) ?_ (.int .i64 (y:Int)) hw.2 _ Tryz.underlying3 rfl; go_simp
   refine wAp 8 (some 30) rfl rfl hS ?_
   refine qZ (by kernel_rfl) ?_ _
   try go_simp
   rw [hq.out]
   cases q with
   | true =>
    have hr:=hid (z3r hxk.out hyk.out (show x<y by have:=of_decide_eq_true hq.out; omega))
    skip
    go_simp
    go_wp2_with fail
    go_ret
    exact ⟨by rw [heq.out,hr.out]; rfl,hb3⟩
   | false =>
    go_upto_region 10 with fail
    refine qV (fun w'=>w'.cell? ⟨b1,o1+k,none⟩=some (.int .i64 (x:Int))/\w'.cell? ⟨b2,o2+k,none⟩=some (.int .i64 (y:Int))) [] (by kernel_rfl) ?_
    refine wAp 0 (some 31) rfl rfl hS2 ?_
    refine wAp 1 (some 32) rfl rfl hS2 ?_
    refine wAp 2 (some 33) rfl rfl hS2 ?_
    refine wAl 3 (some 34) (v:=?_) rfl rfl ?_ hS2 ?_
    rotate_left
    ·intro wz hw; refine qK b1 (o1+k) ?_ (.int .i64 (x:Int)) hw.1 _ Tryz.underlying3 rfl; go_simp
    refine wAp 4 (some 35) rfl rfl hS2 ?_
    refine wAp 5 (some 36) rfl rfl hS2 ?_
    refine wAp 6 (some 37) rfl rfl hS2 ?_
    refine wAl 7 (some 38) (v:=?_) rfl rfl ?_ hS2 ?_
    rotate_left
    ·intro wz hw; refine qK b2 (o2+k) ?_ (.int .i64 (y:Int)) hw.2 _ Tryz.underlying3 rfl; go_simp
    refine wAp 8 (some 39) rfl rfl hS2 ?_
    refine qZ (by kernel_rfl) ?_ _
    try go_simp
    rw [hq2.out]
    cases q2 with
    | true =>
     have hr:=hid (z3s hxk.out hyk.out (show y<x by have:=of_decide_eq_true hq2.out; omega))
     skip
     go_simp
     go_wp2_with fail
     go_ret
     exact ⟨by rw [heq.out,hr.out]; rfl,hb4⟩
    | false =>
     have hxy:x=y:=by have h1:=of_decide_eq_false hq.out; have h2:=of_decide_eq_false hq2.out; omega
     have hr:=hid (z3t hxk.out (by rw [hxy]; exact hyk.out))
     clear hxy
     go_wp2_with fail
     go_roundw
     case rel=>exact ⟨k+1,by omega,by go_num,hid (by rw [heq.out,hr.out]),hb4⟩
     case measure=>simp [intOf]; omega
  ·obtain rfl:k=n:=by omega
   have i1:¬ (k:Int)<(k:Int):=by omega
   rw [z0j (by rw [hlx.out]; exact Nat.le_refl _)] at heq
   go_wp2_with fail
   go_ret
   exact ⟨by rw [heq.out]; rfl,hb⟩
theorem q5t (x y:Ac) (hx:x.1<=1000000/\x.2.1<=1000000/\x.2.2.1<=1000000) (hy:y.1<=1000000/\y.2.1<=1000000/\y.2.2.1<=1000000) (w:World) :
  Calls Tryz.prog 42 #[.agg #[.int .i64 ((x).1:Int),.int .i64 ((x).2.1:Int),.int .i64 ((x).2.2.1:Int),.bool false,.slice none 0 0,.slice none 0 0,.int .i64 (tc (wt x):Int),.bool (ti (wt x)),.int .u64 0,.slice none 0 0,.slice none 0 0],.agg #[.int .i64 ((y).1:Int),.int .i64 ((y).2.1:Int),.int .i64 ((y).2.2.1:Int),.bool false,.slice none 0 0,.slice none 0 0,.int .i64 (tc (wt y):Int),.bool (ti (wt y)),.int .u64 0,.slice none 0 0,.slice none 0 0]] w fun e w'=>e=.returned (.int .i64 (j2l (ky x) (ky y)))/\Below w.heap.size w w':=by
 have hb0:Below w.heap.size w ((w.alloc (.cells #[.int .i64 ((x).1:Int),.int .i64 ((x).2.1:Int),.int .i64 ((x).2.2.1:Int),.bool false,.slice none 0 0,.slice none 0 0,.int .i64 (tc (wt x):Int),.bool (ti (wt x)),.int .u64 0,.slice none 0 0,.slice none 0 0] 54)).alloc (.cells #[.int .i64 ((y).1:Int),.int .i64 ((y).2.1:Int),.int .i64 ((y).2.2.1:Int),.bool false,.slice none 0 0,.slice none 0 0,.int .i64 (tc (wt y):Int),.bool (ti (wt y)),.int .u64 0,.slice none 0 0,.slice none 0 0] 54)):=qQ (qJ _) (qJ _)
 have hA:=(Bl.fresh w [.int .i64 ((x).1:Int),.int .i64 ((x).2.1:Int),.int .i64 ((x).2.2.1:Int),.bool false,.slice none 0 0,.slice none 0 0,.int .i64 (tc (wt x):Int),.bool (ti (wt x)),.int .u64 0,.slice none 0 0,.slice none 0 0] 54).new (.cells #[.int .i64 ((y).1:Int),.int .i64 ((y).2.1:Int),.int .i64 ((y).2.2.1:Int),.bool false,.slice none 0 0,.slice none 0 0,.int .i64 (tc (wt y):Int),.bool (ti (wt y)),.int .u64 0,.slice none 0 0,.slice none 0 0] 54)
 have hB:=Bl.fresh' (G:=w.heap.size+1) (w.alloc (.cells #[.int .i64 ((x).1:Int),.int .i64 ((x).2.1:Int),.int .i64 ((x).2.2.1:Int),.bool false,.slice none 0 0,.slice none 0 0,.int .i64 (tc (wt x):Int),.bool (ti (wt x)),.int .u64 0,.slice none 0 0,.slice none 0 0] 54)) [.int .i64 ((y).1:Int),.int .i64 ((y).2.1:Int),.int .i64 ((y).2.2.1:Int),.bool false,.slice none 0 0,.slice none 0 0,.int .i64 (tc (wt y):Int),.bool (ti (wt y)),.int .u64 0,.slice none 0 0,.slice none 0 0] 54 (by simp)
 obtain ⟨⟨x0,x1,x2,x3⟩,⟨x4,x5,x6,x7⟩,x8,x9,x10⟩:=hA.eleven
 obtain ⟨⟨y0,y1,y2,y3⟩,⟨y4,y5,y6,y7⟩,y8,y9,y10⟩:=hB.eleven
 clear x3 x4 x5 x6 x7 x8 x9 x10 y3 y4 y5 y6 y7 y8 y9 y10
 go_enter Tryz.func42,Tryz.ntmps42
 go_upto_region 1 with fail
 generalize ((w.alloc (.cells #[.int .i64 ((x).1:Int),.int .i64 ((x).2.1:Int),.int .i64 ((x).2.2.1:Int),.bool false,.slice none 0 0,.slice none 0 0,.int .i64 (tc (wt x):Int),.bool (ti (wt x)),.int .u64 0,.slice none 0 0,.slice none 0 0] 54)).alloc (.cells #[.int .i64 ((y).1:Int),.int .i64 ((y).2.1:Int),.int .i64 ((y).2.2.1:Int),.bool false,.slice none 0 0,.slice none 0 0,.int .i64 (tc (wt y):Int),.bool (ti (wt y)),.int .u64 0,.slice none 0 0,.slice none 0 0] 54))=W1 at *
 have hP:Sl (W1.alloc (.cells #[.int .i64 (x.1:Int),.int .i64 (x.2.1:Int),.int .i64 (x.2.2.1:Int)] 3)) (some ⟨W1.heap.size,0,none⟩) 3 3 ([x.1,x.2.1,x.2.2.1].map vN):=Sl.lit W1 ([x.1,x.2.1,x.2.2.1].map vN) 3 (by simp [maxLen])
 have hbP:Below W1.heap.size W1 (W1.alloc (.cells #[.int .i64 (x.1:Int),.int .i64 (x.2.1:Int),.int .i64 (x.2.2.1:Int)] 3)):=qJ _
 obtain ⟨W2,hW2⟩:∃ W2,W2=(W1.alloc (.cells #[.int .i64 (x.1:Int),.int .i64 (x.2.1:Int),.int .i64 (x.2.2.1:Int)] 3)):=⟨_,rfl⟩
 rw [<-hW2] at hP hbP
 have hQ:Sl (W2.alloc (.cells #[.int .i64 (y.1:Int),.int .i64 (y.2.1:Int),.int .i64 (y.2.2.1:Int)] 3)) (some ⟨W2.heap.size,0,none⟩) 3 3 ([y.1,y.2.1,y.2.2.1].map vN):=Sl.lit W2 ([y.1,y.2.1,y.2.2.1].map vN) 3 (by simp [maxLen])
 have hbQ:Below W2.heap.size W2 (W2.alloc (.cells #[.int .i64 (y.1:Int),.int .i64 (y.2.1:Int),.int .i64 (y.2.2.1:Int)] 3)):=qJ _
 replace hP:=hP.next hbQ
 have hb:=qQ (qQ hb0 hbP) hbQ
 have hsz:W2.heap.size=W1.heap.size+1:=by rw [hW2]; simp
 rw [hsz] at hQ
 obtain ⟨⟨z0,z1,z2,z3⟩,_⟩:=(hB.next hbP).eleven
 clear z3
 subst hW2
 have hcmp:=q8g [x.1,x.2.1,x.2.2.1] [y.1,y.2.1,y.2.2.1] _ _ 3 3 3 _ (by intro z hz; simp only [List.mem_cons,List.not_mem_nil,or_false] at hz; omega) (by intro z hz; simp only [List.mem_cons,List.not_mem_nil,or_false] at hz; omega) hP hQ
 rw [j4e] at hcmp
 replace hcmp:=hid hcmp
 clear hP hQ hA hB
 go_wp2_with fail
 refine hcmp.out.mono ?_; rintro e w3 ⟨rfl,hb3⟩
 go_wp2_with fail
 go_ret
 exact ⟨rfl,qQ hb hb3⟩
theorem q6t {v lo hi:Int} (h1:lo<=v) (h2:v<=hi) (w:World):Calls Tryz.prog 51 #[.int .i64 v,.int .i64 lo,.int .i64 hi] w fun e w'=>e=.returned (.bool true)/\w=w':=by
 have c1:decide (lo<=v)=true:=decide_eq_true h1
 have c2:decide (v<=hi)=true:=decide_eq_true h2
 go_enter Tryz.func51,Tryz.ntmps51
 go_wp2_with fail
 go_ret
 exact ⟨rfl,rfl⟩
theorem q6u (syms:Nat) (h:1<=syms/\syms<=32) (w:World):Calls Tryz.prog 50 #[.int .i64 (syms:Int)] w fun e w'=>e=.returned (.bool true)/\w=w':=by
 have c1:(1:Int)<=(syms:Int):=by omega
 have c2:(syms:Int)<=32:=by omega
 have c1':decide ((1:Int)<=(syms:Int))=true:=decide_eq_true c1
 have c2':decide ((syms:Int)<=32)=true:=decide_eq_true c2
 go_enter Tryz.func50,Tryz.ntmps50
 go_wp2_with fail
 go_ret
 exact ⟨rfl,rfl⟩
theorem q3i (xs:List Tw) (ao:OA) (n ca:Nat) (w:World) (hv:∀ v∈xs,vW v) (hx:Fl 8 w ao n ca (xs.map twC)):Calls Tryz.prog 52 #[.agg #[.int .i64 2,.slice none 0 0],.slice ao n ca,.int .i64 (n:Int)] w fun e w'=>e=.returned (.bool true)/\Below w.heap.size w w':=by
 have hb0:Below w.heap.size w (w.alloc (.cells #[.int .i64 2,.slice none 0 0] 26)):=qJ _
 have hA:=Bl.fresh w rgC 26
 have hbx:=hx.bound
 replace hx:=hid (hx.next hb0)
 replace hv:=hid hv
 go_enter Tryz.func52,Tryz.ntmps52
 go_wp2_with fail
 generalize (w.alloc (.cells #[.int .i64 2,.slice none 0 0] 26))=W1 at *
 go_loopw [7] (fun iv wr=>∃ k:Nat,k<=n/\iv=.int .i64 (k:Int)/\Below W1.heap.size W1 wr) (fun iv _=>n-(intOf iv).toNat)
 case atStart=>exact ⟨0,by omega,rfl,Below.refl _ _⟩
 case round =>
  obtain ⟨k,hk,rfl,hb⟩:=hrel
  by_cases hlt:k<n
  ·obtain ⟨x,hxk,b1,o1,rfl,hc1⟩:=(hx.out.next hb).get hlt
   have i1:(k:Int)<(n:Int):=by omega
   have i0:(0:Int)<=(k:Int):=by omega
   have hxo:=hv.out x (List.mem_of_getElem? hxk)
   replace hxo:=hid hxo
   replace hxk:=hid hxk
   go_upto_region 6 with fail
   have hdr:=(Below.refl wr.heap.size wr).drew
   have hS:Cs wr.drew w.heap.size 0 rgC/\Cs wr.drew b1 (o1+k*8) (twC x):=⟨((hA.next hb).next hdr).cs,hc1.next hdr⟩
   have hK:∀ w' w'',(Cs w' w.heap.size 0 rgC/\Cs w' b1 (o1+k*8) (twC x))->Below w'.heap.size w' w''->(Cs w'' w.heap.size 0 rgC/\Cs w'' b1 (o1+k*8) (twC x)):=fun w' w'' h hb=>⟨h.1.next hb,h.2.next hb⟩
   have hb1:=qQ hb hdr
   clear hc1 hdr hb
   refine qV (fun w'=>Cs w' w.heap.size 0 rgC/\Cs w' b1 (o1+k*8) (twC x)) [] (by kernel_rfl) ?_
   refine wAl 0 (some 17) (v:=?_) rfl rfl ?_ hS ?_
   rotate_left
   ·intro wz hw; refine qX w.heap.size 0 ?_ hw.1; go_simp
   refine wAp 1 (some 18) rfl rfl hS ?_
   refine wAp 2 (some 19) rfl rfl hS ?_
   refine wAp 3 (some 20) rfl rfl hS ?_
   refine wAl 4 (some 21) (v:=?_) rfl rfl ?_ hS ?_
   rotate_left
   ·intro wz hw; refine qY b1 (o1+k*8) ?_ x hw.2; go_simp
   refine wpO (i:=5) rfl fun KK hKK=>?_
   go_simp
   go_at_call 53
   refine (q3b x hxo.out _).mono ?_; rintro e w2 ⟨rfl,hb2⟩
   try go_simp
   refine hKK _ _ ⟨fun _=>(hK _ _ hS hb2),?_⟩; clear hKK KK
   refine wAp 6 (some 23) rfl rfl (hK _ _ hS hb2) ?_
   refine qZ (by kernel_rfl) ?_ _
   have hb3:=qQ hb1 hb2
   go_wp2_with fail
   go_roundw
   case rel=>exact ⟨k+1,by omega,by go_num,hb3⟩
   case measure=>simp [intOf]; omega
  ·obtain rfl:k=n:=by omega
   have i1:¬ (k:Int)<(k:Int):=by omega
   go_wp2_with fail
   go_ret
   exact ⟨rfl,qQ hb0 hb⟩
end
section
open Go.RowKit
theorem kN (syms:Nat) (A:Au) (hV:Vo syms A) (io:OA) (ci:Nat) (fo:OA) (cf:Nat) (ro:OA) (nr cr:Nat) (w:World) (h:Mo w syms A io ci fo cf ro nr cr) :
  Calls Tryz.prog 15 #[.agg (auC syms A.st (.slice io A.st ci) (.slice fo A.st cf) (.slice ro nr cr)).toArray] w fun e w'=>e=.returned (.bool true)/\Below w.heap.size w w':=by
 have hb0:Below w.heap.size w (w.alloc (.cells (auC syms A.st (.slice io A.st ci) (.slice fo A.st cf) (.slice ro nr cr)).toArray 30)):=qJ _
 have hG:=Bl.fresh w (auC syms A.st (.slice io A.st ci) (.slice fo A.st cf) (.slice ro nr cr)) 30
 have hnl:=hid h.arcs.lenMap
 have hnb:=h.arcs.bound
 have hnr:nr<=2048:=by rw [<-hnl.out]; exact hV.num
 have hst:=hV.st
 have hsy:=hV.sym
 have hm:=hid (h.next hb0)
 replace hV:=hid hV
 clear h
 obtain ⟨⟨x0,x1,x2,x3⟩,x4,x5,x6⟩:=hG.seven
 have j1:(0:Int)<=(A.st:Int):=by omega
 have j2:(A.st:Int)<=64:=by omega
 have j3:¬ (2048:Int)<(nr:Int):=by omega
 have j3':decide ((2048:Int)<(nr:Int))=false:=decide_eq_false j3
 go_enter Tryz.func15,Tryz.ntmps15
 go_wp2_with fail
 refine (kU _).mono ?_; rintro e w1 ⟨rfl,hb1⟩
 clear x0 x1 x2 x3 x4 x5 x6
 have hm1:=hid (hm.out.next hb1)
 replace hG:=hG.next hb1
 replace hb0:=qQ hb0 hb1
 clear hb1
 obtain ⟨⟨x0,x1,x2,x3⟩,x4,x5,x6⟩:=hG.seven
 go_wp2_with fail
 refine (q6u syms hsy _).mono ?_; rintro e w2 ⟨rfl,rfl⟩
 go_wp2_with fail
 refine (q6t j1 j2 _).mono ?_; rintro e w2 ⟨rfl,rfl⟩
 go_wp2_with fail
 refine (q3i A.ini io A.st ci _ hV.out.ini hm1.out.ini).mono ?_; rintro e w3 ⟨rfl,hb3⟩
 clear x0 x1 x2 x3 x4 x5 x6
 have hm3:=hid (hm1.out.next hb3)
 replace hG:=hG.next hb3
 replace hb0:=qQ hb0 hb3
 clear hb3
 obtain ⟨⟨x0,x1,x2,x3⟩,x4,x5,x6⟩:=hG.seven
 go_wp2_with fail
 refine (q3i A.fin fo A.st cf _ hV.out.fin hm3.out.fin).mono ?_; rintro e w4 ⟨rfl,hb4⟩
 clear x0 x1 x2 x3 x4 x5 x6
 have hm4:=hid (hm3.out.next hb4)
 replace hG:=hG.next hb4
 replace hb0:=qQ hb0 hb4
 clear hb4
 obtain ⟨⟨x0,x1,x2,x3⟩,x4,x5,x6⟩:=hG.seven
 go_wp2_with fail
 clear x0 x1 x2 x3 x4 x5 x6
 go_loopw [3] (fun iv wr=>∃ k:Nat,k<=nr/\iv=.int .i64 (k:Int)/\Below w4.heap.size w4 wr) (fun iv _=>nr-(intOf iv).toNat)
 case atStart=>exact ⟨0,by omega,rfl,Below.refl _ _⟩
 case round =>
  obtain ⟨k,hk,rfl,hb⟩:=hrel
  obtain ⟨⟨x0,x1,x2,x3⟩,x4,x5,x6⟩:=(hG.next hb).seven
  by_cases hlt:k<nr
  ·obtain ⟨x,hxk,b,off,rfl,hcs⟩:=(hm4.out.arcs.next hb).get hlt
   have hxa:=hV.out.arcs x (List.mem_of_getElem? hxk)
   have hxo:=hid hxa.2.2.2
   have i1:(k:Int)<(nr:Int):=by omega
   have i0:(0:Int)<=(k:Int):=by omega
   have q1:(0:Int)<=(x.1:Int):=by omega
   have q2:(x.1:Int)<=(A.st:Int)-1:=by have:=hxa.1; omega
   have q3:(0:Int)<=(x.2.2.1:Int):=by omega
   have q4:(x.2.2.1:Int)<=(A.st:Int)-1:=by have:=hxa.2.1; omega
   have q5:(0:Int)<=(x.2.1:Int):=by omega
   have q6:(x.2.1:Int)<=(syms:Int):=by have:=hxa.2.2.1; omega
   clear hxa hxk
   have hbX:Below wr.heap.size wr (wr.alloc (.cells (acC x).toArray 54)):=qJ _
   have hX:=Bl.fresh wr (acC x) 54
   go_upto_region 7 with ((first | ((with_reducible refine jV rfl _ rfl b (off+k*11) ?_ x hcs ?_); exact rfl) | ((with_reducible refine jZ rfl _ _ rfl _ _ ?_ x ?_ ?_ ?_); exact rfl; exact rfl; exact rfl)))
   clear x0 x1 x2 x3 x4 x5 x6
   have hG2:=(hG.next hb).next hbX
   have hb2:=hb.trans (hbX.mono hb.size)
   generalize hW2:(wr.alloc (.cells (acC x).toArray 54))=W2 at *
   clear hW2
   obtain ⟨⟨x0,x1,x2,x3⟩,x4,x5,x6⟩:=hG2.seven
   obtain ⟨⟨z0,z1,z2,z3⟩,⟨z4,z5,z6,z7⟩,z8,z9,z10⟩:=hX.eleven
   replace hb2:=hid hb2
   clear hb hbX hG2 hX hcs
   go_wp2_with fail
   refine (q6t q1 q2 _).mono ?_; rintro e w5 ⟨rfl,rfl⟩
   go_wp2_with fail
   refine (q6t q3 q4 _).mono ?_; rintro e w5 ⟨rfl,rfl⟩
   go_wp2_with fail
   refine (q6t q5 q6 _).mono ?_; rintro e w5 ⟨rfl,rfl⟩
   go_wp2_with fail
   refine (q3b (wt x) hxo.out _).mono ?_; rintro e w6 ⟨rfl,hb6⟩
   have hb7:=hid (hb2.out.trans (hb6.mono hb2.out.size))
   clear hb6
   go_wp2_with fail
   go_roundw
   case rel=>exact ⟨k+1,by omega,by go_num,hb7.out⟩
   case measure=>simp [intOf]; omega
  ·obtain rfl:k=nr:=by omega
   have i1:¬ (k:Int)<(k:Int):=by omega
   have hbe:=hid (qQ hb0 hb)
   go_wp2_with fail
   go_ret
   exact ⟨rfl,hbe.out⟩
end
section
open Go.RowKit
theorem z6e:∀ v∈rgC,v.oneCell'=true:=fun v hv=>by
 simp only [List.mem_cons,List.not_mem_nil,or_false] at hv
 rcases hv with rfl | rfl<;>rfl
theorem j5i (w:World):Calls Tryz.prog 95 #[.agg #[.int .i64 2,.slice none 0 0]] w fun e w'=>e=.returned (.agg #[.int .i64 2,.slice none 0 0])/\Below w.heap.size w w':=by
 have hb0:Below w.heap.size w ((w.alloc (.cells #[.int .i64 2,.slice none 0 0] 26)).alloc (.cells #[.int .i64 0,.slice none 0 0] 26)):=qQ (qJ _) (qJ _)
 have hA:=(Bl.fresh w rgC 26).new (.cells #[.int .i64 0,.slice none 0 0] 26)
 have hR:=Bl.fresh' (G:=w.heap.size+1) (w.alloc (.cells #[.int .i64 2,.slice none 0 0] 26)) [.int .i64 0,.slice none 0 0] 26 (by simp)
 go_enter Tryz.func95,Tryz.ntmps95
 go_upto_region 1 with fail
 obtain ⟨W1,hW1⟩:∃ W1,W1=((w.alloc (.cells #[.int .i64 2,.slice none 0 0] 26)).alloc (.cells #[.int .i64 0,.slice none 0 0] 26)):=⟨_,rfl⟩
 rw [<-hW1] at hA hR hb0
 have hdr:=(Below.refl W1.heap.size W1).drew
 have hS:Cs W1.drew w.heap.size 0 rgC:=(hA.next hdr).cs
 have hR1:=hR.next hdr
 have hb1:=qQ hb0 hdr
 subst hW1
 clear hA hR hb0 hdr
 refine qV (fun w'=>Cs w' w.heap.size 0 rgC) [6] (by kernel_rfl) ?_
 refine wAp 0 (some 3) rfl rfl hS ?_
 refine wAl 1 (some 4) (v:=?_) rfl rfl ?_ hS ?_
 rotate_left
 ·intro wz hw; refine qK w.heap.size 0 ?_ (.int .i64 2) (by have h:=hw 0 _ rfl; simpa using h) _ Tryz.underlying3 rfl; go_simp
 refine wAp 2 (some 5) rfl rfl hS ?_
 refine wAl 3 (some 6) (v:=?_) rfl rfl ?_ hS ?_
 rotate_left
 ·intro wz hw; refine qK w.heap.size 1 ?_ (.slice none 0 0) (by have h:=hw 1 _ rfl; simpa using h) _ Tryz.underlying22 rfl; go_simp
 refine wpO (i:=4) rfl fun KK hKK=>?_
 go_simp
 refine hKK _ _ ⟨fun _=>(hS),?_⟩; clear hKK KK
 refine wAp 5 (some 8) rfl rfl (hS) ?_
 refine wpO (i:=6) rfl fun KK hKK=>?_
 rw [if_pos (by rfl)]
 with_reducible refine qB 26 (.tmp 2) (.tmp 8) ?_ (w.heap.size+1) 26 [.int .i64 0,.slice none 0 0] hR1 ?_ rgC ?_ ?_ ?_ ?_ ?_
 ·rfl
 ·rfl
 ·rfl
 ·go_simp
 ·exact z6e
 ·exact Tryz.sizeRing
 intro w9 hR9 hfr9
 refine lN hKK ?_; clear hKK KK
 refine qZ (by kernel_rfl) ?_ _
 go_wp2_with fail
 exact bodyPost_ret (qN rfl _ _ (w.heap.size+1) rgC _ rfl hR9.cs Tryz.underlying26 rfl Tryz.sizeRing) rfl ⟨rfl,hb1.trans (hfr9.below (fun k e=>by omega) hb1.size)⟩
theorem q8b (xs:List Tw) (ao:OA) (n ca:Nat) (w:World) (hv:∀ v∈xs,vW v) (hn:n<=64) (hx:Fl 8 w ao n ca (xs.map twC)):Calls Tryz.prog 96 #[.agg #[.int .i64 2,.slice none 0 0],.slice ao n ca] w fun e w'=>(∃ bo cb,e=.returned (.slice bo n cb)/\FO 45 8 w' w.heap.size (.slice bo n cb) (xs.map twC))/\Below w.heap.size w w':=by
 have hb0:Below w.heap.size w (w.alloc (.cells #[.int .i64 2,.slice none 0 0] 26)):=qJ _
 have hA:=Bl.fresh w rgC 26
 have hl:=hid hx.lenMap
 replace hx:=hid (hx.next hb0)
 replace hv:=hid hv
 go_enter Tryz.func96,Tryz.ntmps96
 go_wp2_with fail
 generalize (w.alloc (.cells #[.int .i64 2,.slice none 0 0] 26))=W1 at *
 go_loopw [5,6] (fun ov iv wr=>∃ k:Nat,k<=n/\iv=.int .i64 (k:Int)/\FO 45 8 wr W1.heap.size ov ((xs.take k).map twC)/\Below W1.heap.size W1 wr) (fun _ iv _=>n-(intOf iv).toNat)
 case atStart=>exact ⟨0,by omega,rfl,FO.nil _ _ _ _,Below.refl _ _⟩
 case round =>
  obtain ⟨k,hk,rfl,hown,hb⟩:=hrel
  by_cases hlt:k<n
  ·obtain ⟨x,hxk,b1,o1,rfl,hc1⟩:=(hx.out.next hb).get hlt
   have i1:(k:Int)<(n:Int):=by omega
   have i0:(0:Int)<=(k:Int):=by omega
   have hxo:=hid (hv.out x (List.mem_of_getElem? hxk))
   have htk:Hid ((xs.take (k+1)).map twC=(xs.take k).map twC++[twC x]):=hid (by rw [jR hxk,List.map_append]; rfl)
   have hlk:((xs.take k).map twC).length=k:=by rw [List.length_map,List.length_take,hl.out]; omega
   clear hxk
   go_upto_region 5 with fail
   have hdr:=(Below.refl wr.heap.size wr).drew
   have hS:Cs wr.drew w.heap.size 0 rgC/\Cs wr.drew b1 (o1+k*8) (twC x):=⟨((hA.next hb).next hdr).cs,hc1.next hdr⟩
   have hK:∀ w' w'',(Cs w' w.heap.size 0 rgC/\Cs w' b1 (o1+k*8) (twC x))->Below w'.heap.size w' w''->(Cs w'' w.heap.size 0 rgC/\Cs w'' b1 (o1+k*8) (twC x)):=fun w' w'' h hb=>⟨h.1.next hb,h.2.next hb⟩
   have hb1:=hb.trans (hdr.mono hb.size)
   have hown1:=hown.next hdr
   clear hc1 hdr hb hown
   refine qV (fun w'=>Cs w' w.heap.size 0 rgC/\Cs w' b1 (o1+k*8) (twC x)) [8,9] (by kernel_rfl) ?_
   refine wAp 0 (some 13) rfl rfl hS ?_
   refine wAl 1 (some 14) (v:=?_) rfl rfl ?_ hS ?_
   rotate_left
   ·intro wz hw; refine qX w.heap.size 0 ?_ hw.1; go_simp
   refine wAp 2 (some 15) rfl rfl hS ?_
   refine wAp 3 (some 16) rfl rfl hS ?_
   refine wAp 4 (some 17) rfl rfl hS ?_
   refine wAl 5 (some 18) (v:=?_) rfl rfl ?_ hS ?_
   rotate_left
   ·intro wz hw; refine qY b1 (o1+k*8) ?_ x hw.2; go_simp
   refine wpO (i:=6) rfl fun KK hKK=>?_
   go_simp
   go_at_call 114
   refine (q0r x hxo.out _).mono ?_; rintro e w2 ⟨rfl,hb2⟩
   have hown2:=hown1.next hb2
   have hb3:=hb1.trans (hb2.mono hb1.size)
   try go_simp
   refine hKK _ _ ⟨fun _=>(hK _ _ hS hb2),?_⟩; clear hKK KK
   refine wpO (i:=7) rfl fun KK hKK=>?_
   have hbN:Below w2.heap.size w2 (w2.alloc (.cells (twC x).toArray 45)):=qJ _
   have hnew:=Cs.fresh w2 (twC x) 45
   have hown3:=hown2.next hbN
   have hb4:=hb3.trans (hbN.mono hb3.size)
   go_simp
   refine hKK _ _ ⟨fun _=>(hK _ _ (hK _ _ hS hb2) hbN),?_⟩; clear hKK KK
   refine wpO (i:=8) rfl fun KK hKK=>?_
   rw [if_pos (by rfl)]
   refine jP (.tmp 13) (.tmp 20) 27 rfl 45 (.agg #[.bool false,.slice none 0 0,.slice none 0 0,.int .i64 0,.bool false,.int .u64 0,.slice none 0 0,.slice none 0 0]) 8 128 Tryz.underlying27 Tryz.infoTw rfl (by decide) W1.heap.size _ _ rfl hown3 w2.heap.size 0 1 1 [twC x] rfl rfl (by decide) (zH [x]) (by simp only [List.flatten_cons,List.flatten_nil,List.append_nil]; exact hnew) (zG [x]) (by rw [hlk]; omega) (by rw [hlk]; omega) hb4.size ?_
   intro v' w5 hown4 hg5 hb5 _
   refine lN hKK ?_; clear hKK KK
   refine wpO (i:=9) rfl fun KK hKK=>?_
   go_simp
   refine lN hKK ?_; clear hKK KK
   refine qZ (by kernel_rfl) ?_ _
   have hb6:=hb4.trans hb5
   go_wp2_with fail
   go_roundw
   case rel=>exact ⟨k+1,by omega,by go_num,by rw [htk.out]; exact hown4,hb6⟩
   case measure=>simp [intOf]; omega
  ·obtain rfl:k=n:=by omega
   have i1:¬ (k:Int)<(k:Int):=by omega
   rw [List.take_of_length_le (by rw [hl.out]; exact Nat.le_refl _)] at hown
   obtain ⟨bo,cb,hv2⟩:=hown.form
   subst hv2
   rw [List.length_map,hl.out] at hown
   simp only [List.length_map,hl.out]
   replace hown:=hid hown
   go_wp2_with fail
   go_ret
   exact ⟨⟨bo,cb,rfl,hown.out.mono hb0.size⟩,qQ hb0 hb⟩
end
section
open Go.RowKit
noncomputable def rA (n:Nat):Code:=(Tryz.f97.body.bind (q3p n)).getD .skip
noncomputable def rAr (n:Nat):Code:=(Tryz.f97.body.bind (q3e n)).getD .skip
def ArB (x:Ac):Prop:=x.1<=1000000/\x.2.1<=1000000/\x.2.2.1<=1000000
def At (K:List Ac) (x:Ac) (q:Nat):Prop:=q<=K.length/\(∀ j y,j<q->K[j]? = some y->klt (ky y) (ky x))/\∀ y,K[q]? = some y->¬ klt (ky y) (ky x)
theorem z4g (K:List Ac) (x:Ac) (hK1:Hid (∀ y∈K,ArB y)) (hx1:ArB x) (oo:OA) (m oc X:Nat) (w:World) (hf:Fl 11 w oo m oc (K.map acC)) (hX:Bl X (acC x) 54 w)
  {c0 c1 c2 c3 c4 c6 c9 Aa Ab Ad Ae Af Ag Ah Ak Al Am An Ao Ap Aq Ar As Av Aw Ax Ay Az Ba Bb Bc Be Bf Bh Bi Bj Bk Bm Bn Bo Bp Bq Br Bs Bt Bu Bv Bw Bx By Bz Ca Cb Cc Cd Ce Cf Cg Ch Ci Cj Ck Cl Cm Cn Co Cp Cq Cr Ct Cu Cv Cw Cx Cy Cz Da Db Dc Dd De Df Dg Dh Di Dj Dk Dl Dn Dp Dq Dr Dt Du Dv Dw Dx:Value} {Q0:EP} (hpan:∀ c (a:Act) d v w,Q0 (.panic c) (a.put d v) w->Q0 (.panic c) a w)
  (hexit:∀ (Dy Dz Ea Eb Ec Ed Ee Ef Eg Eh Ei Ej Ek El Em:Value) (q:Nat) (w':World),At K x q->Below w.heap.size w w'->Q0 .normal ⟨#[c0,c1,c2,c3,c4,.slice oo m oc,c6,.pointer (some ⟨X,0,none⟩),.int .i64 (q:Int),c9,Aa,Ab,Ad,Ae,Af,Ag,Ah,Ak,Al,Am,An,Ao,Ap,Aq,Ar,As,Dy,Dz,Ea,Eb,Ec,Ed,Ee,Ef,Eg,Eh,Ei,Ej,Ek,El,Em,Bn,Bo,Bp,Bq,Br,Bs,Bt,Bu,Bv,Bw,Bx,By,Bz,Ca,Cb,Cc,Cd,Ce,Cf,Cg,Ch,Ci,Cj,Ck,Cl,Cm,Cn,Co,Cp,Cq,Cr,Ct,Cu,Cv,Cw,Cx,Cy,Cz,Da,Db,Dc,Dd,De,Df,Dg,Dh,Di,Dj,Dk,Dl,Dn,Dp,Dq,Dr,Dt,Du,Dv,Dw,Dx],[]⟩ w') :
  Code.wp Tryz.prog (rA 2) Q0 ⟨#[c0,c1,c2,c3,c4,.slice oo m oc,c6,.pointer (some ⟨X,0,none⟩),.int .i64 0,c9,Aa,Ab,Ad,Ae,Af,Ag,Ah,Ak,Al,Am,An,Ao,Ap,Aq,Ar,As,Av,Aw,Ax,Ay,Az,Ba,Bb,Bc,Be,Bf,Bh,Bi,Bj,Bk,Bm,Bn,Bo,Bp,Bq,Br,Bs,Bt,Bu,Bv,Bw,Bx,By,Bz,Ca,Cb,Cc,Cd,Ce,Cf,Cg,Ch,Ci,Cj,Ck,Cl,Cm,Cn,Co,Cp,Cq,Cr,Ct,Cu,Cv,Cw,Cx,Cy,Cz,Da,Db,Dc,Dd,De,Df,Dg,Dh,Di,Dj,Dk,Dl,Dn,Dp,Dq,Dr,Dt,Du,Dv,Dw,Dx],[]⟩ w:=by
 conv=>arg 2; whnf
 have hbf:=hf.bound
 have hl:=hid hf.lenMap
 replace hf:=hid hf
 replace hX:=hid hX
 replace hexit:=hid hexit
 go_wp2_with fail
 go_loopw [8] (fun iv wr=>∃ q:Nat,q<=m/\iv=.int .i64 (q:Int)/\Hid (∀ j y,j<q->K[j]? = some y->klt (ky y) (ky x))/\Below w.heap.size w wr) (fun iv _=>m-(intOf iv).toNat)
 case atStart=>exact ⟨0,by omega,rfl,hid (fun j y h=>by omega),Below.refl _ _⟩
 case round =>
  obtain ⟨q,hq,rfl,hlow,hb⟩:=hrel
  have i0:(0:Int)<=(q:Int):=by omega
  by_cases hlt:q<m
  ·obtain ⟨y,hyk,b,off,rfl,hcs⟩:=(hf.out.next hb).get hlt
   have hyB:=hK1.out y (List.mem_of_getElem? hyk)
   have i1:(q:Int)<(m:Int):=by omega
   have i2:decide ((q:Int)<(m:Int))=true:=decide_eq_true i1
   have i3:decide (q<m)=true:=decide_eq_true hlt
   obtain ⟨z,hz⟩:∃ z,j2l (ky y) (ky x)=z:=⟨_,rfl⟩
   have hE:=hid (fun w=>by have h:=q5t y x hyB hx1 w; rw [hz] at h; exact h)
   obtain ⟨bq,hbq⟩:∃ bq,decide (z<0)=bq:=⟨_,rfl⟩
   have hres:Hid (bq=true↔klt (ky y) (ky x)):=hid (by rw [<-hbq,decide_eq_true_iff,<-hz]; exact q7k)
   replace hyk:=hid hyk
   replace hbq:=hid hbq
   clear hz
   go_upto_region 8 with fail
   have hdr:=(Below.refl wr.heap.size wr).drew
   have hS:Cs wr.drew b (off+q*11) (acC y)/\Cs wr.drew X 0 (acC x):=⟨hcs.next hdr,((hX.out.next hb).next hdr).cs⟩
   have hK:∀ w' w'',(Cs w' b (off+q*11) (acC y)/\Cs w' X 0 (acC x))->Below w'.heap.size w' w''->(Cs w'' b (off+q*11) (acC y)/\Cs w'' X 0 (acC x)):=fun w' w'' h hb=>⟨h.1.next hb,h.2.next hb⟩
   have hb1:=qQ hb hdr
   clear hcs hdr hb
   refine qV (fun w'=>Cs w' b (off+q*11) (acC y)/\Cs w' X 0 (acC x)) [] (by kernel_rfl) ?_
   refine wBp 0 hpan (some 26) rfl rfl hS ?_
   refine wBp 1 hpan (some 27) rfl rfl hS ?_
   refine wBp 2 hpan (some 28) rfl rfl hS ?_
   refine wBl 3 hpan (some 29) (v:=.bool true) rfl rfl ?_ hS ?_
   ·intro wz _; first | (go_simp; done) | (go_simp; with_reducible rfl)
   refine wBl 4 hpan (some 30) (v:=.bool true) rfl rfl ?_ hS ?_
   ·intro wz _; first | (go_simp; done) | (go_simp; with_reducible rfl)
   refine wBg 5 hpan (some 31) rfl rfl hS ?_
   refine wBg 6 hpan (some 32) rfl rfl hS ?_
   refine wBg 7 hpan (some 33) rfl rfl hS ?_
   refine wBm 8 hpan (some 34) (v:=?_) rfl rfl ?_ hS ?_
   rotate_left
   ·intro wz hw; refine jQ b (off+q*11) ?_ y hw.1; go_simp
   refine wBm 9 hpan (some 35) (v:=?_) rfl rfl ?_ hS ?_
   rotate_left
   ·intro wz hw; refine jQ X 0 ?_ x hw.2; go_simp
   refine wpO (i:=10) rfl fun KK hKK=>?_
   rw [if_pos (by kernel_rfl)]
   go_simp
   go_at_call 42
   refine (hE.out _).mono ?_; rintro e w2 ⟨rfl,hb2⟩
   try go_simp
   refine hKK _ _ ⟨fun _=>(hK _ _ hS hb2),?_⟩; clear hKK KK
   refine wBg 11 hpan (some 37) rfl rfl (hK _ _ hS hb2) ?_
   refine wBp 12 hpan (some 38) rfl rfl (hK _ _ hS hb2) ?_
   refine qZ (by kernel_rfl) ?_ _
   have hb3:=qQ hb1 hb2
   try go_simp
   rw [hbq.out]
   cases bq with
   | true =>
    have hn:Hid (∀ j y,j<q+1->K[j]? = some y->klt (ky y) (ky x)):=hid (fun j y' hj hy'=>by
     by_cases e:j=q
     ·subst e; have h1:=hyk.out; rw [hy'] at h1; rw [Option.some.inj h1]; exact hres.out.1 rfl
     ·exact hlow.out j y' (by omega) hy')
    go_wp2_with fail
    go_roundw
    case rel=>exact ⟨q+1,by omega,by go_num,hn,hb3⟩
    case measure=>simp [intOf]; omega
   | false =>
    have hat:Hid (At K x q):=hid ⟨by rw [hl.out]; exact hq,hlow.out,fun y' hy'=>by have h1:=hyk.out; rw [hy'] at h1; rw [Option.some.inj h1]; exact fun h=>by have:=hres.out.2 h; cases this⟩
    go_wp2_with fail
    exact hexit.out _ _ _ _ _ _ _ _ _ _ _ _ _ _ _ q _ hat.out hb3
  ·obtain rfl:q=m:=by omega
   have hat:Hid (At K x q):=hid ⟨by rw [hl.out]; exact hq,hlow.out,fun y' hy'=>by have:=(List.getElem?_eq_some_iff.1 hy').1; have:=hl.out; omega⟩
   go_upto_region 8 with fail
   have hdr:=(Below.refl wr.heap.size wr).drew
   have hb1:=qQ hb hdr
   have hS:True:=trivial
   refine qV (fun w'=>True) [] (by kernel_rfl) ?_
   refine wBp 0 hpan (some 26) rfl rfl hS ?_
   refine wBp 1 hpan (some 27) rfl rfl hS ?_
   refine wBp 2 hpan (some 28) rfl rfl hS ?_
   refine wBl 3 hpan (some 29) (v:=.bool false) rfl rfl ?_ hS ?_
   ·intro wz _; first | (go_simp; done) | (go_simp; with_reducible rfl)
   refine wBl 4 hpan (some 30) (v:=.bool false) rfl rfl ?_ hS ?_
   ·intro wz _; first | (go_simp; done) | (go_simp; with_reducible rfl)
   refine wBu 5 hpan (some 31) rfl rfl hS ?_
   go_simp
   refine wBu 6 hpan (some 32) rfl rfl hS ?_
   go_simp
   refine wBu 7 hpan (some 33) rfl rfl hS ?_
   go_simp
   refine wBu 8 hpan (some 34) rfl rfl hS ?_
   go_simp
   refine wBu 9 hpan (some 35) rfl rfl hS ?_
   go_simp
   refine wBu 10 hpan (some 36) rfl rfl hS ?_
   go_simp
   refine wBu 11 hpan (some 37) rfl rfl hS ?_
   go_simp
   refine wBl 12 hpan (some 38) (v:=.bool false) rfl rfl ?_ hS ?_
   ·intro wz _; first | (go_simp; done) | (go_simp; with_reducible rfl)
   refine qZ (by kernel_rfl) ?_ _
   go_wp2_with fail
   exact hexit.out _ _ _ _ _ _ _ _ _ _ _ _ _ _ _ q _ hat.out hb1
end
section
open Go.RowKit
theorem j2h (w:World):(sizeOf (Tryz.prog.elem 28)).run Tryz.prog w=.ok 11 w:=by kernel_rfl
theorem q6k:Tryz.prog.underlying 28=some (.slice (Tryz.prog.elem 28)):=by kernel_rfl
theorem j7z (a:Addr):a.add 0=a:=by cases a; rfl
theorem z5s {w:World} {ao:OA} {n cap:Nat} {L:List Ac} (h:Fl 11 w ao n cap (L.map acC)) {k:Nat} (hk:k<=n) :
  ∃ a c,(∀ W,(Instr.sliceAt 28 (.slice ao n cap) none (some (.int .i64 (k:Int))) none).run Tryz.prog W=.ok (.slice a k c) W)/\Fl 11 w a k c ((L.take k).map acC):=by
 refine ⟨ao,cap,fun W=>?_,by rw [List.map_take]; exact h.pre hk⟩
 have hc:=h.le
 rw [run_sliceAt_slice (h:=q6k),run_slice_h (ht:=q6k) (h0:=by omega) (h2:=by omega),j2h]
 show Result.ok (sliced ao 0 (Int.toNat (k:Int)) cap 11) W=_
 unfold sliced
 have:ao.map (fun a=>a.add (0*11))=ao:=by cases ao with
  | none=>rfl
  | some a=>exact congrArg some (j7z a)
 simp only [this,ite_self,Int.toNat_natCast,Nat.sub_zero]
theorem z0q {w:World} {ao:OA} {n cap:Nat} {L:List Ac} (h:Fl 11 w ao n cap (L.map acC)) (hp:ao=none\/∃ b,ao=some ⟨b,0,none⟩) {k:Nat} (hk:k<=n) :
  ∃ a c,(∀ W,(Instr.sliceAt 28 (.slice ao n cap) (some (.int .i64 (k:Int))) none none).run Tryz.prog W=.ok (.slice a (n-k) c) W)/\Fl 11 w a (n-k) c ((L.drop k).map acC):=by
 have hc:=h.le
 refine ⟨if cap=k then ao else ao.map (fun a=>a.add (k*11)),cap-k,fun W=>?_,?_⟩
 ·rw [run_sliceAt_slice (h:=q6k),run_slice_l (ht:=q6k) (h0:=by omega) (h1:=by omega),j2h]
  show Result.ok (sliced ao (Int.toNat (k:Int)) n cap 11) W=_
  unfold sliced
  rw [Int.toNat_natCast]
 ·have hlen:=h.lenMap
  have hmost:=h.most
  by_cases he:cap=k
  ·have hn:n=k:=by omega
   rw [if_pos he,hn,Nat.sub_self,List.drop_eq_nil_of_le (by omega)]
   exact ⟨rfl,Nat.zero_le _,by omega,fun _=>by omega,fun i cs h=>by simp at h⟩
  ·rw [if_neg he]
   rcases hp with rfl | ⟨b,rfl⟩
   ·have:=h.nil rfl; omega
   ·have h2:=h.slice hk (Nat.le_refl n)
    rw [List.take_of_length_le (by rw [List.length_map]; omega),<-List.map_drop] at h2
    show Fl 11 w (some ((⟨b,0,none⟩:Addr).add (k*11))) _ _ _
    rw [Addr.add_lit]
    exact h2
theorem q9o {P:Program} {w:World} {o:Oper} {a:Act} {K:Act->World->Prop} {Q:EP} (s x:Operand) (t:TypeId)
  (ho:o.op=.call { callee:=.builtin .append,args:=#[s,x],argTypes:=#[t,t] }) (e:TypeId) (z:Value) (k bytes:Nat) (ht:P.underlying t=some (.slice e))
  (hinfo:(P.info? e).map (fun i=>(i.zero,i.size,i.bytes))=some (some z,k,bytes)) (hzs:z.cells.size=k) (hk:0<k)
  (base:Nat) (v:Value) (css:List (List Value)) (hs:a.eval s=v) (hown:FO e k w base v css)
  (ad:Addr) (m c:Nat) (new:List (List Value)) (hx:a.eval x=.slice (some ad) m c) (hfl:Fl k w (some ad) m c new) (hnk:∀ cs∈new,cs.length=k) (h1:∀ cs∈new,∀ u∈cs,u.oneCell'=true)
  (hroom:(css.length+m)*bytes<=140737488355328) (hml:css.length+m<=9223372036854775807) (hbase:base<=w.heap.size)
  (h:∀ v' w',FO e k w' base v' (css++new)->w.grownBy w' v.ownBlock->Below base w w'->K (a.put o.dst v') w'):o.wp P a w K Q:=by
 obtain ⟨i,hi,hz,hsz,hby⟩:=info_parts hinfo
 obtain ⟨hown1,hown2⟩:=hown
 have hm:=hfl.len
 have hl:new.flatten.length=m*k:=by rw [vS hnk,hm]
 obtain ⟨v',w',hr,ho',hg,_⟩:=run_append_own (P:=P) w base t o.type e i z k bytes ht hi hz hsz hby hzs hk v css.length css.flatten hown1 ad m c new.flatten hl (fun j u hj=>by
  have hjl:=(List.getElem?_eq_some_iff.1 hj).1
  have hjk:j<m*k:=by omega
  have hq:j/k<m:=(Nat.div_lt_iff_lt_mul hk).2 hjk
  have hq':j/k<new.length:=by omega
  obtain ⟨b,o,e1,hc⟩:=hfl.at_ (j/k) _ (List.getElem?_eq_getElem hq')
  have hcl:(new[j/k]).length=k:=hnk _ (List.getElem_mem hq')
  have hr:j%k<(new[j/k]).length:=by rw [hcl]; exact Nat.mod_lt _ hk
  have hcell:=hc (j%k) _ (List.getElem?_eq_getElem hr)
  have hf:=q2r hnk (List.getElem?_eq_getElem hq') (List.getElem?_eq_getElem hr)
  have hj2:j/k*k+j%k=j:=by rw [Nat.mul_comm]; exact Nat.div_add_mod j k
  rw [hj2,hj] at hf
  injection e1 with e1
  subst e1
  rw [Addr.add_lit,show o+j=o+j/k*k+j%k by rw [Nat.add_assoc,hj2]]
  rw [hcell]
  exact hf.symm) (fun u hu=>by
  obtain ⟨cs,hcs,hu⟩:=List.mem_flatten.1 hu
  exact h1 cs hcs u hu) (by unfold maxLen; omega) hroom hbase
 unfold Oper.wp execOp
 simp only [ho,resolve,invoke,builtin,Sem.run_bind,Sem.run_pure,Result.andThen_ok,List.map_toArray,List.map_cons,List.map_nil,hs,hx,hr]
 refine h v' w' ⟨?_,fun cs hcs=>?_⟩ hg ((Below.refl _ _).grown hg hbase (fun k hk=>(hown1.lt k hk).1))
 ·rw [List.length_append,hm,List.flatten_append]
  exact ho'
 ·rcases List.mem_append.1 hcs with hcs | hcs
  ·exact hown2 cs hcs
  ·exact hnk cs hcs
theorem q3d {w:World} {o:Oper} {a:Act} {K:Act->World->Prop} {Q:EP} (s x:Operand)
  (ho:o.op=.call { callee:=.builtin .append,args:=#[s,x],argTypes:=#[28,28] })
  (base:Nat) (v:Value) (xs:List Ac) (hs:a.eval s=v) (hown:FO 54 11 w base v (xs.map acC))
  (ao:OA) (m c:Nat) (ys:List Ac) (hx:a.eval x=.slice ao m c) (hfl:Fl 11 w ao m c (ys.map acC)) (hroom:xs.length+m<=100000) (hbase:base<=w.heap.size)
  (h:∀ v' w',FO 54 11 w' base v' ((xs++ys).map acC)->w.grownBy w' v.ownBlock->Below base w w'->K (a.put o.dst v') w'):o.wp Tryz.prog a w K Q:=by
 cases ao with
 | none =>
  obtain rfl:=hfl.nil rfl
  have hm0:m=0:=by have:=hfl.le; omega
  subst hm0
  have hys:ys=[]:=List.eq_nil_of_length_eq_zero hfl.lenMap
  subst hys
  have hrun:=run_append_owned_none (P:=Tryz.prog) (w:=w) base 28 o.type 54 _ 11 Tryz.underlying28 (info_parts Tryz.infoArc).choose_spec.1 v _ _ hown.1
  unfold Oper.wp
  simp [execOp,ho,resolve,invoke,builtin,hs,hx,hrun,Result.andThen]
  exact h v w (by simpa using hown) (World.grownBy.refl _ _) (Below.refl _ _)
 | some ad =>
  refine q9o s x 28 ho 54 _ 11 152 Tryz.underlying28 Tryz.infoArc rfl (by decide) base v _ hs hown ad m c _ hx hfl (vU ys) (kK ys) (by rw [List.length_map]; omega) (by rw [List.length_map]; omega) hbase ?_
  intro v' w' h1 h2 h3
  exact h v' w' (by rw [List.map_append]; exact h1) h2 h3
theorem j2m (K:List Ac) (x:Ac) (oo:OA) (m oc X q base:Nat) (hq:q<=m) (hm:m<=4096) (w:World) (hf:FO 54 11 w base (.slice oo m oc) (K.map acC)) (hX:Bl X (acC x) 54 w)
  {c0 c1 c2 c3 c4 c6 c9 Aa Ab Ad Ae Af Ag Ah Ak Al Am An Ao Ap Aq Ar As Av Aw Ax Ay Az Ba Bb Bc Be Bf Bh Bi Bj Bk Bm Bn Bo Bp Bq Br Bs Bt Bu Bv Bw Bx By Bz Ca Cb Cc Cd Ce Cf Cg Ch Ci Cj Ck Cl Cm Cn Co Cp Cq Cr Ct Cu Cv Cw Cx Cy Cz Da Db Dc Dd De Df Dg Dh Di Dj Dk Dl Dn Dp Dq Dr Dt Du Dv Dw Dx:Value} {Q0:EP} (hpan:∀ c (a:Act) d v w,Q0 (.panic c) (a.put d v) w->Q0 (.panic c) a w)
  (hexit:∀ (Dy Dz Ea Eb Ec Ed Ee Ef Eg Eh Ei:Value) (v':Value) (w':World),FO 54 11 w' w.heap.size v' ((K.take q++[x]++K.drop q).map acC)->Below w.heap.size w w'->Q0 .normal ⟨#[c0,c1,c2,c3,c4,v',c6,.pointer (some ⟨X,0,none⟩),.int .i64 (q:Int),c9,Aa,Ab,Ad,Ae,Af,Ag,Ah,Ak,Al,Am,An,Ao,Ap,Aq,Ar,As,Av,Aw,Ax,Ay,Az,Ba,Bb,Bc,Be,Bf,Bh,Bi,Bj,Bk,Bm,Bn,Bo,Bp,Bq,Br,Bs,Bt,Bu,Bv,Bw,Bx,By,Bz,Ca,Cb,Cc,Cd,Ce,Cf,Cg,Ch,Ci,Cj,Ck,Cl,Cm,Dy,Dz,Ea,Eb,Ec,Ed,Ee,Ef,Eg,Eh,Ei,Cz,Da,Db,Dc,Dd,De,Df,Dg,Dh,Di,Dj,Dk,Dl,Dn,Dp,Dq,Dr,Dt,Du,Dv,Dw,Dx],[]⟩ w') :
  Code.wp Tryz.prog (rAr 12) Q0 ⟨#[c0,c1,c2,c3,c4,.slice oo m oc,c6,.pointer (some ⟨X,0,none⟩),.int .i64 (q:Int),c9,Aa,Ab,Ad,Ae,Af,Ag,Ah,Ak,Al,Am,An,Ao,Ap,Aq,Ar,As,Av,Aw,Ax,Ay,Az,Ba,Bb,Bc,Be,Bf,Bh,Bi,Bj,Bk,Bm,Bn,Bo,Bp,Bq,Br,Bs,Bt,Bu,Bv,Bw,Bx,By,Bz,Ca,Cb,Cc,Cd,Ce,Cf,Cg,Ch,Ci,Cj,Ck,Cl,Cm,Cn,Co,Cp,Cq,Cr,Ct,Cu,Cv,Cw,Cx,Cy,Cz,Da,Db,Dc,Dd,De,Df,Dg,Dh,Di,Dj,Dk,Dl,Dn,Dp,Dq,Dr,Dt,Du,Dv,Dw,Dx],[]⟩ w:=by
 conv=>arg 2; whnf
 have hpl:=hf.place
 have hfl:=kG hf (j2c hf)
 have hbf:=hfl.bound
 obtain ⟨a1,c1,hs1,hf1⟩:=z5s hfl hq
 obtain ⟨a2,c2,hs2,hf2⟩:=z0q hfl hpl hq
 have hlk:=hid hfl.lenMap
 have hlt:(K.take q).length+4096<=100000:=by have:=List.length_take_le q K; omega
 have hlt2:(K.take q++[x]).length+4096<=100000:=by rw [List.length_append,List.length_singleton]; have:=List.length_take_le q K; omega
 have hbx:Below w.heap.size w w.drew:=(Below.refl w.heap.size w).drew
 have hS:Cs w.drew X 0 (acC x):=(hX.next hbx).cs
 replace hlk:=hid hlk
 clear hfl hf hpl
 refine qV (fun w'=>Cs w' X 0 (acC x)) [] (by kernel_rfl) ?_
 refine wBp 0 hpan (some 67) rfl rfl hS ?_
 refine wBp 1 hpan (some 68) rfl rfl hS ?_
 refine wBp 2 hpan (some 69) rfl rfl hS ?_
 refine wBl 4 hpan (some 71) (v:=?_) rfl rfl ?_ hS ?_
 rotate_left
 ·intro wz hw; refine jQ X 0 ?_ x hw; go_simp
 refine wBp 7 hpan (some 74) rfl rfl hS ?_
 refine wBp 8 hpan (some 75) rfl rfl hS ?_
 refine wBp 9 hpan (some 76) rfl rfl hS ?_
 go_simp
 refine jM (i:=3) (j:=5) ?_ rfl rfl (fun KK hKK=>?_) (fun KK hKK=>?_)
 ·kernel_rfl
 ·skip
  rw [if_pos (by rfl)]
  refine q3d (.const (.slice none 0 0)) (.tmp 69) rfl w.heap.size (.slice none 0 0) [] rfl (FO.nil _ _ _ _) a1 q c1 (K.take q) rfl (hf1.next hbx) (by simp only [List.length_nil]; omega) hbx.size ?_
  intro v3 w3 hv3 hg3 hb3
  rw [List.nil_append] at hv3
  try replace hnew:=hnew.next ((Below.refl _ _).grown hg3 (Nat.le_refl _) (fun k hk=>by cases hk))
  replace hbx:=hbx.trans hb3
  refine hKK _ _ ⟨fun _=>((hX.next hbx).cs),?_⟩; clear hKK KK
  refine wpO (i:=5) rfl fun KK hKK=>?_
  have hbN:Below w3.heap.size w3 (w3.alloc (.cells (acC x).toArray 54)):=qJ _
  have hnew:=Fl.lit1 w3 (acC x) 54 11 rfl
  try replace hv3:=hv3.next hbN
  replace hbx:=qQ hbx hbN
  go_simp
  refine hKK _ _ ⟨fun _=>((hX.next hbx).cs),?_⟩; clear hKK KK
  refine wpO (i:=6) rfl fun KK hKK=>?_
  rw [if_pos (by rfl)]
  refine q3d (.tmp 70) (.tmp 72) rfl w.heap.size v3 (K.take q) rfl hv3 (some ⟨w3.heap.size,0,none⟩) 1 1 [x] rfl hnew (by omega) hbx.size ?_
  intro v6 w6 hv6 hg6 hb6
  replace hbx:=hbx.trans hb6
  refine hKK _ _ ⟨fun _=>((hX.next hbx).cs),?_⟩; clear hKK KK
  refine wpO (i:=10) rfl fun KK hKK=>?_
  rw [if_pos (by rfl)]
  refine q3d (.tmp 73) (.tmp 76) rfl w.heap.size v6 (K.take q++[x]) rfl hv6 a2 (m-q) c2 (K.drop q) rfl (hf2.next hbx) (by omega) hbx.size ?_
  intro v10 w10 hv10 hg10 hb10
  replace hbx:=hbx.trans hb10
  refine hKK _ _ ⟨fun _=>((hX.next hbx).cs),?_⟩; clear hKK KK
  refine wBp 11 hpan (some 5) rfl rfl ((hX.next hbx).cs) ?_
  refine qZ (by kernel_rfl) ?_ _
  go_simp
  exact hexit _ _ _ _ _ _ _ _ _ _ _ v10 w10 hv10 hbx
 ·skip
  have hbN:Below w.drew.heap.size w.drew (w.drew.alloc (.cells (acC x).toArray 54)):=qJ _
  have hnew:=Fl.lit1 w.drew (acC x) 54 11 rfl
  try replace hv3:=hv3.next hbN
  replace hbx:=qQ hbx hbN
  go_simp
  refine hKK _ _ ⟨fun _=>((hX.next hbx).cs),?_⟩; clear hKK KK
  refine wpO (i:=3) rfl fun KK hKK=>?_
  rw [if_pos (by rfl)]
  refine q3d (.const (.slice none 0 0)) (.tmp 69) rfl w.heap.size (.slice none 0 0) [] rfl (FO.nil _ _ _ _) a1 q c1 (K.take q) rfl (hf1.next hbx) (by simp only [List.length_nil]; omega) hbx.size ?_
  intro v3 w3 hv3 hg3 hb3
  rw [List.nil_append] at hv3
  try replace hnew:=hnew.next ((Below.refl _ _).grown hg3 (Nat.le_refl _) (fun k hk=>by cases hk))
  replace hbx:=hbx.trans hb3
  refine hKK _ _ ⟨fun _=>((hX.next hbx).cs),?_⟩; clear hKK KK
  refine wpO (i:=6) rfl fun KK hKK=>?_
  rw [if_pos (by rfl)]
  refine q3d (.tmp 70) (.tmp 72) rfl w.heap.size v3 (K.take q) rfl hv3 (some ⟨w.drew.heap.size,0,none⟩) 1 1 [x] rfl hnew (by omega) hbx.size ?_
  intro v6 w6 hv6 hg6 hb6
  replace hbx:=hbx.trans hb6
  refine hKK _ _ ⟨fun _=>((hX.next hbx).cs),?_⟩; clear hKK KK
  refine wpO (i:=10) rfl fun KK hKK=>?_
  rw [if_pos (by rfl)]
  refine q3d (.tmp 73) (.tmp 76) rfl w.heap.size v6 (K.take q++[x]) rfl hv6 a2 (m-q) c2 (K.drop q) rfl (hf2.next hbx) (by omega) hbx.size ?_
  intro v10 w10 hv10 hg10 hb10
  replace hbx:=hbx.trans hb10
  refine hKK _ _ ⟨fun _=>((hX.next hbx).cs),?_⟩; clear hKK KK
  refine wBp 11 hpan (some 5) rfl rfl ((hX.next hbx).cs) ?_
  refine qZ (by kernel_rfl) ?_ _
  go_simp
  exact hexit _ _ _ _ _ _ _ _ _ _ _ v10 w10 hv10 hbx
end
end Go.Proofs.YtnapapijhhldpaaGreatDoor

/-
  Texts joined by program: Tve, WrdA, Tvf. No condition of its own.
-/
import Derived.Test.YtnapapijhhldpaaGreatDoorJkBK
namespace Go.Proofs.YtnapapijhhldpaaGreatDoor
set_option linter.unusedSimpArgs false
set_option linter.unusedVariables false
set_option maxRecDepth 100000
set_option maxHeartbeats 4000000
section
open Go.RowKit
theorem z5m {syms st:Nat} {iv fv rv:Value} {w:World} {b:Nat} (h:Cs w b 0 (auC syms st iv fv rv)):Cs w b 0 rgC:=fun c v hv=>h c v (by
 match c,hv with
 | 0,hv=>exact hv
 | 1,hv=>exact hv)
theorem q3s (l:Nat) (v:List Tw):∀ (L:List Ac) (S:List Tw),(∀ y∈S,vW y)->∀ y∈q2w l v L S,vW y
 | [],S,h=>h
 | x::L,S,h=>by
  show ∀ y∈q2w l v L (if x.2.1=l then j1x v x S else S),vW y
  refine q3s l v L _ ?_
  split
  ·intro y hy
   unfold j1x at hy
   rcases List.mem_or_eq_of_mem_set hy with hy | rfl
   ·exact h y hy
   ·refine q7u ?_ kM
    rw [List.getD_eq_getElem?_getD]
    cases e:S[x.2.2.1]? with
    | none=>exact Nat.zero_le _
    | some z=>exact h z (List.mem_of_getElem? e)
  ·exact h
theorem j4q (A:Au) (syms:Nat) (hV:Vo syms A) (l:Nat) (vs:List Tw) (hvl:vs.length=A.st) (hvo:∀ x∈vs,vW x) (io:OA) (ci:Nat) (fo:OA) (cf:Nat) (ro:OA) (nr cr:Nat) (vo:OA) (cv:Nat) (w:World) (h:Mo w syms A io ci fo cf ro nr cr) (hv:Fl 8 w vo A.st cv (vs.map twC)) :
  Calls Tryz.prog 75 #[.agg (auC syms A.st (.slice io A.st ci) (.slice fo A.st cf) (.slice ro nr cr)).toArray,.slice vo A.st cv,.int .i64 (l:Int)] w fun e w'=>∃ r,e=.returned r/\WR w' w.heap.size r (q2w l vs A.arcs (List.replicate A.st none))/\Below w.heap.size w w':=by
 have hnr:=hid h.arcs.lenMap
 have hbr:=h.arcs.bound
 have hbv:=hv.bound
 have hb0:Below w.heap.size w (w.alloc (.cells (auC syms A.st (.slice io A.st ci) (.slice fo A.st cf) (.slice ro nr cr)).toArray 30)):=qJ _
 have hB:=Bl.fresh w (auC syms A.st (.slice io A.st ci) (.slice fo A.st cf) (.slice ro nr cr)) 30
 replace h:=hid h.arcs
 replace hv:=hid hv
 obtain ⟨⟨a0,a1,a2,a3⟩,a4,a5,a6⟩:=hB.seven
 have hBc:=hB.cs
 go_enter Tryz.func75,Tryz.ntmps75
 go_upto_region 1 with fail
 generalize hW1:(w.alloc (.cells (auC syms A.st (.slice io A.st ci) (.slice fo A.st cf) (.slice ro nr cr)).toArray 30))=W1 at *
 have hBw:w.heap.size<W1.heap.size:=hB.lt
 clear hW1
 obtain ⟨O,hO⟩:∃ O,W1.heap.size=O:=⟨_,rfl⟩
 go_wp2_with ((with_reducible refine qM rfl _ rfl w.heap.size 0 ?_ (auC syms A.st (.slice io A.st ci) (.slice fo A.st cf) (.slice ro nr cr)) rfl hBc ?_); exact rfl)
 refine (j2n syms _ _ _ (kV _ _ _ _ _ _ _ _ _ _ _) A.st hV.st _).mono ?_; rintro e w1 ⟨rv,rfl,hrow,hb1⟩
 replace hB:=hB.next hb1
 replace hb0:=qQ hb0 hb1
 rw [hO] at hrow hBw
 obtain ⟨ao,cap,rfl⟩:=hrow.form
 simp only [List.length_map,List.length_replicate] at hrow ⊢
 clear a0 a1 a2 a3 a4 a5 a6 hb1 hBc
 obtain ⟨⟨a0,a1,a2,a3⟩,a4,a5,a6⟩:=hB.seven
 replace hrow:=hid hrow
 replace hb0:=hid hb0
 go_wp2_with fail
 go_loopw [15] (fun iv wr=>∃ k:Nat,k<=nr/\iv=.int .i64 (k:Int)/\WR wr O (.slice ao A.st cap) (q2w l vs (A.arcs.take k) (List.replicate A.st none))/\Bl w.heap.size (auC syms A.st (.slice io A.st ci) (.slice fo A.st cf) (.slice ro nr cr)) 30 wr/\Below w.heap.size w wr) (fun iv _=>nr-(intOf iv).toNat)
 case atStart=>exact ⟨0,Nat.zero_le _,rfl,hrow.out,hB,hb0.out⟩
 case round =>
  clear hrow hB hb0 a0 a1 a2 a3 a4 a5 a6
  obtain ⟨k,hk,rfl,hrow,hB,hb⟩:=hrel
  obtain ⟨S,hS0⟩:∃ S,q2w l vs (A.arcs.take k) (List.replicate A.st none)=S:=⟨_,rfl⟩
  have hSl:S.length=A.st:=by rw [<-hS0,q0x,List.length_replicate]
  rw [hS0] at hrow
  obtain ⟨⟨a0,a1,a2,a3⟩,a4,a5,a6⟩:=hB.seven
  by_cases hlt:k<nr
  ·obtain ⟨x,hxk,b,o,rfl,hcs⟩:=(h.out.next hb).get hlt
   obtain ⟨hx1,hx2,hx3,hx4⟩:=hV.arcs x (List.mem_of_getElem? hxk)
   have hsn:=q7y l vs hxk (List.replicate A.st none)
   rw [hS0] at hsn
   replace hsn:=hid hsn
   have hSo:∀ y∈S,vW y:=by rw [<-hS0]; exact q3s l vs _ _ (fun y hy=>by rw [(List.mem_replicate.1 hy).2]; exact Nat.zero_le _)
   have i1:(k:Int)<(nr:Int):=by omega
   have i0:(0:Int)<=(k:Int):=by omega
   have q1:(x.1:Int)<(A.st:Int):=by omega
   have q0:(0:Int)<=(x.1:Int):=by omega
   have j1:(x.2.2.1:Int)<(A.st:Int):=by omega
   have j0:(0:Int)<=(x.2.2.1:Int):=by omega
   clear hxk hS0
   have hbL:=qJ (w:=wr) (.cells (acC x).toArray 54)
   have hX:=Bl.fresh wr (acC x) 54
   have hrow2:=hid (hrow.next hbL)
   have hB2:=hid (hB.next hbL)
   have hb2:=hid (qQ hb hbL)
   have hwX:w.heap.size<wr.heap.size:=hB.lt
   obtain ⟨X,hXe⟩:∃ X,wr.heap.size=X:=⟨_,rfl⟩
   replace hv:=hid (hv.out.next hb2.out)
   replace hrow:=hid hrow
   replace hB:=hid hB
   replace hb:=hid hb
   go_upto_region 5 with ((first | ((with_reducible refine jV rfl _ rfl b (o+k*11) ?_ x hcs ?_); exact rfl) | ((with_reducible refine jZ rfl _ _ rfl _ _ ?_ x ?_ ?_ ?_); exact rfl; exact rfl; exact rfl)))
   clear hrow hB hb hcs hbL a0 a1 a2 a3 a4 a5 a6
   rw [hXe] at hX hwX
   try rw [hXe]
   generalize (wr.alloc (.cells (acC x).toArray 54))=W3 at *
   clear hXe
   have x1:=hX.cell (i:=1) rfl
   by_cases hlab:x.2.1=l
   ·subst hlab
    obtain ⟨y,hyk⟩:∃ y,S[x.2.2.1]? = some y:=⟨_,List.getElem?_eq_getElem (by omega)⟩
    obtain ⟨u,huk,bv,ov,rfl,hcu⟩:=hv.out.get hx1
    have hyo:=hSo y (List.mem_of_getElem? hyk)
    have huo:=hvo u (List.mem_of_getElem? huk)
    have hxo:vW (wt x):=hx4
    have hnew:Hid (q2w x.2.1 vs (A.arcs.take (k+1)) (List.replicate A.st none)=S.set x.2.2.1 (qP y (jH u (wt x)))):=hid (by
     rw [hsn.out,if_pos rfl]; unfold j1x
     rw [List.getD_eq_getElem?_getD,List.getD_eq_getElem?_getD,hyk,huk]; rfl)
    obtain ⟨g,rfl⟩:∃ g,ao=some ⟨g,0,none⟩:=by
     rcases hrow2.out.place with e | e
     ·subst e
      have h0:=kG hrow2.out (by rw [List.length_map,hSl])
      have h1:=h0.nil rfl
      have h2:=h0.le
      omega
     ·exact e
    have hcy:Cs W3 g (x.2.2.1*8) (twC y):=hrow2.out.cs (by rw [List.getElem?_map,hyk]; rfl)
    have hne:w.heap.size≠g:=by have:O<=g:=(hrow2.out.lt rfl).1; omega
    go_upto_region 6 with fail
    have hdr:=(Below.refl W3.heap.size W3).drew
    replace hrow2:=hid (hrow2.out.next hdr)
    replace hB2:=hid (hB2.out.next hdr)
    replace hb2:=hid (qQ hb2.out hdr)
    have hS:Cs W3.drew w.heap.size 0 rgC/\Cs W3.drew X 0 (acC x)/\Cs W3.drew bv (ov+x.1*8) (twC u)/\Cs W3.drew g (x.2.2.1*8) (twC y):=⟨z5m hB2.out.cs,(hX.next hdr).cs,hcu.next hdr,hcy.next hdr⟩
    have hK:∀ w' w'',(Cs w' w.heap.size 0 rgC/\Cs w' X 0 (acC x)/\Cs w' bv (ov+x.1*8) (twC u)/\Cs w' g (x.2.2.1*8) (twC y))->Below w'.heap.size w' w''->(Cs w'' w.heap.size 0 rgC/\Cs w'' X 0 (acC x)/\Cs w'' bv (ov+x.1*8) (twC u)/\Cs w'' g (x.2.2.1*8) (twC y)):=fun w' w'' h hb=>⟨h.1.next hb,h.2.1.next hb,h.2.2.1.next hb,h.2.2.2.next hb⟩
    clear hcu hcy hdr x1 hX
    refine qV (fun w'=>Cs w' w.heap.size 0 rgC/\Cs w' X 0 (acC x)/\Cs w' bv (ov+x.1*8) (twC u)/\Cs w' g (x.2.2.1*8) (twC y)) [22] (by kernel_rfl) ?_
    refine wAp 0 (some 23) rfl rfl hS ?_
    refine wAp 1 (some 24) rfl rfl hS ?_
    refine wAl 2 (some 25) (v:=?_) rfl rfl ?_ hS ?_
    rotate_left
    ·intro wz hw; skip; refine qW X 2 ?_ (.int .i64 ((x.2.2.1:Nat):Int)) (by have h:=hw.2.1 2 _ rfl; rw [Nat.zero_add] at h; exact h); go_simp
    refine wAp 3 (some 26) rfl rfl hS ?_
    refine wAl 4 (some 27) (v:=?_) rfl rfl ?_ hS ?_
    rotate_left
    ·intro wz hw; skip; refine qX w.heap.size 0 ?_ hw.1; go_simp
    refine wAp 5 (some 28) rfl rfl hS ?_
    refine wAp 6 (some 29) rfl rfl hS ?_
    refine wAl 7 (some 30) (v:=?_) rfl rfl ?_ hS ?_
    rotate_left
    ·intro wz hw; skip; refine qW X 2 ?_ (.int .i64 ((x.2.2.1:Nat):Int)) (by have h:=hw.2.1 2 _ rfl; rw [Nat.zero_add] at h; exact h); go_simp
    refine wAp 8 (some 31) rfl rfl hS ?_
    refine wAl 9 (some 32) (v:=?_) rfl rfl ?_ hS ?_
    rotate_left
    ·intro wz hw; skip; refine qY g (x.2.2.1*8) ?_ y hw.2.2.2; go_simp
    refine wAp 10 (some 33) rfl rfl hS ?_
    refine wAl 11 (some 34) (v:=?_) rfl rfl ?_ hS ?_
    rotate_left
    ·intro wz hw; skip; refine qX w.heap.size 0 ?_ hw.1; go_simp
    refine wAp 12 (some 35) rfl rfl hS ?_
    refine wAp 13 (some 36) rfl rfl hS ?_
    refine wAl 14 (some 37) (v:=?_) rfl rfl ?_ hS ?_
    rotate_left
    ·intro wz hw; skip; refine qW X 0 ?_ (.int .i64 ((x.1:Nat):Int)) (by have h:=hw.2.1 0 _ rfl; rw [Nat.zero_add] at h; exact h); go_simp
    refine wAp 15 (some 38) rfl rfl hS ?_
    refine wAl 16 (some 39) (v:=?_) rfl rfl ?_ hS ?_
    rotate_left
    ·intro wz hw; skip; refine qY bv (ov+x.1*8) ?_ u hw.2.2.1; go_simp
    refine wAp 17 (some 40) rfl rfl hS ?_
    refine wAl 18 (some 41) (v:=?_) rfl rfl ?_ hS ?_
    rotate_left
    ·intro wz hw; skip; refine qY X 3 ?_ (wt x) (by have h:=j0z hw.2.1; rw [Nat.zero_add] at h; exact h); go_simp
    go_simp
    refine wpO (i:=19) rfl fun KK hKK=>?_
    go_simp
    go_at_call 78
    refine (q4f u (wt x) huo hxo _).mono ?_; rintro e w4 ⟨rfl,hb4⟩
    replace hrow2:=hid (hrow2.out.next hb4)
    replace hB2:=hid (hB2.out.next hb4)
    replace hb2:=hid (qQ hb2.out hb4)
    try go_simp
    refine hKK _ _ ⟨fun _=>(hK _ _ hS hb4),?_⟩; clear hKK KK
    refine wpO (i:=20) rfl fun KK hKK=>?_
    go_simp
    go_at_call 77
    refine (q0s y (jH u (wt x)) hyo kM _).mono ?_; rintro e w5 ⟨rfl,hb5⟩
    replace hrow2:=hid (hrow2.out.next hb5)
    replace hB2:=hid (hB2.out.next hb5)
    replace hb2:=hid (qQ hb2.out hb5)
    try go_simp
    refine hKK _ _ ⟨fun _=>(hK _ _ (hK _ _ hS hb4) hb5),?_⟩; clear hKK KK
    refine wAp 21 (some 44) rfl rfl (hK _ _ (hK _ _ hS hb4) hb5) ?_
    refine wpO (i:=22) rfl fun KK hKK=>?_
    rw [if_pos (by rfl)]
    refine q4t 45 (.tmp 44) (.tmp 43) rfl 45 8 O g A.st cap (S.map twC) hrow2.out x.2.2.1 (x.2.2.1*8) (by rw [List.length_map]; omega) rfl rfl (twC (qP y (jH u (wt x)))) rfl rfl (q0f _) Tryz.sizeTw ?_
    intro w9 hr9 hf9
    refine lN hKK ?_; clear hKK KK
    refine qZ (by kernel_rfl) ?_ _
    have hr10:Hid (WR w9 O (.slice (some ⟨g,0,none⟩) A.st cap) (q2w x.2.1 vs (A.arcs.take (k+1)) (List.replicate A.st none))):=hid (by rw [hnew.out]; show FO _ _ _ _ _ _; rw [List.map_set]; exact hr9)
    have hB10:=hid (hB2.out.fr hf9 hne)
    have hb10:=hid (hb2.out.trans (hf9.below (fun k e=>by have:O<=g:=(hrow2.out.lt rfl).1; omega) hb2.out.size))
    clear hr9 hf9 hrow2 hB2 hb2 hS hK
    go_wp2_with fail
    go_roundw
    case rel=>exact ⟨k+1,by omega,by go_num,hr10.out,hB10.out,hb10.out⟩
    case measure=>simp [intOf]; omega
   ·have hl2:¬ (x.2.1:Int)=(l:Int):=by omega
    have hr10:Hid (WR W3 O (.slice ao A.st cap) (q2w l vs (A.arcs.take (k+1)) (List.replicate A.st none))):=hid (by rw [hsn.out,if_neg hlab]; exact hrow2.out)
    go_wp2_with fail
    go_roundw
    case rel=>exact ⟨k+1,by omega,by go_num,hr10.out,hB2.out,hb2.out⟩
    case measure=>simp [intOf]; omega
  ·obtain rfl:k=nr:=by omega
   have i1:¬ (k:Int)<(k:Int):=by omega
   rw [List.take_of_length_le (by rw [hnr.out]; exact Nat.le_refl _)] at hS0
   rw [<-hS0] at hrow
   replace hrow:=hid hrow
   replace hb:=hid hb
   go_wp2_with fail
   go_ret
   exact ⟨_,rfl,by rw [<-hS0]; exact hrow.out.mono (Nat.le_of_lt hBw),hb.out⟩
theorem j5r (A:Au) (syms:Nat) (hV:Vo syms A) (l:Nat) (vs:List Tw) (hvl:vs.length=A.st) (hvo:∀ x∈vs,vW x) (io:OA) (ci:Nat) (fo:OA) (cf:Nat) (ro:OA) (nr cr:Nat) (vo:OA) (cv:Nat) (w:World) (h:Mo w syms A io ci fo cf ro nr cr) (hv:Fl 8 w vo A.st cv (vs.map twC)) :
  Calls Tryz.prog 80 #[.agg (auC syms A.st (.slice io A.st ci) (.slice fo A.st cf) (.slice ro nr cr)).toArray,.slice vo A.st cv,.int .i64 (l:Int)] w fun e w'=>∃ r,e=.returned r/\WR w' w.heap.size r (q2w l vs A.arcs (List.replicate A.st none))/\Below w.heap.size w w':=by
 have hnr:=hid h.arcs.lenMap
 have hbr:=h.arcs.bound
 have hbv:=hv.bound
 have hb0:Below w.heap.size w (w.alloc (.cells (auC syms A.st (.slice io A.st ci) (.slice fo A.st cf) (.slice ro nr cr)).toArray 30)):=qJ _
 have hB:=Bl.fresh w (auC syms A.st (.slice io A.st ci) (.slice fo A.st cf) (.slice ro nr cr)) 30
 replace h:=hid h.arcs
 replace hv:=hid hv
 obtain ⟨⟨a0,a1,a2,a3⟩,a4,a5,a6⟩:=hB.seven
 have hBc:=hB.cs
 go_enter Tryz.func80,Tryz.ntmps80
 go_upto_region 1 with fail
 generalize hW1:(w.alloc (.cells (auC syms A.st (.slice io A.st ci) (.slice fo A.st cf) (.slice ro nr cr)).toArray 30))=W1 at *
 have hBw:w.heap.size<W1.heap.size:=hB.lt
 clear hW1
 obtain ⟨O,hO⟩:∃ O,W1.heap.size=O:=⟨_,rfl⟩
 go_wp2_with fail
 refine (j3b A.st hV.st _).mono ?_; rintro e w1 ⟨rv,rfl,hrow,hb1⟩
 replace hB:=hB.next hb1
 replace hb0:=qQ hb0 hb1
 rw [hO] at hrow hBw
 obtain ⟨ao,cap,rfl⟩:=hrow.form
 simp only [List.length_map,List.length_replicate] at hrow ⊢
 clear a0 a1 a2 a3 a4 a5 a6 hb1 hBc
 obtain ⟨⟨a0,a1,a2,a3⟩,a4,a5,a6⟩:=hB.seven
 replace hrow:=hid hrow
 replace hb0:=hid hb0
 go_wp2_with fail
 go_loopw [8] (fun iv wr=>∃ k:Nat,k<=nr/\iv=.int .i64 (k:Int)/\WR wr O (.slice ao A.st cap) (q2w l vs (A.arcs.take k) (List.replicate A.st none))/\Bl w.heap.size (auC syms A.st (.slice io A.st ci) (.slice fo A.st cf) (.slice ro nr cr)) 30 wr/\Below w.heap.size w wr) (fun iv _=>nr-(intOf iv).toNat)
 case atStart=>exact ⟨0,Nat.zero_le _,rfl,hrow.out,hB,hb0.out⟩
 case round =>
  clear hrow hB hb0 a0 a1 a2 a3 a4 a5 a6
  obtain ⟨k,hk,rfl,hrow,hB,hb⟩:=hrel
  obtain ⟨S,hS0⟩:∃ S,q2w l vs (A.arcs.take k) (List.replicate A.st none)=S:=⟨_,rfl⟩
  have hSl:S.length=A.st:=by rw [<-hS0,q0x,List.length_replicate]
  rw [hS0] at hrow
  obtain ⟨⟨a0,a1,a2,a3⟩,a4,a5,a6⟩:=hB.seven
  by_cases hlt:k<nr
  ·obtain ⟨x,hxk,b,o,rfl,hcs⟩:=(h.out.next hb).get hlt
   obtain ⟨hx1,hx2,hx3,hx4⟩:=hV.arcs x (List.mem_of_getElem? hxk)
   have hsn:=q7y l vs hxk (List.replicate A.st none)
   rw [hS0] at hsn
   replace hsn:=hid hsn
   have hSo:∀ y∈S,vW y:=by rw [<-hS0]; exact q3s l vs _ _ (fun y hy=>by rw [(List.mem_replicate.1 hy).2]; exact Nat.zero_le _)
   have i1:(k:Int)<(nr:Int):=by omega
   have i0:(0:Int)<=(k:Int):=by omega
   have q1:(x.1:Int)<(A.st:Int):=by omega
   have q0:(0:Int)<=(x.1:Int):=by omega
   have j1:(x.2.2.1:Int)<(A.st:Int):=by omega
   have j0:(0:Int)<=(x.2.2.1:Int):=by omega
   clear hxk hS0
   have hbL:=qJ (w:=wr) (.cells (acC x).toArray 54)
   have hX:=Bl.fresh wr (acC x) 54
   have hrow2:=hid (hrow.next hbL)
   have hB2:=hid (hB.next hbL)
   have hb2:=hid (qQ hb hbL)
   have hwX:w.heap.size<wr.heap.size:=hB.lt
   obtain ⟨X,hXe⟩:∃ X,wr.heap.size=X:=⟨_,rfl⟩
   replace hv:=hid (hv.out.next hb2.out)
   replace hrow:=hid hrow
   replace hB:=hid hB
   replace hb:=hid hb
   go_upto_region 6 with ((first | ((with_reducible refine jV rfl _ rfl b (o+k*11) ?_ x hcs ?_); exact rfl) | ((with_reducible refine jZ rfl _ _ rfl _ _ ?_ x ?_ ?_ ?_); exact rfl; exact rfl; exact rfl)))
   clear hrow hB hb hcs hbL a0 a1 a2 a3 a4 a5 a6
   rw [hXe] at hX hwX
   try rw [hXe]
   generalize (wr.alloc (.cells (acC x).toArray 54))=W3 at *
   clear hXe
   have x1:=hX.cell (i:=1) rfl
   by_cases hlab:x.2.1=l
   ·subst hlab
    obtain ⟨y,hyk⟩:∃ y,S[x.2.2.1]? = some y:=⟨_,List.getElem?_eq_getElem (by omega)⟩
    obtain ⟨u,huk,bv,ov,rfl,hcu⟩:=hv.out.get hx1
    have hyo:=hSo y (List.mem_of_getElem? hyk)
    have huo:=hvo u (List.mem_of_getElem? huk)
    have hxo:vW (wt x):=hx4
    have hnew:Hid (q2w x.2.1 vs (A.arcs.take (k+1)) (List.replicate A.st none)=S.set x.2.2.1 (qP y (jH u (wt x)))):=hid (by
     rw [hsn.out,if_pos rfl]; unfold j1x
     rw [List.getD_eq_getElem?_getD,List.getD_eq_getElem?_getD,hyk,huk]; rfl)
    obtain ⟨g,rfl⟩:∃ g,ao=some ⟨g,0,none⟩:=by
     rcases hrow2.out.place with e | e
     ·subst e
      have h0:=kG hrow2.out (by rw [List.length_map,hSl])
      have h1:=h0.nil rfl
      have h2:=h0.le
      omega
     ·exact e
    have hcy:Cs W3 g (x.2.2.1*8) (twC y):=hrow2.out.cs (by rw [List.getElem?_map,hyk]; rfl)
    have hne:w.heap.size≠g:=by have:O<=g:=(hrow2.out.lt rfl).1; omega
    go_upto_region 7 with fail
    have hdr:=(Below.refl W3.heap.size W3).drew
    replace hrow2:=hid (hrow2.out.next hdr)
    replace hB2:=hid (hB2.out.next hdr)
    replace hb2:=hid (qQ hb2.out hdr)
    have hS:Cs W3.drew w.heap.size 0 rgC/\Cs W3.drew X 0 (acC x)/\Cs W3.drew bv (ov+x.1*8) (twC u)/\Cs W3.drew g (x.2.2.1*8) (twC y):=⟨z5m hB2.out.cs,(hX.next hdr).cs,hcu.next hdr,hcy.next hdr⟩
    have hK:∀ w' w'',(Cs w' w.heap.size 0 rgC/\Cs w' X 0 (acC x)/\Cs w' bv (ov+x.1*8) (twC u)/\Cs w' g (x.2.2.1*8) (twC y))->Below w'.heap.size w' w''->(Cs w'' w.heap.size 0 rgC/\Cs w'' X 0 (acC x)/\Cs w'' bv (ov+x.1*8) (twC u)/\Cs w'' g (x.2.2.1*8) (twC y)):=fun w' w'' h hb=>⟨h.1.next hb,h.2.1.next hb,h.2.2.1.next hb,h.2.2.2.next hb⟩
    clear hcu hcy hdr x1 hX
    refine qV (fun w'=>Cs w' w.heap.size 0 rgC/\Cs w' X 0 (acC x)/\Cs w' bv (ov+x.1*8) (twC u)/\Cs w' g (x.2.2.1*8) (twC y)) [22] (by kernel_rfl) ?_
    refine wAp 0 (some 31) rfl rfl hS ?_
    refine wAp 1 (some 32) rfl rfl hS ?_
    refine wAl 2 (some 33) (v:=?_) rfl rfl ?_ hS ?_
    rotate_left
    ·intro wz hw; skip; refine qW X 2 ?_ (.int .i64 ((x.2.2.1:Nat):Int)) (by have h:=hw.2.1 2 _ rfl; rw [Nat.zero_add] at h; exact h); go_simp
    refine wAp 3 (some 34) rfl rfl hS ?_
    refine wAl 4 (some 35) (v:=?_) rfl rfl ?_ hS ?_
    rotate_left
    ·intro wz hw; skip; refine qX w.heap.size 0 ?_ hw.1; go_simp
    refine wAp 5 (some 36) rfl rfl hS ?_
    refine wAp 6 (some 37) rfl rfl hS ?_
    refine wAl 7 (some 38) (v:=?_) rfl rfl ?_ hS ?_
    rotate_left
    ·intro wz hw; skip; refine qW X 2 ?_ (.int .i64 ((x.2.2.1:Nat):Int)) (by have h:=hw.2.1 2 _ rfl; rw [Nat.zero_add] at h; exact h); go_simp
    refine wAp 8 (some 39) rfl rfl hS ?_
    refine wAl 9 (some 40) (v:=?_) rfl rfl ?_ hS ?_
    rotate_left
    ·intro wz hw; skip; refine qY g (x.2.2.1*8) ?_ y hw.2.2.2; go_simp
    refine wAp 10 (some 41) rfl rfl hS ?_
    refine wAl 11 (some 42) (v:=?_) rfl rfl ?_ hS ?_
    rotate_left
    ·intro wz hw; skip; refine qX w.heap.size 0 ?_ hw.1; go_simp
    refine wAp 12 (some 43) rfl rfl hS ?_
    refine wAp 13 (some 44) rfl rfl hS ?_
    refine wAl 14 (some 45) (v:=?_) rfl rfl ?_ hS ?_
    rotate_left
    ·intro wz hw; skip; refine qW X 0 ?_ (.int .i64 ((x.1:Nat):Int)) (by have h:=hw.2.1 0 _ rfl; rw [Nat.zero_add] at h; exact h); go_simp
    refine wAp 15 (some 46) rfl rfl hS ?_
    refine wAl 16 (some 47) (v:=?_) rfl rfl ?_ hS ?_
    rotate_left
    ·intro wz hw; skip; refine qY bv (ov+x.1*8) ?_ u hw.2.2.1; go_simp
    refine wAp 17 (some 48) rfl rfl hS ?_
    refine wAl 18 (some 49) (v:=?_) rfl rfl ?_ hS ?_
    rotate_left
    ·intro wz hw; skip; refine qY X 3 ?_ (wt x) (by have h:=j0z hw.2.1; rw [Nat.zero_add] at h; exact h); go_simp
    go_simp
    refine wpO (i:=19) rfl fun KK hKK=>?_
    go_simp
    go_at_call 82
    refine (q3j u (wt x) huo hxo _).mono ?_; rintro e w4 ⟨rfl,hb4⟩
    replace hrow2:=hid (hrow2.out.next hb4)
    replace hB2:=hid (hB2.out.next hb4)
    replace hb2:=hid (qQ hb2.out hb4)
    try go_simp
    refine hKK _ _ ⟨fun _=>(hK _ _ hS hb4),?_⟩; clear hKK KK
    refine wpO (i:=20) rfl fun KK hKK=>?_
    go_simp
    go_at_call 81
    refine (q4o y (jH u (wt x)) hyo kM _).mono ?_; rintro e w5 ⟨rfl,hb5⟩
    replace hrow2:=hid (hrow2.out.next hb5)
    replace hB2:=hid (hB2.out.next hb5)
    replace hb2:=hid (qQ hb2.out hb5)
    try go_simp
    refine hKK _ _ ⟨fun _=>(hK _ _ (hK _ _ hS hb4) hb5),?_⟩; clear hKK KK
    refine wAp 21 (some 52) rfl rfl (hK _ _ (hK _ _ hS hb4) hb5) ?_
    refine wpO (i:=22) rfl fun KK hKK=>?_
    rw [if_pos (by rfl)]
    refine q4t 45 (.tmp 52) (.tmp 51) rfl 45 8 O g A.st cap (S.map twC) hrow2.out x.2.2.1 (x.2.2.1*8) (by rw [List.length_map]; omega) rfl rfl (twC (qP y (jH u (wt x)))) rfl rfl (q0f _) Tryz.sizeTw ?_
    intro w9 hr9 hf9
    refine lN hKK ?_; clear hKK KK
    refine qZ (by kernel_rfl) ?_ _
    have hr10:Hid (WR w9 O (.slice (some ⟨g,0,none⟩) A.st cap) (q2w x.2.1 vs (A.arcs.take (k+1)) (List.replicate A.st none))):=hid (by rw [hnew.out]; show FO _ _ _ _ _ _; rw [List.map_set]; exact hr9)
    have hB10:=hid (hB2.out.fr hf9 hne)
    have hb10:=hid (hb2.out.trans (hf9.below (fun k e=>by have:O<=g:=(hrow2.out.lt rfl).1; omega) hb2.out.size))
    clear hr9 hf9 hrow2 hB2 hb2 hS hK
    go_wp2_with fail
    go_roundw
    case rel=>exact ⟨k+1,by omega,by go_num,hr10.out,hB10.out,hb10.out⟩
    case measure=>simp [intOf]; omega
   ·have hl2:¬ (x.2.1:Int)=(l:Int):=by omega
    have hr10:Hid (WR W3 O (.slice ao A.st cap) (q2w l vs (A.arcs.take (k+1)) (List.replicate A.st none))):=hid (by rw [hsn.out,if_neg hlab]; exact hrow2.out)
    go_wp2_with fail
    go_roundw
    case rel=>exact ⟨k+1,by omega,by go_num,hr10.out,hB2.out,hb2.out⟩
    case measure=>simp [intOf]; omega
  ·obtain rfl:k=nr:=by omega
   have i1:¬ (k:Int)<(k:Int):=by omega
   rw [List.take_of_length_le (by rw [hnr.out]; exact Nat.le_refl _)] at hS0
   rw [<-hS0] at hrow
   replace hrow:=hid hrow
   replace hb:=hid hb
   go_wp2_with fail
   go_ret
   exact ⟨_,rfl,by rw [<-hS0]; exact hrow.out.mono (Nat.le_of_lt hBw),hb.out⟩
end
section
open Go.RowKit
def j3w (l:List Int):List Value:=l.map (Value.int .i64)
section
variable {w:World} {ao:OA} {n cap:Nat} {l:List Int}
theorem Sl.i64 (h:Sl w ao n cap (j3w l)) {k:Nat} (hk:k<n):∃ x,l[k]? = some x/\∃ b off,ao=some ⟨b,off,none⟩/\w.cell? ⟨b,off+k,none⟩=some (.int .i64 x):=h.get hk
theorem Sl.lenI (h:Sl w ao n cap (j3w l)):l.length=n:=h.lenMap
end
def okW (l:List Int) (s:Int):Bool:=decide (1<=s/\s<=32/\l.length<=256/\∀ x∈l,1<=x/\x<=s)
theorem q2m {l:List Int} {s x:Int} {k:Nat} (h:l[k]? = some x) (hx:¬ (1<=x/\x<=s)):okW l s=false:=by
 unfold okW
 rw [decide_eq_false_iff_not]
 rintro ⟨_,_,_,h4⟩
 exact hx (h4 x (List.mem_of_getElem? h))
theorem j0m {l:List Int} {s:Int} (h:∀ x∈l,1<=x/\x<=s):okW l s=(decide (1<=s)&&decide (s<=32)&&decide (l.length<=256)):=by
 unfold okW
 rw [Bool.eq_iff_iff]
 simp only [decide_eq_true_eq,Bool.and_eq_true]
 exact ⟨fun ⟨a,b,c,_⟩=>⟨⟨a,b⟩,c⟩,fun ⟨⟨a,b⟩,c⟩=>⟨a,b,c,h⟩⟩
theorem j1h {l:List Int} {k:Nat} {x s:Int} (h:∀ y∈l.take k,1<=y/\y<=s) (hx:l[k]? = some x) (h1:1<=x) (h2:x<=s):∀ y∈l.take (k+1),1<=y/\y<=s:=by
 intro y hy
 rw [jR hx,List.mem_append] at hy
 rcases hy with hy | hy
 ·exact h y hy
 ·simp at hy; subst hy; exact ⟨h1,h2⟩
theorem j2q (l:List Int) (s:Int) (ao:OA) (n cap:Nat) (w:World) (h:Sl w ao n cap (j3w l)) :
  Calls Tryz.prog 102 #[.slice ao n cap,.int .i64 s] w fun e w'=>e=.returned (.bool (okW l s))/\w=w':=by
 have hb:=h.bound
 have hn:=hid h.lenI
 go_enter Tryz.func102,Tryz.ntmps102
 go_wp2_with fail
 go_loop [6,9] (fun _ i=>∃ k:Nat,k<=n/\i=.int .i64 k/\Hid (∀ y∈l.take k,1<=y/\y<=s)) (fun _ i=>n-(intOf i).toNat)
 case atStart=>exact ⟨0,Nat.zero_le _,rfl,hid (by simp)⟩
 case round =>
  obtain ⟨k,hk,rfl,hs⟩:=hrel
  by_cases hlt:k<n
  ·obtain ⟨x,hx',b,off,rfl,hcell⟩:=h.i64 hlt
   have hx:=hid hx'; clear hx'
   by_cases h1:1<=x
   ·have h1':decide (x<1)=false:=decide_eq_false (by omega)
    by_cases h2:x<=s
    ·have h2':decide (s<x)=false:=decide_eq_false (by omega)
     go_wp2_with fail
     go_round
     case rel=>exact ⟨k+1,by omega,by go_num,hid (j1h hs.out hx.out h1 h2)⟩
     case measure=>simp [intOf]; omega
    ·have h2':decide (s<x)=true:=decide_eq_true (by omega)
     go_wp2_with fail
     go_ret
     exact ⟨j4j (q2m hx.out (by omega)).symm,rfl⟩
   ·have h1':decide (x<1)=true:=decide_eq_true (by omega)
    go_wp2_with fail
    go_ret
    exact ⟨j4j (q2m hx.out (by omega)).symm,rfl⟩
  ·obtain rfl:k=n:=by omega
   have hall:=j0m (s:=s) (l:=l) (by have:=hs.out; rwa [List.take_of_length_le (by rw [hn.out]; omega)] at this)
   rw [hn.out] at hall
   have Hall:=hid hall
   clear hall
   by_cases c1:1<=s
   ·have c1':decide (1<=s)=true:=decide_eq_true c1
    by_cases c2:s<=32
    ·have c2':decide (s<=32)=true:=decide_eq_true c2
     go_wp2_with fail
     go_ret
     exact ⟨j4j (by rw [Hall.out,c1',c2']; simp; try omega),rfl⟩
    ·have c2':decide (s<=32)=false:=decide_eq_false c2
     go_wp2_with fail
     go_ret
     exact ⟨j4j (by rw [Hall.out,c1',c2']; simp),rfl⟩
   ·have c1':decide (1<=s)=false:=decide_eq_false c1
    go_wp2_with fail
    go_ret
    exact ⟨j4j (by rw [Hall.out,c1']; simp),rfl⟩
theorem q1j (s:Int) (w:World):Calls Tryz.prog 50 #[.int .i64 s] w fun e w'=>e=.returned (.bool (decide (1<=s)&&decide (s<=32)))/\w=w':=by
 by_cases c1:1<=s
 ·have c1':decide (1<=s)=true:=decide_eq_true c1
  go_enter Tryz.func50,Tryz.ntmps50
  go_wp2_with fail
  go_ret
  exact ⟨j4j (by simp [c1']),rfl⟩
 ·have c1':decide (1<=s)=false:=decide_eq_false c1
  go_enter Tryz.func50,Tryz.ntmps50
  go_wp2_with fail
  go_ret
  exact ⟨j4j (by simp [c1']),rfl⟩
theorem q9y (l:List Int) (s:Int) (ao:OA) (n cap:Nat) (w:World) (h:Sl w ao n cap (j3w l)) :
  Calls Tryz.prog 112 #[.slice ao n cap,.int .i64 s] w fun e w'=>e=.returned (.bool (okW l s))/\w=w':=by
 have hb:=h.bound
 have hn:=hid h.lenI
 by_cases c:1<=s/\s<=32/\n<=256
 ·obtain ⟨c1,c2,c3⟩:=c
  have ca:(decide (1<=s)&&decide (s<=32))=true:=by simp [c1,c2]
  have cg:decide (256<n)=false:=decide_eq_false (by omega)
  have Ca:=hid ca
  clear ca
  go_enter Tryz.func112,Tryz.ntmps112
  go_wp2_with fail
  refine (q1j s _).mono ?_; rintro e w1 ⟨rfl,rfl⟩
  rw [Ca.out]
  go_wp2_with fail
  go_loop [5] (fun i=>∃ k:Nat,k<=n/\i=.int .i64 k/\Hid (∀ y∈l.take k,1<=y/\y<=s)) (fun i=>n-(intOf i).toNat)
  case atStart=>exact ⟨0,Nat.zero_le _,rfl,hid (by simp)⟩
  case round =>
   obtain ⟨k,hk,rfl,hs⟩:=hrel
   by_cases hlt:k<n
   ·obtain ⟨x,hx',b,off,rfl,hcell⟩:=h.i64 hlt
    have hx:=hid hx'; clear hx'
    by_cases h1:1<=x
    ·have h1':decide (x<1)=false:=decide_eq_false (by omega)
     by_cases h2:x<=s
     ·have h2':decide (s<x)=false:=decide_eq_false (by omega)
      go_wp2_with fail
      go_round
      case rel=>exact ⟨k+1,by omega,by go_num,hid (j1h hs.out hx.out h1 h2)⟩
      case measure=>simp [intOf]; omega
     ·have h2':decide (s<x)=true:=decide_eq_true (by omega)
      go_wp2_with fail
      go_ret
      exact ⟨j4j (q2m hx.out (by omega)).symm,rfl⟩
    ·have h1':decide (x<1)=true:=decide_eq_true (by omega)
     go_wp2_with fail
     go_ret
     exact ⟨j4j (q2m hx.out (by omega)).symm,rfl⟩
   ·obtain rfl:k=n:=by omega
    have hall:=j0m (s:=s) (l:=l) (by have:=hs.out; rwa [List.take_of_length_le (by rw [hn.out]; omega)] at this)
    rw [hn.out] at hall
    have Hall:Hid (okW l s=true):=hid (by rw [hall]; simp [c1,c2,c3])
    clear hall
    go_wp2_with fail
    go_ret
    exact ⟨j4j Hall.out.symm,rfl⟩
 ·have hf:Hid (okW l s=false):=hid (by unfold okW; rw [decide_eq_false_iff_not]; rintro ⟨a,b,d,_⟩; exact c ⟨a,b,by rw [hn.out] at d; exact d⟩)
  by_cases c2:1<=s/\s<=32
  ·have ca:(decide (1<=s)&&decide (s<=32))=true:=by simp [c2]
   have cg:decide (256<n)=true:=decide_eq_true (by omega)
   have cg':decide ((256:Int)<(n:Int))=true:=decide_eq_true (by omega)
   have Ca:=hid ca
   clear ca c
   go_enter Tryz.func112,Tryz.ntmps112
   go_wp2_with fail
   refine (q1j s _).mono ?_; rintro e w1 ⟨rfl,rfl⟩
   rw [Ca.out]
   go_wp2_with fail
   go_ret
   exact ⟨j4j hf.out.symm,rfl⟩
  ·have ca:(decide (1<=s)&&decide (s<=32))=false:=by simp; omega
   have Ca:=hid ca
   clear ca c c2
   go_enter Tryz.func112,Tryz.ntmps112
   go_wp2_with fail
   refine (q1j s _).mono ?_; rintro e w1 ⟨rfl,rfl⟩
   rw [Ca.out]
   go_wp2_with fail
   go_ret
   exact ⟨j4j hf.out.symm,rfl⟩
end
section
open Go.RowKit
def wI (word:List Nat):List Int:=word.map fun x:Nat=>(x:Int)
theorem j3i (x:Ac) (hx:1<=x.2.1) (w:World):Calls Tryz.prog 101 #[.agg #[.int .i64 ((x).1:Int),.int .i64 ((x).2.1:Int),.int .i64 ((x).2.2.1:Int),.bool false,.slice none 0 0,.slice none 0 0,.int .i64 (tc (wt x):Int),.bool (ti (wt x)),.int .u64 0,.slice none 0 0,.slice none 0 0]] w fun e w'=>e=.returned (.bool false)/\Below w.heap.size w w':=by
 have hb0:Below w.heap.size w (w.alloc (.cells #[.int .i64 ((x).1:Int),.int .i64 ((x).2.1:Int),.int .i64 ((x).2.2.1:Int),.bool false,.slice none 0 0,.slice none 0 0,.int .i64 (tc (wt x):Int),.bool (ti (wt x)),.int .u64 0,.slice none 0 0,.slice none 0 0] 54)):=qJ _
 have hA:=Bl.fresh w [.int .i64 ((x).1:Int),.int .i64 ((x).2.1:Int),.int .i64 ((x).2.2.1:Int),.bool false,.slice none 0 0,.slice none 0 0,.int .i64 (tc (wt x):Int),.bool (ti (wt x)),.int .u64 0,.slice none 0 0,.slice none 0 0] 54
 have x1:=hA.cell (i:=1) rfl
 have k1:((x.2.1:Int)==0)=false:=by rw [beq_eq_false_iff_ne]; omega
 clear hA
 go_enter Tryz.func101,Tryz.ntmps101
 go_wp2_with fail
 go_ret
 exact ⟨rfl,hb0⟩
theorem j3u (xs:List Ac) (hx:∀ x∈xs,1<=x.2.1) (ao:OA) (n cap:Nat) (w:World) (h:Fl 11 w ao n cap (xs.map acC)) :
  Calls Tryz.prog 143 #[.slice ao n cap,.func (.func 101) #[] #[]] w fun e w' =>
   e=.returned (.int .i64 (-1))/\Below w.heap.size w w':=by
 have hbd:=h.bound
 have hl:=hid h.lenMap
 go_enter Tryz.func143,Tryz.ntmps143
 go_wp2_with fail
 go_loopw [8] (fun iv wr=>∃ k:Nat,k<=n/\iv=.int .i64 k/\Below w.heap.size w wr) (fun i _=>n-(intOf i).toNat)
 case atStart=>exact ⟨0,by omega,rfl,Below.refl _ _⟩
 case round =>
  obtain ⟨k,hk,rfl,hb⟩:=hrel
  have hf:=h.next hb
  by_cases hlt:k<n
  ·obtain ⟨x,hxk,b,off,rfl,hcs⟩:=hf.get hlt
   have hxo:=hx x (List.mem_of_getElem? hxk)
   obtain ⟨⟨x0,x1,x2,x3⟩,⟨x4,x5,x6,x7⟩,x8,x9,x10⟩:=hcs.eleven
   have hxk:=hid hxk
   go_wp2_with fail
   refine (j3i x hxo _).mono ?_; rintro e w' ⟨rfl,hb'⟩
   go_wp2_with fail
   go_round
   case rel=>exact ⟨k+1,by omega,by go_num,qQ hb hb'⟩
   case measure=>simp [intOf]; omega
  ·go_wp2_with fail
   go_ret
   exact ⟨rfl,hb⟩
theorem q7i (xs:List Ac) (hx:∀ x∈xs,1<=x.2.1) (ao:OA) (n cap:Nat) (w:World) (h:Fl 11 w ao n cap (xs.map acC)) :
  Calls Tryz.prog 100 #[.slice ao n cap,.func (.func 101) #[] #[]] w fun e w' =>
   e=.returned (.bool false)/\Below w.heap.size w w':=by
 go_enter Tryz.func100,Tryz.ntmps100
 go_wp2_with fail
 refine (j3u xs hx ao n cap w h).mono ?_; rintro e w' ⟨rfl,hb'⟩
 go_wp2_with fail
 go_ret
 exact ⟨rfl,hb'⟩
theorem j1u {word:List Nat} {syms:Nat} (h1:1<=syms) (h2:syms<=32) (hw:∀ l∈word,1<=l/\l<=syms) (hl:word.length<=256):okW (wI word) (syms:Int)=true:=by
 rw [j0m]
 ·simp only [Bool.and_eq_true,decide_eq_true_eq]
  exact ⟨⟨by omega,by omega⟩,by unfold wI; rw [List.length_map]; exact hl⟩
 ·intro x hx
  obtain ⟨y,hy,rfl⟩:=List.mem_map.1 hx
  have:=hw y hy
  omega
theorem j5n (syms:Nat) (A:Au) (hV:Vo syms A) (hs:A.arcs.length<20\/UpA A.arcs) (hli:A.ini.length=A.st) (hlf:A.fin.length=A.st) (hl1:∀ x∈A.arcs,1<=x.2.1) (word:List Nat) (hw:∀ l∈word,1<=l/\l<=syms) (hwl:word.length<=256) (io:OA) (ci:Nat) (fo:OA) (cf:Nat) (ro:OA) (nr cr:Nat) (lo:OA) (nl cl:Nat) (w:World) (h:Mo w syms A io ci fo cf ro nr cr) (hl:Sl w lo nl cl (j3w (wI word))) :
  Calls Tryz.prog 74 #[.agg (auC syms A.st (.slice io A.st ci) (.slice fo A.st cf) (.slice ro nr cr)).toArray,.slice lo nl cl] w fun e w' =>
   (∃ io' ci' fo' cf' ro' nr' cr' C,e=.returned (.tuple #[.agg (auC syms A.st (.slice io' A.st ci') (.slice fo' A.st cf') (.slice ro' nr' cr')).toArray,.int .i64 0])/\MoF w' w.heap.size ⟨A.st,A.ini,A.fin,C.filter nz⟩ io' ci' fo' cf' ro' nr' cr'/\Nf C A.arcs)/\Below w.heap.size w w':=by
 have hb0:Below w.heap.size w ((w.alloc (.cells (auC syms A.st (.slice io A.st ci) (.slice fo A.st cf) (.slice ro nr cr)).toArray 30)).alloc (.cells #[.int .i64 0,.slice none 0 0,.int .i64 0,.int .i64 0,.slice none 0 0,.slice none 0 0,.slice none 0 0] 30)):=qQ (qJ _) (qJ _)
 have hG:=(Bl.fresh w (auC syms A.st (.slice io A.st ci) (.slice fo A.st cf) (.slice ro nr cr)) 30).new (.cells #[.int .i64 0,.slice none 0 0,.int .i64 0,.int .i64 0,.slice none 0 0,.slice none 0 0,.slice none 0 0] 30)
 have hR:=Bl.fresh' (G:=w.heap.size+1) (w.alloc (.cells (auC syms A.st (.slice io A.st ci) (.slice fo A.st cf) (.slice ro nr cr)).toArray 30)) [.int .i64 0,.slice none 0 0,.int .i64 0,.int .i64 0,.slice none 0 0,.slice none 0 0,.slice none 0 0] 30 (by simp)
 have hm:=hid (h.next hb0)
 replace hl:=hid (hl.next hb0)
 clear h
 go_enter Tryz.func74,Tryz.ntmps74
 go_upto_region 1 with fail
 generalize hW0:((w.alloc (.cells (auC syms A.st (.slice io A.st ci) (.slice fo A.st cf) (.slice ro nr cr)).toArray 30)).alloc (.cells #[.int .i64 0,.slice none 0 0,.int .i64 0,.int .i64 0,.slice none 0 0,.slice none 0 0,.slice none 0 0] 30))=W0 at *
 have hRl0:=hR.lt
 have hGc:=hG.cs
 clear hW0
 go_wp2_with ((with_reducible refine qM rfl _ rfl w.heap.size 0 ?_ (auC syms A.st (.slice io A.st ci) (.slice fo A.st cf) (.slice ro nr cr)) rfl hGc ?_); exact rfl)
 refine (q5y syms A hV hs hli hlf io ci fo cf ro nr cr _ hm.out).mono ?_; rintro e w1 ⟨⟨io',ci',fo',cf',ro',nr',cr',C,rfl,hm1,hnf⟩,hb1⟩
 replace hR:=hR.next hb1
 replace hG:=hG.next hb1
 replace hb0:Below w.heap.size w w1:=qQ hb0 hb1
 replace hm1:MoF w1 (w.heap.size+1+1) ⟨A.st,A.ini,A.fin,C.filter nz⟩ io' ci' fo' cf' ro' nr' cr':=⟨hm1.ini.mono (by omega),hm1.fin.mono (by omega),hm1.arcs.mono (by omega)⟩
 replace hl:=hid (hl.out.next hb1)
 replace hm1:=hid hm1
 have hnf:=hid hnf
 have hone:∀ u∈auC syms A.st (.slice io' A.st ci') (.slice fo' A.st cf') (.slice ro' nr' cr'),u.oneCell'=true:=kV _ _ _ _ _ _ _ _ _ _ _
 clear hb1 hm hGc
 go_upto_region 2 with ((with_reducible refine zQ rfl _ _ rfl _ _ ?_ (auC syms A.st (.slice io' A.st ci') (.slice fo' A.st cf') (.slice ro' nr' cr')) ?_ ?_ ?_ hone ?_); exact rfl; exact rfl; exact rfl; exact rfl)
 have hbX:Below w1.heap.size w1 (w1.alloc (.cells (auC syms A.st (.slice io' A.st ci') (.slice fo' A.st cf') (.slice ro' nr' cr')).toArray 30)):=qJ _
 have hX:=Bl.fresh w1 (auC syms A.st (.slice io' A.st ci') (.slice fo' A.st cf') (.slice ro' nr' cr')) 30
 replace hR:=hR.next hbX
 replace hG:=hG.next hbX
 replace hm1:=hid (show MoF _ (w.heap.size+1+1) ⟨A.st,A.ini,A.fin,C.filter nz⟩ io' ci' fo' cf' ro' nr' cr' from ⟨hm1.out.ini.next hbX,hm1.out.fin.next hbX,hm1.out.arcs.next hbX⟩)
 replace hl:=hid (hl.out.next hbX)
 replace hb0:=qQ hb0 hbX
 obtain ⟨X,hXe⟩:∃ X,w1.heap.size=X:=⟨_,rfl⟩
 try rw [hXe]
 rw [hXe] at hX
 generalize (w1.alloc (.cells (auC syms A.st (.slice io' A.st ci') (.slice fo' A.st cf') (.slice ro' nr' cr')).toArray 30))=W2 at *
 clear hbX hXe
 have hfa:Fl 11 W2 ro' nr' cr' ((C.filter nz).map acC):=kG hm1.out.arcs (j2c hm1.out.arcs)
 have hC1:∀ x∈C.filter nz,1<=x.2.1:=fun x hx=>by
  obtain ⟨⟨y,hy,e,_⟩,_⟩:=hnf.out.2.1 x (List.mem_filter.1 hx).1
  have h1:=hl1 y hy
  have h2:y.2.1=x.2.1:=congrArg (fun k:Ky=>k.2.1) e
  omega
 have hok:=j1u hV.sym.1 hV.sym.2 hw hwl
 replace hb0:=hid hb0
 obtain ⟨⟨a0,a1,a2,a3⟩,a4,a5,a6⟩:=hX.seven
 obtain ⟨⟨g0,g1,g2,g3⟩,g4,g5,g6⟩:=hG.seven
 have hXc:=hX.cs
 go_wp2_with fail
 refine (q7i (C.filter nz) hC1 ro' nr' cr' _ hfa).mono ?_; rintro e w3 ⟨rfl,hb3⟩
 replace hR:=hR.next hb3
 replace hG:=hG.next hb3
 replace hX:=hX.next hb3
 replace hm1:=hid (show MoF _ (w.heap.size+1+1) ⟨A.st,A.ini,A.fin,C.filter nz⟩ io' ci' fo' cf' ro' nr' cr' from ⟨hm1.out.ini.next hb3,hm1.out.fin.next hb3,hm1.out.arcs.next hb3⟩)
 replace hl:=hl.out.next hb3
 replace hb0:=hid (qQ hb0.out hb3)
 clear a0 a1 a2 a3 a4 a5 a6 g0 g1 g2 g3 g4 g5 g6 hXc hfa hb3
 obtain ⟨⟨a0,a1,a2,a3⟩,a4,a5,a6⟩:=hX.seven
 obtain ⟨⟨g0,g1,g2,g3⟩,g4,g5,g6⟩:=hG.seven
 have hXc:=hX.cs
 replace hX:=hid hX
 replace hG:=hid hG
 replace hm1:=hid (show MoF w3 (w.heap.size+1+1) ⟨A.st,A.ini,A.fin,C.filter nz⟩ io' ci' fo' cf' ro' nr' cr' from hm1.out)
 go_wp2_with fail
 refine (j2q (wI word) (syms:Int) lo nl cl _ hl).mono ?_; rintro e w4 ⟨rfl,rfl⟩
 rw [hok]
 go_wp2_with (first | ((with_reducible refine qM rfl _ rfl X 0 ?_ (auC syms A.st (.slice io' A.st ci') (.slice fo' A.st cf') (.slice ro' nr' cr')) rfl hXc ?_); exact rfl) | ((with_reducible refine jG rfl _ _ rfl (w.heap.size+1) 30 _ hR ?_ (auC syms A.st (.slice io' A.st ci') (.slice fo' A.st cf') (.slice ro' nr' cr')) rfl rfl ?_ hone ?_); exact rfl; exact rfl; intro w9 hR9 hfr9))
 refine bodyPost_ret (jY rfl _ _ (w.heap.size+1) (auC syms A.st (.slice io' A.st ci') (.slice fo' A.st cf') (.slice ro' nr' cr')) _ rfl hR9.cs Tryz.underlying30 rfl Tryz.sizeAuto) rfl ⟨⟨io',ci',fo',cf',ro',nr',cr',C,rfl,?_,hnf.out⟩,hb0.out.trans (hfr9.below (fun k e=>by omega) hb0.out.size)⟩
 exact ⟨(hm1.out.ini.fr hfr9 fun g e h=>by have:=(hm1.out.ini.lt e).1; omega).mono (by omega),(hm1.out.fin.fr hfr9 fun g e h=>by have:=(hm1.out.fin.lt e).1; omega).mono (by omega),(hm1.out.arcs.fr hfr9 fun g e h=>by have:=(hm1.out.arcs.lt e).1; omega).mono (by omega)⟩
end
end Go.Proofs.YtnapapijhhldpaaGreatDoor

/-
  Texts joined by program: Trc, Trd. No condition of its own.
-/
import Derived.Test.YtnapapijhhldpaaGreatDoorJcBB
namespace Go.Proofs.YtnapapijhhldpaaGreatDoor
set_option linter.unusedSimpArgs false
set_option linter.unusedVariables false
section
open Go.RowKit
set_option maxRecDepth 100000 in
set_option maxHeartbeats 2000000 in
theorem rPlus_any (v u:Tw) (hv:TwOk v) (hu:TwOk u) (w:World):Calls Tryz.prog 81 #[.agg #[.int .i64 2,.slice none 0 0],.agg #[.bool false,.slice none 0 0,.slice none 0 0,.int .i64 (tc (v):Int),.bool (ti (v)),.int .u64 0,.slice none 0 0,.slice none 0 0],.agg #[.bool false,.slice none 0 0,.slice none 0 0,.int .i64 (tc (u):Int),.bool (ti (u)),.int .u64 0,.slice none 0 0,.slice none 0 0]] w fun e w'=>e=.returned (.agg #[.bool false,.slice none 0 0,.slice none 0 0,.int .i64 (tc (twPlus v u):Int),.bool (ti (twPlus v u)),.int .u64 0,.slice none 0 0,.slice none 0 0])∧Below w.heap.size w w':=by
 obtain ⟨hb0,hA,hB⟩:=ring_box w (tc (v):Int) (ti (v))
 have hbC:=below_alloc (w:=((w.alloc (.cells #[.int .i64 2,.slice none 0 0] 26)).alloc (.cells #[.bool false,.slice none 0 0,.slice none 0 0,.int .i64 (tc (v):Int),.bool (ti (v)),.int .u64 0,.slice none 0 0,.slice none 0 0] 45))) (.cells #[.bool false,.slice none 0 0,.slice none 0 0,.int .i64 (tc (u):Int),.bool (ti (u)),.int .u64 0,.slice none 0 0,.slice none 0 0] 45)
 have hC:=Bl.fresh' (G:=w.heap.size+2) ((w.alloc (.cells #[.int .i64 2,.slice none 0 0] 26)).alloc (.cells #[.bool false,.slice none 0 0,.slice none 0 0,.int .i64 (tc (v):Int),.bool (ti (v)),.int .u64 0,.slice none 0 0,.slice none 0 0] 45)) [.bool false,.slice none 0 0,.slice none 0 0,.int .i64 (tc (u):Int),.bool (ti (u)),.int .u64 0,.slice none 0 0,.slice none 0 0] 45 (by simp)
 replace hA:=hA.next hbC
 replace hB:=hB.next hbC
 replace hb0:=below_chain hb0 hbC
 have hbR:=below_alloc (w:=(((w.alloc (.cells #[.int .i64 2,.slice none 0 0] 26)).alloc (.cells #[.bool false,.slice none 0 0,.slice none 0 0,.int .i64 (tc (v):Int),.bool (ti (v)),.int .u64 0,.slice none 0 0,.slice none 0 0] 45)).alloc (.cells #[.bool false,.slice none 0 0,.slice none 0 0,.int .i64 (tc (u):Int),.bool (ti (u)),.int .u64 0,.slice none 0 0,.slice none 0 0] 45))) (.cells #[.bool false,.slice none 0 0,.slice none 0 0,.int .i64 0,.bool false,.int .u64 0,.slice none 0 0,.slice none 0 0] 45)
 have hR:=Bl.fresh' (G:=w.heap.size+3) (((w.alloc (.cells #[.int .i64 2,.slice none 0 0] 26)).alloc (.cells #[.bool false,.slice none 0 0,.slice none 0 0,.int .i64 (tc (v):Int),.bool (ti (v)),.int .u64 0,.slice none 0 0,.slice none 0 0] 45)).alloc (.cells #[.bool false,.slice none 0 0,.slice none 0 0,.int .i64 (tc (u):Int),.bool (ti (u)),.int .u64 0,.slice none 0 0,.slice none 0 0] 45)) [.bool false,.slice none 0 0,.slice none 0 0,.int .i64 0,.bool false,.int .u64 0,.slice none 0 0,.slice none 0 0] 45 (by simp)
 replace hA:=hA.next hbR
 replace hB:=hB.next hbR
 replace hC:=hC.next hbR
 replace hb0:=below_chain hb0 hbR
 obtain ⟨r0,r1⟩:=hA.two
 clear hbR hbC
 go_enter Tryz.func81,Tryz.ntmps81
 go_wp2_with fail
 refine (rValid3_any _).mono ?_; rintro e w1 ⟨rfl,hb1⟩
 have hAx:Bl w.heap.size rgC 26 w1:=hA.next hb1
 have hBx:Bl (w.heap.size+1) (twC v) 45 w1:=hB.next hb1
 have hCx:Bl (w.heap.size+2) (twC u) 45 w1:=hC.next hb1
 have hRx:=hR.next hb1
 have hbx:=below_chain hb0 hb1
 clear r0 r1 hA hB hC hR hb0 hb1
 go_upto_region 3 with fail
 have hdr:=(Below.refl w1.heap.size w1).drew
 replace hbx:=below_chain hbx hdr
 replace hAx:=hAx.next hdr
 replace hBx:=hBx.next hdr
 replace hCx:=hCx.next hdr
 replace hRx:=hRx.next hdr
 have hS:Cs w1.drew w.heap.size 0 rgC∧Cs w1.drew (w.heap.size+1) 0 (twC v)∧Cs w1.drew (w.heap.size+2) 0 (twC u):=⟨hAx.cs,hBx.cs,hCx.cs⟩
 refine wp_region_D (fun w'=>Cs w' w.heap.size 0 rgC∧Cs w' (w.heap.size+1) 0 (twC v)∧Cs w' (w.heap.size+2) 0 (twC u)) [6,7] (by kernel_rfl) ?_
 refine wpTD (some 13) (i:=0) (v:=?_) rfl rfl (Or.inl ⟨by rfl,?_⟩) hS ?_
 rotate_left
 ·intro wz hw; skip; refine exec_loadRing w.heap.size 0 ?_ hw.1; go_simp
 refine wpTD (some 14) (i:=1) (v:=?_) rfl rfl (Or.inl ⟨by rfl,?_⟩) hS ?_
 rotate_left
 ·intro wz hw; skip; refine exec_loadTw (w.heap.size+1) 0 ?_ v hw.2.1; go_simp
 refine wpTD (some 16) (i:=3) (v:=?_) rfl rfl (Or.inl ⟨by rfl,?_⟩) hS ?_
 rotate_left
 ·intro wz hw; skip; refine exec_loadRing w.heap.size 0 ?_ hw.1; go_simp
 refine wpTD (some 17) (i:=4) (v:=?_) rfl rfl (Or.inl ⟨by rfl,?_⟩) hS ?_
 rotate_left
 ·intro wz hw; skip; refine exec_loadTw (w.heap.size+2) 0 ?_ u hw.2.2; go_simp
 refine wpAnyD_one (i:=2) (by kernel_rfl) rfl (fun KK hKK=>?_)
 go_simp
 go_at_call 114
 refine (rTake_any v hv _).mono ?_; rintro e w2 ⟨rfl,hb2⟩
 replace hAx:=hAx.next hb2
 replace hBx:=hBx.next hb2
 replace hCx:=hCx.next hb2
 replace hRx:=hRx.next hb2
 replace hbx:=below_chain hbx hb2
 try go_simp
 refine hKK _ _ ⟨fun _=>(⟨hAx.cs,hBx.cs,hCx.cs⟩),?_⟩; clear hKK KK
 refine wpAnyD_one (i:=5) (by kernel_rfl) rfl (fun KK hKK=>?_)
 go_simp
 go_at_call 114
 refine (rTake_any u hu _).mono ?_; rintro e w3 ⟨rfl,hb3⟩
 replace hAx:=hAx.next hb3
 replace hBx:=hBx.next hb3
 replace hCx:=hCx.next hb3
 replace hRx:=hRx.next hb3
 replace hbx:=below_chain hbx hb3
 try go_simp
 refine hKK _ _ ⟨fun _=>(⟨hAx.cs,hBx.cs,hCx.cs⟩),?_⟩; clear hKK KK
 refine wpAnyD_one (i:=6) (by kernel_rfl) rfl (fun KK hKK=>?_)
 rw [if_pos (by rfl)]
 with_reducible refine op_storeB 45 (.tmp 4) (.tmp 15) ?_ (w.heap.size+1) 45 (twC v) hBx ?_ (twC v) ?_ ?_ ?_ ?_ ?_
 ·rfl
 ·rfl
 ·rfl
 ·rfl
 ·exact twC_1 v
 ·exact Tryz.sizeTw
 intro w6 hB6 hfr6
 have hC6:=hCx.fr hfr6 (by omega)
 have hA6:=hAx.fr hfr6 (by omega)
 have hR6:=hRx.fr hfr6 (by omega)
 replace hbx:=hbx.trans (hfr6.below (fun k e=>by omega) hbx.size)
 refine hKK _ _ ⟨fun hn=>absurd (by simp) hn,?_⟩; clear hKK KK
 refine wpAnyD_one (i:=7) (by kernel_rfl) rfl (fun KK hKK=>?_)
 rw [if_pos (by rfl)]
 with_reducible refine op_storeB 45 (.tmp 5) (.tmp 18) ?_ (w.heap.size+2) 45 (twC u) hC6 ?_ (twC u) ?_ ?_ ?_ ?_ ?_
 ·rfl
 ·rfl
 ·rfl
 ·rfl
 ·exact twC_1 u
 ·exact Tryz.sizeTw
 intro w7 hC7 hfr7
 have hB7:=hB6.fr hfr7 (by omega)
 have hA7:=hA6.fr hfr7 (by omega)
 have hR7:=hR6.fr hfr7 (by omega)
 replace hbx:=hbx.trans (hfr7.below (fun k e=>by omega) hbx.size)
 refine hKK _ _ ⟨fun hn=>absurd (by simp) hn,?_⟩; clear hKK KK
 refine wpAnyD_done (by kernel_rfl) ?_ _
 obtain ⟨a0,a1⟩:=hA7.two
 have b3:=hB7.cell (i:=3) rfl
 have b4:=hB7.cell (i:=4) rfl
 have c3:=hC7.cell (i:=3) rfl
 have c4:=hC7.cell (i:=4) rfl
 have hBc:=hB7.cs
 have hCc:=hC7.cs
 clear hAx hBx hCx hRx hfr6 hfr7 hA6 hB6 hC6 hR6 hA7 hB7 hC7
 cases hv4:ti v with
 | true =>
  have hvn:v=none:=by cases v with | none=>rfl | some a=>cases hv4
  rw [hv4] at b4
  have hres:Hid (twPlus v u=u):=hid (by rw [hvn,none_twPlus])
  clear hvn
  go_wp2_with (first | ((with_reducible refine wp_loadTw rfl _ rfl (w.heap.size+2) 0 ?_ u hCc ?_); exact rfl) | ((with_reducible refine wp_storeBTw rfl _ _ rfl (w.heap.size+3) 45 _ hR7 ?_ u rfl ?_ ?_); exact rfl; exact rfl; intro w9 hR9 hfr9))
  exact bodyPost_ret (results_cellC1 rfl _ _ (w.heap.size+3) (twC u) _ rfl hR9.cs Tryz.underlying45 rfl Tryz.sizeTw) rfl ⟨by rw [hres.out],hbx.trans (hfr9.below (fun k e=>by omega) hbx.size)⟩
 | false =>
  cases hu4:ti u with
  | true =>
   have hun:u=none:=by cases u with | none=>rfl | some a=>cases hu4
   rw [hv4] at b4
   rw [hu4] at c4
   have hres:Hid (twPlus v u=v):=hid (by rw [hun,twPlus_none])
   clear hun
   go_wp2_with (first | ((with_reducible refine wp_loadTw rfl _ rfl (w.heap.size+1) 0 ?_ v hBc ?_); exact rfl) | ((with_reducible refine wp_storeBTw rfl _ _ rfl (w.heap.size+3) 45 _ hR7 ?_ v rfl ?_ ?_); exact rfl; exact rfl; intro w9 hR9 hfr9))
   exact bodyPost_ret (results_cellC1 rfl _ _ (w.heap.size+3) (twC v) _ rfl hR9.cs Tryz.underlying45 rfl Tryz.sizeTw) rfl ⟨by rw [hres.out],hbx.trans (hfr9.below (fun k e=>by omega) hbx.size)⟩
  | false =>
   rw [hv4] at b4
   rw [hu4] at c4
   have hpl:twPlus v u=if tc u<tc v then u else v:=by
    cases v with
    | none=>cases hv4
    | some a =>
     cases u with
     | none=>cases hu4
     | some b=>rw [twPlus_some]; show some (min a b)=if b<a then some b else some a; split<;>(congr 1; omega)
   by_cases hlt:tc u<tc v
   ·have hres:Hid (twPlus v u=u):=hid (by rw [hpl,if_pos hlt])
    have k1:(tc u:Int)<(tc v:Int):=by omega
    have k2:decide ((tc u:Int)<(tc v:Int))=true:=decide_eq_true k1
    clear hpl
    go_wp2_with (first | ((with_reducible refine wp_loadTw rfl _ rfl (w.heap.size+2) 0 ?_ u hCc ?_); exact rfl) | ((with_reducible refine wp_storeBTw rfl _ _ rfl (w.heap.size+3) 45 _ hR7 ?_ u rfl ?_ ?_); exact rfl; exact rfl; intro w9 hR9 hfr9))
    exact bodyPost_ret (results_cellC1 rfl _ _ (w.heap.size+3) (twC u) _ rfl hR9.cs Tryz.underlying45 rfl Tryz.sizeTw) rfl ⟨by rw [hres.out],hbx.trans (hfr9.below (fun k e=>by omega) hbx.size)⟩
   ·have hres:Hid (twPlus v u=v):=hid (by rw [hpl,if_neg hlt])
    have k1:¬ (tc u:Int)<(tc v:Int):=by omega
    have k2:decide ((tc u:Int)<(tc v:Int))=false:=decide_eq_false k1
    clear hpl
    go_wp2_with (first | ((with_reducible refine wp_loadTw rfl _ rfl (w.heap.size+1) 0 ?_ v hBc ?_); exact rfl) | ((with_reducible refine wp_storeBTw rfl _ _ rfl (w.heap.size+3) 45 _ hR7 ?_ v rfl ?_ ?_); exact rfl; exact rfl; intro w9 hR9 hfr9))
    exact bodyPost_ret (results_cellC1 rfl _ _ (w.heap.size+3) (twC v) _ rfl hR9.cs Tryz.underlying45 rfl Tryz.sizeTw) rfl ⟨by rw [hres.out],hbx.trans (hfr9.below (fun k e=>by omega) hbx.size)⟩
set_option maxHeartbeats 1000000 in
theorem rIsZero_any (v:Tw) (w:World):Calls Tryz.prog 141 #[.agg #[.int .i64 2,.slice none 0 0],.agg #[.bool false,.slice none 0 0,.slice none 0 0,.int .i64 (tc (v):Int),.bool (ti (v)),.int .u64 0,.slice none 0 0,.slice none 0 0]] w fun e w'=>e=.returned (.bool (decide (v=none)))∧Below w.heap.size w w':=by
 obtain ⟨hb0,hA,hB⟩:=ring_box w (tc (v):Int) (ti (v))
 go_enter Tryz.func141,Tryz.ntmps141
 go_upto_region 1 with fail
 generalize ((w.alloc (.cells #[.int .i64 2,.slice none 0 0] 26)).alloc (.cells #[.bool false,.slice none 0 0,.slice none 0 0,.int .i64 (tc (v):Int),.bool (ti (v)),.int .u64 0,.slice none 0 0,.slice none 0 0] 45))=W1 at *
 have hdr:=(Below.refl W1.heap.size W1).drew
 have hS:Cs W1.drew w.heap.size 0 rgC∧Cs W1.drew (w.heap.size+1) 0 (twC v):=⟨(hA.next hdr).cs,(hB.next hdr).cs⟩
 have hK:∀ w' w'',(Cs w' w.heap.size 0 rgC∧Cs w' (w.heap.size+1) 0 (twC v))→Below w'.heap.size w' w''→(Cs w'' w.heap.size 0 rgC∧Cs w'' (w.heap.size+1) 0 (twC v)):=fun w' w'' h hb=>⟨h.1.next hb,h.2.next hb⟩
 have hb1:=below_chain hb0 hdr
 clear hA hB hb0 hdr
 refine wp_region_D (fun w'=>Cs w' w.heap.size 0 rgC∧Cs w' (w.heap.size+1) 0 (twC v)) [4] (by kernel_rfl) ?_
 refine wpTD (some 5) (i:=0) (v:=?_) rfl rfl (Or.inl ⟨by rfl,?_⟩) hS ?_
 rotate_left
 ·intro wz hw; skip; refine exec_loadTw (w.heap.size+1) 0 ?_ v hw.2; go_simp
 refine wpTD (some 6) (i:=1) (v:=?_) rfl rfl (Or.inl ⟨by rfl,?_⟩) hS ?_
 rotate_left
 ·intro wz hw; skip; refine exec_loadRing w.heap.size 0 ?_ hw.1; go_simp
 refine wpAnyD_one (i:=2) (by kernel_rfl) rfl (fun KK hKK=>?_)
 go_simp
 go_at_call 22
 refine (rZero_any _).mono ?_; rintro e w2 ⟨rfl,hb2⟩
 try go_simp
 refine hKK _ _ ⟨fun _=>(hK _ _ hS hb2),?_⟩; clear hKK KK
 refine wpAnyD_one (i:=3) (by kernel_rfl) rfl (fun KK hKK=>?_)
 go_simp
 go_at_call 14
 refine (rEqual_any v none _).mono ?_; rintro e w3 ⟨rfl,hb3⟩
 try go_simp
 refine hKK _ _ ⟨fun _=>(hK _ _ (hK _ _ hS hb2) hb3),?_⟩; clear hKK KK
 refine wpAnyD_one (i:=4) (by kernel_rfl) rfl (fun KK hKK=>?_)
 go_simp
 refine hKK _ _ ⟨fun hn=>absurd (by simp) hn,?_⟩; clear hKK KK
 refine wpAnyD_done (by kernel_rfl) ?_ _
 go_wp2_with fail
 go_ret
 exact ⟨rfl,below_chain (below_chain hb1 hb2) hb3⟩
theorem rSame3_any (w:World):Calls Tryz.prog 40 #[.agg #[.int .i64 2,.slice none 0 0],.agg #[.int .i64 2,.slice none 0 0]] w fun e w'=>e=.returned (.bool true)∧Below w.heap.size w w':=by
 have hb0:Below w.heap.size w ((w.alloc (.cells #[.int .i64 2,.slice none 0 0] 26)).alloc (.cells #[.int .i64 2,.slice none 0 0] 26)):=below_chain (below_alloc _) (below_alloc _)
 go_enter Tryz.func40,Tryz.ntmps40
 go_wp2_with fail
 refine wp_loop_rounds 1 ?_
 rw [rounds_succ]
 go_wp2_with fail
 go_ret
 exact ⟨rfl,hb0⟩
set_option maxHeartbeats 1000000 in
theorem rSameList_any (xs ys:List Tw) (ao bo:Option Addr) (n ca cb:Nat) (w:World) (hx:Fl 8 w ao n ca (xs.map twC)) (hy:Fl 8 w bo n cb (ys.map twC)):Calls Tryz.prog 41 #[.slice ao n ca,.slice bo n cb] w fun e w'=>e=.returned (.bool (decide (xs=ys)))∧Below w.heap.size w w':=by
 have hbx:=hx.bound
 have hlx:=hid hx.lenMap
 have hly:=hid hy.lenMap
 replace hx:=hid hx
 replace hy:=hid hy
 go_enter Tryz.func41,Tryz.ntmps41
 go_wp2_with fail
 go_loopw [5] (fun iv wr=>∃ k:Nat,k≤n∧iv=.int .i64 (k:Int)∧Hid (xs.take k=ys.take k)∧Below w.heap.size w wr) (fun iv _=>n-(intOf iv).toNat)
 case atStart=>exact ⟨0,by omega,rfl,hid rfl,Below.refl _ _⟩
 case round =>
  obtain ⟨k,hk,rfl,heq,hb⟩:=hrel
  by_cases hlt:k<n
  ·obtain ⟨x,hxk,b1,o1,rfl,hc1⟩:=(hx.out.next hb).get hlt
   obtain ⟨y,hyk,b2,o2,rfl,hc2⟩:=(hy.out.next hb).get hlt
   have i1:(k:Int)<(n:Int):=by omega
   have i0:(0:Int)≤(k:Int):=by omega
   have htx:Hid (xs.take (k+1)=xs.take k++[x]):=hid (take_snoc hxk)
   have hty:Hid (ys.take (k+1)=ys.take k++[y]):=hid (take_snoc hyk)
   replace hxk:=hid hxk
   replace hyk:=hid hyk
   obtain ⟨q,hq⟩:∃ q,decide (x=y)=q:=⟨_,rfl⟩
   have hE:=hid (fun w=>by have h:=rEqual_any x y w; rw [hq] at h; exact h)
   replace hq:=hid hq
   go_upto_region 6 with fail
   have hdr:=(Below.refl wr.heap.size wr).drew
   have hS:Cs wr.drew b1 (o1+k*8) (twC x)∧Cs wr.drew b2 (o2+k*8) (twC y):=⟨hc1.next hdr,hc2.next hdr⟩
   have hK:∀ w' w'',(Cs w' b1 (o1+k*8) (twC x)∧Cs w' b2 (o2+k*8) (twC y))→Below w'.heap.size w' w''→(Cs w'' b1 (o1+k*8) (twC x)∧Cs w'' b2 (o2+k*8) (twC y)):=fun w' w'' h hb=>⟨h.1.next hb,h.2.next hb⟩
   have hb1:=below_chain hb hdr
   clear hc1 hc2 hdr hb
   refine wp_region_D (fun w'=>Cs w' b1 (o1+k*8) (twC x)∧Cs w' b2 (o2+k*8) (twC y)) [] (by kernel_rfl) ?_
   refine wpTDp (some 17) (i:=0) rfl rfl hS ?_
   refine wpTDp (some 18) (i:=1) rfl rfl hS ?_
   refine wpTDp (some 19) (i:=2) rfl rfl hS ?_
   refine wpTD (some 20) (i:=3) (v:=?_) rfl rfl (Or.inl ⟨by rfl,?_⟩) hS ?_
   rotate_left
   ·intro wz hw; skip; refine exec_loadTw b1 (o1+k*8) ?_ x hw.1; go_simp
   refine wpTDp (some 21) (i:=4) rfl rfl hS ?_
   refine wpTDp (some 22) (i:=5) rfl rfl hS ?_
   refine wpTDp (some 23) (i:=6) rfl rfl hS ?_
   refine wpTD (some 24) (i:=7) (v:=?_) rfl rfl (Or.inl ⟨by rfl,?_⟩) hS ?_
   rotate_left
   ·intro wz hw; skip; refine exec_loadTw b2 (o2+k*8) ?_ y hw.2; go_simp
   refine wpAnyD_one (i:=8) (by kernel_rfl) rfl (fun KK hKK=>?_)
   go_simp
   go_at_call 14
   refine (hE.out _).mono ?_; rintro e w2 ⟨rfl,hb2⟩
   try go_simp
   refine hKK _ _ ⟨fun _=>(hK _ _ hS hb2),?_⟩; clear hKK KK
   refine wpTDp (some 26) (i:=9) rfl rfl (hK _ _ hS hb2) ?_
   refine wpAnyD_done (by kernel_rfl) ?_ _
   have hb3:=below_chain hb1 hb2
   cases q with
   | true =>
    have hn:Hid (xs.take (k+1)=ys.take (k+1)):=hid (by rw [htx.out,hty.out,heq.out,of_decide_eq_true hq.out])
    go_wp2_with fail
    go_roundw
    case rel=>exact ⟨k+1,by omega,by go_num,hn,hb3⟩
    case measure=>simp [intOf]; omega
   | false =>
    have hn:Hid (xs≠ys):=hid (fun e=>of_decide_eq_false hq.out (by have h1:=hxk.out; have h2:=hyk.out; rw [e,h2] at h1; exact (Option.some.inj h1).symm))
    go_wp2_with fail
    go_ret
    exact ⟨by rw [decide_eq_false hn.out]; rfl,hb3⟩
  ·obtain rfl:k=n:=by omega
   have i1:¬ (k:Int)<(k:Int):=by omega
   rw [List.take_of_length_le (by rw [hlx.out]; exact Nat.le_refl _),List.take_of_length_le (by rw [hly.out]; exact Nat.le_refl _)] at heq
   go_wp2_with fail
   go_ret
   exact ⟨by rw [decide_eq_true heq.out]; rfl,hb⟩
end
section
open Go.RowKit
def cmpL:List Nat→List Nat→Int
 | x::xs,y::ys=>if x<y then -1 else if y<x then 1 else cmpL xs ys
 | _,_=>0
theorem cmpL_three (a b c d e f:Nat):cmpL [a,b,c] [d,e,f]=cmpK (a,b,c) (d,e,f):=by
 unfold cmpK cmpN
 simp only [cmpL]
 by_cases h1:a<d
 ·simp [h1]
 ·by_cases h2:d<a
  ·simp [h1,h2]
  ·by_cases h3:b<e
   ·simp [h1,h2,h3]
   ·by_cases h4:e<b
    ·simp [h1,h2,h3,h4]
    ·simp [h1,h2,h3,h4]
def vN (x:Nat):Value:=.int .i64 (x:Int)
theorem cmpL_lt {xs ys:List Nat} {k x y:Nat} (hx:xs[k]? = some x) (hy:ys[k]? = some y) (h:x<y):cmpL (xs.drop k) (ys.drop k) = -1:=by
 rw [drop_cons hx,drop_cons hy]; simp [cmpL,h]
theorem cmpL_gt {xs ys:List Nat} {k x y:Nat} (hx:xs[k]? = some x) (hy:ys[k]? = some y) (h:y<x):cmpL (xs.drop k) (ys.drop k)=1:=by
 rw [drop_cons hx,drop_cons hy]; simp [cmpL,h,show ¬ x<y by omega]
theorem cmpL_eq {xs ys:List Nat} {k x:Nat} (hx:xs[k]? = some x) (hy:ys[k]? = some x):cmpL (xs.drop k) (ys.drop k)=cmpL (xs.drop (k+1)) (ys.drop (k+1)):=by
 rw [drop_cons hx,drop_cons hy]; simp [cmpL]
theorem cmpL_end {xs ys:List Nat} {k:Nat} (hx:xs.length≤k):cmpL (xs.drop k) (ys.drop k)=0:=by
 rw [List.drop_eq_nil_of_le hx]; simp [cmpL]
set_option maxHeartbeats 2000000 in
theorem rCompare_any (xs ys:List Nat) (ao bo:Option Addr) (n ca cb:Nat) (w:World) (hb1:∀ x∈xs,x≤1000000) (hb2:∀ x∈ys,x≤1000000) (hx:Sl w ao n ca (xs.map vN)) (hy:Sl w bo n cb (ys.map vN)) :
  Calls Tryz.prog 73 #[.slice ao n ca,.slice bo n cb] w fun e w'=>e=.returned (.int .i64 (cmpL xs ys))∧Below w.heap.size w w':=by
 have hbx:=hx.bound
 have hlx:=hid hx.lenMap
 have hly:=hid hy.lenMap
 replace hx:=hid hx
 replace hy:=hid hy
 replace hb1:=hid hb1
 replace hb2:=hid hb2
 go_enter Tryz.func73,Tryz.ntmps73
 go_wp2_with fail
 go_loopw [5] (fun iv wr=>∃ k:Nat,k≤n∧iv=.int .i64 (k:Int)∧Hid (cmpL xs ys=cmpL (xs.drop k) (ys.drop k))∧Below w.heap.size w wr) (fun iv _=>n-(intOf iv).toNat)
 case atStart=>exact ⟨0,by omega,rfl,hid (by rw [List.drop_zero,List.drop_zero]),Below.refl _ _⟩
 case round =>
  obtain ⟨k,hk,rfl,heq,hb⟩:=hrel
  by_cases hlt:k<n
  ·obtain ⟨x,hxk,b1,o1,rfl,hc1⟩:=(hx.out.next hb).get hlt
   obtain ⟨y,hyk,b2,o2,rfl,hc2⟩:=(hy.out.next hb).get hlt
   have i1:(k:Int)<(n:Int):=by omega
   have i0:(0:Int)≤(k:Int):=by omega
   have hxB:=hb1.out x (List.mem_of_getElem? hxk)
   have hyB:=hb2.out y (List.mem_of_getElem? hyk)
   replace hxk:=hid hxk
   replace hyk:=hid hyk
   have c1:wr.cell? ⟨b1,o1+k,none⟩=some (.int .i64 (x:Int)):=hc1
   have c2:wr.cell? ⟨b2,o2+k,none⟩=some (.int .i64 (y:Int)):=hc2
   clear hc1 hc2
   obtain ⟨q,hq⟩:∃ q,decide (x<y)=q:=⟨_,rfl⟩
   obtain ⟨q2,hq2⟩:∃ q2,decide (y<x)=q2:=⟨_,rfl⟩
   replace hq:=hid hq
   replace hq2:=hid hq2
   have hdr:=(Below.refl wr.heap.size wr).drew
   have hb3:=below_chain hb hdr
   have hS:wr.drew.cell? ⟨b1,o1+k,none⟩=some (.int .i64 (x:Int))∧wr.drew.cell? ⟨b2,o2+k,none⟩=some (.int .i64 (y:Int)):=⟨cellN c1 hdr,cellN c2 hdr⟩
   have hdr2:=(Below.refl wr.drew.heap.size wr.drew).drew
   have hb4:=below_chain hb3 hdr2
   have hS2:wr.drew.drew.cell? ⟨b1,o1+k,none⟩=some (.int .i64 (x:Int))∧wr.drew.drew.cell? ⟨b2,o2+k,none⟩=some (.int .i64 (y:Int)):=⟨cellN hS.1 hdr2,cellN hS.2 hdr2⟩
   clear c1 c2 hdr hdr2
   go_upto_region 8 with fail
   refine wp_region_D (fun w'=>w'.cell? ⟨b1,o1+k,none⟩=some (.int .i64 (x:Int))∧w'.cell? ⟨b2,o2+k,none⟩=some (.int .i64 (y:Int))) [] (by kernel_rfl) ?_
   refine wpTDp (some 22) (i:=0) rfl rfl hS ?_
   refine wpTDp (some 23) (i:=1) rfl rfl hS ?_
   refine wpTDp (some 24) (i:=2) rfl rfl hS ?_
   refine wpTD (some 25) (i:=3) (v:=?_) rfl rfl (Or.inl ⟨by rfl,?_⟩) hS ?_
   rotate_left
   ·intro wz hw; refine exec_load1 b1 (o1+k) ?_ (.int .i64 (x:Int)) hw.1 _ Tryz.underlying3 rfl; go_simp
   refine wpTDp (some 26) (i:=4) rfl rfl hS ?_
   refine wpTDp (some 27) (i:=5) rfl rfl hS ?_
   refine wpTDp (some 28) (i:=6) rfl rfl hS ?_
   refine wpTD (some 29) (i:=7) (v:=?_) rfl rfl (Or.inl ⟨by rfl,?_⟩) hS ?_
   rotate_left
   ·intro wz hw; refine exec_load1 b2 (o2+k) ?_ (.int .i64 (y:Int)) hw.2 _ Tryz.underlying3 rfl; go_simp
   refine wpTDp (some 30) (i:=8) rfl rfl hS ?_
   refine wpAnyD_done (by kernel_rfl) ?_ _
   try go_simp
   rw [hq.out]
   cases q with
   | true =>
    have hr:=hid (cmpL_lt hxk.out hyk.out (show x<y by have:=of_decide_eq_true hq.out; omega))
    skip
    go_simp
    go_wp2_with fail
    go_ret
    exact ⟨by rw [heq.out,hr.out]; rfl,hb3⟩
   | false =>
    go_upto_region 10 with fail
    refine wp_region_D (fun w'=>w'.cell? ⟨b1,o1+k,none⟩=some (.int .i64 (x:Int))∧w'.cell? ⟨b2,o2+k,none⟩=some (.int .i64 (y:Int))) [] (by kernel_rfl) ?_
    refine wpTDp (some 31) (i:=0) rfl rfl hS2 ?_
    refine wpTDp (some 32) (i:=1) rfl rfl hS2 ?_
    refine wpTDp (some 33) (i:=2) rfl rfl hS2 ?_
    refine wpTD (some 34) (i:=3) (v:=?_) rfl rfl (Or.inl ⟨by rfl,?_⟩) hS2 ?_
    rotate_left
    ·intro wz hw; refine exec_load1 b1 (o1+k) ?_ (.int .i64 (x:Int)) hw.1 _ Tryz.underlying3 rfl; go_simp
    refine wpTDp (some 35) (i:=4) rfl rfl hS2 ?_
    refine wpTDp (some 36) (i:=5) rfl rfl hS2 ?_
    refine wpTDp (some 37) (i:=6) rfl rfl hS2 ?_
    refine wpTD (some 38) (i:=7) (v:=?_) rfl rfl (Or.inl ⟨by rfl,?_⟩) hS2 ?_
    rotate_left
    ·intro wz hw; refine exec_load1 b2 (o2+k) ?_ (.int .i64 (y:Int)) hw.2 _ Tryz.underlying3 rfl; go_simp
    refine wpTDp (some 39) (i:=8) rfl rfl hS2 ?_
    refine wpAnyD_done (by kernel_rfl) ?_ _
    try go_simp
    rw [hq2.out]
    cases q2 with
    | true =>
     have hr:=hid (cmpL_gt hxk.out hyk.out (show y<x by have:=of_decide_eq_true hq2.out; omega))
     skip
     go_simp
     go_wp2_with fail
     go_ret
     exact ⟨by rw [heq.out,hr.out]; rfl,hb4⟩
    | false =>
     have hxy:x=y:=by have h1:=of_decide_eq_false hq.out; have h2:=of_decide_eq_false hq2.out; omega
     have hr:=hid (cmpL_eq hxk.out (by rw [hxy]; exact hyk.out))
     clear hxy
     go_wp2_with fail
     go_roundw
     case rel=>exact ⟨k+1,by omega,by go_num,hid (by rw [heq.out,hr.out]),hb4⟩
     case measure=>simp [intOf]; omega
  ·obtain rfl:k=n:=by omega
   have i1:¬ (k:Int)<(k:Int):=by omega
   rw [cmpL_end (by rw [hlx.out]; exact Nat.le_refl _)] at heq
   go_wp2_with fail
   go_ret
   exact ⟨by rw [heq.out]; rfl,hb⟩
theorem rOrder_any (x y:Ac) (hx:x.1≤1000000∧x.2.1≤1000000∧x.2.2.1≤1000000) (hy:y.1≤1000000∧y.2.1≤1000000∧y.2.2.1≤1000000) (w:World) :
  Calls Tryz.prog 42 #[.agg #[.int .i64 ((x).1:Int),.int .i64 ((x).2.1:Int),.int .i64 ((x).2.2.1:Int),.bool false,.slice none 0 0,.slice none 0 0,.int .i64 (tc (wt x):Int),.bool (ti (wt x)),.int .u64 0,.slice none 0 0,.slice none 0 0],.agg #[.int .i64 ((y).1:Int),.int .i64 ((y).2.1:Int),.int .i64 ((y).2.2.1:Int),.bool false,.slice none 0 0,.slice none 0 0,.int .i64 (tc (wt y):Int),.bool (ti (wt y)),.int .u64 0,.slice none 0 0,.slice none 0 0]] w fun e w'=>e=.returned (.int .i64 (cmpK (ky x) (ky y)))∧Below w.heap.size w w':=by
 have hb0:Below w.heap.size w ((w.alloc (.cells #[.int .i64 ((x).1:Int),.int .i64 ((x).2.1:Int),.int .i64 ((x).2.2.1:Int),.bool false,.slice none 0 0,.slice none 0 0,.int .i64 (tc (wt x):Int),.bool (ti (wt x)),.int .u64 0,.slice none 0 0,.slice none 0 0] 54)).alloc (.cells #[.int .i64 ((y).1:Int),.int .i64 ((y).2.1:Int),.int .i64 ((y).2.2.1:Int),.bool false,.slice none 0 0,.slice none 0 0,.int .i64 (tc (wt y):Int),.bool (ti (wt y)),.int .u64 0,.slice none 0 0,.slice none 0 0] 54)):=below_chain (below_alloc _) (below_alloc _)
 have hA:=(Bl.fresh w [.int .i64 ((x).1:Int),.int .i64 ((x).2.1:Int),.int .i64 ((x).2.2.1:Int),.bool false,.slice none 0 0,.slice none 0 0,.int .i64 (tc (wt x):Int),.bool (ti (wt x)),.int .u64 0,.slice none 0 0,.slice none 0 0] 54).new (.cells #[.int .i64 ((y).1:Int),.int .i64 ((y).2.1:Int),.int .i64 ((y).2.2.1:Int),.bool false,.slice none 0 0,.slice none 0 0,.int .i64 (tc (wt y):Int),.bool (ti (wt y)),.int .u64 0,.slice none 0 0,.slice none 0 0] 54)
 have hB:=Bl.fresh' (G:=w.heap.size+1) (w.alloc (.cells #[.int .i64 ((x).1:Int),.int .i64 ((x).2.1:Int),.int .i64 ((x).2.2.1:Int),.bool false,.slice none 0 0,.slice none 0 0,.int .i64 (tc (wt x):Int),.bool (ti (wt x)),.int .u64 0,.slice none 0 0,.slice none 0 0] 54)) [.int .i64 ((y).1:Int),.int .i64 ((y).2.1:Int),.int .i64 ((y).2.2.1:Int),.bool false,.slice none 0 0,.slice none 0 0,.int .i64 (tc (wt y):Int),.bool (ti (wt y)),.int .u64 0,.slice none 0 0,.slice none 0 0] 54 (by simp)
 obtain ⟨⟨x0,x1,x2,x3⟩,⟨x4,x5,x6,x7⟩,x8,x9,x10⟩:=hA.eleven
 obtain ⟨⟨y0,y1,y2,y3⟩,⟨y4,y5,y6,y7⟩,y8,y9,y10⟩:=hB.eleven
 clear x3 x4 x5 x6 x7 x8 x9 x10 y3 y4 y5 y6 y7 y8 y9 y10
 go_enter Tryz.func42,Tryz.ntmps42
 go_upto_region 1 with fail
 generalize ((w.alloc (.cells #[.int .i64 ((x).1:Int),.int .i64 ((x).2.1:Int),.int .i64 ((x).2.2.1:Int),.bool false,.slice none 0 0,.slice none 0 0,.int .i64 (tc (wt x):Int),.bool (ti (wt x)),.int .u64 0,.slice none 0 0,.slice none 0 0] 54)).alloc (.cells #[.int .i64 ((y).1:Int),.int .i64 ((y).2.1:Int),.int .i64 ((y).2.2.1:Int),.bool false,.slice none 0 0,.slice none 0 0,.int .i64 (tc (wt y):Int),.bool (ti (wt y)),.int .u64 0,.slice none 0 0,.slice none 0 0] 54))=W1 at *
 have hP:Sl (W1.alloc (.cells #[.int .i64 (x.1:Int),.int .i64 (x.2.1:Int),.int .i64 (x.2.2.1:Int)] 3)) (some ⟨W1.heap.size,0,none⟩) 3 3 ([x.1,x.2.1,x.2.2.1].map vN):=Sl.lit W1 ([x.1,x.2.1,x.2.2.1].map vN) 3 (by simp [maxLen])
 have hbP:Below W1.heap.size W1 (W1.alloc (.cells #[.int .i64 (x.1:Int),.int .i64 (x.2.1:Int),.int .i64 (x.2.2.1:Int)] 3)):=below_alloc _
 obtain ⟨W2,hW2⟩:∃ W2,W2=(W1.alloc (.cells #[.int .i64 (x.1:Int),.int .i64 (x.2.1:Int),.int .i64 (x.2.2.1:Int)] 3)):=⟨_,rfl⟩
 rw [←hW2] at hP hbP
 have hQ:Sl (W2.alloc (.cells #[.int .i64 (y.1:Int),.int .i64 (y.2.1:Int),.int .i64 (y.2.2.1:Int)] 3)) (some ⟨W2.heap.size,0,none⟩) 3 3 ([y.1,y.2.1,y.2.2.1].map vN):=Sl.lit W2 ([y.1,y.2.1,y.2.2.1].map vN) 3 (by simp [maxLen])
 have hbQ:Below W2.heap.size W2 (W2.alloc (.cells #[.int .i64 (y.1:Int),.int .i64 (y.2.1:Int),.int .i64 (y.2.2.1:Int)] 3)):=below_alloc _
 replace hP:=hP.next hbQ
 have hb:=below_chain (below_chain hb0 hbP) hbQ
 have hsz:W2.heap.size=W1.heap.size+1:=by rw [hW2]; simp
 rw [hsz] at hQ
 obtain ⟨⟨z0,z1,z2,z3⟩,_⟩:=(hB.next hbP).eleven
 clear z3
 subst hW2
 have hcmp:=rCompare_any [x.1,x.2.1,x.2.2.1] [y.1,y.2.1,y.2.2.1] _ _ 3 3 3 _ (by intro z hz; simp only [List.mem_cons,List.not_mem_nil,or_false] at hz; omega) (by intro z hz; simp only [List.mem_cons,List.not_mem_nil,or_false] at hz; omega) hP hQ
 rw [cmpL_three] at hcmp
 replace hcmp:=hid hcmp
 clear hP hQ hA hB
 go_wp2_with fail
 refine hcmp.out.mono ?_; rintro e w3 ⟨rfl,hb3⟩
 go_wp2_with fail
 go_ret
 exact ⟨rfl,below_chain hb hb3⟩
theorem rIn_yes {v lo hi:Int} (h1:lo≤v) (h2:v≤hi) (w:World):Calls Tryz.prog 51 #[.int .i64 v,.int .i64 lo,.int .i64 hi] w fun e w'=>e=.returned (.bool true)∧w=w':=by
 have c1:decide (lo≤v)=true:=decide_eq_true h1
 have c2:decide (v≤hi)=true:=decide_eq_true h2
 go_enter Tryz.func51,Tryz.ntmps51
 go_wp2_with fail
 go_ret
 exact ⟨rfl,rfl⟩
theorem rAlphabet_any (syms:Nat) (h:1≤syms∧syms≤32) (w:World):Calls Tryz.prog 50 #[.int .i64 (syms:Int)] w fun e w'=>e=.returned (.bool true)∧w=w':=by
 have c1:(1:Int)≤(syms:Int):=by omega
 have c2:(syms:Int)≤32:=by omega
 have c1':decide ((1:Int)≤(syms:Int))=true:=decide_eq_true c1
 have c2':decide ((syms:Int)≤32)=true:=decide_eq_true c2
 go_enter Tryz.func50,Tryz.ntmps50
 go_wp2_with fail
 go_ret
 exact ⟨rfl,rfl⟩
set_option maxHeartbeats 1000000 in
theorem rWeights_any (xs:List Tw) (ao:Option Addr) (n ca:Nat) (w:World) (hv:∀ v∈xs,TwOk v) (hx:Fl 8 w ao n ca (xs.map twC)):Calls Tryz.prog 52 #[.agg #[.int .i64 2,.slice none 0 0],.slice ao n ca,.int .i64 (n:Int)] w fun e w'=>e=.returned (.bool true)∧Below w.heap.size w w':=by
 have hb0:Below w.heap.size w (w.alloc (.cells #[.int .i64 2,.slice none 0 0] 26)):=below_alloc _
 have hA:=Bl.fresh w rgC 26
 have hbx:=hx.bound
 replace hx:=hid (hx.next hb0)
 replace hv:=hid hv
 go_enter Tryz.func52,Tryz.ntmps52
 go_wp2_with fail
 generalize (w.alloc (.cells #[.int .i64 2,.slice none 0 0] 26))=W1 at *
 go_loopw [7] (fun iv wr=>∃ k:Nat,k≤n∧iv=.int .i64 (k:Int)∧Below W1.heap.size W1 wr) (fun iv _=>n-(intOf iv).toNat)
 case atStart=>exact ⟨0,by omega,rfl,Below.refl _ _⟩
 case round =>
  obtain ⟨k,hk,rfl,hb⟩:=hrel
  by_cases hlt:k<n
  ·obtain ⟨x,hxk,b1,o1,rfl,hc1⟩:=(hx.out.next hb).get hlt
   have i1:(k:Int)<(n:Int):=by omega
   have i0:(0:Int)≤(k:Int):=by omega
   have hxo:=hv.out x (List.mem_of_getElem? hxk)
   replace hxo:=hid hxo
   replace hxk:=hid hxk
   go_upto_region 6 with fail
   have hdr:=(Below.refl wr.heap.size wr).drew
   have hS:Cs wr.drew w.heap.size 0 rgC∧Cs wr.drew b1 (o1+k*8) (twC x):=⟨((hA.next hb).next hdr).cs,hc1.next hdr⟩
   have hK:∀ w' w'',(Cs w' w.heap.size 0 rgC∧Cs w' b1 (o1+k*8) (twC x))→Below w'.heap.size w' w''→(Cs w'' w.heap.size 0 rgC∧Cs w'' b1 (o1+k*8) (twC x)):=fun w' w'' h hb=>⟨h.1.next hb,h.2.next hb⟩
   have hb1:=below_chain hb hdr
   clear hc1 hdr hb
   refine wp_region_D (fun w'=>Cs w' w.heap.size 0 rgC∧Cs w' b1 (o1+k*8) (twC x)) [] (by kernel_rfl) ?_
   refine wpTD (some 17) (i:=0) (v:=?_) rfl rfl (Or.inl ⟨by rfl,?_⟩) hS ?_
   rotate_left
   ·intro wz hw; refine exec_loadRing w.heap.size 0 ?_ hw.1; go_simp
   refine wpTDp (some 18) (i:=1) rfl rfl hS ?_
   refine wpTDp (some 19) (i:=2) rfl rfl hS ?_
   refine wpTDp (some 20) (i:=3) rfl rfl hS ?_
   refine wpTD (some 21) (i:=4) (v:=?_) rfl rfl (Or.inl ⟨by rfl,?_⟩) hS ?_
   rotate_left
   ·intro wz hw; refine exec_loadTw b1 (o1+k*8) ?_ x hw.2; go_simp
   refine wpAnyD_one (i:=5) (by kernel_rfl) rfl (fun KK hKK=>?_)
   go_simp
   go_at_call 53
   refine (rCheck_any x hxo.out _).mono ?_; rintro e w2 ⟨rfl,hb2⟩
   try go_simp
   refine hKK _ _ ⟨fun _=>(hK _ _ hS hb2),?_⟩; clear hKK KK
   refine wpTDp (some 23) (i:=6) rfl rfl (hK _ _ hS hb2) ?_
   refine wpAnyD_done (by kernel_rfl) ?_ _
   have hb3:=below_chain hb1 hb2
   go_wp2_with fail
   go_roundw
   case rel=>exact ⟨k+1,by omega,by go_num,hb3⟩
   case measure=>simp [intOf]; omega
  ·obtain rfl:k=n:=by omega
   have i1:¬ (k:Int)<(k:Int):=by omega
   go_wp2_with fail
   go_ret
   exact ⟨rfl,below_chain hb0 hb⟩
end
end Go.Proofs.YtnapapijhhldpaaGreatDoor

/-
  Texts joined by program: Tvb, Tvc, Tvd. No condition of its own.
-/
import Derived.Test.YtnapapijhhldpaaGreatDoorJkBJ
namespace Go.Proofs.YtnapapijhhldpaaGreatDoor
set_option linter.unusedSimpArgs false
set_option linter.unusedVariables false
set_option maxRecDepth 100000
set_option maxHeartbeats 4000000
section
open Go.RowKit
abbrev WR (w:World) (base:Nat) (v:Value) (S:List Tw):Prop:=FO 45 8 w base v (S.map twC)
theorem q4m (w:World):Calls Tryz.prog 22 #[.agg #[.int .i64 2,.slice none 0 0]] w fun e w'=>e=.returned (.agg (twC none).toArray)/\Below w.heap.size w w':=(q1q w).mono fun e w' h=>h
theorem j1m (n:Nat):List.replicate n (none:Tw)++[none]=List.replicate (n+1) none:=by rw [List.replicate_succ']
theorem j2n (syms:Nat) (iv fv av:Value) (hone:∀ u∈auC syms 0 iv fv av,u.oneCell'=true) (st:Nat) (hst:st<=64) (w:World) :
  Calls Tryz.prog 103 #[.agg (auC syms st iv fv av).toArray] w fun e w'=>∃ v,e=.returned v/\WR w' w.heap.size v (List.replicate st none)/\Below w.heap.size w w':=by
 have hb0:Below w.heap.size w (w.alloc (.cells (auC syms st iv fv av).toArray 30)):=qJ _
 have hG:=Bl.fresh w (auC syms st iv fv av) 30
 go_enter Tryz.func103,Tryz.ntmps103
 have y3:=hG.cell (i:=3) rfl
 go_upto_region 3 with fail
 generalize hW0:(w.alloc (.cells (auC syms st iv fv av).toArray 30))=W0 at *
 have hGw:w.heap.size<W0.heap.size:=hG.lt
 clear hW0
 clear y3
 go_loopw [3,6] (fun ov iv_ wr=>∃ k:Nat,k<=st/\iv_=.int .i64 (k:Int)/\WR wr (w.heap.size+1) ov (List.replicate k none)/\Below (w.heap.size+1) W0 wr/\Bl w.heap.size (auC syms st iv fv av) 30 wr) (fun _ iv_ _=>st-(intOf iv_).toNat)
 case atStart=>exact ⟨0,Nat.zero_le _,rfl,FO.nil _ _ _ _,Below.refl _ _,hG⟩
 case round =>
  obtain ⟨k,hk,rfl,hrow,hb,hGr⟩:=hrel
  obtain ⟨ao,cap,rfl⟩:=hrow.form
  simp only [List.length_map,List.length_replicate] at hrow ⊢
  have y0:=hGr.cell (i:=0) rfl
  have y1:=hGr.cell (i:=1) rfl
  by_cases hlt:k<st
  ·have i1:(k:Int)<(st:Int):=by omega
   have i0:(0:Int)<=(k:Int):=by omega
   replace hrow:=hid hrow
   replace hb:=hid hb
   go_wp2_with fail
   refine (vB _).mono ?_; rintro e w1 ⟨rfl,hb1⟩
   have hbL:Below w1.heap.size w1 (w1.alloc (.cells (twC none).toArray 45)):=qJ _
   have hnew:=Cs.fresh w1 (twC none) 45
   have hr3:=(hrow.out.next hb1).next hbL
   have hG3:=hid ((hGr.next hb1).next hbL)
   have hsz:w.heap.size<w1.heap.size:=Nat.lt_of_lt_of_le hGw (Nat.le_trans hb.out.size hb1.size)
   have hb3:=hid (hb.out.trans ((qQ hb1 hbL).mono (Nat.le_trans hGw hb.out.size)))
   go_wp2_with (at_builtin; refine q1w rfl (.tmp 8) (.tmp 12) 27 rfl 45 (.agg #[.bool false,.slice none 0 0,.slice none 0 0,.int .i64 0,.bool false,.int .u64 0,.slice none 0 0,.slice none 0 0]) 8 128 Tryz.underlying27 Tryz.infoTw rfl (by decide) (w.heap.size+1) _ _ rfl hr3 w1.heap.size 0 1 1 [twC none] rfl rfl (by decide) (zH [none]) (by simpa using hnew) (zG [none]) (by rw [List.length_map,List.length_replicate]; omega) (by rw [List.length_map,List.length_replicate]; omega) (by rw [World.size_alloc]; omega) ?_; intro v5 w5 hv5 hg5 hb5 ho5)
   have hv6:WR w5 (w.heap.size+1) v5 (List.replicate (k+1) none):=by show FO _ _ _ _ _ _; rw [<-j1m,List.map_append]; exact hv5
   have hG5:=hid (hG3.out.fr (qS hg5 fun g hg=>hg) (fun e=>by have:=(hr3.lt e).1; omega))
   have hb6:=hid (hb3.out.trans (hb5.mono (Nat.le_refl _)))
   replace hv6:=hid hv6
   clear hv5 hg5 hb5 ho5 hr3 hnew hbL hb1
   go_wp2_with fail
   go_roundw
   case rel=>exact ⟨k+1,by omega,by go_num,hv6.out,hb6.out,hG5.out⟩
   case measure=>simp [intOf]; omega
  ·obtain rfl:k=st:=by omega
   have i1:¬ (k:Int)<(k:Int):=by omega
   replace hrow:=hid hrow
   replace hb:=hid hb
   go_wp2_with fail
   go_ret
   exact ⟨_,rfl,hrow.out.mono (Nat.le_succ _),hb0.trans (hb.out.mono (Nat.le_succ _))⟩
theorem j3b (st:Nat) (hst:st<=64) (w:World) :
  Calls Tryz.prog 113 #[.agg #[.int .i64 2,.slice none 0 0],.int .i64 (st:Int)] w fun e w'=>∃ v,e=.returned v/\WR w' w.heap.size v (List.replicate st none)/\Below w.heap.size w w':=by
 have hb0:Below w.heap.size w (w.alloc (.cells #[.int .i64 2,.slice none 0 0] 26)):=qJ _
 have hG:=Bl.fresh w [.int .i64 2,.slice none 0 0] 26
 go_enter Tryz.func113,Tryz.ntmps113
 go_upto_region 3 with fail
 generalize hW0:(w.alloc (.cells #[.int .i64 2,.slice none 0 0] 26))=W0 at *
 have hGw:w.heap.size<W0.heap.size:=hG.lt
 clear hW0
 go_loopw [5,6] (fun ov iv_ wr=>∃ k:Nat,k<=st/\iv_=.int .i64 (k:Int)/\WR wr (w.heap.size+1) ov (List.replicate k none)/\Below (w.heap.size+1) W0 wr/\Bl w.heap.size ([.int .i64 2,.slice none 0 0]) 26 wr) (fun _ iv_ _=>st-(intOf iv_).toNat)
 case atStart=>exact ⟨0,Nat.zero_le _,rfl,FO.nil _ _ _ _,Below.refl _ _,hG⟩
 case round =>
  obtain ⟨k,hk,rfl,hrow,hb,hGr⟩:=hrel
  obtain ⟨ao,cap,rfl⟩:=hrow.form
  simp only [List.length_map,List.length_replicate] at hrow ⊢
  have y0:=hGr.cell (i:=0) rfl
  have y1:=hGr.cell (i:=1) rfl
  by_cases hlt:k<st
  ·have i1:(k:Int)<(st:Int):=by omega
   have i0:(0:Int)<=(k:Int):=by omega
   replace hrow:=hid hrow
   replace hb:=hid hb
   go_wp2_with fail
   refine (q4m _).mono ?_; rintro e w1 ⟨rfl,hb1⟩
   have hbL:Below w1.heap.size w1 (w1.alloc (.cells (twC none).toArray 45)):=qJ _
   have hnew:=Cs.fresh w1 (twC none) 45
   have hr3:=(hrow.out.next hb1).next hbL
   have hG3:=hid ((hGr.next hb1).next hbL)
   have hsz:w.heap.size<w1.heap.size:=Nat.lt_of_lt_of_le hGw (Nat.le_trans hb.out.size hb1.size)
   have hb3:=hid (hb.out.trans ((qQ hb1 hbL).mono (Nat.le_trans hGw hb.out.size)))
   go_wp2_with (at_builtin; refine q1w rfl (.tmp 12) (.tmp 15) 27 rfl 45 (.agg #[.bool false,.slice none 0 0,.slice none 0 0,.int .i64 0,.bool false,.int .u64 0,.slice none 0 0,.slice none 0 0]) 8 128 Tryz.underlying27 Tryz.infoTw rfl (by decide) (w.heap.size+1) _ _ rfl hr3 w1.heap.size 0 1 1 [twC none] rfl rfl (by decide) (zH [none]) (by simpa using hnew) (zG [none]) (by rw [List.length_map,List.length_replicate]; omega) (by rw [List.length_map,List.length_replicate]; omega) (by rw [World.size_alloc]; omega) ?_; intro v5 w5 hv5 hg5 hb5 ho5)
   have hv6:WR w5 (w.heap.size+1) v5 (List.replicate (k+1) none):=by show FO _ _ _ _ _ _; rw [<-j1m,List.map_append]; exact hv5
   have hG5:=hid (hG3.out.fr (qS hg5 fun g hg=>hg) (fun e=>by have:=(hr3.lt e).1; omega))
   have hb6:=hid (hb3.out.trans (hb5.mono (Nat.le_refl _)))
   replace hv6:=hid hv6
   clear hv5 hg5 hb5 ho5 hr3 hnew hbL hb1
   go_wp2_with fail
   go_roundw
   case rel=>exact ⟨k+1,by omega,by go_num,hv6.out,hb6.out,hG5.out⟩
   case measure=>simp [intOf]; omega
  ·obtain rfl:k=st:=by omega
   have i1:¬ (k:Int)<(k:Int):=by omega
   replace hrow:=hid hrow
   replace hb:=hid hb
   go_wp2_with fail
   go_ret
   exact ⟨_,rfl,hrow.out.mono (Nat.le_succ _),hb0.trans (hb.out.mono (Nat.le_succ _))⟩
end
section
open Go.RowKit
theorem q3j (v u:Tw) (hv:vW v) (hu:vW u) (w:World):Calls Tryz.prog 82 #[.agg #[.int .i64 2,.slice none 0 0],.agg #[.bool false,.slice none 0 0,.slice none 0 0,.int .i64 (tc (v):Int),.bool (ti (v)),.int .u64 0,.slice none 0 0,.slice none 0 0],.agg #[.bool false,.slice none 0 0,.slice none 0 0,.int .i64 (tc (u):Int),.bool (ti (u)),.int .u64 0,.slice none 0 0,.slice none 0 0]] w fun e w'=>e=.returned (.agg #[.bool false,.slice none 0 0,.slice none 0 0,.int .i64 (tc (jH v u):Int),.bool (ti (jH v u)),.int .u64 0,.slice none 0 0,.slice none 0 0])/\Below w.heap.size w w':=by
 obtain ⟨hb0,hA,hB⟩:=vP w (tc (v):Int) (ti (v))
 have hbC:=qJ (w:=((w.alloc (.cells #[.int .i64 2,.slice none 0 0] 26)).alloc (.cells #[.bool false,.slice none 0 0,.slice none 0 0,.int .i64 (tc (v):Int),.bool (ti (v)),.int .u64 0,.slice none 0 0,.slice none 0 0] 45))) (.cells #[.bool false,.slice none 0 0,.slice none 0 0,.int .i64 (tc (u):Int),.bool (ti (u)),.int .u64 0,.slice none 0 0,.slice none 0 0] 45)
 have hC:=Bl.fresh' (G:=w.heap.size+2) ((w.alloc (.cells #[.int .i64 2,.slice none 0 0] 26)).alloc (.cells #[.bool false,.slice none 0 0,.slice none 0 0,.int .i64 (tc (v):Int),.bool (ti (v)),.int .u64 0,.slice none 0 0,.slice none 0 0] 45)) [.bool false,.slice none 0 0,.slice none 0 0,.int .i64 (tc (u):Int),.bool (ti (u)),.int .u64 0,.slice none 0 0,.slice none 0 0] 45 (by simp)
 replace hA:=hA.next hbC
 replace hB:=hB.next hbC
 replace hb0:=qQ hb0 hbC
 have hbR:=qJ (w:=(((w.alloc (.cells #[.int .i64 2,.slice none 0 0] 26)).alloc (.cells #[.bool false,.slice none 0 0,.slice none 0 0,.int .i64 (tc (v):Int),.bool (ti (v)),.int .u64 0,.slice none 0 0,.slice none 0 0] 45)).alloc (.cells #[.bool false,.slice none 0 0,.slice none 0 0,.int .i64 (tc (u):Int),.bool (ti (u)),.int .u64 0,.slice none 0 0,.slice none 0 0] 45))) (.cells #[.bool false,.slice none 0 0,.slice none 0 0,.int .i64 0,.bool false,.int .u64 0,.slice none 0 0,.slice none 0 0] 45)
 have hR:=Bl.fresh' (G:=w.heap.size+3) (((w.alloc (.cells #[.int .i64 2,.slice none 0 0] 26)).alloc (.cells #[.bool false,.slice none 0 0,.slice none 0 0,.int .i64 (tc (v):Int),.bool (ti (v)),.int .u64 0,.slice none 0 0,.slice none 0 0] 45)).alloc (.cells #[.bool false,.slice none 0 0,.slice none 0 0,.int .i64 (tc (u):Int),.bool (ti (u)),.int .u64 0,.slice none 0 0,.slice none 0 0] 45)) [.bool false,.slice none 0 0,.slice none 0 0,.int .i64 0,.bool false,.int .u64 0,.slice none 0 0,.slice none 0 0] 45 (by simp)
 replace hA:=hA.next hbR
 replace hB:=hB.next hbR
 replace hC:=hC.next hbR
 replace hb0:=qQ hb0 hbR
 obtain ⟨r0,r1⟩:=hA.two
 clear hbR hbC
 go_enter Tryz.func82,Tryz.ntmps82
 go_wp2_with fail
 refine (kU _).mono ?_; rintro e w1 ⟨rfl,hb1⟩
 have hAx:Bl w.heap.size rgC 26 w1:=hA.next hb1
 have hBx:Bl (w.heap.size+1) (twC v) 45 w1:=hB.next hb1
 have hCx:Bl (w.heap.size+2) (twC u) 45 w1:=hC.next hb1
 have hRx:=hR.next hb1
 have hbx:=qQ hb0 hb1
 clear r0 r1 hA hB hC hR hb0 hb1
 go_upto_region 3 with fail
 have hdr:=(Below.refl w1.heap.size w1).drew
 replace hbx:=qQ hbx hdr
 replace hAx:=hAx.next hdr
 replace hBx:=hBx.next hdr
 replace hCx:=hCx.next hdr
 replace hRx:=hRx.next hdr
 have hS:Cs w1.drew w.heap.size 0 rgC/\Cs w1.drew (w.heap.size+1) 0 (twC v)/\Cs w1.drew (w.heap.size+2) 0 (twC u):=⟨hAx.cs,hBx.cs,hCx.cs⟩
 refine qV (fun w'=>Cs w' w.heap.size 0 rgC/\Cs w' (w.heap.size+1) 0 (twC v)/\Cs w' (w.heap.size+2) 0 (twC u)) [6,7] (by kernel_rfl) ?_
 refine wAl 0 (some 13) (v:=?_) rfl rfl ?_ hS ?_
 rotate_left
 ·intro wz hw; skip; refine qX w.heap.size 0 ?_ hw.1; go_simp
 refine wAl 1 (some 14) (v:=?_) rfl rfl ?_ hS ?_
 rotate_left
 ·intro wz hw; skip; refine qY (w.heap.size+1) 0 ?_ v hw.2.1; go_simp
 refine wAl 3 (some 16) (v:=?_) rfl rfl ?_ hS ?_
 rotate_left
 ·intro wz hw; skip; refine qX w.heap.size 0 ?_ hw.1; go_simp
 refine wAl 4 (some 17) (v:=?_) rfl rfl ?_ hS ?_
 rotate_left
 ·intro wz hw; skip; refine qY (w.heap.size+2) 0 ?_ u hw.2.2; go_simp
 go_simp
 refine wpO (i:=2) rfl fun KK hKK=>?_
 go_simp
 go_at_call 114
 refine (q0r v hv _).mono ?_; rintro e w2 ⟨rfl,hb2⟩
 replace hAx:=hAx.next hb2
 replace hBx:=hBx.next hb2
 replace hCx:=hCx.next hb2
 replace hRx:=hRx.next hb2
 replace hbx:=qQ hbx hb2
 try go_simp
 refine hKK _ _ ⟨fun _=>(⟨hAx.cs,hBx.cs,hCx.cs⟩),?_⟩; clear hKK KK
 refine wpO (i:=5) rfl fun KK hKK=>?_
 go_simp
 go_at_call 114
 refine (q0r u hu _).mono ?_; rintro e w3 ⟨rfl,hb3⟩
 replace hAx:=hAx.next hb3
 replace hBx:=hBx.next hb3
 replace hCx:=hCx.next hb3
 replace hRx:=hRx.next hb3
 replace hbx:=qQ hbx hb3
 try go_simp
 refine hKK _ _ ⟨fun _=>(⟨hAx.cs,hBx.cs,hCx.cs⟩),?_⟩; clear hKK KK
 refine wpO (i:=6) rfl fun KK hKK=>?_
 rw [if_pos (by rfl)]
 with_reducible refine qB 45 (.tmp 4) (.tmp 15) ?_ (w.heap.size+1) 45 (twC v) hBx ?_ (twC v) ?_ ?_ ?_ ?_ ?_
 ·rfl
 ·rfl
 ·rfl
 ·rfl
 ·exact q0f v
 ·exact Tryz.sizeTw
 intro w6 hB6 hfr6
 have hC6:=hCx.fr hfr6 (by omega)
 have hA6:=hAx.fr hfr6 (by omega)
 have hR6:=hRx.fr hfr6 (by omega)
 replace hbx:=hbx.trans (hfr6.below (fun k e=>by omega) hbx.size)
 refine lN hKK ?_; clear hKK KK
 refine wpO (i:=7) rfl fun KK hKK=>?_
 rw [if_pos (by rfl)]
 with_reducible refine qB 45 (.tmp 5) (.tmp 18) ?_ (w.heap.size+2) 45 (twC u) hC6 ?_ (twC u) ?_ ?_ ?_ ?_ ?_
 ·rfl
 ·rfl
 ·rfl
 ·rfl
 ·exact q0f u
 ·exact Tryz.sizeTw
 intro w7 hC7 hfr7
 have hB7:=hB6.fr hfr7 (by omega)
 have hA7:=hA6.fr hfr7 (by omega)
 have hR7:=hR6.fr hfr7 (by omega)
 replace hbx:=hbx.trans (hfr7.below (fun k e=>by omega) hbx.size)
 refine lN hKK ?_; clear hKK KK
 refine qZ (by kernel_rfl) ?_ _
 obtain ⟨a0,a1⟩:=hA7.two
 have b3:=hB7.cell (i:=3) rfl
 have b4:=hB7.cell (i:=4) rfl
 have c3:=hC7.cell (i:=3) rfl
 have c4:=hC7.cell (i:=4) rfl
 clear hAx hBx hCx hRx hfr6 hfr7 hA6 hB6 hC6 hR6 hA7 hB7 hC7
 have v0:(0:Int)<=(tc v:Int):=Int.natCast_nonneg _
 have u0:(0:Int)<=(tc u:Int):=Int.natCast_nonneg _
 have v1:(tc v:Int)<=1099511627776:=by have:=hv; unfold vW at this; omega
 have u1:(tc u:Int)<=1099511627776:=by have:=hu; unfold vW at this; omega
 cases hv4:ti v with
 | true =>
  have hvn:v=none:=by cases v with | none=>rfl | some a=>cases hv4
  rw [hv4] at b4
  have hres:Hid (jH v u=none):=hid (by rw [hvn]; cases u<;>rfl)
  clear hvn
  go_wp2_with ((with_reducible refine jJ rfl _ _ rfl (w.heap.size+3) 45 _ hR7 ?_ (none) rfl ?_ ?_); exact rfl; exact rfl; intro w9 hR9 hfr9)
  exact bodyPost_ret (qN rfl _ _ (w.heap.size+3) (twC (none)) _ rfl hR9.cs Tryz.underlying45 rfl Tryz.sizeTw) rfl ⟨by rw [hres.out],hbx.trans (hfr9.below (fun k e=>by omega) hbx.size)⟩
 | false =>
  cases hu4:ti u with
  | true =>
   have hun:u=none:=by cases u with | none=>rfl | some a=>cases hu4
   rw [hv4] at b4
   rw [hu4] at c4
   have hres:Hid (jH v u=none):=hid (by rw [hun]; cases v<;>rfl)
   clear hun
   go_wp2_with ((with_reducible refine jJ rfl _ _ rfl (w.heap.size+3) 45 _ hR7 ?_ (none) rfl ?_ ?_); exact rfl; exact rfl; intro w9 hR9 hfr9)
   exact bodyPost_ret (qN rfl _ _ (w.heap.size+3) (twC (none)) _ rfl hR9.cs Tryz.underlying45 rfl Tryz.sizeTw) rfl ⟨by rw [hres.out],hbx.trans (hfr9.below (fun k e=>by omega) hbx.size)⟩
  | false =>
   rw [hv4] at b4
   rw [hu4] at c4
   have hpl:jH v u=if tc v+tc u<=1099511627776 then some (tc v+tc u) else none:=by
    cases v with
    | none=>cases hv4
    | some a =>
     cases u with
     | none=>cases hu4
     | some b=>rfl
   have kw:IntKind.i64.wrap ((tc v:Int)+(tc u:Int))=(tc v:Int)+(tc u:Int):=by rw [IntKind.wrap_i64]; omega
   by_cases hle:tc v+tc u<=1099511627776
   ·have hres:Hid (jH v u=some (tc v+tc u)):=hid (by rw [hpl,if_pos hle])
    have k1:(tc v:Int)+(tc u:Int)<=1099511627776:=by omega
    have k2:¬ (1099511627776:Int)<(tc v:Int)+(tc u:Int):=by omega
    clear hpl
    go_wp2_with ((with_reducible refine jJ rfl _ _ rfl (w.heap.size+3) 45 _ hR7 ?_ (some (tc v+tc u)) rfl ?_ ?_); exact rfl; exact rfl; intro w9 hR9 hfr9)
    exact bodyPost_ret (qN rfl _ _ (w.heap.size+3) (twC (some (tc v+tc u))) _ rfl hR9.cs Tryz.underlying45 rfl Tryz.sizeTw) rfl ⟨by rw [hres.out],hbx.trans (hfr9.below (fun k e=>by omega) hbx.size)⟩
   ·have hres:Hid (jH v u=none):=hid (by rw [hpl,if_neg hle])
    have k1:(1099511627776:Int)<(tc v:Int)+(tc u:Int):=by omega
    clear hpl
    go_wp2_with ((with_reducible refine jJ rfl _ _ rfl (w.heap.size+3) 45 _ hR7 ?_ (none) rfl ?_ ?_); exact rfl; exact rfl; intro w9 hR9 hfr9)
    exact bodyPost_ret (qN rfl _ _ (w.heap.size+3) (twC (none)) _ rfl hR9.cs Tryz.underlying45 rfl Tryz.sizeTw) rfl ⟨by rw [hres.out],hbx.trans (hfr9.below (fun k e=>by omega) hbx.size)⟩
end
section
open Go.RowKit
theorem kM {v w:Tw}:vW (jH v w):=by
 cases v with
 | none=>cases w<;>exact Nat.zero_le _
 | some a =>
  cases w with
  | none=>exact Nat.zero_le _
  | some b =>
   show tc (if a+b<=1099511627776 then some (a+b) else none)<=_
   split
   ·assumption
   ·exact Nat.zero_le _
theorem q6l (v w:List Tw):∀ n,vW (q7f v w n)
 | 0=>Nat.zero_le _
 | n+1=>by rw [q2u]; exact q7u (q6l v w n) kM
theorem j8f (xs ys:List Tw) (hx0:∀ x∈xs,vW x) (hy0:∀ y∈ys,vW y) (n:Nat) (ao bo:OA) (ca cb:Nat) (w:World) (hx:Fl 8 w ao n ca (xs.map twC)) (hy:Fl 8 w bo n cb (ys.map twC)) :
  Calls Tryz.prog 44 #[.agg #[.int .i64 2,.slice none 0 0],.slice ao n ca,.slice bo n cb] w fun e w'=>e=.returned (.agg #[.bool false,.slice none 0 0,.slice none 0 0,.int .i64 (tc (q7f xs ys n):Int),.bool (ti (q7f xs ys n)),.int .u64 0,.slice none 0 0,.slice none 0 0])/\Below w.heap.size w w':=by
 have hbx:=hx.bound
 obtain ⟨hb0,hA,hR⟩:=vP w 0 false
 replace hx:=hid hx
 replace hy:=hid hy
 go_enter Tryz.func44,Tryz.ntmps44
 go_upto_region 1 with fail
 generalize ((w.alloc (.cells #[.int .i64 2,.slice none 0 0] 26)).alloc (.cells #[.bool false,.slice none 0 0,.slice none 0 0,.int .i64 0,.bool false,.int .u64 0,.slice none 0 0,.slice none 0 0] 45))=W1 at *
 have hlW:=hR.lt
 obtain ⟨r0,r1⟩:=hA.two
 go_wp2_with fail
 refine (vB _).mono ?_; rintro e w1 ⟨rfl,hb1⟩
 replace hA:=hA.next hb1
 replace hR:=hR.next hb1
 replace hb0:=qQ hb0 hb1
 have hlW1:=hR.lt
 clear r0 r1 hb1 hlW
 go_wp2_with ((with_reducible refine zR rfl _ _ rfl _ _ ?_ none ?_ ?_ ?_); exact rfl; exact rfl; exact rfl)
 obtain ⟨G,hGe⟩:∃ G,w1.heap.size=G:=⟨_,rfl⟩
 have hG:=Bl.fresh' (G:=G) w1 (twC none) 45 hGe
 replace hA:=hA.new (.cells (twC none).toArray 45)
 replace hR:=hR.new (.cells (twC none).toArray 45)
 have hbw1:Below w.heap.size w (w1.alloc (.cells (twC none).toArray 45)):=qQ hb0 (qJ _)
 rw [hGe] at hlW1 ⊢
 go_loopw [13] (fun iv wr=>∃ k:Nat,k<=n/\iv=.int .i64 (k:Int)/\Bl G (twC (q7f xs ys k)) 45 wr/\Bl w.heap.size rgC 26 wr/\Bl (w.heap.size+1) [.bool false,.slice none 0 0,.slice none 0 0,.int .i64 0,.bool false,.int .u64 0,.slice none 0 0,.slice none 0 0] 45 wr/\Below w.heap.size w wr) (fun iv _=>n-(intOf iv).toNat)
 case atStart=>exact ⟨0,Nat.zero_le _,rfl,hG,hA,hR,hbw1⟩
 case round =>
  clear hG hA hR hbw1
  obtain ⟨k,hk,rfl,hG,hA,hR,hb⟩:=hrel
  obtain ⟨d,hd⟩:∃ d,q7f xs ys k=d:=⟨_,rfl⟩
  have hdo:vW d:=hd▸q6l xs ys k
  rw [hd] at hG
  by_cases hlt:k<n
  ·obtain ⟨x,hxk,b1,o1,rfl,hc1⟩:=(hx.out.next hb).get hlt
   obtain ⟨y,hyk,b2,o2,rfl,hc2⟩:=(hy.out.next hb).get hlt
   have hxo:=hx0 x (List.mem_of_getElem? hxk)
   have hyo:=hy0 y (List.mem_of_getElem? hyk)
   have hd1:Hid (q7f xs ys (k+1)=qP d (jH x y)):=hid (by rw [q2u,List.getD_eq_getElem?_getD,List.getD_eq_getElem?_getD,hxk,hyk,hd]; rfl)
   have i1:(k:Int)<(n:Int):=by omega
   have i0:(0:Int)<=(k:Int):=by omega
   clear hxk hyk
   replace hd:=hid hd
   replace hG:=hid hG
   replace hA:=hid hA
   replace hR:=hid hR
   replace hb:=hid hb
   go_upto_region 5 with fail
   have hdr:=(Below.refl wr.heap.size wr).drew
   replace hG:=hG.out.next hdr
   replace hA:=hA.out.next hdr
   replace hR:=hR.out.next hdr
   replace hb:=qQ hb.out hdr
   have hS:Cs wr.drew w.heap.size 0 rgC/\Cs wr.drew G 0 (twC d)/\Cs wr.drew b1 (o1+k*8) (twC x)/\Cs wr.drew b2 (o2+k*8) (twC y):=⟨hA.cs,hG.cs,hc1.next hdr,hc2.next hdr⟩
   have hK:∀ w' w'',(Cs w' w.heap.size 0 rgC/\Cs w' G 0 (twC d)/\Cs w' b1 (o1+k*8) (twC x)/\Cs w' b2 (o2+k*8) (twC y))->Below w'.heap.size w' w''->(Cs w'' w.heap.size 0 rgC/\Cs w'' G 0 (twC d)/\Cs w'' b1 (o1+k*8) (twC x)/\Cs w'' b2 (o2+k*8) (twC y)):=fun w' w'' h hb=>⟨h.1.next hb,h.2.1.next hb,h.2.2.1.next hb,h.2.2.2.next hb⟩
   clear hc1 hc2 hdr
   refine qV (fun w'=>Cs w' w.heap.size 0 rgC/\Cs w' G 0 (twC d)/\Cs w' b1 (o1+k*8) (twC x)/\Cs w' b2 (o2+k*8) (twC y)) [13] (by kernel_rfl) ?_
   refine wAl 0 (some 16) (v:=?_) rfl rfl ?_ hS ?_
   rotate_left
   ·intro wz hw; skip; refine qX w.heap.size 0 ?_ hw.1; go_simp
   refine wAl 1 (some 17) (v:=?_) rfl rfl ?_ hS ?_
   rotate_left
   ·intro wz hw; skip; refine qY G 0 ?_ d hw.2.1; go_simp
   refine wAl 2 (some 18) (v:=?_) rfl rfl ?_ hS ?_
   rotate_left
   ·intro wz hw; skip; refine qX w.heap.size 0 ?_ hw.1; go_simp
   refine wAp 3 (some 19) rfl rfl hS ?_
   refine wAp 4 (some 20) rfl rfl hS ?_
   refine wAp 5 (some 21) rfl rfl hS ?_
   refine wAl 6 (some 22) (v:=?_) rfl rfl ?_ hS ?_
   rotate_left
   ·intro wz hw; skip; refine qY b1 (o1+k*8) ?_ x hw.2.2.1; go_simp
   refine wAp 7 (some 23) rfl rfl hS ?_
   refine wAp 8 (some 24) rfl rfl hS ?_
   refine wAp 9 (some 25) rfl rfl hS ?_
   refine wAl 10 (some 26) (v:=?_) rfl rfl ?_ hS ?_
   rotate_left
   ·intro wz hw; skip; refine qY b2 (o2+k*8) ?_ y hw.2.2.2; go_simp
   go_simp
   refine wpO (i:=11) rfl fun KK hKK=>?_
   go_simp
   go_at_call 78
   refine (q4f x y hxo hyo _).mono ?_; rintro e w2 ⟨rfl,hb2⟩
   replace hA:=hA.next hb2
   replace hG:=hG.next hb2
   replace hR:=hR.next hb2
   replace hb:=qQ hb hb2
   try go_simp
   refine hKK _ _ ⟨fun _=>(hK _ _ hS hb2),?_⟩; clear hKK KK
   refine wpO (i:=12) rfl fun KK hKK=>?_
   go_simp
   go_at_call 77
   refine (q0s d (jH x y) hdo kM _).mono ?_; rintro e w3 ⟨rfl,hb3⟩
   replace hA:=hA.next hb3
   replace hG:=hG.next hb3
   replace hR:=hR.next hb3
   replace hb:=qQ hb hb3
   try go_simp
   refine hKK _ _ ⟨fun _=>(hK _ _ (hK _ _ hS hb2) hb3),?_⟩; clear hKK KK
   refine wpO (i:=13) rfl fun KK hKK=>?_
   rw [if_pos (by rfl)]
   with_reducible refine qB 45 (.tmp 7) (.tmp 28) ?_ G 45 (twC d) hG ?_ (twC (qP d (jH x y))) ?_ ?_ ?_ ?_ ?_
   ·rfl
   ·rfl
   ·rfl
   ·rfl
   ·exact q0f _
   ·exact Tryz.sizeTw
   intro w9 hG9 hf9
   refine lN hKK ?_; clear hKK KK
   refine qZ (by kernel_rfl) ?_ _
   have hA9:=hid (hA.fr hf9 (by omega))
   have hR9:=hid (hR.fr hf9 (by omega))
   have hb9:=hid (hb.trans (hf9.below (fun k e=>by omega) hb.size))
   rw [<-hd1.out] at hG9
   replace hG9:=hid hG9
   clear hG hA hR hb hf9 hS hK
   go_wp2_with fail
   go_roundw
   case rel=>exact ⟨k+1,by omega,by go_num,hG9.out,hA9.out,hR9.out,hb9.out⟩
   case measure=>simp [intOf]; omega
  ·obtain rfl:k=n:=by omega
   have i1:¬ (k:Int)<(k:Int):=by omega
   have hGc:=hG.cs
   go_wp2_with (first | ((with_reducible refine jB rfl _ rfl G 0 ?_ d hGc ?_); exact rfl) | ((with_reducible refine jJ rfl _ _ rfl (w.heap.size+1) 45 _ hR ?_ d rfl ?_ ?_); exact rfl; exact rfl; intro w9 hR9 hfr9))
   exact bodyPost_ret (qN rfl _ _ (w.heap.size+1) (twC d) _ rfl hR9.cs Tryz.underlying45 rfl Tryz.sizeTw) rfl ⟨rfl,hb.trans (hfr9.below (fun k e=>by omega) hb.size)⟩
theorem j9c (xs ys:List Tw) (hx0:∀ x∈xs,vW x) (hy0:∀ y∈ys,vW y) (n:Nat) (ao bo:OA) (ca cb:Nat) (w:World) (hx:Fl 8 w ao n ca (xs.map twC)) (hy:Fl 8 w bo n cb (ys.map twC)) :
  Calls Tryz.prog 46 #[.agg #[.int .i64 2,.slice none 0 0],.slice ao n ca,.slice bo n cb] w fun e w'=>e=.returned (.agg #[.bool false,.slice none 0 0,.slice none 0 0,.int .i64 (tc (q7f xs ys n):Int),.bool (ti (q7f xs ys n)),.int .u64 0,.slice none 0 0,.slice none 0 0])/\Below w.heap.size w w':=by
 have hbx:=hx.bound
 obtain ⟨hb0,hA,hR⟩:=vP w 0 false
 replace hx:=hid hx
 replace hy:=hid hy
 go_enter Tryz.func46,Tryz.ntmps46
 go_upto_region 1 with fail
 generalize ((w.alloc (.cells #[.int .i64 2,.slice none 0 0] 26)).alloc (.cells #[.bool false,.slice none 0 0,.slice none 0 0,.int .i64 0,.bool false,.int .u64 0,.slice none 0 0,.slice none 0 0] 45))=W1 at *
 have hlW:=hR.lt
 obtain ⟨r0,r1⟩:=hA.two
 go_wp2_with fail
 refine (q4m _).mono ?_; rintro e w1 ⟨rfl,hb1⟩
 replace hA:=hA.next hb1
 replace hR:=hR.next hb1
 replace hb0:=qQ hb0 hb1
 have hlW1:=hR.lt
 clear r0 r1 hb1 hlW
 go_wp2_with ((with_reducible refine zR rfl _ _ rfl _ _ ?_ none ?_ ?_ ?_); exact rfl; exact rfl; exact rfl)
 obtain ⟨G,hGe⟩:∃ G,w1.heap.size=G:=⟨_,rfl⟩
 have hG:=Bl.fresh' (G:=G) w1 (twC none) 45 hGe
 replace hA:=hA.new (.cells (twC none).toArray 45)
 replace hR:=hR.new (.cells (twC none).toArray 45)
 have hbw1:Below w.heap.size w (w1.alloc (.cells (twC none).toArray 45)):=qQ hb0 (qJ _)
 rw [hGe] at hlW1 ⊢
 go_loopw [8] (fun iv wr=>∃ k:Nat,k<=n/\iv=.int .i64 (k:Int)/\Bl G (twC (q7f xs ys k)) 45 wr/\Bl w.heap.size rgC 26 wr/\Bl (w.heap.size+1) [.bool false,.slice none 0 0,.slice none 0 0,.int .i64 0,.bool false,.int .u64 0,.slice none 0 0,.slice none 0 0] 45 wr/\Below w.heap.size w wr) (fun iv _=>n-(intOf iv).toNat)
 case atStart=>exact ⟨0,Nat.zero_le _,rfl,hG,hA,hR,hbw1⟩
 case round =>
  clear hG hA hR hbw1
  obtain ⟨k,hk,rfl,hG,hA,hR,hb⟩:=hrel
  obtain ⟨d,hd⟩:∃ d,q7f xs ys k=d:=⟨_,rfl⟩
  have hdo:vW d:=hd▸q6l xs ys k
  rw [hd] at hG
  by_cases hlt:k<n
  ·obtain ⟨x,hxk,b1,o1,rfl,hc1⟩:=(hx.out.next hb).get hlt
   obtain ⟨y,hyk,b2,o2,rfl,hc2⟩:=(hy.out.next hb).get hlt
   have hxo:=hx0 x (List.mem_of_getElem? hxk)
   have hyo:=hy0 y (List.mem_of_getElem? hyk)
   have hd1:Hid (q7f xs ys (k+1)=qP d (jH x y)):=hid (by rw [q2u,List.getD_eq_getElem?_getD,List.getD_eq_getElem?_getD,hxk,hyk,hd]; rfl)
   have i1:(k:Int)<(n:Int):=by omega
   have i0:(0:Int)<=(k:Int):=by omega
   clear hxk hyk
   replace hd:=hid hd
   replace hG:=hid hG
   replace hA:=hid hA
   replace hR:=hid hR
   replace hb:=hid hb
   go_upto_region 5 with fail
   have hdr:=(Below.refl wr.heap.size wr).drew
   replace hG:=hG.out.next hdr
   replace hA:=hA.out.next hdr
   replace hR:=hR.out.next hdr
   replace hb:=qQ hb.out hdr
   have hS:Cs wr.drew w.heap.size 0 rgC/\Cs wr.drew G 0 (twC d)/\Cs wr.drew b1 (o1+k*8) (twC x)/\Cs wr.drew b2 (o2+k*8) (twC y):=⟨hA.cs,hG.cs,hc1.next hdr,hc2.next hdr⟩
   have hK:∀ w' w'',(Cs w' w.heap.size 0 rgC/\Cs w' G 0 (twC d)/\Cs w' b1 (o1+k*8) (twC x)/\Cs w' b2 (o2+k*8) (twC y))->Below w'.heap.size w' w''->(Cs w'' w.heap.size 0 rgC/\Cs w'' G 0 (twC d)/\Cs w'' b1 (o1+k*8) (twC x)/\Cs w'' b2 (o2+k*8) (twC y)):=fun w' w'' h hb=>⟨h.1.next hb,h.2.1.next hb,h.2.2.1.next hb,h.2.2.2.next hb⟩
   clear hc1 hc2 hdr
   refine qV (fun w'=>Cs w' w.heap.size 0 rgC/\Cs w' G 0 (twC d)/\Cs w' b1 (o1+k*8) (twC x)/\Cs w' b2 (o2+k*8) (twC y)) [13] (by kernel_rfl) ?_
   refine wAl 0 (some 23) (v:=?_) rfl rfl ?_ hS ?_
   rotate_left
   ·intro wz hw; skip; refine qX w.heap.size 0 ?_ hw.1; go_simp
   refine wAl 1 (some 24) (v:=?_) rfl rfl ?_ hS ?_
   rotate_left
   ·intro wz hw; skip; refine qY G 0 ?_ d hw.2.1; go_simp
   refine wAl 2 (some 25) (v:=?_) rfl rfl ?_ hS ?_
   rotate_left
   ·intro wz hw; skip; refine qX w.heap.size 0 ?_ hw.1; go_simp
   refine wAp 3 (some 26) rfl rfl hS ?_
   refine wAp 4 (some 27) rfl rfl hS ?_
   refine wAp 5 (some 28) rfl rfl hS ?_
   refine wAl 6 (some 29) (v:=?_) rfl rfl ?_ hS ?_
   rotate_left
   ·intro wz hw; skip; refine qY b1 (o1+k*8) ?_ x hw.2.2.1; go_simp
   refine wAp 7 (some 30) rfl rfl hS ?_
   refine wAp 8 (some 31) rfl rfl hS ?_
   refine wAp 9 (some 32) rfl rfl hS ?_
   refine wAl 10 (some 33) (v:=?_) rfl rfl ?_ hS ?_
   rotate_left
   ·intro wz hw; skip; refine qY b2 (o2+k*8) ?_ y hw.2.2.2; go_simp
   go_simp
   refine wpO (i:=11) rfl fun KK hKK=>?_
   go_simp
   go_at_call 82
   refine (q3j x y hxo hyo _).mono ?_; rintro e w2 ⟨rfl,hb2⟩
   replace hA:=hA.next hb2
   replace hG:=hG.next hb2
   replace hR:=hR.next hb2
   replace hb:=qQ hb hb2
   try go_simp
   refine hKK _ _ ⟨fun _=>(hK _ _ hS hb2),?_⟩; clear hKK KK
   refine wpO (i:=12) rfl fun KK hKK=>?_
   go_simp
   go_at_call 81
   refine (q4o d (jH x y) hdo kM _).mono ?_; rintro e w3 ⟨rfl,hb3⟩
   replace hA:=hA.next hb3
   replace hG:=hG.next hb3
   replace hR:=hR.next hb3
   replace hb:=qQ hb hb3
   try go_simp
   refine hKK _ _ ⟨fun _=>(hK _ _ (hK _ _ hS hb2) hb3),?_⟩; clear hKK KK
   refine wpO (i:=13) rfl fun KK hKK=>?_
   rw [if_pos (by rfl)]
   with_reducible refine qB 45 (.tmp 7) (.tmp 35) ?_ G 45 (twC d) hG ?_ (twC (qP d (jH x y))) ?_ ?_ ?_ ?_ ?_
   ·rfl
   ·rfl
   ·rfl
   ·rfl
   ·exact q0f _
   ·exact Tryz.sizeTw
   intro w9 hG9 hf9
   refine lN hKK ?_; clear hKK KK
   refine qZ (by kernel_rfl) ?_ _
   have hA9:=hid (hA.fr hf9 (by omega))
   have hR9:=hid (hR.fr hf9 (by omega))
   have hb9:=hid (hb.trans (hf9.below (fun k e=>by omega) hb.size))
   rw [<-hd1.out] at hG9
   replace hG9:=hid hG9
   clear hG hA hR hb hf9 hS hK
   go_wp2_with fail
   go_roundw
   case rel=>exact ⟨k+1,by omega,by go_num,hG9.out,hA9.out,hR9.out,hb9.out⟩
   case measure=>simp [intOf]; omega
  ·obtain rfl:k=n:=by omega
   have i1:¬ (k:Int)<(k:Int):=by omega
   have hGc:=hG.cs
   go_wp2_with (first | ((with_reducible refine jB rfl _ rfl G 0 ?_ d hGc ?_); exact rfl) | ((with_reducible refine jJ rfl _ _ rfl (w.heap.size+1) 45 _ hR ?_ d rfl ?_ ?_); exact rfl; exact rfl; intro w9 hR9 hfr9))
   exact bodyPost_ret (qN rfl _ _ (w.heap.size+1) (twC d) _ rfl hR9.cs Tryz.underlying45 rfl Tryz.sizeTw) rfl ⟨rfl,hb.trans (hfr9.below (fun k e=>by omega) hb.size)⟩
end
end Go.Proofs.YtnapapijhhldpaaGreatDoor

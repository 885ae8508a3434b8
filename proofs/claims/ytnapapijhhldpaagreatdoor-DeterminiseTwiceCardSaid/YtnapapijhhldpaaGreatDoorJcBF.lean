/-
  Texts joined by program: Trk, Trl, Trm, Trn. No condition of its own.
-/
import Derived.Test.YtnapapijhhldpaaGreatDoorJcBE
namespace Go.Proofs.YtnapapijhhldpaaGreatDoor
set_option linter.unusedSimpArgs false
set_option linter.unusedVariables false
section
open Go.RowKit
theorem ring_ofA {w:World} {b:Nat} {syms st:Nat} {iv fv rv:Value} (h:Cs w b 0 (auC syms st iv fv rv)):Cs w b 0 rgC:=fun c u hu=>h c u (by
 match c,hu with
 | 0,hu=>exact hu
 | 1,hu=>exact hu
 | c+2,hu=>simp at hu)
theorem vo_arb {syms:Nat} {A:Au} (hV:Vo syms A):∀ y∈A.arcs,ArB y:=fun y hy=>by
 have h1:=hV.arcs y hy
 have h2:=hV.st
 have h3:=hV.sym.2
 exact ⟨by have:=h1.1; omega,by have:=h1.2.2.1; omega,by have:=h1.2.1; omega⟩
def FormOut (syms:Nat) (A:Au) (w:World) (v:Value) (w':World):Prop:=∃ (K:List Ac) (io:Option Addr) (ci:Nat) (fo:Option Addr) (cf:Nat) (ro:Option Addr) (nr cr:Nat),v=.agg (auC syms A.st (.slice io A.st ci) (.slice fo A.st cf) (.slice ro nr cr)).toArray∧Nf K A.arcs∧MoF w' w.heap.size ⟨A.st,A.ini,A.fin,K.filter nz⟩ io ci fo cf ro nr cr∧Below w.heap.size w w'
set_option maxRecDepth 100000 in
set_option maxHeartbeats 4000000 in
theorem rForm_any (syms:Nat) (A:Au) (hV:Vo syms A) (io:Option Addr) (ci:Nat) (fo:Option Addr) (cf:Nat) (ro:Option Addr) (nr cr:Nat) (w:World) (h:Mo w syms A io ci fo cf ro nr cr) :
  Calls Tryz.prog 70 #[.agg (auC syms A.st (.slice io A.st ci) (.slice fo A.st cf) (.slice ro nr cr)).toArray] w fun e w'=>∃ v,e=.returned v∧FormOut syms A w v w':=by
 have hb0:Below w.heap.size w ((w.alloc (.cells (auC syms A.st (.slice io A.st ci) (.slice fo A.st cf) (.slice ro nr cr)).toArray 30)).alloc (.cells #[.int .i64 0,.slice none 0 0,.int .i64 0,.int .i64 0,.slice none 0 0,.slice none 0 0,.slice none 0 0] 30)):=below_chain (below_alloc _) (below_alloc _)
 have hG:=(Bl.fresh w (auC syms A.st (.slice io A.st ci) (.slice fo A.st cf) (.slice ro nr cr)) 30).new (.cells #[.int .i64 0,.slice none 0 0,.int .i64 0,.int .i64 0,.slice none 0 0,.slice none 0 0,.slice none 0 0] 30)
 have hR:=Bl.fresh' (G:=w.heap.size+1) (w.alloc (.cells (auC syms A.st (.slice io A.st ci) (.slice fo A.st cf) (.slice ro nr cr)).toArray 30)) [.int .i64 0,.slice none 0 0,.int .i64 0,.int .i64 0,.slice none 0 0,.slice none 0 0,.slice none 0 0] 30 (by simp)
 have hm:=hid (h.next hb0)
 have hnr:nr≤2048:=by rw [←h.arcs.lenMap]; exact hV.num
 have hst:=hV.st
 have hab:=hid (vo_arb hV)
 have hat:=hid (fun y hy=>(hV.arcs y hy).2.2.2)
 replace hV:=hid hV
 clear h
 go_enter Tryz.func70,Tryz.ntmps70
 go_upto_region 1 with fail
 obtain ⟨W1,hW1⟩:∃ W1,W1=((w.alloc (.cells (auC syms A.st (.slice io A.st ci) (.slice fo A.st cf) (.slice ro nr cr)).toArray 30)).alloc (.cells #[.int .i64 0,.slice none 0 0,.int .i64 0,.int .i64 0,.slice none 0 0,.slice none 0 0,.slice none 0 0] 30)):=⟨_,rfl⟩
 rw [←hW1] at hb0 hG hR hm
 have hdr:=(Below.refl W1.heap.size W1).drew
 have hS:Cs W1.drew w.heap.size 0 (auC syms A.st (.slice io A.st ci) (.slice fo A.st cf) (.slice ro nr cr)):=(hG.next hdr).cs
 have hK0:∀ w' w'',Cs w' w.heap.size 0 (auC syms A.st (.slice io A.st ci) (.slice fo A.st cf) (.slice ro nr cr))→Below w'.heap.size w' w''→Cs w'' w.heap.size 0 (auC syms A.st (.slice io A.st ci) (.slice fo A.st cf) (.slice ro nr cr)):=fun w' w'' h hb=>h.next hb
 have hR1:=hR.next hdr
 have hm1:=hid (hm.out.next hdr)
 have hb1:=below_chain hb0 hdr
 subst hW1
 clear hG hR hm hb0 hdr
 refine wp_region_D (fun w'=>Cs w' w.heap.size 0 (auC syms A.st (.slice io A.st ci) (.slice fo A.st cf) (.slice ro nr cr))) [23] (by kernel_rfl) ?_
 refine wpTDp (some 3) (i:=0) rfl rfl hS ?_
 refine wpTD (some 4) (i:=1) (v:=?_) rfl rfl (Or.inl ⟨by rfl,?_⟩) hS ?_
 rotate_left
 ·intro wz hw; refine exec_loadRing w.heap.size 0 ?_ (ring_ofA hw); go_simp
 refine wpTDp (some 6) (i:=3) rfl rfl hS ?_
 refine wpTD (some 7) (i:=4) (v:=?_) rfl rfl (Or.inl ⟨by rfl,?_⟩) hS ?_
 rotate_left
 ·intro wz hw; refine exec_load1 w.heap.size 2 ?_ (.int .i64 (syms:Int)) (by have h:=hw 2 _ rfl; simpa using h) _ Tryz.underlying3 rfl; go_simp
 refine wpTDp (some 8) (i:=5) rfl rfl hS ?_
 refine wpTD (some 9) (i:=6) (v:=?_) rfl rfl (Or.inl ⟨by rfl,?_⟩) hS ?_
 rotate_left
 ·intro wz hw; refine exec_load1 w.heap.size 3 ?_ (.int .i64 (A.st:Int)) (by have h:=hw 3 _ rfl; simpa using h) _ Tryz.underlying3 rfl; go_simp
 refine wpTDp (some 10) (i:=7) rfl rfl hS ?_
 refine wpTD (some 11) (i:=8) (v:=?_) rfl rfl (Or.inl ⟨by rfl,?_⟩) hS ?_
 rotate_left
 ·intro wz hw; refine exec_loadRing w.heap.size 0 ?_ (ring_ofA hw); go_simp
 refine wpTDp (some 12) (i:=9) rfl rfl hS ?_
 refine wpTD (some 13) (i:=10) (v:=?_) rfl rfl (Or.inl ⟨by rfl,?_⟩) hS ?_
 rotate_left
 ·intro wz hw; refine exec_load1 w.heap.size 4 ?_ (.slice io A.st ci) (by have h:=hw 4 _ rfl; simpa using h) _ Tryz.underlying27 rfl; go_simp
 refine wpTDp (some 15) (i:=12) rfl rfl hS ?_
 refine wpTD (some 16) (i:=13) (v:=?_) rfl rfl (Or.inl ⟨by rfl,?_⟩) hS ?_
 rotate_left
 ·intro wz hw; refine exec_loadRing w.heap.size 0 ?_ (ring_ofA hw); go_simp
 refine wpTDp (some 17) (i:=14) rfl rfl hS ?_
 refine wpTD (some 18) (i:=15) (v:=?_) rfl rfl (Or.inl ⟨by rfl,?_⟩) hS ?_
 rotate_left
 ·intro wz hw; refine exec_load1 w.heap.size 5 ?_ (.slice fo A.st cf) (by have h:=hw 5 _ rfl; simpa using h) _ Tryz.underlying27 rfl; go_simp
 refine wpTDp (some 20) (i:=17) rfl rfl hS ?_
 refine wpTD (some 21) (i:=18) (v:=?_) rfl rfl (Or.inl ⟨by rfl,?_⟩) hS ?_
 rotate_left
 ·intro wz hw; refine exec_loadRing w.heap.size 0 ?_ (ring_ofA hw); go_simp
 refine wpTDp (some 22) (i:=19) rfl rfl hS ?_
 refine wpTD (some 23) (i:=20) (v:=?_) rfl rfl (Or.inl ⟨by rfl,?_⟩) hS ?_
 rotate_left
 ·intro wz hw; refine exec_load1 w.heap.size 6 ?_ (.slice ro nr cr) (by have h:=hw 6 _ rfl; simpa using h) _ Tryz.underlying28 rfl; go_simp
 go_simp
 refine wpAnyD_one (i:=2) (by kernel_rfl) rfl (fun KK hKK=>?_)
 go_simp
 go_at_call 95
 refine (rring_any _).mono ?_; rintro e w2 ⟨rfl,hb2⟩
 have hb3:=below_chain hb1 hb2
 have hm2:=hid (hm1.out.next hb2)
 have hR2:=hR1.next hb2
 try go_simp
 refine hKK _ _ ⟨fun _=>(hK0 _ _ hS hb2),?_⟩; clear hKK KK
 refine wpAnyD_one (i:=11) (by kernel_rfl) rfl (fun KK hKK=>?_)
 go_simp
 go_at_call 96
 refine (rtake_any A.ini io A.st ci _ hV.out.ini hst hm2.out.ini).mono ?_; rintro e w4 ⟨⟨bo,cb,rfl,hi4⟩,hb4⟩
 have hb5:=below_chain hb3 hb4
 have hm4:=hid (hm2.out.next hb4)
 have hR4:=hR2.next hb4
 replace hi4:=hi4.mono hR2.lt
 try go_simp
 refine hKK _ _ ⟨fun _=>(hK0 _ _ (hK0 _ _ hS hb2) hb4),?_⟩; clear hKK KK
 refine wpAnyD_one (i:=16) (by kernel_rfl) rfl (fun KK hKK=>?_)
 go_simp
 go_at_call 96
 refine (rtake_any A.fin fo A.st cf _ hV.out.fin hst hm4.out.fin).mono ?_; rintro e w6 ⟨⟨do_,cd,rfl,hf6⟩,hb6⟩
 have hb7:=below_chain hb5 hb6
 have hm6:=hid (hm4.out.next hb6)
 have hR6:=hR4.next hb6
 have hi6:=hi4.next hb6
 replace hf6:=hf6.mono hR4.lt
 try go_simp
 refine hKK _ _ ⟨fun _=>(hK0 _ _ (hK0 _ _ (hK0 _ _ hS hb2) hb4) hb6),?_⟩; clear hKK KK
 refine wpAnyD_one (i:=21) (by kernel_rfl) rfl (fun KK hKK=>?_)
 go_simp
 go_at_call 97
 refine (rArcs_any A.arcs ro nr cr hnr hab.out hat.out _ hm6.out.arcs).mono ?_; rintro e w8 ⟨⟨K,kv,rfl,hK,hk8⟩,hb8⟩
 have hb9:=below_chain hb7 hb8
 have hR8:=hR6.next hb8
 have hi8:=hi6.next hb8
 have hf8:=hf6.next hb8
 replace hk8:=hk8.mono hR6.lt
 obtain ⟨ko,kc,hkv⟩:=hk8.form
 subst hkv
 rw [List.length_map] at hk8
 simp only [List.length_map]
 replace hK:=hid hK
 try go_simp
 refine hKK _ _ ⟨fun _=>(hK0 _ _ (hK0 _ _ (hK0 _ _ (hK0 _ _ hS hb2) hb4) hb6) hb8),?_⟩; clear hKK KK
 refine wpTDp (some 25) (i:=22) rfl rfl (hK0 _ _ (hK0 _ _ (hK0 _ _ (hK0 _ _ hS hb2) hb4) hb6) hb8) ?_
 refine wpAnyD_one (i:=23) (by kernel_rfl) rfl (fun KK hKK=>?_)
 rw [if_pos (by rfl)]
 with_reducible refine op_storeB 30 (.tmp 2) (.tmp 25) ?_ (w.heap.size+1) 30 [.int .i64 0,.slice none 0 0,.int .i64 0,.int .i64 0,.slice none 0 0,.slice none 0 0,.slice none 0 0] hR8 ?_ (auC syms A.st (.slice bo A.st cb) (.slice do_ A.st cd) (.slice ko (K.filter nz).length kc)) ?_ ?_ ?_ ?_ ?_
 ·rfl
 ·go_simp
 ·rfl
 ·go_simp
 ·exact auC_1 _ _ _ _ _ _ _ _ _ _ _
 ·exact Tryz.sizeAuto
 intro w10 hR10 hfr10
 refine hKK _ _ ⟨fun hn=>absurd (by simp) hn,?_⟩; clear hKK KK
 refine wpAnyD_done (by kernel_rfl) ?_ _
 have hMo:MoF w8 (w.heap.size+1+1) ⟨A.st,A.ini,A.fin,K.filter nz⟩ bo cb do_ cd ko (K.filter nz).length kc:=⟨hi8,hf8,hk8⟩
 have hMo2:=hid ((hMo.fr hfr10 (Nat.lt_succ_self _)).mono (show w.heap.size≤w.heap.size+1+1 by omega))
 go_wp2_with fail
 exact bodyPost_ret (results_cellC1 rfl _ _ (w.heap.size+1) _ _ rfl hR10.cs Tryz.underlying30 rfl Tryz.sizeAuto) rfl ⟨_,rfl,K,bo,cb,do_,cd,ko,(K.filter nz).length,kc,rfl,hK.out,hMo2.out,hb9.trans (hfr10.below (fun k e=>by omega) hb9.size)⟩
end
section
open Go.RowKit
set_option maxHeartbeats 2000000 in
theorem rNormal_any (syms:Nat) (A:Au) (hV:Vo syms A) (io:Option Addr) (ci:Nat) (fo:Option Addr) (cf:Nat) (ro:Option Addr) (nr cr:Nat) (w:World) (h:Mo w syms A io ci fo cf ro nr cr) :
  Calls Tryz.prog 69 #[.agg (auC syms A.st (.slice io A.st ci) (.slice fo A.st cf) (.slice ro nr cr)).toArray] w fun e w'=>∃ v,e=.returned (.tuple #[v,.int .i64 0])∧FormOut syms A w v w':=by
 have hb0:Below w.heap.size w ((w.alloc (.cells (auC syms A.st (.slice io A.st ci) (.slice fo A.st cf) (.slice ro nr cr)).toArray 30)).alloc (.cells #[.int .i64 0,.slice none 0 0,.int .i64 0,.int .i64 0,.slice none 0 0,.slice none 0 0,.slice none 0 0] 30)):=below_chain (below_alloc _) (below_alloc _)
 have hG:=(Bl.fresh w (auC syms A.st (.slice io A.st ci) (.slice fo A.st cf) (.slice ro nr cr)) 30).new (.cells #[.int .i64 0,.slice none 0 0,.int .i64 0,.int .i64 0,.slice none 0 0,.slice none 0 0,.slice none 0 0] 30)
 have hR:=Bl.fresh' (G:=w.heap.size+1) (w.alloc (.cells (auC syms A.st (.slice io A.st ci) (.slice fo A.st cf) (.slice ro nr cr)).toArray 30)) [.int .i64 0,.slice none 0 0,.int .i64 0,.int .i64 0,.slice none 0 0,.slice none 0 0,.slice none 0 0] 30 (by simp)
 have hm:=hid (h.next hb0)
 clear h
 go_enter Tryz.func69,Tryz.ntmps69
 go_upto_region 1 with fail
 obtain ⟨W1,hW1⟩:∃ W1,W1=((w.alloc (.cells (auC syms A.st (.slice io A.st ci) (.slice fo A.st cf) (.slice ro nr cr)).toArray 30)).alloc (.cells #[.int .i64 0,.slice none 0 0,.int .i64 0,.int .i64 0,.slice none 0 0,.slice none 0 0,.slice none 0 0] 30)):=⟨_,rfl⟩
 rw [←hW1] at hb0 hG hR hm
 have hGc:=hG.cs
 subst hW1
 go_wp2_with ((with_reducible refine wp_loadAuto rfl _ rfl w.heap.size 0 ?_ (auC syms A.st (.slice io A.st ci) (.slice fo A.st cf) (.slice ro nr cr)) rfl hGc ?_); exact rfl)
 refine (rValid_any syms A hV io ci fo cf ro nr cr _ hm.out).mono ?_; rintro e w1 ⟨rfl,hb1⟩
 have hm1:=hid (hm.out.next hb1)
 replace hG:=hG.next hb1
 replace hR:=hR.next hb1
 replace hb0:=below_chain hb0 hb1
 clear hGc hb1
 have hGc:=hG.cs
 go_wp2_with ((with_reducible refine wp_loadAuto rfl _ rfl w.heap.size 0 ?_ (auC syms A.st (.slice io A.st ci) (.slice fo A.st cf) (.slice ro nr cr)) rfl hGc ?_); exact rfl)
 refine (rForm_any syms A hV io ci fo cf ro nr cr _ hm1.out).mono ?_; rintro e w2 ⟨v,rfl,K,io',ci',fo',cf',ro',nr',cr',rfl,hK,hMo,hb2⟩
 have hR2:=hR.next hb2
 have hMo2:=hMo.mono hR.lt
 replace hb0:=below_chain hb0 hb2
 replace hK:=hid hK
 clear hGc hb2 hMo
 go_wp2_with ((with_reducible refine wp_storeBAuto rfl _ _ rfl (w.heap.size+1) 30 _ hR2 ?_ (auC syms A.st (.slice io' A.st ci') (.slice fo' A.st cf') (.slice ro' nr' cr')) rfl rfl ?_ (auC_1 _ _ _ _ _ _ _ _ _ _ _) ?_); exact rfl; exact rfl; intro w9 hR9 hfr9)
 exact bodyPost_ret (results_cellC rfl _ _ (w.heap.size+1) _ _ rfl hR9.cs Tryz.underlying30 rfl Tryz.sizeAuto) rfl ⟨_,rfl,K,io',ci',fo',cf',ro',nr',cr',rfl,hK.out,(hMo2.fr hfr9 (Nat.lt_succ_self _)).mono (show w.heap.size≤w.heap.size+1+1 by omega),hb0.trans (hfr9.below (fun k e=>by omega) hb0.size)⟩
end
section
open Go.RowKit
theorem cmpK_self (k:Ky):cmpK k k=0:=cmpK_zero.2 rfl
set_option maxRecDepth 100000 in
set_option maxHeartbeats 4000000 in
theorem rSame6_any (syms:Nat) (A:Au) (hA:∀ y∈A.arcs,ArB y) (hsy:syms≤32) (hst:A.st≤64) (io:Option Addr) (ci:Nat) (fo:Option Addr) (cf:Nat) (ro:Option Addr) (nr cr:Nat) (jo:Option Addr) (di:Nat) (go:Option Addr) (df:Nat) (so:Option Addr) (dr:Nat) (w:World) (h:Mo w syms A io ci fo cf ro nr cr) (k:Mo w syms A jo di go df so nr dr) :
  Calls Tryz.prog 10 #[.agg (auC syms A.st (.slice io A.st ci) (.slice fo A.st cf) (.slice ro nr cr)).toArray,.agg (auC syms A.st (.slice jo A.st di) (.slice go A.st df) (.slice so nr dr)).toArray] w fun e w'=>e=.returned (.bool true)∧Below w.heap.size w w':=by
 have hb0:Below w.heap.size w ((w.alloc (.cells (auC syms A.st (.slice io A.st ci) (.slice fo A.st cf) (.slice ro nr cr)).toArray 30)).alloc (.cells (auC syms A.st (.slice jo A.st di) (.slice go A.st df) (.slice so nr dr)).toArray 30)):=below_chain (below_alloc _) (below_alloc _)
 have hG:=(Bl.fresh w (auC syms A.st (.slice io A.st ci) (.slice fo A.st cf) (.slice ro nr cr)) 30).new (.cells (auC syms A.st (.slice jo A.st di) (.slice go A.st df) (.slice so nr dr)).toArray 30)
 have hH:=Bl.fresh' (G:=w.heap.size+1) (w.alloc (.cells (auC syms A.st (.slice io A.st ci) (.slice fo A.st cf) (.slice ro nr cr)).toArray 30)) (auC syms A.st (.slice jo A.st di) (.slice go A.st df) (.slice so nr dr)) 30 (by simp)
 have hnb:=h.arcs.bound
 have hm:=hid (h.next hb0)
 have hk:=hid (k.next hb0)
 replace hA:=hid hA
 clear h k
 obtain ⟨⟨x0,x1,x2,x3⟩,x4,x5,x6⟩:=hG.seven
 obtain ⟨⟨y0,y1,y2,y3⟩,y4,y5,y6⟩:=hH.seven
 go_enter Tryz.func10,Tryz.ntmps10
 go_wp2_with fail
 refine (rSame3_any _).mono ?_; rintro e w1 ⟨rfl,hb1⟩
 clear x0 x1 x2 x3 x4 x5 x6 y0 y1 y2 y3 y4 y5 y6
 replace hG:=hG.next hb1
 replace hH:=hH.next hb1
 have hm1:=hid (hm.out.next hb1)
 have hk1:=hid (hk.out.next hb1)
 replace hb0:=below_chain hb0 hb1
 clear hb1
 obtain ⟨⟨x0,x1,x2,x3⟩,x4,x5,x6⟩:=hG.seven
 obtain ⟨⟨y0,y1,y2,y3⟩,y4,y5,y6⟩:=hH.seven
 have hL1:=rSameList_any A.ini A.ini io jo A.st ci di w1 hm1.out.ini hk1.out.ini
 rw [decide_eq_true rfl] at hL1
 replace hL1:=hid hL1
 go_wp2_with fail
 refine hL1.out.mono ?_; rintro e w2 ⟨rfl,hb2⟩
 clear x0 x1 x2 x3 x4 x5 x6 y0 y1 y2 y3 y4 y5 y6 hL1
 replace hG:=hG.next hb2
 replace hH:=hH.next hb2
 have hm2:=hid (hm1.out.next hb2)
 have hk2:=hid (hk1.out.next hb2)
 replace hb0:=below_chain hb0 hb2
 clear hb2
 obtain ⟨⟨x0,x1,x2,x3⟩,x4,x5,x6⟩:=hG.seven
 obtain ⟨⟨y0,y1,y2,y3⟩,y4,y5,y6⟩:=hH.seven
 have hL2:=rSameList_any A.fin A.fin fo go A.st cf df w2 hm2.out.fin hk2.out.fin
 rw [decide_eq_true rfl] at hL2
 replace hL2:=hid hL2
 go_wp2_with fail
 refine hL2.out.mono ?_; rintro e w3 ⟨rfl,hb3⟩
 clear x0 x1 x2 x3 x4 x5 x6 y0 y1 y2 y3 y4 y5 y6 hL2
 replace hG:=hG.next hb3
 replace hH:=hH.next hb3
 have hm3:=hid (hm2.out.next hb3)
 have hk3:=hid (hk2.out.next hb3)
 replace hb0:=below_chain hb0 hb3
 clear hb3
 obtain ⟨⟨x0,x1,x2,x3⟩,x4,x5,x6⟩:=hG.seven
 obtain ⟨⟨y0,y1,y2,y3⟩,y4,y5,y6⟩:=hH.seven
 go_wp2_with fail
 clear x0 x1 x2 x3 x4 x5 x6 y0 y1 y2 y3 y4 y5 y6
 go_loopw [5] (fun iv wr=>∃ i:Nat,i≤nr∧iv=.int .i64 (i:Int)∧Below w3.heap.size w3 wr) (fun iv _=>nr-(intOf iv).toNat)
 case atStart=>exact ⟨0,by omega,rfl,Below.refl _ _⟩
 case round =>
  obtain ⟨i,hi,rfl,hb⟩:=hrel
  have x6:=(hG.next hb).cell (i:=6) rfl
  by_cases hlt:i<nr
  ·obtain ⟨x,hxk,b1,o1,hro,hc1⟩:=(hm3.out.arcs.next hb).get hlt
   obtain ⟨y,hyk,b2,o2,hso,hc2⟩:=(hk3.out.arcs.next hb).get hlt
   subst hro hso
   rw [hxk] at hyk
   obtain rfl:=Option.some.inj hyk
   have i1:(i:Int)<(nr:Int):=by omega
   have i0:(0:Int)≤(i:Int):=by omega
   have hxB:=hA.out x (List.mem_of_getElem? hxk)
   have hE:=hid (fun w=>by have h:=rOrder_any x x hxB hxB w; rw [cmpK_self] at h; exact h)
   have hE2:=hid (fun w=>by have h:=rEqual_any (wt x) (wt x) w; rw [decide_eq_true rfl] at h; exact h)
   clear hxk hyk hxB
   go_upto_region 6 with fail
   clear x6
   have hdr:=(Below.refl wr.heap.size wr).drew
   have hS:(Cs wr.drew w.heap.size 0 (auC syms A.st (.slice io A.st ci) (.slice fo A.st cf) (.slice (some ⟨b1,o1,none⟩) nr cr))∧Cs wr.drew (w.heap.size+1) 0 (auC syms A.st (.slice jo A.st di) (.slice go A.st df) (.slice (some ⟨b2,o2,none⟩) nr dr)))∧Cs wr.drew b1 (o1+i*11) (acC x)∧Cs wr.drew b2 (o2+i*11) (acC x):=⟨⟨((hG.next hb).next hdr).cs,((hH.next hb).next hdr).cs⟩,hc1.next hdr,hc2.next hdr⟩
   have hK0:∀ w' w'',((Cs w' w.heap.size 0 (auC syms A.st (.slice io A.st ci) (.slice fo A.st cf) (.slice (some ⟨b1,o1,none⟩) nr cr))∧Cs w' (w.heap.size+1) 0 (auC syms A.st (.slice jo A.st di) (.slice go A.st df) (.slice (some ⟨b2,o2,none⟩) nr dr)))∧Cs w' b1 (o1+i*11) (acC x)∧Cs w' b2 (o2+i*11) (acC x))→Below w'.heap.size w' w''→((Cs w'' w.heap.size 0 (auC syms A.st (.slice io A.st ci) (.slice fo A.st cf) (.slice (some ⟨b1,o1,none⟩) nr cr))∧Cs w'' (w.heap.size+1) 0 (auC syms A.st (.slice jo A.st di) (.slice go A.st df) (.slice (some ⟨b2,o2,none⟩) nr dr)))∧Cs w'' b1 (o1+i*11) (acC x)∧Cs w'' b2 (o2+i*11) (acC x)):=fun w' w'' h hb=>⟨⟨h.1.1.next hb,h.1.2.next hb⟩,h.2.1.next hb,h.2.2.next hb⟩
   have hb1:=hb.trans (hdr.mono hb.size)
   clear hc1 hc2 hb hdr
   refine wp_region_D (fun w'=>(Cs w' w.heap.size 0 (auC syms A.st (.slice io A.st ci) (.slice fo A.st cf) (.slice (some ⟨b1,o1,none⟩) nr cr))∧Cs w' (w.heap.size+1) 0 (auC syms A.st (.slice jo A.st di) (.slice go A.st df) (.slice (some ⟨b2,o2,none⟩) nr dr)))∧Cs w' b1 (o1+i*11) (acC x)∧Cs w' b2 (o2+i*11) (acC x)) [] (by kernel_rfl) ?_
   refine wpTDp (some 58) (i:=0) rfl rfl hS ?_
   refine wpTD (some 59) (i:=1) (v:=?_) rfl rfl (Or.inl ⟨by rfl,?_⟩) hS ?_
   rotate_left
   ·intro wz hw; refine exec_load1 w.heap.size 6 ?_ (.slice (some ⟨b1,o1,none⟩) nr cr) (by have h:=hw.1.1 6 _ rfl; simpa using h) _ Tryz.underlying28 rfl; go_simp
   refine wpTDp (some 60) (i:=2) rfl rfl hS ?_
   refine wpTDp (some 61) (i:=3) rfl rfl hS ?_
   refine wpTD (some 62) (i:=4) (v:=?_) rfl rfl (Or.inl ⟨by rfl,?_⟩) hS ?_
   rotate_left
   ·intro wz hw; refine exec_loadArc b1 (o1+i*11) ?_ x hw.2.1; go_simp
   refine wpTDp (some 63) (i:=5) rfl rfl hS ?_
   refine wpTD (some 64) (i:=6) (v:=?_) rfl rfl (Or.inl ⟨by rfl,?_⟩) hS ?_
   rotate_left
   ·intro wz hw; refine exec_load1 (w.heap.size+1) 6 ?_ (.slice (some ⟨b2,o2,none⟩) nr dr) (by have h:=hw.1.2 6 _ rfl; simpa using h) _ Tryz.underlying28 rfl; go_simp
   refine wpTDp (some 65) (i:=7) rfl rfl hS ?_
   refine wpTDp (some 66) (i:=8) rfl rfl hS ?_
   refine wpTD (some 67) (i:=9) (v:=?_) rfl rfl (Or.inl ⟨by rfl,?_⟩) hS ?_
   rotate_left
   ·intro wz hw; refine exec_loadArc b2 (o2+i*11) ?_ x hw.2.2; go_simp
   go_simp
   refine wpAnyD_one (i:=10) (by kernel_rfl) rfl (fun KK hKK=>?_)
   go_simp
   go_at_call 42
   refine (hE.out _).mono ?_; rintro e w4 ⟨rfl,hb4⟩
   have hb5:=hb1.trans (hb4.mono hb1.size)
   try go_simp
   refine hKK _ _ ⟨fun _=>(hK0 _ _ hS hb4),?_⟩; clear hKK KK
   refine wpTD (some 69) (i:=11) (v:=.bool false) rfl rfl (Or.inl ⟨by rfl,?_⟩) (hK0 _ _ hS hb4) ?_
   ·intro wz _; first | (go_simp; done) | (go_simp; with_reducible rfl)
   refine wpTD (some 70) (i:=12) (v:=.bool false) rfl rfl (Or.inl ⟨by rfl,?_⟩) (hK0 _ _ hS hb4) ?_
   ·intro wz _; first | (go_simp; done) | (go_simp; with_reducible rfl)
   refine wpTDg (some 71) (i:=13) rfl rfl (hK0 _ _ hS hb4) ?_
   refine wpTD (some 72) (i:=14) (v:=?_) rfl rfl (Or.inl ⟨by kernel_rfl,?_⟩) (hK0 _ _ hS hb4) ?_
   rotate_left
   ·intro wz hw; refine exec_load1 w.heap.size 6 ?_ (.slice (some ⟨b1,o1,none⟩) nr cr) (by have h:=hw.1.1 6 _ rfl; simpa using h) _ Tryz.underlying28 rfl; go_simp
   refine wpTDg (some 73) (i:=15) rfl rfl (hK0 _ _ hS hb4) ?_
   refine wpTDg (some 74) (i:=16) rfl rfl (hK0 _ _ hS hb4) ?_
   refine wpTDg (some 75) (i:=17) rfl rfl (hK0 _ _ hS hb4) ?_
   refine wpTD (some 76) (i:=18) (v:=?_) rfl rfl (Or.inl ⟨by kernel_rfl,?_⟩) (hK0 _ _ hS hb4) ?_
   rotate_left
   ·intro wz hw; refine exec_loadTw b1 (o1+i*11+3) ?_ (wt x) (cs_wt hw.2.1); go_simp
   refine wpTDg (some 77) (i:=19) rfl rfl (hK0 _ _ hS hb4) ?_
   refine wpTD (some 78) (i:=20) (v:=?_) rfl rfl (Or.inl ⟨by kernel_rfl,?_⟩) (hK0 _ _ hS hb4) ?_
   rotate_left
   ·intro wz hw; refine exec_load1 (w.heap.size+1) 6 ?_ (.slice (some ⟨b2,o2,none⟩) nr dr) (by have h:=hw.1.2 6 _ rfl; simpa using h) _ Tryz.underlying28 rfl; go_simp
   refine wpTDg (some 79) (i:=21) rfl rfl (hK0 _ _ hS hb4) ?_
   refine wpTDg (some 80) (i:=22) rfl rfl (hK0 _ _ hS hb4) ?_
   refine wpTDg (some 81) (i:=23) rfl rfl (hK0 _ _ hS hb4) ?_
   refine wpTD (some 82) (i:=24) (v:=?_) rfl rfl (Or.inl ⟨by kernel_rfl,?_⟩) (hK0 _ _ hS hb4) ?_
   rotate_left
   ·intro wz hw; refine exec_loadTw b2 (o2+i*11+3) ?_ (wt x) (cs_wt hw.2.2); go_simp
   go_simp
   refine wpAnyD_one (i:=25) (by kernel_rfl) rfl (fun KK hKK=>?_)
   rw [if_pos (by kernel_rfl)]
   go_simp
   go_at_call 14
   refine (hE2.out _).mono ?_; rintro e w6 ⟨rfl,hb6⟩
   have hb7:=hb5.trans (hb6.mono hb5.size)
   try go_simp
   refine hKK _ _ ⟨fun _=>(hK0 _ _ (hK0 _ _ hS hb4) hb6),?_⟩; clear hKK KK
   refine wpTDg (some 84) (i:=26) rfl rfl (hK0 _ _ (hK0 _ _ hS hb4) hb6) ?_
   refine wpTDp (some 85) (i:=27) rfl rfl (hK0 _ _ (hK0 _ _ hS hb4) hb6) ?_
   go_simp
   refine wpAnyD_done (by kernel_rfl) ?_ _
   replace hb7:=hid hb7
   go_wp2_with fail
   go_roundw
   case rel=>exact ⟨i+1,by omega,by go_num,hb7.out⟩
   case measure=>simp [intOf]; omega
  ·obtain rfl:i=nr:=by omega
   have i1:¬ (i:Int)<(i:Int):=by omega
   have hbe:=hid (below_chain hb0 hb)
   go_wp2_with fail
   go_ret
   exact ⟨rfl,hbe.out⟩
end
section
open Go.RowKit
abbrev Pa:=Nat×Nat
def prC (p:Pa):List Value:=[.int .i64 (p.1:Int),.int .i64 (p.2:Int)]
inductive Rch (P:List Pa) (E:Nat→Bool):Nat→Prop
 | here {q:Nat} (h:E q=true):Rch P E q
 | step {p:Pa} (h:p∈P) (k:Rch P E p.1):Rch P E p.2
def ClP (P:List Pa) (E:Nat→Bool):Prop:=∀ p∈P,E p.1=true→E p.2=true
def SnP (P:List Pa) (E0 E:Nat→Bool):Prop:=(∀ q,E q=true→Rch P E0 q)∧∀ q,E0 q=true→E q=true
theorem rch_of {P:List Pa} {E0 E:Nat→Bool} (h:SnP P E0 E) (hc:ClP P E) (q:Nat):E q=true↔Rch P E0 q:=⟨h.1 q,fun hr=>by
 induction hr with
 | here h1=>exact h.2 _ h1
 | step hp _ ih=>exact hc _ hp ih⟩
theorem snP_upd {P:List Pa} {E0 E:Nat→Bool} (h:SnP P E0 E) {p:Pa} (hp:p∈P) (ht:E p.1=true):SnP P E0 (updB E p.2 true) :=
 ⟨fun q hE=>by
  unfold updB at hE
  split at hE
  ·rename_i e; subst e; exact Rch.step hp (h.1 _ ht)
  ·exact h.1 q hE,fun q hq=>by
  unfold updB
  split
  ·rfl
  ·exact h.2 q hq⟩
theorem updB_id {E:Nat→Bool} {j:Nat} (h:E j=true):updB E j true=E:=funext fun i=>by
 unfold updB; split
 ·rename_i e; rw [e,h]
 ·rfl
def Sp1 (P:List Pa) (n:Nat) (E E':Nat→Bool) (k:Nat):Prop:=((E'=E∧ClP (P.take k) E)∨cF E' n+1≤cF E n)∧(ClP P E→E'=E)
theorem sp1_start (P:List Pa) (n:Nat) (E:Nat→Bool):Sp1 P n E E 0:=⟨.inl ⟨rfl,fun p hp=>by simp at hp⟩,fun _=>rfl⟩
theorem sp1_no {P:List Pa} {n k:Nat} {E E':Nat→Bool} {p:Pa} (h:Sp1 P n E E' k) (hp:P[k]? = some p) (hE:E' p.1=false):Sp1 P n E E' (k+1):=by
 refine ⟨?_,h.2⟩
 rcases h.1 with ⟨h1,h2⟩ | h1
 ·refine .inl ⟨h1,fun r hr hr1=>?_⟩
  rw [take_snoc hp] at hr
  rcases List.mem_append.1 hr with hr | hr
  ·exact h2 r hr hr1
  ·rw [List.mem_singleton.1 hr] at hr1 ⊢
   rw [←h1,hE] at hr1; cases hr1
 ·exact .inr h1
theorem sp1_yes {P:List Pa} {n k:Nat} {E E':Nat→Bool} {p:Pa} (h:Sp1 P n E E' k) (hp:P[k]? = some p) (hn:p.2<n) (hE:E' p.1=true):Sp1 P n E (updB E' p.2 true) (k+1):=by
 cases h2:E' p.2 with
 | true =>
  rw [updB_id h2]
  refine ⟨?_,h.2⟩
  rcases h.1 with ⟨h1,h3⟩ | h1
  ·refine .inl ⟨h1,fun r hr hr1=>?_⟩
   rw [take_snoc hp] at hr
   rcases List.mem_append.1 hr with hr | hr
   ·exact h3 r hr hr1
   ·rw [List.mem_singleton.1 hr,←h1]; exact h2
  ·exact .inr h1
 | false =>
  have hs:=cF_set hn h2
  refine ⟨.inr ?_,fun hc=>?_⟩
  ·rcases h.1 with ⟨h1,_⟩ | h1
   ·rw [←h1]; omega
   ·omega
  ·have e:=h.2 hc
   rw [e] at hE h2
   rw [hc p (List.mem_of_getElem? hp) hE] at h2; cases h2
theorem sp1_end {P:List Pa} {n r:Nat} {E E':Nat→Bool} (h:Sp1 P n E E' P.length) (ho:ClP P E∨cF E n+r≤n):ClP P E'∨cF E' n+(r+1)≤n:=by
 rcases ho with ho | ho
 ·rw [h.2 ho]; exact .inl ho
 ·rcases h.1 with ⟨h1,h2⟩ | h1
  ·rw [List.take_length] at h2; rw [h1]; exact .inl h2
  ·exact .inr (by omega)
theorem cl_full {P:List Pa} {n:Nat} {E:Nat→Bool} (hP:∀ p∈P,p.1<n∧p.2<n) (h:ClP P E∨cF E n+n≤n):ClP P E:=by
 rcases h with h | h
 ·exact h
 ·intro p hp _
  have h0:cF E n=0:=by omega
  unfold cF at h0
  rw [List.length_eq_zero_iff,List.filter_eq_nil_iff] at h0
  have:=h0 p.2 (List.mem_range.2 (hP p hp).2)
  simpa using this
def MarksOut (n:Nat) (R:(Nat→Bool)→Prop) (w:World) (e:Ending) (w':World):Prop:=∃ v E,e=.returned v∧Rw 4 w' w.heap.size v n (fBo E)∧R E∧Below w.heap.size w w'
set_option maxHeartbeats 4000000 in
theorem rSpread_any (E0:Nat→Bool) (P:List Pa) (n m:Nat) (hn:n≤64) (hP:∀ p∈P,p.1<n∧p.2<n) (oo:Option Addr) (oc:Nat) (hoo:oo=none→oc=0) (po:Option Addr) (pc:Nat) (w:World) (ho:Rd w oo n oc (fBo E0)) (hp:Fl 2 w po m pc (P.map prC)) :
  Calls Tryz.prog 142 #[.slice oo n oc,.slice po m pc] w (MarksOut n (fun E=>∀ q,q<n→(E q=true↔Rch P E0 q)) w):=by
 have hpb:=hp.bound
 have hpl:=hid hp.lenMap
 have hP':=hid hP
 replace hp:=hid hp
 replace hP:=hid (fun (h:ClP P E0∨True)=>hP)
 clear hP
 go_enter Tryz.func142,Tryz.ntmps142
 go_upto_region 2 with (at_builtin; refine wp_app rfl (.const (.slice none 0 0)) (.tmp 7) 66 rfl 4 (.bool false) 1 Tryz.underlying66 Tryz.infoBool rfl w.heap.size (.slice none 0 0) 0 [] rfl (World.ownsRow_nil _ _ _ _) oo n oc _ rfl ho hoo (by intro u hu; obtain ⟨j,_,rfl⟩:=List.mem_map.1 hu; rfl) (by omega) (by omega) (Nat.le_refl _) ?_; intro v1 w1 hv1 hg1 hb1)
 have hrow1:Rw 4 w1 w.heap.size v1 n (fBo E0):=by
  unfold Rw; rw [Nat.zero_add,List.nil_append] at hv1; exact hv1
 obtain ⟨ao,ac,hv,hrd⟩:=hrow1.rd
 subst hv
 replace hrow1:=hid hrow1
 replace hb1:=hid hb1
 clear hv1 hg1 hrd ho
 go_wp2_with fail
 go_loopw [5] (fun iv wr=>∃ (r:Nat) (E:Nat→Bool),r≤n∧iv=.int .i64 (r:Int)∧Rw 4 wr w.heap.size (.slice ao n ac) n (fBo E)∧Hid (SnP P E0 E)∧Hid (ClP P E∨cF E n+r≤n)∧Below w.heap.size w wr) (fun iv _=>n-(intOf iv).toNat)
 case atStart=>exact ⟨0,E0,Nat.zero_le _,rfl,hrow1.out,hid ⟨fun q h=>Rch.here h,fun q h=>h⟩,hid (.inr (by have:=cF_le E0 n; omega)),hb1.out⟩
 case round =>
  obtain ⟨r,E,hr,rfl,hrow,hsn,hcl,hb⟩:=hrel
  by_cases hlt:r<n
  ·have i1:(r:Int)<(n:Int):=by omega
   have i0:(0:Int)≤(r:Int):=by omega
   obtain ⟨g,cap,hsl,hg1,hg2⟩:=hrow.place (by omega)
   injection hsl with hsl _ hcap
   subst hsl hcap
   replace hrow:=hid hrow
   replace hb:=hid hb
   obtain ⟨wo,rfl⟩:∃ wo:World,wo=wr:=⟨_,rfl⟩
   go_wp2_with fail
   go_loopw [6] (fun iv wr=>∃ (k:Nat) (E':Nat→Bool),k≤m∧iv=.int .i64 (k:Int)∧Rw 4 wr w.heap.size (.slice (some ⟨g,0,none⟩) n ac) n (fBo E')∧Hid (SnP P E0 E')∧Hid (Sp1 P n E E' k)∧Below w.heap.size w wr) (fun iv _=>m-(intOf iv).toNat)
   case atStart=>exact ⟨0,E,Nat.zero_le _,rfl,hrow.out,hsn,hid (sp1_start P n E),hb.out⟩
   case round =>
    obtain ⟨k,E',hk,rfl,hrw,hs,h1,hbr⟩:=hrel
    by_cases hkm:k<m
    ·obtain ⟨p,hpk,b,off,hpo,hcs⟩:=(hp.out.next hbr).get hkm
     subst hpo
     have hpn:=hP'.out p (List.mem_of_getElem? hpk)
     have j1:(k:Int)<(m:Int):=by omega
     have j0:(0:Int)≤(k:Int):=by omega
     have q1:(p.1:Int)<(n:Int):=by omega
     have q2:(p.2:Int)<(n:Int):=by omega
     have q3:(0:Int)≤(p.1:Int):=by omega
     have q4:(0:Int)≤(p.2:Int):=by omega
     have c1:=hcs 0 _ rfl
     have c2:=hcs 1 _ rfl
     have c3:=hrw.cell hpn.1
     have c4:=hrw.cell hpn.2
     have c5:=hrw.free p.2
     rw [Nat.add_zero] at c1
     simp only [fBo] at c3 c4
     have hpm:=List.mem_of_getElem? hpk
     replace hpm:=hid hpm
     replace hpk:=hid hpk
     obtain ⟨bq,hbq⟩:∃ bq,E' p.1=bq:=⟨_,rfl⟩
     rw [hbq] at c3
     replace hbq:=hid hbq
     replace hrw:=hid hrw
     clear hcs
     cases bq with
     | false =>
      have hs2:=hid (sp1_no h1.out hpk.out hbq.out)
      replace hbr:=hid hbr
      go_wp2_with fail
      go_roundw
      case rel=>exact ⟨k+1,E',by omega,by go_num,hrw.out,hs,hs2,hbr.out⟩
      case measure=>simp [intOf]; omega
     | true =>
      have hs2:=hid (sp1_yes h1.out hpk.out hpn.2 hbq.out)
      have hs3:=hid (snP_upd hs.out hpm.out hbq.out)
      replace hbr:=hid hbr
      go_wp2_with fail
      go_roundw
      case rel=>exact ⟨k+1,updB E' p.2 true,by omega,by go_num,(hrw.out.put p.2 _).congr (fun i _=>fBo_upd E' p.2 true i),hs3,hs2,hbr.out.setCell (p:=⟨g,p.2,none⟩) hg1 _⟩
      case measure=>simp [intOf]; omega
    ·obtain rfl:k=m:=by omega
     have j1:¬ (k:Int)<(k:Int):=by omega
     have h2:=h1.out
     rw [←hpl.out] at h2
     have hcl2:=hid (sp1_end h2 hcl.out)
     replace hrw:=hid hrw
     replace hbr:=hid hbr
     clear h2
     go_wp2_with fail
     go_roundw
     case rel=>exact ⟨r+1,E',by omega,by go_num,hrw.out,hs,hcl2,hbr.out⟩
     case measure=>simp [intOf]; omega
  ·obtain rfl:r=n:=by omega
   have i1:¬ (r:Int)<(r:Int):=by omega
   have hcl2:=hid (rch_of hsn.out (cl_full hP'.out hcl.out))
   replace hrow:=hid hrow
   go_wp2_with fail
   go_ret
   exact ⟨_,E,rfl,hrow.out,fun q _=>hcl2.out q,hb⟩
end
end Go.Proofs.YtnapapijhhldpaaGreatDoor

/-
  Texts joined by program: Tru, Trv. No condition of its own.
-/
import Derived.Test.YtnapapijhhldpaaGreatDoorJcBI
namespace Go.Proofs.YtnapapijhhldpaaGreatDoor
set_option linter.unusedSimpArgs false
set_option linter.unusedVariables false
section
open Go.RowKit
def ModOut (syms:Nat) (B:Au) (w:World) (v:Value) (w':World):Prop:=∃ (io:Option Addr) (ci:Nat) (fo:Option Addr) (cf:Nat) (ro:Option Addr) (nr cr:Nat),v=.agg (auC syms B.st (.slice io B.st ci) (.slice fo B.st cf) (.slice ro nr cr)).toArray∧MoF w' w.heap.size B io ci fo cf ro nr cr∧Below w.heap.size w w'
theorem posK_U (us:List Bool) {n:Nat} (h:us.length=n):posK us n=posU us:=by subst h; rfl
set_option maxRecDepth 100000 in
set_option maxHeartbeats 4000000 in
theorem rKeep_any (syms:Nat) (A:Au) (io:Option Addr) (ci:Nat) (fo:Option Addr) (cf:Nat) (ro:Option Addr) (nr cr:Nat) (E:Nat→Bool) (hst:A.st≤64) (hnr0:A.arcs.length≤2048) (hA:∀ x∈A.arcs,x.1<A.st∧x.2.2.1<A.st) (ko:Option Addr) (kc:Nat) (w:World) (h:Mo w syms A io ci fo cf ro nr cr) (hk:Rd w ko A.st kc (fBo E)) :
  Calls Tryz.prog 71 #[.agg (auC syms A.st (.slice io A.st ci) (.slice fo A.st cf) (.slice ro nr cr)).toArray,.slice ko A.st kc] w fun e w'=>∃ v,e=.returned v∧ModOut syms (trimU (usL E A.st) A) w v w':=by
 have hb0:Below w.heap.size w ((w.alloc (.cells (auC syms A.st (.slice io A.st ci) (.slice fo A.st cf) (.slice ro nr cr)).toArray 30)).alloc (.cells #[.int .i64 0,.slice none 0 0,.int .i64 0,.int .i64 0,.slice none 0 0,.slice none 0 0,.slice none 0 0] 30)):=below_chain (below_alloc _) (below_alloc _)
 have hG:=(Bl.fresh w (auC syms A.st (.slice io A.st ci) (.slice fo A.st cf) (.slice ro nr cr)) 30).new (.cells #[.int .i64 0,.slice none 0 0,.int .i64 0,.int .i64 0,.slice none 0 0,.slice none 0 0,.slice none 0 0] 30)
 have hR:=Bl.fresh' (G:=w.heap.size+1) (w.alloc (.cells (auC syms A.st (.slice io A.st ci) (.slice fo A.st cf) (.slice ro nr cr)).toArray 30)) [.int .i64 0,.slice none 0 0,.int .i64 0,.int .i64 0,.slice none 0 0,.slice none 0 0,.slice none 0 0] 30 (by simp)
 have hnr:nr≤2048:=by rw [←h.arcs.lenMap]; exact hnr0
 have hm:=hid (h.next hb0)
 replace hk:=hid (hk.next hb0)
 replace hA:=hid hA
 clear h
 go_enter Tryz.func71,Tryz.ntmps71
 go_upto_region 1 with fail
 obtain ⟨W1,hW1⟩:∃ W1,W1=((w.alloc (.cells (auC syms A.st (.slice io A.st ci) (.slice fo A.st cf) (.slice ro nr cr)).toArray 30)).alloc (.cells #[.int .i64 0,.slice none 0 0,.int .i64 0,.int .i64 0,.slice none 0 0,.slice none 0 0,.slice none 0 0] 30)):=⟨_,rfl⟩
 rw [←hW1] at hb0 hG hR hm hk
 have hz:W1.heap.size=w.heap.size+1+1:=by rw [hW1]; simp
 have hbO:Below W1.heap.size W1 (W1.alloc (.cells ([.int .i64 2,.slice none 0 0,.int .i64 (syms:Int),.int .i64 0,.slice none 0 0,.slice none 0 0,.slice none 0 0]:List Value).toArray 30)):=below_alloc _
 have hO3:=Bl.fresh W1 ([.int .i64 2,.slice none 0 0,.int .i64 (syms:Int),.int .i64 0,.slice none 0 0,.slice none 0 0,.slice none 0 0]:List Value) 30
 rw [hz] at hO3
 have hG3:=hG.next hbO
 obtain ⟨⟨x0,x1,x2,x3⟩,x4,x5,x6⟩:=hG.seven
 subst hW1
 go_upto_region 2 with ((with_reducible refine wp_storeV rfl 30 _ _ rfl _ _ ?_ ([.int .i64 2,.slice none 0 0,.int .i64 (syms:Int),.int .i64 0,.slice none 0 0,.slice none 0 0,.slice none 0 0]:List Value) ?_ ?_ ?_ ?_ ?_); exact rfl; exact rfl; exact rfl; exact auC_1 syms 0 _ _ _ _ _ _ _ _ _; exact Tryz.sizeAuto)
 obtain ⟨W1,hW1⟩:∃ W1,W1=((w.alloc (.cells (auC syms A.st (.slice io A.st ci) (.slice fo A.st cf) (.slice ro nr cr)).toArray 30)).alloc (.cells #[.int .i64 0,.slice none 0 0,.int .i64 0,.int .i64 0,.slice none 0 0,.slice none 0 0,.slice none 0 0] 30)):=⟨_,rfl⟩
 rw [←hW1] at hb0 hG hR hm hk hz hbO hO3 hG3
 have hzO:W1.heap.size≤w.heap.size+1+1:=by omega
 obtain ⟨O,hOe⟩:∃ O,w.heap.size+1+1=O:=⟨_,rfl⟩
 rw [hOe] at hO3 hzO ⊢
 have hRO:w.heap.size+1<O:=by omega
 have hbd:=hbO
 obtain ⟨W2,hW2⟩:∃ W2,W2=W1.alloc (.cells ([.int .i64 2,.slice none 0 0,.int .i64 (syms:Int),.int .i64 0,.slice none 0 0,.slice none 0 0,.slice none 0 0]:List Value).toArray 30):=⟨_,rfl⟩
 rw [←hW2] at hO3 hG3 hbd
 have y3:=hG3.cell (i:=3) rfl
 rw [hW2,hW1] at y3
 clear x0 x1 x2 x3 x4 x5 x6
 have hO3l:=hO3.lt
 subst hW2
 subst hW1
 go_upto_region 3 with (at_make; (with_reducible refine wp_makeR rfl _ _ 22 rfl 3 (.int .i64 0) 8 Tryz.underlying22 Tryz.infoInt ?_ .i64 .i64 (A.st:Int) (A.st:Int) A.st ?_ ?_ ?_ ?_ ?_ ?_ ?_); exact rfl; exact rfl; exact rfl; exact rfl; exact rfl; omega; omega; intro w4 t ht4 hb4)
 obtain ⟨W1,hW1⟩:∃ W1,W1=((w.alloc (.cells (auC syms A.st (.slice io A.st ci) (.slice fo A.st cf) (.slice ro nr cr)).toArray 30)).alloc (.cells #[.int .i64 0,.slice none 0 0,.int .i64 0,.int .i64 0,.slice none 0 0,.slice none 0 0,.slice none 0 0] 30)):=⟨_,rfl⟩
 rw [←hW1] at hb0 hG hR hm hk hz hbd hzO hO3 hG3 hb4 ht4
 clear hW1 y3
 have htl:=(ht4.lt (g:=t) rfl)
 have hOm:Om w4 O syms 0 (.slice none 0 0) (.slice none 0 0) (.slice none 0 0) [] [] []:=⟨(show Bl O (auC syms 0 (.slice none 0 0) (.slice none 0 0) (.slice none 0 0)) 30 w4 from hO3.next hb4),FO.nil _ _ _ _,FO.nil _ _ _ _,FO.nil _ _ _ _,fun g hg=>by cases hg⟩
 have hOt:O<t:=Nat.lt_of_lt_of_le hO3.lt htl.1
 have ht5:=hid (ht4.mono hO3.lt)
 replace hbd:=hid (hbd.trans (hb4.mono hbd.size))
 replace hOm:=hid hOm
 have hz:=hzO
 clear ht4 hb4
 go_upto_block 0 with fail
 refine keep_sts W1 syms A io ci fo cf ro nr cr E hst hm ko kc hk w.heap.size O t hG hz hOt w4 hbd.out hOm.out ht5.out _ _ _ _ _ _ _ _ _ _ _ _ _ _ _ _ _ _ _ _ _ _ _ _ _ _ _ _ _ _ _ _ _ _ _ _ _ _ _ _ _ _ _ _ _ _ _ _ _ _ _ _ _ _ _ _ _ _ _ _ _ _ _ _ _ _ _ _ _ _ _ _ _ _ _ _ _ _ _ _ _ _ _ _ _ _ _ _ _ _ _ _ _ _ _ _ _ _ (fun _ _ d _ _ h=>by cases d<;>exact h) ?_
 intro x7 Aa Ab Ad Ae Af Ag Ah Ak Al Am An Ao Ap Aq Ar As Av Aw Ax Ay Az Ba Bb Bc Be Bf Bh Bi Bj Bk Bm Bn Bo Bp Bq Br Bs Bt Bu iv fv w5 hOm5 ht6 hb5
 replace hOm5:=hid hOm5
 replace ht6:=hid ht6
 replace hb5:=hid hb5
 go_upto_block 2 with fail
 refine keep_arcs W1 syms A io ci fo cf ro nr cr E (usL E A.st) (hid fun q hq=>usL_get hq) hst hnr hA hm ko kc hk w.heap.size O t _ hG hz iv fv _ _ w5 hb5.out hOm5.out ht6.out _ _ _ _ _ _ _ _ _ _ _ _ _ _ _ _ _ _ _ _ _ _ _ _ _ _ _ _ _ _ _ _ _ _ _ _ _ _ _ _ _ _ _ _ _ _ _ _ _ _ _ _ _ _ _ _ _ _ _ _ _ _ _ _ _ _ _ _ _ _ _ _ _ _ _ _ _ _ _ _ _ _ _ _ _ _ _ _ _ _ _ _ _ _ _ _ _ _ (fun _ _ d _ _ h=>by cases d<;>exact h) ?_
 intro z8 z9 Bv Bw Bx By Bz Ca Cb Cc Cd Ce Cf Cg Ch Ci Cj Ck Cl Cm Cn Co Cp Cq Cr Ct Cu Cv Cw Cx Cy Cz Da Db Dc Dd De Df Dg Dh Di Dj Dk Dl Dn Dp av w6 hOm6 hb6
 obtain ⟨ai,ki,hiv⟩:=hOm6.ini.form
 obtain ⟨af,kf,hfv⟩:=hOm6.fin.form
 obtain ⟨aa,ka,hav⟩:=hOm6.arcs.form
 subst hiv hfv hav
 simp only [List.length_map,posK_len] at hOm6
 have hO6c:=hOm6.blk.cs
 have hR6:=hR.next hb6
 have hst2:Hid (newN (usL E A.st) A.st=(trimU (usL E A.st) A).st):=hid (by rw [←posK_len,posK_U _ (usL_len E A.st)]; rfl)
 have hMo:=hid (show MoF w6 (O+1) (trimU (usL E A.st) A) ai ki af kf aa (trimA (usL E A.st) A.arcs).length ka from by
  have e:posK (usL E A.st) A.st=posU (usL E A.st):=posK_U _ (usL_len E A.st)
  refine ⟨?_,?_,hOm6.arcs⟩
  ·have h:=hOm6.ini; rw [hst2.out,e] at h; exact h
  ·have h:=hOm6.fin; rw [hst2.out,e] at h; exact h)
 rw [hst2.out] at hO6c
 replace hb6:=hid hb6
 replace hOm6:=hid hOm6
 go_wp2_with (first | ((with_reducible refine wp_loadAuto rfl _ rfl O 0 ?_ (auC syms (trimU (usL E A.st) A).st (.slice ai (trimU (usL E A.st) A).st ki) (.slice af (trimU (usL E A.st) A).st kf) (.slice aa (trimA (usL E A.st) A.arcs).length ka)) rfl hO6c ?_); exact rfl) | ((with_reducible refine wp_storeBAuto rfl _ _ rfl (w.heap.size+1) 30 _ hR6 ?_ (auC syms (trimU (usL E A.st) A).st (.slice ai (trimU (usL E A.st) A).st ki) (.slice af (trimU (usL E A.st) A).st kf) (.slice aa (trimA (usL E A.st) A.arcs).length ka)) rfl rfl ?_ (auC_1 _ _ _ _ _ _ _ _ _ _ _) ?_); exact rfl; exact rfl; intro w9 hR9 hfr9))
 exact bodyPost_ret (results_cellC1 rfl _ _ (w.heap.size+1) _ _ rfl hR9.cs Tryz.underlying30 rfl Tryz.sizeAuto) rfl ⟨_,rfl,ai,ki,af,kf,aa,(trimA (usL E A.st) A.arcs).length,ka,rfl,(hMo.out.fr hfr9 (by omega)).mono (by have:=hb0.size; omega),(below_chain hb0 hb6.out).trans (hfr9.below (fun k e=>by omega) (below_chain hb0 hb6.out).size)⟩
end
section
open Go.RowKit
def nrm (A:Au) (K:List Ac):Au:=⟨A.st,A.ini,A.fin,K.filter nz⟩
theorem nf_bounds {syms:Nat} {A:Au} (hV:Vo syms A) {K:List Ac} (hK:Nf K A.arcs):∀ x∈K.filter nz,x.1<A.st∧x.2.2.1<A.st:=fun x hx=>by
 obtain ⟨⟨z,hz,hk,_⟩,_⟩:=hK.2.1 x (List.mem_filter.1 hx).1
 have h1:=hV.arcs z hz
 have h2:z.1=x.1:=congrArg (fun q:Ky=>q.1) hk
 have h3:z.2.2.1=x.2.2.1:=congrArg (fun q:Ky=>q.2.2) hk
 rw [←h2,←h3]; exact ⟨h1.1,h1.2.1⟩
def TrimOut (syms:Nat) (A:Au) (w:World) (e:Ending) (w':World):Prop:=∃ (v:Value) (K:List Ac) (E:Nat→Bool),e=.returned (.tuple #[v,.int .i64 0])∧Nf K A.arcs∧UsE (nrm A K) E∧ModOut syms (trimU (usL E A.st) (nrm A K)) w v w'
set_option maxRecDepth 100000 in
set_option maxHeartbeats 4000000 in
theorem rTrim_any (syms:Nat) (A:Au) (hV:Vo syms A) (io:Option Addr) (ci:Nat) (fo:Option Addr) (cf:Nat) (ro:Option Addr) (nr cr:Nat) (w:World) (h:Mo w syms A io ci fo cf ro nr cr) :
  Calls Tryz.prog 35 #[.agg (auC syms A.st (.slice io A.st ci) (.slice fo A.st cf) (.slice ro nr cr)).toArray] w (TrimOut syms A w):=by
 have hb0:Below w.heap.size w ((w.alloc (.cells (auC syms A.st (.slice io A.st ci) (.slice fo A.st cf) (.slice ro nr cr)).toArray 30)).alloc (.cells #[.int .i64 0,.slice none 0 0,.int .i64 0,.int .i64 0,.slice none 0 0,.slice none 0 0,.slice none 0 0] 30)):=below_chain (below_alloc _) (below_alloc _)
 have hG:=(Bl.fresh w (auC syms A.st (.slice io A.st ci) (.slice fo A.st cf) (.slice ro nr cr)) 30).new (.cells #[.int .i64 0,.slice none 0 0,.int .i64 0,.int .i64 0,.slice none 0 0,.slice none 0 0,.slice none 0 0] 30)
 have hR:=Bl.fresh' (G:=w.heap.size+1) (w.alloc (.cells (auC syms A.st (.slice io A.st ci) (.slice fo A.st cf) (.slice ro nr cr)).toArray 30)) [.int .i64 0,.slice none 0 0,.int .i64 0,.int .i64 0,.slice none 0 0,.slice none 0 0,.slice none 0 0] 30 (by simp)
 have hm:=hid (h.next hb0)
 clear h
 go_enter Tryz.func35,Tryz.ntmps35
 go_upto_region 1 with fail
 obtain ⟨W1,hW1⟩:∃ W1,W1=((w.alloc (.cells (auC syms A.st (.slice io A.st ci) (.slice fo A.st cf) (.slice ro nr cr)).toArray 30)).alloc (.cells #[.int .i64 0,.slice none 0 0,.int .i64 0,.int .i64 0,.slice none 0 0,.slice none 0 0,.slice none 0 0] 30)):=⟨_,rfl⟩
 rw [←hW1] at hb0 hG hR hm
 have hGc:=hG.cs
 subst hW1
 go_wp2_with ((with_reducible refine wp_loadAuto rfl _ rfl w.heap.size 0 ?_ (auC syms A.st (.slice io A.st ci) (.slice fo A.st cf) (.slice ro nr cr)) rfl hGc ?_); exact rfl)
 refine (rValid_any syms A hV io ci fo cf ro nr cr _ hm.out).mono ?_; rintro e w1 ⟨rfl,hb1⟩
 have hm1:=hid (hm.out.next hb1)
 replace hG:=hG.next hb1
 replace hR:=hR.next hb1
 replace hb0:=below_chain hb0 hb1
 clear hGc hb1
 have hGc:=hG.cs
 go_wp2_with ((with_reducible refine wp_loadAuto rfl _ rfl w.heap.size 0 ?_ (auC syms A.st (.slice io A.st ci) (.slice fo A.st cf) (.slice ro nr cr)) rfl hGc ?_); exact rfl)
 refine (rForm_any syms A hV io ci fo cf ro nr cr _ hm1.out).mono ?_; rintro e w2 ⟨v,rfl,K,io',ci',fo',cf',ro',nr',cr',rfl,hK,hMo,hb2⟩
 have hR2:=hR.next hb2
 have hG2:=hG.next hb2
 have hMo2:=hMo.mono hR.lt
 replace hb0:=below_chain hb0 hb2
 have hNA:=hid (nf_bounds hV hK)
 have hNl:(nrm A K).arcs.length≤2048:=by
  have h1:=nf_len hK (fun z hz=>(hV.arcs z hz))
  have h2:=List.length_filter_le nz K
  have h3:=hV.num
  show (K.filter nz).length≤2048
  omega
 have hst:=hV.st
 replace hK:=hid hK
 clear hGc hb2 hMo hG hR
 go_upto_region 4 with ((with_reducible refine wp_storeBAuto rfl _ _ rfl w.heap.size 30 _ hG2 ?_ (auC syms A.st (.slice io' A.st ci') (.slice fo' A.st cf') (.slice ro' nr' cr')) rfl rfl ?_ (auC_1 _ _ _ _ _ _ _ _ _ _ _) ?_); exact rfl; exact rfl; intro w3 hG3 hfr3)
 have hR3:=hR2.fr hfr3 (by omega)
 have hM3:=hid ((hMo2.fr hfr3 (by omega)).mo syms)
 replace hb0:=hb0.trans (hfr3.below (fun k e=>by omega) hb0.size)
 clear hG2 hR2 hfr3 hMo2
 have hdr:=(Below.refl w3.heap.size w3).drew
 have hS:Cs w3.drew w.heap.size 0 (auC syms A.st (.slice io' A.st ci') (.slice fo' A.st cf') (.slice ro' nr' cr')):=(hG3.next hdr).cs
 have hM4:=hid (hM3.out.next hdr)
 have hR4:=hR3.next hdr
 have hb4:=below_chain hb0 hdr
 clear hG3 hR3 hdr hb0
 refine wp_region_D (fun w'=>Cs w' w.heap.size 0 (auC syms A.st (.slice io' A.st ci') (.slice fo' A.st cf') (.slice ro' nr' cr'))) [4,5] (by kernel_rfl) ?_
 refine wpTD (some 10) (i:=0) (v:=?_) rfl rfl (Or.inl ⟨by rfl,?_⟩) hS ?_
 rotate_left
 ·intro wz hw; refine exec_loadAuto w.heap.size 0 ?_ (auC syms A.st (.slice io' A.st ci') (.slice fo' A.st cf') (.slice ro' nr' cr')) rfl hw; go_simp
 refine wpTD (some 11) (i:=1) (v:=?_) rfl rfl (Or.inl ⟨by rfl,?_⟩) hS ?_
 rotate_left
 ·intro wz hw; refine exec_loadAuto w.heap.size 0 ?_ (auC syms A.st (.slice io' A.st ci') (.slice fo' A.st cf') (.slice ro' nr' cr')) rfl hw; go_simp
 go_simp
 refine wpAnyD_one (i:=2) (by kernel_rfl) rfl (fun KK hKK=>?_)
 go_simp
 go_at_call 72
 refine (rUseful_any syms (nrm A K) hst hNl hNA.out io' ci' fo' cf' ro' nr' cr' _ hM4.out).mono ?_; rintro e w5 ⟨v5,E,rfl,hr5,hE,hb5⟩
 have hM5:=hid (hM4.out.next hb5)
 have hR5:=hR4.next hb5
 have hb6:=below_chain hb4 hb5
 obtain ⟨ko,kc,rfl,hrd⟩:=hr5.rd
 try go_simp
 refine hKK _ _ ⟨fun _=>(Cs.next hS hb5),?_⟩; clear hKK KK
 refine wpAnyD_one (i:=3) (by kernel_rfl) rfl (fun KK hKK=>?_)
 go_simp
 go_at_call 71
 refine (rKeep_any syms (nrm A K) io' ci' fo' cf' ro' nr' cr' E hst hNl hNA.out ko kc _ hM5.out hrd).mono ?_; rintro e w7 ⟨v7,rfl,jo,di,go,df,so,ns,ds,rfl,hMo7,hb7⟩
 have hR7:=hR5.next hb7
 have hb8:=below_chain hb6 hb7
 have hMo8:=hMo7.mono hR5.lt
 try go_simp
 refine hKK _ _ ⟨fun _=>(Cs.next (Cs.next hS hb5) hb7),?_⟩; clear hKK KK
 refine wpAnyD_one (i:=4) (by kernel_rfl) rfl (fun KK hKK=>?_)
 rw [if_pos (by rfl)]
 with_reducible refine op_storeB 30 (.tmp 2) (.tmp 13) ?_ (w.heap.size+1) 30 [.int .i64 0,.slice none 0 0,.int .i64 0,.int .i64 0,.slice none 0 0,.slice none 0 0,.slice none 0 0] hR7 ?_ (auC syms (trimU (usL E (nrm A K).st) (nrm A K)).st (.slice jo (trimU (usL E (nrm A K).st) (nrm A K)).st di) (.slice go (trimU (usL E (nrm A K).st) (nrm A K)).st df) (.slice so ns ds)) ?_ ?_ ?_ ?_ ?_
 ·rfl
 ·rfl
 ·rfl
 ·rfl
 ·exact auC_1 _ _ _ _ _ _ _ _ _ _ _
 ·exact Tryz.sizeAuto
 intro w9 hR9 hfr9
 refine hKK _ _ ⟨fun hn=>absurd (by simp) hn,?_⟩; clear hKK KK
 refine wpAnyD_one (i:=5) (by kernel_rfl) rfl (fun KK hKK=>?_)
 go_simp
 refine hKK _ _ ⟨fun hn=>absurd (by simp) hn,?_⟩; clear hKK KK
 refine wpAnyD_done (by kernel_rfl) ?_ _
 have hMo9:=hid ((hMo8.fr hfr9 (Nat.lt_succ_self _)).mono (show w.heap.size≤w.heap.size+1+1 by omega))
 replace hE:=hid hE
 go_wp2_with fail
 exact bodyPost_ret (results_cellC rfl _ _ (w.heap.size+1) _ _ rfl hR9.cs Tryz.underlying30 rfl Tryz.sizeAuto) rfl ⟨_,K,E,rfl,hK.out,hE.out,jo,di,go,df,so,ns,ds,rfl,hMo9.out,hb8.trans (hfr9.below (fun k e=>by omega) hb8.size)⟩
end
end Go.Proofs.YtnapapijhhldpaaGreatDoor

/-
  Texts joined by program: Txk. No condition of its own.
-/
import Derived.Test.YtnapapijhhldpaaGreatDoorJtBD
namespace Go.Proofs.YtnapapijhhldpaaGreatDoor
set_option linter.unusedSimpArgs false
set_option linter.unusedVariables false
set_option maxRecDepth 100000
set_option maxHeartbeats 4000000
section
open Go.RowKit
theorem dDet_any {most syms:Nat} {A:Au} (hA:AuO most syms true A) (hmost:most<=8) (io:OA) (ci:Nat) (fo:OA) (cf:Nat) (ro:OA) (nr cr:Nat) (w:World) (h:Mo w syms A io ci fo cf ro nr cr) :
  Calls Tryz.prog 18 #[.agg (auC syms A.st (.slice io A.st ci) (.slice fo A.st cf) (.slice ro nr cr)).toArray] w fun e w'=>e=.returned (.tuple #[.bool true,.int .i64 0])/\Below w.heap.size w w':=by
 have hV:=hA.vo (Nat.le_trans hmost (by decide))
 have hb0:Below w.heap.size w (w.alloc (.cells (auC syms A.st (.slice io A.st ci) (.slice fo A.st cf) (.slice ro nr cr)).toArray 30)):=below_alloc _
 have hG:=Bl.fresh w (auC syms A.st (.slice io A.st ci) (.slice fo A.st cf) (.slice ro nr cr)) 30
 have hm:=hid (h.next hb0)
 clear h
 go_enter Tryz.func18,Tryz.ntmps18
 go_upto_region 1 with fail
 generalize hW0:(w.alloc (.cells (auC syms A.st (.slice io A.st ci) (.slice fo A.st cf) (.slice ro nr cr)).toArray 30))=W0 at *
 have hW0:=hid hW0
 obtain ⟨⟨x0,x1,x2,x3⟩,x4,x5,x6⟩:=hG.seven
 have hst8:A.st<=8:=Nat.le_trans hA.st hmost
 clear hW0
 go_wp2_with fail
 refine (light_any syms A hV (.inl (by have:=hA.num; omega)) hA.li hA.lf hA.lw io ci fo cf ro nr cr _ hm.out).mono ?_; rintro e w1 ⟨⟨io',ci',fo',cf',ro',nr',cr',vo',cv',K,rfl,hm1,hnf⟩,hb1⟩
 clear x0 x1 x2 x3 x4 x5 x6
 replace hm1:=hid hm1
 replace hnf:=hid hnf
 have hb1':=hid (below_chain hb0 hb1)
 replace hb1:=hid hb1
 have hbX:Below w1.heap.size w1 (w1.alloc (.cells (viC syms A.st (.slice io' A.st ci') (.slice fo' A.st cf') (.slice ro' nr' cr') (.slice vo' (A.st+1) cv')).toArray 63)):=below_alloc _
 have hX:=Bl.fresh w1 (viC syms A.st (.slice io' A.st ci') (.slice fo' A.st cf') (.slice ro' nr' cr') (.slice vo' (A.st+1) cv')) 63
 go_upto_region 2 with ((with_reducible refine wp_storeVView rfl _ _ rfl _ _ ?_ (viC syms A.st (.slice io' A.st ci') (.slice fo' A.st cf') (.slice ro' nr' cr') (.slice vo' (A.st+1) cv')) rfl rfl rfl ?_ ?_); exact rfl; exact viC_1 _ _ _ _ _ _ _ _ _ _ _ _ _ _)
 have hm2:=hid (hm1.out.next hbX)
 have hb2:=hid (below_chain hb1'.out hbX)
 obtain ⟨V,hVe⟩:∃ V,w1.heap.size=V:=⟨_,rfl⟩
 rw [hVe] at hX ⊢
 generalize hW2:(w1.alloc (.cells (viC syms A.st (.slice io' A.st ci') (.slice fo' A.st cf') (.slice ro' nr' cr') (.slice vo' (A.st+1) cv')).toArray 63))=W2 at *
 clear hW2 hbX hm1 hb1 hb1' hVe
 have hn14:nr'<=4096:=by
  have h1:=nf_len hnf.out (fun z hz=>(hV.arcs z hz))
  have h2:=List.length_filter_le nz K
  have h3:=hA.num
  have h4:=fo_n hm2.out.mo.arcs
  simp only [List.length_map] at h4
  omega
 have hvd:=hid (viewDet_any syms ⟨A.st,A.ini,A.fin,K.filter nz⟩ (Ss.filter nz hnf.out.1) (uq_filter hnf.out (hA.uq rfl)) (hA.one rfl) hA.li (by show A.st<=64; omega) io' ci' fo' cf' ro' nr' cr' vo' cv' hn14 W2 (hm2.out.vm syms))
 obtain ⟨⟨x0,x1,x2,x3⟩,x4,x5,x6,x7⟩:=hX.eight
 clear hX hm2
 go_wp2_with fail
 refine hvd.out.mono ?_; rintro e w3 ⟨rfl,hb3⟩
 have hb4:=hid (below_chain hb2.out hb3)
 clear hvd x0 x1 x2 x3 x4 x5 x6 x7 hb3
 go_wp2_with fail
 go_ret2
 exact ⟨rfl,hb4.out⟩
theorem tlaw_any (kst ksy:Int) (fw sg:Bool) (lo:OA) (n cap:Nat) (zs:List Int) (w:World) (hL:Sl w lo n cap (zs.map (.int .i64))) (hlo:∀ b o,lo=some ⟨b,o,none⟩->b<w.heap.size) (hn:n<=9223372036854775807) (hp:Pow w) :
  Calls Tryz.prog 5 #[.agg #[.int .i64 kst,.int .i64 ksy,.bool fw,.bool sg,.slice lo n cap]] w fun e w'=>e=.returned (.bool true)/\Below w.heap.size w w':=by
 have hlst:=lst
 have hb1:Below w.heap.size w (w.alloc (.cells #[.int .i64 kst,.int .i64 ksy,.bool fw,.bool true,.slice lo n cap] 24)):=below_alloc _
 have hP1:=Bl.fresh w [.int .i64 kst,.int .i64 ksy,.bool fw,.bool true,.slice lo n cap] 24
 go_enter Tryz.func5,Tryz.ntmps5
 go_upto_region 2 with fail
 generalize hW1:(w.alloc (.cells #[.int .i64 kst,.int .i64 ksy,.bool fw,.bool true,.slice lo n cap] 24))=W1 at *
 replace hb1:=hid hb1
 obtain ⟨P,hPe⟩:∃ P,w.heap.size=P:=⟨_,rfl⟩
 have hPlt:w.heap.size<=P:=by omega
 rw [hPe] at hP1 ⊢
 have hPe':=hid hPe
 clear hPe
 have hL1:=hid (hL.below hb1.out (Nat.le_refl _))
 have hlo1:=hid (fun b o e=>Nat.lt_of_lt_of_le (hlo b o e) hb1.out.size)
 have hp1:=hid (hp.next (by have:=hb1.out; exact this))
 clear hW1
 obtain ⟨y0,y1,y2,y3,y4⟩:_/\_/\_/\_/\_:=⟨hP1.cell (i:=0) rfl,hP1.cell (i:=1) rfl,hP1.cell (i:=2) rfl,hP1.cell (i:=3) rfl,hP1.cell (i:=4) rfl⟩
 have hau:=hid (auto_any kst ksy fw true lo n cap 5 (by decide) zs W1 hL1.out hlo1.out hn)
 go_wp2_with fail
 refine hau.out.mono ?_; rintro e w2 ⟨syms,A,v,hA,rfl,io,ci,fo,cf,ro,nr,cr,rfl,hMo,hb2⟩
 have hP2:=hP1.next hb2
 have hb02:=hid (below_chain hb1.out hb2)
 have hp2:=hid (hp1.out.next hb2)
 clear y0 y1 y2 y3 y4 hau hb1 hp1 hP1
 have hbX:Below w2.heap.size w2 (w2.alloc (.cells (auC syms A.st (.slice io A.st ci) (.slice fo A.st cf) (.slice ro nr cr)).toArray 30)):=below_alloc _
 have hX:=Bl.fresh w2 (auC syms A.st (.slice io A.st ci) (.slice fo A.st cf) (.slice ro nr cr)) 30
 go_upto_region 3 with ((with_reducible refine wp_storeVAuto rfl _ _ rfl _ _ ?_ (auC syms A.st (.slice io A.st ci) (.slice fo A.st cf) (.slice ro nr cr)) ?_ ?_ ?_ (auC_1 _ _ _ _ _ _ _ _ _ _ _) ?_); exact rfl; exact rfl; exact rfl; exact rfl)
 generalize hW3:(w2.alloc (.cells (auC syms A.st (.slice io A.st ci) (.slice fo A.st cf) (.slice ro nr cr)).toArray 30))=w3 at *
 obtain ⟨X,hXe⟩:∃ X,w2.heap.size=X:=⟨_,rfl⟩
 rw [hXe] at hX ⊢
 have hM3:=hid ((hMo.mo syms).next hbX)
 have hP3:=hid (hP2.next hbX)
 have hb03:=hid (below_chain hb02.out hbX)
 have hp3:=hid (hp2.out.next hbX)
 clear hW3 hXe hbX hMo hP2 hb2 hb02 hp2
 have htw:=hid (twins_any hA (by decide) io ci fo cf ro nr cr w3 hM3.out)
 have hXc:=hX.cs
 go_wp2_with ((with_reducible refine wp_loadAuto rfl _ rfl X 0 ?_ (auC syms A.st (.slice io A.st ci) (.slice fo A.st cf) (.slice ro nr cr)) rfl hXc ?_); exact rfl)
 refine htw.out.mono ?_; rintro e w4 ⟨K1,b1,-, rfl,-, hb1y,hb4⟩
 obtain rfl:b1=true:=hb1y (hA.uq rfl) (hA.one rfl)
 have hX4:=hX.next hb4
 have hM4:=hid (hM3.out.next hb4)
 have hP4:=hid (hP3.out.next hb4)
 have hb04:=hid (below_chain hb03.out hb4)
 have hp4:=hid (hp3.out.next hb4)
 clear htw hXc hX hM3 hP3 hb03 hp3 hb4 hb1y
 have hdd:=hid (dDet_any hA (by decide) io ci fo cf ro nr cr w4 hM4.out)
 have hXc:=hX4.cs
 go_wp2_with ((with_reducible refine wp_loadAuto rfl _ rfl X 0 ?_ (auC syms A.st (.slice io A.st ci) (.slice fo A.st cf) (.slice ro nr cr)) rfl hXc ?_); exact rfl)
 refine hdd.out.mono ?_; rintro e w5 ⟨rfl,hb5⟩
 have hP5:=hP4.out.next hb5
 have hb05:=hid (below_chain hb04.out hb5)
 have hp5:=hid (hp4.out.next hb5)
 clear hdd hXc hX4 hM4 hP4 hb04 hp4 hb5 hA
 have z3:=hP5.cell (i:=3) rfl
 have z3f:=hP5.free 3
 have hP6:Bl P [.int .i64 kst,.int .i64 ksy,.bool fw,.bool false,.slice lo n cap] 24 (w5.setCell ⟨P,3,none⟩ (.bool false)):=hP5.put 3 (.bool false)
 have f6:Fr (fun b=>b=P) w5 (w5.setCell ⟨P,3,none⟩ (.bool false)):=Fr.set _ (T:=fun b=>b=P) (p:=⟨P,3,none⟩) rfl _
 have hb06:=hid (hb05.out.trans (f6.below (B:=w.heap.size) (fun b e=>by rw [e]; exact hPlt) hb05.out.size))
 go_upto_region 6 with fail
 generalize hW6:(w5.setCell ⟨P,3,none⟩ (.bool false))=w6 at *
 clear hW6 f6 z3 z3f hP5 hb05 hp5
 have hL6:=hid (hL.below hb06.out (Nat.le_refl _))
 have hlo6:=hid (fun b o e=>Nat.lt_of_lt_of_le (hlo b o e) hb06.out.size)
 have hp6:=hid (hp.next hb06.out)
 obtain ⟨y0,y1,y2,y3,y4⟩:_/\_/\_/\_/\_:=⟨hP6.cell (i:=0) rfl,hP6.cell (i:=1) rfl,hP6.cell (i:=2) rfl,hP6.cell (i:=3) rfl,hP6.cell (i:=4) rfl⟩
 have hau:=hid (auto_any kst ksy fw false lo n cap 3 (by decide) zs w6 hL6.out hlo6.out hn)
 go_wp2_with fail
 refine hau.out.mono ?_; rintro e w7 ⟨syms2,B,v,hB,rfl,jo,di,go,df,so,ns,ds,rfl,hMo,hb7⟩
 have hb07:=hid (below_chain hb06.out hb7)
 have hp7:=hid (hp6.out.next hb7)
 clear y0 y1 y2 y3 y4 hau hb06 hp6 hP6 hL6 hlo6 hL1 hlo1 hb7
 have hbX:Below w7.heap.size w7 (w7.alloc (.cells (auC syms2 B.st (.slice jo B.st di) (.slice go B.st df) (.slice so ns ds)).toArray 30)):=below_alloc _
 have hY:=Bl.fresh w7 (auC syms2 B.st (.slice jo B.st di) (.slice go B.st df) (.slice so ns ds)) 30
 go_upto_region 7 with ((with_reducible refine wp_storeVAuto rfl _ _ rfl _ _ ?_ (auC syms2 B.st (.slice jo B.st di) (.slice go B.st df) (.slice so ns ds)) ?_ ?_ ?_ (auC_1 _ _ _ _ _ _ _ _ _ _ _) ?_); exact rfl; exact rfl; exact rfl; exact rfl)
 generalize hW8:(w7.alloc (.cells (auC syms2 B.st (.slice jo B.st di) (.slice go B.st df) (.slice so ns ds)).toArray 30))=w8 at *
 obtain ⟨Y,hYe⟩:∃ Y,w7.heap.size=Y:=⟨_,rfl⟩
 rw [hYe] at hY ⊢
 have hM8:=hid ((hMo.mo syms2).next hbX)
 have hb08:=hid (below_chain hb07.out hbX)
 have hp8:=hid (hp7.out.next hbX)
 clear hW8 hYe hbX hMo hb07 hp7
 have htw:=hid (twins_any hB (by decide) jo di go df so ns ds w8 hM8.out)
 have hYc:=hY.cs
 go_wp2_with ((with_reducible refine wp_loadAuto rfl _ rfl Y 0 ?_ (auC syms2 B.st (.slice jo B.st di) (.slice go B.st df) (.slice so ns ds)) rfl hYc ?_); exact rfl)
 refine htw.out.mono ?_; rintro e w9 ⟨K2,b2,hK2,rfl,hbal,-, hb9⟩
 have hY9:=hY.next hb9
 have hM9:=hid (hM8.out.next hb9)
 have hb09:=hid (below_chain hb08.out hb9)
 have hp9:=hid (hp8.out.next hb9)
 have hbal:=hid hbal
 have hK2:=hid hK2
 clear htw hYc hY hM8 hb08 hp8 hb9
 have hV:=hB.vo (by decide)
 have hdet:=hid (det_any syms2 5 B hV (.inl (by have:=hB.num; omega)) hB.li hB.lf hB.lw hB.cs (by decide) jo di go df so ns ds w9 hM9.out hp9.out)
 have hYc:=hY9.cs
 go_wp2_with ((with_reducible refine wp_loadAuto rfl _ rfl Y 0 ?_ (auC syms2 B.st (.slice jo B.st di) (.slice go B.st df) (.slice so ns ds)) rfl hYc ?_); exact rfl)
 refine hdet.out.mono ?_; rintro e w10 ⟨K3,us,hK3,hu,hb10,hout⟩
 obtain rfl:=hK2.out.unique hK3
 have hb010:=hid (below_chain hb09.out hb10)
 have hp10:=hid (hp9.out.next hb10)
 have hu:=hid hu
 have hB:=hid hB
 clear hdet hYc hY9 hM9 hb09 hp9 hb10 hV
 rcases hout with ⟨hno,rfl⟩ | ⟨D,ko,ei,lo',ef,mo,mt,dt,hD,rfl,hMD⟩
 ·have hbZ:Below w10.heap.size w10 (w10.alloc (.cells #[.int .i64 0,.slice none 0 0,.int .i64 0,.int .i64 0,.slice none 0 0,.slice none 0 0,.slice none 0 0] 30)):=below_alloc _
  have hkn:=hid (known_any _ (hp10.out.next hbZ))
  have hb011:=hid (below_chain hb010.out hbZ)
  clear hno hbZ hu hK2 hK3
  cases b2 with
  | true =>
   go_wp2_with ((with_reducible refine wp_storeVAuto rfl _ _ rfl _ _ ?_ [.int .i64 0,.slice none 0 0,.int .i64 0,.int .i64 0,.slice none 0 0,.slice none 0 0,.slice none 0 0] ?_ ?_ ?_ zau_1 ?_); exact rfl; exact rfl; exact rfl; exact rfl)
   refine hkn.out.mono ?_; rintro e w12 ⟨rfl,hb12⟩
   have hb012:=hid (below_chain hb011.out hb12)
   clear hkn hb12
   go_wp2_with fail
   go_ret
   exact ⟨rfl,hb012.out⟩
  | false =>
   go_wp2_with ((with_reducible refine wp_storeVAuto rfl _ _ rfl _ _ ?_ [.int .i64 0,.slice none 0 0,.int .i64 0,.int .i64 0,.slice none 0 0,.slice none 0 0,.slice none 0 0] ?_ ?_ ?_ zau_1 ?_); exact rfl; exact rfl; exact rfl; exact rfl)
   refine hkn.out.mono ?_; rintro e w12 ⟨rfl,hb12⟩
   have hb012:=hid (below_chain hb011.out hb12)
   clear hkn hb12
   go_wp2_with fail
   go_ret
   exact ⟨rfl,hb012.out⟩
 ·have hbZ:Below w10.heap.size w10 (w10.alloc (.cells (auC syms2 D.st (.slice ko D.st ei) (.slice lo' D.st ef) (.slice mo mt dt)).toArray 30)):=below_alloc _
  have hZ:=Bl.fresh w10 (auC syms2 D.st (.slice ko D.st ei) (.slice lo' D.st ef) (.slice mo mt dt)) 30
  have hMD':=hid ((hMD.mo syms2).next hbZ)
  have hb011:=hid (below_chain hb010.out hbZ)
  have hp11:=hid (hp10.out.next hbZ)
  have hcs:=hid (show b2=true->∀ x∈D.arcs,tc (wt x)<=50 from fun e=>by
   obtain ⟨hAok,hc⟩:=hB.out.aok hK2.out
   exact det_twins (C:=5) (n:=B.st) hAok hu.out rfl hB.out.st hc (fun v hv r e=>by have:=hB.out.bi v hv; rw [e] at this; exact this) (hbal.out e) hD)
  clear hMD hD hu hK2 hK3 hbal hB
  cases b2 with
  | false =>
   have hkn:=hid (known_any _ hp11.out)
   clear hcs
   go_wp2_with ((with_reducible refine wp_storeVAuto rfl _ _ rfl _ _ ?_ (auC syms2 D.st (.slice ko D.st ei) (.slice lo' D.st ef) (.slice mo mt dt)) ?_ ?_ ?_ (auC_1 _ _ _ _ _ _ _ _ _ _ _) ?_); exact rfl; exact rfl; exact rfl; exact rfl)
   refine hkn.out.mono ?_; rintro e w12 ⟨rfl,hb12⟩
   have hb012:=hid (below_chain hb011.out hb12)
   clear hkn hb12
   go_wp2_with fail
   go_ret
   exact ⟨rfl,hb012.out⟩
  | true =>
   have hcs2:Hid (∀ x∈D.arcs,tc (wt x)<=50):=hid (hcs.out (by trivial))
   clear hcs
   go_upto_region 9 with ((with_reducible refine wp_storeVAuto rfl _ _ rfl _ _ ?_ (auC syms2 D.st (.slice ko D.st ei) (.slice lo' D.st ef) (.slice mo mt dt)) ?_ ?_ ?_ (auC_1 _ _ _ _ _ _ _ _ _ _ _) ?_); exact rfl; exact rfl; exact rfl; exact rfl)
   generalize hW11:(w10.alloc (.cells (auC syms2 D.st (.slice ko D.st ei) (.slice lo' D.st ef) (.slice mo mt dt)).toArray 30))=w11 at *
   obtain ⟨Z,hZe⟩:∃ Z,w10.heap.size=Z:=⟨_,rfl⟩
   rw [hZe] at hZ ⊢
   clear hW11 hbZ hb010 hp10 hZe
   have hZ:=hid hZ
   have hmt:=hid hMD'.out.arcs.lenMap
   go_wp2_with fail
   go_loopw [13] (fun iv wr=>∃ i:Nat,i<=mt/\iv=.int .i64 (i:Int)/\Hid (Bl Z (auC syms2 D.st (.slice ko D.st ei) (.slice lo' D.st ef) (.slice mo mt dt)) 30 wr)/\Hid (Mo wr syms2 D ko ei lo' ef mo mt dt)/\Hid (Below w.heap.size w wr)/\Hid (Pow wr)) (fun iv _=>mt-(intOf iv).toNat)
   case atStart=>exact ⟨0,Nat.zero_le _,rfl,hZ,hMD',hb011,hp11⟩
   case round =>
    clear hZ hMD' hb011 hp11
    obtain ⟨i,hi,rfl,hZ,hMD,hb,hpw⟩:=hrel
    have q6:=hZ.out.cell (i:=6) rfl
    by_cases hlt:i<mt
    ·obtain ⟨x,hx,bb,oo,e0,hcx⟩:=hMD.out.arcs.get hlt
     subst e0
     have i1:(i:Int)<(mt:Int):=by omega
     have i0:(0:Int)<=(i:Int):=by omega
     have c6:wr.cell? ⟨bb,oo+i*11+6,none⟩=some (.int .i64 ((tc (wt x):Nat):Int)):=hcx 6 _ rfl
     have hc:=hcs2.out x (List.mem_of_getElem? hx)
     have hcn:¬ (114:Int)<((tc (wt x):Nat):Int):=by omega
     have hbn:=hid hMD.out.arcs.bound
     have hbn':=hbn.out
     clear hcx hx
     go_wp2_with fail
     go_roundw
     case rel=>exact ⟨i+1,by omega,by go_num,hZ,hMD,hb,hpw⟩
     case measure=>simp [intOf]; omega
    ·obtain rfl:i=mt:=by omega
     have i1:¬ (i:Int)<(i:Int):=by omega
     have hkn:=hid (known_any wr hpw.out)
     go_wp2_with fail
     refine hkn.out.mono ?_; rintro e w12 ⟨rfl,hb12⟩
     have hb012:=hid (below_chain hb.out hb12)
     clear hkn hb12 q6
     go_wp2_with fail
     go_ret
     exact ⟨rfl,hb012.out⟩
theorem walkTwins (w:World) (hp:Pow w) (kst ksy:Int) (fw sg:Bool) (lo:OA) (n cap:Nat) (zs:List Int) (hL:Sl w lo n cap (zs.map (.int .i64))) (hlo:∀ b o,lo=some ⟨b,o,none⟩->b<w.heap.size) (hn:n<=9223372036854775807) :
  Calls Tryz.prog 5 #[.agg #[.int .i64 kst,.int .i64 ksy,.bool fw,.bool sg,.slice lo n cap]] w fun e w'=>e=.returned (.bool true)/\Below w.heap.size w w':=tlaw_any kst ksy fw sg lo n cap zs w hL hlo hn hp
end
end Go.Proofs.YtnapapijhhldpaaGreatDoor

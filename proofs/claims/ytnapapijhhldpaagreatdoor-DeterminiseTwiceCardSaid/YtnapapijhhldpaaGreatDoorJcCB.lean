/-
  Texts joined by program: Tub, DoorT, Open, OpenT. No condition of its own.
-/
import Derived.Test.YtnapapijhhldpaaGreatDoorRows
import Derived.Test.YtnapapijhhldpaaGreatDoorJcBT
import Derived.Test.YtnapapijhhldpaaGreatDoorJcCA
namespace Go.Proofs.YtnapapijhhldpaaGreatDoor
set_option linter.unusedSimpArgs false
set_option linter.unusedVariables false
section
open Go.RowKit
theorem row_arcs {N:List Ac} {us:List Bool} {k:Nat}:∀ (n l:Nat) {X Y:Ds},rowS N us k n l X=some Y→Y.arcs.length≤X.arcs.length+n
 | 0,l,X,Y,h=>by injection h with h; subst h; exact Nat.le_refl _
 | n+1,l,X,Y,h=>by
  cases h1:oneS N us k l X with
  | none=>rw [rowS_none h1] at h; cases h
  | some Z =>
   rw [rowS_some h1] at h
   have h2:=one_arcs h1
   have h3:=row_arcs n (l+1) h
   omega
theorem run_arcs {N:List Ac} {us:List Bool} {syms m:Nat}:∀ (f k:Nat) {X Y:Ds},runS N us syms f k X=some Y→Y.subs.length≤m→Y.arcs.length≤X.arcs.length+(m-k)*syms
 | 0,_,X,Y,h,_=>by cases h
 | f+1,k,X,Y,h,hm=>by
  by_cases hk:X.subs.length≤k
  ·rw [run_end hk] at h; injection h with h; subst h; omega
  ·cases hr:rowS N us k syms 1 X with
   | none=>rw [run_none (by omega) hr] at h; cases h
   | some Z =>
    rw [run_some (by omega) hr] at h
    have h1:=run_arcs f (k+1) h hm
    have h2:=row_arcs _ _ hr
    have h3:=run_len f (k+1) h
    obtain ⟨L,e⟩:=row_pre _ _ hr
    rw [e,List.length_append] at h3
    have h4:(m-k)*syms=(m-(k+1))*syms+syms:=by
     obtain ⟨j,hj⟩:∃ j,m-k=j+1:=⟨m-k-1,by omega⟩
     rw [hj,Nat.add_mul,show m-(k+1)=j by omega]; omega
    omega
theorem det_arcs {syms:Nat} {us:List Bool} {A B:Au} (h:detP syms us A=some B) (hB:B.st≤64):B.arcs.length≤64*syms:=by
 unfold detP at h
 split at h
 ·cases h; simp
 ·rename_i c f hs
  split at h
  ·cases h
  ·rename_i X hX
   cases h
   have:=run_arcs 66 0 hX hB
   simpa using this
theorem ss_up {L:List Ac} (h:Ss L):UpA L:=by
 induction L with
 | nil=>exact List.Pairwise.nil
 | cons x r ih=>exact List.Pairwise.cons (fun y hy k=>klt_asymm (h.1 y hy) k) (ih h.2)
theorem AuO.vo {most syms:Nat} {sg:Bool} {A:Au} (h:AuO most syms sg A) (hm:most≤60):Vo syms A :=
 ⟨⟨h.sym.1,by have:=h.sym.2; omega⟩,by have:=h.st; omega,by have:=h.num; omega,fun v hv=>Nat.le_trans (h.bi v hv) (by decide),fun v hv=>Nat.le_trans (h.bf v hv) (by decide),fun x hx=>by
  obtain ⟨a,b,c,d,e⟩:=h.ok x hx
  exact ⟨a,b,d,Nat.le_trans e (by decide)⟩⟩
theorem AuO.lw {most syms:Nat} {sg:Bool} {A:Au} (h:AuO most syms sg A):Lw A :=
 ⟨fun v hv=>Nat.le_trans (h.bi v hv) (by decide),fun v hv=>Nat.le_trans (h.bf v hv) (by decide),fun x hx=>by
  obtain ⟨a,b,c,d,e⟩:=h.ok x hx
  exact ⟨Nat.le_trans e (by decide),c⟩⟩
theorem AuO.cs {most syms:Nat} {sg:Bool} {A:Au} (h:AuO most syms sg A):(∀ x∈A.arcs,cst x≤5)∧(∀ v∈A.ini,tc v≤5)∧∀ v∈A.fin,tc v≤5:=⟨fun x hx=>(h.ok x hx).2.2.2.2,h.bi,h.bf⟩
theorem nf_mem {K L:List Ac} (hK:Nf K L):∀ x∈K.filter nz,∃ z∈L,ky z=ky x∧wt z=wt x:=fun x hx=>by
 obtain ⟨⟨z,hz,hk,hw⟩,_⟩:=hK.2.1 x (List.mem_filter.1 hx).1
 exact ⟨z,hz,hk,hw⟩
theorem AuO.aok {most syms:Nat} {sg:Bool} {A:Au} (h:AuO most syms sg A) {K:List Ac} (hK:Nf K A.arcs):Aok ⟨A.st,A.ini,A.fin,K.filter nz⟩ syms∧∀ x∈K.filter nz,cst x≤5:=by
 have key:∀ x∈K.filter nz,x.1<A.st∧x.2.2.1<A.st∧1≤x.2.1∧x.2.1≤syms∧cst x≤5:=fun x hx=>by
  obtain ⟨z,hz,hk,hw⟩:=nf_mem hK x hx
  obtain ⟨a,b,c,d,e⟩:=h.ok z hz
  have h1:z.1=x.1:=congrArg (fun q:Ky=>q.1) hk
  have h2:z.2.1=x.2.1:=congrArg (fun q:Ky=>q.2.1) hk
  have h3:z.2.2.1=x.2.2.1:=congrArg (fun q:Ky=>q.2.2) hk
  have h4:tc (wt z)=cst x:=by unfold cst tc; rw [hw]
  exact ⟨by omega,by omega,by omega,by omega,by omega⟩
 exact ⟨⟨h.li,h.lf,fun x hx=>⟨(key x hx).1,(key x hx).2.1,(key x hx).2.2.1,(key x hx).2.2.2.1,(List.mem_filter.1 hx).2⟩⟩,fun x hx=>(key x hx).2.2.2.2⟩
theorem tc_some {w:Tw} {r C:Nat} (h:tc w≤C) (e:w=some r):r≤C:=by rw [e] at h; exact h
theorem det_again {most syms:Nat} {sg:Bool} {A B:Au} (h:AuO most syms sg A) {K:List Ac} {us:List Bool} (hK:Nf K A.arcs) (hu:UsOk us ⟨A.st,A.ini,A.fin,K.filter nz⟩) (hd:detP syms us ⟨A.st,A.ini,A.fin,K.filter nz⟩=some B) :
  Vo syms B∧(B.arcs.length<20∨UpA B.arcs)∧B.ini.length=B.st∧B.fin.length=B.st∧Lw B∧((∀ x∈B.arcs,cst x≤330)∧(∀ v∈B.ini,tc v≤330)∧∀ v∈B.fin,tc v≤330)∧(∀ y∈B.arcs,ArB y) ∧
   ∀ K' us',Nf K' B.arcs→UsOk us' ⟨B.st,B.ini,B.fin,K'.filter nz⟩→detP syms us' ⟨B.st,B.ini,B.fin,K'.filter nz⟩=some B:=by
 obtain ⟨hA,hc⟩:=h.aok hK
 obtain ⟨h1,h2,h3,h4,h5,h6,h7,h8⟩:=det_twice hA hu hc (fun w hw r e=>tc_some (h.bi w hw) e) (fun w hw r e=>tc_some (h.bf w hw) e) hd
 have hn:=det_arcs hd h3
 have hs:=h.sym
 have b1:∀ v∈B.ini,tc v≤5:=fun v hv=>by
  cases v with
  | none=>exact Nat.zero_le _
  | some r=>exact h7 _ hv r rfl
 have b2:∀ v∈B.fin,tc v≤330:=fun v hv=>by
  cases v with
  | none=>exact Nat.zero_le _
  | some r=>exact h8 _ hv r rfl
 have b3:∀ x∈B.arcs,tc (wt x)≤330:=h6
 have hz:B.arcs.filter nz=B.arcs:=List.filter_eq_self.2 fun x hx=>(h1.arc x hx).2.2.2.2
 refine ⟨⟨⟨hs.1,by omega⟩,h3,by have:64*syms≤64*3:=Nat.mul_le_mul_left _ hs.2; omega,fun v hv=>Nat.le_trans (b1 v hv) (by decide),fun v hv=>Nat.le_trans (b2 v hv) (by decide),fun x hx=>?_⟩,.inr (ss_up h2),h1.ini,h1.fin,⟨fun v hv=>Nat.le_trans (b1 v hv) (by decide),fun v hv=>Nat.le_trans (b2 v hv) (by decide),fun x hx=>⟨Nat.le_trans (b3 x hx) (by decide),(h1.arc x hx).2.2.1⟩⟩,⟨h6,fun v hv=>Nat.le_trans (b1 v hv) (by decide),b2⟩,fun y hy=>?_,fun K' us' hK' hu'=>?_⟩
 ·obtain ⟨a,b,c,d,e⟩:=h1.arc x hx
  exact ⟨a,b,d,Nat.le_trans (b3 x hx) (by decide)⟩
 ·obtain ⟨a,b,c,d,e⟩:=h1.arc y hy
  exact ⟨by omega,by omega,by omega⟩
 ·obtain rfl:=hK'.unique (Nf.self h2)
  rw [hz] at hu' ⊢
  have hu'':UsOk us' B:=hu'
  rw [hu''.unique h4]
  exact h5
theorem det_fails {syms:Nat} {A:Au} {K K':List Ac} {us:List Bool} {E:Nat→Bool} (hli:A.ini.length=A.st) (hK:Nf K A.arcs) (hK':Nf K' A.arcs) (hu:UsOk us ⟨A.st,A.ini,A.fin,K.filter nz⟩) (hE:UsE (nrm A K') E) (hd:detP syms us ⟨A.st,A.ini,A.fin,K.filter nz⟩=none) :
  detP syms (List.replicate (trm A K' E).st true) (trm A K' E)=none:=by
 obtain rfl:=hK'.unique hK
 have hus:UsOk (usL E A.st) ⟨A.st,A.ini,A.fin,K'.filter nz⟩:=⟨usL_len _ _,fun q hq=>by
  rw [usL_get hq]; exact hE q hq⟩
 have e:=hu.unique hus
 have h:=det_trim (syms:=syms) (us:=usL E A.st) (A:=nrm A K') (by rw [usL_len]; exact hli)
 rw [show detP syms (usL E A.st) (nrm A K')=none by rw [←e]; exact hd] at h
 cases h2:detP syms (List.replicate (trm A K' E).st true) (trm A K' E) with
 | none=>rfl
 | some B =>
  rw [show (trm A K' E).st=(posU (usL E A.st)).length from rfl] at h2
  rw [h2] at h; cases h
set_option maxRecDepth 100000 in
set_option maxHeartbeats 4000000 in
theorem twice_any (kst ksy:Int) (fw sg:Bool) (lo:Option Addr) (n cap:Nat) (zs:List Int) (w:World) (hL:Sl w lo n cap (zs.map (.int .i64))) (hlo:∀ b o,lo=some ⟨b,o,none⟩→b<w.heap.size) (hn:n≤9223372036854775807) (hp:Pow w) :
  Calls Tryz.prog 3 #[.agg #[.int .i64 kst,.int .i64 ksy,.bool fw,.bool sg,.slice lo n cap]] w fun e w'=>e=.returned (.bool true)∧Below w.heap.size w w':=by
 have hb0:Below w.heap.size w (w.alloc (.cells #[.int .i64 kst,.int .i64 ksy,.bool fw,.bool sg,.slice lo n cap] 24)):=below_alloc _
 have hP:=Bl.fresh w [.int .i64 kst,.int .i64 ksy,.bool fw,.bool sg,.slice lo n cap] 24
 have y0:=hP.cell (i:=0) rfl
 have y1:=hP.cell (i:=1) rfl
 have y2:=hP.cell (i:=2) rfl
 have y3:=hP.cell (i:=3) rfl
 have y4:=hP.cell (i:=4) rfl
 have hau:=hid (auto_any kst ksy fw sg lo n cap 4 (by decide) zs _ (hL.next hb0) (fun b o e=>Nat.lt_of_lt_of_le (hlo b o e) hb0.size) hn)
 have hp0:=hid (hp.next hb0)
 replace hb0:=hid hb0
 clear hP hL hlo hp
 go_enter Tryz.func3,Tryz.ntmps3
 go_wp2_with fail
 refine hau.out.mono ?_; rintro e w1 ⟨syms,A,v,hA,rfl,io,ci,fo,cf,ro,nr,cr,rfl,hMo,hb1⟩
 have hb01:=hid (below_chain hb0.out hb1)
 have hp1:=hid (hp0.out.next hb1)
 clear y0 y1 y2 y3 y4 hau hb1
 have hbX:Below w1.heap.size w1 (w1.alloc (.cells (auC syms A.st (.slice io A.st ci) (.slice fo A.st cf) (.slice ro nr cr)).toArray 30)):=below_alloc _
 have hX:=Bl.fresh w1 (auC syms A.st (.slice io A.st ci) (.slice fo A.st cf) (.slice ro nr cr)) 30
 go_upto_region 2 with ((with_reducible refine wp_storeVAuto rfl _ _ rfl _ _ ?_ (auC syms A.st (.slice io A.st ci) (.slice fo A.st cf) (.slice ro nr cr)) ?_ ?_ ?_ (auC_1 _ _ _ _ _ _ _ _ _ _ _) ?_); exact rfl; exact rfl; exact rfl; exact rfl)
 generalize hW2:(w1.alloc (.cells (auC syms A.st (.slice io A.st ci) (.slice fo A.st cf) (.slice ro nr cr)).toArray 30))=w2 at *
 obtain ⟨X,hXe⟩:∃ X,w1.heap.size=X:=⟨_,rfl⟩
 rw [hXe] at hX ⊢
 have hM2:=hid ((hMo.mo syms).next hbX)
 have hb2:=hid (below_chain hb01.out hbX)
 have hp2:=hid (hp1.out.next hbX)
 clear hW2 hXe hbX hMo
 have hVo:=hA.vo (by decide)
 have hLw:=hA.lw
 have hdet:=hid (det_any syms 5 A hVo (.inl (by have:=hA.num; omega)) hA.li hA.lf hLw hA.cs (by decide) io ci fo cf ro nr cr w2 hM2.out hp2.out)
 have hXc:=hX.cs
 go_wp2_with ((with_reducible refine wp_loadAuto rfl _ rfl X 0 ?_ (auC syms A.st (.slice io A.st ci) (.slice fo A.st cf) (.slice ro nr cr)) rfl hXc ?_); exact rfl)
 refine hdet.out.mono ?_; rintro e w3 ⟨K,us,hK,hu,hb3,hout⟩
 have hX3:=hX.next hb3
 have hM3:=hid (hM2.out.next hb3)
 have hb03:=hid (below_chain hb2.out hb3)
 have hp3:=hid (hp2.out.next hb3)
 clear hdet hXc hX hb3
 rcases hout with ⟨hno,rfl⟩ | ⟨B,jo,di,go,df,so,ns,ds,hB,rfl,hMB⟩
 ·have hbY:Below w3.heap.size w3 (w3.alloc (.cells #[.int .i64 0,.slice none 0 0,.int .i64 0,.int .i64 0,.slice none 0 0,.slice none 0 0,.slice none 0 0] 30)):=below_alloc _
  have hX4:=hX3.next hbY
  have hrd:=hid (rDet_any syms 5 A hVo hA.li hA.lf hLw hA.cs (by decide) io ci fo cf ro nr cr _ (hM3.out.next hbY))
  have hb04:=hid (below_chain hb03.out hbY)
  have hp4:=hid (hp3.out.next hbY)
  have hX4c:=hX4.cs
  have hli:=hA.li
  replace hA:=hid hA
  replace hVo:=hid hVo
  replace hLw:=hid hLw
  clear hX3 hX4 hbY
  go_wp2_with (first | ((with_reducible refine wp_loadAuto rfl _ rfl X 0 ?_ (auC syms A.st (.slice io A.st ci) (.slice fo A.st cf) (.slice ro nr cr)) rfl hX4c ?_); exact rfl) | ((with_reducible refine wp_storeVAuto rfl _ _ rfl _ _ ?_ [.int .i64 0,.slice none 0 0,.int .i64 0,.int .i64 0,.slice none 0 0,.slice none 0 0,.slice none 0 0] ?_ ?_ ?_ zau_1 ?_); exact rfl; exact rfl; exact rfl; exact rfl))
  refine hrd.out.mono ?_; rintro e w5 ⟨K',E,hK',hE,hb5,hout⟩
  have hno2:=det_fails hli hK hK' hu hE hno
  rcases hout with ⟨_,rfl⟩ | ⟨B,v,hB,_⟩
  ·have hbZ:Below w5.heap.size w5 (w5.alloc (.cells #[.int .i64 0,.slice none 0 0,.int .i64 0,.int .i64 0,.slice none 0 0,.slice none 0 0,.slice none 0 0] 30)):=below_alloc _
   have hkn:=hid (known_any _ ((hp4.out.next hb5).next hbZ))
   have hb06:=hid (below_chain (below_chain hb04.out hb5) hbZ)
   clear hrd hX4c hno2 hno hK hK' hu hE hb5 hbZ hli
   go_wp2_with ((with_reducible refine wp_storeVAuto rfl _ _ rfl _ _ ?_ [.int .i64 0,.slice none 0 0,.int .i64 0,.int .i64 0,.slice none 0 0,.slice none 0 0,.slice none 0 0] ?_ ?_ ?_ zau_1 ?_); exact rfl; exact rfl; exact rfl; exact rfl)
   refine hkn.out.mono ?_; rintro e w7 ⟨rfl,hb7⟩
   have hb07:=hid (below_chain hb06.out hb7)
   clear hkn hb7
   go_wp2_with fail
   go_ret
   exact ⟨rfl,hb07.out⟩
  ·rw [hno2] at hB; cases hB
 ·obtain ⟨v1,v2,v3,v4,v5,v6,v7,v8⟩:=det_again hA hK hu hB
  have hbY:Below w3.heap.size w3 (w3.alloc (.cells (auC syms B.st (.slice jo B.st di) (.slice go B.st df) (.slice so ns ds)).toArray 30)):=below_alloc _
  have hY:=Bl.fresh w3 (auC syms B.st (.slice jo B.st di) (.slice go B.st df) (.slice so ns ds)) 30
  have hMB3:=hMB.mo syms
  clear hMB hX3 hVo hLw hK hu hB hM3
  go_upto_region 3 with ((with_reducible refine wp_storeVAuto rfl _ _ rfl _ _ ?_ (auC syms B.st (.slice jo B.st di) (.slice go B.st df) (.slice so ns ds)) ?_ ?_ ?_ (auC_1 _ _ _ _ _ _ _ _ _ _ _) ?_); exact rfl; exact rfl; exact rfl; exact rfl)
  generalize hW4:(w3.alloc (.cells (auC syms B.st (.slice jo B.st di) (.slice go B.st df) (.slice so ns ds)).toArray 30))=w4 at *
  obtain ⟨Y,hYe⟩:∃ Y,w3.heap.size=Y:=⟨_,rfl⟩
  rw [hYe] at hY ⊢
  have hM4:=hid (hMB3.next hbY)
  have hb04:=hid (below_chain hb03.out hbY)
  have hp4:=hid (hp3.out.next hbY)
  clear hW4 hYe hbY hMB3
  have hdet:=hid (det_any syms 330 B v1 v2 v3 v4 v5 v6 (by decide) jo di go df so ns ds w4 hM4.out hp4.out)
  have hYc:=hY.cs
  replace hA:=hid hA
  go_wp2_with ((with_reducible refine wp_loadAuto rfl _ rfl Y 0 ?_ (auC syms B.st (.slice jo B.st di) (.slice go B.st df) (.slice so ns ds)) rfl hYc ?_); exact rfl)
  refine hdet.out.mono ?_; rintro e w5 ⟨K',us',hK',hu',hb5,hout⟩
  have hD:=v8 K' us' hK' hu'
  have hY5:=hY.next hb5
  have hM5:=hid (hM4.out.next hb5)
  have hb05:=hid (below_chain hb04.out hb5)
  have hp5:=hid (hp4.out.next hb5)
  clear hdet hYc hY hb5 v8 hK' hu'
  rcases hout with ⟨hno,_⟩ | ⟨D,ko,ei,lo',ef,mo,mt,dt,hD2,rfl,hMD⟩
  ·rw [hD] at hno; cases hno
  ·rw [hD] at hD2
   obtain rfl:B=D:=Option.some.inj hD2
   have hbZ:Below w5.heap.size w5 (w5.alloc (.cells (auC syms B.st (.slice ko B.st ei) (.slice lo' B.st ef) (.slice mo mt dt)).toArray 30)):=below_alloc _
   have hZ:=Bl.fresh w5 (auC syms B.st (.slice ko B.st ei) (.slice lo' B.st ef) (.slice mo mt dt)) 30
   have hMD5:=hMD.mo syms
   clear hMD hD hD2
   go_upto_region 7 with ((with_reducible refine wp_storeVAuto rfl _ _ rfl _ _ ?_ (auC syms B.st (.slice ko B.st ei) (.slice lo' B.st ef) (.slice mo mt dt)) ?_ ?_ ?_ (auC_1 _ _ _ _ _ _ _ _ _ _ _) ?_); exact rfl; exact rfl; exact rfl; exact rfl)
   generalize hW6:(w5.alloc (.cells (auC syms B.st (.slice ko B.st ei) (.slice lo' B.st ef) (.slice mo mt dt)).toArray 30))=w6 at *
   obtain ⟨Z,hZe⟩:∃ Z,w5.heap.size=Z:=⟨_,rfl⟩
   rw [hZe] at hZ ⊢
   have hY6:=hY5.next hbZ
   have hM6:=hid (hM5.out.next hbZ)
   have hD6:=hid (hMD5.next hbZ)
   have hb06:=hid (below_chain hb05.out hbZ)
   have hkn:=hid (known_any w6 (hp5.out.next hbZ))
   clear hW6 hZe hbZ hMD5 hY5
   go_wp2_with fail
   refine hkn.out.mono ?_; rintro e w7 ⟨rfl,hb7⟩
   obtain ⟨⟨a0,a1,a2,a3⟩,a4,a5,a6⟩:=(hY6.next hb7).seven
   obtain ⟨⟨c0,c1,c2,c3⟩,c4,c5,c6⟩:=(hZ.next hb7).seven
   have hmt:mt=ns:=by
    have h1:=hM6.out.arcs.len
    have h2:=hD6.out.arcs.len
    omega
   subst hmt
   have hsm:=hid (rSame6_any syms B v7 (by have:=hA.out.sym; omega) v1.st jo di go df so mt ds ko ei lo' ef mo dt w7 (hM6.out.next hb7) (hD6.out.next hb7))
   have hb07:=hid (below_chain hb06.out hb7)
   clear hkn hY6 hZ hb7
   go_wp2_with fail
   refine hsm.out.mono ?_; rintro e w8 ⟨rfl,hb8⟩
   have hb08:=hid (below_chain hb07.out hb8)
   clear hsm hb8 a0 a1 a2 a3 a4 a5 a6 c0 c1 c2 c3 c4 c5 c6
   go_wp2_with fail
   go_ret
   exact ⟨rfl,hb08.out⟩
theorem walkTwice (w:World) (hp:Pow w) (kst ksy:Int) (fw sg:Bool) (lo:Option Addr) (n cap:Nat) (zs:List Int) (hL:Sl w lo n cap (zs.map (.int .i64))) (hlo:∀ b o,lo=some ⟨b,o,none⟩→b<w.heap.size) (hn:n≤9223372036854775807) :
  Calls Tryz.prog 3 #[.agg #[.int .i64 kst,.int .i64 ksy,.bool fw,.bool sg,.slice lo n cap]] w fun e w'=>e=.returned (.bool true)∧Below w.heap.size w w':=twice_any kst ksy fw sg lo n cap zs w hL hlo hn hp
end
section
open Go.RowKit Go.ChangeAt
def laidL:List (String×DataW Unit):=Rows.determiniseTwiceRow.laid
set_option maxRecDepth 100000 in
theorem laid_shaped (os:Os):(World.laidAll Tryz.prog os laidL).Shaped Tryz.prog:=World.shaped_of_ZipB (by kernel_rfl) (by kernel_rfl)
set_option maxRecDepth 100000 in
theorem laid_wit (os:Os) (args:Array Value):laidMetH Tryz.prog laidL ((World.laidAll Tryz.prog os laidL).forCall (fun _ _=>0) ⟨#[],args,[]⟩).memory:=by
 rw [MakeChecks.laidMetH_plain _ _ _ (by kernel_rfl)]
 exact laidMet_laidAll _ (by kernel_rfl) (by kernel_rfl)
set_option maxRecDepth 100000 in
theorem pow_of_laid {W:World} (h:laidMetH Tryz.prog laidL W):Pow W:=by
 rw [MakeChecks.laidMetH_plain _ _ _ (by kernel_rfl)] at h
 have h2:=h.tail.tail
 exact Lib.tabIs_of_head (rest:=laidL.tail.tail.tail) (t:=237) (e:=42) (n:=20) pow_glob (by kernel_rfl) Tryz.underlying237 Tryz.underlying42 (by kernel_rfl) (by kernel_rfl) h2
end
section
open Go.ChangeShapes Go.WideShapes Go.RowKit
theorem Sl.ofCells {w:World} {a:Addr} {n cap:Nat} {xs:List Value} (hl:xs.length=n) (hn:n≤cap) (hm:cap≤maxLen) (h:∀ i x,xs[i]? = some x→w.cell? (a.add i)=some x):Sl w (some a) n cap xs:=by
 refine ⟨hl,hn,hm,fun i x hx=>?_⟩
 have h0:∃ y,xs[0]? = some y:=by
  have:i<xs.length:=(List.getElem?_eq_some_iff.1 hx).1
  exact ⟨xs[0],by simp [show 0<xs.length by omega]⟩
 obtain ⟨y,hy⟩:=h0
 have hc:=h 0 y hy
 have hsp:a.spot=none:=by
  cases hs:a.spot with
  | none=>rfl
  | some s =>
   rw [show a.add 0=a by simp [Addr.add]] at hc
   unfold World.cell? at hc
   rw [hs] at hc
   split at hc<;>simp at hc
 obtain ⟨b,off,spot⟩:=a
 simp only at hsp
 subst hsp
 refine ⟨b,off,rfl,?_⟩
 have:=h i x hx
 rwa [Addr.add_lit] at this
section
variable {H:Type} {enc:TypeId×Value→H} {P:Program} {w:World} {base:Nat} {spare:Nat→Bool} {held:Bool}
end
end
section
open Go.ChangeShapes Go.WideShapes Go.RowKit Go.Deep
section
variable {H:Type} {enc:TypeId×Value→H} {P:Program} {w:World} {base:Nat} {spare:Nat→Bool} {held:Bool}
theorem slI64 {t e:TypeId} {fuel:Nat} {cs:List Value} {x:DataW H×List MemPlace} (ht:P.underlying t=some (.slice e)) (he:P.underlying e=some (.int .i64)) (hc:P.cellsOf e=1)
  (h:DataW.trod enc P w base spare held fuel t cs=some x) :
  ∃ (a:Option Addr) (len cap:Nat) (N:List Int),cs=[.slice a len cap]∧Sl w a len cap (N.map (.int .i64)):=by
 rcases open_ints ht he hc h with ⟨hcs,_⟩ | ⟨y,len,cap,zs,hcs,_,hl,hm,hz,_,hcell,_⟩
 ·exact ⟨none,0,0,[],hcs,Sl.nil w⟩
 ·have hle:len≤zs.length:=by rw [hz]; split<;>omega
  refine ⟨some y,len,cap,zs.take len,hcs,Sl.ofCells (by simp; omega) hl hm fun i z hx=>?_⟩
  rw [List.getElem?_map,List.getElem?_take] at hx
  split at hx
  ·have hi:i<zs.length:=by omega
   rw [List.getElem?_eq_getElem hi] at hx
   simp at hx
   subst hx
   rw [hcell i hi]
   simp [List.getD,hi]
  ·cases hx
theorem trod_struct5 {t:TypeId} {f0 f1 f2 f3 f4:Field} {fuel:Nat} {cs:List Value} {x:DataW H×List MemPlace} (ht:P.underlying t=some (.struct #[f0,f1,f2,f3,f4])) (h:DataW.trod enc P w base spare held fuel t cs=some x) :
  ∃ y0 y1 y2 y3 y4 n,cs.length=P.cellsOf t∧DataW.trod enc P w base spare held n f0.type ((cs.drop f0.offset).take (P.cellsOf f0.type))=some y0 ∧
   DataW.trod enc P w base spare held n f1.type ((cs.drop f1.offset).take (P.cellsOf f1.type))=some y1∧DataW.trod enc P w base spare held n f2.type ((cs.drop f2.offset).take (P.cellsOf f2.type))=some y2 ∧
   DataW.trod enc P w base spare held n f3.type ((cs.drop f3.offset).take (P.cellsOf f3.type))=some y3∧DataW.trod enc P w base spare held n f4.type ((cs.drop f4.offset).take (P.cellsOf f4.type))=some y4:=by
 obtain ⟨xs,n,_,rfl,hl,hlen,hf⟩:=DataW.trod_struct ht h
 match xs,hlen with
 | [y0,y1,y2,y3,y4],_=>exact ⟨y0,y1,y2,y3,y4,n,hl,by simpa using hf 0 f0 rfl,by simpa using hf 1 f1 rfl,by simpa using hf 2 f2 rfl,by simpa using hf 3 f3 rfl,by simpa using hf 4 f4 rfl⟩
end
set_option maxRecDepth 100000 in
theorem openPlan {H:Type} {enc:TypeId×Value→H} {w:World} {base:Nat} {spare:Nat→Bool} {held:Bool} {fuel:Nat} {cs:Array Value} {x:DataW H×List MemPlace}
  (h:DataW.trod enc Tryz.prog w base spare held fuel 24 cs.toList=some x) :
  ∃ (kst ksy:Int) (fw sg:Bool) (lo:Option Addr) (n cap:Nat) (zs:List Int),cs=#[.int .i64 kst,.int .i64 ksy,.bool fw,.bool sg,.slice lo n cap]∧Sl w lo n cap (zs.map (.int .i64)):=by
 have c0:Tryz.prog.cellsOf 3=1:=by kernel_rfl
 have c1:Tryz.prog.cellsOf 4=1:=by kernel_rfl
 have c2:Tryz.prog.cellsOf 22=1:=by kernel_rfl
 have c3:Tryz.prog.cellsOf 24=5:=by kernel_rfl
 obtain ⟨y0,y1,y2,y3,y4,n,hl,h0,h1,h2,h3,h4⟩:=trod_struct5 Tryz.underlying24 h
 simp only [c0,c1,c2] at h0 h1 h2 h3 h4
 rw [c3] at hl
 obtain ⟨u,hu⟩:∃ u,cs.toList=u:=⟨_,rfl⟩
 rw [hu] at h0 h1 h2 h3 h4 hl
 match u,hl,hu with
 | [p,q,r,s,t],_,hu =>
  obtain ⟨a,e0,_⟩:=DataW.trod_int Tryz.underlying3 h0
  obtain ⟨b,e1,_⟩:=DataW.trod_int Tryz.underlying3 h1
  obtain ⟨c,e2,_⟩:=DataW.trod_bool Tryz.underlying4 h2
  obtain ⟨d,e3,_⟩:=DataW.trod_bool Tryz.underlying4 h3
  obtain ⟨lo,m,cap,zs,e4,s4⟩:=slI64 Tryz.underlying22 Tryz.underlying3 (by kernel_rfl) h4
  simp at e0 e1 e2 e3 e4
  subst e0 e1 e2 e3 e4
  refine ⟨a,b,c,d,lo,m,cap,zs,?_,s4⟩
  cases cs
  simpa using hu
set_option maxRecDepth 100000 in
theorem slice_lt {W:World} {base:Nat} {a:Addr} {n cap:Nat} (h:Cell.okWide Tryz.prog W .any base 22 (.slice (some a) n cap)):a.block<W.heap.size:=by
 simp only [Cell.okWide,Cell.ok,Tryz.underlying22] at h
 obtain ⟨_,_,_,_,row,cells,hs,_⟩:=h
 unfold World.shape? at hs
 by_cases hb:a.block<W.heap.size
 ·exact hb
 ·rw [Array.getElem?_eq_none (by omega)] at hs
  simp at hs
set_option maxRecDepth 100000 in
theorem plan_lt {W:World} {base:Nat} {kst ksy:Int} {fw sg:Bool} {lo:Option Addr} {n cap:Nat} (h:Value.okWide Tryz.prog W .any base 24 (.agg #[.int .i64 kst,.int .i64 ksy,.bool fw,.bool sg,.slice lo n cap])) :
  ∀ b o,lo=some ⟨b,o,none⟩→b<W.heap.size:=by
 rintro b o rfl
 simp only [Value.okWide,Tryz.underlying24] at h
 obtain ⟨cs,e,_,ts,hts,_,hc⟩:=h
 obtain rfl:=Value.agg.inj e
 have ht:Tryz.prog.cellTypes Tryz.prog.depth 24=some [3,3,4,4,22]:=by kernel_rfl
 rw [ht] at hts
 cases hts
 obtain ⟨u,hu,ho⟩:=hc 4 _ rfl
 simp at hu
 subst hu
 exact slice_lt ho
end
end Go.Proofs.YtnapapijhhldpaaGreatDoor

/-
  Texts joined by program: Tws, Twu. No condition of its own.
-/
import Derived.Test.YtnapapijhhldpaaGreatDoorJcAI
namespace Go.Proofs.YtnapapijhhldpaaGreatDoor
set_option linter.unusedSimpArgs false
set_option linter.unusedVariables false
section
open Go.RowKit
theorem wp_clearF {P:Program} {w:World} {ops:Array Oper} {rest:List Oper} {o:Oper} {a:Act} {Q:Exit→Act→World→Prop} (hgd:o.guard=none) (x:Operand) (t:TypeId)
  (ho:o.op=.call { callee:=.builtin .clear,args:=#[x],argTypes:=#[t] }) (e:TypeId) (z:Value) (k:Nat) (ht:P.underlying t=some (.slice e)) (hv:∀ w,(zeroValue e).run P w=.ok z w) (hz:z.cells.size=k) (h1:∀ u∈z.cells,u.oneCell'=true) (hk:0<k)
  (base g n cap c:Nat) (css:List (List Value)) (hf:FO e k w base (.slice (some ⟨g,0,none⟩) n cap) css) (i off m:Nat) (hi:i<n) (hoff:off=i*k) (hm:m=n-i) (hx:a.eval x=.slice (some ⟨g,off,none⟩) m c)
  (h:∀ w',FO e k w' base (.slice (some ⟨g,0,none⟩) i cap) (css.take i)→Fr (fun k=>k=g) w w'→wpList P ops Q rest (a.put o.dst (.tuple #[])) w'):wpList P ops Q (o::rest) a w:=by
 have hl:css.length=n:=by
  rcases hf.1.2 with ⟨hv,_⟩ | ⟨g',cap',cur,hv,_⟩
  ·cases hv
  ·injection hv with _ h1; exact h1.symm
 obtain ⟨vs,hvl,hr⟩:=run_clearK (P:=P) w t e o.type z k ht hv hz h1 hk g off m c (by omega) (fun j hj=>by
  have hj0:i*k+j<n*k:=by
   have:m*k+i*k=n*k:=by rw [←Nat.add_mul,hm]; congr 1; omega
   omega
  have hq:(i*k+j)/k<n:=(Nat.div_lt_iff_lt_mul hk).2 hj0
  have hc:=hf.cs (i:=(i*k+j)/k) (x:=css[(i*k+j)/k]'(by omega)) (by simp)
  have hlen:(css[(i*k+j)/k]'(by omega)).length=k:=hf.2 _ (List.getElem_mem (by omega))
  have hr:(i*k+j)%k<(css[(i*k+j)/k]'(by omega)).length:=by rw [hlen]; exact Nat.mod_lt _ hk
  have:=hc ((i*k+j)%k) _ (List.getElem?_eq_getElem hr)
  have e0:(i*k+j)/k*k+(i*k+j)%k=i*k+j:=by rw [Nat.mul_comm]; exact Nat.div_add_mod (i*k+j) k
  rw [e0] at this
  rw [hoff,this]; rfl) (fun j _=>hf.free _)
 refine wpList_plain hgd fun K' hK=>?_
 unfold Oper.wp execOp
 simp only [ho,resolve,invoke,builtin,Sem.run_bind,Sem.run_pure,Result.andThen_ok,List.map_toArray,List.map_cons,List.map_nil,hx,hr]
 refine hK _ _ (h _ ?_ (fr_setCells g vs off w))
 rw [hoff]
 exact FO.behind (by rw [List.length_take]; omega) vs (i*k) (hf.front (by omega)) (Nat.le_refl _)
theorem indexT_all (xs:List Ac) (hall:∀ x∈xs,nz x=true) (G:Nat) (ao:Option Addr) (n cap:Nat) (w:World) (h:Fl 11 w ao n cap (xs.map acC)) (hG:Bl G [.int .i64 2,.slice none 0 0] 26 w) :
  Calls Tryz.prog 143 #[.slice ao n cap,.func (.func 172) #[] #[.pointer (some ⟨G,0,none⟩)]] w fun e w'=>e=.returned (.int .i64 (-1))∧Below w.heap.size w w' :=
 (indexT_any xs G ao n cap w h hG).mono fun e w' ⟨⟨r,he,hr⟩,hb⟩=>⟨(by
  rcases hr with ⟨rfl,_⟩ | ⟨i,_,_,_,x,hx,hz⟩
  ·exact he
  ·rw [hall x (List.mem_of_getElem? hx)] at hz
   cases hz),hb⟩
theorem indexT_at (xs:List Ac) (i0:Nat) (x0:Ac) (hpre:∀ x∈xs.take i0,nz x=true) (hx0:xs[i0]? = some x0) (hz0:nz x0=false) (G:Nat) (ao:Option Addr) (n cap:Nat) (w:World) (h:Fl 11 w ao n cap (xs.map acC)) (hG:Bl G [.int .i64 2,.slice none 0 0] 26 w) :
  Calls Tryz.prog 143 #[.slice ao n cap,.func (.func 172) #[] #[.pointer (some ⟨G,0,none⟩)]] w fun e w'=>e=.returned (.int .i64 (i0:Int))∧Below w.heap.size w w' :=
 (indexT_any xs G ao n cap w h hG).mono fun e w' ⟨⟨r,he,hr⟩,hb⟩=>⟨(by
  rcases hr with ⟨rfl,hall⟩ | ⟨i,rfl,hi,hp,x,hx,hz⟩
  ·rw [hall x0 (List.mem_of_getElem? hx0)] at hz0
   cases hz0
  ·obtain rfl:i=i0:=by
    rcases Nat.lt_trichotomy i i0 with hlt | heq | hlt
    ·rw [hpre x (List.mem_of_getElem? (i:=i) (by rw [List.getElem?_take,if_pos hlt]; exact hx))] at hz
     cases hz
    ·exact heq
    ·rw [hp x0 (List.mem_of_getElem? (i:=i0) (by rw [List.getElem?_take,if_pos hlt]; exact hx0))] at hz0
     cases hz0
   exact he),hb⟩
theorem first_no {xs:List Ac}:(∀ x∈xs,nz x=true)∨∃ i x,xs[i]? = some x∧nz x=false∧∀ y∈xs.take i,nz y=true:=by
 induction xs with
 | nil=>exact .inl fun x h=>by cases h
 | cons a r ih =>
  cases ha:nz a with
  | false=>exact .inr ⟨0,a,rfl,ha,fun y h=>by simp at h⟩
  | true =>
   rcases ih with h | ⟨i,x,h1,h2,h3⟩
   ·exact .inl fun x hx=>by
     rcases List.mem_cons.1 hx with rfl | hx
     ·exact ha
     ·exact h x hx
   ·exact .inr ⟨i+1,x,by simpa using h1,h2,fun y hy=>by
     rw [List.take_succ_cons] at hy
     rcases List.mem_cons.1 hy with rfl | hy
     ·exact ha
     ·exact h3 y hy⟩
theorem fo_len' {e:TypeId} {k base g n cap:Nat} {w:World} {xs:List Ac} (h:FO e k w base (.slice (some ⟨g,0,none⟩) n cap) (xs.map acC)):xs.length=n:=by
 rcases h.1.2 with ⟨hv,_⟩ | ⟨g',cap',cur,hv,_⟩
 ·cases hv
 ·injection hv with _ h1; simpa using h1.symm
theorem FO.flS {e:TypeId} {k base g n cap:Nat} {w:World} {xs:List Ac} (h:FO e k w base (.slice (some ⟨g,0,none⟩) n cap) (xs.map acC)):Fl k w (some ⟨g,0,none⟩) n cap (xs.map acC):=by
 obtain ⟨ao,cap',e1,hf,_⟩:=h.fl
 injection e1 with e1 e2 e3
 subst e1 e3
 rw [List.length_map,fo_len' h] at hf
 exact hf
theorem deleteS_all (xs:List Ac) (hall:∀ x∈xs,nz x=true) (base G g n cap:Nat) (w:World) (h:FO 54 11 w base (.slice (some ⟨g,0,none⟩) n cap) (xs.map acC)) (hG:Bl G [.int .i64 2,.slice none 0 0] 26 w) (hbase:base≤w.heap.size) :
  Calls Tryz.prog 171 #[.slice (some ⟨g,0,none⟩) n cap,.func (.func 172) #[] #[.pointer (some ⟨G,0,none⟩)]] w fun e w' =>
   (e=.returned (.slice (some ⟨g,0,none⟩) n cap)∧FO 54 11 w' base (.slice (some ⟨g,0,none⟩) n cap) (xs.map acC))∧Below base w w':=by
 have Hall:=hid hall
 clear hall
 have hf:=hid h.flS
 go_enter Tryz.func171,Tryz.ntmps171
 go_wp2_with fail
 refine (indexT_all xs Hall.out G _ n cap _ hf.out hG).mono ?_; rintro e w1 ⟨rfl,hb1⟩
 have h1:=h.next hb1
 have hb1':Below base w w1:=hb1.mono hbase
 go_wp2_with fail
 go_ret
 exact ⟨⟨rfl,h1⟩,hb1'⟩
theorem Tryz.zeroArc (w:World):(zeroValue 54).run Tryz.prog w=.ok (.agg #[.int .i64 0,.int .i64 0,.int .i64 0,.bool false,.slice none 0 0,.slice none 0 0,.int .i64 0,.bool false,.int .u64 0,.slice none 0 0,.slice none 0 0]) w:=by kernel_rfl
theorem wp_clearArc {w:World} {ops:Array Oper} {rest:List Oper} {o:Oper} {a:Act} {Q:Exit→Act→World→Prop} (hgd:o.guard=none) (x:Operand)
  (ho:o.op=.call { callee:=.builtin .clear,args:=#[x],argTypes:=#[28] }) (base g n cap c:Nat) (xs:List Ac) (hf:FO 54 11 w base (.slice (some ⟨g,0,none⟩) n cap) (xs.map acC)) (i:Nat) (hi:i<n) (hx:a.eval x=.slice (some ⟨g,i*11,none⟩) (n-i) c)
  (h:∀ w',FO 54 11 w' base (.slice (some ⟨g,0,none⟩) i cap) ((xs.take i).map acC)→Fr (fun k=>k=g) w w'→wpList Tryz.prog ops Q rest (a.put o.dst (.tuple #[])) w'):wpList Tryz.prog ops Q (o::rest) a w :=
 wp_clearF hgd x _ ho _ _ 11 Tryz.underlying28 Tryz.zeroArc rfl (fun u hu=>acC_1 (0,0,0,some 0) u (Array.mem_toList_iff.2 hu)) (by decide) base g n cap c _ hf i (i*11) (n-i) hi rfl rfl hx fun w' h1 h2=>h w' (by rw [List.map_take]; exact h1) h2
set_option maxRecDepth 100000 in
set_option maxHeartbeats 2000000 in
theorem deleteS_some (xs:List Ac) (i0:Nat) (x00:Ac) (hpre:∀ x∈xs.take i0,nz x=true) (hx0:xs[i0]? = some x00) (hz0:nz x00=false) (base G g n cap:Nat) (w:World) (h:FO 54 11 w base (.slice (some ⟨g,0,none⟩) n cap) (xs.map acC)) (hG:Bl G [.int .i64 2,.slice none 0 0] 26 w) (hGb:G<base) (hbase:base≤w.heap.size) (hn:n≤4096) :
  Calls Tryz.prog 171 #[.slice (some ⟨g,0,none⟩) n cap,.func (.func 172) #[] #[.pointer (some ⟨G,0,none⟩)]] w fun e w' =>
   (∃ m,e=.returned (.slice (some ⟨g,0,none⟩) m cap)∧FO 54 11 w' base (.slice (some ⟨g,0,none⟩) m cap) ((xs.filter nz).map acC))∧Below base w w':=by
 have hlx:Hid (xs.length=n):=hid (fo_len' h)
 have hgb:=(h.lt rfl).1
 have hi0:i0<n:=by have:=(List.getElem?_eq_some_iff.1 hx0).1; have:=hlx.out; omega
 have hat:Hid (xs.take (i0)=(xs.take (i0+1)).filter nz):=hid (by
  rw [List.take_succ_eq_append_getElem (List.getElem?_eq_some_iff.1 hx0).1,List.filter_append,List.filter_eq_self.2 hpre,(List.getElem?_eq_some_iff.1 hx0).2]
  simp [hz0])
 have Hpre:=hid hpre
 have Hx0:=hid hx0
 have hf:=hid h.flS
 have c1:((i0:Int) == -1)=false:=by rw [beq_eq_false_iff_ne]; omega
 have c2:¬ ((i0:Int) = -1):=by omega
 clear hpre hx0
 go_enter Tryz.func171,Tryz.ntmps171
 go_wp2_with fail
 refine (indexT_at xs i0 x00 Hpre.out Hx0.out hz0 G _ n cap _ hf.out hG).mono ?_; rintro e w1 ⟨rfl,hb1⟩
 have h1:=h.next hb1
 have hb1':Below base w w1:=hb1.mono hbase
 clear hf h
 go_wp2_with fail
 go_loopw [5,6] (fun iv jv wr=>∃ (i j:Nat) (C:List Ac),i<j∧j≤n∧iv=.int .i64 i∧jv=.int .i64 j∧FO 54 11 wr base (.slice (some ⟨g,0,none⟩) n cap) (C.map acC)∧Hid (C.take i=(xs.take j).filter nz)∧Hid (C.drop j=xs.drop j)∧Below base w wr) (fun _ j _=>n-(intOf j).toNat)
 case atStart=>exact ⟨i0,i0+1,xs,by omega,by omega,by go_num,by go_num,h1,hat,hid rfl,hb1'⟩
 case round =>
  obtain ⟨i,j,C,hij,hj,rfl,rfl,hC,ht,hd,hb⟩:=hrel
  have hCn:=hid (fo_len' hC)
  have hGr:=hG.under hb hGb
  by_cases hlt:j<n
  ·have hjC:j<C.length:=by rw [hCn.out]; exact hlt
   obtain ⟨x,hx⟩:∃ x,C[j]? = some x:=⟨_,List.getElem?_eq_getElem hjC⟩
   have hxx:Hid (xs[j]? = some x):=hid (by
    have:=congrArg (fun l=>l[0]?) hd.out
    simp only [List.getElem?_drop,Nat.add_zero] at this
    rw [←this]; exact hx)
   have gx:Cs wr g (j*11) (acC x):=hC.cs (by rw [List.getElem?_map,hx]; rfl)
   have hxj:Hid ((xs.take (j+1)).filter nz=(xs.take j).filter nz++[x].filter nz):=hid (by
    rw [List.take_succ_eq_append_getElem (List.getElem?_eq_some_iff.1 hxx.out).1,List.filter_append,(List.getElem?_eq_some_iff.1 hxx.out).2])
   have hdj:Hid (C.drop (j+1)=xs.drop (j+1)):=hid (by
    have:=congrArg (List.drop 1) hd.out
    simpa [List.drop_drop] using this)
   have Hx:=hid hx
   clear hx hxx
   obtain ⟨q,hq⟩:∃ q,decide (wt x=none)=q:=⟨_,rfl⟩
   have htd:=hid (fun W h=>tidy1_any x G W h)
   rw [hq] at htd
   have Hq:=hid hq
   clear hq
   have hlC:i<(C.map acC).length:=by rw [List.length_map]; omega
   go_wp2_with (first | ((with_reducible refine wp_loadArc rfl _ rfl g (j*11) ?_ x gx ?_); exact rfl) | ((with_reducible refine wp_storeVArc rfl _ _ rfl _ _ ?_ x ?_ ?_ ?_); exact rfl; exact rfl; exact rfl))
   have hbA:Below wr.heap.size wr (wr.alloc (.cells (acC x).toArray 54)):=below_alloc _
   have hA:=Bl.fresh wr (acC x) 54
   have hC1:=hC.next hbA
   have hG1:=hGr.next hbA
   have hb2:=hb.trans (hbA.mono (Nat.le_trans hbase hb.size))
   have hAb:base≤wr.heap.size:=Nat.le_trans hbase hb.size
   have hgA:g<wr.heap.size:=(hC.lt rfl).2
   generalize hW1:wr.alloc (.cells (acC x).toArray 54)=W1 at *
   generalize hGA:wr.heap.size=GA at *
   clear hW1 gx
   refine (htd.out _ hG1).mono ?_; rintro e w3 ⟨rfl,hb3⟩
   have hC2:=hC1.next hb3
   have hA2:=(hA.next hb3).cs
   have hb4:=hb2.trans (hb3.mono (Nat.le_trans hbase hb2.size))
   clear hC1 hA hG1 hC
   cases q with
   | true =>
    go_wp2_with fail
    go_roundw
    case rel=>exact ⟨i,j+1,C,by omega,by omega,by go_num,by go_num,hC2,hid (by
     rw [hxj.out,ht.out]
     have:nz x=false:=by
      cases hz:nz x with
      | false=>rfl
      | true=>exact absurd (of_decide_eq_true Hq.out) (nz_none.1 hz)
     simp [this]),hdj,hb4⟩
    case measure=>simp [intOf]; omega
   | false =>
    have i1:(i:Int)<(n:Int):=by omega
    have i2:(0:Int)≤(i:Int):=by omega
    have hlC2:i<C.length:=by omega
    go_wp2_with (first | ((with_reducible refine wp_loadArc rfl _ rfl GA 0 ?_ x hA2 ?_); exact rfl) | ((with_reducible refine wp_storeFArc rfl _ _ rfl base g n cap C hC2 i (i*11) hlC2 rfl ?_ x ?_ ?_); exact rfl; exact rfl; intro w5 hC5 hfr5))
    have hb5:Below base w w5:=hb4.trans (hfr5.below (fun k hk=>by omega) (Nat.le_trans hbase hb4.size))
    go_roundw
    case rel=>exact ⟨i+1,j+1,C.set i x,by omega,by omega,by go_num,by go_num,hC5,hid (by
     have hz:nz x=true:=nz_none.2 (of_decide_eq_false Hq.out)
     rw [hxj.out,←ht.out,List.take_succ_eq_append_getElem (by rw [List.length_set]; omega),List.take_set_of_le (Nat.le_refl i)]
     simp [hz]),hid (by rw [List.drop_set_of_lt (by omega)]; exact hdj.out),hb5⟩
    case measure=>simp [intOf]; omega
  ·obtain rfl:j=n:=by omega
   have i0':(i:Int)≤(j:Int):=by omega
   have hcx:Hid (C.take i=xs.filter nz):=hid (by rw [ht.out,List.take_of_length_le (by rw [hlx.out]; omega)])
   have hcap:j≤cap:=hC.flS.le
   have hgA:base≤wr.heap.size:=Nat.le_trans hbase hb.size
   go_wp2_with ((with_reducible refine wp_clearArc rfl _ rfl base g j cap (cap-i) C hC i hij ?_ ?_); exact rfl; intro w5 hC5 hfr5)
   go_ret
   exact ⟨⟨i,rfl,by rw [←hcx.out]; exact hC5⟩,hb.trans (hfr5.below (fun k hk=>by omega) hgA)⟩
theorem deleteT_any (xs:List Ac) (base G n cap:Nat) (ao:Option Addr) (w:World) (h:FO 54 11 w base (.slice ao n cap) (xs.map acC)) (hG:Bl G [.int .i64 2,.slice none 0 0] 26 w) (hGb:G<base) (hbase:base≤w.heap.size) (hn:n≤4096) :
  Calls Tryz.prog 171 #[.slice ao n cap,.func (.func 172) #[] #[.pointer (some ⟨G,0,none⟩)]] w fun e w' =>
   (∃ ao' m cap',e=.returned (.slice ao' m cap')∧FO 54 11 w' base (.slice ao' m cap') ((xs.filter nz).map acC))∧Below base w w':=by
 rcases h.1.2 with ⟨hv,h0⟩ | ⟨g,cap',cur,hv,_⟩
 ·injection hv with e1 e2 e3
  subst e1 e2 e3
  have hx:xs=[]:=List.eq_nil_of_length_eq_zero (by simpa using h0)
  subst hx
  go_enter Tryz.func171,Tryz.ntmps171
  go_wp2_with fail
  refine (indexT_all [] (fun x hx=>by cases hx) G none 0 0 _ (Fl.none_ 11 w) hG).mono ?_; rintro e w1 ⟨rfl,hb1⟩
  go_wp2_with fail
  go_ret
  exact ⟨⟨_,_,_,rfl,FO.nil _ _ _ _⟩,hb1.mono hbase⟩
 ·injection hv with e1 e2 e3
  subst e1 e3
  rcases first_no (xs:=xs) with hall | ⟨i0,x0,hx0,hz0,hpre⟩
  ·exact (deleteS_all xs hall base G g n cap w h hG hbase).mono fun e w' ⟨⟨h1,h2⟩,h3⟩=>⟨⟨_,_,_,h1,by rw [List.filter_eq_self.2 hall]; exact h2⟩,h3⟩
  ·exact (deleteS_some xs i0 x0 hpre hx0 hz0 base G g n cap w h hG hGb hbase hn).mono fun e w' ⟨⟨m,h1,h2⟩,h3⟩=>⟨⟨_,_,_,h1,h2⟩,h3⟩
end
section
open Go.RowKit
theorem insI_any (g n cap base:Nat) (xs:List Ac) (hu:UpA xs) (hn:n≤4096) (a b:Nat) (A B:Int) (hA:(a:Int)=A) (hB:(b:Int)=B) (hab:a≤b) (hbn:b≤n) (w:World) (h:FO 54 11 w base (.slice (some ⟨g,0,none⟩) n cap) (xs.map acC)) (hbase:base≤w.heap.size) :
  Calls Tryz.prog 293 #[.slice (some ⟨g,0,none⟩) n cap,.int .i64 A,.int .i64 B,.func (.func 170) #[] #[]] w fun e w'=>e=.returned (.tuple #[])∧FO 54 11 w' base (.slice (some ⟨g,0,none⟩) n cap) (xs.map acC)∧Below base w w':=by
 subst hA hB
 exact (insertS_any base g n cap a b xs w h hn hab hbn hu).mono fun e w' ⟨h1,h2⟩=>⟨h1,h.next h2,h2.mono hbase⟩
theorem symI_any (g n cap base:Nat) (xs:List Ac) (hu:UpA xs) (hn:n≤4096) (a m b:Nat) (A M B:Int) (hA:(a:Int)=A) (hM:(m:Int)=M) (hB:(b:Int)=B) (h1:a<m) (h2:m<b) (hbn:b≤n) (w:World) (h:FO 54 11 w base (.slice (some ⟨g,0,none⟩) n cap) (xs.map acC)) (hbase:base≤w.heap.size) :
  Calls Tryz.prog 294 #[.slice (some ⟨g,0,none⟩) n cap,.int .i64 A,.int .i64 M,.int .i64 B,.func (.func 170) #[] #[]] w fun e w'=>e=.returned (.tuple #[])∧FO 54 11 w' base (.slice (some ⟨g,0,none⟩) n cap) (xs.map acC)∧Below base w w':=by
 subst hA hM hB
 exact (symS_any xs hu g n cap hn _ a m b (Nat.le_refl _) h1 h2 hbn w h.flS).mono fun e w' ⟨h1,h2⟩=>⟨h1,h.next h2,h2.mono hbase⟩
set_option maxRecDepth 100000 in
set_option maxHeartbeats 2000000 in
theorem stableS_any (base g n cap:Nat) (xs:List Ac) (hu:UpA xs) (hn:n≤4096) (w:World) (hbase:base≤w.heap.size) (h:FO 54 11 w base (.slice (some ⟨g,0,none⟩) n cap) (xs.map acC)) :
  Calls Tryz.prog 244 #[.slice (some ⟨g,0,none⟩) n cap,.int .i64 (n:Int),.func (.func 170) #[] #[]] w fun e w'=>e=.returned (.tuple #[])∧FO 54 11 w' base (.slice (some ⟨g,0,none⟩) n cap) (xs.map acC)∧Below base w w':=by
 have hins:=hid (insI_any g n cap base xs hu hn)
 have hsym:=hid (symI_any g n cap base xs hu hn)
 have hu:=hid hu
 have hh:=hid h
 clear h
 go_enter Tryz.func244,Tryz.ntmps244
 go_wp2_with fail
 go_loopw [7,8] (fun av bv wr=>(∃ a:Nat,a≤n∧av=.int .i64 (a:Int)∧bv=.int .i64 ((a:Int)+20))∧Hid (FO 54 11 wr base (.slice (some ⟨g,0,none⟩) n cap) (xs.map acC))∧Below base w wr) (fun av _ _=>n-(intOf av).toNat)
 case atStart=>exact ⟨⟨0,by omega,rfl,rfl⟩,hh,Below.refl _ _⟩
 case round =>
  obtain ⟨⟨a,ha,rfl,rfl⟩,hf,hb⟩:=hrel
  by_cases hlt:a+20≤n
  ·have k1:(a:Int)+20≤(n:Int):=by omega
   go_wp2_with fail
   refine (hins.out a (a+20) _ _ rfl (by omega) (by omega) hlt _ hf.out (Nat.le_trans hbase hb.size)).mono ?_; rintro e w1 ⟨rfl,hf1,hb1⟩
   have hf1:=hid hf1
   go_wp2_with fail
   go_roundw
   case rel=>exact ⟨⟨a+20,by omega,by go_num,by go_num⟩,hf1,hb.trans hb1⟩
   case measure=>simp [intOf]; omega
  ·have k1:¬ (a:Int)+20≤(n:Int):=by omega
   go_wp2_with fail
   refine (hins.out a n _ _ rfl rfl ha (Nat.le_refl _) _ hf.out (Nat.le_trans hbase hb.size)).mono ?_; rintro e w1 ⟨rfl,hf1,hb1⟩
   have hf1:=hid hf1
   have hb1:=hb.trans hb1
   clear hf hb
   go_wp2_with fail
   go_loopw [6] (fun sv wr=>(∃ s:Nat,20≤s∧s≤8192∧sv=.int .i64 (s:Int))∧Hid (FO 54 11 wr base (.slice (some ⟨g,0,none⟩) n cap) (xs.map acC))∧Below base w wr) (fun sv _=>n-(intOf sv).toNat)
   case atStart=>exact ⟨⟨20,by omega,by omega,rfl⟩,hf1,hb1⟩
   case round =>
    obtain ⟨⟨s,hs1,hs2,rfl⟩,hf,hb⟩:=hrel
    by_cases hlt2:s<n
    ·have k2:(s:Int)<(n:Int):=by omega
     obtain ⟨wo,rfl⟩:∃ wo:World,wo=wr:=⟨_,rfl⟩
     go_wp2_with fail
     go_loopw [7,8] (fun av bv wr=>(∃ a:Nat,a≤n∧av=.int .i64 (a:Int)∧bv=.int .i64 ((a:Int)+2*(s:Int)))∧Hid (FO 54 11 wr base (.slice (some ⟨g,0,none⟩) n cap) (xs.map acC))∧Below base w wr) (fun av _ _=>n-(intOf av).toNat)
     case atStart=>exact ⟨⟨0,by omega,rfl,by first | rfl | exact congrArg (Value.int .i64) (by omega)⟩,hf,hb⟩
     case round =>
      obtain ⟨⟨a',ha',rfl,rfl⟩,hf,hb⟩:=hrel
      by_cases hlt3:a'+2*s≤n
      ·have k3:(a':Int)+2*(s:Int)≤(n:Int):=by omega
       go_wp2_with fail
       refine (hsym.out a' (a'+s) (a'+2*s) _ _ _ rfl (by omega) (by omega) (by omega) (by omega) hlt3 _ hf.out (Nat.le_trans hbase hb.size)).mono ?_; rintro e w1 ⟨rfl,hf1,hb1⟩
       have hf1:=hid hf1
       go_wp2_with fail
       go_roundw
       case rel=>exact ⟨⟨a'+2*s,by omega,by first | go_num | exact congrArg (Value.int .i64) (by omega),by first | go_num | exact congrArg (Value.int .i64) (by omega)⟩,hf1,hb.trans hb1⟩
       case measure=>simp [intOf]; omega
      ·have k3:¬ (a':Int)+2*(s:Int)≤(n:Int):=by omega
       by_cases hlt4:a'+s<n
       ·have k4:(a':Int)+(s:Int)<(n:Int):=by omega
        go_wp2_with fail
        refine (hsym.out a' (a'+s) n _ _ _ rfl (by omega) rfl (by omega) hlt4 (Nat.le_refl _) _ hf.out (Nat.le_trans hbase hb.size)).mono ?_; rintro e w1 ⟨rfl,hf1,hb1⟩
        have hf1:=hid hf1
        go_wp2_with fail
        go_roundw
        case rel=>exact ⟨⟨s*2,by omega,by omega,by first | go_num | exact congrArg (Value.int .i64) (by omega)⟩,hf1,hb.trans hb1⟩
        case measure=>simp [intOf]; omega
       ·have k4:¬ (a':Int)+(s:Int)<(n:Int):=by omega
        go_wp2_with fail
        go_roundw
        case rel=>exact ⟨⟨s*2,by omega,by omega,by first | go_num | exact congrArg (Value.int .i64) (by omega)⟩,hf,hb⟩
        case measure=>simp [intOf]; omega
    ·have k2:¬ (s:Int)<(n:Int):=by omega
     go_wp2_with fail
     go_end0
     exact ⟨rfl,hf.out,hb⟩
theorem sortS_any (base g n cap:Nat) (xs:List Ac) (hu:UpA xs) (hn:n≤4096) (w:World) (hbase:base≤w.heap.size) (h:FO 54 11 w base (.slice (some ⟨g,0,none⟩) n cap) (xs.map acC)) :
  Calls Tryz.prog 169 #[.slice (some ⟨g,0,none⟩) n cap,.func (.func 170) #[] #[]] w fun e w'=>e=.returned (.tuple #[])∧FO 54 11 w' base (.slice (some ⟨g,0,none⟩) n cap) (xs.map acC)∧Below base w w':=by
 have hst:=hid (stableS_any base g n cap xs hu hn w hbase h)
 have hu:=hid hu
 clear h
 go_enter Tryz.func169,Tryz.ntmps169
 go_wp2_with fail
 refine hst.out.mono ?_; rintro e w1 ⟨rfl,h1,h4⟩
 go_wp2_with fail
 go_end0
 exact ⟨rfl,h1,h4⟩
theorem sortT_any (base:Nat) (v:Value) (xs:List Ac) (hx:xs.length<20∨UpA xs) (hn:xs.length≤4096) (w:World) (hbase:base≤w.heap.size) (h:FO 54 11 w base v (xs.map acC)) :
  Calls Tryz.prog 169 #[v,.func (.func 170) #[] #[]] w fun e w'=>e=.returned (.tuple #[]) ∧
   ∃ L,FO 54 11 w' base v (L.map acC)∧L.Perm xs∧UpA L∧Below base w w':=by
 by_cases hl:xs.length<20
 ·exact sortStable_any base v xs w h hl
 ·have hu:UpA xs:=hx.resolve_left hl
  rcases h.1.2 with ⟨hv,h0⟩ | ⟨g,cap',cur,hv,_⟩
  ·rw [List.length_map] at h0; omega
  ·subst hv
   rw [List.length_map] at h ⊢
   exact (sortS_any base g _ cap' xs hu hn w hbase h).mono fun e w' ⟨h1,h2,h3⟩=>⟨h1,xs,h2,List.Perm.refl _,hu,h3⟩
end
end Go.Proofs.YtnapapijhhldpaaGreatDoor

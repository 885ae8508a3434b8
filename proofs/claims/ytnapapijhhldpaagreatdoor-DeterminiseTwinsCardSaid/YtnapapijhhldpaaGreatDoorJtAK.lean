/-
  Texts joined by program: Tww, Rw. No condition of its own.
-/
import Derived.Test.YtnapapijhhldpaaGreatDoorJtAJ
namespace Go.Proofs.YtnapapijhhldpaaGreatDoor
set_option linter.unusedSimpArgs false
set_option linter.unusedVariables false
set_option maxRecDepth 100000
set_option maxHeartbeats 4000000
section
open Go.RowKit
theorem exec_load1 {P:Program} {dst:Option Tmp} {ty' ty:TypeId} {pos:String} {after:Array Edge} {guard:Option (Nat×Bool)} {x:Operand} {a:Act} {w:World}
  (b off:Nat) (hx:a.eval x=.pointer (some ⟨b,off,none⟩)) (v:Value) (hc:w.cell? ⟨b,off,none⟩=some v) (d:TypeDesc) (hu:P.underlying ty=some d) (hd:(match d with | .struct _ | .array _ _=>false | _=>true)=true) :
  (execOp a.eval ⟨dst,.load ty x,ty',pos,after,guard⟩).run P w=.ok (.value v) w:=by
 have hagg:(isAgg ty).run P w=.ok false w:=by
  unfold isAgg
  rw [Sem.run_bind,run_underlying hu w]
  cases d<;>simp_all
 unfold execOp
 simp [hx,Instr.loadAt,Instr.sureAddr,Sem.run_bind,loadVar,hagg,hc]
theorem results_cellC {P:Program} {fn:Func} {p q:Tmp} {ty:TypeId} (h:fn.results=#[.cell p ty,.tmp q]) (tmps:Array Value) (w:World) (g:Nat) (cs:List Value) (d:TypeDesc)
  (hp:tmps.getD p undef=.pointer (some ⟨g,0,none⟩)) (hc:Cs w g 0 cs)
  (hu:P.underlying ty=some d) (hd:(match d with | .struct _ | .array _ _=>true | _=>false)=true) (hi:(P.info? ty).map (·.size)=some cs.length) :
  (results fn tmps).run P w=.ok (.tuple #[.agg cs.toArray,tmps.getD q undef]) w:=by
 have hp':tmps[p]?.getD undef=.pointer (some ⟨g,0,none⟩):=by simpa using hp
 simp [results,h,hp',asAddr,run_loadC w ty g 0 cs d hc hu hd hi]
theorem Tryz.sizeAuto:(Tryz.prog.info? 30).map (·.size)=some 7:=by kernel_rfl
theorem Tryz.sizeView:(Tryz.prog.info? 63).map (·.size)=some 8:=by kernel_rfl
theorem fl_of {e:TypeId} {k base n cap:Nat} {ao:OA} {w:World} {css:List (List Value)} (h:FO e k w base (.slice ao n cap) css) (hn:css.length=n):Fl k w ao n cap css:=by
 obtain ⟨ao',cap',e1,hf,_⟩:=h.fl
 injection e1 with e1 e2 e3
 subst e1 e3
 rw [hn] at hf
 exact hf
structure MoF (w:World) (base:Nat) (A:Au) (io:OA) (ci:Nat) (fo:OA) (cf:Nat) (ro:OA) (nr cr:Nat):Prop where
 ini:FO 45 8 w base (.slice io A.st ci) (A.ini.map twC)
 fin:FO 45 8 w base (.slice fo A.st cf) (A.fin.map twC)
 arcs:FO 54 11 w base (.slice ro nr cr) (A.arcs.map acC)
theorem fo_n {e:TypeId} {k base m cap:Nat} {ao:OA} {w:World} {css:List (List Value)} (h:FO e k w base (.slice ao m cap) css):css.length=m:=by
 obtain ⟨ao',cap',hv⟩:=h.form
 injection hv with _ h1; exact h1.symm
section
variable {w w':World} {base:Nat} {A:Au} {io fo ro:OA} {ci cf nr cr:Nat}
theorem MoF.mo (h:MoF w base A io ci fo cf ro nr cr) (syms:Nat):Mo w syms A io ci fo cf ro nr cr:=⟨fl_of h.ini (fo_n h.ini),fl_of h.fin (fo_n h.fin),fl_of h.arcs (fo_n h.arcs)⟩
theorem MoF.next (h:MoF w base A io ci fo cf ro nr cr) (hb:Below w.heap.size w w'):MoF w' base A io ci fo cf ro nr cr:=⟨h.ini.next hb,h.fin.next hb,h.arcs.next hb⟩
theorem MoF.mono {base':Nat} (h:MoF w base A io ci fo cf ro nr cr) (hb:base'<=base):MoF w base' A io ci fo cf ro nr cr:=⟨h.ini.mono hb,h.fin.mono hb,h.arcs.mono hb⟩
theorem FO.frH {e:TypeId} {k H:Nat} {v:Value} {css:List (List Value)} (h:FO e k w base v css) (hf:Fr (fun k=>k=H) w w') (hH:H<base):FO e k w' base v css :=
 h.same fun g hg=>hf.block g (h.lt hg).2 (fun e=>by have:=(h.lt hg).1; omega)
theorem MoF.fr {H:Nat} (h:MoF w base A io ci fo cf ro nr cr) (hf:Fr (fun k=>k=H) w w') (hH:H<base):MoF w' base A io ci fo cf ro nr cr:=⟨h.ini.frH hf hH,h.fin.frH hf hH,h.arcs.frH hf hH⟩
end
abbrev auC (syms st:Nat) (iv fv rv:Value):List Value:=[.int .i64 2,.slice none 0 0,.int .i64 (syms:Int),.int .i64 (st:Int),iv,fv,rv]
theorem auC_1 (syms st:Nat) (a1 a2 a3:OA) (n1 n2 n3 c1 c2 c3:Nat):∀ u∈auC syms st (.slice a1 n1 c1) (.slice a2 n2 c2) (.slice a3 n3 c3),u.oneCell'=true:=fun u hu=>by
 simp at hu
 rcases hu with rfl | rfl | rfl | rfl | rfl | rfl | rfl<;>rfl
theorem normal_any (syms:Nat) (A:Au) (hV:Vo syms A) (hs:A.arcs.length<20\/UpA A.arcs) (hli:A.ini.length=A.st) (hlf:A.fin.length=A.st) (io:OA) (ci:Nat) (fo:OA) (cf:Nat) (ro:OA) (nr cr:Nat) (w:World) (h:Mo w syms A io ci fo cf ro nr cr) :
  Calls Tryz.prog 89 #[.agg (auC syms A.st (.slice io A.st ci) (.slice fo A.st cf) (.slice ro nr cr)).toArray] w fun e w' =>
   (∃ io' ci' fo' cf' ro' nr' cr' C,e=.returned (.tuple #[.agg (auC syms A.st (.slice io' A.st ci') (.slice fo' A.st cf') (.slice ro' nr' cr')).toArray,.int .i64 0])/\MoF w' w.heap.size ⟨A.st,A.ini,A.fin,C.filter nz⟩ io' ci' fo' cf' ro' nr' cr'/\Nf C A.arcs)/\Below w.heap.size w w':=by
 have hli:=hid hli
 have hlf:=hid hlf
 have hb0:Below w.heap.size w ((w.alloc (.cells (auC syms A.st (.slice io A.st ci) (.slice fo A.st cf) (.slice ro nr cr)).toArray 30)).alloc (.cells #[.int .i64 0,.slice none 0 0,.int .i64 0,.int .i64 0,.slice none 0 0,.slice none 0 0,.slice none 0 0] 30)):=below_chain (below_alloc _) (below_alloc _)
 have hG:=(Bl.fresh w (auC syms A.st (.slice io A.st ci) (.slice fo A.st cf) (.slice ro nr cr)) 30).new (.cells #[.int .i64 0,.slice none 0 0,.int .i64 0,.int .i64 0,.slice none 0 0,.slice none 0 0,.slice none 0 0] 30)
 have hR:=Bl.fresh' (G:=w.heap.size+1) (w.alloc (.cells (auC syms A.st (.slice io A.st ci) (.slice fo A.st cf) (.slice ro nr cr)).toArray 30)) [.int .i64 0,.slice none 0 0,.int .i64 0,.int .i64 0,.slice none 0 0,.slice none 0 0,.slice none 0 0] 30 (by simp)
 have hm:=hid (h.next hb0)
 clear h
 go_enter Tryz.func89,Tryz.ntmps89
 go_upto_region 1 with fail
 generalize hW0:((w.alloc (.cells (auC syms A.st (.slice io A.st ci) (.slice fo A.st cf) (.slice ro nr cr)).toArray 30)).alloc (.cells #[.int .i64 0,.slice none 0 0,.int .i64 0,.int .i64 0,.slice none 0 0,.slice none 0 0,.slice none 0 0] 30))=W0 at *
 generalize hGw:w.heap.size=G at *
 obtain ⟨⟨x0,x1,x2,x3⟩,x4,x5,x6⟩:=hG.seven
 have hW0:=hid hW0
 go_wp2_with fail
 refine (valid_any syms A hV io ci fo cf ro nr cr _ hm.out).mono ?_; rintro e w1 ⟨rfl,hb1⟩
 replace hG:=hG.next hb1
 replace hR:=hR.next hb1
 replace hb0:=hb0.trans (hb1.mono (by rw [<-hGw]; exact hb0.size))
 have hmo:=hid (hm.out.next hb1)
 clear hb1 x0 x1 x2 x3 x4 x5 x6 hm
 go_upto_region 3 with fail
 have hb1:=(Below.refl w1.heap.size w1).drew
 replace hR:=hR.next hb1
 have hS:Cs w1.drew G 0 (auC syms A.st (.slice io A.st ci) (.slice fo A.st cf) (.slice ro nr cr)):=(hG.next hb1).cs
 clear hG
 refine wp_region_D (fun w'=>Cs w' G 0 (auC syms A.st (.slice io A.st ci) (.slice fo A.st cf) (.slice ro nr cr))) [23,24] (by kernel_rfl) ?_
 refine tkCp 0 rfl hS ?_
 refine tkCl 1 (v:=?_) rfl ?_ hS ?_
 rotate_left
 ·intro w hw; obtain hw:=hw; refine exec_loadRing G 0 ?_ (hw.part 0 rgC (fun i v hi=>by match i,hi with | 0,h=>exact h | 1,h=>exact h)); go_simp
 refine tkCp 3 rfl hS ?_
 refine tkCl 4 (v:=?_) rfl ?_ hS ?_
 rotate_left
 ·intro w hw; obtain hw:=hw; refine exec_load1 G 2 ?_ (.int .i64 (syms:Int)) (hw 2 _ rfl) _ Tryz.underlying3 (by rfl); go_simp
 refine tkCp 5 rfl hS ?_
 refine tkCl 6 (v:=?_) rfl ?_ hS ?_
 rotate_left
 ·intro w hw; obtain hw:=hw; refine exec_load1 G 3 ?_ (.int .i64 (A.st:Int)) (hw 3 _ rfl) _ Tryz.underlying3 (by rfl); go_simp
 refine tkCp 7 rfl hS ?_
 refine tkCl 8 (v:=?_) rfl ?_ hS ?_
 rotate_left
 ·intro w hw; obtain hw:=hw; refine exec_loadRing G 0 ?_ (hw.part 0 rgC (fun i v hi=>by match i,hi with | 0,h=>exact h | 1,h=>exact h)); go_simp
 refine tkCp 9 rfl hS ?_
 refine tkCl 10 (v:=?_) rfl ?_ hS ?_
 rotate_left
 ·intro w hw; obtain hw:=hw; refine exec_load1 G 4 ?_ (.slice io A.st ci) (hw 4 _ rfl) _ Tryz.underlying27 (by rfl); go_simp
 refine tkCp 12 rfl hS ?_
 refine tkCl 13 (v:=?_) rfl ?_ hS ?_
 rotate_left
 ·intro w hw; obtain hw:=hw; refine exec_loadRing G 0 ?_ (hw.part 0 rgC (fun i v hi=>by match i,hi with | 0,h=>exact h | 1,h=>exact h)); go_simp
 refine tkCp 14 rfl hS ?_
 refine tkCl 15 (v:=?_) rfl ?_ hS ?_
 rotate_left
 ·intro w hw; obtain hw:=hw; refine exec_load1 G 5 ?_ (.slice fo A.st cf) (hw 5 _ rfl) _ Tryz.underlying27 (by rfl); go_simp
 refine tkCp 17 rfl hS ?_
 refine tkCl 18 (v:=?_) rfl ?_ hS ?_
 rotate_left
 ·intro w hw; obtain hw:=hw; refine exec_loadRing G 0 ?_ (hw.part 0 rgC (fun i v hi=>by match i,hi with | 0,h=>exact h | 1,h=>exact h)); go_simp
 refine tkCp 19 rfl hS ?_
 refine tkCl 20 (v:=?_) rfl ?_ hS ?_
 rotate_left
 ·intro w hw; obtain hw:=hw; refine exec_load1 G 6 ?_ (.slice ro nr cr) (hw 6 _ rfl) _ Tryz.underlying28 (by rfl); go_simp
 refine wpO (i:=2) rfl fun KK hKK=>?_
 go_simp
 go_at_call 129
 refine (ringT_any _).mono ?_; rintro e w2 ⟨rfl,hb2⟩
 try go_simp
 refine hKK _ _ ⟨fun _=>(hS.next hb2),?_⟩; clear hKK KK
 refine wpO (i:=11) rfl fun KK hKK=>?_
 go_simp
 go_at_call 130
 have hm2:=hmo.out.next (below_chain hb1 hb2)
 refine (copy_any A.ini hV.ini io A.st ci (by have:=hV.st; omega) _ hm2.ini).mono ?_; rintro e w3 ⟨⟨v3,rfl,hc3⟩,hb3⟩
 obtain ⟨a3,c3,hv3,hf3,hz3⟩:=hc3.fl
 rw [List.length_map,hli.out] at hv3 hf3
 subst hv3
 clear hz3
 try go_simp
 refine hKK _ _ ⟨fun _=>((hS.next hb2).next hb3),?_⟩; clear hKK KK
 refine wpO (i:=16) rfl fun KK hKK=>?_
 go_simp
 go_at_call 130
 have hm3:=hm2.next hb3
 refine (copy_any A.fin hV.fin fo A.st cf (by have:=hV.st; omega) _ hm3.fin).mono ?_; rintro e w4 ⟨⟨v4,rfl,hc4⟩,hb4⟩
 obtain ⟨a4,c4,hv4,hf4,hz4⟩:=hc4.fl
 rw [List.length_map,hlf.out] at hv4 hf4
 subst hv4
 clear hz4
 try go_simp
 refine hKK _ _ ⟨fun _=>(((hS.next hb2).next hb3).next hb4),?_⟩; clear hKK KK
 refine wpO (i:=21) rfl fun KK hKK=>?_
 go_simp
 go_at_call 131
 have hm4:=hm3.next hb4
 refine (tidyL_any A.arcs hs (fun x hx=>(hV.arcs x hx).2.2.2) ro nr cr (by have:=hm4.arcs.lenMap; have:=hV.num; omega) _ hm4.arcs).mono ?_; rintro e w5 ⟨⟨a5,n5,c5,C,rfl,hc5,hnf⟩,hb5⟩
 try go_simp
 refine hKK _ _ ⟨fun _=>((((hS.next hb2).next hb3).next hb4).next hb5),?_⟩; clear hKK KK
 refine tkCp 22 rfl ((((hS.next hb2).next hb3).next hb4).next hb5) ?_
 refine wpO (i:=23) rfl fun KK hKK=>?_
 rw [if_pos (by rfl)]
 have hR5:=(((hR.next hb2).next hb3).next hb4).next hb5
 refine op_storeB 30 (.tmp 2) (.tmp 30) rfl (G+1) 30 _ hR5 rfl (auC syms A.st (.slice a3 A.st c3) (.slice a4 A.st c4) (.slice a5 n5 c5)) rfl rfl (auC_1 _ _ _ _ _ _ _ _ _ _ _) Tryz.sizeAuto ?_
 intro w6 hR6 hfr6
 refine lN hKK ?_; clear hKK KK
 refine wpO (i:=24) rfl fun KK hKK=>?_
 go_simp
 refine lN hKK ?_; clear hKK KK
 refine wpAnyD_done (by kernel_rfl) ?_ _
 go_simp
 go_wp2_with fail
 refine bodyPost_ret (results_cellC rfl _ _ (G+1) _ _ rfl hR6.cs Tryz.underlying30 rfl Tryz.sizeAuto) rfl ⟨⟨a3,c3,a4,c4,a5,n5,c5,C,rfl,?_,hnf⟩,?_⟩
 ·have hsz:G+1<w2.heap.size:=Nat.lt_of_lt_of_le hR.lt hb2.size
  have hsz3:G+1<w3.heap.size:=Nat.lt_of_lt_of_le hsz hb3.size
  have hsz4:G+1<w4.heap.size:=Nat.lt_of_lt_of_le hsz3 hb4.size
  have k3:=((hc3.next hb4).next hb5).same (w':=w6) fun g hg=>hfr6.block g ((((hc3.next hb4).next hb5).lt hg).2) (fun e=>by have:=(hc3.lt hg).1; omega)
  have k4:=(hc4.next hb5).same (w':=w6) fun g hg=>hfr6.block g (((hc4.next hb5).lt hg).2) (fun e=>by have:=(hc4.lt hg).1; omega)
  have k5:=hc5.same (w':=w6) fun g hg=>hfr6.block g ((hc5.lt hg).2) (fun e=>by have:=(hc5.lt hg).1; omega)
  have hg:w.heap.size<=w2.heap.size:=by rw [hGw]; omega
  exact ⟨k3.mono hg,k4.mono (by omega),k5.mono (by omega)⟩
 ·have hq:=below_chain (below_chain (below_chain (below_chain hb1 hb2) hb3) hb4) hb5
  have h1:=hb0.trans (hq.mono (by rw [<-hGw]; exact hb0.size))
  rw [hGw]; exact h1.trans (hfr6.below (fun k hk=>by have:=hGw; omega) (by rw [<-hGw]; exact h1.size))
end
section
open Go.RowKit
def fnl (n:Nat) (F:Nat->Value):List Value:=(List.range n).map F
theorem fnl_len (n:Nat) (F:Nat->Value):(fnl n F).length=n:=by simp [fnl]
theorem fnl_get {n:Nat} {F:Nat->Value} {j:Nat} (h:j<n):(fnl n F)[j]? = some (F j):=by simp [fnl,h]
def updF (F:Nat->Value) (j:Nat) (u:Value):Nat->Value:=fun i=>if i=j then u else F i
theorem updF_at (F:Nat->Value) (j:Nat) (u:Value):updF F j u j=u:=if_pos rfl
theorem updF_ne (F:Nat->Value) {i j:Nat} (u:Value) (h:i≠j):updF F j u i=F i:=if_neg h
theorem fnl_set {n:Nat} {F:Nat->Value} {j:Nat} (u:Value):(fnl n F).set j u=fnl n (updF F j u):=by
 apply List.ext_getElem?
 intro i
 rw [List.getElem?_set]
 by_cases hi:i<n
 ·rw [fnl_get hi]
  split
  ·rename_i e; subst e; rw [if_pos (by rw [fnl_len]; exact hi),fnl_get hi,updF_at]
  ·rename_i e; rw [fnl_get hi,updF_ne _ _ (fun h=>e h.symm)]
 ·rw [List.getElem?_eq_none (by rw [fnl_len]; omega),List.getElem?_eq_none (by rw [fnl_len]; omega)]
  split
  ·rename_i e; subst e; rw [if_neg (by rw [fnl_len]; exact hi)]
  ·rfl
theorem fnl_congr {n:Nat} {F G:Nat->Value} (h:∀ i,i<n->F i=G i):fnl n F=fnl n G:=by
 apply List.ext_getElem?
 intro i
 by_cases hi:i<n
 ·rw [fnl_get hi,fnl_get hi,h i hi]
 ·rw [List.getElem?_eq_none (by rw [fnl_len]; omega),List.getElem?_eq_none (by rw [fnl_len]; omega)]
theorem fnl_rep (n:Nat) (z:Value):List.replicate n z=fnl n (fun _=>z):=by
 apply List.ext_getElem?
 intro i
 by_cases hi:i<n
 ·rw [fnl_get hi,List.getElem?_replicate,if_pos hi]
 ·rw [List.getElem?_eq_none (by simp; omega),List.getElem?_eq_none (by rw [fnl_len]; omega)]
def Rd (w:World) (ao:OA) (n cap:Nat) (F:Nat->Value):Prop:=Sl w ao n cap (fnl n F)
def Rw (e:TypeId) (w:World) (base:Nat) (v:Value) (n:Nat) (F:Nat->Value):Prop:=w.ownsRow base e 1 v n (fnl n F)
section
variable {e:TypeId} {w w':World} {base n:Nat} {v:Value} {F:Nat->Value}
theorem Rd.next {ao:OA} {cap:Nat} (h:Rd w ao n cap F) (hb:Below w.heap.size w w'):Rd w' ao n cap F:=Sl.next h hb
theorem Rd.get {ao:OA} {cap:Nat} (h:Rd w ao n cap F) {j:Nat} (hj:j<n):∃ b o,ao=some ⟨b,o,none⟩/\w.cell? ⟨b,o+j,none⟩=some (F j):=h.at_ j _ (fnl_get hj)
theorem Rd.congr {ao:OA} {cap:Nat} {G:Nat->Value} (h:Rd w ao n cap F) (hc:∀ i,i<n->F i=G i):Rd w ao n cap G:=by unfold Rd at *; rw [<-fnl_congr hc]; exact h
theorem Rw.same (h:Rw e w base v n F) (hb:∀ g,v.ownBlock=some g->w'.heap[g]? = w.heap[g]?):Rw e w' base v n F:=by
 obtain ⟨h1,h2⟩:=h
 refine ⟨h1,?_⟩
 rcases h2 with h2 | ⟨g,cap,cur,rfl,hg,hh,r⟩
 ·exact .inl h2
 ·exact .inr ⟨g,cap,cur,rfl,hg,(hb g rfl).trans hh,r⟩
theorem Rw.lt (h:Rw e w base v n F) {g:Nat} (hg:v.ownBlock=some g):base<=g/\g<w.heap.size:=World.ownsRow.lt h g hg
theorem Rw.next (h:Rw e w base v n F) (hb:Below w.heap.size w w'):Rw e w' base v n F:=h.same fun g hg=>hb.block g (h.lt hg).2
theorem Rw.fr {T:Nat->Prop} (h:Rw e w base v n F) (hf:Fr T w w') (hT:∀ g,v.ownBlock=some g->¬ T g):Rw e w' base v n F:=h.same fun g hg=>hf.block g (h.lt hg).2 (hT g hg)
theorem Rw.mono {base':Nat} (h:Rw e w base v n F) (hb:base'<=base):Rw e w base' v n F:=by
 obtain ⟨h1,h2⟩:=h
 refine ⟨h1,?_⟩
 rcases h2 with h2 | ⟨g,cap,cur,rfl,hg,r⟩
 ·exact .inl h2
 ·exact .inr ⟨g,cap,cur,rfl,Nat.le_trans hb hg,r⟩
theorem Rw.congr {G:Nat->Value} (h:Rw e w base v n F) (hc:∀ i,i<n->F i=G i):Rw e w base v n G:=by unfold Rw at *; rw [<-fnl_congr hc]; exact h
theorem Rw.rd (h:Rw e w base v n F):∃ ao cap,v=.slice ao n cap/\Rd w ao n cap F:=ownsSl h
theorem Rw.rdS {ao:OA} {m cap:Nat} (h:Rw e w base (.slice ao m cap) n F):m=n/\Rd w ao n cap F:=by
 obtain ⟨ao',cap',e1,h1⟩:=h.rd
 injection e1 with e1 e2 e3
 subst e1 e3
 exact ⟨e2,h1⟩
theorem Rw.place (h:Rw e w base v n F) (hn:0<n):∃ g cap,v=.slice (some ⟨g,0,none⟩) n cap/\base<=g/\g<w.heap.size:=by
 rcases h.2 with ⟨_,h0⟩ | ⟨g,cap,cur,hv,hg,hh,r⟩
 ·omega
 ·exact ⟨g,cap,hv,hg,(Array.getElem?_eq_some_iff.1 hh).1⟩
theorem Rw.cell {g cap:Nat} (h:Rw e w base (.slice (some ⟨g,0,none⟩) n cap) n F) {j:Nat} (hj:j<n):w.cell? ⟨g,j,none⟩=some (F j):=by
 obtain ⟨b,o,e1,hc⟩:=h.rdS.2.get hj
 injection e1 with e1
 injection e1 with e1 e2
 subst e1 e2
 rw [Nat.zero_add] at hc
 exact hc
theorem Rw.free {g cap:Nat} (h:Rw e w base (.slice (some ⟨g,0,none⟩) n cap) n F) (j:Nat):w.frozen? ⟨g,j,none⟩=false:=by
 rcases h.2 with ⟨hv,_⟩ | ⟨g',cap',cur,hv,hg,hh,r⟩
 ·cases hv
 ·injection hv with hv _ _
  injection hv with hv
  injection hv with hv
  subst hv
  simp [World.frozen?,hh]
theorem Rw.put {g cap:Nat} (h:Rw e w base (.slice (some ⟨g,0,none⟩) n cap) n F) (j:Nat) (u:Value):Rw e (w.setCell ⟨g,j,none⟩ u) base (.slice (some ⟨g,0,none⟩) n cap) n (updF F j u):=by
 have:=(World.ownsRow.stored h j u).1
 unfold Rw
 rw [<-fnl_set]; exact this
end
theorem wp_makeR {P:Program} {w:World} {ops:Array Oper} {rest:List Oper} {o:Oper} {a:Act} {Q:EP} (hgd:o.guard=none) (l c:Operand) (t:TypeId)
  (ho:o.op=Op.makeSlice t l c) (e:TypeId) (z:Value) (bytes:Nat) (ht:P.underlying t=some (.slice e))
  (hinfo:(P.info? e).map (fun i=>(i.zero,i.size,i.bytes))=some (some z,1,bytes)) (hzs:z.cells=#[z])
  (kl kc:IntKind) (L C:Int) (n:Nat) (hl:a.eval l=.int kl L) (hc:a.eval c=.int kc C) (hL:L=(n:Int)) (hC:C=(n:Int))
  (hroom:bytes*n<=281474976710656) (hml:n<=9223372036854775807)
  (h:∀ w' g,Rw e w' w.heap.size (.slice (some ⟨g,0,none⟩) n n) n (fun _=>z)->Below w.heap.size w w'->wpList P ops Q rest (a.put o.dst (.slice (some ⟨g,0,none⟩) n n)) w'):wpList P ops Q (o::rest) a w :=
 wp_make hgd l c t ho e z bytes ht hinfo hzs kl kc L C n hl hc hL hC hroom hml fun w' h1 _ h3=>h w' _ (by unfold Rw; rw [<-fnl_rep]; exact h1) h3
theorem op_makeR {P:Program} {o:Oper} {a:Act} {w:World} {K:Act->World->Prop} {Q:EP} (l c:Operand) (t:TypeId)
  (ho:o.op=Op.makeSlice t l c) (e:TypeId) (z:Value) (bytes:Nat) (ht:P.underlying t=some (.slice e))
  (hinfo:(P.info? e).map (fun i=>(i.zero,i.size,i.bytes))=some (some z,1,bytes)) (hzs:z.cells=#[z])
  (kl kc:IntKind) (L C:Int) (n:Nat) (hl:a.eval l=.int kl L) (hc:a.eval c=.int kc C) (hL:L=(n:Int)) (hC:C=(n:Int))
  (hroom:bytes*n<=281474976710656) (hml:n<=9223372036854775807)
  (h:∀ w' g,Rw e w' w.heap.size (.slice (some ⟨g,0,none⟩) n n) n (fun _=>z)->Below w.heap.size w w'->K (a.put o.dst (.slice (some ⟨g,0,none⟩) n n)) w'):o.wp P a w K Q:=by
 obtain ⟨i,hi,hz,hsz,hby⟩:=info_parts hinfo
 subst hL hC
 obtain ⟨w',hr,ho',hg⟩:=run_make_full (P:=P) w w.heap.size t e i z 1 ht hi hz hsz kl kc n (by rw [hby]; exact hroom) (by unfold maxLen; omega) (Nat.le_refl _)
 rw [hzs,Nat.mul_one,toList_madeCells_one,fnl_rep] at ho'
 unfold Oper.wp execOp
 simp only [ho,hl,hc,Sem.run_bind,Sem.run_pure,Result.andThen_ok,hr]
 exact h w' _ ho' ((Below.refl _ _).grown hg (Nat.le_refl _) (fun k hk=>by cases hk))
end
end Go.Proofs.YtnapapijhhldpaaGreatDoor

/-
  Texts joined by program: Twx, Twy, Twz. No condition of its own.
-/
import Derived.Test.YtnapapijhhldpaaGreatDoorJtAK
namespace Go.Proofs.YtnapapijhhldpaaGreatDoor
set_option linter.unusedSimpArgs false
set_option linter.unusedVariables false
set_option maxRecDepth 100000
set_option maxHeartbeats 4000000
section
open Go.RowKit
abbrev viC (syms st:Nat) (iv fv rv sv:Value):List Value:=[.int .i64 2,.slice none 0 0,.int .i64 (syms:Int),.int .i64 (st:Int),iv,fv,rv,sv]
theorem viC_1 (syms st:Nat) (a1 a2 a3 a4:OA) (n1 n2 n3 n4 c1 c2 c3 c4:Nat):∀ u∈viC syms st (.slice a1 n1 c1) (.slice a2 n2 c2) (.slice a3 n3 c3) (.slice a4 n4 c4),u.oneCell'=true:=fun u hu=>by
 simp at hu
 rcases hu with rfl | rfl | rfl | rfl | rfl | rfl | rfl | rfl<;>rfl
theorem op_allocB {P:Program} {o:Oper} {a:Act} {w:World} {K:Act->World->Prop} {Q:EP} (ty:TypeId) (ho:o.op=.alloc ty) (zs:List Value)
  (hr:∀ w,(Instr.alloc ty true (.tuple #[])).run P w=.ok (.pointer (some ⟨w.heap.size,0,none⟩)) (w.alloc (.cells zs.toArray ty)))
  (h:∀ w' G,Bl G zs ty w'->Below w.heap.size w w'->w.heap.size<=G->K (a.put o.dst (.pointer (some ⟨G,0,none⟩))) w'):o.wp P a w K Q:=by
 unfold Oper.wp execOp
 simp only [ho,Sem.run_bind,Sem.run_pure,Result.andThen_ok,hr]
 exact h _ _ (Bl.fresh w zs ty) (below_alloc _) (Nat.le_refl _)
theorem wp_storeVAuto {ops:Array Oper} {rest:List Oper} {o:Oper} {a:Act} {w:World} {Q:EP} (hgd:o.guard=none) (x y:Operand) (ho:o.op=.store 30 x y)
  (T:TypeId) (zs:Array Value) (hx:a.eval x=.pointer (some ⟨w.heap.size,0,none⟩)) (cs:List Value) (hk:zs.size=7) (hc:cs.length=7) (hy:a.eval y=.agg cs.toArray) (h1:∀ u∈cs,u.oneCell'=true)
  (h:wpList Tryz.prog ops Q rest (a.put o.dst undef) (w.alloc (.cells cs.toArray T))):wpList Tryz.prog ops Q (o::rest) a (w.alloc (.cells zs T)) :=
 wp_storeV hgd _ x y ho T zs hx cs (by rw [hc,hk]) hy h1 (by rw [hc]; exact Tryz.sizeAuto) h
theorem wp_loadView {ops:Array Oper} {rest:List Oper} {o:Oper} {a:Act} {w:World} {Q:EP} (hgd:o.guard=none) (x:Operand) (ho:o.op=.load 63 x)
  (b off:Nat) (hx:a.eval x=.pointer (some ⟨b,off,none⟩)) (cs:List Value) (hl:cs.length=8) (hc:Cs w b off cs) (h:wpList Tryz.prog ops Q rest (a.put o.dst (.agg cs.toArray)) w):wpList Tryz.prog ops Q (o::rest) a w :=
 wp_loadC hgd _ x ho b off hx cs hc _ Tryz.underlying63 rfl (by rw [hl]; exact Tryz.sizeView) h
theorem wp_storeBView {ops:Array Oper} {rest:List Oper} {o:Oper} {a:Act} {w:World} {Q:EP} (hgd:o.guard=none) (x y:Operand) (ho:o.op=.store 63 x y)
  (G:Nat) (T:TypeId) (old:List Value) (hG:Bl G old T w) (hx:a.eval x=.pointer (some ⟨G,0,none⟩)) (cs:List Value) (hc:cs.length=8) (ho':old.length=8) (hy:a.eval y=.agg cs.toArray) (h1:∀ v∈cs,v.oneCell'=true)
  (h:∀ w',Bl G cs T w'->Fr (fun k=>k=G) w w'->wpList Tryz.prog ops Q rest (a.put o.dst undef) w'):wpList Tryz.prog ops Q (o::rest) a w :=
 wp_storeB hgd _ x y ho G T old hG hx cs (by rw [hc,ho']) hy h1 (by rw [hc]; exact Tryz.sizeView) h
theorem exec_loadAuto {dst:Option Tmp} {ty:TypeId} {pos:String} {after:Array Edge} {guard:Option (Nat×Bool)} {x:Operand} {a:Act} {w:World}
  (b off:Nat) (hx:a.eval x=.pointer (some ⟨b,off,none⟩)) (cs:List Value) (hl:cs.length=7) (hc:Cs w b off cs):(execOp a.eval ⟨dst,.load 30 x,ty,pos,after,guard⟩).run Tryz.prog w=.ok (.value (.agg cs.toArray)) w :=
 exec_loadC _ x rfl b off hx cs hc _ Tryz.underlying30 rfl (by rw [hl]; exact Tryz.sizeAuto)
theorem exec_loadView {dst:Option Tmp} {ty:TypeId} {pos:String} {after:Array Edge} {guard:Option (Nat×Bool)} {x:Operand} {a:Act} {w:World}
  (b off:Nat) (hx:a.eval x=.pointer (some ⟨b,off,none⟩)) (cs:List Value) (hl:cs.length=8) (hc:Cs w b off cs):(execOp a.eval ⟨dst,.load 63 x,ty,pos,after,guard⟩).run Tryz.prog w=.ok (.value (.agg cs.toArray)) w :=
 exec_loadC _ x rfl b off hx cs hc _ Tryz.underlying63 rfl (by rw [hl]; exact Tryz.sizeView)
theorem nodup_len {α:Type} [DecidableEq α]:∀ {l m:List α},l.Nodup->(∀ x∈l,x∈m)->l.length<=m.length
 | [],m,_,_=>Nat.zero_le _
 | a::r,m,h,hs=>by
  have h1:=List.nodup_cons.1 h
  have ha:=hs a (by simp)
  have h2:=nodup_len (l:=r) (m:=m.erase a) h1.2 (fun x hx=>(List.mem_erase_of_ne (fun e=>h1.1 (by rw [<-e]; exact hx))).2 (hs x (by simp [hx])))
  rw [List.length_erase_of_mem ha] at h2
  have h3:=List.length_pos_of_mem ha
  simp only [List.length_cons]; omega
theorem nf_len {C l:List Ac} {st syms:Nat} (h:Nf C l) (hl:∀ x∈l,ArcOk st syms x):C.length<=l.length:=by
 have hk:(C.map ky).Nodup:=by
  have hs:=h.1
  clear h hl
  induction C with
  | nil=>simp
  | cons a r ih =>
   have h1:(∀ y∈r,klt (ky a) (ky y))/\Ss r:=hs
   rw [List.map_cons,List.nodup_cons]
   refine ⟨fun hm=>?_,ih h1.2⟩
   obtain ⟨y,hy,he⟩:=List.mem_map.1 hm
   have:=h1.1 y hy
   rw [he] at this
   exact klt_irrefl _ this
 have hsub:∀ z∈C.map ky,z∈l.map ky:=fun z hz=>by
  obtain ⟨x,hx,rfl⟩:=List.mem_map.1 hz
  obtain ⟨⟨y,hy,he,_⟩,_⟩:=h.2.1 x hx
  exact List.mem_map.2 ⟨y,hy,he⟩
 have:=nodup_len hk hsub
 simpa using this
def cE (N:List Ac) (j:Nat):Nat:=N.countP fun x=>x.1+1==j
def cB (N:List Ac) (j:Nat):Nat:=N.countP fun x=>decide (x.1<j)
theorem cB_zero (N:List Ac):cB N 0=0:=by unfold cB; rw [List.countP_eq_zero]; intro x _; simp
theorem cB_succ (N:List Ac) (q:Nat):cB N (q+1)=cE N (q+1)+cB N q:=by
 unfold cB cE
 induction N with
 | nil=>rfl
 | cons x r ih =>
  simp only [List.countP_cons,ih]
  by_cases h1:x.1<q
  ·simp [h1,show x.1<q+1 by omega,show ¬ x.1=q by omega]; omega
  ·by_cases h2:x.1=q
   ·simp [h2]; omega
   ·simp [h1,h2,show ¬ x.1<q+1 by omega]
theorem cB_le (N:List Ac) (q:Nat):cB N q<=N.length:=List.countP_le_length
theorem cE_le (N:List Ac) (q:Nat):cE N q<=N.length:=List.countP_le_length
theorem cE_snoc (N:List Ac) (x:Ac) (j:Nat):cE (N++[x]) j=cE N j+(if x.1+1=j then 1 else 0):=by
 unfold cE
 rw [List.countP_append]
 congr 1
 by_cases h:x.1+1=j<;>simp [List.countP_cons,h]
def fE (N:List Ac) (j:Nat):Value:=.int .i64 ((cE N j:Nat):Int)
def fB (N:List Ac) (j:Nat):Value:=.int .i64 ((cB N j:Nat):Int)
theorem fE_step {N:List Ac} {k:Nat} {x:Ac} (h:N[k]? = some x):∀ i,updF (fE (N.take k)) (x.1+1) (.int .i64 ((cE (N.take k) (x.1+1):Nat)+1:Int)) i=fE (N.take (k+1)) i:=fun i=>by
 unfold fE
 rw [List.take_succ_eq_append_getElem (List.getElem?_eq_some_iff.1 h).1,(List.getElem?_eq_some_iff.1 h).2,cE_snoc]
 unfold updF
 split
 ·rename_i e; subst e; rw [if_pos rfl]; rfl
 ·rename_i e; rw [if_neg (fun h=>e h.symm)]; rfl
def fM (N:List Ac) (q j:Nat):Value:=if j<=q then fB N j else fE N j
theorem fM_zero (N:List Ac):∀ j,fM N 0 j=fE N j:=fun j=>by
 unfold fM
 split
 ·rename_i h
  obtain rfl:j=0:=by omega
  have:cE N 0=0:=by unfold cE; rw [List.countP_eq_zero]; intro x _; simp
  unfold fB fE; rw [cB_zero,this]
 ·rfl
theorem fM_succ (N:List Ac) (q:Nat):∀ j,updF (fM N q) (q+1) (.int .i64 ((cE N (q+1):Nat)+(cB N q:Nat):Int)) j=fM N (q+1) j:=fun j=>by
 unfold updF
 split
 ·rename_i h; subst h
  unfold fM fB
  rw [if_pos (Nat.le_refl _),cB_succ]
  exact congrArg (Value.int .i64) (by omega)
 ·rename_i h
  unfold fM
  by_cases hj:j<=q
  ·rw [if_pos hj,if_pos (by omega)]
  ·rw [if_neg hj,if_neg (by omega)]
structure VmF (w:World) (base:Nat) (N:Au) (io:OA) (ci:Nat) (fo:OA) (cf:Nat) (ro:OA) (nr cr:Nat) (vo:OA) (cv:Nat):Prop where
 mo:MoF w base N io ci fo cf ro nr cr
 fst:Rw 3 w base (.slice vo (N.st+1) cv) (N.st+1) (fB N.arcs)
structure Vm (w:World) (syms:Nat) (N:Au) (io:OA) (ci:Nat) (fo:OA) (cf:Nat) (ro:OA) (nr cr:Nat) (vo:OA) (cv:Nat):Prop where
 mo:Mo w syms N io ci fo cf ro nr cr
 fst:Rd w vo (N.st+1) cv (fB N.arcs)
theorem Vm.next {w w':World} {syms:Nat} {N:Au} {io fo ro vo:OA} {ci cf nr cr cv:Nat} (h:Vm w syms N io ci fo cf ro nr cr vo cv) (hb:Below w.heap.size w w'):Vm w' syms N io ci fo cf ro nr cr vo cv:=⟨h.mo.next hb,h.fst.next hb⟩
theorem VmF.vm {w:World} {base:Nat} {N:Au} {io fo ro vo:OA} {ci cf nr cr cv:Nat} (h:VmF w base N io ci fo cf ro nr cr vo cv) (syms:Nat):Vm w syms N io ci fo cf ro nr cr vo cv:=⟨h.mo.mo syms,h.fst.rdS.2⟩
def NewCut (w:World) (syms st:Nat) (iv fv rv:Value) (s:Value) (wx:World):Prop:=∃ G g,s=.pointer (some ⟨G,0,none⟩)/\Bl G (viC syms st iv fv rv (.slice (some ⟨g,0,none⟩) (st+1) (st+1))) 63 wx /\
 Rw 3 wx w.heap.size (.slice (some ⟨g,0,none⟩) (st+1) (st+1)) (st+1) (fun _=>.int .i64 0)/\G≠g/\w.heap.size<=G/\Below w.heap.size w wx
theorem Tryz.infoInt:(Tryz.prog.info? 3).map (fun i=>(i.zero,i.size,i.bytes))=some (some (.int .i64 0),1,8):=by kernel_rfl
theorem viewNew_any (syms:Nat) (A:Au) (hV:Vo syms A) (hs:A.arcs.length<20\/UpA A.arcs) (hli:A.ini.length=A.st) (hlf:A.fin.length=A.st) (io:OA) (ci:Nat) (fo:OA) (cf:Nat) (ro:OA) (nr cr:Nat) (w:World) (h:Mo w syms A io ci fo cf ro nr cr) :
  Calls Tryz.prog 60 #[.agg (auC syms A.st (.slice io A.st ci) (.slice fo A.st cf) (.slice ro nr cr)).toArray] w fun e w' =>
   (∃ io' ci' fo' cf' ro' nr' cr' vo' cv' C,e=.returned (.tuple #[.agg (viC syms A.st (.slice io' A.st ci') (.slice fo' A.st cf') (.slice ro' nr' cr') (.slice vo' (A.st+1) cv')).toArray,.int .i64 0])/\VmF w' w.heap.size ⟨A.st,A.ini,A.fin,C.filter nz⟩ io' ci' fo' cf' ro' nr' cr' vo' cv'/\Nf C A.arcs)/\Below w.heap.size w w':=by
 have hli:=hid hli
 have hlf:=hid hlf
 have hb0:Below w.heap.size w ((w.alloc (.cells (auC syms A.st (.slice io A.st ci) (.slice fo A.st cf) (.slice ro nr cr)).toArray 30)).alloc (.cells #[.int .i64 0,.slice none 0 0,.int .i64 0,.int .i64 0,.slice none 0 0,.slice none 0 0,.slice none 0 0,.slice none 0 0] 63)):=below_chain (below_alloc _) (below_alloc _)
 have hG:=(Bl.fresh w (auC syms A.st (.slice io A.st ci) (.slice fo A.st cf) (.slice ro nr cr)) 30).new (.cells #[.int .i64 0,.slice none 0 0,.int .i64 0,.int .i64 0,.slice none 0 0,.slice none 0 0,.slice none 0 0,.slice none 0 0] 63)
 have hR:=Bl.fresh' (G:=w.heap.size+1) (w.alloc (.cells (auC syms A.st (.slice io A.st ci) (.slice fo A.st cf) (.slice ro nr cr)).toArray 30)) [.int .i64 0,.slice none 0 0,.int .i64 0,.int .i64 0,.slice none 0 0,.slice none 0 0,.slice none 0 0,.slice none 0 0] 63 (by simp)
 have hm:=hid (h.next hb0)
 clear h
 go_enter Tryz.func60,Tryz.ntmps60
 go_upto_region 1 with fail
 generalize hW0:((w.alloc (.cells (auC syms A.st (.slice io A.st ci) (.slice fo A.st cf) (.slice ro nr cr)).toArray 30)).alloc (.cells #[.int .i64 0,.slice none 0 0,.int .i64 0,.int .i64 0,.slice none 0 0,.slice none 0 0,.slice none 0 0,.slice none 0 0] 63))=W0 at *
 have hRl0:=hR.lt
 generalize hGw:w.heap.size=G at *
 obtain ⟨⟨x0,x1,x2,x3⟩,x4,x5,x6⟩:=hG.seven
 have hW0:=hid hW0
 go_wp2_with fail
 refine (normal_any syms A hV hs hli.out hlf.out io ci fo cf ro nr cr _ hm.out).mono ?_; rintro e w1 ⟨⟨io',ci',fo',cf',ro',nr',cr',C,rfl,hm1,hnf⟩,hb1⟩
 replace hR:=hR.next hb1
 replace hb0:Below w.heap.size w w1:=by rw [hGw]; exact hb0.trans (hb1.mono (by rw [<-hGw]; exact hb0.size))
 have hnf:=hid hnf
 have hm1:=hid hm1
 obtain ⟨iv,hiv⟩:∃ iv,Value.slice io' A.st ci'=iv:=⟨_,rfl⟩
 obtain ⟨fv,hfv⟩:∃ fv,Value.slice fo' A.st cf'=fv:=⟨_,rfl⟩
 obtain ⟨rv,hrv⟩:∃ rv,Value.slice ro' nr' cr'=rv:=⟨_,rfl⟩
 have hone:∀ sa sn sc,∀ u∈viC syms A.st iv fv rv (.slice sa sn sc),u.oneCell'=true:=by rw [<-hiv,<-hfv,<-hrv]; exact fun _ _ _=>viC_1 _ _ _ _ _ _ _ _ _ _ _ _ _ _
 have hone7:∀ u∈auC syms A.st iv fv rv,u.oneCell'=true:=by rw [<-hiv,<-hfv,<-hrv]; exact auC_1 _ _ _ _ _ _ _ _ _ _ _
 have Hiv:=hid hiv
 have Hfv:=hid hfv
 have Hrv:=hid hrv
 rw [hiv,hfv,hrv]
 obtain ⟨st,hst⟩:∃ st,A.st=st:=⟨_,rfl⟩
 have hstl:st<=64:=by rw [<-hst]; exact hV.st
 rw [hst] at hone hone7 ⊢
 have Hst:=hid hst
 clear hb1 x0 x1 x2 x3 x4 x5 x6 hm hG hiv hfv hrv hst
 go_upto_region 4 with ((with_reducible refine wp_storeVAuto rfl _ _ rfl _ _ ?_ (auC syms st iv fv rv) ?_ ?_ ?_ hone7 ?_); exact rfl; exact rfl; exact rfl; exact rfl)
 have hbX:Below w1.heap.size w1 (w1.alloc (.cells (auC syms st iv fv rv).toArray 30)):=below_alloc _
 have hX:=Bl.fresh w1 (auC syms st iv fv rv) 30
 replace hR:=hR.next hbX
 have hm2:=hid (hm1.out.next hbX)
 replace hb0:=hb0.trans (hbX.mono hb0.size)
 generalize hW1:(w1.alloc (.cells (auC syms st iv fv rv).toArray 30))=W1 at *
 generalize hG4:w1.heap.size=G4 at *
 clear hbX hW1 hG4 hm1
 have hd:=(Below.refl W1.heap.size W1).drew
 have hS:Cs W1.drew G4 0 (auC syms st iv fv rv):=(hX.next hd).cs
 have hw1:IntKind.i64.wrap ((st:Int)+1)=(st:Int)+1:=IntWalk.i64_in _ (by omega)
 go_cut [6] (fun s6 wx=>NewCut W1 syms st iv fv rv s6 wx)
 case first =>
  refine wp_region_D (fun w'=>Cs w' G4 0 (auC syms st iv fv rv)) [7] (by kernel_rfl) ?_
  refine tkAl 0 (some 19) (v:=?_) rfl rfl ?_ hS ?_
  rotate_left
  ·intro w hw; obtain hw:=hw; refine exec_loadAuto G4 0 ?_ (auC syms st iv fv rv) rfl hw; go_simp
  refine tkAp 1 (some 20) rfl rfl hS ?_
  refine tkAl 2 (some 21) (v:=?_) rfl rfl ?_ hS ?_
  rotate_left
  ·intro w hw; obtain hw:=hw; refine exec_load1 G4 (3) ?_ (.int .i64 (st:Int)) (hw 3 _ rfl) _ Tryz.underlying3 (by rfl); go_simp
  refine tkAp 3 (some 22) rfl rfl hS ?_
  refine wpAnyD_two (i:=4) (j:=6) ?_ rfl rfl (fun KK hKK=>?_) (fun KK hKK=>?_)
  ·kernel_rfl
  ·skip
   rw [if_pos (by kernel_rfl)]
   with_reducible refine op_makeR (.tmp 22) (.tmp 22) 22 ?_ 3 (.int .i64 0) 8 ?_ ?_ ?_ .i64 .i64 ((st:Int)+1) ((st:Int)+1) (st+1) ?_ ?_ ?_ ?_ ?_ ?_ ?_
   ·rfl
   ·exact Tryz.underlying22
   ·exact Tryz.infoInt
   ·rfl
   ·go_simp
   ·go_simp
   ·omega
   ·omega
   ·omega
   ·omega
   intro w4 gr hR4 hb4
   refine hKK _ _ ⟨fun _=>(hS.next hb4),?_⟩; clear hKK KK
   refine tkAp 5 (some 24) rfl rfl (hS.next hb4) ?_
   refine wpO (i:=6) rfl fun KK hKK=>?_
   rw [if_pos (by kernel_rfl)]
   with_reducible refine op_allocB 63 ?_ [.int .i64 0,.slice none 0 0,.int .i64 0,.int .i64 0,.slice none 0 0,.slice none 0 0,.slice none 0 0,.slice none 0 0] ?_ ?_
   ·rfl
   ·exact fun _=>by kernel_rfl
   intro w6 G6 hB6 hb6 hz6
   refine hKK _ _ ⟨fun _=>((hS.next hb4).next hb6),?_⟩; clear hKK KK
   refine wpO (i:=7) rfl fun KK hKK=>?_
   rw [if_pos (by kernel_rfl)]
   have hB7:Bl G6 [.int .i64 0,.slice none 0 0,.int .i64 0,.int .i64 0,.slice none 0 0,.slice none 0 0,.slice none 0 0,.slice none 0 0] 63 w6:=hB6
   with_reducible refine op_storeB 63 (.tmp 6) (.tmp 24) ?_ G6 63 [.int .i64 0,.slice none 0 0,.int .i64 0,.int .i64 0,.slice none 0 0,.slice none 0 0,.slice none 0 0,.slice none 0 0] hB7 ?_ (viC syms st iv fv rv (.slice (some ⟨gr,0,none⟩) (st+1) (st+1))) ?_ ?_ ?_ ?_ ?_
   ·rfl
   ·go_simp
   ·rfl
   ·go_simp
   ·exact hone _ _ _
   ·exact Tryz.sizeView
   intro w7 hB8 hfr7
   refine lN hKK ?_; clear hKK KK
   refine wpAnyD_done (by kernel_rfl) ?_ _
   go_wp2_with fail
   have hR7:Rw 3 w6 W1.heap.size (.slice (some ⟨gr,0,none⟩) (st+1) (st+1)) (st+1) (fun _=>.int .i64 0):=(hR4.next hb6).mono hd.size
   have hne7:G6≠gr:=fun e=>by have h1:gr<w4.heap.size:=(hR4.lt rfl).2; omega
   have hbb:Below W1.heap.size W1 w6:=below_chain (below_chain hd hb4) hb6
   have hz6':W1.heap.size<=G6:=by have h1:=hd.size; have h2:=hb4.size; omega
   go_meet
   exact ⟨G6,gr,rfl,hB8,hR7.fr hfr7 (fun g hg=>by injection hg with hg; subst hg; exact fun e=>hne7 e.symm),hne7,hz6',hbb.trans (hfr7.below (fun k hk=>by omega) hbb.size)⟩
  ·skip
   rw [if_pos (by kernel_rfl)]
   with_reducible refine op_allocB 63 ?_ [.int .i64 0,.slice none 0 0,.int .i64 0,.int .i64 0,.slice none 0 0,.slice none 0 0,.slice none 0 0,.slice none 0 0] ?_ ?_
   ·rfl
   ·exact fun _=>by kernel_rfl
   intro w6 G6 hB6 hb6 hz6
   refine hKK _ _ ⟨fun _=>(hS.next hb6),?_⟩; clear hKK KK
   refine wpO (i:=4) rfl fun KK hKK=>?_
   rw [if_pos (by kernel_rfl)]
   with_reducible refine op_makeR (.tmp 22) (.tmp 22) 22 ?_ 3 (.int .i64 0) 8 ?_ ?_ ?_ .i64 .i64 ((st:Int)+1) ((st:Int)+1) (st+1) ?_ ?_ ?_ ?_ ?_ ?_ ?_
   ·rfl
   ·exact Tryz.underlying22
   ·exact Tryz.infoInt
   ·rfl
   ·go_simp
   ·go_simp
   ·omega
   ·omega
   ·omega
   ·omega
   intro w4 gr hR4 hb4
   refine hKK _ _ ⟨fun _=>((hS.next hb6).next hb4),?_⟩; clear hKK KK
   refine tkAp 5 (some 24) rfl rfl ((hS.next hb6).next hb4) ?_
   refine wpO (i:=7) rfl fun KK hKK=>?_
   rw [if_pos (by kernel_rfl)]
   have hB7:Bl G6 [.int .i64 0,.slice none 0 0,.int .i64 0,.int .i64 0,.slice none 0 0,.slice none 0 0,.slice none 0 0,.slice none 0 0] 63 w4:=hB6.next hb4
   with_reducible refine op_storeB 63 (.tmp 6) (.tmp 24) ?_ G6 63 [.int .i64 0,.slice none 0 0,.int .i64 0,.int .i64 0,.slice none 0 0,.slice none 0 0,.slice none 0 0,.slice none 0 0] hB7 ?_ (viC syms st iv fv rv (.slice (some ⟨gr,0,none⟩) (st+1) (st+1))) ?_ ?_ ?_ ?_ ?_
   ·rfl
   ·go_simp
   ·rfl
   ·go_simp
   ·exact hone _ _ _
   ·exact Tryz.sizeView
   intro w7 hB8 hfr7
   refine lN hKK ?_; clear hKK KK
   refine wpAnyD_done (by kernel_rfl) ?_ _
   go_wp2_with fail
   have hR7:Rw 3 w4 W1.heap.size (.slice (some ⟨gr,0,none⟩) (st+1) (st+1)) (st+1) (fun _=>.int .i64 0):=hR4.mono (Nat.le_trans hd.size hb6.size)
   have hne7:G6≠gr:=fun e=>by have h1:w6.heap.size<=gr:=(hR4.lt rfl).1; have h2:=hB6.lt; omega
   have hbb:Below W1.heap.size W1 w4:=below_chain (below_chain hd hb6) hb4
   have hz6':W1.heap.size<=G6:=by have h1:=hd.size; omega
   go_meet
   exact ⟨G6,gr,rfl,hB8,hR7.fr hfr7 (fun g hg=>by injection hg with hg; subst hg; exact fun e=>hne7 e.symm),hne7,hz6',hbb.trans (hfr7.below (fun k hk=>by omega) hbb.size)⟩
 case rest =>
  obtain ⟨G6,g,rfl,hB,hrow,hne,hG6,hbc⟩:=hcut
  have hXl:G4<W1.heap.size:=hX.lt
  have hRl:G+1<W1.heap.size:=hR.lt
  replace hR:=hR.next hbc
  have hm3:=hid (hm2.out.next hbc)
  replace hb0:Below w.heap.size w wc:=hb0.trans (hbc.mono hb0.size)
  have hgB:=(hrow.lt rfl)
  have hX4:=hX.lt
  obtain ⟨⟨y0,y1,y2,y3⟩,y4,y5,y6⟩:=(hX.next hbc).seven
  have hcR:=Hrv.out
  subst hcR
  have hN:∀ x∈C.filter nz,x.1<st:=fun x hx=>by
   obtain ⟨⟨z,hz,hk,_⟩,_⟩:=hnf.out.2.1 x (List.mem_filter.1 hx).1
   have h1:z.1=x.1:=congrArg (fun q:Ky=>q.1) hk
   rw [<-h1,<-Hst.out]; exact (hV.arcs z hz).1
  have hNl:(C.filter nz).length=nr':=by have:=fo_n hm3.out.arcs; rw [List.length_map] at this; exact this
  obtain ⟨N,hNe⟩:∃ N,C.filter nz=N:=⟨_,rfl⟩
  have hNb:nr'<=4096:=by
   have h1:=nf_len hnf.out (fun z hz=>(hV.arcs z hz))
   have h3:=hV.num
   have h2:=List.length_filter_le nz C
   omega
  rw [hNe] at hN hNl
  have hfl:Hid (Fl 11 W1 ro' nr' cr' (N.map acC)):=hid (by rw [<-hNe]; exact (hm2.out.mo 0).arcs)
  have hN:=hid hN
  have hNl:=hid hNl
  have HNe:=hid hNe
  have hG4b:G4<W1.heap.size:=hXl
  have hX6:G4≠G6:=by omega
  have hXc:=hX
  clear hNe hS hw1 hd
  generalize hGb:W1.heap.size=gb at *
  go_wp2_with fail
  go_loopw [28] (fun iv' wr=>∃ k:Nat,k<=nr'/\iv'=.int .i64 (k:Int)/\Rw 3 wr gb (.slice (some ⟨g,0,none⟩) (st+1) (st+1)) (st+1) (fE (N.take k))/\Bl G6 (viC syms st iv fv (.slice ro' nr' cr') (.slice (some ⟨g,0,none⟩) (st+1) (st+1))) 63 wr/\Hid (Below gb wc wr)) (fun iv' _=>nr'-(intOf iv').toNat)
  case atStart=>exact ⟨0,by omega,rfl,hrow.congr (fun i _=>rfl),hB,hid (Below.refl _ _)⟩
  case round =>
   clear hrow hB y0 y1 y2 y3 y4 y5 y6
   obtain ⟨k,hk,rfl,hrow,hB,hb⟩:=hrel
   have hbW:Below W1.heap.size W1 wr:=by rw [hGb]; exact hbc.trans hb.out
   by_cases hlt:k<nr'
   ·obtain ⟨x,hxk⟩:∃ x,N[k]? = some x:=⟨_,List.getElem?_eq_getElem (by have:=hNl.out; omega)⟩
    have hxs:x.1<st:=hN.out x (List.mem_of_getElem? hxk)
    obtain ⟨x',hxk',b,off,rfl,hcs⟩:=((hfl.out.next hbW).get hlt)
    obtain rfl:x'=x:=by rw [hxk] at hxk'; injection hxk' with e; exact e.symm
    clear hxk'
    have i1:(k:Int)<(nr':Int):=by omega
    have i0:(0:Int)<=(k:Int):=by omega
    have i2:(x'.1:Int)+1<((st+1:Nat):Int):=by omega
    have i3:(0:Int)<=(x'.1:Int)+1:=by omega
    have c0:wr.cell? ⟨G6,7,none⟩=some (.slice (some ⟨g,0,none⟩) (st+1) (st+1)):=hB.cell rfl
    have c1:wr.cell? ⟨g,x'.1+1,none⟩=some (fE (N.take k) (x'.1+1)):=hrow.cell (by omega)
    have c2:=hrow.free (x'.1+1)
    have hbX:Below wr.heap.size wr (wr.alloc (.cells (acC x').toArray 54)):=below_alloc _
    have hce:cE (N.take k) (x'.1+1)<=4096:=Nat.le_trans (cE_le _ _) (by rw [List.length_take]; omega)
    have hX:=Bl.fresh wr (acC x') 54
    have z0:=hX.cell (i:=0) rfl
    have hbc':=bcell hbX
    have c0':=(hbc'.1 G6 7 hB.lt).trans c0
    have c1':=(hbc'.1 g (x'.1+1) (hrow.lt rfl).2).trans c1
    have c2':=(hbc'.2 g (x'.1+1) (hrow.lt rfl).2).trans c2
    unfold fE at c1'
    go_upto_region 8 with ((first | ((with_reducible refine wp_loadArc rfl _ rfl b (off+k*11) ?_ x' hcs ?_); exact rfl) | ((with_reducible refine wp_storeVArc rfl _ _ rfl _ _ ?_ x' ?_ ?_ ?_); exact rfl; exact rfl; exact rfl)))
    have hrow2:=hrow.next hbX
    have hB2:=hB.next hbX
    have hb2:=hb.out.trans (hbX.mono (by have:=hb.out.size; omega))
    generalize hW2:(wr.alloc (.cells (acC x').toArray 54))=W2 at *
    clear hbc' c0 c1 c2 hW2
    go_wp2_with fail
    go_roundw
    case rel=>exact ⟨k+1,by omega,by go_num,(hrow2.put (x'.1+1) _).congr (fun i _=>fE_step hxk i),hB2.off hne _,hid (hb2.setCell (p:=⟨g,x'.1+1,none⟩) (hrow.lt rfl).1 _)⟩
    case measure=>simp [intOf]; omega
   ·obtain rfl:k=nr':=by omega
    have i1:¬ (k:Int)<(k:Int):=by omega
    have htk:N.take k=N:=List.take_of_length_le (by rw [hNl.out]; exact Nat.le_refl _)
    rw [htk] at hrow
    have hstc:Cs wr G4 0 (auC syms st iv fv (.slice ro' k cr')):=(hXc.next hbW).cs
    have y3:=hstc 3 _ rfl
    clear htk
    go_wp2_with fail
    go_loopw [44] (fun iv' wq=>∃ q:Nat,q<=st/\iv'=.int .i64 (q:Int)/\Rw 3 wq gb (.slice (some ⟨g,0,none⟩) (st+1) (st+1)) (st+1) (fM N q)/\Bl G6 (viC syms st iv fv (.slice ro' k cr') (.slice (some ⟨g,0,none⟩) (st+1) (st+1))) 63 wq/\Hid (Below gb wc wq)) (fun iv' _=>st-(intOf iv').toNat)
    case atStart=>exact ⟨0,by omega,rfl,hrow.congr (fun i _=>(fM_zero N i).symm),hB,hb⟩
    case round =>
     clear hrow hB hb hbW hstc y3
     obtain ⟨q,hq,rfl,hrow,hB,hb⟩:=hrel
     by_cases hlt2:q<st
     ·have i1:(q:Int)<(st:Int):=by omega
      have i2:(q:Int)+1<((st+1:Nat):Int):=by omega
      have i3:(q:Int)<((st+1:Nat):Int):=by omega
      have i4:(0:Int)<=(q:Int):=by omega
      have i6:(0:Int)<=(q:Int)+1:=by omega
      have i7:(q:Int)<(st:Int)+1:=by omega
      have w1':IntKind.i64.wrap ((q:Int)+1)=((q+1:Nat):Int):=IntWalk.i64_in _ (by omega)
      have i5:((q+1:Nat):Int)<((st+1:Nat):Int):=by omega
      have hce:cE N (q+1)<=4096:=Nat.le_trans (cE_le _ _) (by rw [hNl.out]; omega)
      have hcb:cB N q<=4096:=Nat.le_trans (cB_le _ _) (by rw [hNl.out]; omega)
      have w2':IntKind.i64.wrap ((cE N (q+1):Nat)+(cB N q:Nat):Int)=((cE N (q+1):Nat)+(cB N q:Nat):Int):=IntWalk.i64_in _ (by omega)
      go_upto_region 13 with fail
      have hdq:=(Below.refl wr.heap.size wr).drew
      have hrow2:=hrow.next hdq
      have hB2:=hB.next hdq
      have hb2:=hb.out.trans (hdq.mono (by have:=hb.out.size; omega))
      have hS:wr.drew.cell? ⟨G6,7,none⟩=some (.slice (some ⟨g,0,none⟩) (st+1) (st+1))/\wr.drew.cell? ⟨g,q+1,none⟩=some (.int .i64 ((cE N (q+1):Nat):Int))/\wr.drew.cell? ⟨g,q,none⟩=some (.int .i64 ((cB N q:Nat):Int)) :=
       ⟨hB2.cell rfl,by rw [hrow2.cell (j:=q+1) (by omega)]; unfold fM fE; rw [if_neg (by omega)],by rw [hrow2.cell (j:=q) (by omega)]; unfold fM fB; rw [if_pos (by omega)]⟩
      have hfz:=hrow2.free (q+1)
      have hcl:=hS.2.1
      refine wp_region_D (fun w'=>w'.cell? ⟨G6,7,none⟩=some (.slice (some ⟨g,0,none⟩) (st+1) (st+1))/\w'.cell? ⟨g,q+1,none⟩=some (.int .i64 ((cE N (q+1):Nat):Int))/\w'.cell? ⟨g,q,none⟩=some (.int .i64 ((cB N q:Nat):Int))) [13] (by kernel_rfl) ?_
      refine tkAp 0 (some 47) rfl rfl hS ?_
      refine tkAl 1 (some 48) (v:=?_) rfl rfl ?_ hS ?_
      rotate_left
      ·intro w hw; obtain ⟨c1',c2',c3'⟩:=hw; first | (go_simp; done) | (go_simp; with_reducible rfl)
      refine tkAp 2 (some 49) rfl rfl hS ?_
      refine tkAp 3 (some 50) rfl rfl hS ?_
      refine tkAp 4 (some 51) rfl rfl hS ?_
      refine tkAl 5 (some 52) (v:=?_) rfl rfl ?_ hS ?_
      rotate_left
      ·intro w hw; obtain ⟨c1',c2',c3'⟩:=hw; first | (go_simp; done) | (go_simp; with_reducible rfl)
      refine tkAp 6 (some 53) rfl rfl hS ?_
      refine tkAl 7 (some 54) (v:=?_) rfl rfl ?_ hS ?_
      rotate_left
      ·intro w hw; obtain ⟨c1',c2',c3'⟩:=hw; first | (go_simp; done) | (go_simp; with_reducible rfl)
      refine tkAp 8 (some 55) rfl rfl hS ?_
      refine tkAp 9 (some 56) rfl rfl hS ?_
      refine tkAl 10 (some 57) (v:=?_) rfl rfl ?_ hS ?_
      rotate_left
      ·intro w hw; obtain ⟨c1',c2',c3'⟩:=hw; first | (go_simp; done) | (go_simp; with_reducible rfl)
      refine tkAp 11 (some 58) rfl rfl hS ?_
      refine tkAp 12 (some 59) rfl rfl hS ?_
      refine wpO (i:=13) rfl fun KK hKK=>?_
      go_simp
      refine lN hKK ?_; clear hKK KK
      refine wpAnyD_done (by kernel_rfl) ?_ _
      go_simp
      go_wp2_with fail
      go_roundw
      case rel=>exact ⟨q+1,by omega,by go_num,(hrow2.put (q+1) _).congr (fun i _=>fM_succ N q i),hB2.off hne _,hid (hb2.setCell (p:=⟨g,q+1,none⟩) (hrow.lt rfl).1 _)⟩
      case measure=>simp [intOf]; omega
     ·obtain rfl:q=st:=by omega
      have i1:¬ (q:Int)<(q:Int):=by omega
      have hR2:=hR.under hb.out hRl
      have hrow3:=hrow
      have hVm:MoF wr W0.heap.size ⟨A.st,A.ini,A.fin,C.filter nz⟩ io' ci' fo' cf' ro' k cr':=hm2.out.next (by rw [hGb]; exact hbc.trans hb.out)
      have hVm:=hid hVm
      go_wp2_with (first | ((with_reducible refine wp_loadView rfl _ rfl G6 0 ?_ (viC syms q iv fv (.slice ro' k cr') (.slice (some ⟨g,0,none⟩) (q+1) (q+1))) rfl hB.cs ?_); exact rfl) | ((with_reducible refine wp_storeBView rfl _ _ rfl (G+1) 63 _ hR2 ?_ (viC syms q iv fv (.slice ro' k cr') (.slice (some ⟨g,0,none⟩) (q+1) (q+1))) rfl rfl ?_ ?_ ?_); exact rfl; exact rfl; exact hone _ _ _; intro w9 hR9 hfr9))
      have hGW:G+1<W0.heap.size:=hRl0
      refine bodyPost_ret (results_cellC rfl _ _ (G+1) (viC syms q iv fv (.slice ro' k cr') (.slice (some ⟨g,0,none⟩) (q+1) (q+1))) _ rfl hR9.cs Tryz.underlying63 rfl Tryz.sizeView) rfl ⟨⟨io',ci',fo',cf',ro',k,cr',some ⟨g,0,none⟩,q+1,?_,C,⟨?_,?_⟩,hnf.out⟩,?_⟩
      ·rw [<-Hiv.out,<-Hfv.out,Hst.out]; rfl
      ·exact (hVm.out.fr hfr9 hGW).mono (by omega)
      ·have h1:=(hrow3.congr (G:=fB N) fun i hi=>by unfold fM; rw [if_pos (by omega)]).fr hfr9 (fun g' hg'=>by injection hg' with hg'; subst hg'; have:=(hrow3.lt rfl).1; omega)
       show Rw 3 w9 _ (.slice (some ⟨g,0,none⟩) (A.st+1) (q+1)) (A.st+1) (fB (C.filter nz))
       rw [Hst.out,HNe.out]
       exact h1.mono (by omega)
      ·have h1:Below w.heap.size w wr:=hb0.trans (hb.out.mono (by omega))
       have h2:Below w.heap.size w w9:=h1.trans (hfr9.below (fun k hk=>by omega) h1.size)
       first | exact h2 | (rw [<-hGw]; exact h2)
end
section
open Go.Shelf Go.RowKit
def Tryz.laysGrow_ren:Go.Shelf.Ren:=⟨fun | 4=>132 | n=>n,fun | 22=>27 | 25=>45 | 3=>3 | 4=>4 | 9=>9 | 20=>20 | 0=>0 | n=>n,fun | n=>n⟩
theorem Tryz.laysGrow:Go.Proofs.Lays8.n4 Tryz.prog Tryz.laysGrow_ren:={
 mixed:=by kernel_rfl
 f4:=⟨Tryz.f132.name,by decide,Tryz.func132.trans (congrArg some (by kernel_rfl))⟩
 t0:=Tryz.underlying0
 a0:=Tryz.isAgg0
 z0:=Tryz.sizeOf0
 v0:=Tryz.zeroValue0
 t3:=Tryz.underlying3
 a3:=Tryz.isAgg3
 z3:=Tryz.sizeOf3
 v3:=Tryz.zeroValue3
 t4:=Tryz.underlying4
 a4:=Tryz.isAgg4
 z4:=Tryz.sizeOf4
 v4:=Tryz.zeroValue4
 t9:=Tryz.underlying9
 a9:=Tryz.isAgg9
 z9:=Tryz.sizeOf9
 v9:=Tryz.zeroValue9
 t20:=Tryz.underlying20
 a20:=Tryz.isAgg20
 z20:=Tryz.sizeOf20
 v20:=Tryz.zeroValue20
 t22:=Tryz.underlying27
 a22:=Tryz.isAgg27
 z22:=Tryz.sizeOf27
 v22:=Tryz.zeroValue27 }
theorem Tryz.infoTw:(Tryz.prog.info? 45).map (fun i=>(i.zero,i.size,i.bytes))=some (some (.agg #[.bool false,.slice none 0 0,.slice none 0 0,.int .i64 0,.bool false,.int .u64 0,.slice none 0 0,.slice none 0 0]),8,128):=by kernel_rfl
theorem zcW_size (k:Nat):(Builtin.zeroCells (.agg #[.bool false,.slice none 0 0,.slice none 0 0,.int .i64 0,.bool false,.int .u64 0,.slice none 0 0,.slice none 0 0]:Value).cells k).size=k*8:=by
 simp [Builtin.zeroCells,Value.cells]
theorem growW_any (n:Nat) (hn:n<=1000000000) (w:World):Calls Tryz.prog 132 #[.slice none 0 0,.int .i64 n] w fun e w'=>∃ v,e=.returned v/\FO 45 8 w' w.heap.size v []/\Below w.heap.size w w':=by
 by_cases h0:n=0
 ·subst h0
  have hcon:=Any8.slices_Grow_room Tryz.laysGrow none 0 0 0 w (by decide) (by decide) (by decide) (by decide)
  change Calls Tryz.prog 132 _ _ _ at hcon
  exact hcon.mono fun e w' ⟨he,hw⟩=>⟨_,he,FO.nil _ _ _ _,by rw [hw]; exact Below.refl _ _⟩
 ·obtain ⟨i,hi,hz0,hsz,hby⟩:=info_parts Tryz.infoTw
  have hcon:=Any8.slices_Grow_grow Tryz.laysGrow i _ hi hz0 (by rw [hsz]; decide) none 0 0 n [] w (by decide) (by omega) (by rw [hby]; omega) (by omega) (by simp) (fun _=>rfl) (fun a h=>by cases h)
  change Calls Tryz.prog 132 _ _ _ at hcon
  refine hcon.mono ?_
  rintro e w' ⟨he,rfl⟩
  simp only [Nat.zero_add,Nat.sub_zero] at he ⊢
  have hge:=grownCap_ge w n 0 45
  have hle:=grownCap_le_maxLen w n 0 45 (by unfold maxLen; omega)
  change Ending at e
  obtain ⟨cap,hcap⟩:∃ cap,grownCap w n 0 45=cap:=⟨_,rfl⟩
  have hcap':=hcap
  change grownCap w n 0 (Tryz.laysGrow_ren.t 25)=cap at hcap'
  rw [hcap] at hge hle
  rw [hcap'] at he ⊢
  have hheap:=heap_alloc_new w.drew (.cells (([]:List Value).toArray++Builtin.zeroCells (.agg #[.bool false,.slice none 0 0,.slice none 0 0,.int .i64 0,.bool false,.int .u64 0,.slice none 0 0,.slice none 0 0]:Value).cells n++Builtin.zeroCells (.agg #[.bool false,.slice none 0 0,.slice none 0 0,.int .i64 0,.bool false,.int .u64 0,.slice none 0 0,.slice none 0 0]:Value).cells (cap-n)) 45)
  refine ⟨_,he,⟨⟨rfl,.inr ⟨w.heap.size,cap,_,rfl,Nat.le_refl _,hheap,Nat.zero_le _,hle,?_,rfl⟩⟩,fun cs h=>by cases h⟩,((Below.refl _ _).drew).alloc (Nat.le_refl _) _⟩
  simp only [Array.size_append,zcW_size,List.size_toArray,List.length_nil]
  omega
theorem twC_len (xs:List Tw):∀ cs∈xs.map twC,cs.length=8:=fun cs hc=>by
 obtain ⟨x,_,rfl⟩:=List.mem_map.1 hc; rfl
theorem twC_one (xs:List Tw):∀ cs∈xs.map twC,∀ u∈cs,u.oneCell'=true:=fun cs hc u hu=>by
 obtain ⟨x,_,rfl⟩:=List.mem_map.1 hc; exact twC_1 x u hu
theorem wp_appW {w:World} {ops:Array Oper} {rest:List Oper} {o:Oper} {a:Act} {Q:EP} (hgd:o.guard=none) (s x:Operand)
  (ho:o.op=.call { callee:=.builtin .append,args:=#[s,x],argTypes:=#[27,27] })
  (base:Nat) (v:Value) (ys:List Tw) (hs:a.eval s=v) (hown:FO 45 8 w base v (ys.map twC))
  (ao:OA) (m c:Nat) (xs:List Tw) (hx:a.eval x=.slice ao m c) (hfl:Fl 8 w ao m c (xs.map twC))
  (hy:ys.length<=1000000) (hm:m<=1000000) (hbase:base<=w.heap.size)
  (h:∀ v' w',FO 45 8 w' base v' ((ys++xs).map twC)->Below base w w'->wpList Tryz.prog ops Q rest (a.put o.dst v') w'):wpList Tryz.prog ops Q (o::rest) a w:=by
 cases ao with
 | none =>
  have hc:=hfl.nil rfl
  have hm0:m=0:=by have:=hfl.le; omega
  subst hm0
  subst hc
  have hxs:xs=[]:=List.eq_nil_of_length_eq_zero hfl.lenMap
  subst hxs
  obtain ⟨i,hi,hz,hsz,hby⟩:=info_parts Tryz.infoTw
  refine wpList_append_own_none hgd s x _ ho base _ i 8 Tryz.underlying27 hi v _ _ hs hown.1 hx ?_
  exact h v w (by rw [List.append_nil]; exact hown) (Below.refl _ _)
 | some ad =>
  refine wp_appF0 hgd s x _ ho _ _ 8 128 Tryz.underlying27 Tryz.infoTw rfl (by decide) base v _ hs hown ad m c _ hx hfl (twC_len xs) (twC_one xs) ?_ ?_ hbase ?_
  ·rw [List.length_map]; omega
  ·rw [List.length_map]; omega
  ·intro v' w' h1 _ h3
   exact h v' w' (by rw [List.map_append]; exact h1) h3
theorem concatW_any (G:Nat) (ao:OA) (n cap:Nat) (l:List Tw) (bo:OA) (m cap':Nat) (l':List Tw) (w:World) (h:Fl 8 w ao n cap (l.map twC)) (h':Fl 8 w bo m cap' (l'.map twC)) (g0:w.cell? ⟨G,0,none⟩=some (.slice ao n cap)) (g1:w.cell? ⟨G,1,none⟩=some (.slice bo m cap')) (hn:n<=4096) (hm:m<=4096) :
  Calls Tryz.prog 90 #[.slice (some ⟨G,0,none⟩) 2 2] w fun e w'=>(∃ v,e=.returned v/\FO 45 8 w' w.heap.size v ((l++l').map twC))/\Below w.heap.size w w':=by
 have hgrow:=hid (growW_any (n+m) (by omega) w)
 have hpush:((n+m:Nat):Int)=(n:Int)+(m:Int):=by omega
 rw [hpush] at hgrow
 clear hpush
 have hln:=hid h.lenMap
 have hlm:=hid h'.lenMap
 go_enter Tryz.func90,Tryz.ntmps90
 go_wp2_with fail
 go_loopw [11,3] (fun iv sv wr=>∃ k s:Int,(k=0\/k=1\/k=2)/\iv=.int .i64 k/\sv=.int .i64 s/\Hid ((k=0->s=0)/\(k=1->s=n)/\(k=2->s=n+m))/\w=wr) (fun i _ _=>(2-intOf i).toNat)
 case atStart=>exact ⟨0,0,.inl rfl,rfl,rfl,hid ⟨fun _=>rfl,fun h=>by omega,fun h=>by omega⟩,rfl⟩
 case round =>
  obtain ⟨k,s,hk,rfl,rfl,Hs,rfl⟩:=hrel
  rcases hk with rfl | rfl | rfl
  ·have hs:0=s:=(Hs.out.1 rfl).symm
   subst hs
   clear Hs
   go_wp2_with fail
   go_roundw
   case rel=>exact ⟨1,n,.inr (.inl rfl),by go_num,by go_num,hid ⟨fun h=>by omega,fun _=>rfl,fun h=>by omega⟩,by trivial⟩
   case measure=>simp [intOf]
  ·have hs:(n:Int)=s:=(Hs.out.2.1 rfl).symm
   subst hs
   clear Hs
   go_wp2_with fail
   go_roundw
   case rel=>exact ⟨2,n+m,.inr (.inr rfl),by go_num,by go_num,hid ⟨fun h=>by omega,fun h=>by omega,fun _=>rfl⟩,by trivial⟩
   case measure=>simp [intOf]
  ·have hs:(n:Int)+m=s:=(Hs.out.2.2 rfl).symm
   subst hs
   clear Hs
   go_wp2_with fail
   refine hgrow.out.mono ?_; rintro e w1 ⟨v1,rfl,hown,hb1⟩
   go_wp2_with fail
   go_loopw [27,6] (fun iv vv wr=>∃ (k:Int) (v:Value) (ps:List Tw),(k=0\/k=1\/k=2)/\iv=.int .i64 k/\v=vv/\FO 45 8 wr w.heap.size v (ps.map twC)/\Hid ((k=0->ps=[])/\(k=1->ps=l)/\(k=2->ps=l++l'))/\Below w.heap.size w wr) (fun i _ _=>(2-intOf i).toNat)
   case atStart=>exact ⟨0,v1,[],.inl rfl,rfl,rfl,hown,hid ⟨fun _=>rfl,fun h=>by omega,fun h=>by omega⟩,hb1⟩
   case round =>
    clear hown hb1
    obtain ⟨k,v,ps,hk,rfl,rfl,hown,Hs,hbel⟩:=hrel
    have c0:=((bcell hbel).1 _ _ (World.block_lt_of_cell? _ _ g0)).trans g0
    have c1:=((bcell hbel).1 _ _ (World.block_lt_of_cell? _ _ g1)).trans g1
    rcases hk with rfl | rfl | rfl
    ·obtain rfl:=Hs.out.1 rfl
     clear Hs
     have hl:=h.next hbel
     go_wp2_with (at_builtin; refine wp_appW rfl (.tmp 31) (.tmp 32) rfl w.heap.size _ [] rfl hown ao n cap l rfl hl (by decide) (by omega) hbel.size ?_)
     intro v' w2 hown2 hb2
     have hb3:=hbel.trans hb2
     clear c0 c1
     go_wp2_with fail
     go_roundw
     case rel=>exact ⟨1,v',l,.inr (.inl rfl),by go_num,rfl,hown2,hid ⟨fun h=>by omega,fun _=>rfl,fun h=>by omega⟩,hb3⟩
     case measure=>simp [intOf]
    ·obtain rfl:=Hs.out.2.1 rfl
     clear Hs
     have hl:=h'.next hbel
     go_wp2_with (at_builtin; refine wp_appW rfl (.tmp 31) (.tmp 32) rfl w.heap.size _ ps rfl hown bo m cap' l' rfl hl (by rw [hln.out]; omega) (by omega) hbel.size ?_)
     intro v' w2 hown2 hb2
     have hb3:=hbel.trans hb2
     clear c0 c1
     go_wp2_with fail
     go_roundw
     case rel=>exact ⟨2,v',ps++l',.inr (.inr rfl),by go_num,rfl,by rw [List.map_append] at *; exact hown2,hid ⟨fun h=>by omega,fun h=>by omega,fun _=>rfl⟩,hb3⟩
     case measure=>simp [intOf]
    ·have hy0:=hid (Hs.out.2.2 rfl)
     clear Hs
     go_wp2_with fail
     go_ret
     exact ⟨⟨_,rfl,by have h9:=hown; rw [hy0.out,List.map_append] at h9; exact h9⟩,hbel⟩
end
section
open Go.RowKit
theorem wp_loadTw {ops:Array Oper} {rest:List Oper} {o:Oper} {a:Act} {w:World} {Q:EP} (hgd:o.guard=none) (x:Operand) (ho:o.op=.load 45 x)
  (b off:Nat) (hx:a.eval x=.pointer (some ⟨b,off,none⟩)) (y:Tw) (hc:Cs w b off (twC y)) (h:wpList Tryz.prog ops Q rest (a.put o.dst (.agg (twC y).toArray)) w):wpList Tryz.prog ops Q (o::rest) a w :=
 wp_loadC hgd _ x ho b off hx (twC y) hc _ Tryz.underlying45 rfl Tryz.sizeTw h
theorem wp_storeVTw {ops:Array Oper} {rest:List Oper} {o:Oper} {a:Act} {w:World} {Q:EP} (hgd:o.guard=none) (x y:Operand) (ho:o.op=.store 45 x y)
  (T:TypeId) (zs:Array Value) (hx:a.eval x=.pointer (some ⟨w.heap.size,0,none⟩)) (z:Tw) (hk:zs.size=8) (hy:a.eval y=.agg (twC z).toArray)
  (h:wpList Tryz.prog ops Q rest (a.put o.dst undef) (w.alloc (.cells (twC z).toArray T))):wpList Tryz.prog ops Q (o::rest) a (w.alloc (.cells zs T)) :=
 wp_storeV hgd _ x y ho T zs hx (twC z) hk.symm hy (twC_1 z) Tryz.sizeTw h
theorem empty_any (syms:Nat) (N:Au) (hl:∀ x∈N.arcs,1<=x.2.1) (io:OA) (ci:Nat) (fo:OA) (cf:Nat) (ro:OA) (nr cr:Nat) (vo:OA) (cv:Nat) (w:World) (h:Vm w syms N io ci fo cf ro nr cr vo cv) (hn:nr<=4096) :
  Calls Tryz.prog 61 #[.agg (viC syms N.st (.slice io N.st ci) (.slice fo N.st cf) (.slice ro nr cr) (.slice vo (N.st+1) cv)).toArray] w fun e w'=>e=.returned (.bool false)/\Below w.heap.size w w':=by
 have hb0:Below w.heap.size w (w.alloc (.cells (viC syms N.st (.slice io N.st ci) (.slice fo N.st cf) (.slice ro nr cr) (.slice vo (N.st+1) cv)).toArray 63)):=below_alloc _
 have hG:=Bl.fresh w (viC syms N.st (.slice io N.st ci) (.slice fo N.st cf) (.slice ro nr cr) (.slice vo (N.st+1) cv)) 63
 have hf:=hid (h.mo.arcs.next hb0)
 have hnl:=hid h.mo.arcs.lenMap
 have hl:=hid hl
 clear h
 have x6:=hG.cell (i:=6) rfl
 go_enter Tryz.func61,Tryz.ntmps61
 go_upto_region 1 with fail
 generalize (w.alloc (.cells (viC syms N.st (.slice io N.st ci) (.slice fo N.st cf) (.slice ro nr cr) (.slice vo (N.st+1) cv)).toArray 63))=W0 at *
 go_wp2_with fail
 go_loopw [9] (fun iv wr=>∃ k:Nat,k<=nr/\iv=.int .i64 (k:Int)/\Below W0.heap.size W0 wr) (fun iv _=>nr-(intOf iv).toNat)
 case atStart=>exact ⟨0,by omega,rfl,Below.refl _ _⟩
 case round =>
  obtain ⟨k,hk,rfl,hb⟩:=hrel
  by_cases hlt:k<nr
  ·obtain ⟨x,hxk,b,off,rfl,hcs⟩:=(hf.out.next hb).get hlt
   have i1:(k:Int)<(nr:Int):=by omega
   have i0:(0:Int)<=(k:Int):=by omega
   have hx1:=hl.out x (List.mem_of_getElem? hxk)
   have hx2:((x.2.1:Int)==0)=false:=by rw [beq_eq_false_iff_ne]; omega
   have hx3:¬ (x.2.1:Int)=0:=by omega
   have Hxk:=hid hxk
   have hbX:Below wr.heap.size wr (wr.alloc (.cells (acC x).toArray 54)):=below_alloc _
   have hX:=Bl.fresh wr (acC x) 54
   have z1:=hX.cell (i:=1) rfl
   clear hxk hX
   go_upto_region 4 with ((first | ((with_reducible refine wp_loadArc rfl _ rfl b (off+k*11) ?_ x hcs ?_); exact rfl) | ((with_reducible refine wp_storeVArc rfl _ _ rfl _ _ ?_ x ?_ ?_ ?_); exact rfl; exact rfl; exact rfl)))
   have hb2:=hb.trans (hbX.mono hb.size)
   generalize hW2:(wr.alloc (.cells (acC x).toArray 54))=W2 at *
   clear hW2
   go_wp2_with fail
   go_roundw
   case rel=>exact ⟨k+1,by omega,by go_num,hb2⟩
   case measure=>simp [intOf]; omega
  ·have i1:¬ (k:Int)<(nr:Int):=by omega
   go_wp2_with fail
   go_ret
   exact ⟨rfl,below_chain hb0 hb⟩
theorem weightsD_any (syms:Nat) (N:Au) (io:OA) (ci:Nat) (fo:OA) (cf:Nat) (ro:OA) (nr cr:Nat) (vo:OA) (cv:Nat) (w:World) (h:Vm w syms N io ci fo cf ro nr cr vo cv) (hn:nr<=4096) (hst:N.st<=64) :
  Calls Tryz.prog 62 #[.agg (viC syms N.st (.slice io N.st ci) (.slice fo N.st cf) (.slice ro nr cr) (.slice vo (N.st+1) cv)).toArray] w fun e w'=>(∃ v,e=.returned v/\FO 45 8 w' w.heap.size v ((N.ini++N.fin++N.arcs.map wt).map twC))/\Below w.heap.size w w':=by
 have hb0:Below w.heap.size w (w.alloc (.cells (viC syms N.st (.slice io N.st ci) (.slice fo N.st cf) (.slice ro nr cr) (.slice vo (N.st+1) cv)).toArray 63)):=below_alloc _
 have hG:=Bl.fresh w (viC syms N.st (.slice io N.st ci) (.slice fo N.st cf) (.slice ro nr cr) (.slice vo (N.st+1) cv)) 63
 have hmw:=hid h
 have hm:=hid (h.next hb0)
 have hnl:=hid h.mo.arcs.lenMap
 have hl1:=hid h.mo.ini.lenMap
 have hl2:=hid h.mo.fin.lenMap
 clear h
 have x4:=hG.cell (i:=4) rfl
 have x5:=hG.cell (i:=5) rfl
 have x6:=hG.cell (i:=6) rfl
 go_enter Tryz.func62,Tryz.ntmps62
 go_upto_region 1 with fail
 generalize (w.alloc (.cells (viC syms N.st (.slice io N.st ci) (.slice fo N.st cf) (.slice ro nr cr) (.slice vo (N.st+1) cv)).toArray 63))=W0 at *
 have hbN:Below W0.heap.size W0 (W0.alloc (.cells #[.slice io N.st ci,.slice fo N.st cf] 27)):=below_alloc _
 have hnew:=Bl.fresh W0 [.slice io N.st ci,.slice fo N.st cf] 27
 have hm1:=hid (hm.out.next hbN)
 have hfi:Hid (Fl 8 (W0.alloc (.cells #[.slice io N.st ci,.slice fo N.st cf] 27)) io N.st ci (N.ini.map twC)):=hid hm1.out.mo.ini
 have hff:Hid (Fl 8 (W0.alloc (.cells #[.slice io N.st ci,.slice fo N.st cf] 27)) fo N.st cf (N.fin.map twC)):=hid hm1.out.mo.fin
 have hG1:=hG.next hbN
 go_wp2_with fail
 refine (concatW_any W0.heap.size io N.st ci N.ini fo N.st cf N.fin _ hfi.out hff.out (hnew.cell (i:=0) rfl) (hnew.cell (i:=1) rfl) (by omega) (by omega)).mono ?_; rintro e w1 ⟨⟨v1,rfl,hc1⟩,hb1⟩
 have hG2:=hG1.next hb1
 have x6:=hG2.cell (i:=6) rfl
 have hm2:=hid (hm1.out.next hb1)
 have hbA:Below w.heap.size w w1:=below_chain (below_chain hb0 hbN) hb1
 have hbs:w.heap.size<=W0.heap.size/\W0.heap.size<=(W0.alloc (.cells #[.slice io N.st ci,.slice fo N.st cf] 27)).heap.size:=⟨hb0.size,hbN.size⟩
 have hc2:=hc1.mono (base':=w.heap.size) (Nat.le_trans hbs.1 hbs.2)
 clear hc1 hG hG1 x4 x5 hnew
 go_wp2_with fail
 go_loopw [3,18] (fun ov iv wr=>∃ (v:Value) (k:Nat),v=ov/\k<=nr/\iv=.int .i64 (k:Int)/\FO 45 8 wr w.heap.size v ((N.ini++N.fin++(N.arcs.take k).map wt).map twC)/\Below w.heap.size w wr) (fun _ iv _=>nr-(intOf iv).toNat)
 case atStart=>exact ⟨v1,0,rfl,by omega,rfl,by rw [List.take_zero,List.map_nil,List.append_nil]; exact hc2,hbA⟩
 case round =>
  obtain ⟨v,k,rfl,hk,rfl,hC,hb⟩:=hrel
  have hfr:=hmw.out.mo.arcs.next hb
  by_cases hlt:k<nr
  ·obtain ⟨x,hxk,b,off,rfl,hcs⟩:=hfr.get hlt
   have i1:(k:Int)<(nr:Int):=by omega
   have i0:(0:Int)<=(k:Int):=by omega
   have Hxk:Hid ((N.arcs.take (k+1)).map wt=(N.arcs.take k).map wt++[wt x]):=hid (take_map_step hxk)
   have hlen:Hid ((N.ini++N.fin++(N.arcs.take k).map wt).length<=5000):=hid (by
    rw [List.length_append,List.length_append,List.length_map,List.length_take,hl1.out,hl2.out]; omega)
   clear hxk
   have hbX:Below wr.heap.size wr (wr.alloc (.cells (acC x).toArray 54)):=below_alloc _
   have hX:=Bl.fresh wr (acC x) 54
   go_upto_region 5 with ((first | ((with_reducible refine wp_loadArc rfl _ rfl b (off+k*11) ?_ x hcs ?_); exact rfl) | ((with_reducible refine wp_storeVArc rfl _ _ rfl _ _ ?_ x ?_ ?_ ?_); exact rfl; exact rfl; exact rfl)))
   have hC1:=hC.next hbX
   have hb2:=hb.trans (hbX.mono hb.size)
   have hXw:=hX.cs.part 3 (twC (wt x)) (acC_wt x)
   generalize hW2:(wr.alloc (.cells (acC x).toArray 54))=W2 at *
   generalize hGX:wr.heap.size=GX at *
   clear hW2 hX hC hcs hfr
   go_wp2_with (first | ((with_reducible refine wp_loadTw rfl _ rfl GX 3 ?_ (wt x) hXw ?_); exact rfl) | (at_builtin; go_loud (refine wp_appW rfl (.tmp 22) (.tmp 25) rfl w.heap.size v _ rfl (hC1.next (below_alloc _)) (some ⟨W2.heap.size,0,none⟩) 1 1 [wt x] rfl (Fl.lit1 W2 (twC (wt x)) _ 8 rfl) ?_ (by decide) ?_ ?_); exact Nat.le_trans hlen.out (by decide); exact Nat.le_trans hb2.size (below_alloc _).size; intro v' w7 hC7 hb7; have hb8:=hb2.trans (((below_alloc _).mono hb2.size).trans hb7)))
   go_roundw
   case rel=>exact ⟨v',k+1,rfl,by omega,by go_num,by rw [Hxk.out,<-List.append_assoc]; exact hC7,hb8⟩
   case measure=>simp [intOf]; omega
  ·obtain rfl:k=nr:=by omega
   have i1:¬ (k:Int)<(k:Int):=by omega
   have htk:Hid (N.arcs.take k=N.arcs):=hid (List.take_of_length_le (by rw [hnl.out]; exact Nat.le_refl _))
   go_wp2_with fail
   go_ret
   have h9:=hC
   rw [htk.out] at h9
   exact ⟨⟨v,rfl,by simpa using h9⟩,hb⟩
end
end Go.Proofs.YtnapapijhhldpaaGreatDoor

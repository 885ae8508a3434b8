/-
  Texts joined by program: Twp, Twq, Twr, Ag. No condition of its own.
-/
import Derived.Test.YtnapapijhhldpaaGreatDoorJtAG
namespace Go.Proofs.YtnapapijhhldpaaGreatDoor
set_option linter.unusedSimpArgs false
set_option linter.unusedVariables false
set_option maxRecDepth 100000
set_option maxHeartbeats 4000000
section
open Go.Shelf Go.RowKit Go.Lib
theorem insInner_id {α:Type} [Inhabited α] {lt:α->α->Bool} {d:Array α} {a b:Nat} (h:Go.Sort.SortedIn lt a b d):∀ i,i<b->Go.Sort.insInner lt a i d=d
 | 0,_=>rfl
 | j+1,hb=>by
  unfold Go.Sort.insInner
  by_cases hj:j+1>a
  ·rw [h j (j+1) (by omega) (by omega) hb]; simp
  ·simp [hj]
theorem insOuter_id {α:Type} [Inhabited α] {lt:α->α->Bool} {d:Array α} {a b:Nat} (h:Go.Sort.SortedIn lt a b d):∀ m i,b-i<=m->Go.Sort.insOuter lt a b i d=d
 | 0,i,hm=>by rw [Go.Sort.insOuter,if_neg (by omega)]
 | m+1,i,hm=>by
  rw [Go.Sort.insOuter]
  by_cases hi:i<b
  ·rw [if_pos hi,insInner_id h i hi]
   exact insOuter_id h m (i+1) (by omega)
  ·rw [if_neg hi]
theorem insertion_id {α:Type} [Inhabited α] {lt:α->α->Bool} {d:Array α} {a b:Nat} (h:Go.Sort.SortedIn lt a b d):Go.Sort.insertionSort lt d a b=d:=insOuter_id h _ _ (Nat.le_refl _)
theorem up_sorted {L:List Ac} (h:UpA L) (a b:Nat) (hb:b<=L.length):Go.Sort.SortedIn (ltOf cfA) a b L.toArray:=fun i j hi hij hj=>by
 unfold UpA at h
 rw [List.pairwise_iff_getElem] at h
 have:=h i j (by omega) (by omega) hij
 rw [ltA,getElem!_pos L.toArray i (by rw [List.size_toArray]; omega),getElem!_pos L.toArray j (by rw [List.size_toArray]; omega)]
 simpa using this
theorem insertS_any (base g n cap a b:Nat) (xs:List Ac) (w:World) (h:FO 54 11 w base (.slice (some ⟨g,0,none⟩) n cap) (xs.map acC)) (hn:n<=4096) (hab:a<=b) (hbn:b<=n) (hu:UpA xs) :
  Calls Tryz.prog 293 #[.slice (some ⟨g,0,none⟩) n cap,.int .i64 (a:Int),.int .i64 (b:Int),.func (.func 170) #[] #[]] w fun e w'=>e=.returned (.tuple #[])/\Below w.heap.size w w':=by
 have hlx:xs.length=n:=fo_len h
 have hfx:=flat_len (acC_len xs)
 rw [List.length_map] at hfx
 obtain ⟨hown,hk⟩:=h
 rw [List.length_map] at hown
 rcases hown.2 with ⟨hv,_⟩ | ⟨g',cap',cur,hv,hb,hg,hnc,hcm,hcs,htake⟩
 ·cases hv
 ·injection hv with hv1 hv2 hv3
  injection hv1 with hv1
  injection hv1 with hv1
  subst hv1 hv3 hlx
  have hgl:g<w.heap.size:=(Array.getElem?_eq_some_iff.1 hg).1
  have hH:Go.Sort.HoldsK acC 11 w g 0 xs.toArray:=by
   intro j hj
   rw [flatA] at hj ⊢
   have hj':j<((xs.map acC).flatten).length:=by simpa using hj
   refine ⟨?_,by simp [World.frozen?,hg]⟩
   have:=hown.cellAt j (by rw [hfx] at hj'; exact hj')
   rw [Nat.zero_add,this,List.getElem?_eq_getElem hj',getElem!_pos _ j hj]
   simp
  have eg:∀ args w,(callFunc 170 args).run Tryz.prog w=.ok (.enter 170 args) w:=enters_of Tryz.func170 (by kernel_rfl) rfl
  have hcon:=AnyQ.insertionSortCmpFunc Tryz.laysIns 11 Tryz.isAgg54 Tryz.sizeOf54 acC (fun _=>rfl) (fun x u hu=>acC_one [x] (acC x) (by simp) u hu) cfA 170 #[] g 0 cap a b xs.toArray w eg (order_lays g 0 _ w) hH hgl hab (by rw [List.size_toArray]; exact hbn) (by rw [List.size_toArray]; omega)
  change Calls Tryz.prog 293 _ _ _ at hcon
  rw [List.size_toArray,insertion_id (up_sorted hu a b hbn)] at hcon
  refine hcon.mono ?_
  rintro e w' ⟨he,m,os,rfl⟩
  refine ⟨he,?_⟩
  have hw:sortWorldK acC 11 w g 0 m xs.toArray os=Go.Sort.grow (Go.Sort.ahead w m) os:=by
   unfold sortWorldK
   congr 1
   exact Go.Sort.putRowK_self acC 11 (Go.Sort.ahead w m) g 0 xs.toArray (Go.Sort.holdsK_ahead acC 11 w m g 0 xs.toArray hH)
  rw [hw]
  exact (Below.refl _ _).grown (row:=none) ⟨rfl,rfl,rfl,by simp [Go.Sort.ahead],fun k hk _=>by rw [Go.Sort.heap_grow_old _ _ (by simpa [Go.Sort.ahead] using hk)]; rfl⟩ (Nat.le_refl _) (fun k hk=>by cases hk)
end
section
open Go.RowKit
theorem nz_none {x:Ac}:nz x=true↔¬ wt x=none:=by unfold nz; cases wt x<;>simp
theorem indexT_any (xs:List Ac) (G:Nat) (ao:OA) (n cap:Nat) (w:World) (h:Fl 11 w ao n cap (xs.map acC)) (hG:Bl G [.int .i64 2,.slice none 0 0] 26 w) :
  Calls Tryz.prog 143 #[.slice ao n cap,.func (.func 172) #[] #[.pointer (some ⟨G,0,none⟩)]] w fun e w' =>
   (∃ r:Int,e=.returned (.int .i64 r)/\((r = -1/\∀ x∈xs,nz x=true)\/∃ i:Nat,r=(i:Int)/\i<n/\(∀ x∈xs.take i,nz x=true)/\∃ x,xs[i]? = some x/\nz x=false))/\Below w.heap.size w w':=by
 have hbd:=h.bound
 have hl:=hid h.lenMap
 go_enter Tryz.func143,Tryz.ntmps143
 go_wp2_with fail
 go_loopw [8] (fun iv wr=>∃ k:Nat,k<=n/\iv=.int .i64 k/\Hid (∀ x∈xs.take k,nz x=true)/\Below w.heap.size w wr) (fun i _=>n-(intOf i).toNat)
 case atStart=>exact ⟨0,by omega,rfl,hid (fun x hx=>by simp at hx),Below.refl _ _⟩
 case round =>
  obtain ⟨k,hk,rfl,hall,hb⟩:=hrel
  have hf:=h.next hb
  have hGr:=hG.next hb
  by_cases hlt:k<n
  ·obtain ⟨x,hxk,b,off,rfl,hcs⟩:=hf.get hlt
   obtain ⟨⟨x0,x1,x2,x3⟩,⟨x4,x5,x6,x7⟩,x8,x9,x10⟩:=hcs.eleven
   have hxk:=hid hxk
   obtain ⟨q,hq⟩:∃ q,decide (wt x=none)=q:=⟨_,rfl⟩
   have ht:=hid (fun W h=>tidy1_any x G W h)
   rw [hq] at ht
   have Hq:=hid hq
   clear hq
   go_wp2_with fail
   refine (ht.out _ hGr).mono ?_; rintro e w' ⟨rfl,hb'⟩
   cases q with
   | false =>
    go_wp2_with fail
    go_round
    case rel=>exact ⟨k+1,by omega,by go_num,hid (fun z hz=>by
     rw [List.take_succ_eq_append_getElem (List.getElem?_eq_some_iff.1 hxk.out).1] at hz
     rcases List.mem_append.1 hz with hz | hz
     ·exact hall.out z hz
     ·obtain rfl:z=x:=by rw [List.mem_singleton] at hz; rw [hz,(List.getElem?_eq_some_iff.1 hxk.out).2]
      exact nz_none.2 (of_decide_eq_false Hq.out)),below_chain hb hb'⟩
    case measure=>simp [intOf]; omega
   | true =>
    go_wp2_with fail
    go_ret
    exact ⟨⟨k,rfl,.inr ⟨k,rfl,hlt,hall.out,x,hxk.out,by
     cases hz:nz x with
     | false=>rfl
     | true=>exact absurd (of_decide_eq_true Hq.out) (nz_none.1 hz)⟩⟩,below_chain hb hb'⟩
  ·go_wp2_with fail
   go_ret
   refine ⟨⟨-1,rfl,.inl ⟨rfl,?_⟩⟩,hb⟩
   have:=hall.out
   rw [List.take_of_length_le (by rw [hl.out]; omega)] at this
   exact this
end
section
open Go.RowKit
section
variable {e:TypeId} {k base g n cap:Nat} {w:World} {css:List (List Value)}
theorem flat_take {k:Nat}:∀ {css:List (List Value)},(∀ cs∈css,cs.length=k)->∀ i,css.flatten.take (i*k)=(css.take i).flatten
 | [],_,i=>by simp
 | x::r,hk,0=>by simp
 | x::r,hk,i+1=>by
  have hx:x.length=k:=hk x (List.mem_cons_self ..)
  have ih:=flat_take (css:=r) (fun cs h=>hk cs (List.mem_cons_of_mem _ h)) i
  rw [List.flatten_cons,List.take_succ_cons,List.flatten_cons,<-ih,Nat.add_mul,Nat.one_mul,List.take_append,hx,List.take_of_length_le (by omega),Nat.add_sub_cancel]
theorem FO.front (h:FO e k w base (.slice (some ⟨g,0,none⟩) n cap) css) {i:Nat} (hi:i<=n):FO e k w base (.slice (some ⟨g,0,none⟩) i cap) (css.take i):=by
 obtain ⟨⟨h1,h2⟩,hk⟩:=h
 rcases h2 with ⟨hv,_⟩ | ⟨g',cap',cur,hv,hg,hh,hnc,hcm,hcs,htake⟩
 ·cases hv
 ·injection hv with hv1 hv2 hv3
  injection hv1 with hv1
  injection hv1 with hv1
  subst hv1 hv3 hv2
  have hl:(css.take i).length=i:=by rw [List.length_take]; omega
  have hfl:=flat_len (css:=css.take i) (fun cs h=>hk cs (List.mem_of_mem_take h))
  rw [hl] at hfl
  refine ⟨⟨by rw [hl]; exact hfl,.inr ⟨g,cap,cur,by rw [hl],hg,hh,by rw [hl]; omega,hcm,hcs,?_⟩⟩,fun cs h=>hk cs (List.mem_of_mem_take h)⟩
  rw [hl,<-flat_take hk i,<-htake,List.take_take,Nat.min_eq_left (Nat.mul_le_mul_right _ hi)]
theorem FO.behind (hl:css.length=n):∀ (vs:List Value) (o:Nat) {w:World},FO e k w base (.slice (some ⟨g,0,none⟩) n cap) css->n*k<=o->FO e k (w.setCells g o vs) base (.slice (some ⟨g,0,none⟩) n cap) css
 | [],_,_,h,_=>h
 | v::r,o,w,h,ho=>by
  refine FO.behind hl r (o+1) (w:=w.setCell ⟨g,o,none⟩ v) ?_ (by omega)
  obtain ⟨h1,hk⟩:=h
  rw [hl] at h1
  have:=(h1.stored o v).1
  rw [List.set_eq_of_length_le (by have:=flat_len hk; rw [hl] at this; omega)] at this
  exact ⟨by rw [hl]; exact this,hk⟩
end
theorem run_clearK {P:Program} (w:World) (t e ty:TypeId) (z:Value) (k:Nat) (ht:P.underlying t=some (.slice e)) (hv:∀ w,(zeroValue e).run P w=.ok z w) (hz:z.cells.size=k) (h1:∀ u∈z.cells,u.oneCell'=true) (hk:0<k) (b o n c:Nat) (hn:0<n)
  (hc:∀ j,j<n*k->(w.cell? ⟨b,o+j,none⟩).isSome=true) (hf:∀ j,j<n*k->w.frozen? ⟨b,o+j,none⟩=false) :
  ∃ vs:List Value,vs.length=n*k/\(Builtin.clear_ #[t] ty #[.slice (some ⟨b,o,none⟩) n c]).run P w=.ok (.tuple #[]) (w.setCells b o vs):=by
 have hl:(Builtin.zeroCells z.cells n).toList.length=n*k:=by simp [Builtin.zeroCells,hz]
 refine ⟨(Builtin.zeroCells z.cells n).toList,hl,?_⟩
 have hst:=run_storeCells_cells (P:=P) b o (Builtin.zeroCells z.cells n).toList 0 w (by rw [hl]; simpa using hc) (by rw [hl]; simpa using hf) (by
  intro u hu
  rw [Array.mem_toList_iff] at hu
  simp only [Builtin.zeroCells,Array.mem_map,Array.mem_range] at hu
  obtain ⟨j,hj,rfl⟩:=hu
  have hj2:j%z.cells.size<z.cells.size:=Nat.mod_lt _ (by omega)
  rw [getElem!_pos z.cells _ hj2]
  exact h1 _ (Array.getElem_mem hj2))
 simp only [Nat.add_zero] at hst
 obtain ⟨m,rfl⟩:∃ m,n=m+1:=⟨n-1,by omega⟩
 simp [Builtin.clear_,run_underlying ht,hv,hst]
end
section
open Go.RowKit
theorem run_loadC {P:Program} (w:World) (ty:TypeId) (b off:Nat) (cs:List Value) (d:TypeDesc) (hc:Cs w b off cs) (hu:P.underlying ty=some d) (hd:(match d with | .struct _ | .array _ _=>true | _=>false)=true) (hi:(P.info? ty).map (·.size)=some cs.length) :
  (loadVar ty ⟨b,off,none⟩).run P w=.ok (.agg cs.toArray) w:=by
 have hl:(loadCells ⟨b,off,none⟩ cs.length).run P w=.ok cs.toArray w:=run_loadCells_list (P:=P) w ⟨b,off,none⟩ cs (fun j v hv=>by rw [Addr.add_lit]; exact hc j v hv)
 cases hq:P.info? ty with
 | none=>simp [hq] at hi
 | some i =>
  have hs:i.size=cs.length:=by simpa [hq] using hi
  have hagg:(isAgg ty).run P w=.ok true w:=by
   unfold isAgg
   rw [Sem.run_bind,run_underlying hu w]
   cases d<;>simp_all
  simp [loadVar,Sem.run_bind,hagg,sizeOf,typeInfo,hq,hs,hl]
theorem op_loadC {P:Program} {o:Oper} {a:Act} {w:World} {K:Act->World->Prop} {Q:EP} (ty:TypeId) (x:Operand) (ho:o.op=.load ty x)
  (b off:Nat) (hx:a.eval x=.pointer (some ⟨b,off,none⟩)) (cs:List Value) (hc:Cs w b off cs) (d:TypeDesc)
  (hu:P.underlying ty=some d) (hd:(match d with | .struct _ | .array _ _=>true | _=>false)=true) (hi:(P.info? ty).map (·.size)=some cs.length)
  (h:K (a.put o.dst (.agg cs.toArray)) w):o.wp P a w K Q:=by
 unfold Oper.wp execOp
 simp only [ho,hx,Instr.loadAt,Instr.sureAddr,Sem.run_bind,Sem.run_pure,Result.andThen_ok,run_loadC w ty b off cs d hc hu hd hi]
 exact h
theorem wp_loadC {P:Program} {ops:Array Oper} {rest:List Oper} {o:Oper} {a:Act} {w:World} {Q:EP} (hgd:o.guard=none) (ty:TypeId) (x:Operand) (ho:o.op=.load ty x)
  (b off:Nat) (hx:a.eval x=.pointer (some ⟨b,off,none⟩)) (cs:List Value) (hc:Cs w b off cs) (d:TypeDesc)
  (hu:P.underlying ty=some d) (hd:(match d with | .struct _ | .array _ _=>true | _=>false)=true) (hi:(P.info? ty).map (·.size)=some cs.length)
  (h:wpList P ops Q rest (a.put o.dst (.agg cs.toArray)) w):wpList P ops Q (o::rest) a w :=
 wpList_plain hgd fun _ hK=>op_loadC ty x ho b off hx cs hc d hu hd hi (hK _ _ h)
theorem run_storeC {P:Program} (w:World) (ty:TypeId) (b off:Nat) (cs:List Value) (hc:∀ j,j<cs.length->(w.cell? ⟨b,off+j,none⟩).isSome=true) (hf:∀ j,j<cs.length->w.frozen? ⟨b,off+j,none⟩=false) (h1:∀ v∈cs,v.oneCell'=true)
  (hi:(P.info? ty).map (·.size)=some cs.length):(storeVar ty ⟨b,off,none⟩ (.agg cs.toArray)).run P w=.ok () (w.setCells b off cs):=by
 have hst:=run_storeCells_cells (P:=P) b off cs 0 w (by simpa using hc) (by simpa using hf) h1
 cases hq:P.info? ty with
 | none=>simp [hq] at hi
 | some i =>
  have hs:cs.length=i.size:=by simp [hq] at hi; omega
  simp [storeVar,sizeOf,typeInfo,hq,Value.cells,hs,hst]
theorem fr_setCells (g:Nat):∀ (vs:List Value) (o:Nat) (w:World),Fr (fun k=>k=g) w (w.setCells g o vs)
 | [],_,w=>Fr.refl _ w
 | v::r,o,w=>(Fr.set (T:=fun k=>k=g) w (p:=⟨g,o,none⟩) rfl v).trans (fr_setCells g r (o+1) _)
section
variable {e:TypeId} {k base g n cap i:Nat} {w:World} {css:List (List Value)}
theorem FO.setCells (hi:i<css.length):∀ (vs:List Value) (c:Nat) {w:World} {css:List (List Value)} {x:List Value},FO e k w base (.slice (some ⟨g,0,none⟩) n cap) css->css[i]? = some x->c+vs.length<=k ->
  FO e k (w.setCells g (i*k+c) vs) base (.slice (some ⟨g,0,none⟩) n cap) (css.set i (x.take c++vs++x.drop (c+vs.length)))
 | [],c,w,css,x,h,hx,hc=>by
  have:css.set i x=css:=by
   apply List.ext_getElem?
   intro j
   rw [List.getElem?_set]
   split
   ·rename_i e; subst e; split
    ·exact hx.symm
    ·rename_i hl; exact absurd (List.getElem?_eq_some_iff.1 hx).1 hl
   ·rfl
  simp only [List.append_nil,List.length_nil,Nat.add_zero,List.take_append_drop,this]
  exact h
 | v::r,c,w,css,x,h,hx,hc=>by
  simp only [List.length_cons] at hc
  have hk:x.length=k:=h.2 x (List.mem_of_getElem? hx)
  have h1:=h.put hx (c:=c) (by omega) v
  have hil:i<css.length:=(List.getElem?_eq_some_iff.1 hx).1
  have ih:=FO.setCells hi r (c+1) h1 (x:=x.set c v) (by rw [List.getElem?_set]; simp [hil]) (by omega)
  rw [List.set_set] at ih
  have e1:(x.set c v).take (c+1)=x.take c++[v]:=by
   rw [List.take_succ_eq_append_getElem (by rw [List.length_set]; omega),List.take_set,List.set_eq_of_length_le (List.length_take_le _ _)]
   simp
  have e2:(x.set c v).drop (c+1+r.length)=x.drop (c+1+r.length):=by
   rw [List.drop_set]; simp; intro; omega
  rw [e1,e2] at ih
  simp only [List.length_cons,World.setCells]
  rw [show c+(r.length+1)=c+1+r.length by omega,show i*k+c+1=i*k+(c+1) by omega]
  simpa using ih
theorem FO.setAll (h:FO e k w base (.slice (some ⟨g,0,none⟩) n cap) css) (hi:i<css.length) (cs:List Value) (hk:cs.length=k):FO e k (w.setCells g (i*k) cs) base (.slice (some ⟨g,0,none⟩) n cap) (css.set i cs):=by
 have hx:css[i]? = some css[i]:=by simp [hi]
 have:=FO.setCells hi cs 0 h hx (by omega)
 have hl:css[i].length=k:=h.2 _ (List.getElem_mem hi)
 have e0:css[i].drop k=[]:=List.drop_eq_nil_of_le (by omega)
 simpa [hl,hk,e0] using this
theorem FO.cs (h:FO e k w base (.slice (some ⟨g,0,none⟩) n cap) css) {x:List Value} (hx:css[i]? = some x):Cs w g (i*k) x:=by
 obtain ⟨ao,cap',e1,hf,_⟩:=h.fl
 obtain ⟨b,o,e2,hc⟩:=hf.at_ i x hx
 injection e1 with e1 _ _
 subst e1
 injection e2 with e2
 injection e2 with e2 e3
 subst e2 e3
 rw [Nat.zero_add] at hc
 exact hc
theorem FO.frozen (h:FO e k w base (.slice (some ⟨g,0,none⟩) n cap) css) (j:Nat):w.frozen? ⟨g,j,none⟩=false:=h.free j
end
theorem op_storeF {P:Program} {o:Oper} {a:Act} {w:World} {K:Act->World->Prop} {Q:EP} (ty:TypeId) (x y:Operand) (ho:o.op=.store ty x y)
  (e:TypeId) (k base g n cap:Nat) (css:List (List Value)) (hf:FO e k w base (.slice (some ⟨g,0,none⟩) n cap) css) (i off:Nat) (hi:i<css.length) (hoff:off=i*k)
  (hx:a.eval x=.pointer (some ⟨g,off,none⟩)) (cs:List Value) (hk:cs.length=k) (hy:a.eval y=.agg cs.toArray) (h1:∀ v∈cs,v.oneCell'=true) (hinfo:(P.info? ty).map (·.size)=some cs.length)
  (h:∀ w',FO e k w' base (.slice (some ⟨g,0,none⟩) n cap) (css.set i cs)->Fr (fun k=>k=g) w w'->K (a.put o.dst undef) w'):o.wp P a w K Q:=by
 have hl:css[i].length=k:=hf.2 _ (List.getElem_mem hi)
 have hc:=hf.cs (i:=i) (x:=css[i]) (by simp [hi])
 have hst:=run_storeC (P:=P) w ty g off cs (fun j hj=>by
  have hj':j<css[i].length:=by omega
  rw [hoff,hc j css[i][j] (by simp [hj'])]; rfl) (fun j _=>hf.free _) h1 hinfo
 unfold Oper.wp execOp
 simp only [ho,hx,hy,Instr.storeAt,Instr.sureAddr,Sem.run_bind,Sem.run_pure,Result.andThen_ok,hst]
 refine h _ ?_ (fr_setCells g cs off w)
 rw [hoff]; exact hf.setAll hi cs hk
theorem wp_storeF {P:Program} {ops:Array Oper} {rest:List Oper} {o:Oper} {a:Act} {w:World} {Q:EP} (hgd:o.guard=none) (ty:TypeId) (x y:Operand) (ho:o.op=.store ty x y)
  (e:TypeId) (k base g n cap:Nat) (css:List (List Value)) (hf:FO e k w base (.slice (some ⟨g,0,none⟩) n cap) css) (i off:Nat) (hi:i<css.length) (hoff:off=i*k)
  (hx:a.eval x=.pointer (some ⟨g,off,none⟩)) (cs:List Value) (hk:cs.length=k) (hy:a.eval y=.agg cs.toArray) (h1:∀ v∈cs,v.oneCell'=true) (hinfo:(P.info? ty).map (·.size)=some cs.length)
  (h:∀ w',FO e k w' base (.slice (some ⟨g,0,none⟩) n cap) (css.set i cs)->Fr (fun k=>k=g) w w'->wpList P ops Q rest (a.put o.dst undef) w'):wpList P ops Q (o::rest) a w :=
 wpList_plain hgd fun _ hK=>op_storeF ty x y ho e k base g n cap css hf i off hi hoff hx cs hk hy h1 hinfo fun w' h2 h3=>hK _ _ (h w' h2 h3)
theorem Bl.setAll {G:Nat} {T:TypeId}:∀ (vs:List Value) (c:Nat) {w:World} {cs:List Value},Bl G cs T w->c+vs.length<=cs.length->Bl G (cs.take c++vs++cs.drop (c+vs.length)) T (w.setCells G c vs)
 | [],c,w,cs,h,_=>by simpa [World.setCells] using h
 | v::r,c,w,cs,h,hc=>by
  simp only [List.length_cons] at hc
  have ih:=Bl.setAll r (c+1) (h.put c v) (by rw [List.length_set]; omega)
  have e1:(cs.set c v).take (c+1)=cs.take c++[v]:=by
   rw [List.take_succ_eq_append_getElem (by rw [List.length_set]; omega),List.take_set,List.set_eq_of_length_le (List.length_take_le _ _)]
   simp
  have e2:(cs.set c v).drop (c+1+r.length)=cs.drop (c+1+r.length):=by
   rw [List.drop_set]; simp; intro; omega
  rw [e1,e2] at ih
  simp only [List.length_cons,World.setCells]
  rw [show c+(r.length+1)=c+1+r.length by omega]
  simpa using ih
theorem Bl.cs {G:Nat} {cs:List Value} {T:TypeId} {w:World} (h:Bl G cs T w):Cs w G 0 cs:=fun c v hv=>by rw [Nat.zero_add]; exact h.cell hv
theorem op_storeB {P:Program} {o:Oper} {a:Act} {w:World} {K:Act->World->Prop} {Q:EP} (ty:TypeId) (x y:Operand) (ho:o.op=.store ty x y)
  (G:Nat) (T:TypeId) (old:List Value) (hG:Bl G old T w) (hx:a.eval x=.pointer (some ⟨G,0,none⟩)) (cs:List Value) (hk:cs.length=old.length) (hy:a.eval y=.agg cs.toArray) (h1:∀ v∈cs,v.oneCell'=true) (hinfo:(P.info? ty).map (·.size)=some cs.length)
  (h:∀ w',Bl G cs T w'->Fr (fun k=>k=G) w w'->K (a.put o.dst undef) w'):o.wp P a w K Q:=by
 have hst:=run_storeC (P:=P) w ty G 0 cs (fun j hj=>by
  rw [Nat.zero_add,hG.cell (i:=j) (v:=old[j]) (by simp)]; rfl) (fun j _=>hG.free _) h1 hinfo
 unfold Oper.wp execOp
 simp only [ho,hx,hy,Instr.storeAt,Instr.sureAddr,Sem.run_bind,Sem.run_pure,Result.andThen_ok,hst]
 refine h _ ?_ (fr_setCells G cs 0 w)
 have:=hG.setAll cs 0 (by omega)
 simpa [hk] using this
theorem wp_storeB {P:Program} {ops:Array Oper} {rest:List Oper} {o:Oper} {a:Act} {w:World} {Q:EP} (hgd:o.guard=none) (ty:TypeId) (x y:Operand) (ho:o.op=.store ty x y)
  (G:Nat) (T:TypeId) (old:List Value) (hG:Bl G old T w) (hx:a.eval x=.pointer (some ⟨G,0,none⟩)) (cs:List Value) (hk:cs.length=old.length) (hy:a.eval y=.agg cs.toArray) (h1:∀ v∈cs,v.oneCell'=true) (hinfo:(P.info? ty).map (·.size)=some cs.length)
  (h:∀ w',Bl G cs T w'->Fr (fun k=>k=G) w w'->wpList P ops Q rest (a.put o.dst undef) w'):wpList P ops Q (o::rest) a w :=
 wpList_plain hgd fun _ hK=>op_storeB ty x y ho G T old hG hx cs hk hy h1 hinfo fun w' h2 h3=>hK _ _ (h w' h2 h3)
theorem setRow_fresh (w:World) (zs cs:Array Value) (T:TypeId):(w.alloc (.cells zs T)).setRow w.heap.size cs=w.alloc (.cells cs T):=by
 unfold World.setRow World.alloc
 congr 1
 apply Array.ext
 ·simp
 ·intro k h1 h2
  simp only [Array.getElem_modify]
  simp only [Array.size_modify,Array.size_push] at h1
  split
  ·rename_i e; subst e; simp
  ·rename_i e
   rw [Array.getElem_push_lt (by omega),Array.getElem_push_lt (by omega)]
theorem wp_storeV {P:Program} {ops:Array Oper} {rest:List Oper} {o:Oper} {a:Act} {w:World} {Q:EP} (hgd:o.guard=none) (ty:TypeId) (x y:Operand) (ho:o.op=.store ty x y)
  (T:TypeId) (zs:Array Value) (hx:a.eval x=.pointer (some ⟨w.heap.size,0,none⟩)) (cs:List Value) (hk:cs.length=zs.size) (hy:a.eval y=.agg cs.toArray) (h1:∀ v∈cs,v.oneCell'=true) (hinfo:(P.info? ty).map (·.size)=some cs.length)
  (h:wpList P ops Q rest (a.put o.dst undef) (w.alloc (.cells cs.toArray T))):wpList P ops Q (o::rest) a (w.alloc (.cells zs T)):=by
 refine wpList_store_row hgd ty x y ho w.heap.size cs.toArray hx hy T zs (heap_alloc_new w _) (by simpa using hinfo) (by simp; omega) (Array.all_eq_true_iff_forall_mem.2 fun v hv=>h1 v (by simpa using hv)) ?_
 rw [setRow_fresh]
 exact h
theorem Tryz.sizeArc:(Tryz.prog.info? 54).map (·.size)=some 11:=by kernel_rfl
theorem acC_1 (x:Ac):∀ v∈acC x,v.oneCell'=true:=acC_one [x] _ (by simp)
theorem wp_loadArc {ops:Array Oper} {rest:List Oper} {o:Oper} {a:Act} {w:World} {Q:EP} (hgd:o.guard=none) (x:Operand) (ho:o.op=.load 54 x)
  (b off:Nat) (hx:a.eval x=.pointer (some ⟨b,off,none⟩)) (y:Ac) (hc:Cs w b off (acC y)) (h:wpList Tryz.prog ops Q rest (a.put o.dst (.agg (acC y).toArray)) w):wpList Tryz.prog ops Q (o::rest) a w :=
 wp_loadC hgd _ x ho b off hx (acC y) hc _ Tryz.underlying54 rfl Tryz.sizeArc h
theorem wp_storeVArc {ops:Array Oper} {rest:List Oper} {o:Oper} {a:Act} {w:World} {Q:EP} (hgd:o.guard=none) (x y:Operand) (ho:o.op=.store 54 x y)
  (T:TypeId) (zs:Array Value) (hx:a.eval x=.pointer (some ⟨w.heap.size,0,none⟩)) (z:Ac) (hk:zs.size=11) (hy:a.eval y=.agg (acC z).toArray)
  (h:wpList Tryz.prog ops Q rest (a.put o.dst undef) (w.alloc (.cells (acC z).toArray T))):wpList Tryz.prog ops Q (o::rest) a (w.alloc (.cells zs T)) :=
 wp_storeV hgd _ x y ho T zs hx (acC z) hk.symm hy (acC_1 z) Tryz.sizeArc h
theorem wp_storeFArc {ops:Array Oper} {rest:List Oper} {o:Oper} {a:Act} {w:World} {Q:EP} (hgd:o.guard=none) (x y:Operand) (ho:o.op=.store 54 x y)
  (base g n cap:Nat) (xs:List Ac) (hf:FO 54 11 w base (.slice (some ⟨g,0,none⟩) n cap) (xs.map acC)) (i off:Nat) (hi:i<xs.length) (hoff:off=i*11)
  (hx:a.eval x=.pointer (some ⟨g,off,none⟩)) (z:Ac) (hy:a.eval y=.agg (acC z).toArray)
  (h:∀ w',FO 54 11 w' base (.slice (some ⟨g,0,none⟩) n cap) ((xs.set i z).map acC)->Fr (fun k=>k=g) w w'->wpList Tryz.prog ops Q rest (a.put o.dst undef) w'):wpList Tryz.prog ops Q (o::rest) a w :=
 wp_storeF hgd _ x y ho _ 11 base g n cap _ hf i off (by rw [List.length_map]; exact hi) hoff hx (acC z) rfl hy (acC_1 z) Tryz.sizeArc fun w' h1 h2=>h w' (by rw [List.map_set]; exact h1) h2
end
end Go.Proofs.YtnapapijhhldpaaGreatDoor

/-
  Texts joined by program: Owk, Fl, Fr, Twa, Bl, Twb. No condition of its own.
-/
import Derived.Test.YtnapapijhhldpaaGreatDoorJkAB
namespace Go.Proofs.YtnapapijhhldpaaGreatDoor
set_option linter.unusedSimpArgs false
set_option linter.unusedVariables false
set_option maxRecDepth 100000
set_option maxHeartbeats 4000000
section
open Go.RowKit
def Own (K:Value->Prop) (w:World) (base:Nat) (e:TypeId) (size:Nat) (v:Value) (n:Nat) (xs:List Value):Prop :=
 w.ownsRow base e size v n xs/\∀ g,v.ownBlock=some g->∀ cur t fr,w.heap[g]? = some (.cells cur t fr)->∀ c∈cur,K c
section
variable {K:Value->Prop} {w w':World} {base:Nat} {e:TypeId} {size:Nat} {v:Value} {n:Nat} {xs:List Value}
theorem Own.nil (K:Value->Prop) (w:World) (base:Nat) (e:TypeId) (size:Nat):Own K w base e size (.slice none 0 0) 0 [] :=
 ⟨World.ownsRow_nil _ _ _ _,fun g h=>by cases h⟩
theorem Own.same (h:Own K w base e size v n xs) (hb:∀ g,v.ownBlock=some g->w'.heap[g]? = w.heap[g]?):Own K w' base e size v n xs:=by
 obtain ⟨⟨h1,h2⟩,hk⟩:=h
 refine ⟨⟨h1,?_⟩,fun g hg cur t fr hh=>hk g hg cur t fr (by rw [<-hb g hg]; exact hh)⟩
 rcases h2 with h2 | ⟨g,cap,cur,rfl,hg,hh,r⟩
 ·exact .inl h2
 ·exact .inr ⟨g,cap,cur,rfl,hg,(hb g rfl).trans hh,r⟩
theorem Own.lt (h:Own K w base e size v n xs) {g:Nat} (hg:v.ownBlock=some g):base<=g/\g<w.heap.size:=h.1.lt g hg
theorem Own.below (h:Own K w base e size v n xs) (hb:Below w.heap.size w w'):Own K w' base e size v n xs:=h.same fun g hg=>hb.block g (h.lt hg).2
theorem Own.new (h:Own K w base e size v n xs) (o:Obj):Own K (w.alloc o) base e size v n xs:=h.below (qJ o)
theorem Own.put (h:Own K w base e size v n xs) {p:Addr} (hp:∀ g,v.ownBlock=some g->g≠p.block) (u:Value):Own K (w.setCell p u) base e size v n xs :=
 h.same fun g hg=>Below.heap_setCell w p u g (hp g hg)
theorem Own.off (h:Own K w base e size v n xs) {b o:Nat} {c:Value} (hc:w.cell? ⟨b,o,none⟩=some c) (hK:¬ K c):∀ g,v.ownBlock=some g->b≠g:=by
 rintro g hg rfl
 obtain ⟨⟨_,h2⟩,hk⟩:=h
 rcases h2 with ⟨rfl,_⟩ | ⟨g',cap,cur,rfl,_,hh,_⟩
 ·cases hg
 ·simp only [Value.ownBlock,Option.some.injEq] at hg
  subst hg
  rw [cell_of_row w g' o cur e (0,0) hh] at hc
  exact hK (hk g' rfl cur e (0,0) hh c (Array.mem_of_getElem? hc))
theorem Own.append {P:Program} (t ty:TypeId) (i:TypeInfo) (z:Value) (bytes:Nat) (ht:P.underlying t=some (.slice e)) (hi:P.info? e=some i) (hz:i.zero=some z)
  (hsize:i.size=size) (hby:i.bytes=bytes) (hzs:z.cells.size=size) (hsz:0<size) (hzK:∀ c∈z.cells,K c) (h:Own K w base e size v n xs)
  (a:Addr) (m c:Nat) (news:List Value) (hl:news.length=m*size) (hnews:∀ j u,news[j]? = some u->w.cell? (a.add j)=some u) (h1:∀ u∈news,u.oneCell'=true) (hnK:∀ u∈news,K u)
  (hm:0<m) (h63:n+m<=maxLen) (hbytes:(n+m)*bytes<=140737488355328) (hbase:base<=w.heap.size) :
  ∃ v' w',(Builtin.append_ #[t,t] ty #[v,.slice (some a) m c]).run P w=.ok v' w'/\Own K w' base e size v' (n+m) (xs++news)/\w.grownBy w' v.ownBlock/\(v'.ownBlock=v.ownBlock\/v'.ownBlock=some w.heap.size):=by
 obtain ⟨v',w',hr,hown,hg,_⟩:=run_append_own (P:=P) w base t ty e i z size bytes ht hi hz hsize hby hzs hsz v n xs h.1 a m c news hl hnews h1 h63 hbytes hbase
 subst hsize
 have hsmall:n+m<=9223372036854775807:=by simp only [maxLen] at h63; omega
 have zK:∀ k,∀ u∈Builtin.zeroCells z.cells k,K u:=by
  intro k u hu
  simp only [Builtin.zeroCells,Array.mem_map,Array.mem_range] at hu
  obtain ⟨j,hj,rfl⟩:=hu
  have hj2:j%z.cells.size<z.cells.size:=Nat.mod_lt _ (by omega)
  rw [getElem!_pos z.cells _ hj2]
  exact hzK _ (Array.getElem_mem hj2)
 obtain ⟨⟨g1,g2⟩,hk⟩:=h
 rcases g2 with ⟨rfl,rfl⟩ | ⟨g,cap,cur,rfl,hbg,hh,hnc,hcm,hcs,htake⟩
 ·have hr2:=run_append_nil (P:=P) w t ty e i z ht hi hz a m c news hl hnews hm (by omega) (by have hb:=hbytes; rw [hby]; simp only [Nat.zero_add] at hb; omega)
  rw [hr] at hr2
  injection hr2 with e1 e2
  subst e1 e2
  refine ⟨_,_,hr,⟨hown,?_⟩,hg,.inr rfl⟩
  intro g' hg' cur' t' fr' hh'
  simp only [Value.ownBlock,Option.some.injEq] at hg'
  subst hg'
  rw [show (w.drew.alloc (.cells (news.toArray++Builtin.zeroCells z.cells (grownCap w m 0 e-m)) e)).heap[w.heap.size]? = some _ from heap_alloc_new w.drew _] at hh'
  injection hh' with hh'
  injection hh' with e1 _ _
  subst e1
  intro u hu
  rw [Array.mem_append] at hu
  rcases hu with hu | hu
  ·exact hnK u (by simpa using hu)
  ·exact zK _ u hu
 ·have curK:=hk g rfl cur e (0,0) hh
  by_cases hroom:n+m<=cap
  ·have hfit:n*i.size+news.length<=cur.size:=by rw [hl,hcs,<-Nat.add_mul]; exact Nat.mul_le_mul_right _ hroom
   have hr2:=run_append_room (P:=P) w t ty e i ht hi g n cap cur hh a m c news hl hnews h1 hroom hfit
   rw [hr] at hr2
   injection hr2 with e1 e2
   subst e1 e2
   refine ⟨_,_,hr,⟨hown,?_⟩,hg,.inl rfl⟩
   intro g' hg' cur' t' fr' hh'
   simp only [Value.ownBlock,Option.some.injEq] at hg'
   subst hg'
   rw [setRow_heap w g cur _ e _ hh] at hh'
   injection hh' with hh'
   injection hh' with e1 _ _
   subst e1
   intro u hu
   simp only [List.mem_toArray,List.mem_append] at hu
   rcases hu with (hu | hu) | hu
   ·exact curK u (by simpa using List.mem_of_mem_take hu)
   ·exact hnK u hu
   ·exact curK u (by simpa using List.mem_of_mem_drop hu)
  ·have holds:∀ j u,xs[j]? = some u->w.cell? ((⟨g,0,none⟩:Addr).add j)=some u:=World.ownsRow.cells (v:=.slice (some ⟨g,0,none⟩) n cap) ⟨g1,.inr ⟨g,cap,cur,rfl,hbg,hh,hnc,hcm,hcs,htake⟩⟩ (g:=g) rfl
   have hr2:=run_append_grow (P:=P) w t ty e i z ht hi hz ⟨g,0,none⟩ n cap xs g1 holds a m c news hl hnews (by omega) (by omega) (growslice_fits (by omega) (by rw [hby]; exact hbytes))
   rw [hr] at hr2
   injection hr2 with e1 e2
   subst e1 e2
   refine ⟨_,_,hr,⟨hown,?_⟩,hg,.inr rfl⟩
   intro g' hg' cur' t' fr' hh'
   simp only [Value.ownBlock,Option.some.injEq] at hg'
   subst hg'
   rw [show (w.drew.alloc (.cells (xs.toArray++news.toArray++Builtin.zeroCells z.cells (grownCap w (n+m) cap e-(n+m))) e)).heap[w.heap.size]? = some _ from heap_alloc_new w.drew _] at hh'
   injection hh' with hh'
   injection hh' with e1 _ _
   subst e1
   intro u hu
   simp only [Array.mem_append,List.mem_toArray] at hu
   rcases hu with (hu | hu) | hu
   ·rw [<-htake] at hu
    exact curK u (by simpa using List.mem_of_mem_take hu)
   ·exact hnK u hu
   ·exact zK _ u hu
end
section
variable {w w':World} {row:Option Nat}
theorem Sl.grown {ao:OA} {n cap:Nat} {xs:List Value} (h:Sl w ao n cap xs) (hg:w.grownBy w' row) (hoff:∀ (i:Nat) (x:Value) (b o:Nat),xs[i]? = some x->w.cell? ⟨b,o,none⟩=some x->some b≠row):Sl w' ao n cap xs :=
 ⟨h.len,h.le,h.most,fun i x hx=>by
  obtain ⟨b,off,e,hc⟩:=h.at_ i x hx
  exact ⟨b,off,e,hg.cell hc (hoff i x b _ hx hc)⟩⟩
end
end
section
open Go.RowKit
def Cs (w:World) (b o:Nat) (cs:List Value):Prop:=∀ c v,cs[c]? = some v->w.cell? ⟨b,o+c,none⟩=some v
theorem Cs.below {w w':World} {b o B:Nat} {cs:List Value} (h:Cs w b o cs) (hb:Below B w w') (hB:b<B):Cs w' b o cs:=fun c v hv=>by
 rw [hb.cell (p:=⟨b,o+c,none⟩) hB]; exact h c v hv
theorem Cs.lt {w:World} {b o:Nat} {cs:List Value} (h:Cs w b o cs) (h0:cs≠[]):b<w.heap.size:=by
 cases cs with
 | nil=>exact absurd rfl h0
 | cons x r=>exact World.block_lt_of_cell? w _ (h 0 x rfl)
theorem Cs.next {w w':World} {b o:Nat} {cs:List Value} (h:Cs w b o cs) (hb:Below w.heap.size w w'):Cs w' b o cs:=fun c v hv=>by
 rw [hb.cell (p:=⟨b,o+c,none⟩) (World.block_lt_of_cell? w _ (h c v hv))]; exact h c v hv
theorem Cs.block {w w':World} {b o:Nat} {cs:List Value} (h:Cs w b o cs) (hb:w'.heap[b]? = w.heap[b]?):Cs w' b o cs:=fun c v hv=>by
 rw [World.cell?_of_block (a:=⟨b,o+c,none⟩) hb]; exact h c v hv
theorem Cs.fresh (w:World) (cs:List Value) (t:TypeId):Cs (w.alloc (.cells cs.toArray t)) w.heap.size 0 cs:=fun c v hv=>by
 rw [World.cell?_alloc_at _ _ _ _ rfl]; simpa using hv
structure Fl (k:Nat) (w:World) (ao:OA) (n cap:Nat) (css:List (List Value)):Prop where
 len:css.length=n
 le:n<=cap
 most:cap<=maxLen
 nil:ao=none->cap=0
 at_:∀ i cs,css[i]? = some cs->∃ b o,ao=some ⟨b,o,none⟩/\Cs w b (o+i*k) cs
section
variable {k n cap:Nat} {w w':World} {ao:OA} {css:List (List Value)}
theorem Fl.next (h:Fl k w ao n cap css) (hb:Below w.heap.size w w'):Fl k w' ao n cap css :=
 ⟨h.len,h.le,h.most,h.nil,fun i cs hi=>by
  obtain ⟨b,o,e,hc⟩:=h.at_ i cs hi
  exact ⟨b,o,e,hc.next hb⟩⟩
theorem Fl.none_ (k:Nat) (w:World):Fl k w none 0 0 []:=⟨rfl,Nat.le_refl _,by simp [maxLen],fun _=>rfl,fun i cs h=>by simp at h⟩
theorem Fl.bound (h:Fl k w ao n cap css):n<=9223372036854775807:=by
 have h1:=h.le; have h2:=h.most; simp only [maxLen] at h2; omega
theorem Fl.get {α:Type} {f:α->List Value} {xs:List α} (h:Fl k w ao n cap (xs.map f)) {i:Nat} (hi:i<n) :
  ∃ x,xs[i]? = some x/\∃ b o,ao=some ⟨b,o,none⟩/\Cs w b (o+i*k) (f x):=by
 have hl:=h.len
 simp only [List.length_map] at hl
 have hi':i<xs.length:=by omega
 refine ⟨xs[i],by simp [hi'],?_⟩
 exact h.at_ i (f xs[i]) (by simp [hi'])
theorem Fl.lenMap {α:Type} {f:α->List Value} {xs:List α} (h:Fl k w ao n cap (xs.map f)):xs.length=n:=by have:=h.len; simpa using this
theorem Fl.slice {b o:Nat} (h:Fl k w (some ⟨b,o,none⟩) n cap css) {i j:Nat} (hij:i<=j) (hj:j<=n):Fl k w (some ⟨b,o+i*k,none⟩) (j-i) (cap-i) ((css.take j).drop i) :=
 ⟨by rw [List.length_drop,List.length_take,h.len]; omega,by have:=h.le; omega,by have:=h.most; omega,(fun e=>by cases e),fun m cs hm=>by
  rw [List.getElem?_drop,List.getElem?_take] at hm
  split at hm
  ·obtain ⟨b',o',e,hc⟩:=h.at_ _ cs hm
   injection e with e
   injection e with e1 e2
   subst e1 e2
   exact ⟨b,o+i*k,rfl,by rw [Nat.add_mul] at hc; rw [Nat.add_assoc]; exact hc⟩
  ·cases hm⟩
end
theorem q2r {k:Nat}:∀ {css:List (List Value)},(∀ cs∈css,cs.length=k)->∀ {i c:Nat} {cs:List Value} {u:Value},css[i]? = some cs->cs[c]? = some u->css.flatten[i*k+c]? = some u
 | [],_,i,c,cs,u,h,_=>by simp at h
 | x::r,hk,i,c,cs,u,h,hu=>by
  have hx:=hk x List.mem_cons_self
  cases i with
  | zero =>
   simp at h
   subst h
   rw [List.flatten_cons,Nat.zero_mul,Nat.zero_add,List.getElem?_append_left (List.getElem?_eq_some_iff.1 hu).1]
   exact hu
  | succ i =>
   have ih:=q2r (css:=r) (fun cs hcs=>hk cs (List.mem_cons_of_mem _ hcs)) (i:=i) (c:=c) (cs:=cs) (u:=u) (by simpa using h) hu
   rw [List.flatten_cons,List.getElem?_append_right (by rw [hx,Nat.add_mul]; omega),hx]
   rw [show (i+1)*k+c-k=i*k+c by rw [Nat.add_mul]; omega]
   exact ih
theorem vS {k:Nat}:∀ {css:List (List Value)},(∀ cs∈css,cs.length=k)->css.flatten.length=css.length*k
 | [],_=>by simp
 | x::r,hk=>by
  rw [List.flatten_cons,List.length_append,vS fun cs hcs=>hk cs (List.mem_cons_of_mem _ hcs),hk x List.mem_cons_self,List.length_cons,Nat.add_mul]
  omega
theorem j2d {k:Nat}:∀ {css:List (List Value)},(∀ cs∈css,cs.length=k)->∀ {i c:Nat} {cs:List Value} (u:Value),css[i]? = some cs->c<k->css.flatten.set (i*k+c) u=(css.set i (cs.set c u)).flatten
 | [],_,i,c,cs,u,h,_=>by simp at h
 | x::r,hk,i,c,cs,u,h,hc=>by
  have hx:=hk x List.mem_cons_self
  cases i with
  | zero =>
   simp at h
   subst h
   rw [List.flatten_cons,Nat.zero_mul,Nat.zero_add,List.set_append_left _ _ (by omega)]
   rfl
  | succ i =>
   have ih:=j2d (css:=r) (fun cs hcs=>hk cs (List.mem_cons_of_mem _ hcs)) (i:=i) (c:=c) (cs:=cs) u (by simpa using h) hc
   rw [List.flatten_cons,List.set_append_right _ _ (by rw [hx,Nat.add_mul]; omega),hx]
   rw [show (i+1)*k+c-k=i*k+c by rw [Nat.add_mul]; omega,ih]
   rfl
def FO (e:TypeId) (k:Nat) (w:World) (base:Nat) (v:Value) (css:List (List Value)):Prop :=
 w.ownsRow base e k v css.length css.flatten/\∀ cs∈css,cs.length=k
section
variable {e:TypeId} {k base:Nat} {w w':World} {v:Value} {css:List (List Value)}
theorem FO.nil (e:TypeId) (k:Nat) (w:World) (base:Nat):FO e k w base (.slice none 0 0) []:=⟨World.ownsRow_nil _ _ _ _,fun cs h=>by cases h⟩
theorem FO.same (h:FO e k w base v css) (hb:∀ g,v.ownBlock=some g->w'.heap[g]? = w.heap[g]?):FO e k w' base v css:=by
 obtain ⟨⟨h1,h2⟩,hk⟩:=h
 refine ⟨⟨h1,?_⟩,hk⟩
 rcases h2 with h2 | ⟨g,cap,cur,rfl,hg,hh,r⟩
 ·exact .inl h2
 ·exact .inr ⟨g,cap,cur,rfl,hg,(hb g rfl).trans hh,r⟩
theorem FO.lt (h:FO e k w base v css) {g:Nat} (hg:v.ownBlock=some g):base<=g/\g<w.heap.size:=h.1.lt g hg
theorem FO.next (h:FO e k w base v css) (hb:Below w.heap.size w w'):FO e k w' base v css:=h.same fun g hg=>hb.block g (h.lt hg).2
theorem FO.mono {base':Nat} (h:FO e k w base v css) (hb:base'<=base):FO e k w base' v css:=by
 obtain ⟨⟨h1,h2⟩,hk⟩:=h
 refine ⟨⟨h1,?_⟩,hk⟩
 rcases h2 with h2 | ⟨g,cap,cur,rfl,hg,r⟩
 ·exact .inl h2
 ·exact .inr ⟨g,cap,cur,rfl,Nat.le_trans hb hg,r⟩
theorem FO.form (h:FO e k w base v css):∃ ao cap,v=.slice ao css.length cap:=by
 rcases h.1.2 with ⟨rfl,h0⟩ | ⟨g,cap,cur,rfl,_⟩
 ·exact ⟨none,0,by rw [h0]⟩
 ·exact ⟨_,cap,rfl⟩
theorem FO.fl (h:FO e k w base v css):∃ ao cap,v=.slice ao css.length cap/\Fl k w ao css.length cap css/\∀ b o,ao=some ⟨b,o,none⟩->o=0/\base<=b:=by
 have hcells:=h.1
 obtain ⟨⟨h1,h2⟩,hk⟩:=h
 rcases h2 with ⟨rfl,h0⟩ | ⟨g,cap,cur,rfl,hg,hh,hnc,hcm,hcs,htake⟩
 ·have:css=[]:=List.eq_nil_of_length_eq_zero h0
  subst this
  exact ⟨none,0,rfl,Fl.none_ k w,fun b o e=>by cases e⟩
 ·refine ⟨some ⟨g,0,none⟩,cap,rfl,⟨rfl,hnc,hcm,(fun e=>by cases e),fun i cs hi=>⟨g,0,rfl,fun c u hu=>?_⟩⟩,fun b o e=>?_⟩
  ·have:=hcells.cells (g:=g) rfl (i*k+c) u (q2r hk hi hu)
   rw [Addr.add_lit] at this
   rw [Nat.add_assoc]
   exact this
  ·injection e with e
   injection e with e1 e2
   subst e1 e2
   exact ⟨rfl,hg⟩
theorem FO.put {g n cap:Nat} (h:FO e k w base (.slice (some ⟨g,0,none⟩) n cap) css) {i c:Nat} {cs:List Value} (hi:css[i]? = some cs) (hc:c<k) (u:Value) :
  FO e k (w.setCell ⟨g,i*k+c,none⟩ u) base (.slice (some ⟨g,0,none⟩) n cap) (css.set i (cs.set c u)):=by
 obtain ⟨h1,hk⟩:=h
 have hn:n=css.length:=by
  rcases h1.2 with ⟨hv,_⟩ | ⟨g',cap',cur,hv,_⟩
  ·cases hv
  ·injection hv
 subst hn
 have h2:=(h1.stored (i*k+c) u).1
 rw [j2d hk u hi hc] at h2
 refine ⟨by rw [List.length_set]; exact h2,fun x hx=>?_⟩
 rcases List.mem_or_eq_of_mem_set hx with hx | rfl
 ·exact hk x hx
 ·rw [List.length_set]; exact hk cs (List.mem_of_getElem? hi)
end
theorem jP {P:Program} {w:World} {o:Oper} {a:Act} {K:Act->World->Prop} {Q:EP} (s x:Operand) (t:TypeId)
  (ho:o.op=.call { callee:=.builtin .append,args:=#[s,x],argTypes:=#[t,t] }) (e:TypeId) (z:Value) (k bytes:Nat) (ht:P.underlying t=some (.slice e))
  (hinfo:(P.info? e).map (fun i=>(i.zero,i.size,i.bytes))=some (some z,k,bytes)) (hzs:z.cells.size=k) (hk:0<k)
  (base:Nat) (v:Value) (css:List (List Value)) (hs:a.eval s=v) (hown:FO e k w base v css)
  (b off m c:Nat) (new:List (List Value)) (hx:a.eval x=.slice (some ⟨b,off,none⟩) m c) (hm:new.length=m) (hm0:0<m) (hnk:∀ cs∈new,cs.length=k) (hnews:Cs w b off new.flatten) (h1:∀ cs∈new,∀ u∈cs,u.oneCell'=true)
  (hroom:(css.length+m)*bytes<=140737488355328) (hml:css.length+m<=9223372036854775807) (hbase:base<=w.heap.size)
  (h:∀ v' w',FO e k w' base v' (css++new)->w.grownBy w' v.ownBlock->Below base w w'->(v'.ownBlock=v.ownBlock\/v'.ownBlock=some w.heap.size)->K (a.put o.dst v') w'):Oper.wp P o a w K Q:=by
 obtain ⟨i,hi,hz,hsz,hby⟩:=info_parts hinfo
 obtain ⟨hown1,hown2⟩:=hown
 have hownT:Own (fun _=>True) w base e k v css.length css.flatten:=⟨hown1,fun _ _ _ _ _ _ _ _=>trivial⟩
 have hfl:new.flatten.length=m*k:=by rw [vS hnk,hm]
 obtain ⟨v',w',hr,ho',hg,hor⟩:=hownT.append (P:=P) t o.type i z bytes ht hi hz hsz hby hzs hk (fun _ _=>trivial) ⟨b,off,none⟩ m c new.flatten hfl (fun j u hj=>by
  have:=hnews j u hj
  rw [Addr.add_lit]
  exact this) (fun u hu=>by
  obtain ⟨cs,hcs,hu⟩:=List.mem_flatten.1 hu
  exact h1 cs hcs u hu) (fun _ _=>trivial) hm0 (by unfold maxLen; omega) hroom hbase
 unfold Oper.wp execOp
 simp only [ho,resolve,invoke,builtin,Sem.run_bind,Sem.run_pure,Result.andThen_ok,List.map_toArray,List.map_cons,List.map_nil,hs,hx,hr]
 refine h v' w' ⟨?_,fun cs hcs=>?_⟩ hg ((Below.refl _ _).grown hg hbase (fun k hk=>(hown1.lt k hk).1)) hor
 ·rw [List.length_append,hm,List.flatten_append]
  exact ho'.1
 ·rcases List.mem_append.1 hcs with hcs | hcs
  ·exact hown2 cs hcs
  ·exact hnk cs hcs
end
section
open Go.RowKit
structure Fr (T:Nat->Prop) (w w':World):Prop where
 os:w'.os=w.os
 tape:w'.tape=w.tape
 output:w'.output=w.output
 size:w.heap.size<=w'.heap.size
 block:∀ k,k<w.heap.size->¬ T k->w'.heap[k]? = w.heap[k]?
section
variable {T T':Nat->Prop} {a b c:World}
theorem Fr.refl (T:Nat->Prop) (w:World):Fr T w w:=⟨rfl,rfl,rfl,Nat.le_refl _,fun _ _ _=>rfl⟩
theorem Fr.trans (h:Fr T a b) (k:Fr T b c):Fr T a c :=
 ⟨k.os.trans h.os,k.tape.trans h.tape,k.output.trans h.output,Nat.le_trans h.size k.size,fun i hi hT=>(k.block i (Nat.lt_of_lt_of_le hi h.size) hT).trans (h.block i hi hT)⟩
theorem Fr.mono (h:Fr T a b) (hT:∀ k,k<a.heap.size->T k->T' k):Fr T' a b:=⟨h.os,h.tape,h.output,h.size,fun i hi hn=>h.block i hi fun ht=>hn (hT i hi ht)⟩
theorem qH (h:Below a.heap.size a b) (T:Nat->Prop):Fr T a b:=⟨h.os,h.tape,h.output,h.size,fun i hi _=>h.block i hi⟩
theorem qS {row:Option Nat} (h:a.grownBy b row) (hT:∀ g,row=some g->T g):Fr T a b :=
 ⟨h.os,h.tape,h.output,h.size,fun i hi hn=>h.block i hi fun e=>hn (hT i e.symm)⟩
theorem Fr.below {B:Nat} (h:Fr T a b) (hT:∀ k,T k->B<=k) (hB:B<=a.heap.size):Below B a b :=
 ⟨h.os,h.tape,h.output,h.size,fun i hi=>h.block i (Nat.lt_of_lt_of_le hi hB) fun ht=>absurd (hT i ht) (Nat.not_le_of_lt hi)⟩
theorem Fr.set (w:World) {p:Addr} (hp:T p.block) (v:Value):Fr T w (w.setCell p v) :=
 ⟨rfl,rfl,rfl,by simp,fun i hi hn=>Below.heap_setCell w p v i (fun e=>hn (e▸hp))⟩
theorem Fr.cell (h:Fr T a b) {g o:Nat} {v:Value} (hc:a.cell? ⟨g,o,none⟩=some v) (hg:¬ T g):b.cell? ⟨g,o,none⟩=some v :=
 (World.cell?_of_block (a:=⟨g,o,none⟩) (h.block g (World.block_lt_of_cell? _ _ hc) hg)).trans hc
end
theorem Own.fr {K:Value->Prop} {w w':World} {base:Nat} {e:TypeId} {size:Nat} {v:Value} {n:Nat} {xs:List Value} {T:Nat->Prop} (h:Own K w base e size v n xs) (hf:Fr T w w') (hv:∀ g,v.ownBlock=some g->¬ T g):Own K w' base e size v n xs :=
 h.same fun g hg=>hf.block g (h.lt hg).2 (hv g hg)
end
section
open Go.RowKit
theorem qQ {a b c:World} (h:Below a.heap.size a b) (k:Below b.heap.size b c):Below a.heap.size a c:=h.trans (k.mono h.size)
theorem z6a (k n:Int) (h1:1<=n):(-n<Int.tmod k n/\Int.tmod k n<n)/\(k%n=if Int.tmod k n<0 then Int.tmod k n+n else Int.tmod k n):=by
 have a:=Int.emod_nonneg k (show n≠0 by omega)
 have b:=Int.emod_lt_of_pos k (show 0<n by omega)
 have c:=Int.tmod_eq_emod (a:=k) (b:=n)
 have hn:(n.natAbs:Int)=n:=by omega
 by_cases h:0<=k\/n∣k
 ·rw [if_pos h] at c
  refine ⟨by omega,?_⟩
  rw [if_neg (by omega)]; omega
 ·rw [if_neg h,hn] at c
  have:k%n≠0:=fun e=>h (.inr (Int.dvd_of_emod_eq_zero e))
  refine ⟨by omega,?_⟩
  rw [if_pos (by omega)]; omega
theorem vG (v m:Int) (h1:1<=m) (h2:m<=1000000) (w:World) :
  Calls Tryz.prog 19 #[.int .i64 v,.int .i64 m] w fun e w'=>e=.returned (.int .i64 (v%m))/\w=w':=by
 obtain ⟨⟨b1,b2⟩,hk⟩:=z6a v m h1
 obtain ⟨r,hr⟩:∃ r,Int.tmod v m=r:=⟨_,rfl⟩
 rw [hr] at b1 b2 hk
 have hwr:IntKind.i64.wrap (Int.tmod v m)=r:=by rw [hr,IntKind.wrap_i64]; omega
 have c0:¬ m<1:=by omega
 rw [hk]
 clear hk
 go_enter Tryz.func19,Tryz.ntmps19
 by_cases hneg:r<0
 ·rw [if_pos hneg]
  go_wp2_with fail
  go_ret
  exact ⟨rfl,rfl⟩
 ·rw [if_neg hneg]
  go_wp2_with fail
  go_ret
  exact ⟨rfl,rfl⟩
def Tp (T:Nat) (lo:OA) (n cap a:Nat) (w:World):Prop:=w.heap[T]? = some (.cells #[.slice lo n cap,.int .i64 (a:Int)] 57 (0,0))
theorem Tp.c0 {T:Nat} {lo:OA} {n cap a:Nat} {w:World} (h:Tp T lo n cap a w):w.cell? ⟨T,0,none⟩=some (.slice lo n cap):=by unfold Tp at h; simp [World.cell?,h]
theorem Tp.c1 {T:Nat} {lo:OA} {n cap a:Nat} {w:World} (h:Tp T lo n cap a w):w.cell? ⟨T,1,none⟩=some (.int .i64 (a:Int)):=by unfold Tp at h; simp [World.cell?,h]
theorem Tp.f1 {T:Nat} {lo:OA} {n cap a:Nat} {w:World} (h:Tp T lo n cap a w):w.frozen? ⟨T,1,none⟩=false:=by unfold Tp at h; simp [World.frozen?,h]
theorem Tp.lt {T:Nat} {lo:OA} {n cap a:Nat} {w:World} (h:Tp T lo n cap a w):T<w.heap.size:=by unfold Tp at h; exact (Array.getElem?_eq_some_iff.1 h).1
theorem Tp.put {T:Nat} {lo:OA} {n cap a:Nat} {w:World} (h:Tp T lo n cap a w) (b:Nat):Tp T lo n cap b (w.setCell ⟨T,1,none⟩ (.int .i64 (b:Int))):=by
 unfold Tp at *
 rw [heap_setCell_same _ T 1 _ _ _ h]
 rfl
theorem Tp.fr {T:Nat} {lo:OA} {n cap a:Nat} {w w':World} {S:Nat->Prop} (h:Tp T lo n cap a w) (hf:Fr S w w') (hT:¬ S T):Tp T lo n cap a w':=by
 unfold Tp at *; rw [hf.block T (Tp.lt h) hT]; exact h
theorem Tp.next {T:Nat} {lo:OA} {n cap a:Nat} {w w':World} (h:Tp T lo n cap a w) (hb:Below w.heap.size w w'):Tp T lo n cap a w':=by
 unfold Tp at *; rw [hb.block T (Tp.lt h)]; exact h
def TpL (T:Nat) (lo:OA) (n cap:Nat) (w:World):Prop:=∃ zs:List Int,Sl w lo n cap (zs.map (.int .i64))/\(∀ b o,lo=some ⟨b,o,none⟩->b<T)
theorem TpL.fr {T B:Nat} {lo:OA} {n cap:Nat} {w w':World} (h:TpL T lo n cap w) (hb:Below B w w') (hB:T<=B):TpL T lo n cap w':=by
 obtain ⟨zs,h1,h2⟩:=h
 refine ⟨zs,⟨h1.len,h1.le,h1.most,fun i x hx=>?_⟩,h2⟩
 obtain ⟨b,off,e,hc⟩:=h1.at_ i x hx
 exact ⟨b,off,e,by rw [hb.cell (p:=⟨b,off+i,none⟩) (Nat.lt_of_lt_of_le (h2 b off e) hB)]; exact hc⟩
theorem q6y (T:Nat) (lo:OA) (n cap a:Nat) (m:Int) (h1:1<=m) (h2:m<=1000000) (w:World) (hT:Tp T lo n cap a w) (hL:TpL T lo n cap w) (ha:a<=n) (hn:n<=9223372036854775807) :
  Calls Tryz.prog 21 #[.pointer (some ⟨T,0,none⟩),.int .i64 m] w fun e w'=>∃ (r b:Nat),e=.returned (.int .i64 r)/\(r:Int)<m/\Tp T lo n cap b w'/\b<=n/\Below T w w'/\Fr (fun k=>k=T) w w':=by
 have x0:=hT.c0
 have x1:=hT.c1
 have f1:=hT.f1
 obtain ⟨zs,hsl,hlo⟩:=hL
 have hzl:=hsl.lenMap
 have hTs:T<w.heap.size:=hT.lt
 by_cases hlt:a<n
 ·obtain ⟨z,hz,b,off,hadd,hcell⟩:=hsl.get hlt
  subst hadd
  have hb':=hlo b off rfl
  have hbT:b≠T:=by omega
  have hput:=hT.put (a+1)
  have hcell':(w.setCell ⟨T,1,none⟩ (.int .i64 ((a+1:Nat):Int))).cell? ⟨b,off+a,none⟩=some (.int .i64 z):=by
   rw [World.cell?_of_block (w:=w) (Below.heap_setCell _ _ _ _ hbT)]; exact hcell
  have y0:=hput.c0
  have y1:=hput.c1
  have hcast:((a+1:Nat):Int)=(a:Int)+1:=by omega
  have hfr:Fr (fun k=>k=T) w (w.setCell ⟨T,1,none⟩ (.int .i64 ((a+1:Nat):Int))):=Fr.set (T:=fun k=>k=T) w (p:=⟨T,1,none⟩) rfl _
  rw [hcast] at hput hcell' y0 y1 hfr
  have Hput:=hid hput
  have Hfr:=hid hfr
  obtain ⟨r,hr⟩:∃ r:Nat,z%m=r:=⟨(z%m).toNat,by have:=Int.emod_nonneg z (show m≠0 by omega); omega⟩
  have hrm:(r:Int)<m:=by rw [<-hr]; exact Int.emod_lt_of_pos z (by omega)
  have hwi:=hid (fun W=>vG z m h1 h2 W)
  rw [hr] at hwi
  have hwa:IntKind.i64.wrap (a:Int)=(a:Int):=by rw [IntKind.wrap_i64]; omega
  clear hr
  clear hsl hz hzl hput hfr hlo
  go_enter Tryz.func21,Tryz.ntmps21
  go_wp2_with fail
  go_quiet (fail)
  go_wp2_with fail
  go_quiet ((go_at_call 19; exact j9e (hwi.out _)))
  go_wp2_with fail
  go_ret
  have hfr2:∀ i j,Fr (fun k=>k=T) w (((w.drewN i).setCell ⟨T,1,none⟩ (.int .i64 ((a:Int)+1))).drewN j):=fun i j=>⟨rfl,rfl,rfl,Hfr.out.size,fun k hk hne=>Hfr.out.block k hk hne⟩
  exact ⟨r,a+1,rfl,hrm,Hput.out,hlt,(hfr2 _ _).below (fun k hk=>by rw [hk]; exact Nat.le_refl _) (Nat.le_of_lt hTs),hfr2 _ _⟩
 ·have han:a=n:=by omega
  subst han
  have hfr2:∀ i,Fr (fun k=>k=T) w (w.drewN i):=fun i=>⟨rfl,rfl,rfl,Nat.le_refl _,fun k hk hne=>rfl⟩
  go_enter Tryz.func21,Tryz.ntmps21
  go_wp2_with fail
  go_quiet (fail)
  go_wp2_with fail
  go_ret
  exact ⟨0,a,rfl,by omega,hT,Nat.le_refl _,(hfr2 _).below (fun k hk=>by rw [hk]; exact Nat.le_refl _) (Nat.le_of_lt hTs),hfr2 _⟩
end
section
open Go.RowKit
def Bl (G:Nat) (cs:List Value) (T:TypeId) (w:World):Prop:=w.heap[G]? = some (.cells cs.toArray T (0,0))
section
variable {G:Nat} {cs:List Value} {T:TypeId} {w w':World}
theorem Bl.lt (h:Bl G cs T w):G<w.heap.size:=(Array.getElem?_eq_some_iff.1 h).1
theorem Bl.next (h:Bl G cs T w) (hb:Below w.heap.size w w'):Bl G cs T w':=by
 have:=h.lt
 unfold Bl at *; rw [hb.block G this]; exact h
theorem Bl.under {B:Nat} (h:Bl G cs T w) (hb:Below B w w') (hB:G<B):Bl G cs T w':=by
 unfold Bl at *; rw [hb.block G hB]; exact h
theorem Bl.fr {S:Nat->Prop} (h:Bl G cs T w) (hf:Fr S w w') (hG:¬ S G):Bl G cs T w':=by
 have:=h.lt
 unfold Bl at *; rw [hf.block G this hG]; exact h
theorem Bl.new (h:Bl G cs T w) (o:Obj):Bl G cs T (w.alloc o):=h.next (qJ o)
theorem Bl.fresh (w:World) (cs:List Value) (T:TypeId):Bl w.heap.size cs T (w.alloc (.cells cs.toArray T)):=heap_alloc_new w _
theorem Bl.fresh' (w:World) (cs:List Value) (T:TypeId) (hG:w.heap.size=G):Bl G cs T (w.alloc (.cells cs.toArray T)):=by subst hG; exact Bl.fresh w cs T
theorem Bl.cell (h:Bl G cs T w) {i:Nat} {v:Value} (hi:cs[i]? = some v):w.cell? ⟨G,i,none⟩=some v:=by
 unfold Bl at h
 simp [World.cell?,h,hi]
theorem Bl.free (h:Bl G cs T w) (i:Nat):w.frozen? ⟨G,i,none⟩=false:=by
 unfold Bl at h
 simp [World.frozen?,h]
theorem Bl.put (h:Bl G cs T w) (i:Nat) (v:Value):Bl G (cs.set i v) T (w.setCell ⟨G,i,none⟩ v):=by
 have hh:=heap_setCell_same w G i _ T v h
 unfold Bl
 rw [hh]
 simp
theorem Bl.off (h:Bl G cs T w) {p:Addr} (hp:G≠p.block) (v:Value):Bl G cs T (w.setCell p v):=by
 unfold Bl at *
 rw [Below.heap_setCell _ _ _ _ hp]; exact h
theorem Bl.drewN (h:Bl G cs T w) (n:Nat):Bl G cs T (w.drewN n):=h
end
theorem Bl.two {G:Nat} {a b:Value} {T:TypeId} {w:World} (h:Bl G [a,b] T w):w.cell? ⟨G,0,none⟩=some a/\w.cell? ⟨G,1,none⟩=some b:=⟨h.cell rfl,h.cell rfl⟩
theorem Bl.eight {G:Nat} {a b c d e f g k:Value} {T:TypeId} {w:World} (h:Bl G [a,b,c,d,e,f,g,k] T w) :
  (w.cell? ⟨G,0,none⟩=some a/\w.cell? ⟨G,1,none⟩=some b/\w.cell? ⟨G,2,none⟩=some c/\w.cell? ⟨G,3,none⟩=some d)/\w.cell? ⟨G,4,none⟩=some e/\w.cell? ⟨G,5,none⟩=some f/\w.cell? ⟨G,6,none⟩=some g/\w.cell? ⟨G,7,none⟩=some k :=
 ⟨⟨h.cell rfl,h.cell rfl,h.cell rfl,h.cell rfl⟩,h.cell rfl,h.cell rfl,h.cell rfl,h.cell rfl⟩
theorem Bl.put8 {G:Nat} {a b c d e f g k:Value} {T:TypeId} {w:World} (h:Bl G [a,b,c,d,e,f,g,k] T w) (a' b' c' d' e' f' g' k':Value) :
  Bl G [a',b',c',d',e',f',g',k'] T ((((((((w.setCell ⟨G,0,none⟩ a').setCell ⟨G,1,none⟩ b').setCell ⟨G,2,none⟩ c').setCell ⟨G,3,none⟩ d').setCell ⟨G,4,none⟩ e').setCell ⟨G,5,none⟩ f').setCell ⟨G,6,none⟩ g').setCell ⟨G,7,none⟩ k') :=
 (((((((h.put 0 a').put 1 b').put 2 c').put 3 d').put 4 e').put 5 f').put 6 g').put 7 k'
theorem q0d {B G:Nat} {v w:World} (h:Below B v w) (hG:B<=G) (a' b' c' d' e' f' g' k':Value):Below B v ((((((((w.setCell ⟨G,0,none⟩ a').setCell ⟨G,1,none⟩ b').setCell ⟨G,2,none⟩ c').setCell ⟨G,3,none⟩ d').setCell ⟨G,4,none⟩ e').setCell ⟨G,5,none⟩ f').setCell ⟨G,6,none⟩ g').setCell ⟨G,7,none⟩ k') :=
 (((((((h.setCell hG a').setCell hG b').setCell hG c').setCell hG d').setCell hG e').setCell hG f').setCell hG g').setCell hG k'
theorem Bl.free8 {G:Nat} {cs:List Value} {T:TypeId} {w:World} (h:Bl G cs T w) :
  (w.frozen? ⟨G,0,none⟩=false/\w.frozen? ⟨G,1,none⟩=false/\w.frozen? ⟨G,2,none⟩=false/\w.frozen? ⟨G,3,none⟩=false)/\w.frozen? ⟨G,4,none⟩=false/\w.frozen? ⟨G,5,none⟩=false/\w.frozen? ⟨G,6,none⟩=false/\w.frozen? ⟨G,7,none⟩=false :=
 ⟨⟨h.free 0,h.free 1,h.free 2,h.free 3⟩,h.free 4,h.free 5,h.free 6,h.free 7⟩
theorem Bl.nine {G:Nat} {a b c d e f g k l:Value} {T:TypeId} {w:World} (h:Bl G [a,b,c,d,e,f,g,k,l] T w) :
  (w.cell? ⟨G,0,none⟩=some a/\w.cell? ⟨G,1,none⟩=some b/\w.cell? ⟨G,2,none⟩=some c/\w.cell? ⟨G,3,none⟩=some d)/\w.cell? ⟨G,4,none⟩=some e/\w.cell? ⟨G,5,none⟩=some f/\w.cell? ⟨G,6,none⟩=some g/\w.cell? ⟨G,7,none⟩=some k/\w.cell? ⟨G,8,none⟩=some l :=
 ⟨⟨h.cell rfl,h.cell rfl,h.cell rfl,h.cell rfl⟩,h.cell rfl,h.cell rfl,h.cell rfl,h.cell rfl,h.cell rfl⟩
theorem Bl.put9 {G:Nat} {a b c d e f g k l:Value} {T:TypeId} {w:World} (h:Bl G [a,b,c,d,e,f,g,k,l] T w) (a' b' c' d' e' f' g' k' l':Value) :
  Bl G [a',b',c',d',e',f',g',k',l'] T (((((((((w.setCell ⟨G,0,none⟩ a').setCell ⟨G,1,none⟩ b').setCell ⟨G,2,none⟩ c').setCell ⟨G,3,none⟩ d').setCell ⟨G,4,none⟩ e').setCell ⟨G,5,none⟩ f').setCell ⟨G,6,none⟩ g').setCell ⟨G,7,none⟩ k').setCell ⟨G,8,none⟩ l') :=
 ((((((((h.put 0 a').put 1 b').put 2 c').put 3 d').put 4 e').put 5 f').put 6 g').put 7 k').put 8 l'
theorem z1k {B G:Nat} {v w:World} (h:Below B v w) (hG:B<=G) (a' b' c' d' e' f' g' k' l':Value):Below B v (((((((((w.setCell ⟨G,0,none⟩ a').setCell ⟨G,1,none⟩ b').setCell ⟨G,2,none⟩ c').setCell ⟨G,3,none⟩ d').setCell ⟨G,4,none⟩ e').setCell ⟨G,5,none⟩ f').setCell ⟨G,6,none⟩ g').setCell ⟨G,7,none⟩ k').setCell ⟨G,8,none⟩ l') :=
 ((((((((h.setCell hG a').setCell hG b').setCell hG c').setCell hG d').setCell hG e').setCell hG f').setCell hG g').setCell hG k').setCell hG l'
theorem Bl.seven {G:Nat} {a b c d e f g:Value} {T:TypeId} {w:World} (h:Bl G [a,b,c,d,e,f,g] T w) :
  (w.cell? ⟨G,0,none⟩=some a/\w.cell? ⟨G,1,none⟩=some b/\w.cell? ⟨G,2,none⟩=some c/\w.cell? ⟨G,3,none⟩=some d)/\w.cell? ⟨G,4,none⟩=some e/\w.cell? ⟨G,5,none⟩=some f/\w.cell? ⟨G,6,none⟩=some g :=
 ⟨⟨h.cell rfl,h.cell rfl,h.cell rfl,h.cell rfl⟩,h.cell rfl,h.cell rfl,h.cell rfl⟩
theorem Bl.eleven {G:Nat} {x y z a b c d e f g k:Value} {T:TypeId} {w:World} (h:Bl G [x,y,z,a,b,c,d,e,f,g,k] T w) :
  (w.cell? ⟨G,0,none⟩=some x/\w.cell? ⟨G,1,none⟩=some y/\w.cell? ⟨G,2,none⟩=some z/\w.cell? ⟨G,3,none⟩=some a)/\(w.cell? ⟨G,4,none⟩=some b/\w.cell? ⟨G,5,none⟩=some c/\w.cell? ⟨G,6,none⟩=some d/\w.cell? ⟨G,7,none⟩=some e)/\w.cell? ⟨G,8,none⟩=some f/\w.cell? ⟨G,9,none⟩=some g/\w.cell? ⟨G,10,none⟩=some k :=
 ⟨⟨h.cell rfl,h.cell rfl,h.cell rfl,h.cell rfl⟩,⟨h.cell rfl,h.cell rfl,h.cell rfl,h.cell rfl⟩,h.cell rfl,h.cell rfl,h.cell rfl⟩
end
section
open Go.RowKit
theorem j0c (w:World):Calls Tryz.prog 49 #[.agg #[.int .i64 2,.slice none 0 0]] w fun e w'=>e=.returned (.bool true)/\Below w.heap.size w w':=by
 have hb0:Below w.heap.size w (w.alloc (.cells #[.int .i64 2,.slice none 0 0] 26)):=qJ _
 go_enter Tryz.func49,Tryz.ntmps49
 go_wp2_with fail
 go_ret
 exact ⟨rfl,hb0⟩
theorem q1q (w:World):Calls Tryz.prog 22 #[.agg #[.int .i64 2,.slice none 0 0]] w fun e w'=>e=.returned (.agg #[.bool false,.slice none 0 0,.slice none 0 0,.int .i64 0,.bool true,.int .u64 0,.slice none 0 0,.slice none 0 0])/\Below w.heap.size w w':=by
 have hR:=((Bl.fresh w [.int .i64 2,.slice none 0 0] 26).new (.cells #[.bool false,.slice none 0 0,.slice none 0 0,.int .i64 0,.bool false,.int .u64 0,.slice none 0 0,.slice none 0 0] 45)).new (.cells #[.bool false,.slice none 0 0,.slice none 0 0,.int .i64 0,.bool false,.int .u64 0,.slice none 0 0,.slice none 0 0] 45)
 have hO:=(Bl.fresh' (G:=w.heap.size+1) (w.alloc (.cells #[.int .i64 2,.slice none 0 0] 26)) [.bool false,.slice none 0 0,.slice none 0 0,.int .i64 0,.bool false,.int .u64 0,.slice none 0 0,.slice none 0 0] 45 (by simp)).new (.cells #[.bool false,.slice none 0 0,.slice none 0 0,.int .i64 0,.bool false,.int .u64 0,.slice none 0 0,.slice none 0 0] 45)
 have hZ:=Bl.fresh' (G:=w.heap.size+1+1) ((w.alloc (.cells #[.int .i64 2,.slice none 0 0] 26)).alloc (.cells #[.bool false,.slice none 0 0,.slice none 0 0,.int .i64 0,.bool false,.int .u64 0,.slice none 0 0,.slice none 0 0] 45)) [.bool false,.slice none 0 0,.slice none 0 0,.int .i64 0,.bool false,.int .u64 0,.slice none 0 0,.slice none 0 0] 45 (by simp)
 have hb0:Below w.heap.size w (((w.alloc (.cells #[.int .i64 2,.slice none 0 0] 26)).alloc (.cells #[.bool false,.slice none 0 0,.slice none 0 0,.int .i64 0,.bool false,.int .u64 0,.slice none 0 0,.slice none 0 0] 45)).alloc (.cells #[.bool false,.slice none 0 0,.slice none 0 0,.int .i64 0,.bool false,.int .u64 0,.slice none 0 0,.slice none 0 0] 45)):=qQ (qQ (qJ _) (qJ _)) (qJ _)
 go_enter Tryz.func22,Tryz.ntmps22
 go_wp2_with fail
 refine (j0c _).mono ?_; rintro e w1 ⟨rfl,hb1⟩
 replace hR:=hR.next hb1
 replace hO:=hO.next hb1
 replace hZ:=hZ.next hb1
 have hb:=qQ hb0 hb1
 obtain ⟨r0,r1⟩:=hR.two
 obtain ⟨⟨z0,z1,z2,z3⟩,z4,z5,z6,z7⟩:=hZ.eight
 have hz4:=hZ.free 4
 obtain ⟨⟨f0,f1,f2,f3⟩,f4,f5,f6,f7⟩:=hO.free8
 obtain ⟨⟨o0,o1,o2,o3⟩,o4,o5,o6,o7⟩:=hO.eight
 have hO2:=(hO.off (p:=⟨w.heap.size+1+1,4,none⟩) (by show w.heap.size+1≠w.heap.size+1+1; omega) (.bool true)).put8 (.bool false) (.slice none 0 0) (.slice none 0 0) (.int .i64 0) (.bool true) (.int .u64 0) (.slice none 0 0) (.slice none 0 0)
 have HO:=hid hO2.eight
 have hb2:=q0d (hb.setCell (p:=⟨w.heap.size+1+1,4,none⟩) (by show w.heap.size<=w.heap.size+1+1; omega) (.bool true)) (show w.heap.size<=w.heap.size+1 by omega) (.bool false) (.slice none 0 0) (.slice none 0 0) (.int .i64 0) (.bool true) (.int .u64 0) (.slice none 0 0) (.slice none 0 0)
 clear hO2
 clear hR hZ hb0 hb1 hO
 go_wp2_with fail
 go_loop [4] (fun iv=>iv=.int .i64 0) (fun _=>0)
 case atStart=>rfl
 case round =>
  obtain rfl:=hrel
  go_wp2_with fail
  obtain ⟨⟨e0,e1,e2,e3⟩,e4,e5,e6,e7⟩:=HO.out
  refine bodyPost_ret (v:=.agg #[.bool false,.slice none 0 0,.slice none 0 0,.int .i64 0,.bool true,.int .u64 0,.slice none 0 0,.slice none 0 0]) (by simp [results,Tryz.results22,go_sem,e0,e1,e2,e3,e4,e5,e6,e7]) rfl ?_
  exact ⟨rfl,hb2⟩
theorem Tp.off8 {T G:Nat} {lo:OA} {n cap a:Nat} {w:World} (h:Tp T lo n cap a w) (hG:T≠G) (a' b' c' d' e' f' g' k':Value):Tp T lo n cap a ((((((((w.setCell ⟨G,0,none⟩ a').setCell ⟨G,1,none⟩ b').setCell ⟨G,2,none⟩ c').setCell ⟨G,3,none⟩ d').setCell ⟨G,4,none⟩ e').setCell ⟨G,5,none⟩ f').setCell ⟨G,6,none⟩ g').setCell ⟨G,7,none⟩ k'):=by
 have h':Bl T [.slice lo n cap,.int .i64 (a:Int)] 57 w:=h
 exact (((((((h'.off (p:=⟨G,0,none⟩) hG a').off (p:=⟨G,1,none⟩) hG b').off (p:=⟨G,2,none⟩) hG c').off (p:=⟨G,3,none⟩) hG d').off (p:=⟨G,4,none⟩) hG e').off (p:=⟨G,5,none⟩) hG f').off (p:=⟨G,6,none⟩) hG g').off (p:=⟨G,7,none⟩) hG k'
theorem frT {T:Nat} {a b c:World} (h:Fr (fun k=>k=T) a b) (k:Fr (fun k=>k=T) b c):Fr (fun k=>k=T) a c:=h.trans k
theorem z3a (T:Nat) (w:World) (o:Obj):Fr (fun k=>k=T) w (w.alloc o):=qH (qJ o) _
theorem fr8 {T G:Nat} {w:World} {v:World} (h:Fr (fun k=>k=T) v w) (hG:v.heap.size<=G) (a' b' c' d' e' f' g' k':Value):Fr (fun k=>k=T) v ((((((((w.setCell ⟨G,0,none⟩ a').setCell ⟨G,1,none⟩ b').setCell ⟨G,2,none⟩ c').setCell ⟨G,3,none⟩ d').setCell ⟨G,4,none⟩ e').setCell ⟨G,5,none⟩ f').setCell ⟨G,6,none⟩ g').setCell ⟨G,7,none⟩ k'):=by
 have hb:=q0d (B:=v.heap.size) (v:=w) (Below.refl _ w) hG a' b' c' d' e' f' g' k'
 refine ⟨hb.os.trans h.os,hb.tape.trans h.tape,hb.output.trans h.output,Nat.le_trans h.size ?_,fun k hk hn=>?_⟩
 ·simp
 ·exact (hb.block k hk).trans (h.block k hk hn)
theorem q9p (T:Nat) (lo:OA) (n cap a:Nat) (w:World) (hT:Tp T lo n cap a w) (hL:TpL T lo n cap w) (ha:a<=n) (hn:n<=9223372036854775807) :
  Calls Tryz.prog 20 #[.int .i64 2,.pointer (some ⟨T,0,none⟩)] w fun e w'=>∃ (c:Nat) (i:Bool) (b:Nat),e=.returned (.agg #[.bool false,.slice none 0 0,.slice none 0 0,.int .i64 (c:Int),.bool i,.int .u64 0,.slice none 0 0,.slice none 0 0])/\c<=5/\(i=true->c=0)/\Tp T lo n cap b w'/\b<=n/\Fr (fun k=>k=T) w w':=by
 have hO:=Bl.fresh w [.bool false,.slice none 0 0,.slice none 0 0,.int .i64 0,.bool false,.int .u64 0,.slice none 0 0,.slice none 0 0] 45
 have hTlt:=hT.lt
 have hT0:=hT.next (qJ (.cells #[.bool false,.slice none 0 0,.slice none 0 0,.int .i64 0,.bool false,.int .u64 0,.slice none 0 0,.slice none 0 0] 45))
 have hL0:=hL.fr (qJ (.cells #[.bool false,.slice none 0 0,.slice none 0 0,.int .i64 0,.bool false,.int .u64 0,.slice none 0 0,.slice none 0 0] 45)) (Nat.le_of_lt hTlt)
 have hfr0:=z3a T w (.cells #[.bool false,.slice none 0 0,.slice none 0 0,.int .i64 0,.bool false,.int .u64 0,.slice none 0 0,.slice none 0 0] 45)
 go_enter Tryz.func20,Tryz.ntmps20
 go_wp2_with fail
 refine (q6y T lo n cap a 8 (by decide) (by decide) _ hT0 hL0 ha hn).mono ?_; rintro e w1 ⟨r,b1,rfl,hr,hT1,hb1,hbT1,hf1⟩
 have hfr1:=frT hfr0 hf1
 have hO1:=hO.fr hf1 (by show ¬ w.heap.size=T; omega)
 have hL1:=hL0.fr hbT1 (Nat.le_refl _)
 clear hf1 hbT1 hO hL0 hT0 hfr0
 obtain ⟨⟨f0,f1,f2,f3⟩,f4,f5,f6,f7⟩:=hO1.free8
 obtain ⟨⟨o0,o1,o2,o3⟩,o4,o5,o6,o7⟩:=hO1.eight
 by_cases hr0:r=0
 ·subst hr0
  have hO2:=hO1.put8 (.bool false) (.slice none 0 0) (.slice none 0 0) (.int .i64 0) (.bool true) (.int .u64 0) (.slice none 0 0) (.slice none 0 0)
  have hfr2:=fr8 hfr1 (Nat.le_refl w.heap.size) (.bool false) (.slice none 0 0) (.slice none 0 0) (.int .i64 0) (.bool true) (.int .u64 0) (.slice none 0 0) (.slice none 0 0)
  have hT2:=hT1.off8 (G:=w.heap.size) (by omega) (.bool false) (.slice none 0 0) (.slice none 0 0) (.int .i64 0) (.bool true) (.int .u64 0) (.slice none 0 0) (.slice none 0 0)
  have HO:=hid hO2.eight
  clear hO2 hO1
  go_wp2_with fail
  obtain ⟨⟨e0,e1,e2,e3⟩,e4,e5,e6,e7⟩:=HO.out
  refine bodyPost_ret (v:=.agg #[.bool false,.slice none 0 0,.slice none 0 0,.int .i64 0,.bool true,.int .u64 0,.slice none 0 0,.slice none 0 0]) (by simp [results,Tryz.results20,go_sem,e0,e1,e2,e3,e4,e5,e6,e7]) rfl ?_
  exact ⟨0,true,b1,rfl,by decide,fun _=>rfl,hT2,hb1,hfr2⟩
 ·have c1:((r:Int)==0)=false:=by rw [beq_eq_false_iff_ne]; omega
  have c2:(r==0)=false:=by rw [beq_eq_false_iff_ne]; omega
  clear hr0
  go_wp2_with fail
  refine (q6y T lo n cap b1 6 (by decide) (by decide) _ hT1 hL1 hb1 hn).mono ?_; rintro e w2 ⟨c,b2,rfl,hc,hT2,hb2,hbT2,hf2⟩
  have hfr2:=frT hfr1 hf2
  have hO2:=hO1.fr hf2 (by show ¬ w.heap.size=T; omega)
  clear f0 f1 f2 f3 f4 f5 f6 f7 o0 o1 o2 o3 o4 o5 o6 o7 hf2 hO1
  obtain ⟨⟨f0,f1,f2,f3⟩,f4,f5,f6,f7⟩:=hO2.free8
  obtain ⟨⟨o0,o1,o2,o3⟩,o4,o5,o6,o7⟩:=hO2.eight
  have hO3:=hO2.put8 (.bool false) (.slice none 0 0) (.slice none 0 0) (.int .i64 (c:Int)) (.bool false) (.int .u64 0) (.slice none 0 0) (.slice none 0 0)
  have hfr3:=fr8 hfr2 (Nat.le_refl w.heap.size) (.bool false) (.slice none 0 0) (.slice none 0 0) (.int .i64 (c:Int)) (.bool false) (.int .u64 0) (.slice none 0 0) (.slice none 0 0)
  have hT3:=hT2.off8 (G:=w.heap.size) (by omega) (.bool false) (.slice none 0 0) (.slice none 0 0) (.int .i64 (c:Int)) (.bool false) (.int .u64 0) (.slice none 0 0) (.slice none 0 0)
  have HO:=hid hO3.eight
  clear hO2 hO3
  go_wp2_with fail
  obtain ⟨⟨e0,e1,e2,e3⟩,e4,e5,e6,e7⟩:=HO.out
  refine bodyPost_ret (v:=.agg #[.bool false,.slice none 0 0,.slice none 0 0,.int .i64 (c:Int),.bool false,.int .u64 0,.slice none 0 0,.slice none 0 0]) (by simp [results,Tryz.results20,go_sem,e0,e1,e2,e3,e4,e5,e6,e7]) rfl ?_
  exact ⟨c,false,b2,rfl,by omega,fun h=>(by cases h),hT3,hb2,hfr3⟩
end
end Go.Proofs.YtnapapijhhldpaaGreatDoor

/-
  Texts joined by program: Dy, Base, App, Owk, Fl, Fr, Twa. No condition of its own.
-/
import Derived.Test.YtnapapijhhldpaaGreatDoorJtAB
namespace Go.Proofs.YtnapapijhhldpaaGreatDoor
set_option linter.unusedSimpArgs false
set_option linter.unusedVariables false
set_option maxRecDepth 100000
set_option maxHeartbeats 4000000
section
structure Pts where
 pt:Nat->Nat
 ht:Nat->Int
def updN (F:Nat->Nat) (j x:Nat):Nat->Nat:=fun i=>if i=j then x else F i
def updI (F:Nat->Int) (j:Nat) (x:Int):Nat->Int:=fun i=>if i=j then x else F i
def Pts.set (p:Pts) (j x:Nat) (h:Int):Pts:=⟨updN p.pt j x,updI p.ht j h⟩
def cZ (p:Pts) (m:Nat):Nat:=((List.range m).filter fun j=>!decide (p.pt j≠0)).length
theorem cZ_mono {p q:Pts} {m:Nat} (h:∀ i,p.pt i≠0->q.pt i≠0):cZ q m<=cZ p m:=by
 unfold cZ
 rw [<-List.countP_eq_length_filter,<-List.countP_eq_length_filter]
 refine List.countP_mono_left fun x _ hx=>?_
 simp only [Bool.not_eq_true',decide_eq_false_iff_not] at hx ⊢
 exact fun hp=>hx (h x hp)
theorem cZ_set {p:Pts} {m j x:Nat} {h:Int} (hj:j<m) (h0:p.pt j=0) (hx:x≠0):cZ (p.set j x h) m+1=cZ p m:=by
 have h1:=updS_count (E:=fun k=>decide (p.pt k≠0)) hj (by simp [h0])
 unfold cZ
 rw [<-h1]
 congr 1
 congr 1
 refine List.filter_congr fun k _=>?_
 by_cases e:k=j
 ·subst e; simp [Pts.set,updN,updS,hx]
 ·simp [Pts.set,updN,updS,e]
def Shut (S:Sqr) (gray:List Nat) (p:Pts):Prop:=∀ j,p.pt j≠0->j∉gray->∀ m,m∈S.tor j->p.pt m.1≠0
def HtB (B:Nat) (p:Pts):Prop:=∀ i,(p.ht i).natAbs<=B
structure Rose (S:Sqr) (gray:List Nat) (K B i:Nat) (at_:Int) (p q:Pts):Prop where
 keep:∀ j,p.pt j≠0->q.pt j=p.pt j
 new:∀ j,p.pt j=0->q.pt j=0\/q.pt j=K
 here:q.pt i≠0
 shut:Shut S gray q
 bnd:HtB B q
 zero:(∀ j m,m∈S.tor j->m.2=0)->at_=0->(∀ j,p.ht j=0)->∀ j,q.ht j=0
theorem Rose.old {S:Sqr} {gray:List Nat} {K B i:Nat} {at_:Int} {p:Pts} (hs:Shut S gray p) (hb:HtB B p) (h:p.pt i≠0):Rose S gray K B i at_ p p :=
 ⟨fun _ _=>rfl,fun _ h=>.inl h,h,hs,hb,fun _ _ h=>h⟩
structure Ros (S:Sqr) (gray:List Nat) (K B i:Nat) (at_:Int) (p q:Pts) (k:Nat):Prop where
 keep:∀ j,p.pt j≠0->q.pt j=p.pt j
 new:∀ j,p.pt j=0->q.pt j=0\/q.pt j=K
 here:q.pt i≠0
 shut:Shut S (i::gray) q
 done:∀ m,m∈(S.tor i).take k->q.pt m.1≠0
 bnd:HtB B q
 zero:(∀ j m,m∈S.tor j->m.2=0)->at_=0->(∀ j,p.ht j=0)->∀ j,q.ht j=0
theorem Ros.start {S:Sqr} {gray:List Nat} {K B i:Nat} {at_:Int} {p:Pts} (hs:Shut S gray p) (hb:HtB B p) (h0:p.pt i=0) (hK:K≠0) (ha:at_.natAbs<=B):Ros S gray K B i at_ p (p.set i K at_) 0:=by
 have hne:∀ j,j≠i->(p.set i K at_).pt j=p.pt j/\(p.set i K at_).ht j=p.ht j:=fun j e=>⟨if_neg e,if_neg e⟩
 have hat:(p.set i K at_).pt i=K/\(p.set i K at_).ht i=at_:=⟨if_pos rfl,if_pos rfl⟩
 have hmon:∀ j,p.pt j≠0->(p.set i K at_).pt j≠0:=fun j hj=>by
  by_cases e:j=i
  ·subst e; exact absurd h0 hj
  ·rw [(hne j e).1]; exact hj
 refine ⟨fun j hj=>?_,fun j hj=>?_,by rw [hat.1]; exact hK,fun j hj hg m hm=>?_,fun m hm=>by simp at hm,fun j=>?_,fun hz h1 h2 j=>?_⟩
 ·by_cases e:j=i
  ·subst e; exact absurd h0 hj
  ·exact (hne j e).1
 ·by_cases e:j=i
  ·subst e; exact .inr hat.1
  ·exact .inl ((hne j e).1.trans hj)
 ·have e:j≠i:=fun e=>hg (e▸List.mem_cons_self)
  rw [(hne j e).1] at hj
  exact hmon _ (hs j hj (fun h=>hg (List.mem_cons_of_mem _ h)) m hm)
 ·by_cases e:j=i
  ·subst e; rw [hat.2]; exact ha
  ·rw [(hne j e).2]; exact hb j
 ·by_cases e:j=i
  ·subst e; rw [hat.2]; exact h1
  ·rw [(hne j e).2]; exact h2 j
theorem Ros.step {S:Sqr} {gray:List Nat} {K B i k:Nat} {at_:Int} {p q r:Pts} (h:Ros S gray K B i at_ p q k) {m:Nat×Int} (hm:(S.tor i)[k]? = some m) (hr:Rose S (i::gray) K B m.1 (at_-m.2) q r):Ros S gray K B i at_ p r (k+1):=by
 have hmon:∀ j,q.pt j≠0->r.pt j≠0:=fun j hj=>by rw [hr.keep j hj]; exact hj
 refine ⟨fun j hj=>?_,fun j hj=>?_,hmon _ h.here,hr.shut,fun m' hm'=>?_,hr.bnd,fun hz h1 h2=>hr.zero hz ?_ (h.zero hz h1 h2)⟩
 ·have h1:=h.keep j hj
  have h2:q.pt j≠0:=by rw [h1]; exact hj
  rw [hr.keep j h2,h1]
 ·rcases h.new j hj with h1 | h1
  ·exact hr.new j h1
  ·by_cases e:q.pt j=0
   ·exact hr.new j e
   ·rw [hr.keep j e]; exact .inr h1
 ·rw [List.take_add_one,hm] at hm'
  rcases List.mem_append.1 hm' with h1 | h1
  ·exact hmon _ (h.done m' h1)
  ·obtain rfl:m'=m:=by simpa using h1
   exact hr.here
 ·rw [hz i m (List.mem_of_getElem? hm),h1]; rfl
theorem Ros.fin {S:Sqr} {gray:List Nat} {K B i k:Nat} {at_:Int} {p q:Pts} (h:Ros S gray K B i at_ p q k) (hk:k=(S.tor i).length):Rose S gray K B i at_ p q:=by
 refine ⟨h.keep,h.new,h.here,fun j hj hg m hm=>?_,h.bnd,h.zero⟩
 by_cases e:j=i
 ·subst e
  exact h.done m (by rw [hk,List.take_length]; exact hm)
 ·exact h.shut j hj (fun hc=>(List.mem_cons.1 hc).elim e hg) m hm
structure Rnd (S:Sqr) (B K:Nat) (p:Pts):Prop where
 shut:Shut S [] p
 le:∀ i,p.pt i<=K
 fall:∀ j,p.pt j≠0->∀ m,m∈S.tor j->p.pt m.1<=p.pt j
 bnd:HtB B p
 zero:(∀ j m,m∈S.tor j->m.2=0)->∀ j,p.ht j=0
theorem Rnd.start (S:Sqr) (B:Nat):Rnd S B 0 ⟨fun _=>0,fun _=>0⟩ :=
 ⟨fun j hj=>absurd rfl hj,fun _=>Nat.le_refl _,fun j hj=>absurd rfl hj,fun i=>Nat.zero_le _,fun _ _=>rfl⟩
theorem Rnd.step {S:Sqr} {B K i:Nat} {p q:Pts} (h:Rnd S B K p) (hr:Rose S [] (K+1) B i 0 p q):Rnd S B (K+1) q:=by
 have hle:∀ i,q.pt i<=K+1:=fun i=>by
  by_cases e:p.pt i=0
  ·rcases hr.new i e with h1 | h1<;>omega
  ·rw [hr.keep i e]; have:=h.le i; omega
 refine ⟨hr.shut,hle,fun j hj m hm=>?_,hr.bnd,fun hz=>hr.zero hz rfl (h.zero hz)⟩
 by_cases e:p.pt j=0
 ·rcases hr.new j e with h1 | h1
  ·exact absurd h1 hj
  ·rw [h1]; exact hle _
 ·have h1:=h.shut j e (by simp) m hm
  rw [hr.keep j e,hr.keep _ h1]
  exact h.fall j e m hm
def Fit (S:Sqr) (p:Pts) (i k:Nat):Prop:=∀ m,m∈(S.fr i).take k->p.pt m.1=p.pt i->p.ht m.1=p.ht i+m.2
theorem hts_of {A:Au} {n:Nat} {S:Sqr} (h:SqI A n [] S) {B K:Nat} {p:Pts} (hr:Rnd S B K p) (ha:∀ i∈S.ord,p.pt i≠0) (hf:∀ i∈S.ord,Fit S p i (S.fr i).length) (hc:∀ i m,m∈S.fr i->S.seen m.1=true):Hts S p.pt p.ht:=by
 refine ⟨fun i m hm=>?_,fun i hi m hm=>hf i hi m (by rw [List.take_length]; exact hm)⟩
 have h1:m.1∈S.ord:=(h.all _ (hc i m hm)).elim id fun e=>by cases e
 exact hr.fall m.1 (ha _ h1) (i,m.2) ((h.dual i m.1 m.2).1 hm)
theorem SqI.ahead {A:Au} {n:Nat} {S:Sqr} (hn:∀ x∈A.arcs,x.1<n/\x.2.2.1<n) (h:SqI A n [] S) (i:Nat) (m:Nat×Int) (hm:m∈S.fr i):S.seen m.1=true:=by
 obtain ⟨h1,h2,h3,h4⟩:=h.snd i m hm
 have hin:i∈S.ord:=(h.all _ h4).elim id fun e=>by cases e
 have:=(h.com i hin _ _ h1).2
 rwa [nuI_prI] at this
theorem seen_diag {A:Au} (hu:∀ x∈A.arcs,∀ y∈A.arcs,x.1=y.1->x.2.1=y.2.1->x=y) (hi:∀ q c,A.ini[q]? = some (some c)->q=0) {P:Pr} (h:Seen A P):P.1=P.2:=by
 induction h with
 | here h=>obtain ⟨⟨c,hc⟩,⟨d,hd⟩,_⟩:=h; rw [hi _ _ hc,hi _ _ hd]
 | step _ hm ih =>
  obtain ⟨x,hx,y,hy,a1,a2,a3,a4,a5,_⟩:=hm
  have:=hu x hx y hy (by rw [a1,a2,ih]) a5
  subst this
  rw [<-a3,<-a4]
theorem det_gap {A:Au} {n:Nat} {S:Sqr} (hu:∀ x∈A.arcs,∀ y∈A.arcs,x.1=y.1->x.2.1=y.2.1->x=y) (hi:∀ q c,A.ini[q]? = some (some c)->q=0) (h:SqI A n [] S) (i:Nat) (m:Nat×Int) (hm:m∈S.fr i):m.2=0:=by
 obtain ⟨h1,h2,h3,h4⟩:=h.snd i m hm
 have hd:=seen_diag hu hi (h.rch i h4)
 obtain ⟨x,hx,y,hy,a1,a2,a3,a4,a5,_,_,a8⟩:=h1
 have:=hu x hx y hy (by rw [a1,a2,hd]) a5
 subst this
 rw [a8]; omega
end
section
open Go.RowKit
theorem hid {p:Prop} (h:p):Hid p:=h
structure Sl (w:World) (ao:OA) (n cap:Nat) (xs:List Value):Prop where
 len:xs.length=n
 le:n<=cap
 most:cap<=maxLen
 at_:∀ i x,xs[i]? = some x->∃ b off,ao=some ⟨b,off,none⟩/\w.cell? ⟨b,off+i,none⟩=some x
theorem Sl.below {w w':World} {ao:OA} {n cap:Nat} {xs:List Value} (h:Sl w ao n cap xs) {B:Nat} (hb:Below B w w') (hB:w.heap.size<=B):Sl w' ao n cap xs :=
 ⟨h.len,h.le,h.most,fun i x hx=>by
  obtain ⟨b,off,e,hc⟩:=h.at_ i x hx
  refine ⟨b,off,e,?_⟩
  have hlt:=World.block_lt_of_cell? w _ hc
  rw [hb.cell (p:=⟨b,off+i,none⟩) (Nat.lt_of_lt_of_le hlt hB)]
  exact hc⟩
theorem Sl.next {w w':World} {ao:OA} {n cap:Nat} {xs:List Value} (h:Sl w ao n cap xs) (hb:Below w.heap.size w w'):Sl w' ao n cap xs:=h.below hb (Nat.le_refl _)
theorem Sl.nil (w:World):Sl w none 0 0 []:=⟨rfl,Nat.le_refl _,by simp [maxLen],fun i x h=>by simp at h⟩
theorem Sl.get {w:World} {ao:OA} {n cap:Nat} {α:Type} {f:α->Value} {xs:List α} (h:Sl w ao n cap (xs.map f)) {k:Nat} (hk:k<n) :
  ∃ x,xs[k]? = some x/\∃ b off,ao=some ⟨b,off,none⟩/\w.cell? ⟨b,off+k,none⟩=some (f x):=by
 have hl:=h.len
 simp only [List.length_map] at hl
 have hk':k<xs.length:=by omega
 refine ⟨xs[k],by simp [hk'],?_⟩
 exact h.at_ k (f xs[k]) (by simp [hk'])
theorem Sl.take {w:World} {ao:OA} {n cap:Nat} {xs:List Value} (h:Sl w ao n cap xs) {k:Nat} (hk:k<=n):Sl w ao k cap (xs.take k) :=
 ⟨by simp [h.len]; omega,by have:=h.le; omega,h.most,fun i x hx=>by
  rw [List.getElem?_take] at hx
  split at hx
  ·exact h.at_ i x hx
  ·cases hx⟩
theorem Sl.lenMap {w:World} {ao:OA} {n cap:Nat} {α:Type} {f:α->Value} {xs:List α} (h:Sl w ao n cap (xs.map f)):xs.length=n:=by
 have:=h.len; simpa using this
theorem Sl.bound {w:World} {ao:OA} {n cap:Nat} {xs:List Value} (h:Sl w ao n cap xs):n<=9223372036854775807:=by
 have h1:=h.le; have h2:=h.most; simp only [maxLen] at h2; omega
theorem ownsSl {w:World} {base:Nat} {e:TypeId} {v:Value} {n:Nat} {xs:List Value} (h:w.ownsRow base e 1 v n xs):∃ ao cap,v=.slice ao n cap/\Sl w ao n cap xs:=by
 obtain ⟨h1,h2⟩:=h
 rcases h2 with ⟨rfl,rfl⟩ | ⟨g,cap,cur,rfl,hg,hh,hn,hm,hcs,ht⟩
 ·have:xs=[]:=List.eq_nil_of_length_eq_zero (by simpa using h1)
  subst this
  exact ⟨none,0,rfl,Sl.nil w⟩
 ·refine ⟨some ⟨g,0,none⟩,cap,rfl,by simpa using h1,hn,hm,fun i x hx=>⟨g,0,rfl,?_⟩⟩
  rw [cell_of_row w g (0+i) cur e (0,0) hh]
  rw [<-ht,List.getElem?_take] at hx
  split at hx
  ·simpa using hx
  ·cases hx
theorem ownsRow_below {w w':World} {base:Nat} {e:TypeId} {size:Nat} {v:Value} {n:Nat} {xs:List Value} (h:w.ownsRow base e size v n xs) {B:Nat} (hb:Below B w w') (hB:w.heap.size<=B):w'.ownsRow base e size v n xs:=by
 refine ⟨h.1,?_⟩
 rcases h.2 with hn | ⟨g,cap,cur,rfl,hg,hh,r⟩
 ·exact Or.inl hn
 ·refine Or.inr ⟨g,cap,cur,rfl,hg,?_,r⟩
  have hlt:=(Array.getElem?_eq_some_iff.1 hh).1
  rw [hb.block g (Nat.lt_of_lt_of_le hlt hB)]
  exact hh
theorem bcell {W w1:World} (hb:Below W.heap.size W w1):(∀ b o,b<W.heap.size->w1.cell? ⟨b,o,none⟩=W.cell? ⟨b,o,none⟩)/\(∀ b o,b<W.heap.size->w1.frozen? ⟨b,o,none⟩=W.frozen? ⟨b,o,none⟩) :=
 ⟨fun b o h=>hb.cell (p:=⟨b,o,none⟩) h,fun b o h=>hb.frozen (p:=⟨b,o,none⟩) h⟩
theorem quiet_eq {P:Program} {f:FuncId} {args:Array Value} {w:World} {n:Nat} {v:Value}
  (h:Calls P f args (w.drewN n) fun e w'=>e=.returned v/\w.drewN n=w'):Calls P f args (w.drewN n) fun e w''=>e=.returned v/\∃ m,w''=w.drewN m :=
 h.mono fun _ _ ⟨he,hm⟩=>⟨he,n,hm.symm⟩
theorem Sl.drewN {w:World} {ao:OA} {n cap:Nat} {xs:List Value} (h:Sl w ao n cap xs) (k:Nat):Sl (w.drewN k) ao n cap xs :=
 ⟨h.len,h.le,h.most,fun i x hx=>by
  obtain ⟨b,off,e,hc⟩:=h.at_ i x hx
  exact ⟨b,off,e,by simpa using hc⟩⟩
theorem Sl.cells {w:World} {ad:Addr} {n cap:Nat} {xs:List Value} (h:Sl w (some ad) n cap xs):∀ j u,xs[j]? = some u->w.cell? (ad.add j)=some u:=by
 intro j u hu
 obtain ⟨b,off,e,hc⟩:=h.at_ j u hu
 obtain rfl:=Option.some.inj e
 rw [Addr.add_lit]
 exact hc
theorem Sl.none_zero {w:World} {n cap:Nat} {xs:List Value} (h:Sl w none n cap xs):n=0/\xs=[]:=by
 cases xs with
 | nil=>exact ⟨by have:=h.len; simpa using this.symm,rfl⟩
 | cons x T'=>obtain ⟨_,_,he,_⟩:=h.at_ 0 x rfl; cases he
theorem Sl.lit (w:World) (xs:List Value) (e:TypeId) (hm:xs.length<=maxLen):Sl (w.alloc (.cells xs.toArray e)) (some ⟨w.heap.size,0,none⟩) xs.length xs.length xs :=
 ⟨rfl,Nat.le_refl _,hm,fun i x hx=>⟨w.heap.size,0,rfl,by
  rw [World.cell?_alloc_at _ _ _ _ rfl]; simpa using hx⟩⟩
theorem below_alloc {w:World} (o:Obj):Below w.heap.size w (w.alloc o):=(Below.refl _ _).alloc (Nat.le_refl _) o
theorem own_ne {w:World} {b1 b2:Nat} {e1 e2:TypeId} {s1 s2:Nat} {v1 v2:Value} {n1 n2:Nat} {x1 x2:List Value} (h1:w.ownsRow b1 e1 s1 v1 n1 x1) (h2:w.ownsRow b2 e2 s2 v2 n2 x2) (he:e1≠e2) :
  v1.ownBlock=none\/v1.ownBlock≠v2.ownBlock:=by
 rcases h1.2 with ⟨rfl,_⟩ | ⟨g1,c1,cur1,rfl,_,hh1,_⟩
 ·exact Or.inl rfl
 ·refine Or.inr fun hb=>?_
  rcases h2.2 with ⟨rfl,_⟩ | ⟨g2,c2,cur2,rfl,_,hh2,_⟩
  ·cases hb
  ·simp only [Value.ownBlock,Option.some.injEq] at hb
   subst hb
   rw [hh1] at hh2
   injection hh2 with hh2
   injection hh2 with _ hh2 _
   exact he hh2
end
section
open Go.RowKit
theorem wp_app {P:Program} {w:World} {ops:Array Oper} {rest:List Oper} {o:Oper} {a:Act} {Q:EP} (hgd:o.guard=none) (s x:Operand) (t:TypeId)
  (ho:o.op=.call { callee:=.builtin .append,args:=#[s,x],argTypes:=#[t,t] }) (e:TypeId) (z:Value) (bytes:Nat) (ht:P.underlying t=some (.slice e))
  (hinfo:(P.info? e).map (fun i=>(i.zero,i.size,i.bytes))=some (some z,1,bytes)) (hzs:z.cells.size=1)
  (base:Nat) (v:Value) (n:Nat) (xs:List Value) (hs:a.eval s=v) (hown:w.ownsRow base e 1 v n xs)
  (ao:OA) (m c:Nat) (news:List Value) (hx:a.eval x=.slice ao m c) (hsl:Sl w ao m c news) (hcz:ao=none->c=0) (h1:∀ u∈news,u.oneCell'=true)
  (hroom:(n+m)*bytes<=140737488355328) (hml:n+m<=9223372036854775807) (hbase:base<=w.heap.size)
  (h:∀ v' w',w'.ownsRow base e 1 v' (n+m) (xs++news)->w.grownBy w' v.ownBlock->Below base w w'->wpList P ops Q rest (a.put o.dst v') w'):wpList P ops Q (o::rest) a w:=by
 obtain ⟨i,hi,hz,hsz,hby⟩:=info_parts hinfo
 cases ao with
 | none =>
  obtain ⟨rfl,rfl⟩:=hsl.none_zero
  obtain rfl:=hcz rfl
  refine wpList_append_own_none hgd s x t ho base e i 1 ht hi v n xs hs hown hx ?_
  exact h v w (by simpa using hown) (World.grownBy.refl _ _) (Below.refl _ _)
 | some ad =>
  refine wpList_append_own _ hgd s x t ho base e i z 1 bytes ht hi hz hsz hby hzs (by decide) v n xs hs hown ad m c news hx (by rw [hsl.len]; simp) hsl.cells h1 (by unfold maxLen; omega) hroom hbase ?_
  intro v' w' ho' hg _
  exact h v' w' ho' hg ((Below.refl _ _).grown hg hbase (fun k hk=>(hown.lt k hk).1))
theorem wp_make {P:Program} {w:World} {ops:Array Oper} {rest:List Oper} {o:Oper} {a:Act} {Q:EP} (hgd:o.guard=none) (l c:Operand) (t:TypeId)
  (ho:o.op=Op.makeSlice t l c) (e:TypeId) (z:Value) (bytes:Nat) (ht:P.underlying t=some (.slice e))
  (hinfo:(P.info? e).map (fun i=>(i.zero,i.size,i.bytes))=some (some z,1,bytes)) (hzs:z.cells=#[z])
  (kl kc:IntKind) (L C:Int) (n:Nat) (hl:a.eval l=.int kl L) (hc:a.eval c=.int kc C) (hL:L=(n:Int)) (hC:C=(n:Int))
  (hroom:bytes*n<=281474976710656) (hml:n<=9223372036854775807)
  (h:∀ w',w'.ownsRow w.heap.size e 1 (.slice (some ⟨w.heap.size,0,none⟩) n n) n (List.replicate n z)->w.grownBy w' none->Below w.heap.size w w'->wpList P ops Q rest (a.put o.dst (.slice (some ⟨w.heap.size,0,none⟩) n n)) w'):wpList P ops Q (o::rest) a w:=by
 obtain ⟨i,hi,hz,hsz,hby⟩:=info_parts hinfo
 refine wpList_make_full w hgd l c t ho w.heap.size e i z 1 ht hi hz hsz kl kc L C n hl hc hL hC (by rw [hby]; exact hroom) (by unfold maxLen; omega) (Nat.le_refl _) ?_
 intro w' ho' hg
 rw [hzs,Nat.mul_one,toList_madeCells_one] at ho'
 exact h w' ho' hg ((Below.refl _ _).grown hg (Nat.le_refl _) (fun k hk=>by cases hk))
end
section
open Go.RowKit
def Own (K:Value->Prop) (w:World) (base:Nat) (e:TypeId) (size:Nat) (v:Value) (n:Nat) (xs:List Value):Prop :=
 w.ownsRow base e size v n xs/\∀ g,v.ownBlock=some g->∀ cur t fr,w.heap[g]? = some (.cells cur t fr)->∀ c∈cur,K c
section
variable {K:Value->Prop} {w w':World} {base:Nat} {e:TypeId} {size:Nat} {v:Value} {n:Nat} {xs:List Value}
theorem Own.nil (K:Value->Prop) (w:World) (base:Nat) (e:TypeId) (size:Nat):Own K w base e size (.slice none 0 0) 0 [] :=
 ⟨World.ownsRow_nil _ _ _ _,fun g h=>by cases h⟩
theorem Own.same (h:Own K w base e size v n xs) (hb:∀ g,v.ownBlock=some g->w'.heap[g]? = w.heap[g]?):Own K w' base e size v n xs:=by
 obtain ⟨⟨h1,h2⟩,hk⟩:=h
 refine ⟨⟨h1,?_⟩,fun g hg cur t fr hh=>hk g hg cur t fr (by rw [<-hb g hg]; exact hh)⟩
 rcases h2 with h2 | ⟨g,cap,cur,rfl,hg,hh,r⟩
 ·exact .inl h2
 ·exact .inr ⟨g,cap,cur,rfl,hg,(hb g rfl).trans hh,r⟩
theorem Own.lt (h:Own K w base e size v n xs) {g:Nat} (hg:v.ownBlock=some g):base<=g/\g<w.heap.size:=h.1.lt g hg
theorem Own.below (h:Own K w base e size v n xs) (hb:Below w.heap.size w w'):Own K w' base e size v n xs:=h.same fun g hg=>hb.block g (h.lt hg).2
theorem Own.new (h:Own K w base e size v n xs) (o:Obj):Own K (w.alloc o) base e size v n xs:=h.below (below_alloc o)
theorem Own.put (h:Own K w base e size v n xs) {p:Addr} (hp:∀ g,v.ownBlock=some g->g≠p.block) (u:Value):Own K (w.setCell p u) base e size v n xs :=
 h.same fun g hg=>Below.heap_setCell w p u g (hp g hg)
theorem Own.off (h:Own K w base e size v n xs) {b o:Nat} {c:Value} (hc:w.cell? ⟨b,o,none⟩=some c) (hK:¬ K c):∀ g,v.ownBlock=some g->b≠g:=by
 rintro g hg rfl
 obtain ⟨⟨_,h2⟩,hk⟩:=h
 rcases h2 with ⟨rfl,_⟩ | ⟨g',cap,cur,rfl,_,hh,_⟩
 ·cases hg
 ·simp only [Value.ownBlock,Option.some.injEq] at hg
  subst hg
  rw [cell_of_row w g' o cur e (0,0) hh] at hc
  exact hK (hk g' rfl cur e (0,0) hh c (Array.mem_of_getElem? hc))
theorem Own.append {P:Program} (t ty:TypeId) (i:TypeInfo) (z:Value) (bytes:Nat) (ht:P.underlying t=some (.slice e)) (hi:P.info? e=some i) (hz:i.zero=some z)
  (hsize:i.size=size) (hby:i.bytes=bytes) (hzs:z.cells.size=size) (hsz:0<size) (hzK:∀ c∈z.cells,K c) (h:Own K w base e size v n xs)
  (a:Addr) (m c:Nat) (news:List Value) (hl:news.length=m*size) (hnews:∀ j u,news[j]? = some u->w.cell? (a.add j)=some u) (h1:∀ u∈news,u.oneCell'=true) (hnK:∀ u∈news,K u)
  (hm:0<m) (h63:n+m<=maxLen) (hbytes:(n+m)*bytes<=140737488355328) (hbase:base<=w.heap.size) :
  ∃ v' w',(Builtin.append_ #[t,t] ty #[v,.slice (some a) m c]).run P w=.ok v' w'/\Own K w' base e size v' (n+m) (xs++news)/\w.grownBy w' v.ownBlock/\(v'.ownBlock=v.ownBlock\/v'.ownBlock=some w.heap.size):=by
 obtain ⟨v',w',hr,hown,hg,_⟩:=run_append_own (P:=P) w base t ty e i z size bytes ht hi hz hsize hby hzs hsz v n xs h.1 a m c news hl hnews h1 h63 hbytes hbase
 subst hsize
 have hsmall:n+m<=9223372036854775807:=by simp only [maxLen] at h63; omega
 have zK:∀ k,∀ u∈Builtin.zeroCells z.cells k,K u:=by
  intro k u hu
  simp only [Builtin.zeroCells,Array.mem_map,Array.mem_range] at hu
  obtain ⟨j,hj,rfl⟩:=hu
  have hj2:j%z.cells.size<z.cells.size:=Nat.mod_lt _ (by omega)
  rw [getElem!_pos z.cells _ hj2]
  exact hzK _ (Array.getElem_mem hj2)
 obtain ⟨⟨g1,g2⟩,hk⟩:=h
 rcases g2 with ⟨rfl,rfl⟩ | ⟨g,cap,cur,rfl,hbg,hh,hnc,hcm,hcs,htake⟩
 ·have hr2:=run_append_nil (P:=P) w t ty e i z ht hi hz a m c news hl hnews hm (by omega) (by have hb:=hbytes; rw [hby]; simp only [Nat.zero_add] at hb; omega)
  rw [hr] at hr2
  injection hr2 with e1 e2
  subst e1 e2
  refine ⟨_,_,hr,⟨hown,?_⟩,hg,.inr rfl⟩
  intro g' hg' cur' t' fr' hh'
  simp only [Value.ownBlock,Option.some.injEq] at hg'
  subst hg'
  rw [show (w.drew.alloc (.cells (news.toArray++Builtin.zeroCells z.cells (grownCap w m 0 e-m)) e)).heap[w.heap.size]? = some _ from heap_alloc_new w.drew _] at hh'
  injection hh' with hh'
  injection hh' with e1 _ _
  subst e1
  intro u hu
  rw [Array.mem_append] at hu
  rcases hu with hu | hu
  ·exact hnK u (by simpa using hu)
  ·exact zK _ u hu
 ·have curK:=hk g rfl cur e (0,0) hh
  by_cases hroom:n+m<=cap
  ·have hfit:n*i.size+news.length<=cur.size:=by rw [hl,hcs,<-Nat.add_mul]; exact Nat.mul_le_mul_right _ hroom
   have hr2:=run_append_room (P:=P) w t ty e i ht hi g n cap cur hh a m c news hl hnews h1 hroom hfit
   rw [hr] at hr2
   injection hr2 with e1 e2
   subst e1 e2
   refine ⟨_,_,hr,⟨hown,?_⟩,hg,.inl rfl⟩
   intro g' hg' cur' t' fr' hh'
   simp only [Value.ownBlock,Option.some.injEq] at hg'
   subst hg'
   rw [setRow_heap w g cur _ e _ hh] at hh'
   injection hh' with hh'
   injection hh' with e1 _ _
   subst e1
   intro u hu
   simp only [List.mem_toArray,List.mem_append] at hu
   rcases hu with (hu | hu) | hu
   ·exact curK u (by simpa using List.mem_of_mem_take hu)
   ·exact hnK u hu
   ·exact curK u (by simpa using List.mem_of_mem_drop hu)
  ·have holds:∀ j u,xs[j]? = some u->w.cell? ((⟨g,0,none⟩:Addr).add j)=some u:=World.ownsRow.cells (v:=.slice (some ⟨g,0,none⟩) n cap) ⟨g1,.inr ⟨g,cap,cur,rfl,hbg,hh,hnc,hcm,hcs,htake⟩⟩ (g:=g) rfl
   have hr2:=run_append_grow (P:=P) w t ty e i z ht hi hz ⟨g,0,none⟩ n cap xs g1 holds a m c news hl hnews (by omega) (by omega) (growslice_fits (by omega) (by rw [hby]; exact hbytes))
   rw [hr] at hr2
   injection hr2 with e1 e2
   subst e1 e2
   refine ⟨_,_,hr,⟨hown,?_⟩,hg,.inr rfl⟩
   intro g' hg' cur' t' fr' hh'
   simp only [Value.ownBlock,Option.some.injEq] at hg'
   subst hg'
   rw [show (w.drew.alloc (.cells (xs.toArray++news.toArray++Builtin.zeroCells z.cells (grownCap w (n+m) cap e-(n+m))) e)).heap[w.heap.size]? = some _ from heap_alloc_new w.drew _] at hh'
   injection hh' with hh'
   injection hh' with e1 _ _
   subst e1
   intro u hu
   simp only [Array.mem_append,List.mem_toArray] at hu
   rcases hu with (hu | hu) | hu
   ·rw [<-htake] at hu
    exact curK u (by simpa using List.mem_of_mem_take hu)
   ·exact hnK u hu
   ·exact zK _ u hu
end
section
variable {w w':World} {row:Option Nat}
theorem Sl.grown {ao:OA} {n cap:Nat} {xs:List Value} (h:Sl w ao n cap xs) (hg:w.grownBy w' row) (hoff:∀ (i:Nat) (x:Value) (b o:Nat),xs[i]? = some x->w.cell? ⟨b,o,none⟩=some x->some b≠row):Sl w' ao n cap xs :=
 ⟨h.len,h.le,h.most,fun i x hx=>by
  obtain ⟨b,off,e,hc⟩:=h.at_ i x hx
  exact ⟨b,off,e,hg.cell hc (hoff i x b _ hx hc)⟩⟩
end
end
section
open Go.RowKit
def Cs (w:World) (b o:Nat) (cs:List Value):Prop:=∀ c v,cs[c]? = some v->w.cell? ⟨b,o+c,none⟩=some v
theorem Cs.below {w w':World} {b o B:Nat} {cs:List Value} (h:Cs w b o cs) (hb:Below B w w') (hB:b<B):Cs w' b o cs:=fun c v hv=>by
 rw [hb.cell (p:=⟨b,o+c,none⟩) hB]; exact h c v hv
theorem Cs.lt {w:World} {b o:Nat} {cs:List Value} (h:Cs w b o cs) (h0:cs≠[]):b<w.heap.size:=by
 cases cs with
 | nil=>exact absurd rfl h0
 | cons x r=>exact World.block_lt_of_cell? w _ (h 0 x rfl)
theorem Cs.next {w w':World} {b o:Nat} {cs:List Value} (h:Cs w b o cs) (hb:Below w.heap.size w w'):Cs w' b o cs:=fun c v hv=>by
 rw [hb.cell (p:=⟨b,o+c,none⟩) (World.block_lt_of_cell? w _ (h c v hv))]; exact h c v hv
theorem Cs.block {w w':World} {b o:Nat} {cs:List Value} (h:Cs w b o cs) (hb:w'.heap[b]? = w.heap[b]?):Cs w' b o cs:=fun c v hv=>by
 rw [World.cell?_of_block (a:=⟨b,o+c,none⟩) hb]; exact h c v hv
theorem Cs.fresh (w:World) (cs:List Value) (t:TypeId):Cs (w.alloc (.cells cs.toArray t)) w.heap.size 0 cs:=fun c v hv=>by
 rw [World.cell?_alloc_at _ _ _ _ rfl]; simpa using hv
structure Fl (k:Nat) (w:World) (ao:OA) (n cap:Nat) (css:List (List Value)):Prop where
 len:css.length=n
 le:n<=cap
 most:cap<=maxLen
 nil:ao=none->cap=0
 at_:∀ i cs,css[i]? = some cs->∃ b o,ao=some ⟨b,o,none⟩/\Cs w b (o+i*k) cs
section
variable {k n cap:Nat} {w w':World} {ao:OA} {css:List (List Value)}
theorem Fl.next (h:Fl k w ao n cap css) (hb:Below w.heap.size w w'):Fl k w' ao n cap css :=
 ⟨h.len,h.le,h.most,h.nil,fun i cs hi=>by
  obtain ⟨b,o,e,hc⟩:=h.at_ i cs hi
  exact ⟨b,o,e,hc.next hb⟩⟩
theorem Fl.none_ (k:Nat) (w:World):Fl k w none 0 0 []:=⟨rfl,Nat.le_refl _,by simp [maxLen],fun _=>rfl,fun i cs h=>by simp at h⟩
theorem Fl.bound (h:Fl k w ao n cap css):n<=9223372036854775807:=by
 have h1:=h.le; have h2:=h.most; simp only [maxLen] at h2; omega
theorem Fl.get {α:Type} {f:α->List Value} {xs:List α} (h:Fl k w ao n cap (xs.map f)) {i:Nat} (hi:i<n) :
  ∃ x,xs[i]? = some x/\∃ b o,ao=some ⟨b,o,none⟩/\Cs w b (o+i*k) (f x):=by
 have hl:=h.len
 simp only [List.length_map] at hl
 have hi':i<xs.length:=by omega
 refine ⟨xs[i],by simp [hi'],?_⟩
 exact h.at_ i (f xs[i]) (by simp [hi'])
theorem Fl.lenMap {α:Type} {f:α->List Value} {xs:List α} (h:Fl k w ao n cap (xs.map f)):xs.length=n:=by have:=h.len; simpa using this
theorem Fl.slice {b o:Nat} (h:Fl k w (some ⟨b,o,none⟩) n cap css) {i j:Nat} (hij:i<=j) (hj:j<=n):Fl k w (some ⟨b,o+i*k,none⟩) (j-i) (cap-i) ((css.take j).drop i) :=
 ⟨by rw [List.length_drop,List.length_take,h.len]; omega,by have:=h.le; omega,by have:=h.most; omega,(fun e=>by cases e),fun m cs hm=>by
  rw [List.getElem?_drop,List.getElem?_take] at hm
  split at hm
  ·obtain ⟨b',o',e,hc⟩:=h.at_ _ cs hm
   injection e with e
   injection e with e1 e2
   subst e1 e2
   exact ⟨b,o+i*k,rfl,by rw [Nat.add_mul] at hc; rw [Nat.add_assoc]; exact hc⟩
  ·cases hm⟩
end
theorem flat_get {k:Nat}:∀ {css:List (List Value)},(∀ cs∈css,cs.length=k)->∀ {i c:Nat} {cs:List Value} {u:Value},css[i]? = some cs->cs[c]? = some u->css.flatten[i*k+c]? = some u
 | [],_,i,c,cs,u,h,_=>by simp at h
 | x::r,hk,i,c,cs,u,h,hu=>by
  have hx:=hk x List.mem_cons_self
  cases i with
  | zero =>
   simp at h
   subst h
   rw [List.flatten_cons,Nat.zero_mul,Nat.zero_add,List.getElem?_append_left (List.getElem?_eq_some_iff.1 hu).1]
   exact hu
  | succ i =>
   have ih:=flat_get (css:=r) (fun cs hcs=>hk cs (List.mem_cons_of_mem _ hcs)) (i:=i) (c:=c) (cs:=cs) (u:=u) (by simpa using h) hu
   rw [List.flatten_cons,List.getElem?_append_right (by rw [hx,Nat.add_mul]; omega),hx]
   rw [show (i+1)*k+c-k=i*k+c by rw [Nat.add_mul]; omega]
   exact ih
theorem flat_len {k:Nat}:∀ {css:List (List Value)},(∀ cs∈css,cs.length=k)->css.flatten.length=css.length*k
 | [],_=>by simp
 | x::r,hk=>by
  rw [List.flatten_cons,List.length_append,flat_len fun cs hcs=>hk cs (List.mem_cons_of_mem _ hcs),hk x List.mem_cons_self,List.length_cons,Nat.add_mul]
  omega
theorem flat_set {k:Nat}:∀ {css:List (List Value)},(∀ cs∈css,cs.length=k)->∀ {i c:Nat} {cs:List Value} (u:Value),css[i]? = some cs->c<k->css.flatten.set (i*k+c) u=(css.set i (cs.set c u)).flatten
 | [],_,i,c,cs,u,h,_=>by simp at h
 | x::r,hk,i,c,cs,u,h,hc=>by
  have hx:=hk x List.mem_cons_self
  cases i with
  | zero =>
   simp at h
   subst h
   rw [List.flatten_cons,Nat.zero_mul,Nat.zero_add,List.set_append_left _ _ (by omega)]
   rfl
  | succ i =>
   have ih:=flat_set (css:=r) (fun cs hcs=>hk cs (List.mem_cons_of_mem _ hcs)) (i:=i) (c:=c) (cs:=cs) u (by simpa using h) hc
   rw [List.flatten_cons,List.set_append_right _ _ (by rw [hx,Nat.add_mul]; omega),hx]
   rw [show (i+1)*k+c-k=i*k+c by rw [Nat.add_mul]; omega,ih]
   rfl
def FO (e:TypeId) (k:Nat) (w:World) (base:Nat) (v:Value) (css:List (List Value)):Prop :=
 w.ownsRow base e k v css.length css.flatten/\∀ cs∈css,cs.length=k
section
variable {e:TypeId} {k base:Nat} {w w':World} {v:Value} {css:List (List Value)}
theorem FO.nil (e:TypeId) (k:Nat) (w:World) (base:Nat):FO e k w base (.slice none 0 0) []:=⟨World.ownsRow_nil _ _ _ _,fun cs h=>by cases h⟩
theorem FO.same (h:FO e k w base v css) (hb:∀ g,v.ownBlock=some g->w'.heap[g]? = w.heap[g]?):FO e k w' base v css:=by
 obtain ⟨⟨h1,h2⟩,hk⟩:=h
 refine ⟨⟨h1,?_⟩,hk⟩
 rcases h2 with h2 | ⟨g,cap,cur,rfl,hg,hh,r⟩
 ·exact .inl h2
 ·exact .inr ⟨g,cap,cur,rfl,hg,(hb g rfl).trans hh,r⟩
theorem FO.lt (h:FO e k w base v css) {g:Nat} (hg:v.ownBlock=some g):base<=g/\g<w.heap.size:=h.1.lt g hg
theorem FO.next (h:FO e k w base v css) (hb:Below w.heap.size w w'):FO e k w' base v css:=h.same fun g hg=>hb.block g (h.lt hg).2
theorem FO.mono {base':Nat} (h:FO e k w base v css) (hb:base'<=base):FO e k w base' v css:=by
 obtain ⟨⟨h1,h2⟩,hk⟩:=h
 refine ⟨⟨h1,?_⟩,hk⟩
 rcases h2 with h2 | ⟨g,cap,cur,rfl,hg,r⟩
 ·exact .inl h2
 ·exact .inr ⟨g,cap,cur,rfl,Nat.le_trans hb hg,r⟩
theorem FO.form (h:FO e k w base v css):∃ ao cap,v=.slice ao css.length cap:=by
 rcases h.1.2 with ⟨rfl,h0⟩ | ⟨g,cap,cur,rfl,_⟩
 ·exact ⟨none,0,by rw [h0]⟩
 ·exact ⟨_,cap,rfl⟩
theorem FO.fl (h:FO e k w base v css):∃ ao cap,v=.slice ao css.length cap/\Fl k w ao css.length cap css/\∀ b o,ao=some ⟨b,o,none⟩->o=0/\base<=b:=by
 have hcells:=h.1
 obtain ⟨⟨h1,h2⟩,hk⟩:=h
 rcases h2 with ⟨rfl,h0⟩ | ⟨g,cap,cur,rfl,hg,hh,hnc,hcm,hcs,htake⟩
 ·have:css=[]:=List.eq_nil_of_length_eq_zero h0
  subst this
  exact ⟨none,0,rfl,Fl.none_ k w,fun b o e=>by cases e⟩
 ·refine ⟨some ⟨g,0,none⟩,cap,rfl,⟨rfl,hnc,hcm,(fun e=>by cases e),fun i cs hi=>⟨g,0,rfl,fun c u hu=>?_⟩⟩,fun b o e=>?_⟩
  ·have:=hcells.cells (g:=g) rfl (i*k+c) u (flat_get hk hi hu)
   rw [Addr.add_lit] at this
   rw [Nat.add_assoc]
   exact this
  ·injection e with e
   injection e with e1 e2
   subst e1 e2
   exact ⟨rfl,hg⟩
theorem FO.put {g n cap:Nat} (h:FO e k w base (.slice (some ⟨g,0,none⟩) n cap) css) {i c:Nat} {cs:List Value} (hi:css[i]? = some cs) (hc:c<k) (u:Value) :
  FO e k (w.setCell ⟨g,i*k+c,none⟩ u) base (.slice (some ⟨g,0,none⟩) n cap) (css.set i (cs.set c u)):=by
 obtain ⟨h1,hk⟩:=h
 have hn:n=css.length:=by
  rcases h1.2 with ⟨hv,_⟩ | ⟨g',cap',cur,hv,_⟩
  ·cases hv
  ·injection hv
 subst hn
 have h2:=(h1.stored (i*k+c) u).1
 rw [flat_set hk u hi hc] at h2
 refine ⟨by rw [List.length_set]; exact h2,fun x hx=>?_⟩
 rcases List.mem_or_eq_of_mem_set hx with hx | rfl
 ·exact hk x hx
 ·rw [List.length_set]; exact hk cs (List.mem_of_getElem? hi)
end
theorem op_appF {P:Program} {w:World} {o:Oper} {a:Act} {K:Act->World->Prop} {Q:EP} (s x:Operand) (t:TypeId)
  (ho:o.op=.call { callee:=.builtin .append,args:=#[s,x],argTypes:=#[t,t] }) (e:TypeId) (z:Value) (k bytes:Nat) (ht:P.underlying t=some (.slice e))
  (hinfo:(P.info? e).map (fun i=>(i.zero,i.size,i.bytes))=some (some z,k,bytes)) (hzs:z.cells.size=k) (hk:0<k)
  (base:Nat) (v:Value) (css:List (List Value)) (hs:a.eval s=v) (hown:FO e k w base v css)
  (b off m c:Nat) (new:List (List Value)) (hx:a.eval x=.slice (some ⟨b,off,none⟩) m c) (hm:new.length=m) (hm0:0<m) (hnk:∀ cs∈new,cs.length=k) (hnews:Cs w b off new.flatten) (h1:∀ cs∈new,∀ u∈cs,u.oneCell'=true)
  (hroom:(css.length+m)*bytes<=140737488355328) (hml:css.length+m<=9223372036854775807) (hbase:base<=w.heap.size)
  (h:∀ v' w',FO e k w' base v' (css++new)->w.grownBy w' v.ownBlock->Below base w w'->(v'.ownBlock=v.ownBlock\/v'.ownBlock=some w.heap.size)->K (a.put o.dst v') w'):Oper.wp P o a w K Q:=by
 obtain ⟨i,hi,hz,hsz,hby⟩:=info_parts hinfo
 obtain ⟨hown1,hown2⟩:=hown
 have hownT:Own (fun _=>True) w base e k v css.length css.flatten:=⟨hown1,fun _ _ _ _ _ _ _ _=>trivial⟩
 have hfl:new.flatten.length=m*k:=by rw [flat_len hnk,hm]
 obtain ⟨v',w',hr,ho',hg,hor⟩:=hownT.append (P:=P) t o.type i z bytes ht hi hz hsz hby hzs hk (fun _ _=>trivial) ⟨b,off,none⟩ m c new.flatten hfl (fun j u hj=>by
  have:=hnews j u hj
  rw [Addr.add_lit]
  exact this) (fun u hu=>by
  obtain ⟨cs,hcs,hu⟩:=List.mem_flatten.1 hu
  exact h1 cs hcs u hu) (fun _ _=>trivial) hm0 (by unfold maxLen; omega) hroom hbase
 unfold Oper.wp execOp
 simp only [ho,resolve,invoke,builtin,Sem.run_bind,Sem.run_pure,Result.andThen_ok,List.map_toArray,List.map_cons,List.map_nil,hs,hx,hr]
 refine h v' w' ⟨?_,fun cs hcs=>?_⟩ hg ((Below.refl _ _).grown hg hbase (fun k hk=>(hown1.lt k hk).1)) hor
 ·rw [List.length_append,hm,List.flatten_append]
  exact ho'.1
 ·rcases List.mem_append.1 hcs with hcs | hcs
  ·exact hown2 cs hcs
  ·exact hnk cs hcs
end
section
open Go.RowKit
structure Fr (T:Nat->Prop) (w w':World):Prop where
 os:w'.os=w.os
 tape:w'.tape=w.tape
 output:w'.output=w.output
 size:w.heap.size<=w'.heap.size
 block:∀ k,k<w.heap.size->¬ T k->w'.heap[k]? = w.heap[k]?
section
variable {T T':Nat->Prop} {a b c:World}
theorem Fr.refl (T:Nat->Prop) (w:World):Fr T w w:=⟨rfl,rfl,rfl,Nat.le_refl _,fun _ _ _=>rfl⟩
theorem Fr.trans (h:Fr T a b) (k:Fr T b c):Fr T a c :=
 ⟨k.os.trans h.os,k.tape.trans h.tape,k.output.trans h.output,Nat.le_trans h.size k.size,fun i hi hT=>(k.block i (Nat.lt_of_lt_of_le hi h.size) hT).trans (h.block i hi hT)⟩
theorem Fr.mono (h:Fr T a b) (hT:∀ k,k<a.heap.size->T k->T' k):Fr T' a b:=⟨h.os,h.tape,h.output,h.size,fun i hi hn=>h.block i hi fun ht=>hn (hT i hi ht)⟩
theorem Fr.trans' (h:Fr T a b) (k:Fr T' b c) (hT:∀ j,j<a.heap.size->T' j->T j):Fr T a c :=
 ⟨k.os.trans h.os,k.tape.trans h.tape,k.output.trans h.output,Nat.le_trans h.size k.size,fun i hi hn=>(k.block i (Nat.lt_of_lt_of_le hi h.size) fun ht=>hn (hT i hi ht)).trans (h.block i hi hn)⟩
theorem below_fr (h:Below a.heap.size a b) (T:Nat->Prop):Fr T a b:=⟨h.os,h.tape,h.output,h.size,fun i hi _=>h.block i hi⟩
theorem grown_fr {row:Option Nat} (h:a.grownBy b row) (hT:∀ g,row=some g->T g):Fr T a b :=
 ⟨h.os,h.tape,h.output,h.size,fun i hi hn=>h.block i hi fun e=>hn (hT i e.symm)⟩
theorem Fr.below {B:Nat} (h:Fr T a b) (hT:∀ k,T k->B<=k) (hB:B<=a.heap.size):Below B a b :=
 ⟨h.os,h.tape,h.output,h.size,fun i hi=>h.block i (Nat.lt_of_lt_of_le hi hB) fun ht=>absurd (hT i ht) (Nat.not_le_of_lt hi)⟩
theorem Fr.set (w:World) {p:Addr} (hp:T p.block) (v:Value):Fr T w (w.setCell p v) :=
 ⟨rfl,rfl,rfl,by simp,fun i hi hn=>Below.heap_setCell w p v i (fun e=>hn (e▸hp))⟩
theorem Fr.cell (h:Fr T a b) {g o:Nat} {v:Value} (hc:a.cell? ⟨g,o,none⟩=some v) (hg:¬ T g):b.cell? ⟨g,o,none⟩=some v :=
 (World.cell?_of_block (a:=⟨g,o,none⟩) (h.block g (World.block_lt_of_cell? _ _ hc) hg)).trans hc
end
theorem Own.fr {K:Value->Prop} {w w':World} {base:Nat} {e:TypeId} {size:Nat} {v:Value} {n:Nat} {xs:List Value} {T:Nat->Prop} (h:Own K w base e size v n xs) (hf:Fr T w w') (hv:∀ g,v.ownBlock=some g->¬ T g):Own K w' base e size v n xs :=
 h.same fun g hg=>hf.block g (h.lt hg).2 (hv g hg)
end
section
open Go.RowKit
theorem below_chain {a b c:World} (h:Below a.heap.size a b) (k:Below b.heap.size b c):Below a.heap.size a c:=h.trans (k.mono h.size)
theorem tmodD (k n:Int) (h1:1<=n):(-n<Int.tmod k n/\Int.tmod k n<n)/\(k%n=if Int.tmod k n<0 then Int.tmod k n+n else Int.tmod k n):=by
 have a:=Int.emod_nonneg k (show n≠0 by omega)
 have b:=Int.emod_lt_of_pos k (show 0<n by omega)
 have c:=Int.tmod_eq_emod (a:=k) (b:=n)
 have hn:(n.natAbs:Int)=n:=by omega
 by_cases h:0<=k\/n∣k
 ·rw [if_pos h] at c
  refine ⟨by omega,?_⟩
  rw [if_neg (by omega)]; omega
 ·rw [if_neg h,hn] at c
  have:k%n≠0:=fun e=>h (.inr (Int.dvd_of_emod_eq_zero e))
  refine ⟨by omega,?_⟩
  rw [if_pos (by omega)]; omega
theorem within_any (v m:Int) (h1:1<=m) (h2:m<=1000000) (w:World) :
  Calls Tryz.prog 19 #[.int .i64 v,.int .i64 m] w fun e w'=>e=.returned (.int .i64 (v%m))/\w=w':=by
 obtain ⟨⟨b1,b2⟩,hk⟩:=tmodD v m h1
 obtain ⟨r,hr⟩:∃ r,Int.tmod v m=r:=⟨_,rfl⟩
 rw [hr] at b1 b2 hk
 have hwr:IntKind.i64.wrap (Int.tmod v m)=r:=by rw [hr,IntKind.wrap_i64]; omega
 have c0:¬ m<1:=by omega
 rw [hk]
 clear hk
 go_enter Tryz.func19,Tryz.ntmps19
 by_cases hneg:r<0
 ·rw [if_pos hneg]
  go_wp2_with fail
  go_ret
  exact ⟨rfl,rfl⟩
 ·rw [if_neg hneg]
  go_wp2_with fail
  go_ret
  exact ⟨rfl,rfl⟩
def Tp (T:Nat) (lo:OA) (n cap a:Nat) (w:World):Prop:=w.heap[T]? = some (.cells #[.slice lo n cap,.int .i64 (a:Int)] 57 (0,0))
theorem Tp.c0 {T:Nat} {lo:OA} {n cap a:Nat} {w:World} (h:Tp T lo n cap a w):w.cell? ⟨T,0,none⟩=some (.slice lo n cap):=by unfold Tp at h; simp [World.cell?,h]
theorem Tp.c1 {T:Nat} {lo:OA} {n cap a:Nat} {w:World} (h:Tp T lo n cap a w):w.cell? ⟨T,1,none⟩=some (.int .i64 (a:Int)):=by unfold Tp at h; simp [World.cell?,h]
theorem Tp.f1 {T:Nat} {lo:OA} {n cap a:Nat} {w:World} (h:Tp T lo n cap a w):w.frozen? ⟨T,1,none⟩=false:=by unfold Tp at h; simp [World.frozen?,h]
theorem Tp.lt {T:Nat} {lo:OA} {n cap a:Nat} {w:World} (h:Tp T lo n cap a w):T<w.heap.size:=by unfold Tp at h; exact (Array.getElem?_eq_some_iff.1 h).1
theorem Tp.put {T:Nat} {lo:OA} {n cap a:Nat} {w:World} (h:Tp T lo n cap a w) (b:Nat):Tp T lo n cap b (w.setCell ⟨T,1,none⟩ (.int .i64 (b:Int))):=by
 unfold Tp at *
 rw [heap_setCell_same _ T 1 _ _ _ h]
 rfl
theorem Tp.fr {T:Nat} {lo:OA} {n cap a:Nat} {w w':World} {S:Nat->Prop} (h:Tp T lo n cap a w) (hf:Fr S w w') (hT:¬ S T):Tp T lo n cap a w':=by
 unfold Tp at *; rw [hf.block T (Tp.lt h) hT]; exact h
theorem Tp.next {T:Nat} {lo:OA} {n cap a:Nat} {w w':World} (h:Tp T lo n cap a w) (hb:Below w.heap.size w w'):Tp T lo n cap a w':=by
 unfold Tp at *; rw [hb.block T (Tp.lt h)]; exact h
def TpL (T:Nat) (lo:OA) (n cap:Nat) (w:World):Prop:=∃ zs:List Int,Sl w lo n cap (zs.map (.int .i64))/\(∀ b o,lo=some ⟨b,o,none⟩->b<T)
theorem TpL.fr {T B:Nat} {lo:OA} {n cap:Nat} {w w':World} (h:TpL T lo n cap w) (hb:Below B w w') (hB:T<=B):TpL T lo n cap w':=by
 obtain ⟨zs,h1,h2⟩:=h
 refine ⟨zs,⟨h1.len,h1.le,h1.most,fun i x hx=>?_⟩,h2⟩
 obtain ⟨b,off,e,hc⟩:=h1.at_ i x hx
 exact ⟨b,off,e,by rw [hb.cell (p:=⟨b,off+i,none⟩) (Nat.lt_of_lt_of_le (h2 b off e) hB)]; exact hc⟩
theorem next_any (T:Nat) (lo:OA) (n cap a:Nat) (m:Int) (h1:1<=m) (h2:m<=1000000) (w:World) (hT:Tp T lo n cap a w) (hL:TpL T lo n cap w) (ha:a<=n) (hn:n<=9223372036854775807) :
  Calls Tryz.prog 21 #[.pointer (some ⟨T,0,none⟩),.int .i64 m] w fun e w'=>∃ (r b:Nat),e=.returned (.int .i64 r)/\(r:Int)<m/\Tp T lo n cap b w'/\b<=n/\Below T w w'/\Fr (fun k=>k=T) w w':=by
 have x0:=hT.c0
 have x1:=hT.c1
 have f1:=hT.f1
 obtain ⟨zs,hsl,hlo⟩:=hL
 have hzl:=hsl.lenMap
 have hTs:T<w.heap.size:=hT.lt
 by_cases hlt:a<n
 ·obtain ⟨z,hz,b,off,hadd,hcell⟩:=hsl.get hlt
  subst hadd
  have hb':=hlo b off rfl
  have hbT:b≠T:=by omega
  have hput:=hT.put (a+1)
  have hcell':(w.setCell ⟨T,1,none⟩ (.int .i64 ((a+1:Nat):Int))).cell? ⟨b,off+a,none⟩=some (.int .i64 z):=by
   rw [World.cell?_of_block (w:=w) (Below.heap_setCell _ _ _ _ hbT)]; exact hcell
  have y0:=hput.c0
  have y1:=hput.c1
  have hcast:((a+1:Nat):Int)=(a:Int)+1:=by omega
  have hfr:Fr (fun k=>k=T) w (w.setCell ⟨T,1,none⟩ (.int .i64 ((a+1:Nat):Int))):=Fr.set (T:=fun k=>k=T) w (p:=⟨T,1,none⟩) rfl _
  rw [hcast] at hput hcell' y0 y1 hfr
  have Hput:=hid hput
  have Hfr:=hid hfr
  obtain ⟨r,hr⟩:∃ r:Nat,z%m=r:=⟨(z%m).toNat,by have:=Int.emod_nonneg z (show m≠0 by omega); omega⟩
  have hrm:(r:Int)<m:=by rw [<-hr]; exact Int.emod_lt_of_pos z (by omega)
  have hwi:=hid (fun W=>within_any z m h1 h2 W)
  rw [hr] at hwi
  have hwa:IntKind.i64.wrap (a:Int)=(a:Int):=by rw [IntKind.wrap_i64]; omega
  clear hr
  clear hsl hz hzl hput hfr hlo
  go_enter Tryz.func21,Tryz.ntmps21
  go_wp2_with fail
  go_quiet (fail)
  go_wp2_with fail
  go_quiet ((go_at_call 19; exact quiet_eq (hwi.out _)))
  go_wp2_with fail
  go_ret
  have hfr2:∀ i j,Fr (fun k=>k=T) w (((w.drewN i).setCell ⟨T,1,none⟩ (.int .i64 ((a:Int)+1))).drewN j):=fun i j=>⟨rfl,rfl,rfl,Hfr.out.size,fun k hk hne=>Hfr.out.block k hk hne⟩
  exact ⟨r,a+1,rfl,hrm,Hput.out,hlt,(hfr2 _ _).below (fun k hk=>by rw [hk]; exact Nat.le_refl _) (Nat.le_of_lt hTs),hfr2 _ _⟩
 ·have han:a=n:=by omega
  subst han
  have hfr2:∀ i,Fr (fun k=>k=T) w (w.drewN i):=fun i=>⟨rfl,rfl,rfl,Nat.le_refl _,fun k hk hne=>rfl⟩
  go_enter Tryz.func21,Tryz.ntmps21
  go_wp2_with fail
  go_quiet (fail)
  go_wp2_with fail
  go_ret
  exact ⟨0,a,rfl,by omega,hT,Nat.le_refl _,(hfr2 _).below (fun k hk=>by rw [hk]; exact Nat.le_refl _) (Nat.le_of_lt hTs),hfr2 _⟩
end
end Go.Proofs.YtnapapijhhldpaaGreatDoor

/-
  Texts joined by program: Trw, Txc, Try, Tsa, Tse, Txd. No condition of its own.
-/
import Derived.Test.YtnapapijhhldpaaGreatDoorJtAT
namespace Go.Proofs.YtnapapijhhldpaaGreatDoor
set_option linter.unusedSimpArgs false
set_option linter.unusedVariables false
set_option maxRecDepth 100000
set_option maxHeartbeats 4000000
section
open Go.RowKit
def supTo (S:Vx) (k:Nat):List (Nat×Nat):=(List.range k).filterMap fun q=>(S.getD q none).map fun r=>(q,r)
def sup (S:Vx):List (Nat×Nat):=supTo S S.length
def i1C (x:Nat):List Value:=[.int .i64 (x:Int)]
structure Sq (w:World) (O:Nat) (sv rv:Value) (P:List (Nat×Nat)):Prop where
 sts:FO 3 1 w O sv ((P.map Prod.fst).map i1C)
 rst:FO 3 1 w O rv ((P.map Prod.snd).map i1C)
 ne:∀ g,sv.ownBlock=some g->rv.ownBlock≠some g
theorem Sq.next {w w':World} {O:Nat} {sv rv:Value} {P:List (Nat×Nat)} (h:Sq w O sv rv P) (hb:Below w.heap.size w w'):Sq w' O sv rv P:=⟨h.sts.next hb,h.rst.next hb,h.ne⟩
theorem Sq.fr {K:Nat->Prop} {w w':World} {O:Nat} {sv rv:Value} {P:List (Nat×Nat)} (h:Sq w O sv rv P) (hf:Fr K w w') (h1:∀ g,sv.ownBlock=some g->¬ K g) (h2:∀ g,rv.ownBlock=some g->¬ K g):Sq w' O sv rv P:=⟨h.sts.fr hf h1,h.rst.fr hf h2,h.ne⟩
theorem exec_loadI {dst:Option Tmp} {ty':TypeId} {pos:String} {after:Array Edge} {guard:Option (Nat×Bool)} {x:Operand} {a:Act} {w:World} (b off:Nat) (hx:a.eval x=.pointer (some ⟨b,off,none⟩)) (v:Value) (hc:w.cell? ⟨b,off,none⟩=some v) :
  (execOp a.eval ⟨dst,.load 3 x,ty',pos,after,guard⟩).run Tryz.prog w=.ok (.value v) w:=exec_load1 b off hx v hc _ Tryz.underlying3 rfl
end
section
open Go.RowKit
structure SqK (W0:World) (syms nn:Nat) (N:Au) (io:OA) (ci:Nat) (fo:OA) (cf:Nat) (ro:OA) (nr cr:Nat) (vo:OA) (cv eb:Nat) (E:Nat->Bool):Prop where
 vm:Vm W0 syms N io ci fo cf ro nr cr vo cv
 ss:Ss N.arcs
 row:ro=none\/∃ b,ro=some ⟨b,0,none⟩
 lie:∀ b o,ro=some ⟨b,o,none⟩->b<W0.heap.size
 st:N.st<=64
 num:nr<=4096
 ok:∀ x∈N.arcs,x.1<N.st/\x.2.2.1<N.st
 cost:∀ x∈N.arcs,tc (wt x)<=1048576
 snd:∀ q,q<N.st->(E q=true↔ToEnd N.arcs N.fin q)
 sq:nn=N.st*N.st
abbrev eL (nr:Nat):Nat:=nr*nr+1
def ExO (W0:World) (G nn syms fb tb sb nr:Nat) (iv fv rv vv ev:Value) (N:Au) (S:Sqr) (ov:Value) (F T:Nat->Value) (gray:List Nat) (i:Nat) (w:World) (e:Ending) (w':World):Prop :=
 ∃ (S':Sqr) (ov':Value) (F' T':Nat->Value),e=.returned (.tuple #[])/\SqM w' W0.heap.size G nn syms N.st iv fv rv vv ev S' fb tb sb ov' F' T'/\SqI N N.st gray S'/\SqLe S S'/\Grew (eL nr) N.st S S'/\S'.seen i=true/\Chg w w' (SqB G nn fb tb sb ov F T) (SqB G nn fb tb sb ov' F' T')
def Made (N:Au) (E:Nat->Bool) (i:Nat) (S:Sqr) (x:Ac) (ys:List Ac):Prop:=∀ y∈ys,E x.2.2.1=true->E y.2.2.1=true->(x.2.2.1*N.st+y.2.2.1,(tc (wt x):Int)-(tc (wt y):Int))∈S.fr i/\S.seen (x.2.2.1*N.st+y.2.2.1)=true
theorem Made.le {N:Au} {E:Nat->Bool} {i:Nat} {S S':Sqr} {x:Ac} {ys:List Ac} (h:Made N E i S x ys) (k:SqLe S S'):Made N E i S' x ys:=fun y hy h1 h2=>⟨k.fr _ _ (h y hy h1 h2).1,k.seen _ (h y hy h1 h2).2⟩
structure ExI (W0:World) (G nn syms fb tb sb nr:Nat) (iv fv rv vv ev:Value) (N:Au) (E:Nat->Bool) (gray:List Nat) (i q:Nat) (L:List Ac) (w1:World) (B1:Nat->Prop) (S1:Sqr) (k b:Nat) (wr:World) (S':Sqr) (ov':Value) (F' T':Nat->Value):Prop where
 sq:SqM wr W0.heap.size G nn syms N.st iv fv rv vv ev S' fb tb sb ov' F' T'
 inv:SqI N N.st (i::gray) S'
 le:SqLe S1 S'
 grow:∀ m,Len S1 m->∃ m',Len S' m'/\m'+eL nr*cU S' N.st<=m+eL nr*cU S1 N.st+(nr*k+b)
 made:∀ x∈L.take k,Made N E i S' x (stp N.arcs q x.2.1)
 chg:Chg w1 wr B1 (SqB G nn fb tb sb ov' F' T')
 below:Below W0.heap.size W0 wr
section
variable {W0:World} {G nn syms fb tb sb nr:Nat} {iv fv rv vv ev:Value} {N:Au} {E:Nat->Bool} {gray:List Nat} {i q:Nat} {L:List Ac} {w1:World} {B1:Nat->Prop} {S1:Sqr} {k b:Nat} {wr w':World} {S' S3:Sqr} {ov' ov3:Value} {F' T' F3 T3:Nat->Value}
theorem Chg.back {B B':Nat->Prop} {w w2 W:World} (h:Chg w w2 B B') (hb:Below W.heap.size W w) (hB:∀ g,B g->W.heap.size<=g):Below W.heap.size W w2:=hb.trans (h.fr.below hB hb.size)
theorem ExI.next (h:ExI W0 G nn syms fb tb sb nr iv fv rv vv ev N E gray i q L w1 B1 S1 k b wr S' ov' F' T') (hb:Below wr.heap.size wr w'):ExI W0 G nn syms fb tb sb nr iv fv rv vv ev N E gray i q L w1 B1 S1 k b w' S' ov' F' T' :=
 ⟨h.sq.next hb,h.inv,h.le,h.grow,h.made,h.chg.trans (Chg.below _ hb),below_chain h.below hb⟩
theorem ExI.skip (h:ExI W0 G nn syms fb tb sb nr iv fv rv vv ev N E gray i q L w1 B1 S1 k b wr S' ov' F' T'):ExI W0 G nn syms fb tb sb nr iv fv rv vv ev N E gray i q L w1 B1 S1 k (b+1) wr S' ov' F' T' :=
 ⟨h.sq,h.inv,h.le,fun m hm=>by obtain ⟨m',h1,h2⟩:=h.grow m hm; exact ⟨m',h1,by omega⟩,h.made,h.chg,h.below⟩
theorem Made.skip {x y:Ac} {ys:List Ac} (h:Made N E i S' x (ys.take b)) (hy:ys[b]? = some y) (hn:¬ (E x.2.2.1=true/\E y.2.2.1=true)):Made N E i S' x (ys.take (b+1)):=fun z hz h1 h2=>by
 rw [List.take_add_one,hy] at hz
 rcases List.mem_append.1 hz with hz | hz
 ·exact h z hz h1 h2
 ·obtain rfl:z=y:=by simpa using hz
  exact absurd ⟨h1,h2⟩ hn
theorem ExI.move (h:ExI W0 G nn syms fb tb sb nr iv fv rv vv ev N E gray i q L w1 B1 S1 k b wr S' ov' F' T') {j:Nat} {g:Int} (hs:SqM w' W0.heap.size G nn syms N.st iv fv rv vv ev S3 fb tb sb ov3 F3 T3) (hI:SqI N N.st (i::gray) S3) (hl:SqLe (S'.add i j g) S3) (hg:Grew (eL nr) N.st (S'.add i j g) S3) (hc:Chg wr w' (SqB G nn fb tb sb ov' F' T') (SqB G nn fb tb sb ov3 F3 T3)) :
  ExI W0 G nn syms fb tb sb nr iv fv rv vv ev N E gray i q L w1 B1 S1 k (b+1) w' S3 ov3 F3 T3:=by
 have hl2:=(add_le S' i j g).trans hl
 refine ⟨hs,hI,h.le.trans hl2,fun m hm=>?_,fun x hx=>(h.made x hx).le hl2,h.chg.trans hc,hc.back h.below fun g hg=>(h.sq.ge g hg).1⟩
 obtain ⟨m',h1,h2⟩:=h.grow m hm
 obtain ⟨m3,h3,h4⟩:=hg (m'+1) (h1.add i j g)
 have e:cU (S'.add i j g) N.st=cU S' N.st:=rfl
 rw [e] at h4
 exact ⟨m3,h3,by omega⟩
theorem Made.move {x y:Ac} {ys:List Ac} {j:Nat} {g:Int} (h:Made N E i S' x (ys.take b)) (hy:ys[b]? = some y) (hl:SqLe (S'.add i j g) S3) (hj:j=x.2.2.1*N.st+y.2.2.1) (hg:g=(tc (wt x):Int)-(tc (wt y):Int)) (hs:S3.seen j=true):Made N E i S3 x (ys.take (b+1)):=fun z hz h1 h2=>by
 rw [List.take_add_one,hy] at hz
 rcases List.mem_append.1 hz with hz | hz
 ·exact h.le ((add_le S' i j g).trans hl) z hz h1 h2
 ·obtain rfl:z=y:=by simpa using hz
  subst hj hg
  exact ⟨hl.fr _ _ ((add_fr S' i _ _ i _).2 (.inr ⟨rfl,rfl⟩)),hs⟩
theorem ExI.arc (h:ExI W0 G nn syms fb tb sb nr iv fv rv vv ev N E gray i q L w1 B1 S1 k b wr S' ov' F' T') {x:Ac} (hx:L[k]? = some x) (hm:Made N E i S' x (stp N.arcs q x.2.1)) (hb:b<=nr):ExI W0 G nn syms fb tb sb nr iv fv rv vv ev N E gray i q L w1 B1 S1 (k+1) 0 wr S' ov' F' T':=by
 refine ⟨h.sq,h.inv,h.le,fun m hm=>?_,fun z hz=>?_,h.chg,h.below⟩
 ·obtain ⟨m',h1,h2⟩:=h.grow m hm
  refine ⟨m',h1,?_⟩
  rw [Nat.mul_add]
  omega
 ·rw [List.take_add_one,hx] at hz
  rcases List.mem_append.1 hz with hz | hz
  ·exact h.made z hz
  ·obtain rfl:z=x:=by simpa using hz
   exact hm
theorem made_all {p:Nat} (hsnd:∀ q,q<N.st->(E q=true↔ToEnd N.arcs N.fin q)) (hok:∀ x∈N.arcs,x.1<N.st/\x.2.2.1<N.st) (hp:prI N.st i=(p,q)) (hm:∀ x∈N.arcs.filter (fun x=>decide (x.1=p)),Made N E i S' x (stp N.arcs q x.2.1)) (Q:Pr) (g:Int) (h:Mv N (prI N.st i) Q g):(nuI N.st Q,g)∈S'.fr i/\S'.seen (nuI N.st Q)=true:=by
 obtain ⟨x,hx,y,hy,a1,a2,a3,a4,a5,a6,a7,a8⟩:=h
 rw [hp] at a1 a2
 have hy2:y∈stp N.arcs q x.2.1:=by
  rw [<-stp_eq]
  exact List.mem_filter.2 ⟨List.mem_filter.2 ⟨hy,decide_eq_true a2⟩,decide_eq_true a5.symm⟩
 have hE1:=(hsnd _ (hok x hx).2).2 (by rw [a3]; exact a6)
 have hE2:=(hsnd _ (hok y hy).2).2 (by rw [a4]; exact a7)
 have:=hm x (List.mem_filter.2 ⟨hx,decide_eq_true a1⟩) y hy2 hE1 hE2
 unfold nuI
 rw [<-a3,<-a4,a8]
 exact this
end
theorem mv_of {N:Au} {E:Nat->Bool} {i p q:Nat} {x y:Ac} (hsnd:∀ q,q<N.st->(E q=true↔ToEnd N.arcs N.fin q)) (hok:∀ x∈N.arcs,x.1<N.st/\x.2.2.1<N.st) (hp:prI N.st i=(p,q)) (hx:x∈N.arcs.filter fun x=>decide (x.1=p)) (hy:y∈stp N.arcs q x.2.1) (h1:E x.2.2.1=true) (h2:E y.2.2.1=true) :
  Mv N (prI N.st i) (prI N.st (x.2.2.1*N.st+y.2.2.1)) ((tc (wt x):Int)-(tc (wt y):Int))/\x.2.2.1*N.st+y.2.2.1<N.st*N.st:=by
 obtain ⟨hx1,hx2⟩:=List.mem_filter.1 hx
 rw [<-stp_eq] at hy
 obtain ⟨hy1,hy2⟩:=List.mem_filter.1 hy
 obtain ⟨hy3,hy4⟩:=List.mem_filter.1 hy1
 have e:prI N.st (x.2.2.1*N.st+y.2.2.1)=(x.2.2.1,y.2.2.1):=prI_nuI (P:=(x.2.2.1,y.2.2.1)) (hok y hy3).2
 rw [e,hp]
 exact ⟨⟨x,hx1,y,hy3,of_decide_eq_true hx2,of_decide_eq_true hy4,rfl,rfl,(of_decide_eq_true hy2).symm,(hsnd _ (hok x hx1).2).1 h1,(hsnd _ (hok y hy3).2).1 h2,rfl⟩,nuI_lt (P:=(x.2.2.1,y.2.2.1)) (hok x hx1).2 (hok y hy3).2⟩
end
section
open Go.RowKit
structure Rs (w:World) (so:OA) (sc:Nat) (ro:OA) (rc n:Nat) (P:List (Nat×Nat)):Prop where
 sts:Fl 1 w so n sc ((P.map Prod.fst).map i1C)
 rst:Fl 1 w ro n rc ((P.map Prod.snd).map i1C)
theorem Rs.next {w w':World} {so ro:OA} {sc rc n:Nat} {P:List (Nat×Nat)} (h:Rs w so sc ro rc n P) (hb:Below w.heap.size w w'):Rs w' so sc ro rc n P:=⟨h.sts.next hb,h.rst.next hb⟩
theorem Rs.len {w:World} {so ro:OA} {sc rc n:Nat} {P:List (Nat×Nat)} (h:Rs w so sc ro rc n P):P.length=n:=by have:=h.sts.lenMap; rwa [List.length_map] at this
theorem Rs.get {w:World} {so ro:OA} {sc rc n:Nat} {P:List (Nat×Nat)} (h:Rs w so sc ro rc n P) {i:Nat} (hi:i<n):∃ (q r b1 o1 b2 o2:Nat),P[i]? = some (q,r)/\so=some ⟨b1,o1,none⟩/\ro=some ⟨b2,o2,none⟩/\w.cell? ⟨b1,o1+i,none⟩=some (.int .i64 (q:Int))/\w.cell? ⟨b2,o2+i,none⟩=some (.int .i64 (r:Int)):=by
 obtain ⟨x,hx,b1,o1,e1,c1⟩:=h.sts.get hi
 obtain ⟨y,hy,b2,o2,e2,c2⟩:=h.rst.get hi
 rw [List.getElem?_map] at hx hy
 obtain ⟨p,hp⟩:∃ p,P[i]? = some p:=⟨_,List.getElem?_eq_getElem (by rw [h.len]; exact hi)⟩
 rw [hp] at hx hy
 cases hx; cases hy
 have d1:=c1 0 _ rfl
 have d2:=c2 0 _ rfl
 simp only [Nat.mul_one,Nat.add_zero] at d1 d2
 exact ⟨p.1,p.2,b1,o1,b2,o2,hp,e1,e2,d1,d2⟩
theorem Sq.rs {w:World} {O:Nat} {sv rv:Value} {P:List (Nat×Nat)} (h:Sq w O sv rv P):∃ so sc ro rc,sv=.slice so P.length sc/\rv=.slice ro P.length rc/\Rs w so sc ro rc P.length P:=by
 obtain ⟨so,sc,rfl⟩:=h.sts.form
 obtain ⟨ro,rc,rfl⟩:=h.rst.form
 simp only [List.length_map]
 have h1:=h.sts; have h2:=h.rst
 simp only [List.length_map] at h1 h2
 exact ⟨so,sc,ro,rc,rfl,rfl,fl_of h1 (by simp),fl_of h2 (by simp)⟩
end
section
open Go.RowKit
structure Rta (W:World) (V syms C:Nat) (A:Au) (io:OA) (ci:Nat) (fo:OA) (cf:Nat) (ro:OA) (nr cr:Nat):Prop where
 mo:Mo W syms A io ci fo cf ro nr cr
 vw:Bl V (auC syms A.st (.slice io A.st ci) (.slice fo A.st cf) (.slice ro nr cr)) 30 W
 st:A.st<=64
 num:nr<=4096
 arc:∀ x∈A.arcs,x.1<A.st/\x.2.2.1<A.st
 cst:(∀ x∈A.arcs,cst x<=C)/\(∀ v∈A.ini,tc v<=C)/\∀ v∈A.fin,tc v<=C
 cC:C<=1048576
 sym:syms<=32
theorem Rta.next {W W':World} {V syms C:Nat} {A:Au} {io fo ro:OA} {ci cf nr cr:Nat} (h:Rta W V syms C A io ci fo cf ro nr cr) (hb:Below W.heap.size W W'):Rta W' V syms C A io ci fo cf ro nr cr:=⟨h.mo.next hb,h.vw.next hb,h.st,h.num,h.arc,h.cst,h.cC,h.sym⟩
theorem Fr.drewN {K:Nat->Prop} {a b:World} (h:Fr K a b) (n:Nat):Fr K a (b.drewN n):=⟨h.os,h.tape,h.output,h.size,h.block⟩
end
section
open Go.RowKit
theorem wp_appF {P:Program} {w:World} {ops:Array Oper} {rest:List Oper} {o:Oper} {a:Act} {Q:EP} (hgd:o.guard=none) (s x:Operand) (t:TypeId)
  (ho:o.op=.call { callee:=.builtin .append,args:=#[s,x],argTypes:=#[t,t] }) (e:TypeId) (z:Value) (k bytes:Nat) (ht:P.underlying t=some (.slice e))
  (hinfo:(P.info? e).map (fun i=>(i.zero,i.size,i.bytes))=some (some z,k,bytes)) (hzs:z.cells.size=k) (hk:0<k)
  (base:Nat) (v:Value) (css:List (List Value)) (hs:a.eval s=v) (hown:FO e k w base v css)
  (b off m c:Nat) (new:List (List Value)) (hx:a.eval x=.slice (some ⟨b,off,none⟩) m c) (hm:new.length=m) (hm0:0<m) (hnk:∀ cs∈new,cs.length=k) (hnews:Cs w b off new.flatten) (h1:∀ cs∈new,∀ u∈cs,u.oneCell'=true)
  (hroom:(css.length+m)*bytes<=140737488355328) (hml:css.length+m<=9223372036854775807) (hbase:base<=w.heap.size)
  (h:∀ v' w',FO e k w' base v' (css++new)->w.grownBy w' v.ownBlock->Below base w w'->(v'.ownBlock=v.ownBlock\/v'.ownBlock=some w.heap.size)->wpList P ops Q rest (a.put o.dst v') w'):wpList P ops Q (o::rest) a w :=
 wpList_plain hgd fun _ hK=>op_appF s x t ho e z k bytes ht hinfo hzs hk base v css hs hown b off m c new hx hm hm0 hnk hnews h1 hroom hml hbase fun v' w' a b c d=>hK _ _ (h v' w' a b c d)
end
section
open Go.RowKit
theorem below_drewNs {B:Nat} {w:World} (n:Nat):Below B w (w.drewN n):=⟨rfl,rfl,rfl,Nat.le_refl _,fun _ _=>rfl⟩
theorem below_dd {B:Nat} {w:World} (n m:Nat):Below B w ((w.drewN n).drewN m):=⟨rfl,rfl,rfl,Nat.le_refl _,fun _ _=>rfl⟩
theorem SqM.vw {w:World} {base G nn syms st:Nat} {iv fv rv vv ev:Value} {S:Sqr} {fb tb sb:Nat} {ov:Value} {F T:Nat->Value} (h:SqM w base G nn syms st iv fv rv vv ev S fb tb sb ov F T):Cs w G 0 (viC syms st iv fv rv vv):=fun c v hv=>by
 rw [Nat.zero_add]
 match c,hv with
 | 0,hv=>exact h.blk.cell hv
 | 1,hv=>exact h.blk.cell hv
 | 2,hv=>exact h.blk.cell hv
 | 3,hv=>exact h.blk.cell hv
 | 4,hv=>exact h.blk.cell hv
 | 5,hv=>exact h.blk.cell hv
 | 6,hv=>exact h.blk.cell hv
 | 7,hv=>exact h.blk.cell hv
theorem en_cell {w0 w:World} {B B':Nat->Prop} {eb n base:Nat} {E:Nat->Bool} (hE:Rw 4 w0 base (rwV eb n) n (fBo E)) (hB:¬ B eb) (hc:Chg w0 w B B') {q:Nat} (hq:q<n):w.cell? ⟨eb,q,none⟩=some (.bool (E q)) :=
 (hE.fr hc.fr fun g hg=>by cases hg; exact hB).cell hq
theorem en_next {w0 w:World} {B B':Nat->Prop} {eb n base:Nat} {E:Nat->Bool} (hE:Rw 4 w0 base (rwV eb n) n (fBo E)) (hB:¬ B eb) (hc:Chg w0 w B B'):Rw 4 w base (rwV eb n) n (fBo E)/\¬ B' eb :=
 ⟨hE.fr hc.fr fun g hg=>by cases hg; exact hB,fun e=>(hc.blk eb e).elim hB fun e=>by have:=(hE.lt (g:=eb) rfl).2; omega⟩
theorem or_len (i:Nat):∀ cs∈[orC i],cs.length=1:=fun cs h=>by rw [List.mem_singleton.1 h]; rfl
theorem or_one (i:Nat):∀ cs∈[orC i],∀ u∈cs,u.oneCell'=true:=fun cs h u hu=>by
 rw [List.mem_singleton.1 h] at hu
 unfold orC at hu
 rw [List.mem_singleton.1 hu]; rfl
theorem explore_any {W0:World} {syms nn:Nat} {N:Au} {io:OA} {ci:Nat} {fo:OA} {cf:Nat} {ro:OA} {nr cr:Nat} {vo:OA} {cv eb:Nat} {E:Nat->Bool} (hK:SqK W0 syms nn N io ci fo cf ro nr cr vo cv eb E) (G fb tb sb:Nat) :
  ∀ (u:Nat) (S:Sqr) (ov:Value) (F T:Nat->Value) (gray:List Nat) (i m:Nat) (w:World),cU S N.st<=u->SqM w W0.heap.size G nn syms N.st (.slice io N.st ci) (.slice fo N.st cf) (.slice ro nr cr) (.slice vo (N.st+1) cv) (rwV eb N.st) S fb tb sb ov F T->SqI N N.st gray S->Below W0.heap.size W0 w->Rw 4 w W0.heap.size (rwV eb N.st) N.st (fBo E)->¬ (SqB G nn fb tb sb ov F T) eb->Len S m->m+eL nr*cU S N.st<=900000000000->i<nn->Seen N (prI N.st i) ->
  Calls Tryz.prog 55 #[.pointer (some ⟨G,0,none⟩),.int .i64 (i:Int)] w (ExO W0 G nn syms fb tb sb nr (.slice io N.st ci) (.slice fo N.st cf) (.slice ro nr cr) (.slice vo (N.st+1) cv) (rwV eb N.st) N S ov F T gray i w):=by
 intro u
 induction u using Nat.strongRecOn with
 | _ u ih =>
 intro S ov F T gray i m w hu h hI hb hE hEn hL hm hi hsn
 replace hE:=hid hE
 replace hEn:=hid hEn
 have z0:=h.blk.cell (i:=11) rfl
 have z1:=h.seen.cell hi
 have i1:(i:Int)<(nn:Int):=by omega
 have i0:(0:Int)<=(i:Int):=by omega
 cases hs:S.seen i with
 | true =>
  rw [show fBo S.seen i=.bool true by unfold fBo; rw [hs]] at z1
  have hout:ExO W0 G nn syms fb tb sb nr (.slice io N.st ci) (.slice fo N.st cf) (.slice ro nr cr) (.slice vo (N.st+1) cv) (rwV eb N.st) N S ov F T gray i w (.returned (.tuple #[])) w:=⟨S,ov,F,T,rfl,h,hI,SqLe.refl _,Grew.refl _ _ _,hs,Chg.refl _ _⟩
  clear hs hu h hI hb hL hm hi hsn ih
  go_enter Tryz.func55,Tryz.ntmps55
  go_wp2_with fail
  go_end0
  exact hout
 | false =>
  rw [show fBo S.seen i=.bool false by unfold fBo; rw [hs]] at z1
  have z2:=h.seen.free i
  obtain ⟨h1,c1⟩:=h.mark i
  have hI1:=hid (hI.mark (by rw [<-hK.sq]; exact hi) hsn)
  have hcu:=hid (cU_mark (S:=S) (by rw [<-hK.sq]; exact hi) hs)
  have hb1:=hid (c1.back hb fun g hg=>(h.ge g hg).1)
  have n0:¬ N.st=0:=fun e=>by rw [hK.sq,e] at hi; omega
  have n1:¬ (N.st:Int)=0:=by omega
  obtain ⟨p,hp⟩:∃ p,i/N.st=p:=⟨_,rfl⟩
  obtain ⟨q,hq⟩:∃ q,i%N.st=q:=⟨_,rfl⟩
  have hpq:=hid (show prI N.st i=(p,q) by unfold prI; rw [hp,hq])
  have hpl:p<N.st:=by have:=(prI_lt (n:=N.st) (i:=i) (by rw [<-hK.sq]; exact hi)).1; rw [hpq.out] at this; exact this
  have hql:q<N.st:=by have:=(prI_lt (n:=N.st) (i:=i) (by rw [<-hK.sq]; exact hi)).2; rw [hpq.out] at this; exact this
  have hst:=hK.st
  have hdv:IntKind.i64.wrap ((i:Int)/(N.st:Int))=(p:Int):=by
   have:((i:Int)/(N.st:Int))=(p:Int):=by rw [<-hp]; rfl
   rw [this,IntKind.wrap_i64]; omega
  have hmd:(i:Int).tmod (N.st:Int)=(q:Int):=by rw [<-hq]; rfl
  have hs:=hid hs
  have hp:=hid hp
  have hq:=hid hq
  have hu:=hid hu
  have hL:=hid hL
  have hm:=hid hm
  have hge:=hid h.ge
  clear h hI hb hsn
  go_enter Tryz.func55,Tryz.ntmps55
  go_upto_region 2 with fail
  generalize hW1:(w.setCell ⟨sb,i,none⟩ (.bool true))=W1 at *
  have hdr:=(Below.refl W1.heap.size W1).drew
  have h2:=h1.next hdr
  have c2:=hid (c1.trans (Chg.below (SqB G nn fb tb sb ov F T) hdr))
  have hb2:=hid (below_chain hb1.out hdr)
  have hS:W1.drew.cell? ⟨G,3,none⟩=some (.int .i64 (N.st:Int)):=h2.blk.cell (i:=3) rfl
  clear z0 z1 z2 c1 hb1 hW1 h1
  refine wp_region_D (fun w'=>w'.cell? ⟨G,3,none⟩=some (.int .i64 (N.st:Int))) [] (by kernel_rfl) ?_
  refine tkAp 0 (some 25) rfl rfl hS ?_
  refine tkAp 1 (some 26) rfl rfl hS ?_
  refine tkAp 2 (some 27) rfl rfl hS ?_
  refine tkAp 3 (some 28) rfl rfl hS ?_
  refine tkAp 4 (some 29) rfl rfl hS ?_
  refine tkAp 5 (some 30) rfl rfl hS ?_
  refine tkAl 6 (some 31) (v:=?_) rfl rfl ?_ hS ?_
  rotate_left
  ·intro wz hw; refine exec_loadI G 3 ?_ (.int .i64 (N.st:Int)) hw; go_simp
  refine tkAp 7 (some 32) rfl rfl hS ?_
  refine tkAp 8 (some 33) rfl rfl hS ?_
  refine tkAp 9 (some 34) rfl rfl hS ?_
  refine tkAp 10 (some 35) rfl rfl hS ?_
  refine tkAp 11 (some 36) rfl rfl hS ?_
  refine tkAp 12 (some 37) rfl rfl hS ?_
  refine tkAp 13 (some 38) rfl rfl hS ?_
  refine tkAl 14 (some 39) (v:=?_) rfl rfl ?_ hS ?_
  rotate_left
  ·intro wz hw; refine exec_loadI G 3 ?_ (.int .i64 (N.st:Int)) hw; go_simp
  refine tkAp 15 (some 40) rfl rfl hS ?_
  refine tkAp 16 (some 4) rfl rfl hS ?_
  refine tkAp 17 (some 5) rfl rfl hS ?_
  go_simp
  refine wpAnyD_done (by kernel_rfl) ?_ _
  clear hS hdr hdv hmd
  generalize hWd:W1.drew=W2 at *
  clear hWd
  have hvw:=h2.vw
  have h2:=hid h2
  have hVm:=hid (hK.vm.next hb2.out)
  have hfrom:=hid (from_loc syms N hK.ss (.slice io N.st ci) (.slice fo N.st cf) ro hK.row nr cr vo cv p hpl hst hK.num W2 hVm.out.mo.arcs hVm.out.fst)
  go_wp2_with ((with_reducible refine wp_loadView rfl _ rfl G 0 ?_ (viC syms N.st (.slice io N.st ci) (.slice fo N.st cf) (.slice ro nr cr) (.slice vo (N.st+1) cv)) rfl hvw ?_); exact rfl)
  refine hfrom.out.mono ?_; rintro e w3 ⟨⟨ao,na,ca,rfl,hfl⟩,hb3⟩
  have h3:=h2.out.next hb3
  have c3:=hid (c2.out.trans (Chg.below (SqB G nn fb tb sb ov F T) hb3))
  have hb30:=hid (below_chain hb2.out hb3)
  have hna:=hfl.lenMap
  have hnr:na<=nr:=by
   have e1:=hK.vm.mo.arcs.lenMap
   have e2:=List.length_filter_le (fun x:Ac=>decide (x.1=p)) N.arcs
   omega
  have hloc:=hid (fun (b o:Nat) (e:ao=some ⟨b,o,none⟩)=>(by obtain ⟨o',h⟩:=hfl.loc b o e; exact hK.lie b o' h:b<W0.heap.size))
  have hfl:=hid hfl
  have hflt:=hid (fun (x:Ac) (k:Nat) (hx:(N.arcs.filter fun x=>decide (x.1=p))[k]? = some x)=>List.mem_of_getElem? hx)
  obtain ⟨L,hLe⟩:∃ L,(N.arcs.filter fun x=>decide (x.1=p))=L:=⟨_,rfl⟩
  rw [hLe] at hfl hna hflt
  have hx0:=hid (show ExI W0 G nn syms fb tb sb nr (.slice io N.st ci) (.slice fo N.st cf) (.slice ro nr cr) (.slice vo (N.st+1) cv) (rwV eb N.st) N E gray i q L w3 (SqB G nn fb tb sb ov F T) (S.mark i) 0 0 w3 (S.mark i) ov F T from ⟨h3,hI1.out,SqLe.refl _,fun m h=>⟨m,h,by omega⟩,fun x hx=>by simp at hx,Chg.refl _ _,hb30.out⟩)
  have hnrm:=hK.num
  replace hLe:=hid hLe
  replace hna:=hid hna
  clear hvw h2 hVm hfrom h3 hb3 c2 hb2 hI1
  go_wp2_with fail
  go_loopw [48] (fun kv wr=>∃ (k:Nat) (S':Sqr) (ov':Value) (F' T':Nat->Value),k<=na/\kv=.int .i64 (k:Int)/\Hid (ExI W0 G nn syms fb tb sb nr (.slice io N.st ci) (.slice fo N.st cf) (.slice ro nr cr) (.slice vo (N.st+1) cv) (rwV eb N.st) N E gray i q L w3 (SqB G nn fb tb sb ov F T) (S.mark i) k 0 wr S' ov' F' T')) (fun kv _=>na-(intOf kv).toNat)
  case atStart=>exact ⟨0,S.mark i,ov,F,T,Nat.zero_le _,rfl,hx0⟩
  case round =>
   clear hx0
   obtain ⟨k,S',ov',F',T',hk,rfl,hx⟩:=hrel
   by_cases hlt:k<na
   ·have k1:(k:Int)<(na:Int):=by omega
    have k0:(0:Int)<=(k:Int):=by omega
    obtain ⟨x,hxk,bx,ox,hao,hcs⟩:=hfl.out.get hlt
    have hbl:=hloc.out bx ox hao
    replace hcs:=Cs.block hcs ((hx.out.below.block bx hbl).trans (hb30.out.block bx hbl).symm)
    have hxL:=hid (hflt.out x k hxk)
    have hxk:=hid hxk
    have hbX:Below wr.heap.size wr (wr.alloc (.cells (acC x).toArray 54)):=below_alloc _
    have hX:=Bl.fresh wr (acC x) 54
    have hx2:=hid (hx.out.next hbX)
    have hXn:=hid (show ¬ SqB G nn fb tb sb ov' F' T' wr.heap.size from fun e=>by have:=(hx.out.sq.ge _ e).2; omega)
    subst hao
    clear hx hbl
    go_upto_region 6 with (first | ((with_reducible refine wp_loadArc rfl _ rfl bx (ox+k*11) ?_ x hcs ?_); exact rfl) | ((with_reducible refine wp_storeVArc rfl _ _ rfl _ _ ?_ x ?_ ?_ ?_); exact rfl; exact rfl; exact rfl))
    clear hcs
    obtain ⟨w4,hW4⟩:∃ z,wr.alloc (.cells (acC x).toArray 54)=z:=⟨_,rfl⟩
    obtain ⟨X,hXe⟩:∃ z,wr.heap.size=z:=⟨_,rfl⟩
    rw [hW4,hXe] at hX
    rw [hXe] at hXn
    rw [hW4] at hx2
    try simp only [hW4,hXe]
    clear hW4 hXe hbX
    have hdr4:=(Below.refl w4.heap.size w4).drew
    have hx4:=hid (hx2.out.next hdr4)
    have hX4:=hid (hX.next hdr4)
    have hS4:Cs w4.drew G 0 (viC syms N.st (.slice io N.st ci) (.slice fo N.st cf) (.slice ro nr cr) (.slice vo (N.st+1) cv))/\w4.drew.cell? ⟨X,1,none⟩=some (.int .i64 (x.2.1:Int)):=⟨hx4.out.sq.vw,hX4.out.cell (i:=1) rfl⟩
    have hVm:=hid (hK.vm.next hx4.out.below)
    clear hdr4 hX hx2
    refine wp_region_D (fun w'=>Cs w' G 0 (viC syms N.st (.slice io N.st ci) (.slice fo N.st cf) (.slice ro nr cr) (.slice vo (N.st+1) cv))/\w'.cell? ⟨X,1,none⟩=some (.int .i64 (x.2.1:Int))) [] (by kernel_rfl) ?_
    refine tkAp 0 (some 52) rfl rfl hS4 ?_
    refine tkAp 1 (some 53) rfl rfl hS4 ?_
    refine tkAp 2 (some 54) rfl rfl hS4 ?_
    refine tkAl 3 (some 55) (v:=?_) rfl rfl ?_ hS4 ?_
    rotate_left
    ·intro wz hw; refine exec_loadView G 0 ?_ (viC syms N.st (.slice io N.st ci) (.slice fo N.st cf) (.slice ro nr cr) (.slice vo (N.st+1) cv)) rfl hw.1; go_simp
    refine tkAp 4 (some 56) rfl rfl hS4 ?_
    refine tkAp 5 (some 57) rfl rfl hS4 ?_
    refine tkAl 6 (some 58) (v:=?_) rfl rfl ?_ hS4 ?_
    rotate_left
    ·intro wz hw; refine exec_loadI X 1 ?_ (.int .i64 (x.2.1:Int)) hw.2; go_simp
    refine tkAp 9 (some 61) rfl rfl hS4 ?_
    go_simp
    refine wpO (i:=7) rfl fun KK hKK=>?_
    go_simp
    go_at_call 32
    refine (step_loc syms N hK.ss (.slice io N.st ci) (.slice fo N.st cf) ro hK.row nr cr vo cv q x.2.1 hql hst hK.num _ hVm.out.mo.arcs hVm.out.fst).mono ?_; rintro e w5 ⟨⟨co,nb,cb,rfl,hfm⟩,hb5⟩
    have hx5:=hid (hx4.out.next hb5)
    have hX5:=hid (hX4.out.next hb5)
    have hfm:=hid hfm
    try go_simp
    refine hKK _ _ ⟨fun _=>(⟨Cs.next (hS4).1 hb5,cell_later hb5 (hS4).2⟩),?_⟩; clear hKK KK
    refine tkAp 8 (some 60) rfl rfl (⟨Cs.next (hS4).1 hb5,cell_later hb5 (hS4).2⟩) ?_
    refine wpAnyD_done (by kernel_rfl) ?_ _
    clear hS4 hx4 hX4 hVm
    have hb50:=hid hx5.out.below
    have hnb:=hfm.out.lenMap
    have hnbr:nb<=nr:=by
     have e1:=hK.vm.mo.arcs.lenMap
     have e2:=List.length_filter_le (fun z:Ac=>decide (z.2.1=x.2.1)) (N.arcs.filter fun z=>decide (z.1=q))
     have e3:=List.length_filter_le (fun z:Ac=>decide (z.1=q)) N.arcs
     rw [stp_eq] at e2
     omega
    have hlocm:=hid (fun (b o:Nat) (e:co=some ⟨b,o,none⟩)=>(by obtain ⟨o',h⟩:=hfm.out.loc b o e; exact hK.lie b o' h:b<W0.heap.size))
    obtain ⟨M,hMe⟩:∃ M,stp N.arcs q x.2.1=M:=⟨_,rfl⟩
    rw [hMe] at hfm hnb
    have hmd0:=hid (show Made N E i S' x (M.take 0) from fun z hz=>by simp at hz)
    have hXX:=hid (⟨hX5.out,hXn.out⟩:Bl X (acC x) 54 w5/\¬ SqB G nn fb tb sb ov' F' T' X)
    replace hMe:=hid hMe
    replace hnb:=hid hnb
    clear hX5 hXn hb5
    obtain ⟨wo,rfl⟩:∃ wo:World,wo=wr:=⟨_,rfl⟩
    go_wp2_with fail
    go_simp
    go_loopw [61] (fun jv wr=>∃ (b:Nat) (S2:Sqr) (ov2:Value) (F2 T2:Nat->Value),b<=nb/\jv=.int .i64 (b:Int)/\Hid (ExI W0 G nn syms fb tb sb nr (.slice io N.st ci) (.slice fo N.st cf) (.slice ro nr cr) (.slice vo (N.st+1) cv) (rwV eb N.st) N E gray i q L w3 (SqB G nn fb tb sb ov F T) (S.mark i) k b wr S2 ov2 F2 T2)/\Hid (Made N E i S2 x (M.take b))/\Hid (Bl X (acC x) 54 wr/\¬ SqB G nn fb tb sb ov2 F2 T2 X)) (fun jv _=>nb-(intOf jv).toNat)
    case atStart=>exact ⟨0,S',ov',F',T',Nat.zero_le _,rfl,hx5,hmd0,hXX⟩
    case round =>
     clear hx5 hmd0 hXX
     obtain ⟨b,S2,ov2,F2,T2,hbn,rfl,hx,hmd,hXX⟩:=hrel
     by_cases hlb:b<nb
     ·have b1:(b:Int)<(nb:Int):=by omega
      have b0:(0:Int)<=(b:Int):=by omega
      obtain ⟨y,hyb,by_,oy,hco,hcy⟩:=hfm.out.get hlb
      have hbl:=hlocm.out by_ oy hco
      replace hcy:=Cs.block hcy ((hx.out.below.block by_ hbl).trans (hb50.out.block by_ hbl).symm)
      have hyM:=hid (List.mem_of_getElem? hyb)
      have hyb:=hid hyb
      have hbY:Below wr.heap.size wr (wr.alloc (.cells (acC y).toArray 54)):=below_alloc _
      have hY:=Bl.fresh wr (acC y) 54
      have hx6:=hid (hx.out.next hbY)
      have hX6:=hid (hXX.out.1.next hbY)
      have hYn:=hid (show ¬ SqB G nn fb tb sb ov2 F2 T2 wr.heap.size from fun e=>by have:=(hx.out.sq.ge _ e).2; omega)
      have hXn:=hid hXX.out.2
      subst hco
      clear hx hbl hXX
      go_upto_region 9 with (first | ((with_reducible refine wp_loadArc rfl _ rfl by_ (oy+b*11) ?_ y hcy ?_); exact rfl) | ((with_reducible refine wp_storeVArc rfl _ _ rfl _ _ ?_ y ?_ ?_ ?_); exact rfl; exact rfl; exact rfl))
      clear hcy
      obtain ⟨w6,hW6⟩:∃ z,wr.alloc (.cells (acC y).toArray 54)=z:=⟨_,rfl⟩
      obtain ⟨Y,hYe⟩:∃ z,wr.heap.size=z:=⟨_,rfl⟩
      rw [hW6,hYe] at hY
      rw [hYe] at hYn
      rw [hW6] at hx6 hX6
      try simp only [hW6,hYe]
      clear hW6 hYe hbY
      obtain ⟨hxN1,hxN2⟩:=hK.ok x (List.mem_filter.1 (by have:=hxL.out; rw [<-hLe.out] at this; exact this)).1
      have hyS:=hyM.out
      rw [<-hMe.out,<-stp_eq] at hyS
      obtain ⟨hyN1,hyN2⟩:=hK.ok y (List.mem_filter.1 (List.mem_filter.1 hyS).1).1
      have hcx:=hK.cost x (List.mem_filter.1 (by have:=hxL.out; rw [<-hLe.out] at this; exact this)).1
      have hcy:=hK.cost y (List.mem_filter.1 (List.mem_filter.1 hyS).1).1
      have hmv:=hid (fun h1 h2=>mv_of hK.snd hK.ok hpq.out (by rw [hLe.out]; exact hxL.out) (by rw [hMe.out]; exact hyM.out) h1 h2:E x.2.2.1=true->E y.2.2.1=true->_)
      clear hyS
      have g8:=hx6.out.sq.blk.cell (i:=8) rfl
      have g3:=hx6.out.sq.blk.cell (i:=3) rfl
      have x2:=hX6.out.cell (i:=2) rfl
      have x6:=hX6.out.cell (i:=6) rfl
      have y2:=hY.cell (i:=2) rfl
      have y6:=hY.cell (i:=6) rfl
      have e1:=en_cell hE.out hEn.out (c3.out.trans hx6.out.chg) hxN2
      have e2:=en_cell hE.out hEn.out (c3.out.trans hx6.out.chg) hyN2
      have l1:(x.2.2.1:Int)<(N.st:Int):=by omega
      have l0:(0:Int)<=(x.2.2.1:Int):=by omega
      have l3:(y.2.2.1:Int)<(N.st:Int):=by omega
      have l2:(0:Int)<=(y.2.2.1:Int):=by omega
      by_cases hEE:E x.2.2.1=true/\E y.2.2.1=true
      ·obtain ⟨hE1,hE2⟩:=hEE
       rw [hE1] at e1
       rw [hE2] at e2
       have hmv:=hid (hmv.out hE1 hE2)
       have hEE:=hid (⟨hE1,hE2⟩:E x.2.2.1=true/\E y.2.2.1=true)
       clear hE1 hE2
       obtain ⟨a1,ha1⟩:∃ a1,x.2.2.1*N.st=a1:=⟨_,rfl⟩
       obtain ⟨j,hj⟩:∃ j,a1+y.2.2.1=j:=⟨_,rfl⟩
       obtain ⟨g,hg⟩:∃ g:Int,(tc (wt x):Int)-(tc (wt y):Int)=g:=⟨_,rfl⟩
       have hjn:j<nn:=by rw [hK.sq,<-hj,<-ha1]; exact hmv.out.2
       have hmv1:=hid hmv.out.1
       rw [ha1,hj,hg] at hmv1
       have ha2:a1<=4096:=by rw [<-ha1]; have:=Nat.mul_le_mul (Nat.le_of_lt hxN2) hst; have h64:N.st*64<=64*64:=Nat.mul_le_mul_right _ hst; omega
       have m1:IntKind.i64.wrap ((x.2.2.1:Int)*(N.st:Int))=(a1:Int):=by
        have e:(x.2.2.1:Int)*(N.st:Int)=(a1:Int):=by rw [<-ha1]; exact (Int.natCast_mul _ _).symm
        rw [e,IntKind.wrap_i64]; omega
       have m2:IntKind.i64.wrap ((a1:Int)+(y.2.2.1:Int))=(j:Int):=by rw [IntKind.wrap_i64]; omega
       have m3:IntKind.i64.wrap ((tc (wt x):Int)-(tc (wt y):Int))=g:=by rw [IntKind.wrap_i64]; omega
       have hjd:=hid (show j=x.2.2.1*N.st+y.2.2.1 by omega)
       have hgd:=hid hg.symm
       replace hY:=hid hY
       replace hj:=hid hj
       clear hg ha1 hmv
       go_quiet (fail)
       go_upto_region 10 with fail
       go_quiet (fail)
       go_upto_region 11 with fail
       have hseen:=hid (hx6.out.le.seen i (if_pos rfl))
       have hIa:=hid (hx6.out.inv.add (j:=j) (g:=g) hmv1.out (by rw [<-hK.sq]; exact hi) (by rw [<-hK.sq]; exact hjn) hseen.out)
       have hsnj:=hid (Seen.step (hx6.out.inv.rch i hseen.out) hmv1.out)
       have hcua:=hid (show cU (S2.add i j g) N.st<u by
        have a1:cU (S2.add i j g) N.st=cU S2 N.st:=rfl
        have a2:=cU_mono (n:=N.st) hx6.out.le.seen
        have a3:=hcu.out
        have a4:=hu.out
        omega)
       have hgr:=hid (hx6.out.grow m (hL.out.mark i))
       have hbg:=hid (show ∀ m',m'+eL nr*cU S2 N.st<=m+eL nr*cU (S.mark i) N.st+(nr*k+b)->m'+1+eL nr*cU (S2.add i j g) N.st<=900000000000 from fun m' h=>by
        have a1:cU (S2.add i j g) N.st=cU S2 N.st:=rfl
        have a2:eL nr*cU S N.st=eL nr*cU (S.mark i) N.st+eL nr:=by rw [<-hcu.out,Nat.mul_add,Nat.mul_one]
        have a3:=hm.out
        have a4:nr*k+nr<=nr*nr:=by have:=Nat.mul_le_mul_left nr (show k+1<=nr by omega); rw [Nat.mul_add,Nat.mul_one] at this; exact this
        have a5:eL nr=nr*nr+1:=rfl
        rw [a1]
        omega)
       have hlf:=hid (show (S2.fr i).length<=1000000000000/\(S2.tor j).length<=1000000000000 by
        obtain ⟨m',h1,h2⟩:=hgr.out
        have h3:=hbg.out m' h2
        exact ⟨by have:=(h1.1 i).1; omega,by have:=(h1.1 j).2; omega⟩)
       refine sq_from W0.heap.size G nn syms N.st (.slice io N.st ci) (.slice fo N.st cf) (.slice ro nr cr) (.slice vo (N.st+1) cv) (rwV eb N.st) S2 fb tb sb ov2 F2 T2 i j g _ ?_ hi hlf.out.1 (fun _ _ d _ _ h=>by cases d<;>exact h) ?_
       ·exact (hx6.out.next (below_dd _ _)).sq
       intro _ _ _ _ _ _ _ _ _ _ _ _ _ _ _ _ _ _ uf w7 hq7 hc7
       replace hc7:=hid ((Chg.below _ (below_dd (B:=w6.heap.size) _ _)).trans hc7)
       replace hq7:=hid hq7
       go_upto_region 12 with fail
       refine sq_to W0.heap.size G nn syms N.st (.slice io N.st ci) (.slice fo N.st cf) (.slice ro nr cr) (.slice vo (N.st+1) cv) (rwV eb N.st) (S2.addF i j g) fb tb sb ov2 (updF F2 i uf) T2 i j g w7 hq7.out hjn hlf.out.2 (fun _ _ d _ _ h=>by cases d<;>exact h) ?_
       intro _ _ _ _ _ _ _ _ _ _ _ _ _ _ _ _ _ _ ut w8 hq8 hc8
       rw [Sqr.add_eq] at hq8
       replace hc8:=hid (hc7.out.trans hc8)
       replace hq8:=hid hq8
       have hb8:=hid (hc8.out.back hx6.out.below fun g hg=>(hx6.out.sq.ge g hg).1)
       have hXa:=hid (hc8.out.bl hX6.out hXn.out)
       obtain ⟨m',hl',hm'⟩:=hgr.out
       have hen8:=hid (en_next hE.out hEn.out (c3.out.trans (hx6.out.chg.trans hc8.out)))
       have hcall:=hid (ih _ hcua.out (S2.add i j g) ov2 (updF F2 i uf) (updF T2 j ut) (i::gray) j (m'+1) w8 (Nat.le_refl _) hq8.out hIa.out hb8.out hen8.out.1 hen8.out.2 (hl'.add i j g) (hbg.out m' hm') hjn hsnj.out)
       clear hq7 hc7 hl' hm' hgr hbg hsnj hIa hX6 hXn hen8
       go_wp2_with fail
       refine hcall.out.mono ?_; rintro e w9 ⟨S3,ov3,F3,T3,rfl,hs3,hI3,hl3,hg3,hn3,hc3⟩
       have hx9:=hid (hx6.out.move hs3 hI3 hl3 hg3 (hc8.out.trans hc3))
       have hmd9:=hid (hmd.out.move hyb.out hl3 hjd.out hgd.out hn3)
       have hXX9:=hid (hc3.bl hXa.out.1 hXa.out.2)
       clear hcall hs3 hI3 hl3 hg3 hn3 hc3 hc8 hXa hx6 hmd
       go_wp2_with fail
       go_roundw
       case rel=>exact ⟨b+1,S3,ov3,F3,T3,by omega,by go_num,hx9,hmd9,hXX9⟩
       case measure=>simp [intOf]; omega
      ·have hmd2:=hid (hmd.out.skip hyb.out hEE)
       have hx7:=hid hx6.out.skip
       clear hmd hx6 hY hmv
       cases hE1:E x.2.2.1 with
       | false =>
        rw [hE1] at e1
        have hdr6:=(Below.refl w6.heap.size w6).drew
        have hS6:w6.drew.cell? ⟨G,8,none⟩=some (rwV eb N.st)/\w6.drew.cell? ⟨X,2,none⟩=some (.int .i64 (x.2.2.1:Int))/\w6.drew.cell? ⟨eb,x.2.2.1,none⟩=some (.bool false):=⟨cell_later hdr6 g8,cell_later hdr6 x2,cell_later hdr6 e1⟩
        have hxE:=hid (hx7.out.next hdr6)
        have hXE:=hid (hX6.out.next hdr6)
        clear hE1 hEE hdr6 hx7 hX6 g8 g3 x2 x6 y2 y6 e1 e2
        refine wp_region_D (fun w'=>w'.cell? ⟨G,8,none⟩=some (rwV eb N.st)/\w'.cell? ⟨X,2,none⟩=some (.int .i64 (x.2.2.1:Int))/\w'.cell? ⟨eb,x.2.2.1,none⟩=some (.bool false)) [] (by kernel_rfl) ?_
        refine tkAp 0 (some 65) rfl rfl hS6 ?_
        refine tkAp 1 (some 66) rfl rfl hS6 ?_
        refine tkAp 2 (some 67) rfl rfl hS6 ?_
        refine tkAl 3 (some 68) (v:=?_) rfl rfl ?_ hS6 ?_
        rotate_left
        ·intro wz hw; refine exec_load1 G 8 ?_ (rwV eb N.st) hw.1 _ Tryz.underlying66 (by rfl); go_simp
        refine tkAp 4 (some 69) rfl rfl hS6 ?_
        refine tkAl 5 (some 70) (v:=?_) rfl rfl ?_ hS6 ?_
        rotate_left
        ·intro wz hw; refine exec_loadI X 2 ?_ (.int .i64 (x.2.2.1:Int)) hw.2.1; go_simp
        refine tkAp 6 (some 71) rfl rfl hS6 ?_
        refine tkAl 7 (some 72) (v:=?_) rfl rfl ?_ hS6 ?_
        rotate_left
        ·intro wz hw; refine exec_load1 eb x.2.2.1 ?_ (.bool false) hw.2.2 _ Tryz.underlying4 (by rfl); go_simp
        refine tkAp 8 (some 73) rfl rfl hS6 ?_
        refine tkAu 9 (some 74) rfl rfl hS6 ?_
        refine tkAu 10 (some 75) rfl rfl hS6 ?_
        refine tkAu 11 (some 76) rfl rfl hS6 ?_
        refine tkAu 12 (some 77) rfl rfl hS6 ?_
        refine tkAu 13 (some 78) rfl rfl hS6 ?_
        refine tkAu 14 (some 79) rfl rfl hS6 ?_
        refine tkAu 15 (some 80) rfl rfl hS6 ?_
        refine tkAu 16 (some 81) rfl rfl hS6 ?_
        refine tkAl 17 (some 82) (v:=.bool false) rfl rfl ?_ hS6 ?_
        ·intro wz _; first | (go_simp; done) | (go_simp; with_reducible rfl)
        go_simp
        refine wpAnyD_done (by kernel_rfl) ?_ _
        go_wp2_with fail
        go_roundw
        case rel=>exact ⟨b+1,S2,ov2,F2,T2,by omega,by go_num,hxE,hmd2,hid ⟨hXE.out,hXn.out⟩⟩
        case measure=>simp [intOf]; omega
       | true =>
        cases hE2:E y.2.2.1 with
        | true=>exact absurd ⟨hE1,hE2⟩ hEE
        | false =>
         rw [hE1] at e1
         rw [hE2] at e2
         clear hE1 hE2 hEE
         go_quiet (fail)
         go_wp2_with fail
         go_roundw
         case rel=>exact ⟨b+1,S2,ov2,F2,T2,by omega,by go_num,hid (hx7.out.next (below_drewNs _)),hmd2,hid ⟨hX6.out.drewN _,hXn.out⟩⟩
         case measure=>simp [intOf]; omega
     ·obtain rfl:b=nb:=by omega
      have b1:¬ (b:Int)<(b:Int):=by omega
      have hxn:=hid (hx.out.arc hxk.out (by have:=hmd.out; rw [List.take_of_length_le (by rw [hnb.out]; exact Nat.le_refl _),<-hMe.out] at this; exact this) hnbr)
      clear hx hmd hXX
      go_wp2_with fail
      go_roundw
      case rel=>exact ⟨k+1,S2,ov2,F2,T2,by omega,by go_num,hxn⟩
      case measure=>simp [intOf]; omega
   ·obtain rfl:k=na:=by omega
    have k1:¬ (k:Int)<(k:Int):=by omega
    have hbN:Below wr.heap.size wr (wr.alloc (.cells (orC i).toArray 3)):=below_alloc _
    have hnew:=Cs.fresh wr (orC i) 3
    have h3:=hx.out.sq.next hbN
    have y12:=hx.out.sq.blk.cell (i:=12) rfl
    have z12:=h3.blk.cell (i:=12) rfl
    have hlen:=hid (show S'.ord.length<=1000000000000 by
     obtain ⟨m',h1,h2⟩:=hx.out.grow m (hL.out.mark i)
     have a2:eL nr*cU S N.st=eL nr*cU (S.mark i) N.st+eL nr:=by rw [<-hcu.out,Nat.mul_add,Nat.mul_one]
     have a3:=hm.out
     have a4:nr*k<=nr*nr:=Nat.mul_le_mul_left nr hnr
     have a5:eL nr=nr*nr+1:=rfl
     have:=h1.2
     omega)
    have hblt:=h3.lt
    replace hbN:=hid hbN
    go_wp2_with (at_builtin; refine wp_appF rfl (.tmp 147) (.tmp 149) 22 rfl 3 (.int .i64 0) 1 8 Tryz.underlying22 Tryz.infoInt1 rfl (by decide) W0.heap.size ov' _ rfl h3.ord wr.heap.size 0 1 1 [orC i] rfl rfl (by decide) (or_len i) (by simp only [List.flatten_cons,List.flatten_nil,List.append_nil]; exact hnew) (or_one i) (by rw [List.length_map]; have:=hlen.out; omega) (by rw [List.length_map]; have:=hlen.out; omega) hblt ?_; intro uo wv hu hg hb5 ho; obtain ⟨ua,uc,hue⟩:=hu.form; generalize (List.map orC _++[orC _]).length=ul at hue; subst hue; have hbl:=h3.blk.fr (grown_fr (T:=fun b=>ov'.ownBlock=some b) hg fun b hb=>hb) (fun hb=>bl_ne h3.blk h3.ord.1 (by decide) hb); have z5:=hbl.cell (i:=12) rfl; have z5f:=hbl.free 12; obtain ⟨hq9,hc9⟩:=h3.done hu hg ho)
    go_end0
    refine ⟨S'.done i,_,F',T',rfl,hq9,?_,?_,fun m0 hm0=>?_,?_,?_⟩
    ·refine hx.out.inv.done (by rw [<-hK.sq]; exact hi) (hx.out.le.seen i (if_pos rfl)) (made_all hK.snd hK.ok hpq.out fun x hxm=>?_)
     have:=hx.out.made x
     rw [List.take_of_length_le (by rw [hna.out]; exact Nat.le_refl _),<-hLe.out] at this
     exact this hxm
    ·exact ((mark_le S i).trans hx.out.le).trans (done_le S' i)
    ·obtain ⟨m',h1,h2⟩:=hx.out.grow m0 (hm0.mark i)
     refine ⟨m'+1,h1.done i,?_⟩
     have a1:cU (S'.done i) N.st=cU S' N.st:=rfl
     have a2:eL nr*cU S N.st=eL nr*cU (S.mark i) N.st+eL nr:=by rw [<-hcu.out,Nat.mul_add,Nat.mul_one]
     have a4:nr*k<=nr*nr:=Nat.mul_le_mul_left nr hnr
     have a5:eL nr=nr*nr+1:=rfl
     rw [a1]
     omega
    ·exact hx.out.le.seen i (if_pos rfl)
    ·exact c3.out.trans (hx.out.chg.trans ((Chg.below _ hbN.out).trans hc9))
end
end Go.Proofs.YtnapapijhhldpaaGreatDoor

/-
  Texts joined by program: TwNl, Tra. No condition of its own.
-/
import Derived.Test.YtnapapijhhldpaaGreatDoorJcAX
namespace Go.Proofs.YtnapapijhhldpaaGreatDoor
set_option linter.unusedSimpArgs false
set_option linter.unusedVariables false
section
open Go.RowKit
def DetOut (syms:Nat) (A:Au) (w:World) (e:Ending) (w':World):Prop:=∃ (K:List Ac) (us:List Bool),Nf K A.arcs∧UsOk us ⟨A.st,A.ini,A.fin,K.filter nz⟩∧Below w.heap.size w w' ∧
 ((detP syms us ⟨A.st,A.ini,A.fin,K.filter nz⟩=none∧e=.returned (.tuple #[.agg ([.int .i64 0,.slice none 0 0,.int .i64 0,.int .i64 0,.slice none 0 0,.slice none 0 0,.slice none 0 0]:List Value).toArray,.int .i64 2])) ∨
 ∃ (B:Au) (io:Option Addr) (ci:Nat) (fo:Option Addr) (cf:Nat) (ro:Option Addr) (nr cr:Nat),detP syms us ⟨A.st,A.ini,A.fin,K.filter nz⟩=some B ∧
  e=.returned (.tuple #[.agg (auC syms B.st (.slice io B.st ci) (.slice fo B.st cf) (.slice ro nr cr)).toArray,.int .i64 0])∧MoF w' w.heap.size B io ci fo cf ro nr cr)
theorem wp_loadAuto {ops:Array Oper} {rest:List Oper} {o:Oper} {a:Act} {w:World} {Q:Exit→Act→World→Prop} (hgd:o.guard=none) (x:Operand) (ho:o.op=.load 30 x)
  (b off:Nat) (hx:a.eval x=.pointer (some ⟨b,off,none⟩)) (cs:List Value) (hl:cs.length=7) (hc:Cs w b off cs) (h:wpList Tryz.prog ops Q rest (a.put o.dst (.agg cs.toArray)) w):wpList Tryz.prog ops Q (o::rest) a w :=
 wp_loadC hgd _ x ho b off hx cs hc _ Tryz.underlying30 rfl (by rw [hl]; exact Tryz.sizeAuto) h
theorem detP_none {syms:Nat} {us:List Bool} {A:Au} (h:leastV (firstV us A.ini)=none):detP syms us A=some ⟨0,[],[],[]⟩:=by
 unfold detP; rw [setl_eq,h]; rfl
theorem detP_stop {syms c:Nat} {us:List Bool} {A:Au} (h:leastV (firstV us A.ini)=some c) (hr:runS A.arcs us syms 66 0 ⟨[lowV (firstV us A.ini) c],[]⟩=none):detP syms us A=none:=by
 unfold detP; rw [setl_eq,h]
 show (match runS A.arcs us syms 66 0 ⟨[lowV (firstV us A.ini) c],[]⟩ with | none=>none | some X=>_)=_
 rw [hr]
theorem iniK_is {c n:Nat} (h:1≤n):iniK c n=some c::List.replicate (n-1) none:=by
 obtain ⟨m,rfl⟩:∃ m,n=m+1:=⟨n-1,by omega⟩
 unfold iniK
 rw [List.range_succ_eq_map,List.map_cons,List.map_map]
 show some c::_=some c::_
 congr 1
 apply List.ext_getElem?
 intro j
 by_cases hj:j<m
 ·simp [hj,bK]
 ·simp [hj]
theorem run_len {N:List Ac} {us:List Bool} {syms:Nat}:∀ (f k:Nat) {X Y:Ds},runS N us syms f k X=some Y→X.subs.length≤Y.subs.length
 | 0,_,X,Y,h=>by cases h
 | f+1,k,X,Y,h=>by
  by_cases hk:X.subs.length≤k
  ·rw [run_end hk] at h; injection h with h; subst h; exact Nat.le_refl _
  ·cases hr:rowS N us k syms 1 X with
   | none=>rw [run_none (by omega) hr] at h; cases h
   | some Z =>
    rw [run_some (by omega) hr] at h
    have h1:=run_len f (k+1) h
    obtain ⟨L,e⟩:=row_pre _ _ hr
    rw [e,List.length_append] at h1
    omega
theorem detP_run {syms c:Nat} {us:List Bool} {A:Au} {X:Ds} (h:leastV (firstV us A.ini)=some c) (hr:runS A.arcs us syms 66 0 ⟨[lowV (firstV us A.ini) c],[]⟩=some X) :
  detP syms us A=some ⟨X.subs.length,iniK c X.subs.length,X.subs.map (endV A.fin),X.arcs⟩:=by
 rw [iniK_is (run_len _ _ hr)]
 unfold detP; rw [setl_eq,h]
 show (match runS A.arcs us syms 66 0 ⟨[lowV (firstV us A.ini) c],[]⟩ with | none=>none | some X=>_)=_
 rw [hr]
theorem firstV_bd {us:List Bool} {ini:List Tw} {C:Nat} (h:∀ v∈ini,tc v≤C):Bd C (firstV us ini):=fun r hr=>by
 obtain ⟨q,hq⟩:=List.getElem?_of_mem hr
 have:=(firstV_has.1 (show Has (firstV us ini) q r from hq)).2
 exact h _ (List.mem_of_getElem? this)
theorem FO.place {e:TypeId} {k base n c:Nat} {ao:Option Addr} {w:World} {css:List (List Value)} (h:FO e k w base (.slice ao n c) css):ao=none∨∃ b,ao=some ⟨b,0,none⟩:=by
 rcases h.1.2 with ⟨hv,_⟩ | ⟨g,cap,cur,hv,_⟩
 ·injection hv with hv; exact .inl hv
 ·injection hv with hv; exact .inr ⟨g,hv⟩
theorem Rw.lit1 {T:TypeId} {v:Value} {w:World} {gr base:Nat} {F:Nat→Value} (h:Bl gr [v] T w) (hb:base≤gr) (hF:F 0=v):Rw T w base (.slice (some ⟨gr,0,none⟩) 1 1) 1 F:=by
 refine ⟨by rw [fnl_len],.inr ⟨gr,1,#[v],rfl,hb,h,Nat.le_refl _,by simp [maxLen],by simp,?_⟩⟩
 show [v]=fnl 1 F
 unfold fnl
 simp [hF]
theorem Mk.first {w:World} {b:Nat} (h:Mk w b []) {S:Vx} {s:ByteArray} (hs:s.data.toList=keyT S) (hm:s.size≤maxLen) :
  ∃ w',(Instr.mapUpdate 75 (.map (some b)) (.string s) (.int .i64 0)).run Tryz.prog w=.ok () w'∧Mk w' b [S]∧w.grownBy w' (some b) :=
 h.lay Tryz.underlying75 (S:=S) (by simp) hs hm (by simp)
set_option maxRecDepth 100000 in
set_option maxHeartbeats 4000000 in
theorem det_any (syms C:Nat) (A:Au) (hV:Vo syms A) (hs:A.arcs.length<20∨UpA A.arcs) (hli:A.ini.length=A.st) (hlf:A.fin.length=A.st) (hL:Lw A) (hCs:(∀ x∈A.arcs,cst x≤C)∧(∀ v∈A.ini,tc v≤C)∧∀ v∈A.fin,tc v≤C) (hCC:C≤1048576) (io:Option Addr) (ci:Nat) (fo:Option Addr) (cf:Nat) (ro:Option Addr) (nr cr:Nat) (w:World) (h:Mo w syms A io ci fo cf ro nr cr) (hp:Pow w) :
  Calls Tryz.prog 7 #[.agg (auC syms A.st (.slice io A.st ci) (.slice fo A.st cf) (.slice ro nr cr)).toArray] w (DetOut syms A w):=by
 have hb0:Below w.heap.size w ((w.alloc (.cells (auC syms A.st (.slice io A.st ci) (.slice fo A.st cf) (.slice ro nr cr)).toArray 30)).alloc (.cells #[.int .i64 0,.slice none 0 0,.int .i64 0,.int .i64 0,.slice none 0 0,.slice none 0 0,.slice none 0 0] 30)):=below_chain (below_alloc _) (below_alloc _)
 have hG:=(Bl.fresh w (auC syms A.st (.slice io A.st ci) (.slice fo A.st cf) (.slice ro nr cr)) 30).new (.cells #[.int .i64 0,.slice none 0 0,.int .i64 0,.int .i64 0,.slice none 0 0,.slice none 0 0,.slice none 0 0] 30)
 have hR:=Bl.fresh' (G:=w.heap.size+1) (w.alloc (.cells (auC syms A.st (.slice io A.st ci) (.slice fo A.st cf) (.slice ro nr cr)).toArray 30)) [.int .i64 0,.slice none 0 0,.int .i64 0,.int .i64 0,.slice none 0 0,.slice none 0 0,.slice none 0 0] 30 (by simp)
 have hm:=hid (h.next hb0)
 have hp0:=hid (hp.next hb0)
 have hsz0:Hid (w.heap.size≤w.heap.size+1):=hid (Nat.le_succ _)
 clear h
 replace hli:=hid hli
 replace hlf:=hid hlf
 go_enter Tryz.func7,Tryz.ntmps7
 go_upto_region 1 with fail
 generalize hW0:((w.alloc (.cells (auC syms A.st (.slice io A.st ci) (.slice fo A.st cf) (.slice ro nr cr)).toArray 30)).alloc (.cells #[.int .i64 0,.slice none 0 0,.int .i64 0,.int .i64 0,.slice none 0 0,.slice none 0 0,.slice none 0 0] 30))=W0 at *
 have hRl0:=hR.lt
 have hW0:=hid hW0
 obtain ⟨⟨x0,x1,x2,x3⟩,x4,x5,x6⟩:=hG.seven
 obtain ⟨RB,hRBe⟩:∃ RB,w.heap.size+1=RB:=⟨_,rfl⟩
 rw [hRBe] at hR hRl0 ⊢
 have hGR:w.heap.size≤RB:=by omega
 clear hRBe hW0
 go_wp2_with fail
 refine (light_any syms A hV hs hli.out hlf.out hL io ci fo cf ro nr cr _ hm.out).mono ?_; rintro e w1 ⟨⟨io',ci',fo',cf',ro',nr',cr',vo',cv',K,rfl,hm1,hnf⟩,hb1⟩
 clear x0 x1 x2 x3 x4 x5 x6
 replace hm1:=hid hm1
 replace hnf:=hid hnf
 replace hR:=hid (hR.next hb1)
 replace hp1:=hid (hp0.out.next hb1)
 have hb1':=hid (below_chain hb0 hb1)
 have hRl1:RB<w1.heap.size:=Nat.lt_of_lt_of_le hRl0 hb1.size
 replace hb1:=hid hb1
 have hbX:Below w1.heap.size w1 (w1.alloc (.cells (viC syms A.st (.slice io' A.st ci') (.slice fo' A.st cf') (.slice ro' nr' cr') (.slice vo' (A.st+1) cv')).toArray 63)):=below_alloc _
 have hX:=Bl.fresh w1 (viC syms A.st (.slice io' A.st ci') (.slice fo' A.st cf') (.slice ro' nr' cr') (.slice vo' (A.st+1) cv')) 63
 go_upto_region 2 with ((with_reducible refine wp_storeVView rfl _ _ rfl _ _ ?_ (viC syms A.st (.slice io' A.st ci') (.slice fo' A.st cf') (.slice ro' nr' cr') (.slice vo' (A.st+1) cv')) rfl rfl rfl ?_ ?_); exact rfl; exact viC_1 _ _ _ _ _ _ _ _ _ _ _ _ _ _)
 replace hR:=hid (hR.out.next hbX)
 have hm2:=hid (hm1.out.next hbX)
 have hp2:=hid (hp1.out.next hbX)
 have hb2:=hid (below_chain hb1'.out hbX)
 have hVl:=hX.lt
 have hVs:(w1.alloc (.cells (viC syms A.st (.slice io' A.st ci') (.slice fo' A.st cf') (.slice ro' nr' cr') (.slice vo' (A.st+1) cv')).toArray 63)).heap.size=w1.heap.size+1:=by simp
 obtain ⟨V,hVe⟩:∃ V,w1.heap.size=V:=⟨_,rfl⟩
 rw [hVe] at hX hVl hRl1 hVs ⊢
 generalize hW2:(w1.alloc (.cells (viC syms A.st (.slice io' A.st ci') (.slice fo' A.st cf') (.slice ro' nr' cr') (.slice vo' (A.st+1) cv')).toArray 63))=W2 at *
 clear hW2 hVe hbX hm1 hb1 hb1'
 have hnb:Hid (nr'≤4096):=hid (by
  have h1:=nf_len hnf.out (fun z hz=>(hV.arcs z hz))
  have h2:=List.length_filter_le nz K
  have h3:=hV.num
  have h4:=fo_n hm2.out.mo.arcs
  simp only [List.length_map] at h4
  omega)
 have hkm:∀ x∈K.filter nz,∃ z∈A.arcs,ky z=ky x∧wt z=wt x:=fun x hx=>by
  obtain ⟨⟨z,hz,hk,hw⟩,_⟩:=hnf.out.2.1 x (List.mem_filter.1 hx).1
  exact ⟨z,hz,hk,hw⟩
 have harc:Hid (∀ x∈K.filter nz,x.1<A.st∧x.2.2.1<A.st):=hid fun x hx=>by
  obtain ⟨z,hz,hk,_⟩:=hkm x hx
  have h1:=hV.arcs z hz
  have h2:z.1=x.1:=congrArg (fun q:Ky=>q.1) hk
  have h3:z.2.2.1=x.2.2.1:=congrArg (fun q:Ky=>q.2.2) hk
  rw [←h2,←h3]; exact ⟨h1.1,h1.2.1⟩
 have hcst:Hid (∀ x∈K.filter nz,cst x≤C):=hid fun x hx=>by
  obtain ⟨z,hz,_,hw⟩:=hkm x hx
  have:=hCs.1 z hz
  unfold cst at *
  rw [←hw]; exact this
 have hrow:Hid (ro'=none∨∃ b,ro'=some ⟨b,0,none⟩):=hid hm2.out.mo.arcs.place
 replace hCs:=hid hCs
 replace hL:=hid hL
 replace hV:=hid hV
 replace hs:=hid hs
 clear hkm
 have hXc:=hX.cs
 go_wp2_with ((with_reducible refine wp_loadView rfl _ rfl V 0 ?_ (viC syms A.st (.slice io' A.st ci') (.slice fo' A.st cf') (.slice ro' nr' cr') (.slice vo' (A.st+1) cv')) rfl hXc ?_); exact rfl)
 refine (useful_any syms ⟨A.st,A.ini,A.fin,K.filter nz⟩ harc.out hlf.out hli.out io' ci' fo' cf' ro' nr' cr' vo' cv' hV.out.st hnb.out _ (hm2.out.vm syms)).mono ?_; rintro e w3 ⟨⟨gu,us,rfl,hus,hUs⟩,hb3⟩
 have hS:Hid (Sta w3 V gu syms C ⟨A.st,A.ini,A.fin,K.filter nz⟩ us io' ci' fo' cf' ro' nr' cr' vo' cv'):=hid
  ⟨(hm2.out.next hb3).vm syms,hrow.out,hX.next hb3,hus.mono (Nat.zero_le _),Ss.filter nz hnf.out.1,hV.out.st,hnb.out,hli.out,hlf.out,harc.out,hUs.1,⟨hcst.out,hCs.out.2⟩,hCC,hV.out.sym.2,hp2.out.next hb3⟩
 replace hR:=hid (hR.out.next hb3)
 have hRl3:RB<w3.heap.size:=Nat.lt_of_lt_of_le (Nat.lt_trans hRl1 hVl) hb3.size
 have hbw3:=hid (below_chain hb2.out hb3)
 replace hUs:=hid hUs
 have hst:=hV.out.st
 clear hXc hX hb3 hus
 have y3:=hS.out.vw.cell (i:=3) rfl
 go_wp2_with fail
 refine (nothing_any A.st hst w3).mono ?_; rintro e w4 ⟨⟨g,rfl,hg4⟩,hb4⟩
 have hglt:=(hg4.lt).1
 replace hg4:=hid hg4
 replace hb4:=hid hb4
 clear y3
 go_upto_block 0 with fail
 refine det_first w3 V gu syms C ⟨A.st,A.ini,A.fin,K.filter nz⟩ us io' ci' fo' cf' ro' nr' cr' vo' cv' hS w3.heap.size g w4 hb4.out hg4.out hglt _ _ _ _ _ _ _ _ _ _ _ _ _ _ _ _ _ _ _ _ _ _ _ _ _ _ _ _ _ _ _ _ _ _ _ _ _ _ _ _ _ _ _ _ _ _ _ _ _ _ _ _ _ _ _ _ _ _ _ _ _ _ _ _ _ _ _ _ _ _ _ _ _ _ _ _ _ _ _ _ _ _ _ _ _ _ _ _ _ _ _ _ _ _ _ _ _ _ _ _ _ _ _ _ _ _ _ _ _ _ _ _ _ _ _ _ _ _ _ _ _ _ _ _ _ _ _ _ _ _ _ _ _ _ _ _ _ _ _ _ _ _ _ _ _ _ _ _ _ _ _ _ _ _ _ _ _ _ _ _ _ _ _ _ _ _ _ _ _ _ _ _ _ _ _ _ _ _ _ _ _ _ _ _ _ _ _ _ _ _ _ _ _ _ _ _ _ _ _ _ _ _ _ _ _ _ _ _ _ _ _ _ _ _ _ _ _ _ _ _ _ _ _ _ _ _ _ _ _ _ _ _ _ _ _ _ _ _ _ _ _ _ _ _ _ _ _ _ ?_
 intro x8 Aa Ab Ad Ae Af Ag Ah Ak Al Am An Ao Ap Aq Ar As Av Aw Ax Ay Az Ba Bb w5 hg5 hb5
 replace hg5:=hid hg5
 obtain ⟨⟨y0,y1,y2,y3⟩,y4,y5,y6,y7⟩:=(hS.out.next hb5).vw.eight
 replace hb5:=hid hb5
 have hbO:Below w5.heap.size w5 (w5.alloc (.cells (auC syms 0 (.slice none 0 0) (.slice none 0 0) (.slice none 0 0)).toArray 30)):=below_alloc _
 have hO6:=Bl.fresh w5 (auC syms 0 (.slice none 0 0) (.slice none 0 0) (.slice none 0 0)) 30
 go_upto_region 13 with ((with_reducible refine wp_storeV rfl 30 _ _ rfl _ _ ?_ (auC syms 0 (.slice none 0 0) (.slice none 0 0) (.slice none 0 0)) ?_ ?_ ?_ ?_ ?_); exact rfl; exact rfl; exact rfl; exact auC_1 _ _ _ _ _ _ _ _ _ _ _; exact Tryz.sizeAuto)
 clear y0 y1 y2 y3 y4 y5 y6 y7
 have hOW:w3.heap.size≤w5.heap.size:=hb5.out.size
 have hg6:=hid (Rw.next hg5.out hbO)
 have hb6:=hid (below_chain hb5.out hbO)
 obtain ⟨O,hOe⟩:∃ O,w5.heap.size=O:=⟨_,rfl⟩
 rw [hOe] at hO6 hOW ⊢
 generalize hW6:(w5.alloc (.cells (auC syms 0 (.slice none 0 0) (.slice none 0 0) (.slice none 0 0)).toArray 30))=W6 at *
 have hgO:g<O:=by have:=hg5.out.lt; omega
 clear hW6 hOe hbO hg5 hg4 hb4
 obtain ⟨F,hF⟩:∃ F,firstV us A.ini=F:=⟨_,rfl⟩
 have hFl:F.length=A.st:=by rw [←hF]; unfold firstV; rw [List.length_zipWith,hUs.out.1,hli.out,Nat.min_self]
 have hFB:Bd C F:=by rw [←hF]; exact firstV_bd hCs.out.2.1
 simp only [hF] at hg6
 have hset:=settle_any w3.heap.size g F (by omega) (hFB.mono (by omega)) W6 hg6.out
 rw [hFl] at hset
 replace hset:=hid hset
 replace hF:=hid hF
 replace hFl:=hid hFl
 replace hFB:=hid hFB
 clear hg6
 go_wp2_with fail
 refine hset.out.mono ?_; rintro e w7 ⟨rfl,hg7,hfr7⟩
 have hb7:=hid (hb6.out.trans (hfr7.below (fun k e=>by subst e; exact hglt) hb6.out.size))
 have hO7:=hid (hO6.fr hfr7 (fun e=>by omega))
 clear hfr7 hset hb6 hO6
 cases hLs:leastV F with
 | none =>
  have hdet:=hid (detP_none (syms:=syms) (us:=us) (A:=⟨A.st,A.ini,A.fin,K.filter nz⟩) (by show leastV (firstV us A.ini)=none; rw [hF.out]; exact hLs))
  have hR7:=hid (hR.out.next hb7.out)
  have hO7c:=hO7.out.cs
  have hbw7:=hid (below_chain hbw3.out hb7.out)
  unfold oV
  rw [oI_none]
  clear hg7 hLs
  go_wp2_with (first | ((with_reducible refine wp_loadAuto rfl _ rfl O 0 ?_ (auC syms 0 (.slice none 0 0) (.slice none 0 0) (.slice none 0 0)) rfl hO7c ?_); exact rfl) | ((with_reducible refine wp_storeBAuto rfl _ _ rfl RB 30 _ hR7.out ?_ (auC syms 0 (.slice none 0 0) (.slice none 0 0) (.slice none 0 0)) rfl rfl ?_ (auC_1 _ _ _ _ _ _ _ _ _ _ _) ?_); exact rfl; exact rfl; intro w9 hR9 hfr9))
  refine bodyPost_ret (results_cellC rfl _ _ RB (auC syms 0 (.slice none 0 0) (.slice none 0 0) (.slice none 0 0)) _ rfl hR9.cs Tryz.underlying30 rfl Tryz.sizeAuto) rfl ⟨K,us,hnf.out,hUs.out,hbw7.out.trans (hfr9.below (fun k e=>by subst e; exact hGR) hbw7.out.size),.inr ⟨⟨0,[],[],[]⟩,none,0,none,0,none,0,0,hdet.out,rfl,⟨FO.nil _ _ _ _,FO.nil _ _ _ _,FO.nil _ _ _ _⟩⟩⟩
 | some c =>
  obtain ⟨f,hf⟩:∃ f,lowV F c=f:=⟨_,rfl⟩
  have hg7:Sb w7 w3.heap.size g f:=by rw [←hf]; rw [hLs] at hg7; exact hg7
  have hfl:f.length=A.st:=by rw [←hf,lowV_len]; exact hFl.out
  have hfB:Bd C f:=by rw [←hf]; exact bd_low hFB.out
  have hcF:leastV (firstV us A.ini)=some c:=by rw [hF.out]; exact hLs
  have hX0:Hid (Dok A.st C 0 ⟨[f],[]⟩):=hid ⟨fun v hv=>by rw [List.mem_singleton.1 hv]; exact hfl,by simp,fun i v hi=>by
   cases i with
   | zero=>simp at hi; subst hi; simpa using hfB
   | succ i=>simp at hi,fun x hx=>by simp at hx⟩
  have hklen:Hid ((keyT f).length≤10000000000):=hid (by
   have h:=keyT_len hfB f.length (Nat.le_refl _)
   rw [List.take_length] at h
   refine Nat.le_trans h ?_
   have:f.length*(C+3)≤64*1048579:=Nat.mul_le_mul (by omega) (by omega)
   omega)
  have hky:=fun w' (hb':Below w7.heap.size w7 w') (hp:Pow w')=>key_any C (by omega) f (by omega) hfB w3.heap.size g w' (Rw.next hg7 hb') hp
  simp only [hfl] at hky
  have hcC:c≤C:=hFB.out c (least_mem hLs)
  have k1:((c:Int) == -1)=false:=by rw [beq_eq_false_iff_ne]; omega
  have k2:¬ (c:Int) = -1:=by omega
  have hp7:=hid (hS.out.pow.next hb7.out)
  have hmm:=@run_makeMap Tryz.prog
  have hbA:Below w7.heap.size w7 (w7.alloc (.cells #[.slice (some ⟨g,0,none⟩) A.st A.st] 68)):=below_alloc _
  have hA:=Bl.fresh w7 [sbV A.st g] 68
  have hbM:=below_chain hbA (below_alloc (w:=w7.alloc (.cells #[.slice (some ⟨g,0,none⟩) A.st A.st] 68)) (.map #[] 0))
  have hA:=hA.new (.map #[] 0)
  have hM:=Mk.made (w7.alloc (.cells [sbV A.st g].toArray 68))
  replace hky:=hid hky
  replace hg7:=hid hg7
  replace hfl:=hid hfl
  replace hfB:=hid hfB
  replace hcF:=hid hcF
  replace hf:=hid hf
  replace hLs:=hid hLs
  have hOl:=hO7.out.lt
  unfold oV
  rw [oI_some]
  clear hcC
  go_wp2_with fail
  refine (hky.out _ hbM (hp7.out.next hbM)).mono ?_; rintro e w10 ⟨s,rfl,hs,hb10⟩
  have hsz:s.size≤maxLen:=by
   have:s.size=(keyT f).length:=by rw [←hs,Array.length_toList]; rfl
   rw [this]; have:=hklen.out; unfold maxLen; omega
  obtain ⟨w11,hrun,hmk,hgr⟩:=(hM.next hb10).first hs hsz
  have hms:(w7.alloc (.cells [sbV A.st g].toArray 68)).heap.size=w7.heap.size+1:=by simp
  have hms':(w7.alloc (.cells #[.slice (some ⟨g,0,none⟩) A.st A.st] 68)).heap.size=w7.heap.size+1:=by simp
  obtain ⟨gr,hgre⟩:∃ gr,w7.heap.size=gr:=⟨_,rfl⟩
  rw [hms] at hrun hmk hgr
  try rw [hms']
  rw [hgre] at hrun hmk hgr hA ⊢
  have hb710:=below_chain hbM hb10
  have hF11:Fr (fun k=>k=gr+1) w10 w11:=grown_fr hgr fun k hk=>by injection hk with hk; exact hk.symm
  have hb711:Hid (Below w7.heap.size w7 w11):=hid (hb710.trans (hF11.below (fun k e=>by omega) hb710.size))
  have hA11:=(hA.next hb10).fr hF11 (by omega)
  clear hky
  go_upto_block 2 with fail
  refine det_all w3 V gu syms C ⟨A.st,A.ini,A.fin,K.filter nz⟩ us io' ci' fo' cf' ro' nr' cr' vo' cv' hS w.heap.size RB O (gr+1) c (.slice (some ⟨gr,0,none⟩) 1 1) (.slice none 0 0) (.slice none 0 0) (.slice none 0 0) [g] ⟨[f],[]⟩ w11 (hb7.out.trans (hb711.out.mono hb7.out.size)) hX0
   ⟨Rw.lit1 hA11 (by omega) rfl,by have h:=Sbs.one (Rw.next hg7.out hb711.out:Sb w11 w3.heap.size g f); rw [hfl.out] at h; exact h,hmk⟩ ⟨hO7.out.next hb711.out,FO.nil _ _ _ _,FO.nil _ _ _ _,FO.nil _ _ _ _,fun g hg=>by cases hg⟩ rfl ⟨hGR,hRl3⟩ hOW (by have:=hb7.out.size; omega) hR.out _ _ _ _ _ _ _ _ _ _ _ _ _ _ _ _ _ _ _ _ _ _ _ _ _ _ _ _ _ _ _ _ _ _ _ _ _ _ _ _ _ _ _ _ _ _ _ _ _ _ _ _ _ _ _ _ _ _ _ _ _ _ _ _ _ _ _ _ _ _ _ _ _ _ _ _ _ _ _ _ _ _ _ _ _ _ _ _ _ _ _ _ _ _ _ _ _ _ _ _ _ _ _ _ _ _ _ _ _ _ _ _ _ _ _ _ _ _ _ _ _ _ _ _ _ _ _ _ _ _ _ _ _ _ _ _ _ _ _ _ _ _ _ _ _ _ _ _ _ _ _ _ _ _ _ _ _ _ _ _ _ _ _ _ _ _ _ _ _ _ _ _ _ _ _ _ _ _ _ _ _ _ _ _ _ _ _ _ _ _ _ _ _ _ _ _ _ _ _ _ _ _ _ _ _ _ _ _ _ _ _ _ _ _ _ _ _ _ _ _ _ _ _ _ _ _ _ _ _ _ _ _ _ _ _ _ _ _ _ _ _ _ _ _ _ (fun _ _ d _ _ h=>by cases d<;>exact h) ?_ ?_
  ·intro x3 Bc Be Bf Bh Bi Bj Bk Bm Bn Bo Bp Bq Br Bs Bt Bu Bv Bw Bx By Bz Ca Cb Cc Cd Ce Cf Cg Ch Ci Cj Ck Cl Cm Cn Co Cp Cq Cr Ct Cu Cv Cw Cx Cy Cz Da Db Dc Dd De Df Dg Dh Di Dj Dk Dl Dn Dp Dq Dr Dt Du Dv Dw Dx Dy Dz Ea Eb Ec Ed Ee Ef Eg Eh Ei Ej Ek El Em En Eo Ep Eq Er Es Et Eu Ev Ew Ex Ey Ez Fa Fb Fc Fd Fe Ff Fg Fh Fi Fj Fk Fm Fn Fo Fp Fq Fs Ft Fu Fv Fw Fx Fy Fz Ga Gb Gc Gd Ge Gf Gg Gh Gi Gj Gk Gl Gm Gn Go Gp Gq Gr Gs Gt Gu Gv Gw Gx Gy Gz Ha Hb Hc Hd He Hf Hg Hh Hi Hj Hk Hl Hm Hn Ho Hp Hq Hr Hs Ht Hu Hv Hw Hx Hy Hz Ia Y sv1 iv1 fv1 av1 gs1 w12 hrn hn64 hal hD12 hO12 hb12
   obtain ⟨sao,scap,rfl,hsrd⟩:=hD12.row.rd
   have hsb:=hsrd.bound
   obtain ⟨ai,ki,hiv⟩:=hO12.ini.form
   obtain ⟨af,kf,hfv⟩:=hO12.fin.form
   obtain ⟨aa,ka,hav⟩:=hO12.arcs.form
   subst hiv hfv hav
   simp only [List.length_map,iniK_len] at hO12
   have hdet:=hid (detP_run (syms:=syms) (us:=us) (A:=⟨A.st,A.ini,A.fin,K.filter nz⟩) hcF.out (by show runS (K.filter nz) us syms 66 0 ⟨[lowV (firstV us A.ini) c],[]⟩=_; rw [hF.out,hf.out]; exact hrn))
   obtain ⟨n,hn⟩:∃ n,Y.subs.length=n:=⟨_,rfl⟩
   obtain ⟨na,hna⟩:∃ na,Y.arcs.length=na:=⟨_,rfl⟩
   rw [hn] at hn64 hsb hO12 ⊢
   rw [hna] at hal hO12
   replace hn:=hid hn
   replace hna:=hid hna
   have y_3:=hO12.blk.cell (i:=3) rfl
   have y_3f:=hO12.blk.free 3
   have y_6:=hO12.blk.cell (i:=6) rfl
   have hO13:Bl O (auC syms n (.slice ai n ki) (.slice af n kf) (.slice aa na ka)) 30 (w12.setCell ⟨O,3,none⟩ (.int .i64 (n:Int))):=hO12.blk.put 3 (.int .i64 (n:Int))
   have hF13:Fr (fun k=>k=O) w12 (w12.setCell ⟨O,3,none⟩ (.int .i64 (n:Int))):=Fr.set (T:=fun k=>k=O) w12 (p:=⟨O,3,none⟩) rfl _
   have hc13:=hO13.cs
   have hR13:=(hR.out.next hb12).fr hF13 (fun e=>by omega)
   have i1:¬ (2048:Int)<(na:Int):=by omega
   have i1':decide ((2048:Int)<(na:Int))=false:=decide_eq_false i1
   have hMo:MoF w12 (O+1) ⟨n,iniK c n,Y.subs.map (endV A.fin),Y.arcs⟩ ai ki af kf aa na ka:=⟨hO12.ini,hO12.fin,hO12.arcs⟩
   have hMo13:=hid (hMo.fr hF13 (Nat.lt_succ_self _))
   have hbw12:=hid ((below_chain hbw3.out hb12).trans (hF13.below (B:=w.heap.size) (fun k e=>by subst e; omega) (by have:=hbw3.out.size; have:=hb12.size; omega)))
   replace hD12:=hid hD12
   replace hO12:=hid hO12
   replace hsrd:=hid hsrd
   replace hb12:=hid hb12
   replace hrn:=hid hrn
   go_wp2_with (first | ((with_reducible refine wp_loadAuto rfl _ rfl O 0 ?_ (auC syms n (.slice ai n ki) (.slice af n kf) (.slice aa na ka)) rfl hc13 ?_); exact rfl) | ((with_reducible refine wp_storeBAuto rfl _ _ rfl RB 30 _ hR13 ?_ (auC syms n (.slice ai n ki) (.slice af n kf) (.slice aa na ka)) rfl rfl ?_ (auC_1 _ _ _ _ _ _ _ _ _ _ _) ?_); exact rfl; exact rfl; intro w14 hR14 hfr14))
   exact bodyPost_ret (results_cellC rfl _ _ RB (auC syms n (.slice ai n ki) (.slice af n kf) (.slice aa na ka)) _ rfl hR14.cs Tryz.underlying30 rfl Tryz.sizeAuto) rfl ⟨K,us,hnf.out,hUs.out,hbw12.out.trans (hfr14.below (fun k e=>by subst e; exact hGR) hbw12.out.size),.inr ⟨⟨n,iniK c n,Y.subs.map (endV A.fin),Y.arcs⟩,ai,ki,af,kf,aa,na,ka,by have h:=hdet.out; rw [hn.out] at h; exact h,rfl,(hMo13.out.fr hfr14 (by omega)).mono (by omega)⟩⟩
  ·intro Bc Ib Be Bf Bh Bi Bj Bk Bm Bn Bo Bp Bq Br Bs Bt Bu Bv Bw Bx By Bz Ca Cb Cc Cd Ce Cf Cg Ch Ci Cj Ck Cl Cm Cn Co Cp Cq Cr Ct Cu Cv Cw Cx Cy Cz Da Db Dc Dd De Df Dg Dh Di Dj Dk Dl Dn Dp Dq Dr Dt Du Dv Dw Dx Dy Dz Ea Eb Ec Ed Ee Ef Eg Eh Ei Ej Ek El Em En Eo Ep Eq Er Es Et Eu Ev Ew Ex Ey Ez Fa Fb Fc Fd Fe Ff Fg Fh Fi Fj Fk Fm Fn Fo Fp Fq Fs Ft Fu Fv Fw Fx Fy Fz Ga Gb Gc Gd Ge Gf Gg Gh Gi Gj Gk Gl Gm Gn Go Gp Gq Gr Gs Gt Gu Gv Gw Gx Gy Gz Ha Hb Hc Hd He Hf Hg Hh Hi Hj Hk Hl Hm Hn Ho Hp Hq Hr Hs Ht Hu Hv Hw Hx Hy Hz Ia w12 hrn hR12 hb12
   exact bodyPost_ret (results_cellC rfl _ _ RB [.int .i64 0,.slice none 0 0,.int .i64 0,.int .i64 0,.slice none 0 0,.slice none 0 0,.slice none 0 0] _ rfl hR12.cs Tryz.underlying30 rfl Tryz.sizeAuto) rfl ⟨K,us,hnf.out,hUs.out,hbw3.out.trans hb12,.inl ⟨detP_stop hcF.out (by rw [hF.out,hf.out]; exact hrn),rfl⟩⟩
end
section
open Go.RowKit
theorem rsame0_any (w:World):Calls Tryz.prog 83 #[.slice none 0 0,.slice none 0 0] w fun e w'=>e=.returned (.bool true)∧w=w':=by
 go_enter Tryz.func83,Tryz.ntmps83
 go_wp2_with fail
 refine wp_loop_rounds 1 ?_
 rw [rounds_succ]
 go_wp2_with fail
 go_ret
 exact ⟨rfl,rfl⟩
theorem rSame0_any (w:World):Calls Tryz.prog 47 #[.agg #[.bool false,.slice none 0 0,.slice none 0 0],.agg #[.bool false,.slice none 0 0,.slice none 0 0]] w fun e w'=>e=.returned (.bool true)∧Below w.heap.size w w':=by
 have hb0:Below w.heap.size w ((w.alloc (.cells #[.bool false,.slice none 0 0,.slice none 0 0] 41)).alloc (.cells #[.bool false,.slice none 0 0,.slice none 0 0] 41)):=below_chain (below_alloc _) (below_alloc _)
 go_enter Tryz.func47,Tryz.ntmps47
 go_wp2_with fail
 refine (rsame0_any _).mono ?_; rintro e w1 ⟨rfl,rfl⟩
 go_wp2_with fail
 refine (rsame0_any _).mono ?_; rintro e w2 ⟨rfl,rfl⟩
 go_wp2_with fail
 go_ret
 exact ⟨rfl,hb0⟩
theorem r2same0_any (w:World):Calls Tryz.prog 48 #[.slice none 0 0,.slice none 0 0] w fun e w'=>e=.returned (.bool true)∧w=w':=by
 go_enter Tryz.func48,Tryz.ntmps48
 go_wp2_with fail
 refine wp_loop_rounds 1 ?_
 rw [rounds_succ]
 go_wp2_with fail
 go_ret
 exact ⟨rfl,rfl⟩
theorem rEqual0_any (c d:Nat) (i j:Bool) (w:World):Calls Tryz.prog 14 #[.agg #[.bool false,.slice none 0 0,.slice none 0 0,.int .i64 (c:Int),.bool i,.int .u64 0,.slice none 0 0,.slice none 0 0],.agg #[.bool false,.slice none 0 0,.slice none 0 0,.int .i64 (d:Int),.bool j,.int .u64 0,.slice none 0 0,.slice none 0 0]] w fun e w'=>e=.returned (.bool (decide (c=d∧i=j)))∧Below w.heap.size w w':=by
 obtain ⟨hb0,hA,hB⟩:=two_boxes w c d i j
 obtain ⟨⟨x0,x1,x2,x3⟩,x4,x5,x6,x7⟩:=hA.eight
 obtain ⟨⟨y0,y1,y2,y3⟩,y4,y5,y6,y7⟩:=hB.eight
 go_enter Tryz.func14,Tryz.ntmps14
 go_wp2_with fail
 refine (rSame0_any _).mono ?_; rintro e w1 ⟨rfl,hb1⟩
 clear x0 x1 x2 x3 x4 x5 x6 x7 y0 y1 y2 y3 y4 y5 y6 y7
 replace hA:=hA.next hb1
 replace hB:=hB.next hb1
 have hb:=below_chain hb0 hb1
 obtain ⟨⟨x0,x1,x2,x3⟩,x4,x5,x6,x7⟩:=hA.eight
 obtain ⟨⟨y0,y1,y2,y3⟩,y4,y5,y6,y7⟩:=hB.eight
 clear hb0 hb1 hA hB
 by_cases h:c=d
 ·subst h
  cases i<;>cases j
  case false.true | true.false =>
   go_wp2_with fail
   go_ret
   exact ⟨by simp,hb⟩
  all_goals
   go_wp2_with fail
   refine (r2same0_any _).mono ?_; rintro e w2 ⟨rfl,rfl⟩
   go_wp2_with fail
   refine wp_loop_rounds 1 ?_
   rw [rounds_succ]
   go_wp2_with fail
   go_ret
   exact ⟨by simp,hb⟩
 ·have c1:((c:Int)==(d:Int))=false:=by rw [beq_eq_false_iff_ne]; omega
  have c2:(c==d)=false:=by rw [beq_eq_false_iff_ne]; omega
  have c3:((c:Int) != (d:Int))=true:=by simp only [bne,c1]; rfl
  have c4:(c != d)=true:=by simp only [bne,c2]; rfl
  have hdd:Hid (decide (c=d∧i=j)=false):=hid (by simp [h])
  clear h
  go_wp2_with fail
  go_ret
  exact ⟨by rw [hdd.out]; rfl,hb⟩
theorem rEqual_any (v u:Tw) (w:World):Calls Tryz.prog 14 #[.agg #[.bool false,.slice none 0 0,.slice none 0 0,.int .i64 (tc (v):Int),.bool (ti (v)),.int .u64 0,.slice none 0 0,.slice none 0 0],.agg #[.bool false,.slice none 0 0,.slice none 0 0,.int .i64 (tc (u):Int),.bool (ti (u)),.int .u64 0,.slice none 0 0,.slice none 0 0]] w fun e w'=>e=.returned (.bool (decide (v=u)))∧Below w.heap.size w w' :=
 (rEqual0_any (tc v) (tc u) (ti v) (ti u) w).mono (by rintro e w' ⟨rfl,hb⟩; exact ⟨by rw [decide_eq_decide.2 ⟨fun h=>tw_ext h.1 h.2,fun h=>by rw [h]; exact ⟨rfl,rfl⟩⟩],hb⟩)
theorem rValid3_any (w:World):Calls Tryz.prog 49 #[.agg #[.int .i64 2,.slice none 0 0]] w fun e w'=>e=.returned (.bool true)∧Below w.heap.size w w':=by
 have hb0:Below w.heap.size w (w.alloc (.cells #[.int .i64 2,.slice none 0 0] 26)):=below_alloc _
 go_enter Tryz.func49,Tryz.ntmps49
 go_wp2_with fail
 go_ret
 exact ⟨rfl,hb0⟩
theorem rSimple0_any (c:Nat) (i:Bool) (hc:c≤1099511627776) (hi:i=true→c=0) (w:World):Calls Tryz.prog 84 #[.int .i64 2,.agg #[.bool false,.slice none 0 0,.slice none 0 0,.int .i64 (c:Int),.bool i,.int .u64 0,.slice none 0 0,.slice none 0 0]] w fun e w'=>e=.returned (.bool true)∧Below w.heap.size w w':=by
 have hb0:Below w.heap.size w (w.alloc (.cells #[.bool false,.slice none 0 0,.slice none 0 0,.int .i64 (c:Int),.bool i,.int .u64 0,.slice none 0 0,.slice none 0 0] 45)):=below_alloc _
 have hA:=Bl.fresh w [.bool false,.slice none 0 0,.slice none 0 0,.int .i64 (c:Int),.bool i,.int .u64 0,.slice none 0 0,.slice none 0 0] 45
 have c1:(0:Int)≤(c:Int):=by omega
 have c2:(c:Int)≤1099511627776:=by omega
 have c1':decide ((0:Int)≤(c:Int))=true:=decide_eq_true c1
 have c2':decide ((c:Int)≤1099511627776)=true:=decide_eq_true c2
 go_enter Tryz.func84,Tryz.ntmps84
 go_wp2_with fail
 refine (rSame0_any _).mono ?_; rintro e w1 ⟨rfl,hb1⟩
 replace hA:=hA.next hb1
 have hb:=below_chain hb0 hb1
 obtain ⟨⟨x0,x1,x2,x3⟩,x4,x5,x6,x7⟩:=hA.eight
 clear hb0 hb1 hA
 cases i with
 | false =>
  clear hi
  go_wp2_with fail
  go_ret
  exact ⟨rfl,hb⟩
 | true =>
  have hc0:=hi rfl
  subst hc0
  clear hi
  go_wp2_with fail
  go_ret
  exact ⟨rfl,hb⟩
theorem rCheck_any (v:Tw) (hv:TwOk v) (w:World):Calls Tryz.prog 53 #[.agg #[.int .i64 2,.slice none 0 0],.agg #[.bool false,.slice none 0 0,.slice none 0 0,.int .i64 (tc (v):Int),.bool (ti (v)),.int .u64 0,.slice none 0 0,.slice none 0 0]] w fun e w'=>e=.returned (.bool true)∧Below w.heap.size w w':=by
 obtain ⟨hb0,hA,hB⟩:=ring_box w (tc (v):Int) (ti (v))
 obtain ⟨r0,r1⟩:=hA.two
 go_enter Tryz.func53,Tryz.ntmps53
 go_wp2_with fail
 refine (rValid3_any _).mono ?_; rintro e w1 ⟨rfl,hb1⟩
 replace hA:=hA.next hb1
 replace hB:=hB.next hb1
 have hb:=below_chain hb0 hb1
 clear r0 r1
 obtain ⟨r0,r1⟩:=hA.two
 obtain ⟨⟨x0,x1,x2,x3⟩,x4,x5,x6,x7⟩:=hB.eight
 clear hb0 hb1 hA hB
 go_wp2_with fail
 refine (rSimple0_any (tc v) (ti v) hv (fun h=>ti_tc h) _).mono ?_; rintro e w2 ⟨rfl,hb2⟩
 go_wp2_with fail
 go_ret
 exact ⟨rfl,below_chain hb hb2⟩
end
end Go.Proofs.YtnapapijhhldpaaGreatDoor

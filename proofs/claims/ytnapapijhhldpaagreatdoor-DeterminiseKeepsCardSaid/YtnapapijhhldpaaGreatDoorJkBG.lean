/-
  Texts joined by program: Tsr, Tua, Tta. No condition of its own.
-/
import Derived.Test.YtnapapijhhldpaaGreatDoorJkBF
namespace Go.Proofs.YtnapapijhhldpaaGreatDoor
set_option linter.unusedSimpArgs false
set_option linter.unusedVariables false
set_option maxRecDepth 100000
set_option maxHeartbeats 4000000
section
open Go.RowKit
abbrev trm (A:Au) (K:List Ac) (E:Nat->Bool):Au:=q0w (usL E A.st) (nrm A K)
def z6s (syms:Nat) (A:Au) (w:World) (e:Ending) (w':World):Prop:=∃ (K:List Ac) (E:Nat->Bool),Nf K A.arcs/\UsE (nrm A K) E/\Below w.heap.size w w' /\
 ((q1v syms (List.replicate (trm A K E).st true) (trm A K E)=none/\e=.returned (.tuple #[.agg ([.int .i64 0,.slice none 0 0,.int .i64 0,.int .i64 0,.slice none 0 0,.slice none 0 0,.slice none 0 0]:List Value).toArray,.int .i64 2])) \/
 ∃ (B:Au) (v:Value),q1v syms (List.replicate (trm A K E).st true) (trm A K E)=some B/\e=.returned (.tuple #[v,.int .i64 0])/\q9k syms B w v w')
theorem j3y {S:Vx} {n:Nat} (h:S.length=n):jX (List.replicate n true) S=S:=by
 refine List.ext_getElem? fun i=>?_
 unfold jX
 rw [List.getElem?_zipWith,List.getElem?_replicate]
 by_cases hi:i<n
 ·rw [if_pos hi,List.getElem?_eq_getElem (by omega)]; rfl
 ·rw [if_neg hi,List.getElem?_eq_none (by omega)]
theorem z5b (us:List Bool):(q1y us).length<=us.length:=by
 unfold q1y; exact Nat.le_trans (List.length_filter_le _ _) (by simp)
theorem z4y {us:List Bool} {S:List Tw} {C:Nat} (h:∀ v∈S,tc v<=C):∀ v∈pr us S,tc v<=C:=fun v hv=>by
 obtain ⟨q,_,rfl⟩:=List.mem_map.1 hv
 rw [List.getD_eq_getElem?_getD]
 cases e:S[q]? with
 | none=>exact Nat.zero_le _
 | some v=>exact h v (List.mem_of_getElem? e)
theorem j8j {us:List Bool} {L:List Ac} {C:Nat} (hC:∀ x∈L,cst x<=C):∀ x∈zS us L,(x.1<(q1y us).length/\x.2.2.1<(q1y us).length)/\cst x<=C:=fun x hx=>by
 obtain ⟨y,hy,rfl⟩:=List.mem_map.1 hx
 obtain ⟨hy1,hy2⟩:=List.mem_filter.1 hy
 rw [Bool.and_eq_true] at hy2
 exact ⟨⟨z1i hy2.1,z1i hy2.2⟩,hC y hy1⟩
theorem FO.lit1 {e:TypeId} {k base g:Nat} {cs:List Value} {w:World} (h:Bl g cs e w) (hk:cs.length=k) (hb:base<=g):FO e k w base (.slice (some ⟨g,0,none⟩) 1 1) [cs] :=
 by subst hk; exact ⟨⟨by simp,.inr ⟨g,1,cs.toArray,rfl,hb,h,Nat.le_refl _,by simp [maxLen],by simp,by simp⟩⟩,fun c hc=>by rw [List.mem_singleton.1 hc]⟩
theorem j9d (syms C:Nat) (A:Au) (hV:Vo syms A) (hli:A.ini.length=A.st) (hlf:A.fin.length=A.st) (hL:Lw A) (hCs:(∀ x∈A.arcs,cst x<=C)/\(∀ v∈A.ini,tc v<=C)/\∀ v∈A.fin,tc v<=C) (hCC:C<=1048576) (io:OA) (ci:Nat) (fo:OA) (cf:Nat) (ro:OA) (nr cr:Nat) (w:World) (h:Mo w syms A io ci fo cf ro nr cr) :
  Calls Tryz.prog 8 #[.agg (auC syms A.st (.slice io A.st ci) (.slice fo A.st cf) (.slice ro nr cr)).toArray] w (z6s syms A w):=by
 have hb0:Below w.heap.size w ((w.alloc (.cells (auC syms A.st (.slice io A.st ci) (.slice fo A.st cf) (.slice ro nr cr)).toArray 30)).alloc (.cells #[.int .i64 0,.slice none 0 0,.int .i64 0,.int .i64 0,.slice none 0 0,.slice none 0 0,.slice none 0 0] 30)):=qQ (qJ _) (qJ _)
 have hG:=(Bl.fresh w (auC syms A.st (.slice io A.st ci) (.slice fo A.st cf) (.slice ro nr cr)) 30).new (.cells #[.int .i64 0,.slice none 0 0,.int .i64 0,.int .i64 0,.slice none 0 0,.slice none 0 0,.slice none 0 0] 30)
 have hR:=Bl.fresh' (G:=w.heap.size+1) (w.alloc (.cells (auC syms A.st (.slice io A.st ci) (.slice fo A.st cf) (.slice ro nr cr)).toArray 30)) [.int .i64 0,.slice none 0 0,.int .i64 0,.int .i64 0,.slice none 0 0,.slice none 0 0,.slice none 0 0] 30 (by simp)
 have hm:=hid (h.next hb0)
 clear h
 replace hli:=hid hli
 replace hlf:=hid hlf
 go_enter Tryz.func8,Tryz.ntmps8
 go_upto_region 1 with fail
 generalize hW0:((w.alloc (.cells (auC syms A.st (.slice io A.st ci) (.slice fo A.st cf) (.slice ro nr cr)).toArray 30)).alloc (.cells #[.int .i64 0,.slice none 0 0,.int .i64 0,.int .i64 0,.slice none 0 0,.slice none 0 0,.slice none 0 0] 30))=W0 at *
 have hRl0:=hR.lt
 have hGl0:=hG.lt
 clear hW0
 obtain ⟨RB,hRBe⟩:∃ RB,w.heap.size+1=RB:=⟨_,rfl⟩
 have hGR:w.heap.size<RB:=by omega
 rw [hRBe] at hR hRl0 ⊢
 clear hRBe
 have hGc:=hG.cs
 go_wp2_with ((with_reducible refine qM rfl _ rfl w.heap.size 0 ?_ (auC syms A.st (.slice io A.st ci) (.slice fo A.st cf) (.slice ro nr cr)) rfl hGc ?_); exact rfl)
 refine (j3f syms A hV hL io ci fo cf ro nr cr _ hm.out).mono ?_; rintro e w1 ⟨rfl,hb1⟩
 have hm1:=hid (hm.out.next hb1)
 have hG1:=hG.next hb1
 have hR1:=hR.next hb1
 have hb01:=hid (qQ hb0 hb1)
 clear hGc hG hR hb1 hb0
 have hGc:=hG1.cs
 go_wp2_with ((with_reducible refine qM rfl _ rfl w.heap.size 0 ?_ (auC syms A.st (.slice io A.st ci) (.slice fo A.st cf) (.slice ro nr cr)) rfl hGc ?_); exact rfl)
 refine (j5q syms A hV io ci fo cf ro nr cr _ hm1.out).mono ?_; rintro e w2 ⟨v,K,E,rfl,hK,hE,io',ci',fo',cf',ro',nr',cr',rfl,hMo,hb2⟩
 have hG2:=hG1.next hb2
 have hR2:=hR1.next hb2
 have hb02:=hid (qQ hb01.out hb2)
 have hMo0:MoF w2 0 (trm A K E) io' ci' fo' cf' ro' nr' cr':=hMo.mono (Nat.zero_le _)
 clear hGc hG1 hR1 hb2 hMo
 have hus:(usL E A.st).length=A.st:=q4d _ _
 have hTst:(trm A K E).st<=64:=Nat.le_trans (z5b _) (by rw [hus]; exact hV.st)
 have hcst:∀ x∈K.filter nz,cst x<=C:=fun x hx=>by
  obtain ⟨⟨z,hz,_,hw⟩,_⟩:=hK.2.1 x (List.mem_filter.1 hx).1
  have:=hCs.1 z hz
  unfold cst at *
  rw [<-hw]; exact this
 have harc:∀ x∈(trm A K E).arcs,(x.1<(trm A K E).st/\x.2.2.1<(trm A K E).st)/\cst x<=C:=j8j hcst
 have hTl:nr'<=4096:=by
  have h0:=j2c hMo0.arcs
  simp only [List.length_map] at h0
  have h1:=q5z hK (fun z hz=>(hV.arcs z hz))
  have h2:=List.length_filter_le nz K
  have h3:=hV.num
  have h4:(trm A K E).arcs.length<=(K.filter nz).length:=by
   show (zS _ _).length<=_
   unfold zS; rw [List.length_map]; exact List.length_filter_le _ _
  omega
 have hTi:(trm A K E).ini.length=(trm A K E).st:=q3l _ _
 have hTf:(trm A K E).fin.length=(trm A K E).st:=q3l _ _
 have hTc:(∀ x∈(trm A K E).arcs,cst x<=C)/\(∀ v∈(trm A K E).ini,tc v<=C)/\∀ v∈(trm A K E).fin,tc v<=C:=⟨fun x hx=>(harc x hx).2,z4y hCs.2.1,z4y hCs.2.2⟩
 obtain ⟨TT,hTT⟩:∃ TT,trm A K E=TT:=⟨_,rfl⟩
 have hres:Hid (∀ (e:Ending) (w':World),Below w.heap.size w w'->((q1v syms (List.replicate TT.st true) TT=none/\e=.returned (.tuple #[.agg ([.int .i64 0,.slice none 0 0,.int .i64 0,.int .i64 0,.slice none 0 0,.slice none 0 0,.slice none 0 0]:List Value).toArray,.int .i64 2])) \/
 ∃ (B:Au) (v:Value),q1v syms (List.replicate TT.st true) TT=some B/\e=.returned (.tuple #[v,.int .i64 0])/\q9k syms B w v w')->z6s syms A w e w'):=hid (fun e w' hb ho=>⟨K,E,hK,hE,hb,by rw [hTT]; exact ho⟩)
 rw [hTT] at hMo0 hTst harc hTi hTf hTc
 simp only [show (nrm A K).st=A.st from rfl,show q0w (usL E A.st) (nrm A K)=TT from hTT]
 clear hK hE hTT hcst hus
 replace harc:=hid harc
 replace hTi:=hid hTi
 replace hTf:=hid hTf
 replace hTc:=hid hTc
 have hsy:=hV.sym.2
 have hbX:Below w2.heap.size w2 (w2.alloc (.cells (auC syms TT.st (.slice io' TT.st ci') (.slice fo' TT.st cf') (.slice ro' nr' cr')).toArray 30)):=qJ _
 have hX:=Bl.fresh w2 (auC syms TT.st (.slice io' TT.st ci') (.slice fo' TT.st cf') (.slice ro' nr' cr')) 30
 go_upto_region 5 with ((with_reducible refine zQ rfl _ _ rfl _ _ ?_ (auC syms TT.st (.slice io' TT.st ci') (.slice fo' TT.st cf') (.slice ro' nr' cr')) ?_ ?_ ?_ (kV _ _ _ _ _ _ _ _ _ _ _) ?_); exact rfl; exact rfl; exact rfl; exact rfl)
 have hG3:=hG2.next hbX
 have hR3:=hid (hR2.next hbX)
 have hb03:=hid (qQ hb02.out hbX)
 have hM3:=hid (hMo0.next hbX)
 have hVl:=hX.lt
 have hRl2:=hR2.lt
 obtain ⟨V,hVe⟩:∃ V,w2.heap.size=V:=⟨_,rfl⟩
 rw [hVe] at hX hVl hRl2 ⊢
 generalize hW2:(w2.alloc (.cells (auC syms TT.st (.slice io' TT.st ci') (.slice fo' TT.st cf') (.slice ro' nr' cr')).toArray 30))=W2 at *
 clear hW2 hVe hbX hMo0 hG2 hR2
 have hS:Hid (Rta W2 V syms C TT io' ci' fo' cf' ro' nr' cr'):=hid ⟨hM3.out.mo syms,hX,hTst,hTl,fun x hx=>(harc.out x hx).1,hTc.out,hCC,hsy⟩
 clear hX
 obtain ⟨⟨x0,x1,x2,x3⟩,x4,x5,x6⟩:=hG3.seven
 have hbO:Below W2.heap.size W2 (W2.alloc (.cells (auC syms 0 (.slice none 0 0) (.slice none 0 0) (.slice none 0 0)).toArray 30)):=qJ _
 have hO4:=Bl.fresh W2 (auC syms 0 (.slice none 0 0) (.slice none 0 0) (.slice none 0 0)) 30
 go_upto_region 6 with ((with_reducible refine kS rfl 30 _ _ rfl _ _ ?_ (auC syms 0 (.slice none 0 0) (.slice none 0 0) (.slice none 0 0)) ?_ ?_ ?_ ?_ ?_); exact rfl; exact rfl; exact rfl; exact kV _ _ _ _ _ _ _ _ _ _ _; exact Tryz.sizeAuto)
 clear x0 x1 x2 x3 x4 x5 x6
 have hRl3:RB<W2.heap.size:=Nat.lt_trans hRl2 hVl
 have hO4l:=hO4.lt
 have y3:=(hS.out.next hbO).vw.cell (i:=3) rfl
 obtain ⟨O,hOe⟩:∃ O,W2.heap.size=O:=⟨_,rfl⟩
 have hOW:W2.heap.size<=O:=Nat.le_of_eq hOe
 rw [hOe] at hO4 hO4l ⊢
 generalize hW4:(W2.alloc (.cells (auC syms 0 (.slice none 0 0) (.slice none 0 0) (.slice none 0 0)).toArray 30))=W4 at *
 clear hW4
 replace hOe:=hid hOe
 replace hG3:=hid hG3
 go_wp2_with fail
 refine (q8d TT.st hTst W4).mono ?_; rintro e w5 ⟨⟨g,rfl,hg5⟩,hb5⟩
 have hglt:=(hg5.lt).1
 have hO5:=hid (hO4.next hb5)
 have hb5':=hid (qQ hbO hb5)
 have hOg:O<W4.heap.size:=hO4l
 replace hg5:=hid hg5
 clear y3 hO4 hb5 hbO
 go_upto_block 0 with fail
 refine j8y W2 V syms C TT io' ci' fo' cf' ro' nr' cr' hS W4.heap.size g hTi w5 hb5'.out (by omega) hg5.out (fun _ _ d _ _ h=>by cases d<;>exact h) ?_
 intro x9 Aa Ab Ad Ae Af Ag Ah Ak Al Am An Ao Ap Aq Ar As Av Aw Ax Ay Az w6 hg6 hf6
 have hb6:=hid (hb5'.out.trans (hf6.below (fun q e=>by subst e; omega) hb5'.out.size))
 have hO6:=hid (hO5.out.fr hf6 (fun e=>by omega))
 have hFB:Bd C TT.ini:=fun r hr=>hTc.out.2.1 _ hr
 replace hf6:=hid hf6
 clear hg5
 go_upto_region 12 with fail
 refine z2h W4.heap.size g TT.st TT.ini hTi.out hTst (hFB.mono (by omega)) w6 hg6 (fun _ _ d _ _ h=>by cases d<;>exact h) ?_
 intro Ba Bb Bc Be Bf Bh Y sv rv w7 hY7 hYw hSq7 hb7
 have hb7':=hid (qQ hb6.out hb7)
 have hO7:=hid (hO6.out.next hb7)
 have hR7:=hid (hR3.out.next hb7'.out)
 have hbw7:=hid (qQ hb03.out hb7'.out)
 have hY7:=hid hY7
 have hSq7:=hid hSq7
 have hO6l:=hO6.out.lt
 have hOl7:=hO7.out.lt
 replace hb7:=hid hb7
 clear hg6
 have hall:jX (List.replicate TT.st true) TT.ini=TT.ini:=j3y hTi.out
 cases hlS:qG TT.ini with
 | none =>
  have hdet:=hid (q9b (syms:=syms) (us:=List.replicate TT.st true) (A:=TT) (by rw [hall]; exact hlS))
  have hO7c:=hO7.out.cs
  replace hlS:=hid hlS
  unfold oV
  rw [zP]
  clear hSq7 hall
  go_wp2_with (first | ((with_reducible refine qM rfl _ rfl O 0 ?_ (auC syms 0 (.slice none 0 0) (.slice none 0 0) (.slice none 0 0)) rfl hO7c ?_); exact rfl) | ((with_reducible refine jG rfl _ _ rfl RB 30 _ hR7.out ?_ (auC syms 0 (.slice none 0 0) (.slice none 0 0) (.slice none 0 0)) rfl rfl ?_ (kV _ _ _ _ _ _ _ _ _ _ _) ?_); exact rfl; exact rfl; intro w9 hR9 hfr9))
  have hb9:=hbw7.out.trans (hfr9.below (fun k e=>by subst e; exact Nat.le_of_lt hGR) hbw7.out.size)
  exact bodyPost_ret (jY rfl _ _ RB (auC syms 0 (.slice none 0 0) (.slice none 0 0) (.slice none 0 0)) _ rfl hR9.cs Tryz.underlying30 rfl Tryz.sizeAuto) rfl (hres.out _ _ hb9 (.inr ⟨⟨0,[],[],[]⟩,_,hdet.out,rfl,none,0,none,0,none,0,0,rfl,⟨FO.nil _ _ _ _,FO.nil _ _ _ _,FO.nil _ _ _ _⟩,hb9⟩))
 | some c =>
  rw [hlS] at hSq7
  obtain ⟨f,hf⟩:∃ f,vR TT.ini c=f:=⟨_,rfl⟩
  have hSq7:Hid (Sq w7 w6.heap.size sv rv (sup f)):=hid (by rw [<-hf]; exact hSq7.out)
  have hfl:f.length=TT.st:=by rw [<-hf,vZ]; exact hTi.out
  have hfB:Bd C f:=by rw [<-hf]; exact q9h hFB
  have hcF:qG (jX (List.replicate TT.st true) TT.ini)=some c:=by rw [hall]; exact hlS
  have hff:vR (jX (List.replicate TT.st true) TT.ini) c=f:=by rw [hall]; exact hf
  have hX0:Hid (Dok TT.st C 0 ⟨[f],[]⟩):=hid ⟨fun v hv=>by rw [List.mem_singleton.1 hv]; exact hfl,by simp,fun i v hi=>by
   cases i with
   | zero=>simp at hi; subst hi; simpa using hfB
   | succ i=>simp at hi,fun x hx=>by simp at hx⟩
  have hcC:c<=C:=hFB c (zZ hlS)
  replace hcF:=hid hcF
  replace hff:=hid hff
  replace hlS:=hid hlS
  replace hf:=hid hf
  obtain ⟨so,sc,rfl⟩:=hSq7.out.sts.form
  obtain ⟨uo,uc,rfl⟩:=hSq7.out.rst.form
  simp only [List.length_map] at hSq7 hY7
  have y0:=hY7.out.cell (i:=0) rfl
  have y1:=hY7.out.cell (i:=1) rfl
  obtain ⟨p1,hp1⟩:∃ p1,Value.slice so (sup f).length sc=p1:=⟨_,rfl⟩
  obtain ⟨p2,hp2⟩:∃ p2,Value.slice uo (sup f).length uc=p2:=⟨_,rfl⟩
  have hone1:p1.oneCell'=true:=by rw [<-hp1]; rfl
  have hone2:p2.oneCell'=true:=by rw [<-hp2]; rfl
  rw [hp1] at y0 hSq7
  rw [hp2] at y1 hSq7
  have z4:=hO7.out.cell (i:=4) rfl
  have z4f:=hO7.out.free 4
  have hlit:Hid ((#[.bool false,.slice none 0 0,.slice none 0 0,.int .i64 (c:Int),.bool false,.int .u64 0,.slice none 0 0,.slice none 0 0]:Array Value)=(twC (some c)).toArray):=hid rfl
  obtain ⟨W8,hW8⟩:∃ W8,w7.setCell ⟨O,4,none⟩ (.slice (some ⟨w7.heap.size+1,0,none⟩) 1 1)=W8:=⟨_,rfl⟩
  have hO8:Bl O (auC syms 0 (.slice (some ⟨w7.heap.size+1,0,none⟩) 1 1) (.slice none 0 0) (.slice none 0 0)) 30 W8:=by rw [<-hW8]; exact hO7.out.put 4 _
  have hF8:Fr (fun k=>k=O) w7 W8:=by rw [<-hW8]; exact Fr.set (T:=fun k=>k=O) _ (p:=⟨O,4,none⟩) rfl _
  have hs8:W8.heap.size=w7.heap.size:=by rw [<-hW8]; simp
  have hb8:Below W2.heap.size w7 W8:=hF8.below (fun q e=>by subst e; exact hOW) (by have:=hb7'.out.size; omega)
  have hbL:Below W8.heap.size W8 (W8.alloc (.cells #[p1,p2] 84)):=qJ _
  have hLb:=Bl.fresh' (G:=w7.heap.size) W8 [p1,p2] 84 hs8
  have hbI:=qQ hbL (qJ (w:=W8.alloc (.cells #[p1,p2] 84)) (.cells (twC (some c)).toArray 45))
  have hLb9:=hid (hLb.new (.cells (twC (some c)).toArray 45))
  have hIb9:=hid (Bl.fresh' (G:=w7.heap.size+1) (W8.alloc (.cells #[p1,p2] 84)) (twC (some c)) 45 (by simp [hs8]))
  have hO9:=hid (hO8.next hbI)
  have hSq9:=hid (((hSq7.out.fr hF8 (fun g hg e=>by have:=(hSq7.out.sts.lt hg).1; omega) (fun g hg e=>by have:=(hSq7.out.rst.lt hg).1; omega)).next hbI).mono (show O+1<=w6.heap.size by omega))
  have hb9:=hid ((hb7'.out.trans hb8).trans (hbI.mono (by rw [hs8]; exact hb7'.out.size)))
  replace hW8:=hid hW8
  replace hF8:=hid hF8
  replace hLb:=hid hLb
  unfold oV
  rw [zN]
  clear hall hO8 hbL hfB hbI hb8
  go_upto_block 2 with fail
  rw [hlit.out,hW8.out]
  refine z4v W2 V syms C TT io' ci' fo' cf' ro' nr' cr' hS io ci fo cf ro nr cr A.st w.heap.size hG3.out w.heap.size RB O c (.slice (some ⟨w7.heap.size,0,none⟩) 1 1) (.slice (some ⟨w7.heap.size+1,0,none⟩) 1 1) (.slice none 0 0) (.slice none 0 0) [(p1,p2)] ⟨[f],[]⟩ _ hb9.out hX0 hTf.out
   ⟨FO.lit1 hLb9.out rfl (by omega),rfl,fun i S p hS hp=>by
    cases i with
    | zero=>simp at hS hp; subst hS hp; exact hSq9.out
    | succ i=>simp at hS⟩ ⟨hO9.out,FO.lit1 hIb9.out rfl (by omega),FO.nil _ _ _ _,FO.nil _ _ _ _,fun g hg e=>by cases e⟩ rfl ⟨Nat.le_of_lt hGR,hRl3⟩ hOW hR3.out _ _ _ _ _ _ _ _ _ _ _ _ _ _ _ _ _ _ _ _ _ _ _ _ _ _ _ _ _ _ _ _ _ _ _ _ _ _ _ _ _ _ _ _ _ _ _ _ _ _ _ _ _ _ _ _ _ _ _ _ _ _ _ _ _ _ _ _ _ _ _ _ _ _ _ _ _ _ _ _ _ _ _ _ _ _ _ _ _ _ _ _ _ _ _ _ _ _ _ _ _ _ _ _ _ _ _ _ _ _ _ _ _ _ _ _ _ _ _ _ _ _ _ _ _ _ _ _ _ _ _ _ _ _ _ _ _ _ _ _ _ _ _ _ _ _ _ _ _ _ _ _ _ _ _ _ _ _ _ _ _ _ _ _ _ _ _ _ _ _ _ _ _ _ _ _ _ _ _ _ _ _ _ _ _ _ _ _ _ _ _ _ _ _ _ _ _ _ _ _ _ _ _ _ _ _ _ _ _ _ _ _ _ _ _ _ _ _ _ _ _ _ _ _ _ _ _ _ _ _ _ _ _ _ _ _ _ _ _ _ _ _ _ _ _ _ _ _ _ _ _ _ _ _ _ _ _ _ _ _ _ _ _ _ _ _ _ _ _ _ _ _ _ _ _ _ _ _ _ _ _ _ _ _ _ _ _ _ _ _ _ _ _ _ _ _ _ _ _ _ _ _ _ _ _ _ (fun _ _ d _ _ h=>by cases d<;>exact h) ?_ ?_
  ·intro x3 Bi Bj Bk Bm Bn Bo Bp Bq Br Bs Bt Bu Bv Bw Bx By Bz Ca Cb Cc Cd Ce Cf Cg Ch Ci Cj Ck Cl Cm Cn Co Cp Cq Cr Ct Cu Cv Cw Cx Cy Cz Da Db Dc Dd De Df Dg Dh Di Dj Dk Dl Dn Dp Dq Dr Dt Du Dv Dw Dx Dy Dz Ea Eb Ec Ed Ee Ef Eg Eh Ei Ej Ek El Em En Eo Ep Eq Er Es Et Eu Ev Ew Ex Ey Ez Fa Fb Fc Fd Fe Ff Fg Fh Fi Fj Fk Fm Fn Fo Fp Fq Fs Ft Fu Fv Fw Fx Fy Fz Ga Gb Gc Gd Ge Gf Gg Gh Gi Gj Gk Gl Gm Gn Go Gp Gq Gr Gs Gt Gu Gv Gw Gx Gy Gz Ha Hb Hc Hd He Hf Hg Hh Hi Hj Hk Hl Hm Hn Ho Hp Hq Hr Hs Ht Hu Hv Hw Hx Hy Hz Ia Ib Ic Id Ie Ig Ih Ii Ij Ik Il Im Io Ip Iq Ir It Iu Iv Iw Ix Iy Iz Ja Jb Jc Jd Je Jf Jg Jh Ji Jj Jk Jl Jm Jn Jo Jp Jq Jr Js Jt Ju Jv Jw Jx Jy Jz Ka Kb Kc Kd Ke Kf Kg Kh Ki Kj Kk Kl Km Kn Ko Kp Kq Kr Ks Kt Ku Kv Z lv' iv' fv' av' vs' w12 hrn hn64 hal hL12 hO12 hb12
   obtain ⟨lo',lc',hlv⟩:=hL12.row.form
   rw [List.length_map,hL12.num] at hlv
   subst hlv
   obtain ⟨ai,ki,hiv⟩:=hO12.ini.form
   obtain ⟨af,kf,hfv⟩:=hO12.fin.form
   obtain ⟨aa,ka,hav⟩:=hO12.arcs.form
   subst hiv hfv hav
   simp only [List.length_map,q3x] at hO12
   have hdet:=hid (j2i (syms:=syms) (us:=List.replicate TT.st true) (A:=TT) hcF.out (by rw [hff.out]; exact hrn))
   obtain ⟨n,hn⟩:∃ n,Z.subs.length=n:=⟨_,rfl⟩
   obtain ⟨na,hna⟩:∃ na,Z.arcs.length=na:=⟨_,rfl⟩
   rw [hn] at hn64 hO12 ⊢
   rw [hna] at hal hO12
   replace hn:=hid hn
   replace hna:=hid hna
   have y_3:=hO12.blk.cell (i:=3) rfl
   have y_3f:=hO12.blk.free 3
   have hO13:Bl O (auC syms n (.slice ai n ki) (.slice af n kf) (.slice aa na ka)) 30 (w12.setCell ⟨O,3,none⟩ (.int .i64 (n:Int))):=hO12.blk.put 3 (.int .i64 (n:Int))
   have hF13:Fr (fun k=>k=O) w12 (w12.setCell ⟨O,3,none⟩ (.int .i64 (n:Int))):=Fr.set (T:=fun k=>k=O) w12 (p:=⟨O,3,none⟩) rfl _
   have hc13:=hO13.cs
   have hR13:=(hR3.out.next hb12).fr hF13 (fun e=>by omega)
   have hMo:MoF w12 (O+1) ⟨n,q1s c n,Z.subs.map (q0i TT.fin),Z.arcs⟩ ai ki af kf aa na ka:=⟨hO12.ini,hO12.fin,hO12.arcs⟩
   have hMo13:=hid (hMo.fr hF13 (Nat.lt_succ_self _))
   have hbw12:=hid ((qQ hb03.out hb12).trans (hF13.below (B:=w.heap.size) (fun k e=>by subst e; omega) (by have:=hb03.out.size; have:=hb12.size; omega)))
   replace hL12:=hid hL12
   replace hO12:=hid hO12
   replace hb12:=hid hb12
   replace hrn:=hid hrn
   go_wp2_with (first | ((with_reducible refine qM rfl _ rfl O 0 ?_ (auC syms n (.slice ai n ki) (.slice af n kf) (.slice aa na ka)) rfl hc13 ?_); exact rfl) | ((with_reducible refine jG rfl _ _ rfl RB 30 _ hR13 ?_ (auC syms n (.slice ai n ki) (.slice af n kf) (.slice aa na ka)) rfl rfl ?_ (kV _ _ _ _ _ _ _ _ _ _ _) ?_); exact rfl; exact rfl; intro w14 hR14 hfr14))
   have hb14:=hbw12.out.trans (hfr14.below (fun k e=>by subst e; exact Nat.le_of_lt hGR) hbw12.out.size)
   exact bodyPost_ret (jY rfl _ _ RB (auC syms n (.slice ai n ki) (.slice af n kf) (.slice aa na ka)) _ rfl hR14.cs Tryz.underlying30 rfl Tryz.sizeAuto) rfl (hres.out _ _ hb14 (.inr ⟨⟨n,q1s c n,Z.subs.map (q0i TT.fin),Z.arcs⟩,_,by have h:=hdet.out; rw [hn.out] at h; exact h,rfl,ai,ki,af,kf,aa,na,ka,rfl,(hMo13.out.fr hfr14 (by omega)).mono (by omega),hb14⟩))
  ·intro Kw Bi Bj Bk Bm Bn Bo Bp Bq Br Bs Bt Bu Bv Bw Bx By Bz Ca Cb Cc Cd Ce Cf Cg Ch Ci Cj Ck Cl Cm Cn Co Cp Cq Cr Ct Cu Cv Cw Cx Cy Cz Da Db Dc Dd De Df Dg Dh Di Dj Dk Dl Dn Dp Dq Dr Dt Du Dv Dw Dx Dy Dz Ea Eb Ec Ed Ee Ef Eg Eh Ei Ej Ek El Em En Eo Ep Eq Er Es Et Eu Ev Ew Ex Ey Ez Fa Fb Fc Fd Fe Ff Fg Fh Fi Fj Fk Fm Fn Fo Fp Fq Fs Ft Fu Fv Fw Fx Fy Fz Ga Gb Gc Gd Ge Gf Gg Gh Gi Gj Gk Gl Gm Gn Go Gp Gq Gr Gs Gt Gu Gv Gw Gx Gy Gz Ha Hb Hc Hd He Hf Hg Hh Hi Hj Hk Hl Hm Hn Ho Hp Hq Hr Hs Ht Hu Hv Hw Hx Hy Hz Ia Ib Ic Id Ie Ig Ih Ii Ij Ik Il Im Io Ip Iq Ir It Iu Iv Iw Ix Iy Iz Ja Jb Jc Jd Je Jf Jg Jh Ji Jj Jk Jl Jm Jn Jo Jp Jq Jr Js Jt Ju Jv Jw Jx Jy Jz Ka Kb Kc Kd Ke Kf Kg Kh Ki Kj Kk Kl Km Kn Ko Kp Kq Kr Ks Kt Ku Kv w12 hrn hR12 hb12
   exact bodyPost_ret (jY rfl _ _ RB [.int .i64 0,.slice none 0 0,.int .i64 0,.int .i64 0,.slice none 0 0,.slice none 0 0,.slice none 0 0] _ rfl hR12.cs Tryz.underlying30 rfl Tryz.sizeAuto) rfl (hres.out _ _ (hb03.out.trans hb12) (.inl ⟨q9a hcF.out (by rw [hff.out]; exact hrn),rfl⟩))
end
section
open Go.RowKit
def A0:Au:=⟨3,[some 0,none,none],[none,some 1,some 0],[(0,1,1,some 2),(0,1,2,some 5)]⟩
def B0:Au:=⟨2,[some 0,none],[none,some 1],[(0,1,1,some 2)]⟩
theorem j9q:Ss A0.arcs:=by
 unfold A0
 refine ⟨fun y hy=>?_,fun y hy=>(by cases hy),trivial⟩
 rw [List.mem_singleton.1 hy]
 exact .inr ⟨rfl,.inr ⟨rfl,by decide⟩⟩
theorem j9p:q6j [true,true,true] A0:=by
 have h0:q0y A0.arcs A0.fin 1:=.here (c:=1) rfl
 have h2:q0y A0.arcs A0.fin 2:=.here (c:=0) rfl
 have h1:q0y A0.arcs A0.fin 0:=.step (x:=(0,1,1,some 2)) (by simp [A0]) h0
 have f0:kY A0.arcs A0.ini 0:=.here (c:=0) rfl
 have f1:kY A0.arcs A0.ini 1:=.step (x:=(0,1,1,some 2)) (by simp [A0]) f0
 have f2:kY A0.arcs A0.ini 2:=.step (x:=(0,1,2,some 5)) (by simp [A0]) f0
 refine ⟨rfl,fun q hq=>?_⟩
 have hq3:q<3:=hq
 rcases (show q=0\/q=1\/q=2 by omega) with rfl | rfl | rfl
 ·exact ⟨fun _=>⟨f0,h1⟩,fun _=>rfl⟩
 ·exact ⟨fun _=>⟨f1,h0⟩,fun _=>rfl⟩
 ·exact ⟨fun _=>⟨f2,h2⟩,fun _=>rfl⟩
theorem j6m:q1v 1 [true,true,true] A0=some B0:=by rfl
theorem q8k {K:List Ac} {us:List Bool} (hK:Nf K A0.arcs) (hu:q6j us ⟨A0.st,A0.ini,A0.fin,K.filter nz⟩):q1v 1 us ⟨A0.st,A0.ini,A0.fin,K.filter nz⟩=some B0:=by
 obtain rfl:=hK.unique (Nf.self j9q)
 have hf:A0.arcs.filter nz=A0.arcs:=rfl
 rw [hf] at hu ⊢
 rw [hu.unique j9p]
 exact j6m
theorem FO.lits {e:TypeId} {k base g n:Nat} {css:List (List Value)} {w:World} (h:Bl g css.flatten e w) (hk:∀ cs∈css,cs.length=k) (hn:css.length=n) (hb:base<=g) (hm:n<=maxLen):FO e k w base (.slice (some ⟨g,0,none⟩) n n) css:=by
 subst hn
 have hl:=vS hk
 exact ⟨⟨hl,.inr ⟨g,css.length,css.flatten.toArray,rfl,hb,h,Nat.le_refl _,hm,by simp [hl],by rw [List.take_of_length_le (by simp [hl])]⟩⟩,hk⟩
theorem q8l (w:World) (hp:Pow w):Calls Tryz.prog 9 #[] w fun e w'=>e=.returned (.bool true)/\Below w.heap.size w w':=by
 obtain ⟨g0,h0⟩:∃ g,w.heap.size=g:=⟨_,rfl⟩
 have hB0:=Bl.fresh' (G:=g0) w (twC none) 45 h0
 have b0:Below w.heap.size w (w.alloc (.cells (twC none).toArray 45)):=qJ _
 obtain ⟨w1,h1⟩:∃ z,w.alloc (.cells (twC none).toArray 45)=z:=⟨_,rfl⟩
 rw [h1] at hB0 b0
 have s1:w1.heap.size=g0+1:=by rw [<-h1,<-h0]; simp
 have hc0:=hB0.cs
 go_enter Tryz.func9,Tryz.ntmps9
 go_upto_region 2 with ((with_reducible refine zR rfl _ _ rfl _ _ ?_ none ?_ ?_ ?_); exact rfl; exact rfl; exact rfl)
 rw [show w.alloc (.cells #[.bool false,.slice none 0 0,.slice none 0 0,.int .i64 0,.bool true,.int .u64 0,.slice none 0 0,.slice none 0 0] 45)=w1 from h1]
 have hp1:=hid (hp.next b0)
 have b0:=hid b0
 clear h1 hp h0
 obtain ⟨w2,ew2⟩:∃ z,w1.alloc (.cells #[.bool false,.slice none 0 0,.slice none 0 0,.int .i64 0,.bool false,.int .u64 0,.slice none 0 0,.slice none 0 0,.bool false,.slice none 0 0,.slice none 0 0,.int .i64 (tc none:Int),.bool (ti none),.int .u64 0,.slice none 0 0,.slice none 0 0,.bool false,.slice none 0 0,.slice none 0 0,.int .i64 (tc none:Int),.bool (ti none),.int .u64 0,.slice none 0 0,.slice none 0 0] 45)=z:=⟨_,rfl⟩
 have hI:Bl (g0+1) (A0.ini.map twC).flatten 45 w2:=by rw [<-ew2]; exact Bl.fresh' (G:=g0+1) w1 (A0.ini.map twC).flatten 45 s1
 have sw2:w2.heap.size=g0+1+1:=by rw [<-ew2]; simp [s1]
 have bw2:Below w1.heap.size w1 w2:=by rw [<-ew2]; exact qJ _
 obtain ⟨w3,ew3⟩:∃ z,w2.alloc (.cells #[.bool false,.slice none 0 0,.slice none 0 0,.int .i64 (tc none:Int),.bool (ti none),.int .u64 0,.slice none 0 0,.slice none 0 0,.bool false,.slice none 0 0,.slice none 0 0,.int .i64 1,.bool false,.int .u64 0,.slice none 0 0,.slice none 0 0,.bool false,.slice none 0 0,.slice none 0 0,.int .i64 0,.bool false,.int .u64 0,.slice none 0 0,.slice none 0 0] 45)=z:=⟨_,rfl⟩
 have hF:Bl (g0+1+1) (A0.fin.map twC).flatten 45 w3:=by rw [<-ew3]; exact Bl.fresh' (G:=g0+1+1) w2 (A0.fin.map twC).flatten 45 sw2
 have sw3:w3.heap.size=g0+1+1+1:=by rw [<-ew3]; simp [sw2]
 have bw3:Below w2.heap.size w2 w3:=by rw [<-ew3]; exact qJ _
 obtain ⟨w4,ew4⟩:∃ z,w3.alloc (.cells #[.int .i64 0,.int .i64 1,.int .i64 1,.bool false,.slice none 0 0,.slice none 0 0,.int .i64 2,.bool false,.int .u64 0,.slice none 0 0,.slice none 0 0,.int .i64 0,.int .i64 1,.int .i64 2,.bool false,.slice none 0 0,.slice none 0 0,.int .i64 5,.bool false,.int .u64 0,.slice none 0 0,.slice none 0 0] 54)=z:=⟨_,rfl⟩
 have hA:Bl (g0+1+1+1) (A0.arcs.map acC).flatten 54 w4:=by rw [<-ew4]; exact Bl.fresh' (G:=g0+1+1+1) w3 (A0.arcs.map acC).flatten 54 sw3
 have sw4:w4.heap.size=g0+1+1+1+1:=by rw [<-ew4]; simp [sw3]
 have bw4:Below w3.heap.size w3 w4:=by rw [<-ew4]; exact qJ _
 obtain ⟨w5,ew5⟩:∃ z,w4.alloc (.cells #[.int .i64 2,.slice none 0 0,.int .i64 1,.int .i64 3,.slice (some ⟨g0+1,0,none⟩) 3 3,.slice (some ⟨g0+1+1,0,none⟩) 3 3,.slice (some ⟨g0+1+1+1,0,none⟩) 2 2] 30)=z:=⟨_,rfl⟩
 have hV:Bl (g0+1+1+1+1) (auC 1 3 (.slice (some ⟨g0+1,0,none⟩) 3 3) (.slice (some ⟨g0+1+1,0,none⟩) 3 3) (.slice (some ⟨g0+1+1+1,0,none⟩) 2 2)) 30 w5:=by rw [<-ew5]; exact Bl.fresh' (G:=g0+1+1+1+1) w4 (auC 1 3 (.slice (some ⟨g0+1,0,none⟩) 3 3) (.slice (some ⟨g0+1+1,0,none⟩) 3 3) (.slice (some ⟨g0+1+1+1,0,none⟩) 2 2)) 30 sw4
 have sw5:w5.heap.size=g0+1+1+1+1+1:=by rw [<-ew5]; simp [sw4]
 have bw5:Below w4.heap.size w4 w5:=by rw [<-ew5]; exact qJ _
 have hI5:=hid (((hI.next bw3).next bw4).next bw5)
 have hF5:=hid ((hF.next bw4).next bw5)
 have hA5:=hid (hA.next bw5)
 have hV5:=hid hV
 have b15:=hid (qQ (qQ (qQ bw2 bw3) bw4) bw5)
 have ee:=hid (And.intro ew2 (And.intro ew3 (And.intro ew4 ew5)))
 have sz:=hid (And.intro sw2 (And.intro sw3 (And.intro sw4 sw5)))
 clear hI hF hA hV bw2 bw3 bw4 bw5 ew2 ew3 ew4 ew5 sw2 sw3 sw4 sw5 hB0
 go_upto_region 3 with (first | ((with_reducible refine jB rfl _ rfl g0 0 ?_ none hc0 ?_); exact rfl) | ((with_reducible refine jB rfl _ rfl g0 0 ?_ none (hc0.next (qJ _)) ?_); exact rfl) | ((with_reducible refine zQ rfl _ _ rfl _ _ ?_ (auC 1 3 (.slice (some ⟨g0+1,0,none⟩) 3 3) (.slice (some ⟨g0+1+1,0,none⟩) 3 3) (.slice (some ⟨g0+1+1+1,0,none⟩) 2 2)) ?_ ?_ ?_ (kV _ _ _ _ _ _ _ _ _ _ _) ?_); exact rfl; exact rfl; exact rfl; exact rfl))
 obtain ⟨ew2,ew3,ew4,ew5⟩:=ee.out
 rw [ew2,ew3,ew4,ew5]
 clear ew2 ew3 ew4 ew5 ee
 have hMo:Mo w5 1 A0 (some ⟨g0+1,0,none⟩) 3 (some ⟨g0+1+1,0,none⟩) 3 (some ⟨g0+1+1+1,0,none⟩) 2 2 :=
  ⟨kG (FO.lits (e:=45) (base:=0) hI5.out (zH _) rfl (Nat.zero_le _) (by decide)) rfl,kG (FO.lits (e:=45) (base:=0) hF5.out (zH _) rfl (Nat.zero_le _) (by decide)) rfl,kG (FO.lits (e:=54) (base:=0) hA5.out (vU _) rfl (Nat.zero_le _) (by decide)) rfl⟩
 have hVo:Vo 1 A0:=⟨by decide,by decide,by decide,by simp [A0,vW,tc],by simp [A0,vW,tc],by simp [A0,q9l,vW,tc,wt]⟩
 have hLw:Lw A0:=by unfold Lw; decide
 have hdet:=hid (j7n 1 5 A0 hVo (.inl (by decide)) rfl rfl hLw (by decide) (by decide) _ _ _ _ _ _ _ w5 hMo (hp1.out.next b15.out))
 have hV5c:=hV5.out.cs
 clear hMo hVo hLw
 go_wp2_with ((with_reducible refine qM rfl _ rfl (g0+1+1+1+1) 0 ?_ (auC 1 3 (.slice (some ⟨g0+1,0,none⟩) 3 3) (.slice (some ⟨g0+1+1,0,none⟩) 3 3) (.slice (some ⟨g0+1+1+1,0,none⟩) 2 2)) rfl hV5c ?_); exact rfl)
 refine hdet.out.mono ?_; rintro e w6 ⟨K,us,hK,hu,hb6,hout⟩
 rcases hout with ⟨hno,_⟩ | ⟨B,io,ci,fo,cf,ro,nr,cr,hB,rfl,hMo⟩
 ·rw [q8k hK hu] at hno; cases hno
 ·rw [q8k hK hu] at hB
  cases hB
  have hbw:=hid (qQ (qQ b0.out b15.out) hb6)
  have hMo6:=hid (hMo.mo 1)
  clear hdet hK hu hb6 hMo hV5c
  have hbX:Below w6.heap.size w6 (w6.alloc (.cells (auC 1 B0.st (.slice io B0.st ci) (.slice fo B0.st cf) (.slice ro nr cr)).toArray 30)):=qJ _
  have hX:=Bl.fresh w6 (auC 1 B0.st (.slice io B0.st ci) (.slice fo B0.st cf) (.slice ro nr cr)) 30
  have hnr:nr=1:=by have h:=hMo6.out.arcs.len; simpa [B0] using h.symm
  subst hnr
  have hM7:=hMo6.out.next hbX
  obtain ⟨x,hx,ba,oa,hra,hca⟩:=hM7.arcs.get (i:=0) (by decide)
  have hx0:x=(0,1,1,some 2):=by have h:=hx; simp [B0] at h; exact h.symm
  subst hx0 hra
  obtain ⟨y,hy,bf,of,hrf,hcf⟩:=hM7.fin.get (i:=1) (by decide)
  have hy0:y=some 1:=by have h:=hy; simp [B0] at h; exact h.symm
  subst hy0 hrf
  have q1:=hca 6 _ rfl
  have q2:=hcf 3 _ rfl
  have q3:=hcf 4 _ rfl
  have hB2:B0.st=2:=rfl
  rw [hB2] at hX hbX hca hcf q1 q2 q3
  simp only [hB2]
  have x3:=hX.cell (i:=3) rfl
  have x5:=hX.cell (i:=5) rfl
  have x6:=hX.cell (i:=6) rfl
  have hbw7:=hid (qQ hbw.out hbX)
  clear hca hcf hM7 hx hy hMo6
  go_wp2_with ((with_reducible refine zQ rfl _ _ rfl _ _ ?_ (auC 1 2 (.slice io 2 ci) (.slice (some ⟨bf,of,none⟩) 2 cf) (.slice (some ⟨ba,oa,none⟩) 1 cr)) ?_ ?_ ?_ (kV _ _ _ _ _ _ _ _ _ _ _) ?_); exact rfl; exact rfl; exact rfl; exact rfl)
  go_ret
  exact ⟨rfl,hbw7.out⟩
end
section
open Go.RowKit
noncomputable def wXB (n:Nat):Code:=(Tryz.f6.body.bind (q3p n)).getD .skip
noncomputable def wR (n:Nat):Code:=(Tryz.f6.body.bind (q3e n)).getD .skip
structure Ta (w:World) (T:Nat) (lo:OA) (n cap:Nat):Prop where
 ex:∃ a,a<=n/\Tp T lo n cap a w
 lst:TpL T lo n cap w
 big:n<=9223372036854775807
theorem Ta.lt {w:World} {T n cap:Nat} {lo:OA} (h:Ta w T lo n cap):T<w.heap.size:=by obtain ⟨a,_,h1⟩:=h.ex; exact h1.lt
theorem Ta.next {w w':World} {T n cap:Nat} {lo:OA} (h:Ta w T lo n cap) (hb:Below w.heap.size w w'):Ta w' T lo n cap:=by
 obtain ⟨a,h1,h2⟩:=h.ex
 exact ⟨⟨a,h1,h2.next hb⟩,h.lst.fr hb (Nat.le_of_lt h.lt),h.big⟩
theorem Ta.fr {w w':World} {T n cap:Nat} {lo:OA} {K:Nat->Prop} (h:Ta w T lo n cap) (hf:Fr K w w') (hK:∀ k,K k->T<k):Ta w' T lo n cap:=by
 obtain ⟨a,h1,h2⟩:=h.ex
 exact ⟨⟨a,h1,h2.fr hf (fun e=>by have:=hK _ e; omega)⟩,h.lst.fr (hf.below (fun k e=>Nat.le_of_lt (hK k e)) (Nat.le_of_lt h.lt)) (Nat.le_refl _),h.big⟩
theorem Ta.to {w w':World} {T n cap b:Nat} {lo:OA} (h:Ta w T lo n cap) (hf:Fr (fun k=>k=T) w w') (h1:Tp T lo n cap b w') (h2:b<=n):Ta w' T lo n cap :=
 ⟨⟨b,h2,h1⟩,h.lst.fr (hf.below (fun k e=>by subst e; exact Nat.le_refl _) (Nat.le_of_lt h.lt)) (Nat.le_refl _),h.big⟩
theorem zU (T:Nat) (lo:OA) (n cap:Nat) (m:Int) (h1:1<=m) (h2:m<=1000000) (w:World) (h:Ta w T lo n cap) :
  Calls Tryz.prog 21 #[.pointer (some ⟨T,0,none⟩),.int .i64 m] w fun e w'=>∃ r:Nat,e=.returned (.int .i64 (r:Int))/\(r:Int)<m/\Ta w' T lo n cap/\Fr (fun k=>k=T) w w':=by
 obtain ⟨a,ha,hT⟩:=h.ex
 refine (q6y T lo n cap a m h1 h2 w hT h.lst ha h.big).mono ?_
 rintro e w' ⟨r,b,rfl,hr,hT',hb,_,hf⟩
 exact ⟨r,rfl,hr,h.to hf hT' hb,hf⟩
theorem vX (T:Nat) (lo:OA) (n cap:Nat) (w:World) (h:Ta w T lo n cap) :
  Calls Tryz.prog 20 #[.int .i64 2,.pointer (some ⟨T,0,none⟩)] w fun e w'=>∃ v:Tw,e=.returned (.agg (twC v).toArray)/\tc v<=5/\Ta w' T lo n cap/\Fr (fun k=>k=T) w w':=by
 obtain ⟨a,ha,hT⟩:=h.ex
 refine (q9p T lo n cap a w hT h.lst ha h.big).mono ?_
 rintro e w' ⟨c,i,b,rfl,hc,hi,h1,h2,h3⟩
 cases i with
 | true =>
  obtain rfl:=hi rfl
  exact ⟨none,rfl,Nat.zero_le _,h.to h3 h1 h2,h3⟩
 | false=>exact ⟨some c,rfl,hc,h.to h3 h1 h2,h3⟩
theorem z5r (T:Nat) (lo:OA) (n cap:Nat) (PB s:Nat) (kst ksy:Int) (fw sg:Bool) (w:World) (hP:Bl PB [.int .i64 kst,.int .i64 ksy,.bool fw,.bool sg,.slice lo n cap] 24 w) (hTa:Ta w T lo n cap) (hPT:PB<T)
  {c0 c1 c2 c4 c5 c6 c8 Aa Ab Ad Ae Af Ag Ah Ak Al Am An Ao Ap Aq Ar As Av Aw Ax Ay Az Ba Bb Bc Be Bf Bh Bi Bj Bk Bm Bn Bo Bp Bq Br Bs Bt Bu Bv Bw Bx By Bz Ca Cb Cc Cd Ce Cf Cg Ch Ci Cj Ck Cl Cm Cn Co Cp Cq Cr Ct Cu Cv Cw Cx Cy Cz Da Db Dc Dd De Df Dg Dh Di Dj Dk Dl Dn Dp Dq Dr Dt Du Dv Dw Dx Dy Dz Ea Eb Ec Ed Ee Ef Eg Eh Ei Ej Ek El Em En Eo Ep Eq Er Es Et Eu Ev Ew Ex Ey Ez Fa Fb Fc Fd Fe Ff Fg Fh Fi Fj Fk Fm Fn Fo Fp Fq Fs Ft Fu Fv Fw Fx Fy Fz Ga Gb Gc Gd Ge Gf Gg Gh Gi Gj Gk Gl Gm Gn Go Gp Gq Gr Gs Gt Gu Gv Gw Gx Gy Gz Ha Hb Hc Hd He Hf Hg:Value} {Q0:EP} (hpan:∀ c (a:Act) d v w,Q0 (.panic c) (a.put d v) w->Q0 (.panic c) a w)
  (hexit:∀ (Hh Hi Hj Hk Hl Hm Hn Ho Hp Hq Hr Hs Ht Hu:Value) (b:Bool) (w':World),(sg=true->b=false->s=0)->Ta w' T lo n cap->Fr (fun k=>k=T) w w'->Q0 .normal ⟨#[c0,c1,c2,.pointer (some ⟨PB,0,none⟩),c4,c5,c6,.pointer (some ⟨T,0,none⟩),c8,.int .i64 (s:Int),Aa,Ab,Ad,Ae,Af,Ag,Ah,Ak,Al,Am,An,Ao,Ap,Aq,Ar,As,Av,Aw,Ax,Ay,Az,Ba,Bb,Bc,Be,Bf,Bh,Bi,Bj,Bk,Bm,Bn,Bo,Bp,Hh,Hi,Hj,Hk,Hl,Hm,Hn,Ho,Hp,Hq,Hr,Hs,Ht,Hu,.bool b,Cf,Cg,Ch,Ci,Cj,Ck,Cl,Cm,Cn,Co,Cp,Cq,Cr,Ct,Cu,Cv,Cw,Cx,Cy,Cz,Da,Db,Dc,Dd,De,Df,Dg,Dh,Di,Dj,Dk,Dl,Dn,Dp,Dq,Dr,Dt,Du,Dv,Dw,Dx,Dy,Dz,Ea,Eb,Ec,Ed,Ee,Ef,Eg,Eh,Ei,Ej,Ek,El,Em,En,Eo,Ep,Eq,Er,Es,Et,Eu,Ev,Ew,Ex,Ey,Ez,Fa,Fb,Fc,Fd,Fe,Ff,Fg,Fh,Fi,Fj,Fk,Fm,Fn,Fo,Fp,Fq,Fs,Ft,Fu,Fv,Fw,Fx,Fy,Fz,Ga,Gb,Gc,Gd,Ge,Gf,Gg,Gh,Gi,Gj,Gk,Gl,Gm,Gn,Go,Gp,Gq,Gr,Gs,Gt,Gu,Gv,Gw,Gx,Gy,Gz,Ha,Hb,Hc,Hd,He,Hf,Hg],[]⟩ w') :
  Code.wp Tryz.prog (wR 7) Q0 ⟨#[c0,c1,c2,.pointer (some ⟨PB,0,none⟩),c4,c5,c6,.pointer (some ⟨T,0,none⟩),c8,.int .i64 (s:Int),Aa,Ab,Ad,Ae,Af,Ag,Ah,Ak,Al,Am,An,Ao,Ap,Aq,Ar,As,Av,Aw,Ax,Ay,Az,Ba,Bb,Bc,Be,Bf,Bh,Bi,Bj,Bk,Bm,Bn,Bo,Bp,Bq,Br,Bs,Bt,Bu,Bv,Bw,Bx,By,Bz,Ca,Cb,Cc,Cd,Ce,Cf,Cg,Ch,Ci,Cj,Ck,Cl,Cm,Cn,Co,Cp,Cq,Cr,Ct,Cu,Cv,Cw,Cx,Cy,Cz,Da,Db,Dc,Dd,De,Df,Dg,Dh,Di,Dj,Dk,Dl,Dn,Dp,Dq,Dr,Dt,Du,Dv,Dw,Dx,Dy,Dz,Ea,Eb,Ec,Ed,Ee,Ef,Eg,Eh,Ei,Ej,Ek,El,Em,En,Eo,Ep,Eq,Er,Es,Et,Eu,Ev,Ew,Ex,Ey,Ez,Fa,Fb,Fc,Fd,Fe,Ff,Fg,Fh,Fi,Fj,Fk,Fm,Fn,Fo,Fp,Fq,Fs,Ft,Fu,Fv,Fw,Fx,Fy,Fz,Ga,Gb,Gc,Gd,Ge,Gf,Gg,Gh,Gi,Gj,Gk,Gl,Gm,Gn,Go,Gp,Gq,Gr,Gs,Gt,Gu,Gv,Gw,Gx,Gy,Gz,Ha,Hb,Hc,Hd,He,Hf,Hg],[]⟩ w:=by
 conv=>arg 2; whnf
 obtain ⟨q0,q1⟩:(Bl PB [.int .i64 kst,.int .i64 ksy,.bool fw,.bool sg,.slice lo n cap] 24 w)/\True:=⟨hP,trivial⟩
 have hexit:=hid hexit
 have hP:=hid hP
 go_wp2_with fail
 refine (zU T lo n cap 2 (by omega) (by omega) w hTa).mono ?_; rintro e w1 ⟨r,rfl,hr,hT1,hf1⟩
 have y3:=(hP.out.fr hf1 (fun e=>by omega)).cell (i:=3) rfl
 have hT1:=hid hT1
 have hf1:=hid hf1
 clear q0 q1
 rcases (show r=0\/r=1 by omega) with hr0 | hr0
 ·have k1:((r:Int)==0)=true:=by rw [beq_iff_eq]; omega
  have k1':(r:Int)=0:=by omega
  clear hr0
  cases s with
  | zero =>
   have k2:¬ (0:Int)<((0:Nat):Int):=by omega
   cases sg with
   | true =>
    go_wp2_with fail
    exact hexit.out _ _ _ _ _ _ _ _ _ _ _ _ _ _ false w1 (by first | exact fun _ _=>rfl | simp) hT1.out hf1.out
   | false =>
    go_wp2_with fail
    exact hexit.out _ _ _ _ _ _ _ _ _ _ _ _ _ _ false w1 (fun h=>by cases h) hT1.out hf1.out
  | succ m =>
   have k2:(0:Int)<((m+1:Nat):Int):=by omega
   have k2':(0:Int)<(m:Int)+1:=by omega
   go_wp2_with fail
   exact hexit.out _ _ _ _ _ _ _ _ _ _ _ _ _ _ true w1 (fun _ h=>by cases h) hT1.out hf1.out
 ·have k1:((r:Int)==0)=false:=by rw [beq_eq_false_iff_ne]; omega
  have k1':¬ (r:Int)=0:=by omega
  have k1'':¬ r=0:=by omega
  clear hr0
  cases sg with
  | true =>
   cases s with
   | zero =>
    have k2:¬ (0:Int)<((0:Nat):Int):=by omega
    go_wp2_with fail
    exact hexit.out _ _ _ _ _ _ _ _ _ _ _ _ _ _ false w1 (by first | exact fun _ _=>rfl | simp) hT1.out hf1.out
   | succ m =>
    have k2:(0:Int)<((m+1:Nat):Int):=by omega
    have k2':(0:Int)<(m:Int)+1:=by omega
    go_wp2_with fail
    exact hexit.out _ _ _ _ _ _ _ _ _ _ _ _ _ _ true w1 (fun _ h=>by cases h) hT1.out hf1.out
  | false =>
   go_wp2_with fail
   exact hexit.out _ _ _ _ _ _ _ _ _ _ _ _ _ _ false w1 (fun h=>by cases h) hT1.out hf1.out
theorem z1l (T:Nat) (lo:OA) (n cap:Nat) (O s st:Nat) (w:World) (hO:w.cell? ⟨O,3,none⟩=some (.int .i64 (st:Int))) (hst:st<=64) (hTa:Ta w T lo n cap) (hTO:T<O)
  {c0 c1 c2 c3 c4 c5 c6 Aa Ab Ad Ae Af Ag Ah Ak Al Am An Ao Ap Aq Ar As Av Aw Ax Ay Az Ba Bb Bc Be Bf Bh Bi Bj Bk Bm Bn Bo Bp Bq Br Bs Bt Bu Bv Bw Bx By Bz Ca Cb Cc Cd Ce Cf Cg Ch Ci Cj Ck Cl Cm Cn Co Cp Cq Cr Ct Cu Cv Cw Cx Cy Cz Da Db Dc Dd De Df Dg Dh Di Dj Dk Dl Dn Dp Dq Dr Dt Du Dv Dw Dx Dy Dz Ea Eb Ec Ed Ee Ef Eg Eh Ei Ej Ek El Em En Eo Ep Eq Er Es Et Eu Ev Ew Ex Ey Ez Fa Fb Fc Fd Fe Ff Fg Fh Fi Fj Fk Fm Fn Fo Fp Fq Fs Ft Fu Fv Fw Fx Fy Fz Ga Gb Gc Gd Ge Gf Gg Gh Gi Gj Gk Gl Gm Gn Go Gp Gq Gr Gs Gt Gu Gv Gw Gx Gy Gz Ha Hb Hc Hd He Hf Hg:Value} {Q0:EP} (hpan:∀ c (a:Act) d v w,Q0 (.panic c) (a.put d v) w->Q0 (.panic c) a w)
  (hexit:∀ (Hh Hi Hj Hk Hl Hm Hn Ho Hp:Value) (b:Bool) (w':World),Ta w' T lo n cap->Fr (fun k=>k=T) w w'->Q0 .normal ⟨#[c0,c1,c2,c3,c4,c5,c6,.pointer (some ⟨T,0,none⟩),.pointer (some ⟨O,0,none⟩),.int .i64 (s:Int),Aa,Ab,Ad,Ae,Af,Ag,Ah,Ak,Al,Am,An,Ao,Ap,Aq,Ar,As,Av,Aw,Ax,Ay,Az,Ba,Bb,Bc,Be,Bf,Bh,Bi,Bj,Bk,Bm,Bn,Bo,Bp,Bq,Br,Bs,Bt,Bu,Bv,Bw,Bx,By,Bz,Ca,Cb,Cc,Cd,Ce,Cf,Cg,Ch,Hh,Hi,Hj,Hk,Hl,Hm,Hn,Ho,Hp,.bool b,Ct,Cu,Cv,Cw,Cx,Cy,Cz,Da,Db,Dc,Dd,De,Df,Dg,Dh,Di,Dj,Dk,Dl,Dn,Dp,Dq,Dr,Dt,Du,Dv,Dw,Dx,Dy,Dz,Ea,Eb,Ec,Ed,Ee,Ef,Eg,Eh,Ei,Ej,Ek,El,Em,En,Eo,Ep,Eq,Er,Es,Et,Eu,Ev,Ew,Ex,Ey,Ez,Fa,Fb,Fc,Fd,Fe,Ff,Fg,Fh,Fi,Fj,Fk,Fm,Fn,Fo,Fp,Fq,Fs,Ft,Fu,Fv,Fw,Fx,Fy,Fz,Ga,Gb,Gc,Gd,Ge,Gf,Gg,Gh,Gi,Gj,Gk,Gl,Gm,Gn,Go,Gp,Gq,Gr,Gs,Gt,Gu,Gv,Gw,Gx,Gy,Gz,Ha,Hb,Hc,Hd,He,Hf,Hg],[]⟩ w') :
  Code.wp Tryz.prog (wR 9) Q0 ⟨#[c0,c1,c2,c3,c4,c5,c6,.pointer (some ⟨T,0,none⟩),.pointer (some ⟨O,0,none⟩),.int .i64 (s:Int),Aa,Ab,Ad,Ae,Af,Ag,Ah,Ak,Al,Am,An,Ao,Ap,Aq,Ar,As,Av,Aw,Ax,Ay,Az,Ba,Bb,Bc,Be,Bf,Bh,Bi,Bj,Bk,Bm,Bn,Bo,Bp,Bq,Br,Bs,Bt,Bu,Bv,Bw,Bx,By,Bz,Ca,Cb,Cc,Cd,Ce,Cf,Cg,Ch,Ci,Cj,Ck,Cl,Cm,Cn,Co,Cp,Cq,Cr,Ct,Cu,Cv,Cw,Cx,Cy,Cz,Da,Db,Dc,Dd,De,Df,Dg,Dh,Di,Dj,Dk,Dl,Dn,Dp,Dq,Dr,Dt,Du,Dv,Dw,Dx,Dy,Dz,Ea,Eb,Ec,Ed,Ee,Ef,Eg,Eh,Ei,Ej,Ek,El,Em,En,Eo,Ep,Eq,Er,Es,Et,Eu,Ev,Ew,Ex,Ey,Ez,Fa,Fb,Fc,Fd,Fe,Ff,Fg,Fh,Fi,Fj,Fk,Fm,Fn,Fo,Fp,Fq,Fs,Ft,Fu,Fv,Fw,Fx,Fy,Fz,Ga,Gb,Gc,Gd,Ge,Gf,Gg,Gh,Gi,Gj,Gk,Gl,Gm,Gn,Go,Gp,Gq,Gr,Gs,Gt,Gu,Gv,Gw,Gx,Gy,Gz,Ha,Hb,Hc,Hd,He,Hf,Hg],[]⟩ w:=by
 conv=>arg 2; whnf
 have hexit:=hid hexit
 go_wp2_with fail
 refine (zU T lo n cap 2 (by omega) (by omega) w hTa).mono ?_; rintro e w1 ⟨r,rfl,hr,hT1,hf1⟩
 have y3:=hf1.cell hO (fun e=>by omega)
 have hT1:=hid hT1
 have hf1:=hid hf1
 have hO:=hid hO
 rcases (show r=0\/r=1 by omega) with hr0 | hr0
 ·have k1:((r:Int)==0)=true:=by rw [beq_iff_eq]; omega
  have k1':(r:Int)=0:=by omega
  clear hr0
  go_wp2_with fail
  exact hexit.out _ _ _ _ _ _ _ _ _ _ w1 hT1.out hf1.out
 ·have k1:((r:Int)==0)=false:=by rw [beq_eq_false_iff_ne]; omega
  have k1':¬ (r:Int)=0:=by omega
  have k1'':¬ r=0:=by omega
  clear hr0
  go_wp2_with fail
  exact hexit.out _ _ _ _ _ _ _ _ _ false w1 hT1.out hf1.out
end
end Go.Proofs.YtnapapijhhldpaaGreatDoor

/-
  Texts joined by program: Twu, Twv. No condition of its own.
-/
import Derived.Test.YtnapapijhhldpaaGreatDoorJtAI
namespace Go.Proofs.YtnapapijhhldpaaGreatDoor
set_option linter.unusedSimpArgs false
set_option linter.unusedVariables false
set_option maxRecDepth 100000
set_option maxHeartbeats 4000000
section
open Go.RowKit
theorem insI_any (g n cap base:Nat) (xs:List Ac) (hu:UpA xs) (hn:n<=4096) (a b:Nat) (A B:Int) (hA:(a:Int)=A) (hB:(b:Int)=B) (hab:a<=b) (hbn:b<=n) (w:World) (h:FO 54 11 w base (.slice (some ⟨g,0,none⟩) n cap) (xs.map acC)) (hbase:base<=w.heap.size) :
  Calls Tryz.prog 293 #[.slice (some ⟨g,0,none⟩) n cap,.int .i64 A,.int .i64 B,.func (.func 170) #[] #[]] w fun e w'=>e=.returned (.tuple #[])/\FO 54 11 w' base (.slice (some ⟨g,0,none⟩) n cap) (xs.map acC)/\Below base w w':=by
 subst hA hB
 exact (insertS_any base g n cap a b xs w h hn hab hbn hu).mono fun e w' ⟨h1,h2⟩=>⟨h1,h.next h2,h2.mono hbase⟩
theorem symI_any (g n cap base:Nat) (xs:List Ac) (hu:UpA xs) (hn:n<=4096) (a m b:Nat) (A M B:Int) (hA:(a:Int)=A) (hM:(m:Int)=M) (hB:(b:Int)=B) (h1:a<m) (h2:m<b) (hbn:b<=n) (w:World) (h:FO 54 11 w base (.slice (some ⟨g,0,none⟩) n cap) (xs.map acC)) (hbase:base<=w.heap.size) :
  Calls Tryz.prog 294 #[.slice (some ⟨g,0,none⟩) n cap,.int .i64 A,.int .i64 M,.int .i64 B,.func (.func 170) #[] #[]] w fun e w'=>e=.returned (.tuple #[])/\FO 54 11 w' base (.slice (some ⟨g,0,none⟩) n cap) (xs.map acC)/\Below base w w':=by
 subst hA hM hB
 exact (symS_any xs hu g n cap hn _ a m b (Nat.le_refl _) h1 h2 hbn w h.flS).mono fun e w' ⟨h1,h2⟩=>⟨h1,h.next h2,h2.mono hbase⟩
theorem stableS_any (base g n cap:Nat) (xs:List Ac) (hu:UpA xs) (hn:n<=4096) (w:World) (hbase:base<=w.heap.size) (h:FO 54 11 w base (.slice (some ⟨g,0,none⟩) n cap) (xs.map acC)) :
  Calls Tryz.prog 244 #[.slice (some ⟨g,0,none⟩) n cap,.int .i64 (n:Int),.func (.func 170) #[] #[]] w fun e w'=>e=.returned (.tuple #[])/\FO 54 11 w' base (.slice (some ⟨g,0,none⟩) n cap) (xs.map acC)/\Below base w w':=by
 have hins:=hid (insI_any g n cap base xs hu hn)
 have hsym:=hid (symI_any g n cap base xs hu hn)
 have hu:=hid hu
 have hh:=hid h
 clear h
 go_enter Tryz.func244,Tryz.ntmps244
 go_wp2_with fail
 go_loopw [7,8] (fun av bv wr=>(∃ a:Nat,a<=n/\av=.int .i64 (a:Int)/\bv=.int .i64 ((a:Int)+20))/\Hid (FO 54 11 wr base (.slice (some ⟨g,0,none⟩) n cap) (xs.map acC))/\Below base w wr) (fun av _ _=>n-(intOf av).toNat)
 case atStart=>exact ⟨⟨0,by omega,rfl,rfl⟩,hh,Below.refl _ _⟩
 case round =>
  obtain ⟨⟨a,ha,rfl,rfl⟩,hf,hb⟩:=hrel
  by_cases hlt:a+20<=n
  ·have k1:(a:Int)+20<=(n:Int):=by omega
   go_wp2_with fail
   refine (hins.out a (a+20) _ _ rfl (by omega) (by omega) hlt _ hf.out (Nat.le_trans hbase hb.size)).mono ?_; rintro e w1 ⟨rfl,hf1,hb1⟩
   have hf1:=hid hf1
   go_wp2_with fail
   go_roundw
   case rel=>exact ⟨⟨a+20,by omega,by go_num,by go_num⟩,hf1,hb.trans hb1⟩
   case measure=>simp [intOf]; omega
  ·have k1:¬ (a:Int)+20<=(n:Int):=by omega
   go_wp2_with fail
   refine (hins.out a n _ _ rfl rfl ha (Nat.le_refl _) _ hf.out (Nat.le_trans hbase hb.size)).mono ?_; rintro e w1 ⟨rfl,hf1,hb1⟩
   have hf1:=hid hf1
   have hb1:=hb.trans hb1
   clear hf hb
   go_wp2_with fail
   go_loopw [6] (fun sv wr=>(∃ s:Nat,20<=s/\s<=8192/\sv=.int .i64 (s:Int))/\Hid (FO 54 11 wr base (.slice (some ⟨g,0,none⟩) n cap) (xs.map acC))/\Below base w wr) (fun sv _=>n-(intOf sv).toNat)
   case atStart=>exact ⟨⟨20,by omega,by omega,rfl⟩,hf1,hb1⟩
   case round =>
    obtain ⟨⟨s,hs1,hs2,rfl⟩,hf,hb⟩:=hrel
    by_cases hlt2:s<n
    ·have k2:(s:Int)<(n:Int):=by omega
     obtain ⟨wo,rfl⟩:∃ wo:World,wo=wr:=⟨_,rfl⟩
     go_wp2_with fail
     go_loopw [7,8] (fun av bv wr=>(∃ a:Nat,a<=n/\av=.int .i64 (a:Int)/\bv=.int .i64 ((a:Int)+2*(s:Int)))/\Hid (FO 54 11 wr base (.slice (some ⟨g,0,none⟩) n cap) (xs.map acC))/\Below base w wr) (fun av _ _=>n-(intOf av).toNat)
     case atStart=>exact ⟨⟨0,by omega,rfl,by first | rfl | exact congrArg (Value.int .i64) (by omega)⟩,hf,hb⟩
     case round =>
      obtain ⟨⟨a',ha',rfl,rfl⟩,hf,hb⟩:=hrel
      by_cases hlt3:a'+2*s<=n
      ·have k3:(a':Int)+2*(s:Int)<=(n:Int):=by omega
       go_wp2_with fail
       refine (hsym.out a' (a'+s) (a'+2*s) _ _ _ rfl (by omega) (by omega) (by omega) (by omega) hlt3 _ hf.out (Nat.le_trans hbase hb.size)).mono ?_; rintro e w1 ⟨rfl,hf1,hb1⟩
       have hf1:=hid hf1
       go_wp2_with fail
       go_roundw
       case rel=>exact ⟨⟨a'+2*s,by omega,by first | go_num | exact congrArg (Value.int .i64) (by omega),by first | go_num | exact congrArg (Value.int .i64) (by omega)⟩,hf1,hb.trans hb1⟩
       case measure=>simp [intOf]; omega
      ·have k3:¬ (a':Int)+2*(s:Int)<=(n:Int):=by omega
       by_cases hlt4:a'+s<n
       ·have k4:(a':Int)+(s:Int)<(n:Int):=by omega
        go_wp2_with fail
        refine (hsym.out a' (a'+s) n _ _ _ rfl (by omega) rfl (by omega) hlt4 (Nat.le_refl _) _ hf.out (Nat.le_trans hbase hb.size)).mono ?_; rintro e w1 ⟨rfl,hf1,hb1⟩
        have hf1:=hid hf1
        go_wp2_with fail
        go_roundw
        case rel=>exact ⟨⟨s*2,by omega,by omega,by first | go_num | exact congrArg (Value.int .i64) (by omega)⟩,hf1,hb.trans hb1⟩
        case measure=>simp [intOf]; omega
       ·have k4:¬ (a':Int)+(s:Int)<(n:Int):=by omega
        go_wp2_with fail
        go_roundw
        case rel=>exact ⟨⟨s*2,by omega,by omega,by first | go_num | exact congrArg (Value.int .i64) (by omega)⟩,hf,hb⟩
        case measure=>simp [intOf]; omega
    ·have k2:¬ (s:Int)<(n:Int):=by omega
     go_wp2_with fail
     go_end0
     exact ⟨rfl,hf.out,hb⟩
theorem sortS_any (base g n cap:Nat) (xs:List Ac) (hu:UpA xs) (hn:n<=4096) (w:World) (hbase:base<=w.heap.size) (h:FO 54 11 w base (.slice (some ⟨g,0,none⟩) n cap) (xs.map acC)) :
  Calls Tryz.prog 169 #[.slice (some ⟨g,0,none⟩) n cap,.func (.func 170) #[] #[]] w fun e w'=>e=.returned (.tuple #[])/\FO 54 11 w' base (.slice (some ⟨g,0,none⟩) n cap) (xs.map acC)/\Below base w w':=by
 have hst:=hid (stableS_any base g n cap xs hu hn w hbase h)
 have hu:=hid hu
 clear h
 go_enter Tryz.func169,Tryz.ntmps169
 go_wp2_with fail
 refine hst.out.mono ?_; rintro e w1 ⟨rfl,h1,h4⟩
 go_wp2_with fail
 go_end0
 exact ⟨rfl,h1,h4⟩
theorem sortT_any (base:Nat) (v:Value) (xs:List Ac) (hx:xs.length<20\/UpA xs) (hn:xs.length<=4096) (w:World) (hbase:base<=w.heap.size) (h:FO 54 11 w base v (xs.map acC)) :
  Calls Tryz.prog 169 #[v,.func (.func 170) #[] #[]] w fun e w'=>e=.returned (.tuple #[]) /\
   ∃ L,FO 54 11 w' base v (L.map acC)/\L.Perm xs/\UpA L/\Below base w w':=by
 by_cases hl:xs.length<20
 ·exact sortStable_any base v xs w h hl
 ·have hu:UpA xs:=hx.resolve_left hl
  rcases h.1.2 with ⟨hv,h0⟩ | ⟨g,cap',cur,hv,_⟩
  ·rw [List.length_map] at h0; omega
  ·subst hv
   rw [List.length_map] at h ⊢
   exact (sortS_any base g _ cap' xs hu hn w hbase h).mono fun e w' ⟨h1,h2,h3⟩=>⟨h1,xs,h2,List.Perm.refl _,hu,h3⟩
end
section
open Go.RowKit
theorem Tryz.sizeTw:(Tryz.prog.info? 45).map (·.size)=some 8:=by kernel_rfl
theorem Tryz.sizeRing:(Tryz.prog.info? 26).map (·.size)=some 2:=by kernel_rfl
theorem exec_loadTw {dst:Option Tmp} {ty:TypeId} {pos:String} {after:Array Edge} {guard:Option (Nat×Bool)} {x:Operand} {a:Act} {w:World}
  (b off:Nat) (hx:a.eval x=.pointer (some ⟨b,off,none⟩)) (y:Tw) (hc:Cs w b off (twC y)):(execOp a.eval ⟨dst,.load 45 x,ty,pos,after,guard⟩).run Tryz.prog w=.ok (.value (.agg (twC y).toArray)) w :=
 exec_loadC _ x rfl b off hx (twC y) hc _ Tryz.underlying45 rfl Tryz.sizeTw
abbrev rgC:List Value:=[.int .i64 2,.slice none 0 0]
theorem exec_loadRing {dst:Option Tmp} {ty:TypeId} {pos:String} {after:Array Edge} {guard:Option (Nat×Bool)} {x:Operand} {a:Act} {w:World}
  (b off:Nat) (hx:a.eval x=.pointer (some ⟨b,off,none⟩)) (hc:Cs w b off rgC):(execOp a.eval ⟨dst,.load 26 x,ty,pos,after,guard⟩).run Tryz.prog w=.ok (.value (.agg rgC.toArray)) w :=
 exec_loadC _ x rfl b off hx rgC hc _ Tryz.underlying26 rfl Tryz.sizeRing
theorem op_storeFP {P:Program} {o:Oper} {a:Act} {w:World} {K:Act->World->Prop} {Q:EP} (ty:TypeId) (x y:Operand) (ho:o.op=.store ty x y)
  (e:TypeId) (k base g n cap:Nat) (css:List (List Value)) (hf:FO e k w base (.slice (some ⟨g,0,none⟩) n cap) css) (i off c:Nat) (old:List Value) (hi:css[i]? = some old) (hoff:off=i*k+c)
  (hx:a.eval x=.pointer (some ⟨g,off,none⟩)) (cs:List Value) (hk:c+cs.length<=k) (hy:a.eval y=.agg cs.toArray) (h1:∀ v∈cs,v.oneCell'=true) (hinfo:(P.info? ty).map (·.size)=some cs.length)
  (h:∀ w',FO e k w' base (.slice (some ⟨g,0,none⟩) n cap) (css.set i (old.take c++cs++old.drop (c+cs.length)))->Fr (fun k=>k=g) w w'->K (a.put o.dst undef) w'):o.wp P a w K Q:=by
 have hl:old.length=k:=hf.2 _ (List.mem_of_getElem? hi)
 have hc:=hf.cs hi
 have hst:=run_storeC (P:=P) w ty g off cs (fun j hj=>by
  have hj':c+j<old.length:=by omega
  rw [hoff,Nat.add_assoc,hc (c+j) old[c+j] (by simp [hj'])]; rfl) (fun j _=>hf.free _) h1 hinfo
 unfold Oper.wp execOp
 simp only [ho,hx,hy,Instr.storeAt,Instr.sureAddr,Sem.run_bind,Sem.run_pure,Result.andThen_ok,hst]
 refine h _ ?_ (fr_setCells g cs off w)
 rw [hoff]; exact FO.setCells (List.getElem?_eq_some_iff.1 hi).1 cs c hf hi hk
theorem op_storeBP {P:Program} {o:Oper} {a:Act} {w:World} {K:Act->World->Prop} {Q:EP} (ty:TypeId) (x y:Operand) (ho:o.op=.store ty x y)
  (G:Nat) (T:TypeId) (old:List Value) (hG:Bl G old T w) (c:Nat) (hx:a.eval x=.pointer (some ⟨G,c,none⟩)) (cs:List Value) (hk:c+cs.length<=old.length) (hy:a.eval y=.agg cs.toArray) (h1:∀ v∈cs,v.oneCell'=true) (hinfo:(P.info? ty).map (·.size)=some cs.length)
  (h:∀ w',Bl G (old.take c++cs++old.drop (c+cs.length)) T w'->Fr (fun k=>k=G) w w'->K (a.put o.dst undef) w'):o.wp P a w K Q:=by
 have hst:=run_storeC (P:=P) w ty G c cs (fun j hj=>by
  have hj':c+j<old.length:=by omega
  rw [hG.cell (i:=c+j) (v:=old[c+j]) (by simp [hj'])]; rfl) (fun j _=>hG.free _) h1 hinfo
 unfold Oper.wp execOp
 simp only [ho,hx,hy,Instr.storeAt,Instr.sureAddr,Sem.run_bind,Sem.run_pure,Result.andThen_ok,hst]
 exact h _ (hG.setAll cs c hk) (fr_setCells G cs c w)
theorem twC_1 (v:Tw):∀ u∈twC v,u.oneCell'=true:=fun u hu=>acC_1 (0,0,0,v) u (by simp only [twC,acC,wt,List.mem_cons] at hu ⊢; exact .inr (.inr (.inr hu)))
theorem Cs.part {w:World} {b o:Nat} {cs:List Value} (h:Cs w b o cs) (c:Nat) (ds:List Value) (hd:∀ i v,ds[i]? = some v->cs[c+i]? = some v):Cs w b (o+c) ds:=fun i v hi=>by
 rw [Nat.add_assoc]; exact h (c+i) v (hd i v hi)
theorem acC_wt (x:Ac):∀ (i:Nat) (v:Value),(twC (wt x))[i]? = some v->(acC x)[3+i]? = some v:=fun i v h=>by
 rw [show 3+i=i+1+1+1 by omega]; exact h
theorem fo_m {e:TypeId} {k base m cap:Nat} {ao:OA} {w:World} {xs:List Ac} (h:FO e k w base (.slice ao m cap) (xs.map acC)):xs.length=m:=by
 obtain ⟨ao',cap',hv⟩:=h.form
 rw [List.length_map] at hv
 injection hv with _ h1; exact h1.symm
theorem fo_some {e:TypeId} {k base m cap:Nat} {ao:OA} {w:World} {xs:List Ac} (h:FO e k w base (.slice ao m cap) (xs.map acC)) (hm:0<m):∃ g,ao=some ⟨g,0,none⟩:=by
 rcases h.1.2 with ⟨hv,h0⟩ | ⟨g,cap',cur,hv,_⟩
 ·rw [List.length_map,fo_m h] at h0; omega
 ·injection hv with h1; exact ⟨g,h1⟩
theorem ordE_any (x y:Ac) (h:ky y=ky x) (w:World):Calls Tryz.prog 170 #[.agg #[.int .i64 ((y).1:Int),.int .i64 ((y).2.1:Int),.int .i64 ((y).2.2.1:Int),.bool false,.slice none 0 0,.slice none 0 0,.int .i64 (tc (wt y):Int),.bool (ti (wt y)),.int .u64 0,.slice none 0 0,.slice none 0 0],.agg #[.int .i64 ((x).1:Int),.int .i64 ((x).2.1:Int),.int .i64 ((x).2.2.1:Int),.bool false,.slice none 0 0,.slice none 0 0,.int .i64 (tc (wt x):Int),.bool (ti (wt x)),.int .u64 0,.slice none 0 0,.slice none 0 0]] w fun e w'=>e=.returned (.int .i64 0)/\Below w.heap.size w w' :=
 (order_any y x w).mono fun e w' ⟨h1,h2⟩=>⟨by rw [h1,cmpK_zero.2 h],h2⟩
theorem ordN_any (x y:Ac) (h:¬ ky y=ky x) (w:World):Calls Tryz.prog 170 #[.agg #[.int .i64 ((y).1:Int),.int .i64 ((y).2.1:Int),.int .i64 ((y).2.2.1:Int),.bool false,.slice none 0 0,.slice none 0 0,.int .i64 (tc (wt y):Int),.bool (ti (wt y)),.int .u64 0,.slice none 0 0,.slice none 0 0],.agg #[.int .i64 ((x).1:Int),.int .i64 ((x).2.1:Int),.int .i64 ((x).2.2.1:Int),.bool false,.slice none 0 0,.slice none 0 0,.int .i64 (tc (wt x):Int),.bool (ti (wt x)),.int .u64 0,.slice none 0 0,.slice none 0 0]] w fun e w'=>(∃ c:Int,e=.returned (.int .i64 c)/\¬ c=0)/\Below w.heap.size w w' :=
 (order_any y x w).mono fun e w' ⟨h1,h2⟩=>⟨⟨_,h1,mt cmpK_zero.1 h⟩,h2⟩
theorem nf_tw {C l:List Ac} (h:Nf C l) (hl:∀ x∈l,TwOk (wt x)):∀ x∈C,TwOk (wt x):=fun x hx=>by
 obtain ⟨⟨z,hz,_,hw⟩,_⟩:=h.2.1 x hx
 rw [<-hw]; exact hl z hz
theorem nf_last {C l:List Ac} (h:Nf C l) {x:Ac} (hle:∀ z∈l,¬ klt (ky x) (ky z)) {y:Ac} (hy:y∈C):¬ klt (ky x) (ky y):=by
 obtain ⟨⟨z,hz,hk,_⟩,_⟩:=h.2.1 y hy
 rw [<-hk]; exact hle z hz
theorem ss_last:∀ {p:List Ac} {y:Ac},Ss (p++[y])->∀ z∈p,klt (ky z) (ky y)
 | [],_,_,z,h=>by cases h
 | a::p,y,h,z,hz=>by
  have h1:(∀ v∈p++[y],klt (ky a) (ky v))/\Ss (p++[y]):=h
  rcases List.mem_cons.1 hz with rfl | hz
  ·exact h1.1 y (by simp)
  ·exact ss_last h1.2 z hz
theorem Fl.lit1 (w:World) (cs:List Value) (T:TypeId) (k:Nat) (hk:cs.length=k):Fl k (w.alloc (.cells cs.toArray T)) (some ⟨w.heap.size,0,none⟩) 1 1 [cs] :=
 ⟨rfl,Nat.le_refl _,by simp [maxLen],(fun e=>by cases e),fun i x hi=>by
  cases i with
  | zero=>injection hi with hi; subst hi; exact ⟨_,_,rfl,by rw [Nat.zero_mul]; exact Cs.fresh w cs T⟩
  | succ i=>cases hi⟩
theorem tidyL_any (xs:List Ac) (hs:xs.length<20\/UpA xs) (hok:∀ x∈xs,TwOk (wt x)) (ao:OA) (n cap:Nat) (hn:n<=4096) (w:World) (h:Fl 11 w ao n cap (xs.map acC)) :
  Calls Tryz.prog 131 #[.agg #[.int .i64 2,.slice none 0 0],.slice ao n cap] w fun e w'=>(∃ ao' m cap' C,e=.returned (.slice ao' m cap')/\FO 54 11 w' w.heap.size (.slice ao' m cap') ((C.filter nz).map acC)/\Nf C xs)/\Below w.heap.size w w':=by
 have hb0:Below w.heap.size w (w.alloc (.cells rgC.toArray 26)):=below_alloc _
 have hG:=Bl.fresh w rgC 26
 have hf:=h.next hb0
 have hlx:=hid h.lenMap
 clear h
 have hS0:w.heap.size<(w.alloc (.cells rgC.toArray 26)).heap.size:=hG.lt
 go_enter Tryz.func131,Tryz.ntmps131
 go_upto_region 1 with fail
 generalize hW0:(w.alloc (.cells rgC.toArray 26))=W0 at *
 have hW0:=hid hW0
 go_wp2_with fail
 refine (cloneArc_any xs ao n cap hn _ hf).mono ?_; rintro e w1 ⟨⟨v1,rfl,hc1⟩,hb1⟩
 have hbA:=below_chain hb0 hb1
 have hG1:=hG.next hb1
 clear hf hb0 hG
 go_wp2_with fail
 refine (sortT_any _ v1 xs hs (by have:=hlx.out; omega) _ hb1.size hc1).mono ?_; rintro e w2 ⟨rfl,L,hc2,hperm,hup,hb2⟩
 have hG2:=hG1.under hb2 hS0
 have hbB:Below w.heap.size w w2:=hbA.trans (hb2.mono (by omega))
 have hperm:=hid hperm
 have hup:=hid hup
 obtain ⟨aL,cL,hv,hfl,hz⟩:=hc2.fl
 clear hz
 rw [List.length_map,hperm.out.length_eq,hlx.out] at hv hfl
 have hokL:Hid (∀ x∈L,TwOk (wt x)):=hid fun x hx=>hok x (hperm.out.mem_iff.1 hx)
 have hlL:Hid (L.length=n):=hid (by rw [hperm.out.length_eq]; exact hlx.out)
 subst hv
 have hc2':=hid hc2
 have hwB:w.heap.size<w2.heap.size:=hG2.lt
 generalize hGA:w.heap.size=GA at *
 clear hc1 hc2 hb1 hb2 hbA hG1 hS0 hW0
 go_wp2_with fail
 go_loopw [6,16] (fun ov iv wr=>∃ (ao':OA) (m cap' k:Nat) (C:List Ac),k<=n/\iv=.int .i64 (k:Int)/\ov=.slice ao' m cap'/\FO 54 11 wr w2.heap.size (.slice ao' m cap') (C.map acC)/\Hid (Nf C (L.take k))/\m<=k/\Below w2.heap.size w2 wr) (fun _ iv _=>n-(intOf iv).toNat)
 case atStart=>exact ⟨none,0,0,0,[],by omega,rfl,rfl,FO.nil _ _ _ _,hid Nf.nil,Nat.le_refl _,Below.refl _ _⟩
 case round =>
  obtain ⟨ao',m,cap',k,C,hk,rfl,rfl,hC,hnf,hmk,hb⟩:=hrel
  have hCm:=hid (fo_m hC)
  have hfr:=hfl.next hb
  have hGr:=hG2.next hb
  by_cases hlt:k<n
  ·obtain ⟨b,rfl⟩:=fo_some hc2'.out (by omega)
   obtain ⟨x,hxk⟩:∃ x,L[k]? = some x:=⟨_,List.getElem?_eq_getElem (by have:=hlL.out; omega)⟩
   have hcs:Cs wr b (k*11) (acC x):=hfr.cs (by rw [List.getElem?_map,hxk]; rfl)
   have hxo:=hokL.out x (List.mem_of_getElem? hxk)
   have htk:Hid (L.take (k+1)=L.take k++[x]):=hid (by rw [List.take_succ_eq_append_getElem (List.getElem?_eq_some_iff.1 hxk).1,(List.getElem?_eq_some_iff.1 hxk).2])
   have hle:Hid (∀ z∈L.take k,¬ klt (ky x) (ky z)):=hid fun z hz=>by
    obtain ⟨i,hi⟩:=List.mem_iff_getElem?.1 hz
    rw [List.getElem?_take] at hi
    split at hi
    ·rename_i hik; exact upA_get hup.out hik hi hxk
    ·cases hi
   have hxk:=hid hxk
   have i1:(k:Int)<(n:Int):=by omega
   have i0:(0:Int)<=(k:Int):=by omega
   have hbX:Below wr.heap.size wr (wr.alloc (.cells (acC x).toArray 54)):=below_alloc _
   have hX:=Bl.fresh wr (acC x) 54
   go_upto_region 8 with ((first | ((with_reducible refine wp_loadArc rfl _ rfl b (k*11) ?_ x hcs ?_); exact rfl) | ((with_reducible refine wp_storeVArc rfl _ _ rfl _ _ ?_ x ?_ ?_ ?_); exact rfl; exact rfl; exact rfl)))
   have hC1:=hC.next hbX
   have hG3:=hGr.next hbX
   have hb1:=hb.trans (hbX.mono hb.size)
   have hgX:w2.heap.size<=wr.heap.size:=hb.size
   have hgo:∀ g',(Value.slice ao' m cap').ownBlock=some g'->g'<wr.heap.size:=fun g' hg'=>(hC.lt hg').2
   generalize hW1:wr.alloc (.cells (acC x).toArray 54)=W1 at *
   generalize hGX:wr.heap.size=GX at *
   clear hW1 hGX hC hGr hcs
   have hdr:=(Below.refl W1.heap.size W1).drew
   have hC2:=hC1.next hdr
   have hG4:=hG3.next hdr
   have hX2:=hX.next hdr
   have hb2:=hb1.trans (hdr.mono hb1.size)
   clear hC1 hG3 hX hb1
   have hplus:Hid (∀ W,Calls Tryz.prog 77 #[.agg #[.int .i64 2,.slice none 0 0],.agg #[.bool false,.slice none 0 0,.slice none 0 0,.int .i64 (tc (wt x):Int),.bool (ti (wt x)),.int .u64 0,.slice none 0 0,.slice none 0 0],.agg #[.bool false,.slice none 0 0,.slice none 0 0,.int .i64 (tc (none):Int),.bool (ti (none)),.int .u64 0,.slice none 0 0,.slice none 0 0]] W fun e w'=>e=.returned (.agg #[.bool false,.slice none 0 0,.slice none 0 0,.int .i64 (tc (wt x):Int),.bool (ti (wt x)),.int .u64 0,.slice none 0 0,.slice none 0 0])/\Below W.heap.size W w'):=hid fun W=>(plusTw_any (wt x) none hxo twOk_none W).mono fun e w' ⟨h1,h2⟩=>⟨by rw [h1,twPlus_none],h2⟩
   by_cases hm0:m=0
   ·subst hm0
    have c1:decide ((0:Int)<(0:Int))=false:=decide_eq_false (by omega)
    have hCn:Hid (Nf (C++[x]) (L.take (k+1))):=hid (by
     have:C=[]:=List.eq_nil_of_length_eq_zero hCm.out
     subst this
     rw [htk.out]
     exact Nf.new (p:=[]) (r:=[]) hnf.out (fun y h=>by cases h) (fun y h=>by cases h))
    have hS:True:=trivial
    refine wp_region_D (fun _=>True) [] (by kernel_rfl) ?_
    refine tkCp 0 rfl hS ?_
    refine tkCp 1 rfl hS ?_
    refine tkCp 2 rfl hS ?_
    refine tkCu 3 rfl hS ?_
    refine tkCu 4 rfl hS ?_
    refine tkCu 5 rfl hS ?_
    refine tkCu 6 rfl hS ?_
    refine tkCu 7 rfl hS ?_
    refine tkCu 8 rfl hS ?_
    refine tkCu 9 rfl hS ?_
    refine tkCu 10 rfl hS ?_
    refine tkCp 11 rfl hS ?_
    refine wpAnyD_done (by kernel_rfl) ?_ _
    go_simp
    generalize W1.drew=W2 at *
    go_upto_region 10 with fail
    have hdr3:=(Below.refl W2.heap.size W2).drew
    have hC3:=hC2.next hdr3
    have hG6:=hG4.next hdr3
    have hX3:=hX2.next hdr3
    have hb3:=hb2.trans (hdr3.mono hb2.size)
    have hS:Cs W2.drew GA 0 rgC/\Cs W2.drew GX 3 (twC (wt x)):=⟨hG6.cs,hX3.cs.part 3 _ (acC_wt x)⟩
    clear hdr3
    refine wp_region_D (fun w'=>Cs w' GA 0 rgC/\Cs w' GX 3 (twC (wt x))) [7] (by kernel_rfl) ?_
    refine tkCl 0 (v:=?_) rfl ?_ hS ?_
    rotate_left
    ·intro w hw; obtain ⟨c1',c2'⟩:=hw; refine exec_loadRing GA 0 ?_ c1'; go_simp
    refine tkCp 1 rfl hS ?_
    refine tkCl 2 (v:=?_) rfl ?_ hS ?_
    rotate_left
    ·intro w hw; obtain ⟨c1',c2'⟩:=hw; refine exec_loadTw GX 3 ?_ (wt x) c2'; go_simp
    refine tkCl 3 (v:=?_) rfl ?_ hS ?_
    rotate_left
    ·intro w hw; obtain ⟨c1',c2'⟩:=hw; refine exec_loadRing GA 0 ?_ c1'; go_simp
    refine wpO (i:=4) rfl fun KK hKK=>?_
    go_simp
    go_at_call 76
    refine (zeroTw_any _).mono ?_; rintro e w4 ⟨rfl,hb4⟩
    try go_simp
    refine hKK _ _ ⟨fun _=>⟨hS.1.next hb4,hS.2.next hb4⟩,?_⟩; clear hKK KK
    refine wpO (i:=5) rfl fun KK hKK=>?_
    go_simp
    go_at_call 77
    refine (hplus.out _).mono ?_; rintro e w5 ⟨rfl,hb5⟩
    try go_simp
    refine hKK _ _ ⟨fun _=>⟨(hS.1.next hb4).next hb5,(hS.2.next hb4).next hb5⟩,?_⟩; clear hKK KK
    refine tkCp 6 rfl ⟨(hS.1.next hb4).next hb5,(hS.2.next hb4).next hb5⟩ ?_
    refine wpO (i:=7) rfl fun KK hKK=>?_
    rw [if_pos (by rfl)]
    have hX5:=(hX3.next hb4).next hb5
    have hC5:=(hC3.next hb4).next hb5
    have hG5:=(hG6.next hb4).next hb5
    have hb6:=(hb3.trans (hb4.mono hb3.size)).trans (hb5.mono (Nat.le_trans hb3.size hb4.size))
    refine op_storeBP 45 (.tmp 55) (.tmp 54) rfl GX 54 (acC x) hX5 3 rfl (twC (wt x)) (Nat.le_refl 11) rfl (twC_1 _) Tryz.sizeTw ?_
    intro w6 hX6 hfr6
    replace hX6:Bl GX (acC x) 54 w6:=hX6
    refine lN hKK ?_; clear hKK KK
    refine wpAnyD_done (by kernel_rfl) ?_ _
    go_simp
    have hC6:=hC5.same (w':=w6) fun g' hg'=>hfr6.block g' (hC5.lt hg').2 (fun e=>absurd (hgo g' hg') (by omega))
    have hb7:=hb6.trans (hfr6.below (fun k' hk'=>by omega) hb6.size)
    go_wp2_with (first | ((with_reducible refine wp_loadArc rfl _ rfl GX 0 ?_ x hX6.cs ?_); exact rfl) | (at_builtin; refine wp_appF0 rfl (.tmp 56) (.tmp 58) 28 rfl 54 _ 11 152 Tryz.underlying28 Tryz.infoArc rfl (by decide) w2.heap.size _ (C.map acC) rfl (hC6.next (below_alloc _)) ⟨w6.heap.size,0,none⟩ 1 1 [acC x] rfl (Fl.lit1 w6 (acC x) _ 11 rfl) (acC_len [x]) (acC_one [x]) ?_ ?_ ?_ ?_; rw [List.length_map,hCm.out]; omega; rw [List.length_map,hCm.out]; omega; exact Nat.le_trans hb7.size (below_alloc _).size; intro v' w7 hC7 hg7 hb8; obtain ⟨ao2,cap2,hv2⟩:=hC7.form; rw [List.length_append,List.length_map,hCm.out] at hv2; subst hv2; have hb9:=hb7.trans (((below_alloc _).mono hb7.size).trans hb8); have hC8:FO 54 11 w7 w2.heap.size (.slice ao2 (0+[acC x].length) cap2) ((C++[x]).map acC):=(by rw [List.map_append]; exact hC7)))
    go_roundw
    case rel=>exact ⟨ao2,0+1,cap2,k+1,C++[x],by omega,by go_num,rfl,hC8,hCn,by omega,hb9⟩
    case measure=>simp [intOf]; omega
   ·obtain ⟨q,hmq⟩:∃ q,m=q+1:=⟨m-1,by omega⟩
    obtain ⟨g,rfl⟩:=fo_some hC2 (by omega)
    obtain ⟨p,y,hpy,hpl⟩:∃ p y,C=p++[y]/\p.length=q:=by
     have hne:C≠[]:=fun e=>by have:=hCm.out; rw [e] at this; simp at this; omega
     exact ⟨C.dropLast,C.getLast hne,(List.dropLast_concat_getLast hne).symm,by rw [List.length_dropLast,hCm.out]; omega⟩
    have hqy:Hid (C[q]? = some y):=hid (by rw [hpy,<-hpl]; simp)
    have hCg:Hid (∀ W,FO 54 11 W w2.heap.size (.slice (some ⟨g,0,none⟩) m cap') (C.map acC)->Cs W g (q*11) (acC y)):=hid fun W h=>h.cs (by rw [List.getElem?_map,hqy.out]; rfl)
    have hyC:y∈C:=List.mem_of_getElem? hqy.out
    have hyo:TwOk (wt y):=nf_tw hnf.out (fun z hz=>hokL.out z (List.mem_of_mem_take hz)) y hyC
    have hyx:=nf_last hnf.out hle.out hyC
    have Hpy:=hid hpy
    have Hpl:=hid hpl
    have Hmq:=hid hmq
    have c1:decide ((0:Int)<(m:Int))=true:=decide_eq_true (by omega)
    have c2:(0:Int)<(m:Int):=by omega
    have w1':IntKind.i64.wrap ((m:Int)-1)=(q:Int):=by rw [show (m:Int)-1=(q:Int) by omega]; exact IntWalk.i64_in _ (by omega)
    have c3:(0:Int)<=(q:Int):=by omega
    have c4:(q:Int)<(m:Int):=by omega
    have hqm:q<m:=by omega
    have c5:0<m:=by omega
    clear hpy hpl hmq hm0 hyC
    have hS:Cs W1.drew g (q*11) (acC y)/\Cs W1.drew GX 0 (acC x):=⟨hCg.out _ hC2,hX2.cs⟩
    by_cases hke:ky y=ky x
    ·have hke:=hid hke
     refine wp_region_D (fun w'=>Cs w' g (q*11) (acC y)/\Cs w' GX 0 (acC x)) [9,10,11] (by kernel_rfl) ?_
     refine tkCp 0 rfl hS ?_
     refine tkCl 1 (v:=.bool true) rfl ?_ hS ?_
     ·intro w _; first | (go_simp; done) | (go_simp; with_reducible rfl)
     refine tkCl 2 (v:=.bool true) rfl ?_ hS ?_
     ·intro w _; first | (go_simp; done) | (go_simp; with_reducible rfl)
     refine tkCg 3 rfl hS ?_
     refine tkCg 4 rfl hS ?_
     refine tkCg 5 rfl hS ?_
     refine tkCg 6 rfl hS ?_
     refine tkCm 7 (v:=?_) rfl ?_ hS ?_
     rotate_left
     ·intro w hw; obtain ⟨c1',c2'⟩:=hw; refine exec_loadArc g (q*11) ?_ y c1'; go_simp
     refine tkCm 8 (v:=?_) rfl ?_ hS ?_
     rotate_left
     ·intro w hw; obtain ⟨c1',c2'⟩:=hw; refine exec_loadArc GX 0 ?_ x c2'; go_simp
     refine wpO (i:=9) rfl fun KK hKK=>?_
     rw [if_pos (by kernel_rfl)]
     go_simp
     go_at_call 170
     refine (ordE_any x y hke.out _).mono ?_; rintro e w9 ⟨rfl,hb9⟩
     try go_simp
     refine lN hKK ?_; clear hKK KK
     refine wpO (i:=10) rfl fun KK hKK=>?_
     rw [if_pos (by kernel_rfl)]
     go_simp
     refine lN hKK ?_; clear hKK KK
     refine wpO (i:=11) rfl fun KK hKK=>?_
     go_simp
     refine lN hKK ?_; clear hKK KK
     refine wpAnyD_done (by kernel_rfl) ?_ _
     go_simp
     have hC3:=hC2.next hb9
     have hG6:=hG4.next hb9
     have hX3:=hX2.next hb9
     have hb3:=hb2.trans (hb9.mono hb2.size)
     go_upto_region 9 with fail
     have hdr3:=(Below.refl w9.heap.size w9).drew
     replace hC3:=hC3.next hdr3
     replace hG6:=hG6.next hdr3
     replace hX3:=hX3.next hdr3
     replace hb3:=hb3.trans (hdr3.mono hb3.size)
     clear hdr3 hS
     have hS:Cs w9.drew GA 0 rgC/\Cs w9.drew g (q*11+3) (twC (wt y))/\Cs w9.drew GX 3 (twC (wt x)):=⟨hG6.cs,(hCg.out _ hC3).part 3 _ (acC_wt y),hX3.cs.part 3 _ (acC_wt x)⟩
     refine wp_region_D (fun w'=>Cs w' GA 0 rgC/\Cs w' g (q*11+3) (twC (wt y))/\Cs w' GX 3 (twC (wt x))) [15] (by kernel_rfl) ?_
     refine tkCp 0 rfl hS ?_
     refine tkCp 1 rfl hS ?_
     refine tkCp 2 rfl hS ?_
     refine tkCl 3 (v:=?_) rfl ?_ hS ?_
     rotate_left
     ·intro w hw; obtain ⟨c1',c2',c3'⟩:=hw; refine exec_loadRing GA 0 ?_ c1'; go_simp
     refine tkCp 4 rfl hS ?_
     refine tkCp 5 rfl hS ?_
     refine tkCp 6 rfl hS ?_
     refine tkCp 7 rfl hS ?_
     refine tkCp 8 rfl hS ?_
     refine tkCl 9 (v:=?_) rfl ?_ hS ?_
     rotate_left
     ·intro w hw; obtain ⟨c1',c2',c3'⟩:=hw; refine exec_loadTw g (q*11+3) ?_ (wt y) c2'; go_simp
     refine tkCp 10 rfl hS ?_
     refine tkCl 11 (v:=?_) rfl ?_ hS ?_
     rotate_left
     ·intro w hw; obtain ⟨c1',c2',c3'⟩:=hw; refine exec_loadTw GX 3 ?_ (wt x) c3'; go_simp
     refine wpO (i:=12) rfl fun KK hKK=>?_
     go_simp
     go_at_call 77
     refine (plusTw_any (wt y) (wt x) hyo hxo _).mono ?_; rintro e w5 ⟨rfl,hb5⟩
     try go_simp
     refine hKK _ _ ⟨fun _=>⟨hS.1.next hb5,hS.2.1.next hb5,hS.2.2.next hb5⟩,?_⟩; clear hKK KK
     refine tkCp 13 rfl ⟨hS.1.next hb5,hS.2.1.next hb5,hS.2.2.next hb5⟩ ?_
     refine tkCp 14 rfl ⟨hS.1.next hb5,hS.2.1.next hb5,hS.2.2.next hb5⟩ ?_
     refine wpO (i:=15) rfl fun KK hKK=>?_
     rw [if_pos (by rfl)]
     have hC5:=hC3.next hb5
     have hb6:=hb3.trans (hb5.mono hb3.size)
     refine op_storeFP 45 (.tmp 48) (.tmp 46) rfl 54 11 w2.heap.size g m cap' (C.map acC) hC5 q (q*11+3) 3 (acC y) (by rw [List.getElem?_map,hqy.out]; rfl) rfl rfl (twC (twPlus (wt y) (wt x))) (Nat.le_refl 11) rfl (twC_1 _) Tryz.sizeTw ?_
     intro w6 hC6 hfr6
     have hb7:=hb6.trans (hfr6.below (fun k' hk'=>by have h9:w2.heap.size<=g:=(hC5.lt rfl).1; omega) hb6.size)
     have hC7:FO 54 11 w6 w2.heap.size (.slice (some ⟨g,0,none⟩) m cap') ((p++[(y.1,y.2.1,y.2.2.1,twPlus (wt y) (wt x))]).map acC):=by
      have e1:(p++[(y.1,y.2.1,y.2.2.1,twPlus (wt y) (wt x))]).map acC=(C.map acC).set q (acC (y.1,y.2.1,y.2.2.1,twPlus (wt y) (wt x))):=by
       rw [Hpy.out,<-Hpl.out]; simp
      rw [e1]; exact hC6
     refine lN hKK ?_; clear hKK KK
     refine wpAnyD_done (by kernel_rfl) ?_ _
     go_simp
     go_wp2_with fail
     go_roundw
     case rel=>exact ⟨some ⟨g,0,none⟩,m,cap',k+1,p++[(y.1,y.2.1,y.2.2.1,twPlus (wt y) (wt x))],by omega,by go_num,rfl,hC7,hid (by
      have h1:=hnf.out
      rw [Hpy.out] at h1
      rw [htk.out]
      exact Nf.same (p:=p) (r:=[]) h1 hke.out),by omega,hb7⟩
     case measure=>simp [intOf]; omega
    ·have hCn:Hid (Nf (C++[x]) (L.take (k+1))):=hid (by
      have hl:klt (ky y) (ky x):=by
       rcases klt_tri (ky y) (ky x) with h | h | h
       ·exact h
       ·exact absurd h hke
       ·exact absurd h hyx
      rw [htk.out]
      refine Nf.new (p:=C) (r:=[]) (by rw [List.append_nil]; exact hnf.out) (fun z hz=>?_) (fun y h=>by cases h)
      have hs:=hnf.out.1
      rw [Hpy.out] at hz hs
      rcases List.mem_append.1 hz with hz | hz
      ·exact klt_trans (ss_last hs z hz) hl
      ·rw [List.mem_singleton.1 hz]; exact hl)
     have hke:=hid hke
     refine wp_region_D (fun w'=>Cs w' g (q*11) (acC y)/\Cs w' GX 0 (acC x)) [9,10,11] (by kernel_rfl) ?_
     refine tkCp 0 rfl hS ?_
     refine tkCl 1 (v:=.bool true) rfl ?_ hS ?_
     ·intro w _; first | (go_simp; done) | (go_simp; with_reducible rfl)
     refine tkCl 2 (v:=.bool true) rfl ?_ hS ?_
     ·intro w _; first | (go_simp; done) | (go_simp; with_reducible rfl)
     refine tkCg 3 rfl hS ?_
     refine tkCg 4 rfl hS ?_
     refine tkCg 5 rfl hS ?_
     refine tkCg 6 rfl hS ?_
     refine tkCm 7 (v:=?_) rfl ?_ hS ?_
     rotate_left
     ·intro w hw; obtain ⟨c1',c2'⟩:=hw; refine exec_loadArc g (q*11) ?_ y c1'; go_simp
     refine tkCm 8 (v:=?_) rfl ?_ hS ?_
     rotate_left
     ·intro w hw; obtain ⟨c1',c2'⟩:=hw; refine exec_loadArc GX 0 ?_ x c2'; go_simp
     refine wpO (i:=9) rfl fun KK hKK=>?_
     rw [if_pos (by kernel_rfl)]
     go_simp
     go_at_call 170
     refine (ordN_any x y hke.out _).mono ?_; rintro e w9 ⟨⟨c,rfl,hc0⟩,hb9⟩
     have hcz:(c==0)=false:=by rw [beq_eq_false_iff_ne]; exact hc0
     try go_simp
     refine lN hKK ?_; clear hKK KK
     refine wpO (i:=10) rfl fun KK hKK=>?_
     rw [if_pos (by kernel_rfl)]
     go_simp
     refine lN hKK ?_; clear hKK KK
     refine wpO (i:=11) rfl fun KK hKK=>?_
     go_simp
     refine lN hKK ?_; clear hKK KK
     refine wpAnyD_done (by kernel_rfl) ?_ _
     go_simp
     replace hC2:=hC2.next hb9
     replace hG4:=hG4.next hb9
     replace hX2:=hX2.next hb9
     replace hb2:=hb2.trans (hb9.mono hb2.size)
     clear hb9 hS
     obtain ⟨W2,rfl⟩:∃ W2,W2=w9:=⟨_,rfl⟩
     go_upto_region 10 with fail
     have hdr3:=(Below.refl W2.heap.size W2).drew
     have hC3:=hC2.next hdr3
     have hG6:=hG4.next hdr3
     have hX3:=hX2.next hdr3
     have hb3:=hb2.trans (hdr3.mono hb2.size)
     have hS:Cs W2.drew GA 0 rgC/\Cs W2.drew GX 3 (twC (wt x)):=⟨hG6.cs,hX3.cs.part 3 _ (acC_wt x)⟩
     clear hdr3
     refine wp_region_D (fun w'=>Cs w' GA 0 rgC/\Cs w' GX 3 (twC (wt x))) [7] (by kernel_rfl) ?_
     refine tkCl 0 (v:=?_) rfl ?_ hS ?_
     rotate_left
     ·intro w hw; obtain ⟨c1',c2'⟩:=hw; refine exec_loadRing GA 0 ?_ c1'; go_simp
     refine tkCp 1 rfl hS ?_
     refine tkCl 2 (v:=?_) rfl ?_ hS ?_
     rotate_left
     ·intro w hw; obtain ⟨c1',c2'⟩:=hw; refine exec_loadTw GX 3 ?_ (wt x) c2'; go_simp
     refine tkCl 3 (v:=?_) rfl ?_ hS ?_
     rotate_left
     ·intro w hw; obtain ⟨c1',c2'⟩:=hw; refine exec_loadRing GA 0 ?_ c1'; go_simp
     refine wpO (i:=4) rfl fun KK hKK=>?_
     go_simp
     go_at_call 76
     refine (zeroTw_any _).mono ?_; rintro e w4 ⟨rfl,hb4⟩
     try go_simp
     refine hKK _ _ ⟨fun _=>⟨hS.1.next hb4,hS.2.next hb4⟩,?_⟩; clear hKK KK
     refine wpO (i:=5) rfl fun KK hKK=>?_
     go_simp
     go_at_call 77
     refine (hplus.out _).mono ?_; rintro e w5 ⟨rfl,hb5⟩
     try go_simp
     refine hKK _ _ ⟨fun _=>⟨(hS.1.next hb4).next hb5,(hS.2.next hb4).next hb5⟩,?_⟩; clear hKK KK
     refine tkCp 6 rfl ⟨(hS.1.next hb4).next hb5,(hS.2.next hb4).next hb5⟩ ?_
     refine wpO (i:=7) rfl fun KK hKK=>?_
     rw [if_pos (by rfl)]
     have hX5:=(hX3.next hb4).next hb5
     have hC5:=(hC3.next hb4).next hb5
     have hG5:=(hG6.next hb4).next hb5
     have hb6:=(hb3.trans (hb4.mono hb3.size)).trans (hb5.mono (Nat.le_trans hb3.size hb4.size))
     refine op_storeBP 45 (.tmp 55) (.tmp 54) rfl GX 54 (acC x) hX5 3 rfl (twC (wt x)) (Nat.le_refl 11) rfl (twC_1 _) Tryz.sizeTw ?_
     intro w6 hX6 hfr6
     replace hX6:Bl GX (acC x) 54 w6:=hX6
     refine lN hKK ?_; clear hKK KK
     refine wpAnyD_done (by kernel_rfl) ?_ _
     go_simp
     have hC6:=hC5.same (w':=w6) fun g' hg'=>hfr6.block g' (hC5.lt hg').2 (fun e=>absurd (hgo g' hg') (by omega))
     have hb7:=hb6.trans (hfr6.below (fun k' hk'=>by omega) hb6.size)
     go_wp2_with (first | ((with_reducible refine wp_loadArc rfl _ rfl GX 0 ?_ x hX6.cs ?_); exact rfl) | (at_builtin; refine wp_appF0 rfl (.tmp 56) (.tmp 58) 28 rfl 54 _ 11 152 Tryz.underlying28 Tryz.infoArc rfl (by decide) w2.heap.size _ (C.map acC) rfl (hC6.next (below_alloc _)) ⟨w6.heap.size,0,none⟩ 1 1 [acC x] rfl (Fl.lit1 w6 (acC x) _ 11 rfl) (acC_len [x]) (acC_one [x]) ?_ ?_ ?_ ?_; rw [List.length_map,hCm.out]; omega; rw [List.length_map,hCm.out]; omega; exact Nat.le_trans hb7.size (below_alloc _).size; intro v' w7 hC7 hg7 hb8; obtain ⟨ao2,cap2,hv2⟩:=hC7.form; rw [List.length_append,List.length_map,hCm.out] at hv2; subst hv2; have hb9:=hb7.trans (((below_alloc _).mono hb7.size).trans hb8); have hC8:FO 54 11 w7 w2.heap.size (.slice ao2 (m+[acC x].length) cap2) ((C++[x]).map acC):=(by rw [List.map_append]; exact hC7)))
     go_roundw
     case rel=>exact ⟨ao2,m+1,cap2,k+1,C++[x],by omega,by go_num,rfl,hC8,hCn,by omega,hb9⟩
     case measure=>simp [intOf]; omega
  ·obtain rfl:k=n:=by omega
   have i1:¬ (k:Int)<(k:Int):=by omega
   have htk:Hid (Nf C xs):=hid (by
    have h1:=hnf.out
    rw [List.take_of_length_le (by rw [hlL.out]; exact Nat.le_refl _)] at h1
    exact h1.mono fun z=>hperm.out.mem_iff)
   go_wp2_with fail
   refine (deleteT_any C w2.heap.size GA m cap' ao' _ hC hGr hwB hb.size (by omega)).mono ?_; rintro e w9 ⟨⟨a9,m9,c9,rfl,h9⟩,hb9⟩
   go_wp2_with fail
   go_ret
   exact ⟨⟨a9,m9,c9,C,rfl,by rw [hGA]; exact h9.mono (Nat.le_of_lt hwB),htk.out⟩,by rw [hGA]; exact hbB.trans ((hb.trans hb9).mono (by have:=hbB.size; omega))⟩
end
end Go.Proofs.YtnapapijhhldpaaGreatDoor

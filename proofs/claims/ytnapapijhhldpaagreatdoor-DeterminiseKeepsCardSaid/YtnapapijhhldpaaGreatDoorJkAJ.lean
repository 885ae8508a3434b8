/-
  Texts joined by program: Twu, Twv, Tww. No condition of its own.
-/
import Derived.Test.YtnapapijhhldpaaGreatDoorJkAI
namespace Go.Proofs.YtnapapijhhldpaaGreatDoor
set_option linter.unusedSimpArgs false
set_option linter.unusedVariables false
set_option maxRecDepth 100000
set_option maxHeartbeats 4000000
section
open Go.RowKit
theorem j9u (g n cap base:Nat) (xs:List Ac) (hu:UpA xs) (hn:n<=4096) (a b:Nat) (A B:Int) (hA:(a:Int)=A) (hB:(b:Int)=B) (hab:a<=b) (hbn:b<=n) (w:World) (h:FO 54 11 w base (.slice (some ⟨g,0,none⟩) n cap) (xs.map acC)) (hbase:base<=w.heap.size) :
  Calls Tryz.prog 293 #[.slice (some ⟨g,0,none⟩) n cap,.int .i64 A,.int .i64 B,.func (.func 170) #[] #[]] w fun e w'=>e=.returned (.tuple #[])/\FO 54 11 w' base (.slice (some ⟨g,0,none⟩) n cap) (xs.map acC)/\Below base w w':=by
 subst hA hB
 exact (j0q base g n cap a b xs w h hn hab hbn hu).mono fun e w' ⟨h1,h2⟩=>⟨h1,h.next h2,h2.mono hbase⟩
theorem j8p (g n cap base:Nat) (xs:List Ac) (hu:UpA xs) (hn:n<=4096) (a m b:Nat) (A M B:Int) (hA:(a:Int)=A) (hM:(m:Int)=M) (hB:(b:Int)=B) (h1:a<m) (h2:m<b) (hbn:b<=n) (w:World) (h:FO 54 11 w base (.slice (some ⟨g,0,none⟩) n cap) (xs.map acC)) (hbase:base<=w.heap.size) :
  Calls Tryz.prog 294 #[.slice (some ⟨g,0,none⟩) n cap,.int .i64 A,.int .i64 M,.int .i64 B,.func (.func 170) #[] #[]] w fun e w'=>e=.returned (.tuple #[])/\FO 54 11 w' base (.slice (some ⟨g,0,none⟩) n cap) (xs.map acC)/\Below base w w':=by
 subst hA hM hB
 exact (q6o xs hu g n cap hn _ a m b (Nat.le_refl _) h1 h2 hbn w h.flS).mono fun e w' ⟨h1,h2⟩=>⟨h1,h.next h2,h2.mono hbase⟩
theorem q9w (base g n cap:Nat) (xs:List Ac) (hu:UpA xs) (hn:n<=4096) (w:World) (hbase:base<=w.heap.size) (h:FO 54 11 w base (.slice (some ⟨g,0,none⟩) n cap) (xs.map acC)) :
  Calls Tryz.prog 244 #[.slice (some ⟨g,0,none⟩) n cap,.int .i64 (n:Int),.func (.func 170) #[] #[]] w fun e w'=>e=.returned (.tuple #[])/\FO 54 11 w' base (.slice (some ⟨g,0,none⟩) n cap) (xs.map acC)/\Below base w w':=by
 have hins:=hid (j9u g n cap base xs hu hn)
 have hsym:=hid (j8p g n cap base xs hu hn)
 have hu:=hid hu
 have hh:=hid h
 clear h
 go_enter Tryz.func244,Tryz.ntmps244
 go_wp2_with fail
 go_loopw [7,8] (fun av bv wr=>(∃ a:Nat,a<=n/\av=.int .i64 (a:Int)/\bv=.int .i64 ((a:Int)+20))/\Hid (FO 54 11 wr base (.slice (some ⟨g,0,none⟩) n cap) (xs.map acC))/\Below base w wr) (fun av _ _=>n-(intOf av).toNat)
 case atStart=>exact ⟨⟨0,by omega,rfl,rfl⟩,hh,Below.refl _ _⟩
 case round =>
  obtain ⟨⟨a,ha,rfl,rfl⟩,hf,hb⟩:=hrel
  by_cases hlt:a+20<=n
  ·have k1:(a:Int)+20<=(n:Int):=by omega
   go_wp2_with fail
   refine (hins.out a (a+20) _ _ rfl (by omega) (by omega) hlt _ hf.out (Nat.le_trans hbase hb.size)).mono ?_; rintro e w1 ⟨rfl,hf1,hb1⟩
   have hf1:=hid hf1
   go_wp2_with fail
   go_roundw
   case rel=>exact ⟨⟨a+20,by omega,by go_num,by go_num⟩,hf1,hb.trans hb1⟩
   case measure=>simp [intOf]; omega
  ·have k1:¬ (a:Int)+20<=(n:Int):=by omega
   go_wp2_with fail
   refine (hins.out a n _ _ rfl rfl ha (Nat.le_refl _) _ hf.out (Nat.le_trans hbase hb.size)).mono ?_; rintro e w1 ⟨rfl,hf1,hb1⟩
   have hf1:=hid hf1
   have hb1:=hb.trans hb1
   clear hf hb
   go_wp2_with fail
   go_loopw [6] (fun sv wr=>(∃ s:Nat,20<=s/\s<=8192/\sv=.int .i64 (s:Int))/\Hid (FO 54 11 wr base (.slice (some ⟨g,0,none⟩) n cap) (xs.map acC))/\Below base w wr) (fun sv _=>n-(intOf sv).toNat)
   case atStart=>exact ⟨⟨20,by omega,by omega,rfl⟩,hf1,hb1⟩
   case round =>
    obtain ⟨⟨s,hs1,hs2,rfl⟩,hf,hb⟩:=hrel
    by_cases hlt2:s<n
    ·have k2:(s:Int)<(n:Int):=by omega
     obtain ⟨wo,rfl⟩:∃ wo:World,wo=wr:=⟨_,rfl⟩
     go_wp2_with fail
     go_loopw [7,8] (fun av bv wr=>(∃ a:Nat,a<=n/\av=.int .i64 (a:Int)/\bv=.int .i64 ((a:Int)+2*(s:Int)))/\Hid (FO 54 11 wr base (.slice (some ⟨g,0,none⟩) n cap) (xs.map acC))/\Below base w wr) (fun av _ _=>n-(intOf av).toNat)
     case atStart=>exact ⟨⟨0,by omega,rfl,by first | rfl | exact congrArg (Value.int .i64) (by omega)⟩,hf,hb⟩
     case round =>
      obtain ⟨⟨a',ha',rfl,rfl⟩,hf,hb⟩:=hrel
      by_cases hlt3:a'+2*s<=n
      ·have k3:(a':Int)+2*(s:Int)<=(n:Int):=by omega
       go_wp2_with fail
       refine (hsym.out a' (a'+s) (a'+2*s) _ _ _ rfl (by omega) (by omega) (by omega) (by omega) hlt3 _ hf.out (Nat.le_trans hbase hb.size)).mono ?_; rintro e w1 ⟨rfl,hf1,hb1⟩
       have hf1:=hid hf1
       go_wp2_with fail
       go_roundw
       case rel=>exact ⟨⟨a'+2*s,by omega,by first | go_num | exact congrArg (Value.int .i64) (by omega),by first | go_num | exact congrArg (Value.int .i64) (by omega)⟩,hf1,hb.trans hb1⟩
       case measure=>simp [intOf]; omega
      ·have k3:¬ (a':Int)+2*(s:Int)<=(n:Int):=by omega
       by_cases hlt4:a'+s<n
       ·have k4:(a':Int)+(s:Int)<(n:Int):=by omega
        go_wp2_with fail
        refine (hsym.out a' (a'+s) n _ _ _ rfl (by omega) rfl (by omega) hlt4 (Nat.le_refl _) _ hf.out (Nat.le_trans hbase hb.size)).mono ?_; rintro e w1 ⟨rfl,hf1,hb1⟩
        have hf1:=hid hf1
        go_wp2_with fail
        go_roundw
        case rel=>exact ⟨⟨s*2,by omega,by omega,by first | go_num | exact congrArg (Value.int .i64) (by omega)⟩,hf1,hb.trans hb1⟩
        case measure=>simp [intOf]; omega
       ·have k4:¬ (a':Int)+(s:Int)<(n:Int):=by omega
        go_wp2_with fail
        go_roundw
        case rel=>exact ⟨⟨s*2,by omega,by omega,by first | go_num | exact congrArg (Value.int .i64) (by omega)⟩,hf,hb⟩
        case measure=>simp [intOf]; omega
    ·have k2:¬ (s:Int)<(n:Int):=by omega
     go_wp2_with fail
     go_end0
     exact ⟨rfl,hf.out,hb⟩
theorem j5e (base g n cap:Nat) (xs:List Ac) (hu:UpA xs) (hn:n<=4096) (w:World) (hbase:base<=w.heap.size) (h:FO 54 11 w base (.slice (some ⟨g,0,none⟩) n cap) (xs.map acC)) :
  Calls Tryz.prog 169 #[.slice (some ⟨g,0,none⟩) n cap,.func (.func 170) #[] #[]] w fun e w'=>e=.returned (.tuple #[])/\FO 54 11 w' base (.slice (some ⟨g,0,none⟩) n cap) (xs.map acC)/\Below base w w':=by
 have hst:=hid (q9w base g n cap xs hu hn w hbase h)
 have hu:=hid hu
 clear h
 go_enter Tryz.func169,Tryz.ntmps169
 go_wp2_with fail
 refine hst.out.mono ?_; rintro e w1 ⟨rfl,h1,h4⟩
 go_wp2_with fail
 go_end0
 exact ⟨rfl,h1,h4⟩
theorem j5d (base:Nat) (v:Value) (xs:List Ac) (hx:xs.length<20\/UpA xs) (hn:xs.length<=4096) (w:World) (hbase:base<=w.heap.size) (h:FO 54 11 w base v (xs.map acC)) :
  Calls Tryz.prog 169 #[v,.func (.func 170) #[] #[]] w fun e w'=>e=.returned (.tuple #[]) /\
   ∃ L,FO 54 11 w' base v (L.map acC)/\L.Perm xs/\UpA L/\Below base w w':=by
 by_cases hl:xs.length<20
 ·exact q5i base v xs w h hl
 ·have hu:UpA xs:=hx.resolve_left hl
  rcases h.1.2 with ⟨hv,h0⟩ | ⟨g,cap',cur,hv,_⟩
  ·rw [List.length_map] at h0; omega
  ·subst hv
   rw [List.length_map] at h ⊢
   exact (j5e base g _ cap' xs hu hn w hbase h).mono fun e w' ⟨h1,h2,h3⟩=>⟨h1,xs,h2,List.Perm.refl _,hu,h3⟩
end
section
open Go.RowKit
theorem Tryz.sizeTw:(Tryz.prog.info? 45).map (·.size)=some 8:=by kernel_rfl
theorem Tryz.sizeRing:(Tryz.prog.info? 26).map (·.size)=some 2:=by kernel_rfl
theorem qY {dst:Option Tmp} {ty:TypeId} {pos:String} {after:Array Edge} {guard:Option (Nat×Bool)} {x:Operand} {a:Act} {w:World}
  (b off:Nat) (hx:a.eval x=.pointer (some ⟨b,off,none⟩)) (y:Tw) (hc:Cs w b off (twC y)):(execOp a.eval ⟨dst,.load 45 x,ty,pos,after,guard⟩).run Tryz.prog w=.ok (.value (.agg (twC y).toArray)) w :=
 kZ _ x rfl b off hx (twC y) hc _ Tryz.underlying45 rfl Tryz.sizeTw
abbrev rgC:List Value:=[.int .i64 2,.slice none 0 0]
theorem qX {dst:Option Tmp} {ty:TypeId} {pos:String} {after:Array Edge} {guard:Option (Nat×Bool)} {x:Operand} {a:Act} {w:World}
  (b off:Nat) (hx:a.eval x=.pointer (some ⟨b,off,none⟩)) (hc:Cs w b off rgC):(execOp a.eval ⟨dst,.load 26 x,ty,pos,after,guard⟩).run Tryz.prog w=.ok (.value (.agg rgC.toArray)) w :=
 kZ _ x rfl b off hx rgC hc _ Tryz.underlying26 rfl Tryz.sizeRing
theorem q5x {P:Program} {o:Oper} {a:Act} {w:World} {K:Act->World->Prop} {Q:EP} (ty:TypeId) (x y:Operand) (ho:o.op=.store ty x y)
  (e:TypeId) (k base g n cap:Nat) (css:List (List Value)) (hf:FO e k w base (.slice (some ⟨g,0,none⟩) n cap) css) (i off c:Nat) (old:List Value) (hi:css[i]? = some old) (hoff:off=i*k+c)
  (hx:a.eval x=.pointer (some ⟨g,off,none⟩)) (cs:List Value) (hk:c+cs.length<=k) (hy:a.eval y=.agg cs.toArray) (h1:∀ v∈cs,v.oneCell'=true) (hinfo:(P.info? ty).map (·.size)=some cs.length)
  (h:∀ w',FO e k w' base (.slice (some ⟨g,0,none⟩) n cap) (css.set i (old.take c++cs++old.drop (c+cs.length)))->Fr (fun k=>k=g) w w'->K (a.put o.dst undef) w'):o.wp P a w K Q:=by
 have hl:old.length=k:=hf.2 _ (List.mem_of_getElem? hi)
 have hc:=hf.cs hi
 have hst:=q1n (P:=P) w ty g off cs (fun j hj=>by
  have hj':c+j<old.length:=by omega
  rw [hoff,Nat.add_assoc,hc (c+j) old[c+j] (by simp [hj'])]; rfl) (fun j _=>hf.free _) h1 hinfo
 unfold Oper.wp execOp
 simp only [ho,hx,hy,Instr.storeAt,Instr.sureAddr,Sem.run_bind,Sem.run_pure,Result.andThen_ok,hst]
 refine h _ ?_ (kJ g cs off w)
 rw [hoff]; exact FO.setCells (List.getElem?_eq_some_iff.1 hi).1 cs c hf hi hk
theorem q3c {P:Program} {o:Oper} {a:Act} {w:World} {K:Act->World->Prop} {Q:EP} (ty:TypeId) (x y:Operand) (ho:o.op=.store ty x y)
  (G:Nat) (T:TypeId) (old:List Value) (hG:Bl G old T w) (c:Nat) (hx:a.eval x=.pointer (some ⟨G,c,none⟩)) (cs:List Value) (hk:c+cs.length<=old.length) (hy:a.eval y=.agg cs.toArray) (h1:∀ v∈cs,v.oneCell'=true) (hinfo:(P.info? ty).map (·.size)=some cs.length)
  (h:∀ w',Bl G (old.take c++cs++old.drop (c+cs.length)) T w'->Fr (fun k=>k=G) w w'->K (a.put o.dst undef) w'):o.wp P a w K Q:=by
 have hst:=q1n (P:=P) w ty G c cs (fun j hj=>by
  have hj':c+j<old.length:=by omega
  rw [hG.cell (i:=c+j) (v:=old[c+j]) (by simp [hj'])]; rfl) (fun j _=>hG.free _) h1 hinfo
 unfold Oper.wp execOp
 simp only [ho,hx,hy,Instr.storeAt,Instr.sureAddr,Sem.run_bind,Sem.run_pure,Result.andThen_ok,hst]
 exact h _ (hG.setAll cs c hk) (kJ G cs c w)
theorem q0f (v:Tw):∀ u∈twC v,u.oneCell'=true:=fun u hu=>z0s (0,0,0,v) u (by simp only [twC,acC,wt,List.mem_cons] at hu ⊢; exact .inr (.inr (.inr hu)))
theorem Cs.part {w:World} {b o:Nat} {cs:List Value} (h:Cs w b o cs) (c:Nat) (ds:List Value) (hd:∀ i v,ds[i]? = some v->cs[c+i]? = some v):Cs w b (o+c) ds:=fun i v hi=>by
 rw [Nat.add_assoc]; exact h (c+i) v (hd i v hi)
theorem q9j (x:Ac):∀ (i:Nat) (v:Value),(twC (wt x))[i]? = some v->(acC x)[3+i]? = some v:=fun i v h=>by
 rw [show 3+i=i+1+1+1 by omega]; exact h
theorem z6p {e:TypeId} {k base m cap:Nat} {ao:OA} {w:World} {xs:List Ac} (h:FO e k w base (.slice ao m cap) (xs.map acC)):xs.length=m:=by
 obtain ⟨ao',cap',hv⟩:=h.form
 rw [List.length_map] at hv
 injection hv with _ h1; exact h1.symm
theorem j6x {e:TypeId} {k base m cap:Nat} {ao:OA} {w:World} {xs:List Ac} (h:FO e k w base (.slice ao m cap) (xs.map acC)) (hm:0<m):∃ g,ao=some ⟨g,0,none⟩:=by
 rcases h.1.2 with ⟨hv,h0⟩ | ⟨g,cap',cur,hv,_⟩
 ·rw [List.length_map,z6p h] at h0; omega
 ·injection hv with h1; exact ⟨g,h1⟩
theorem j9h (x y:Ac) (h:ky y=ky x) (w:World):Calls Tryz.prog 170 #[.agg #[.int .i64 ((y).1:Int),.int .i64 ((y).2.1:Int),.int .i64 ((y).2.2.1:Int),.bool false,.slice none 0 0,.slice none 0 0,.int .i64 (tc (wt y):Int),.bool (ti (wt y)),.int .u64 0,.slice none 0 0,.slice none 0 0],.agg #[.int .i64 ((x).1:Int),.int .i64 ((x).2.1:Int),.int .i64 ((x).2.2.1:Int),.bool false,.slice none 0 0,.slice none 0 0,.int .i64 (tc (wt x):Int),.bool (ti (wt x)),.int .u64 0,.slice none 0 0,.slice none 0 0]] w fun e w'=>e=.returned (.int .i64 0)/\Below w.heap.size w w' :=
 (q4s y x w).mono fun e w' ⟨h1,h2⟩=>⟨by rw [h1,q5d.2 h],h2⟩
theorem j9g (x y:Ac) (h:¬ ky y=ky x) (w:World):Calls Tryz.prog 170 #[.agg #[.int .i64 ((y).1:Int),.int .i64 ((y).2.1:Int),.int .i64 ((y).2.2.1:Int),.bool false,.slice none 0 0,.slice none 0 0,.int .i64 (tc (wt y):Int),.bool (ti (wt y)),.int .u64 0,.slice none 0 0,.slice none 0 0],.agg #[.int .i64 ((x).1:Int),.int .i64 ((x).2.1:Int),.int .i64 ((x).2.2.1:Int),.bool false,.slice none 0 0,.slice none 0 0,.int .i64 (tc (wt x):Int),.bool (ti (wt x)),.int .u64 0,.slice none 0 0,.slice none 0 0]] w fun e w'=>(∃ c:Int,e=.returned (.int .i64 c)/\¬ c=0)/\Below w.heap.size w w' :=
 (q4s y x w).mono fun e w' ⟨h1,h2⟩=>⟨⟨_,h1,mt q5d.1 h⟩,h2⟩
theorem z6f {C l:List Ac} (h:Nf C l) (hl:∀ x∈l,vW (wt x)):∀ x∈C,vW (wt x):=fun x hx=>by
 obtain ⟨⟨z,hz,_,hw⟩,_⟩:=h.2.1 x hx
 rw [<-hw]; exact hl z hz
theorem z2q {C l:List Ac} (h:Nf C l) {x:Ac} (hle:∀ z∈l,¬ klt (ky x) (ky z)) {y:Ac} (hy:y∈C):¬ klt (ky x) (ky y):=by
 obtain ⟨⟨z,hz,hk,_⟩,_⟩:=h.2.1 y hy
 rw [<-hk]; exact hle z hz
theorem j5b:∀ {p:List Ac} {y:Ac},Ss (p++[y])->∀ z∈p,klt (ky z) (ky y)
 | [],_,_,z,h=>by cases h
 | a::p,y,h,z,hz=>by
  have h1:(∀ v∈p++[y],klt (ky a) (ky v))/\Ss (p++[y]):=h
  rcases List.mem_cons.1 hz with rfl | hz
  ·exact h1.1 y (by simp)
  ·exact j5b h1.2 z hz
theorem Fl.lit1 (w:World) (cs:List Value) (T:TypeId) (k:Nat) (hk:cs.length=k):Fl k (w.alloc (.cells cs.toArray T)) (some ⟨w.heap.size,0,none⟩) 1 1 [cs] :=
 ⟨rfl,Nat.le_refl _,by simp [maxLen],(fun e=>by cases e),fun i x hi=>by
  cases i with
  | zero=>injection hi with hi; subst hi; exact ⟨_,_,rfl,by rw [Nat.zero_mul]; exact Cs.fresh w cs T⟩
  | succ i=>cases hi⟩
theorem j4u (xs:List Ac) (hs:xs.length<20\/UpA xs) (hok:∀ x∈xs,vW (wt x)) (ao:OA) (n cap:Nat) (hn:n<=4096) (w:World) (h:Fl 11 w ao n cap (xs.map acC)) :
  Calls Tryz.prog 131 #[.agg #[.int .i64 2,.slice none 0 0],.slice ao n cap] w fun e w'=>(∃ ao' m cap' C,e=.returned (.slice ao' m cap')/\FO 54 11 w' w.heap.size (.slice ao' m cap') ((C.filter nz).map acC)/\Nf C xs)/\Below w.heap.size w w':=by
 have hb0:Below w.heap.size w (w.alloc (.cells rgC.toArray 26)):=qJ _
 have hG:=Bl.fresh w rgC 26
 have hf:=h.next hb0
 have hlx:=hid h.lenMap
 clear h
 have hS0:w.heap.size<(w.alloc (.cells rgC.toArray 26)).heap.size:=hG.lt
 go_enter Tryz.func131,Tryz.ntmps131
 go_upto_region 1 with fail
 generalize hW0:(w.alloc (.cells rgC.toArray 26))=W0 at *
 have hW0:=hid hW0
 go_wp2_with fail
 refine (q9e xs ao n cap hn _ hf).mono ?_; rintro e w1 ⟨⟨v1,rfl,hc1⟩,hb1⟩
 have hbA:=qQ hb0 hb1
 have hG1:=hG.next hb1
 clear hf hb0 hG
 go_wp2_with fail
 refine (j5d _ v1 xs hs (by have:=hlx.out; omega) _ hb1.size hc1).mono ?_; rintro e w2 ⟨rfl,L,hc2,hperm,hup,hb2⟩
 have hG2:=hG1.under hb2 hS0
 have hbB:Below w.heap.size w w2:=hbA.trans (hb2.mono (by omega))
 have hperm:=hid hperm
 have hup:=hid hup
 obtain ⟨aL,cL,hv,hfl,hz⟩:=hc2.fl
 clear hz
 rw [List.length_map,hperm.out.length_eq,hlx.out] at hv hfl
 have hokL:Hid (∀ x∈L,vW (wt x)):=hid fun x hx=>hok x (hperm.out.mem_iff.1 hx)
 have hlL:Hid (L.length=n):=hid (by rw [hperm.out.length_eq]; exact hlx.out)
 subst hv
 have hc2':=hid hc2
 have hwB:w.heap.size<w2.heap.size:=hG2.lt
 generalize hGA:w.heap.size=GA at *
 clear hc1 hc2 hb1 hb2 hbA hG1 hS0 hW0
 go_wp2_with fail
 go_loopw [6,16] (fun ov iv wr=>∃ (ao':OA) (m cap' k:Nat) (C:List Ac),k<=n/\iv=.int .i64 (k:Int)/\ov=.slice ao' m cap'/\FO 54 11 wr w2.heap.size (.slice ao' m cap') (C.map acC)/\Hid (Nf C (L.take k))/\m<=k/\Below w2.heap.size w2 wr) (fun _ iv _=>n-(intOf iv).toNat)
 case atStart=>exact ⟨none,0,0,0,[],by omega,rfl,rfl,FO.nil _ _ _ _,hid Nf.nil,Nat.le_refl _,Below.refl _ _⟩
 case round =>
  obtain ⟨ao',m,cap',k,C,hk,rfl,rfl,hC,hnf,hmk,hb⟩:=hrel
  have hCm:=hid (z6p hC)
  have hfr:=hfl.next hb
  have hGr:=hG2.next hb
  by_cases hlt:k<n
  ·obtain ⟨b,rfl⟩:=j6x hc2'.out (by omega)
   obtain ⟨x,hxk⟩:∃ x,L[k]? = some x:=⟨_,List.getElem?_eq_getElem (by have:=hlL.out; omega)⟩
   have hcs:Cs wr b (k*11) (acC x):=hfr.cs (by rw [List.getElem?_map,hxk]; rfl)
   have hxo:=hokL.out x (List.mem_of_getElem? hxk)
   have htk:Hid (L.take (k+1)=L.take k++[x]):=hid (by rw [List.take_succ_eq_append_getElem (List.getElem?_eq_some_iff.1 hxk).1,(List.getElem?_eq_some_iff.1 hxk).2])
   have hle:Hid (∀ z∈L.take k,¬ klt (ky x) (ky z)):=hid fun z hz=>by
    obtain ⟨i,hi⟩:=List.mem_iff_getElem?.1 hz
    rw [List.getElem?_take] at hi
    split at hi
    ·rename_i hik; exact q2x hup.out hik hi hxk
    ·cases hi
   have hxk:=hid hxk
   have i1:(k:Int)<(n:Int):=by omega
   have i0:(0:Int)<=(k:Int):=by omega
   have hbX:Below wr.heap.size wr (wr.alloc (.cells (acC x).toArray 54)):=qJ _
   have hX:=Bl.fresh wr (acC x) 54
   go_upto_region 8 with ((first | ((with_reducible refine jV rfl _ rfl b (k*11) ?_ x hcs ?_); exact rfl) | ((with_reducible refine jZ rfl _ _ rfl _ _ ?_ x ?_ ?_ ?_); exact rfl; exact rfl; exact rfl)))
   have hC1:=hC.next hbX
   have hG3:=hGr.next hbX
   have hb1:=hb.trans (hbX.mono hb.size)
   have hgX:w2.heap.size<=wr.heap.size:=hb.size
   have hgo:∀ g',(Value.slice ao' m cap').ownBlock=some g'->g'<wr.heap.size:=fun g' hg'=>(hC.lt hg').2
   generalize hW1:wr.alloc (.cells (acC x).toArray 54)=W1 at *
   generalize hGX:wr.heap.size=GX at *
   clear hW1 hGX hC hGr hcs
   have hdr:=(Below.refl W1.heap.size W1).drew
   have hC2:=hC1.next hdr
   have hG4:=hG3.next hdr
   have hX2:=hX.next hdr
   have hb2:=hb1.trans (hdr.mono hb1.size)
   clear hC1 hG3 hX hb1
   have hplus:Hid (∀ W,Calls Tryz.prog 77 #[.agg #[.int .i64 2,.slice none 0 0],.agg #[.bool false,.slice none 0 0,.slice none 0 0,.int .i64 (tc (wt x):Int),.bool (ti (wt x)),.int .u64 0,.slice none 0 0,.slice none 0 0],.agg #[.bool false,.slice none 0 0,.slice none 0 0,.int .i64 (tc (none):Int),.bool (ti (none)),.int .u64 0,.slice none 0 0,.slice none 0 0]] W fun e w'=>e=.returned (.agg #[.bool false,.slice none 0 0,.slice none 0 0,.int .i64 (tc (wt x):Int),.bool (ti (wt x)),.int .u64 0,.slice none 0 0,.slice none 0 0])/\Below W.heap.size W w'):=hid fun W=>(q0s (wt x) none hxo q7v W).mono fun e w' ⟨h1,h2⟩=>⟨by rw [h1,jU],h2⟩
   by_cases hm0:m=0
   ·subst hm0
    have c1:decide ((0:Int)<(0:Int))=false:=decide_eq_false (by omega)
    have hCn:Hid (Nf (C++[x]) (L.take (k+1))):=hid (by
     have:C=[]:=List.eq_nil_of_length_eq_zero hCm.out
     subst this
     rw [htk.out]
     exact Nf.new (p:=[]) (r:=[]) hnf.out (fun y h=>by cases h) (fun y h=>by cases h))
    have hS:True:=trivial
    refine qV (fun _=>True) [] (by kernel_rfl) ?_
    refine wCp 0 rfl hS ?_
    refine wCp 1 rfl hS ?_
    refine wCp 2 rfl hS ?_
    refine wCu 3 rfl hS ?_
    refine wCu 4 rfl hS ?_
    refine wCu 5 rfl hS ?_
    refine wCu 6 rfl hS ?_
    refine wCu 7 rfl hS ?_
    refine wCu 8 rfl hS ?_
    refine wCu 9 rfl hS ?_
    refine wCu 10 rfl hS ?_
    refine wCp 11 rfl hS ?_
    refine qZ (by kernel_rfl) ?_ _
    go_simp
    generalize W1.drew=W2 at *
    go_upto_region 10 with fail
    have hdr3:=(Below.refl W2.heap.size W2).drew
    have hC3:=hC2.next hdr3
    have hG6:=hG4.next hdr3
    have hX3:=hX2.next hdr3
    have hb3:=hb2.trans (hdr3.mono hb2.size)
    have hS:Cs W2.drew GA 0 rgC/\Cs W2.drew GX 3 (twC (wt x)):=⟨hG6.cs,hX3.cs.part 3 _ (q9j x)⟩
    clear hdr3
    refine qV (fun w'=>Cs w' GA 0 rgC/\Cs w' GX 3 (twC (wt x))) [7] (by kernel_rfl) ?_
    refine wCl 0 (v:=?_) rfl ?_ hS ?_
    rotate_left
    ·intro w hw; obtain ⟨c1',c2'⟩:=hw; refine qX GA 0 ?_ c1'; go_simp
    refine wCp 1 rfl hS ?_
    refine wCl 2 (v:=?_) rfl ?_ hS ?_
    rotate_left
    ·intro w hw; obtain ⟨c1',c2'⟩:=hw; refine qY GX 3 ?_ (wt x) c2'; go_simp
    refine wCl 3 (v:=?_) rfl ?_ hS ?_
    rotate_left
    ·intro w hw; obtain ⟨c1',c2'⟩:=hw; refine qX GA 0 ?_ c1'; go_simp
    refine wpO (i:=4) rfl fun KK hKK=>?_
    go_simp
    go_at_call 76
    refine (vB _).mono ?_; rintro e w4 ⟨rfl,hb4⟩
    try go_simp
    refine hKK _ _ ⟨fun _=>⟨hS.1.next hb4,hS.2.next hb4⟩,?_⟩; clear hKK KK
    refine wpO (i:=5) rfl fun KK hKK=>?_
    go_simp
    go_at_call 77
    refine (hplus.out _).mono ?_; rintro e w5 ⟨rfl,hb5⟩
    try go_simp
    refine hKK _ _ ⟨fun _=>⟨(hS.1.next hb4).next hb5,(hS.2.next hb4).next hb5⟩,?_⟩; clear hKK KK
    refine wCp 6 rfl ⟨(hS.1.next hb4).next hb5,(hS.2.next hb4).next hb5⟩ ?_
    refine wpO (i:=7) rfl fun KK hKK=>?_
    rw [if_pos (by rfl)]
    have hX5:=(hX3.next hb4).next hb5
    have hC5:=(hC3.next hb4).next hb5
    have hG5:=(hG6.next hb4).next hb5
    have hb6:=(hb3.trans (hb4.mono hb3.size)).trans (hb5.mono (Nat.le_trans hb3.size hb4.size))
    refine q3c 45 (.tmp 55) (.tmp 54) rfl GX 54 (acC x) hX5 3 rfl (twC (wt x)) (Nat.le_refl 11) rfl (q0f _) Tryz.sizeTw ?_
    intro w6 hX6 hfr6
    replace hX6:Bl GX (acC x) 54 w6:=hX6
    refine lN hKK ?_; clear hKK KK
    refine qZ (by kernel_rfl) ?_ _
    go_simp
    have hC6:=hC5.same (w':=w6) fun g' hg'=>hfr6.block g' (hC5.lt hg').2 (fun e=>absurd (hgo g' hg') (by omega))
    have hb7:=hb6.trans (hfr6.below (fun k' hk'=>by omega) hb6.size)
    go_wp2_with (first | ((with_reducible refine jV rfl _ rfl GX 0 ?_ x hX6.cs ?_); exact rfl) | (at_builtin; refine q2c rfl (.tmp 56) (.tmp 58) 28 rfl 54 _ 11 152 Tryz.underlying28 Tryz.infoArc rfl (by decide) w2.heap.size _ (C.map acC) rfl (hC6.next (qJ _)) ⟨w6.heap.size,0,none⟩ 1 1 [acC x] rfl (Fl.lit1 w6 (acC x) _ 11 rfl) (vU [x]) (kK [x]) ?_ ?_ ?_ ?_; rw [List.length_map,hCm.out]; omega; rw [List.length_map,hCm.out]; omega; exact Nat.le_trans hb7.size (qJ _).size; intro v' w7 hC7 hg7 hb8; obtain ⟨ao2,cap2,hv2⟩:=hC7.form; rw [List.length_append,List.length_map,hCm.out] at hv2; subst hv2; have hb9:=hb7.trans (((qJ _).mono hb7.size).trans hb8); have hC8:FO 54 11 w7 w2.heap.size (.slice ao2 (0+[acC x].length) cap2) ((C++[x]).map acC):=(by rw [List.map_append]; exact hC7)))
    go_roundw
    case rel=>exact ⟨ao2,0+1,cap2,k+1,C++[x],by omega,by go_num,rfl,hC8,hCn,by omega,hb9⟩
    case measure=>simp [intOf]; omega
   ·obtain ⟨q,hmq⟩:∃ q,m=q+1:=⟨m-1,by omega⟩
    obtain ⟨g,rfl⟩:=j6x hC2 (by omega)
    obtain ⟨p,y,hpy,hpl⟩:∃ p y,C=p++[y]/\p.length=q:=by
     have hne:C≠[]:=fun e=>by have:=hCm.out; rw [e] at this; simp at this; omega
     exact ⟨C.dropLast,C.getLast hne,(List.dropLast_concat_getLast hne).symm,by rw [List.length_dropLast,hCm.out]; omega⟩
    have hqy:Hid (C[q]? = some y):=hid (by rw [hpy,<-hpl]; simp)
    have hCg:Hid (∀ W,FO 54 11 W w2.heap.size (.slice (some ⟨g,0,none⟩) m cap') (C.map acC)->Cs W g (q*11) (acC y)):=hid fun W h=>h.cs (by rw [List.getElem?_map,hqy.out]; rfl)
    have hyC:y∈C:=List.mem_of_getElem? hqy.out
    have hyo:vW (wt y):=z6f hnf.out (fun z hz=>hokL.out z (List.mem_of_mem_take hz)) y hyC
    have hyx:=z2q hnf.out hle.out hyC
    have Hpy:=hid hpy
    have Hpl:=hid hpl
    have Hmq:=hid hmq
    have c1:decide ((0:Int)<(m:Int))=true:=decide_eq_true (by omega)
    have c2:(0:Int)<(m:Int):=by omega
    have w1':IntKind.i64.wrap ((m:Int)-1)=(q:Int):=by rw [show (m:Int)-1=(q:Int) by omega]; exact IntWalk.i64_in _ (by omega)
    have c3:(0:Int)<=(q:Int):=by omega
    have c4:(q:Int)<(m:Int):=by omega
    have hqm:q<m:=by omega
    have c5:0<m:=by omega
    clear hpy hpl hmq hm0 hyC
    have hS:Cs W1.drew g (q*11) (acC y)/\Cs W1.drew GX 0 (acC x):=⟨hCg.out _ hC2,hX2.cs⟩
    by_cases hke:ky y=ky x
    ·have hke:=hid hke
     refine qV (fun w'=>Cs w' g (q*11) (acC y)/\Cs w' GX 0 (acC x)) [9,10,11] (by kernel_rfl) ?_
     refine wCp 0 rfl hS ?_
     refine wCl 1 (v:=.bool true) rfl ?_ hS ?_
     ·intro w _; first | (go_simp; done) | (go_simp; with_reducible rfl)
     refine wCl 2 (v:=.bool true) rfl ?_ hS ?_
     ·intro w _; first | (go_simp; done) | (go_simp; with_reducible rfl)
     refine wCg 3 rfl hS ?_
     refine wCg 4 rfl hS ?_
     refine wCg 5 rfl hS ?_
     refine wCg 6 rfl hS ?_
     refine wCm 7 (v:=?_) rfl ?_ hS ?_
     rotate_left
     ·intro w hw; obtain ⟨c1',c2'⟩:=hw; refine jQ g (q*11) ?_ y c1'; go_simp
     refine wCm 8 (v:=?_) rfl ?_ hS ?_
     rotate_left
     ·intro w hw; obtain ⟨c1',c2'⟩:=hw; refine jQ GX 0 ?_ x c2'; go_simp
     refine wpO (i:=9) rfl fun KK hKK=>?_
     rw [if_pos (by kernel_rfl)]
     go_simp
     go_at_call 170
     refine (j9h x y hke.out _).mono ?_; rintro e w9 ⟨rfl,hb9⟩
     try go_simp
     refine lN hKK ?_; clear hKK KK
     refine wpO (i:=10) rfl fun KK hKK=>?_
     rw [if_pos (by kernel_rfl)]
     go_simp
     refine lN hKK ?_; clear hKK KK
     refine wpO (i:=11) rfl fun KK hKK=>?_
     go_simp
     refine lN hKK ?_; clear hKK KK
     refine qZ (by kernel_rfl) ?_ _
     go_simp
     have hC3:=hC2.next hb9
     have hG6:=hG4.next hb9
     have hX3:=hX2.next hb9
     have hb3:=hb2.trans (hb9.mono hb2.size)
     go_upto_region 9 with fail
     have hdr3:=(Below.refl w9.heap.size w9).drew
     replace hC3:=hC3.next hdr3
     replace hG6:=hG6.next hdr3
     replace hX3:=hX3.next hdr3
     replace hb3:=hb3.trans (hdr3.mono hb3.size)
     clear hdr3 hS
     have hS:Cs w9.drew GA 0 rgC/\Cs w9.drew g (q*11+3) (twC (wt y))/\Cs w9.drew GX 3 (twC (wt x)):=⟨hG6.cs,(hCg.out _ hC3).part 3 _ (q9j y),hX3.cs.part 3 _ (q9j x)⟩
     refine qV (fun w'=>Cs w' GA 0 rgC/\Cs w' g (q*11+3) (twC (wt y))/\Cs w' GX 3 (twC (wt x))) [15] (by kernel_rfl) ?_
     refine wCp 0 rfl hS ?_
     refine wCp 1 rfl hS ?_
     refine wCp 2 rfl hS ?_
     refine wCl 3 (v:=?_) rfl ?_ hS ?_
     rotate_left
     ·intro w hw; obtain ⟨c1',c2',c3'⟩:=hw; refine qX GA 0 ?_ c1'; go_simp
     refine wCp 4 rfl hS ?_
     refine wCp 5 rfl hS ?_
     refine wCp 6 rfl hS ?_
     refine wCp 7 rfl hS ?_
     refine wCp 8 rfl hS ?_
     refine wCl 9 (v:=?_) rfl ?_ hS ?_
     rotate_left
     ·intro w hw; obtain ⟨c1',c2',c3'⟩:=hw; refine qY g (q*11+3) ?_ (wt y) c2'; go_simp
     refine wCp 10 rfl hS ?_
     refine wCl 11 (v:=?_) rfl ?_ hS ?_
     rotate_left
     ·intro w hw; obtain ⟨c1',c2',c3'⟩:=hw; refine qY GX 3 ?_ (wt x) c3'; go_simp
     refine wpO (i:=12) rfl fun KK hKK=>?_
     go_simp
     go_at_call 77
     refine (q0s (wt y) (wt x) hyo hxo _).mono ?_; rintro e w5 ⟨rfl,hb5⟩
     try go_simp
     refine hKK _ _ ⟨fun _=>⟨hS.1.next hb5,hS.2.1.next hb5,hS.2.2.next hb5⟩,?_⟩; clear hKK KK
     refine wCp 13 rfl ⟨hS.1.next hb5,hS.2.1.next hb5,hS.2.2.next hb5⟩ ?_
     refine wCp 14 rfl ⟨hS.1.next hb5,hS.2.1.next hb5,hS.2.2.next hb5⟩ ?_
     refine wpO (i:=15) rfl fun KK hKK=>?_
     rw [if_pos (by rfl)]
     have hC5:=hC3.next hb5
     have hb6:=hb3.trans (hb5.mono hb3.size)
     refine q5x 45 (.tmp 48) (.tmp 46) rfl 54 11 w2.heap.size g m cap' (C.map acC) hC5 q (q*11+3) 3 (acC y) (by rw [List.getElem?_map,hqy.out]; rfl) rfl rfl (twC (qP (wt y) (wt x))) (Nat.le_refl 11) rfl (q0f _) Tryz.sizeTw ?_
     intro w6 hC6 hfr6
     have hb7:=hb6.trans (hfr6.below (fun k' hk'=>by have h9:w2.heap.size<=g:=(hC5.lt rfl).1; omega) hb6.size)
     have hC7:FO 54 11 w6 w2.heap.size (.slice (some ⟨g,0,none⟩) m cap') ((p++[(y.1,y.2.1,y.2.2.1,qP (wt y) (wt x))]).map acC):=by
      have e1:(p++[(y.1,y.2.1,y.2.2.1,qP (wt y) (wt x))]).map acC=(C.map acC).set q (acC (y.1,y.2.1,y.2.2.1,qP (wt y) (wt x))):=by
       rw [Hpy.out,<-Hpl.out]; simp
      rw [e1]; exact hC6
     refine lN hKK ?_; clear hKK KK
     refine qZ (by kernel_rfl) ?_ _
     go_simp
     go_wp2_with fail
     go_roundw
     case rel=>exact ⟨some ⟨g,0,none⟩,m,cap',k+1,p++[(y.1,y.2.1,y.2.2.1,qP (wt y) (wt x))],by omega,by go_num,rfl,hC7,hid (by
      have h1:=hnf.out
      rw [Hpy.out] at h1
      rw [htk.out]
      exact Nf.same (p:=p) (r:=[]) h1 hke.out),by omega,hb7⟩
     case measure=>simp [intOf]; omega
    ·have hCn:Hid (Nf (C++[x]) (L.take (k+1))):=hid (by
      have hl:klt (ky y) (ky x):=by
       rcases j6n (ky y) (ky x) with h | h | h
       ·exact h
       ·exact absurd h hke
       ·exact absurd h hyx
      rw [htk.out]
      refine Nf.new (p:=C) (r:=[]) (by rw [List.append_nil]; exact hnf.out) (fun z hz=>?_) (fun y h=>by cases h)
      have hs:=hnf.out.1
      rw [Hpy.out] at hz hs
      rcases List.mem_append.1 hz with hz | hz
      ·exact q1f (j5b hs z hz) hl
      ·rw [List.mem_singleton.1 hz]; exact hl)
     have hke:=hid hke
     refine qV (fun w'=>Cs w' g (q*11) (acC y)/\Cs w' GX 0 (acC x)) [9,10,11] (by kernel_rfl) ?_
     refine wCp 0 rfl hS ?_
     refine wCl 1 (v:=.bool true) rfl ?_ hS ?_
     ·intro w _; first | (go_simp; done) | (go_simp; with_reducible rfl)
     refine wCl 2 (v:=.bool true) rfl ?_ hS ?_
     ·intro w _; first | (go_simp; done) | (go_simp; with_reducible rfl)
     refine wCg 3 rfl hS ?_
     refine wCg 4 rfl hS ?_
     refine wCg 5 rfl hS ?_
     refine wCg 6 rfl hS ?_
     refine wCm 7 (v:=?_) rfl ?_ hS ?_
     rotate_left
     ·intro w hw; obtain ⟨c1',c2'⟩:=hw; refine jQ g (q*11) ?_ y c1'; go_simp
     refine wCm 8 (v:=?_) rfl ?_ hS ?_
     rotate_left
     ·intro w hw; obtain ⟨c1',c2'⟩:=hw; refine jQ GX 0 ?_ x c2'; go_simp
     refine wpO (i:=9) rfl fun KK hKK=>?_
     rw [if_pos (by kernel_rfl)]
     go_simp
     go_at_call 170
     refine (j9g x y hke.out _).mono ?_; rintro e w9 ⟨⟨c,rfl,hc0⟩,hb9⟩
     have hcz:(c==0)=false:=by rw [beq_eq_false_iff_ne]; exact hc0
     try go_simp
     refine lN hKK ?_; clear hKK KK
     refine wpO (i:=10) rfl fun KK hKK=>?_
     rw [if_pos (by kernel_rfl)]
     go_simp
     refine lN hKK ?_; clear hKK KK
     refine wpO (i:=11) rfl fun KK hKK=>?_
     go_simp
     refine lN hKK ?_; clear hKK KK
     refine qZ (by kernel_rfl) ?_ _
     go_simp
     replace hC2:=hC2.next hb9
     replace hG4:=hG4.next hb9
     replace hX2:=hX2.next hb9
     replace hb2:=hb2.trans (hb9.mono hb2.size)
     clear hb9 hS
     obtain ⟨W2,rfl⟩:∃ W2,W2=w9:=⟨_,rfl⟩
     go_upto_region 10 with fail
     have hdr3:=(Below.refl W2.heap.size W2).drew
     have hC3:=hC2.next hdr3
     have hG6:=hG4.next hdr3
     have hX3:=hX2.next hdr3
     have hb3:=hb2.trans (hdr3.mono hb2.size)
     have hS:Cs W2.drew GA 0 rgC/\Cs W2.drew GX 3 (twC (wt x)):=⟨hG6.cs,hX3.cs.part 3 _ (q9j x)⟩
     clear hdr3
     refine qV (fun w'=>Cs w' GA 0 rgC/\Cs w' GX 3 (twC (wt x))) [7] (by kernel_rfl) ?_
     refine wCl 0 (v:=?_) rfl ?_ hS ?_
     rotate_left
     ·intro w hw; obtain ⟨c1',c2'⟩:=hw; refine qX GA 0 ?_ c1'; go_simp
     refine wCp 1 rfl hS ?_
     refine wCl 2 (v:=?_) rfl ?_ hS ?_
     rotate_left
     ·intro w hw; obtain ⟨c1',c2'⟩:=hw; refine qY GX 3 ?_ (wt x) c2'; go_simp
     refine wCl 3 (v:=?_) rfl ?_ hS ?_
     rotate_left
     ·intro w hw; obtain ⟨c1',c2'⟩:=hw; refine qX GA 0 ?_ c1'; go_simp
     refine wpO (i:=4) rfl fun KK hKK=>?_
     go_simp
     go_at_call 76
     refine (vB _).mono ?_; rintro e w4 ⟨rfl,hb4⟩
     try go_simp
     refine hKK _ _ ⟨fun _=>⟨hS.1.next hb4,hS.2.next hb4⟩,?_⟩; clear hKK KK
     refine wpO (i:=5) rfl fun KK hKK=>?_
     go_simp
     go_at_call 77
     refine (hplus.out _).mono ?_; rintro e w5 ⟨rfl,hb5⟩
     try go_simp
     refine hKK _ _ ⟨fun _=>⟨(hS.1.next hb4).next hb5,(hS.2.next hb4).next hb5⟩,?_⟩; clear hKK KK
     refine wCp 6 rfl ⟨(hS.1.next hb4).next hb5,(hS.2.next hb4).next hb5⟩ ?_
     refine wpO (i:=7) rfl fun KK hKK=>?_
     rw [if_pos (by rfl)]
     have hX5:=(hX3.next hb4).next hb5
     have hC5:=(hC3.next hb4).next hb5
     have hG5:=(hG6.next hb4).next hb5
     have hb6:=(hb3.trans (hb4.mono hb3.size)).trans (hb5.mono (Nat.le_trans hb3.size hb4.size))
     refine q3c 45 (.tmp 55) (.tmp 54) rfl GX 54 (acC x) hX5 3 rfl (twC (wt x)) (Nat.le_refl 11) rfl (q0f _) Tryz.sizeTw ?_
     intro w6 hX6 hfr6
     replace hX6:Bl GX (acC x) 54 w6:=hX6
     refine lN hKK ?_; clear hKK KK
     refine qZ (by kernel_rfl) ?_ _
     go_simp
     have hC6:=hC5.same (w':=w6) fun g' hg'=>hfr6.block g' (hC5.lt hg').2 (fun e=>absurd (hgo g' hg') (by omega))
     have hb7:=hb6.trans (hfr6.below (fun k' hk'=>by omega) hb6.size)
     go_wp2_with (first | ((with_reducible refine jV rfl _ rfl GX 0 ?_ x hX6.cs ?_); exact rfl) | (at_builtin; refine q2c rfl (.tmp 56) (.tmp 58) 28 rfl 54 _ 11 152 Tryz.underlying28 Tryz.infoArc rfl (by decide) w2.heap.size _ (C.map acC) rfl (hC6.next (qJ _)) ⟨w6.heap.size,0,none⟩ 1 1 [acC x] rfl (Fl.lit1 w6 (acC x) _ 11 rfl) (vU [x]) (kK [x]) ?_ ?_ ?_ ?_; rw [List.length_map,hCm.out]; omega; rw [List.length_map,hCm.out]; omega; exact Nat.le_trans hb7.size (qJ _).size; intro v' w7 hC7 hg7 hb8; obtain ⟨ao2,cap2,hv2⟩:=hC7.form; rw [List.length_append,List.length_map,hCm.out] at hv2; subst hv2; have hb9:=hb7.trans (((qJ _).mono hb7.size).trans hb8); have hC8:FO 54 11 w7 w2.heap.size (.slice ao2 (m+[acC x].length) cap2) ((C++[x]).map acC):=(by rw [List.map_append]; exact hC7)))
     go_roundw
     case rel=>exact ⟨ao2,m+1,cap2,k+1,C++[x],by omega,by go_num,rfl,hC8,hCn,by omega,hb9⟩
     case measure=>simp [intOf]; omega
  ·obtain rfl:k=n:=by omega
   have i1:¬ (k:Int)<(k:Int):=by omega
   have htk:Hid (Nf C xs):=hid (by
    have h1:=hnf.out
    rw [List.take_of_length_le (by rw [hlL.out]; exact Nat.le_refl _)] at h1
    exact h1.mono fun z=>hperm.out.mem_iff)
   go_wp2_with fail
   refine (j0x C w2.heap.size GA m cap' ao' _ hC hGr hwB hb.size (by omega)).mono ?_; rintro e w9 ⟨⟨a9,m9,c9,rfl,h9⟩,hb9⟩
   go_wp2_with fail
   go_ret
   exact ⟨⟨a9,m9,c9,C,rfl,by rw [hGA]; exact h9.mono (Nat.le_of_lt hwB),htk.out⟩,by rw [hGA]; exact hbB.trans ((hb.trans hb9).mono (by have:=hbB.size; omega))⟩
end
section
open Go.RowKit
theorem qK {P:Program} {dst:Option Tmp} {ty' ty:TypeId} {pos:String} {after:Array Edge} {guard:Option (Nat×Bool)} {x:Operand} {a:Act} {w:World}
  (b off:Nat) (hx:a.eval x=.pointer (some ⟨b,off,none⟩)) (v:Value) (hc:w.cell? ⟨b,off,none⟩=some v) (d:TypeDesc) (hu:P.underlying ty=some d) (hd:(match d with | .struct _ | .array _ _=>false | _=>true)=true) :
  (execOp a.eval ⟨dst,.load ty x,ty',pos,after,guard⟩).run P w=.ok (.value v) w:=by
 have hagg:(isAgg ty).run P w=.ok false w:=by
  unfold isAgg
  rw [Sem.run_bind,run_underlying hu w]
  cases d<;>simp_all
 unfold execOp
 simp [hx,Instr.loadAt,Instr.sureAddr,Sem.run_bind,loadVar,hagg,hc]
theorem jY {P:Program} {fn:Func} {p q:Tmp} {ty:TypeId} (h:fn.results=#[.cell p ty,.tmp q]) (tmps:Array Value) (w:World) (g:Nat) (cs:List Value) (d:TypeDesc)
  (hp:tmps.getD p undef=.pointer (some ⟨g,0,none⟩)) (hc:Cs w g 0 cs)
  (hu:P.underlying ty=some d) (hd:(match d with | .struct _ | .array _ _=>true | _=>false)=true) (hi:(P.info? ty).map (·.size)=some cs.length) :
  (results fn tmps).run P w=.ok (.tuple #[.agg cs.toArray,tmps.getD q undef]) w:=by
 have hp':tmps[p]?.getD undef=.pointer (some ⟨g,0,none⟩):=by simpa using hp
 simp [results,h,hp',asAddr,q1c w ty g 0 cs d hc hu hd hi]
theorem Tryz.sizeAuto:(Tryz.prog.info? 30).map (·.size)=some 7:=by kernel_rfl
theorem Tryz.sizeView:(Tryz.prog.info? 63).map (·.size)=some 8:=by kernel_rfl
theorem kG {e:TypeId} {k base n cap:Nat} {ao:OA} {w:World} {css:List (List Value)} (h:FO e k w base (.slice ao n cap) css) (hn:css.length=n):Fl k w ao n cap css:=by
 obtain ⟨ao',cap',e1,hf,_⟩:=h.fl
 injection e1 with e1 e2 e3
 subst e1 e3
 rw [hn] at hf
 exact hf
structure MoF (w:World) (base:Nat) (A:Au) (io:OA) (ci:Nat) (fo:OA) (cf:Nat) (ro:OA) (nr cr:Nat):Prop where
 ini:FO 45 8 w base (.slice io A.st ci) (A.ini.map twC)
 fin:FO 45 8 w base (.slice fo A.st cf) (A.fin.map twC)
 arcs:FO 54 11 w base (.slice ro nr cr) (A.arcs.map acC)
theorem j2c {e:TypeId} {k base m cap:Nat} {ao:OA} {w:World} {css:List (List Value)} (h:FO e k w base (.slice ao m cap) css):css.length=m:=by
 obtain ⟨ao',cap',hv⟩:=h.form
 injection hv with _ h1; exact h1.symm
section
variable {w w':World} {base:Nat} {A:Au} {io fo ro:OA} {ci cf nr cr:Nat}
theorem MoF.mo (h:MoF w base A io ci fo cf ro nr cr) (syms:Nat):Mo w syms A io ci fo cf ro nr cr:=⟨kG h.ini (j2c h.ini),kG h.fin (j2c h.fin),kG h.arcs (j2c h.arcs)⟩
theorem MoF.next (h:MoF w base A io ci fo cf ro nr cr) (hb:Below w.heap.size w w'):MoF w' base A io ci fo cf ro nr cr:=⟨h.ini.next hb,h.fin.next hb,h.arcs.next hb⟩
theorem MoF.mono {base':Nat} (h:MoF w base A io ci fo cf ro nr cr) (hb:base'<=base):MoF w base' A io ci fo cf ro nr cr:=⟨h.ini.mono hb,h.fin.mono hb,h.arcs.mono hb⟩
theorem FO.frH {e:TypeId} {k H:Nat} {v:Value} {css:List (List Value)} (h:FO e k w base v css) (hf:Fr (fun k=>k=H) w w') (hH:H<base):FO e k w' base v css :=
 h.same fun g hg=>hf.block g (h.lt hg).2 (fun e=>by have:=(h.lt hg).1; omega)
theorem MoF.fr {H:Nat} (h:MoF w base A io ci fo cf ro nr cr) (hf:Fr (fun k=>k=H) w w') (hH:H<base):MoF w' base A io ci fo cf ro nr cr:=⟨h.ini.frH hf hH,h.fin.frH hf hH,h.arcs.frH hf hH⟩
end
abbrev auC (syms st:Nat) (iv fv rv:Value):List Value:=[.int .i64 2,.slice none 0 0,.int .i64 (syms:Int),.int .i64 (st:Int),iv,fv,rv]
theorem kV (syms st:Nat) (a1 a2 a3:OA) (n1 n2 n3 c1 c2 c3:Nat):∀ u∈auC syms st (.slice a1 n1 c1) (.slice a2 n2 c2) (.slice a3 n3 c3),u.oneCell'=true:=fun u hu=>by
 simp at hu
 rcases hu with rfl | rfl | rfl | rfl | rfl | rfl | rfl<;>rfl
theorem q5y (syms:Nat) (A:Au) (hV:Vo syms A) (hs:A.arcs.length<20\/UpA A.arcs) (hli:A.ini.length=A.st) (hlf:A.fin.length=A.st) (io:OA) (ci:Nat) (fo:OA) (cf:Nat) (ro:OA) (nr cr:Nat) (w:World) (h:Mo w syms A io ci fo cf ro nr cr) :
  Calls Tryz.prog 89 #[.agg (auC syms A.st (.slice io A.st ci) (.slice fo A.st cf) (.slice ro nr cr)).toArray] w fun e w' =>
   (∃ io' ci' fo' cf' ro' nr' cr' C,e=.returned (.tuple #[.agg (auC syms A.st (.slice io' A.st ci') (.slice fo' A.st cf') (.slice ro' nr' cr')).toArray,.int .i64 0])/\MoF w' w.heap.size ⟨A.st,A.ini,A.fin,C.filter nz⟩ io' ci' fo' cf' ro' nr' cr'/\Nf C A.arcs)/\Below w.heap.size w w':=by
 have hli:=hid hli
 have hlf:=hid hlf
 have hb0:Below w.heap.size w ((w.alloc (.cells (auC syms A.st (.slice io A.st ci) (.slice fo A.st cf) (.slice ro nr cr)).toArray 30)).alloc (.cells #[.int .i64 0,.slice none 0 0,.int .i64 0,.int .i64 0,.slice none 0 0,.slice none 0 0,.slice none 0 0] 30)):=qQ (qJ _) (qJ _)
 have hG:=(Bl.fresh w (auC syms A.st (.slice io A.st ci) (.slice fo A.st cf) (.slice ro nr cr)) 30).new (.cells #[.int .i64 0,.slice none 0 0,.int .i64 0,.int .i64 0,.slice none 0 0,.slice none 0 0,.slice none 0 0] 30)
 have hR:=Bl.fresh' (G:=w.heap.size+1) (w.alloc (.cells (auC syms A.st (.slice io A.st ci) (.slice fo A.st cf) (.slice ro nr cr)).toArray 30)) [.int .i64 0,.slice none 0 0,.int .i64 0,.int .i64 0,.slice none 0 0,.slice none 0 0,.slice none 0 0] 30 (by simp)
 have hm:=hid (h.next hb0)
 clear h
 go_enter Tryz.func89,Tryz.ntmps89
 go_upto_region 1 with fail
 generalize hW0:((w.alloc (.cells (auC syms A.st (.slice io A.st ci) (.slice fo A.st cf) (.slice ro nr cr)).toArray 30)).alloc (.cells #[.int .i64 0,.slice none 0 0,.int .i64 0,.int .i64 0,.slice none 0 0,.slice none 0 0,.slice none 0 0] 30))=W0 at *
 generalize hGw:w.heap.size=G at *
 obtain ⟨⟨x0,x1,x2,x3⟩,x4,x5,x6⟩:=hG.seven
 have hW0:=hid hW0
 go_wp2_with fail
 refine (j4r syms A hV io ci fo cf ro nr cr _ hm.out).mono ?_; rintro e w1 ⟨rfl,hb1⟩
 replace hG:=hG.next hb1
 replace hR:=hR.next hb1
 replace hb0:=hb0.trans (hb1.mono (by rw [<-hGw]; exact hb0.size))
 have hmo:=hid (hm.out.next hb1)
 clear hb1 x0 x1 x2 x3 x4 x5 x6 hm
 go_upto_region 3 with fail
 have hb1:=(Below.refl w1.heap.size w1).drew
 replace hR:=hR.next hb1
 have hS:Cs w1.drew G 0 (auC syms A.st (.slice io A.st ci) (.slice fo A.st cf) (.slice ro nr cr)):=(hG.next hb1).cs
 clear hG
 refine qV (fun w'=>Cs w' G 0 (auC syms A.st (.slice io A.st ci) (.slice fo A.st cf) (.slice ro nr cr))) [23,24] (by kernel_rfl) ?_
 refine wCp 0 rfl hS ?_
 refine wCl 1 (v:=?_) rfl ?_ hS ?_
 rotate_left
 ·intro w hw; obtain hw:=hw; refine qX G 0 ?_ (hw.part 0 rgC (fun i v hi=>by match i,hi with | 0,h=>exact h | 1,h=>exact h)); go_simp
 refine wCp 3 rfl hS ?_
 refine wCl 4 (v:=?_) rfl ?_ hS ?_
 rotate_left
 ·intro w hw; obtain hw:=hw; refine qK G 2 ?_ (.int .i64 (syms:Int)) (hw 2 _ rfl) _ Tryz.underlying3 (by rfl); go_simp
 refine wCp 5 rfl hS ?_
 refine wCl 6 (v:=?_) rfl ?_ hS ?_
 rotate_left
 ·intro w hw; obtain hw:=hw; refine qK G 3 ?_ (.int .i64 (A.st:Int)) (hw 3 _ rfl) _ Tryz.underlying3 (by rfl); go_simp
 refine wCp 7 rfl hS ?_
 refine wCl 8 (v:=?_) rfl ?_ hS ?_
 rotate_left
 ·intro w hw; obtain hw:=hw; refine qX G 0 ?_ (hw.part 0 rgC (fun i v hi=>by match i,hi with | 0,h=>exact h | 1,h=>exact h)); go_simp
 refine wCp 9 rfl hS ?_
 refine wCl 10 (v:=?_) rfl ?_ hS ?_
 rotate_left
 ·intro w hw; obtain hw:=hw; refine qK G 4 ?_ (.slice io A.st ci) (hw 4 _ rfl) _ Tryz.underlying27 (by rfl); go_simp
 refine wCp 12 rfl hS ?_
 refine wCl 13 (v:=?_) rfl ?_ hS ?_
 rotate_left
 ·intro w hw; obtain hw:=hw; refine qX G 0 ?_ (hw.part 0 rgC (fun i v hi=>by match i,hi with | 0,h=>exact h | 1,h=>exact h)); go_simp
 refine wCp 14 rfl hS ?_
 refine wCl 15 (v:=?_) rfl ?_ hS ?_
 rotate_left
 ·intro w hw; obtain hw:=hw; refine qK G 5 ?_ (.slice fo A.st cf) (hw 5 _ rfl) _ Tryz.underlying27 (by rfl); go_simp
 refine wCp 17 rfl hS ?_
 refine wCl 18 (v:=?_) rfl ?_ hS ?_
 rotate_left
 ·intro w hw; obtain hw:=hw; refine qX G 0 ?_ (hw.part 0 rgC (fun i v hi=>by match i,hi with | 0,h=>exact h | 1,h=>exact h)); go_simp
 refine wCp 19 rfl hS ?_
 refine wCl 20 (v:=?_) rfl ?_ hS ?_
 rotate_left
 ·intro w hw; obtain hw:=hw; refine qK G 6 ?_ (.slice ro nr cr) (hw 6 _ rfl) _ Tryz.underlying28 (by rfl); go_simp
 refine wpO (i:=2) rfl fun KK hKK=>?_
 go_simp
 go_at_call 129
 refine (j5j _).mono ?_; rintro e w2 ⟨rfl,hb2⟩
 try go_simp
 refine hKK _ _ ⟨fun _=>(hS.next hb2),?_⟩; clear hKK KK
 refine wpO (i:=11) rfl fun KK hKK=>?_
 go_simp
 go_at_call 130
 have hm2:=hmo.out.next (qQ hb1 hb2)
 refine (j2k A.ini hV.ini io A.st ci (by have:=hV.st; omega) _ hm2.ini).mono ?_; rintro e w3 ⟨⟨v3,rfl,hc3⟩,hb3⟩
 obtain ⟨a3,c3,hv3,hf3,hz3⟩:=hc3.fl
 rw [List.length_map,hli.out] at hv3 hf3
 subst hv3
 clear hz3
 try go_simp
 refine hKK _ _ ⟨fun _=>((hS.next hb2).next hb3),?_⟩; clear hKK KK
 refine wpO (i:=16) rfl fun KK hKK=>?_
 go_simp
 go_at_call 130
 have hm3:=hm2.next hb3
 refine (j2k A.fin hV.fin fo A.st cf (by have:=hV.st; omega) _ hm3.fin).mono ?_; rintro e w4 ⟨⟨v4,rfl,hc4⟩,hb4⟩
 obtain ⟨a4,c4,hv4,hf4,hz4⟩:=hc4.fl
 rw [List.length_map,hlf.out] at hv4 hf4
 subst hv4
 clear hz4
 try go_simp
 refine hKK _ _ ⟨fun _=>(((hS.next hb2).next hb3).next hb4),?_⟩; clear hKK KK
 refine wpO (i:=21) rfl fun KK hKK=>?_
 go_simp
 go_at_call 131
 have hm4:=hm3.next hb4
 refine (j4u A.arcs hs (fun x hx=>(hV.arcs x hx).2.2.2) ro nr cr (by have:=hm4.arcs.lenMap; have:=hV.num; omega) _ hm4.arcs).mono ?_; rintro e w5 ⟨⟨a5,n5,c5,C,rfl,hc5,hnf⟩,hb5⟩
 try go_simp
 refine hKK _ _ ⟨fun _=>((((hS.next hb2).next hb3).next hb4).next hb5),?_⟩; clear hKK KK
 refine wCp 22 rfl ((((hS.next hb2).next hb3).next hb4).next hb5) ?_
 refine wpO (i:=23) rfl fun KK hKK=>?_
 rw [if_pos (by rfl)]
 have hR5:=(((hR.next hb2).next hb3).next hb4).next hb5
 refine qB 30 (.tmp 2) (.tmp 30) rfl (G+1) 30 _ hR5 rfl (auC syms A.st (.slice a3 A.st c3) (.slice a4 A.st c4) (.slice a5 n5 c5)) rfl rfl (kV _ _ _ _ _ _ _ _ _ _ _) Tryz.sizeAuto ?_
 intro w6 hR6 hfr6
 refine lN hKK ?_; clear hKK KK
 refine wpO (i:=24) rfl fun KK hKK=>?_
 go_simp
 refine lN hKK ?_; clear hKK KK
 refine qZ (by kernel_rfl) ?_ _
 go_simp
 go_wp2_with fail
 refine bodyPost_ret (jY rfl _ _ (G+1) _ _ rfl hR6.cs Tryz.underlying30 rfl Tryz.sizeAuto) rfl ⟨⟨a3,c3,a4,c4,a5,n5,c5,C,rfl,?_,hnf⟩,?_⟩
 ·have hsz:G+1<w2.heap.size:=Nat.lt_of_lt_of_le hR.lt hb2.size
  have hsz3:G+1<w3.heap.size:=Nat.lt_of_lt_of_le hsz hb3.size
  have hsz4:G+1<w4.heap.size:=Nat.lt_of_lt_of_le hsz3 hb4.size
  have k3:=((hc3.next hb4).next hb5).same (w':=w6) fun g hg=>hfr6.block g ((((hc3.next hb4).next hb5).lt hg).2) (fun e=>by have:=(hc3.lt hg).1; omega)
  have k4:=(hc4.next hb5).same (w':=w6) fun g hg=>hfr6.block g (((hc4.next hb5).lt hg).2) (fun e=>by have:=(hc4.lt hg).1; omega)
  have k5:=hc5.same (w':=w6) fun g hg=>hfr6.block g ((hc5.lt hg).2) (fun e=>by have:=(hc5.lt hg).1; omega)
  have hg:w.heap.size<=w2.heap.size:=by rw [hGw]; omega
  exact ⟨k3.mono hg,k4.mono (by omega),k5.mono (by omega)⟩
 ·have hq:=qQ (qQ (qQ (qQ hb1 hb2) hb3) hb4) hb5
  have h1:=hb0.trans (hq.mono (by rw [<-hGw]; exact hb0.size))
  rw [hGw]; exact h1.trans (hfr6.below (fun k hk=>by have:=hGw; omega) (by rw [<-hGw]; exact h1.size))
end
end Go.Proofs.YtnapapijhhldpaaGreatDoor

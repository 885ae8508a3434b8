/-
  Texts joined by program: Da, Twe. No condition of its own.
-/
import Derived.Test.YtnapapijhhldpaaGreatDoorJcAC
namespace Go.Proofs.YtnapapijhhldpaaGreatDoor
set_option linter.unusedSimpArgs false
set_option linter.unusedVariables false
section
abbrev Tw:=Option Nat
def twLess:Tw→Tw→Bool
 | some a,some b=>decide (a<b)
 | some _,none=>true
 | none,_=>false
def twLe:Tw→Tw→Prop
 | some a,some b=>a≤b
 | _,none=>True
 | none,some _=>False
def twPlus (v w:Tw):Tw:=if twLess w v then w else v
theorem twPlus_none (v:Tw):twPlus v none=v:=by cases v<;>rfl
theorem none_twPlus (v:Tw):twPlus none v=v:=by cases v<;>rfl
theorem twPlus_some (a b:Nat):twPlus (some a) (some b)=some (min a b):=by
 unfold twPlus twLess
 by_cases h:b<a
 ·rw [if_pos (decide_eq_true h)]; congr 1; omega
 ·rw [if_neg (by simp [h])]; congr 1; omega
theorem twPlus_cases (v w:Tw):(twPlus v w=v∧twLe v w)∨(twPlus v w=w∧twLe w v):=by
 cases v with
 | none=>exact .inr ⟨none_twPlus w,by cases w<;>trivial⟩
 | some a =>
  cases w with
  | none=>exact .inl ⟨rfl,trivial⟩
  | some b =>
   rw [twPlus_some]
   rcases Nat.le_total a b with h | h
   ·exact .inl ⟨by congr 1; omega,h⟩
   ·exact .inr ⟨by congr 1; omega,h⟩
theorem twLe_refl (v:Tw):twLe v v:=by cases v<;>simp [twLe]
theorem twLe_trans {u v w:Tw} (h:twLe u v) (k:twLe v w):twLe u w:=by
 cases u<;>cases v<;>cases w<;>simp [twLe] at*<;> omega
theorem twLe_antisymm {v w:Tw} (h:twLe v w) (k:twLe w v):v=w:=by
 cases v<;>cases w<;>simp [twLe] at*<;> omega
theorem twPlus_le_left (v w:Tw):twLe (twPlus v w) v:=by
 rcases twPlus_cases v w with ⟨h,k⟩ | ⟨h,k⟩<;>rw [h]
 ·exact twLe_refl v
 ·exact k
theorem twPlus_le_right (v w:Tw):twLe (twPlus v w) w:=by
 rcases twPlus_cases v w with ⟨h,k⟩ | ⟨h,k⟩<;>rw [h]
 ·exact k
 ·exact twLe_refl w
abbrev Ky:=Nat×Nat×Nat
abbrev Ac:=Nat×Nat×Nat×Tw
def ky (x:Ac):Ky:=(x.1,x.2.1,x.2.2.1)
def wt (x:Ac):Tw:=x.2.2.2
def klt (x y:Ky):Prop:=x.1<y.1∨(x.1=y.1∧(x.2.1<y.2.1∨(x.2.1=y.2.1∧x.2.2<y.2.2)))
instance (x y:Ky):Decidable (klt x y):=by unfold klt; exact inferInstance
theorem klt_trans {x y z:Ky} (h:klt x y) (k:klt y z):klt x z:=by unfold klt at *; omega
theorem klt_irrefl (x:Ky):¬ klt x x:=by unfold klt; omega
theorem klt_asymm {x y:Ky} (h:klt x y):¬ klt y x:=fun k=>klt_irrefl x (klt_trans h k)
theorem klt_tri (x y:Ky):klt x y∨x=y∨klt y x:=by
 obtain ⟨a,b,c⟩:=x
 obtain ⟨d,e,f⟩:=y
 unfold klt
 simp only [Prod.mk.injEq]
 omega
def cmpN (a b:Nat):Int:=if a<b then -1 else if b<a then 1 else 0
def cmpK (x y:Ky):Int:=if cmpN x.1 y.1≠0 then cmpN x.1 y.1 else if cmpN x.2.1 y.2.1≠0 then cmpN x.2.1 y.2.1 else cmpN x.2.2 y.2.2
theorem cmpN_zero {a b:Nat}:cmpN a b=0↔a=b:=by
 unfold cmpN
 split
 ·constructor<;>intro h<;>omega
 ·split
  ·constructor<;>intro h<;>omega
  ·constructor<;>intro h<;>omega
theorem cmpN_neg {a b:Nat}:cmpN a b<0↔a<b:=by
 unfold cmpN
 split
 ·constructor<;>intro h<;>omega
 ·split
  ·constructor<;>intro h<;>omega
  ·constructor<;>intro h<;>omega
theorem cmpK_zero {x y:Ky}:cmpK x y=0↔x=y:=by
 obtain ⟨a,b,c⟩:=x
 obtain ⟨d,e,f⟩:=y
 unfold cmpK
 simp only [Prod.mk.injEq]
 have h1:=@cmpN_zero a d
 have h2:=@cmpN_zero b e
 have h3:=@cmpN_zero c f
 split
 ·rename_i h; exact ⟨fun k=>absurd k h,fun k=>absurd (h1.2 k.1) h⟩
 ·rename_i h
  have e1:=h1.1 (Classical.not_not.1 h)
  split
  ·rename_i k; exact ⟨fun m=>absurd m k,fun m=>absurd (h2.2 m.2.1) k⟩
  ·rename_i k
   have e2:=h2.1 (Classical.not_not.1 k)
   exact ⟨fun m=>⟨e1,e2,h3.1 m⟩,fun m=>h3.2 m.2.2⟩
theorem cmpK_neg {x y:Ky}:cmpK x y<0↔klt x y:=by
 obtain ⟨a,b,c⟩:=x
 obtain ⟨d,e,f⟩:=y
 unfold cmpK klt
 simp only
 have h1:=@cmpN_zero a d
 have h2:=@cmpN_zero b e
 have n1:=@cmpN_neg a d
 have n2:=@cmpN_neg b e
 have n3:=@cmpN_neg c f
 split
 ·rename_i h
  have:a≠d:=fun k=>h (h1.2 k)
  rw [n1]; omega
 ·rename_i h
  have e1:=h1.1 (Classical.not_not.1 h)
  split
  ·rename_i k
   have:b≠e:=fun m=>k (h2.2 m)
   rw [n2]; omega
  ·rename_i k
   have e2:=h2.1 (Classical.not_not.1 k)
   rw [n3]; omega
def Ss:List Ac→Prop
 | []=>True
 | x::r=>(∀ y∈r,klt (ky x) (ky y))∧Ss r
theorem Ss.filter (p:Ac→Bool):∀ {l:List Ac},Ss l→Ss (l.filter p)
 | [],_=>trivial
 | x::r,h=>by
  rw [List.filter_cons]
  split
  ·exact ⟨fun y hy=>h.1 y (List.mem_filter.1 hy).1,Ss.filter p h.2⟩
  ·exact Ss.filter p h.2
theorem Ss.append:∀ {l m:List Ac},Ss l→Ss m→(∀ x∈l,∀ y∈m,klt (ky x) (ky y))→Ss (l++m)
 | [],m,_,hm,_=>hm
 | x::r,m,h,hm,hx=>⟨fun y hy=>by
   rcases List.mem_append.1 hy with hy | hy
   ·exact h.1 y hy
   ·exact hx x List.mem_cons_self y hy,Ss.append h.2 hm fun z hz=>hx z (List.mem_cons_of_mem _ hz)⟩
theorem Ss.left:∀ {l m:List Ac},Ss (l++m)→Ss l
 | [],_,_=>trivial
 | x::r,m,h=>⟨fun y hy=>h.1 y (List.mem_append_left _ hy),Ss.left h.2⟩
theorem Ss.right:∀ {l m:List Ac},Ss (l++m)→Ss m
 | [],_,h=>h
 | x::r,m,h=>Ss.right (l:=r) h.2
def LK (l:List Ac) (K:Ky) (v:Tw):Prop:=(∃ x∈l,ky x=K∧wt x=v)∧∀ x∈l,ky x=K→twLe v (wt x)
theorem LK.unique {l:List Ac} {K:Ky} {v w:Tw} (h:LK l K v) (k:LK l K w):v=w:=by
 obtain ⟨⟨x,hx,h1,h2⟩,h3⟩:=h
 obtain ⟨⟨y,hy,k1,k2⟩,k3⟩:=k
 exact twLe_antisymm (by rw [←k2]; exact h3 y hy k1) (by rw [←h2]; exact k3 x hx h1)
def Nf (out l:List Ac):Prop:=Ss out∧(∀ x∈out,LK l (ky x) (wt x))∧∀ x∈l,∃ y∈out,ky y=ky x
theorem ky_wt {x y:Ac} (h1:ky x=ky y) (h2:wt x=wt y):x=y:=by
 obtain ⟨a,b,c,d⟩:=x
 obtain ⟨e,f,g,h⟩:=y
 simp only [ky,wt,Prod.mk.injEq] at *
 simp [h1,h2]
theorem Ss.head {x y:Ac} {r s:List Ac} (h:Ss (x::r)) (k:Ss (y::s)) (h1:∃ z∈y::s,ky z=ky x) (h2:∃ z∈x::r,ky z=ky y):ky x=ky y:=by
 obtain ⟨z,hz,e⟩:=h1
 rcases List.mem_cons.1 hz with rfl | hz
 ·exact e.symm
 ·obtain ⟨u,hu,e'⟩:=h2
  rcases List.mem_cons.1 hu with rfl | hu
  ·exact e'
  ·have a:=k.1 z hz
   have b:=h.1 u hu
   rw [e] at a
   rw [e'] at b
   exact absurd a (klt_asymm b)
theorem Ss.eq_of_mem:∀ {l m:List Ac},Ss l→Ss m→(∀ x∈l,x∈m)→(∀ x∈m,x∈l)→l=m
 | [],[],_,_,_,_=>rfl
 | [],y::s,_,_,_,h=>by cases h y List.mem_cons_self
 | x::r,[],_,_,h,_=>by cases h x List.mem_cons_self
 | x::r,y::s,h,k,h1,h2=>by
  have hk:=Ss.head h k ⟨x,h1 x List.mem_cons_self,rfl⟩ ⟨y,h2 y List.mem_cons_self,rfl⟩
  have hxy:x=y:=by
   rcases List.mem_cons.1 (h1 x List.mem_cons_self) with e | e
   ·exact e
   ·have:=k.1 x e
    rw [hk] at this
    exact absurd this (klt_irrefl _)
  subst hxy
  congr 1
  refine Ss.eq_of_mem h.2 k.2 (fun z hz=>?_) fun z hz=>?_
  ·rcases List.mem_cons.1 (h1 z (List.mem_cons_of_mem _ hz)) with rfl | e
   ·exact absurd (h.1 z hz) (klt_irrefl _)
   ·exact e
  ·rcases List.mem_cons.1 (h2 z (List.mem_cons_of_mem _ hz)) with rfl | e
   ·exact absurd (k.1 z hz) (klt_irrefl _)
   ·exact e
theorem Nf.unique {a b l:List Ac} (h:Nf a l) (k:Nf b l):a=b:=by
 have key:∀ {a b:List Ac},Nf a l→Nf b l→∀ x∈a,x∈b:=fun {a b} h k x hx=>by
  obtain ⟨⟨z,hz,e1,e2⟩,_⟩:=h.2.1 x hx
  obtain ⟨y,hy,e⟩:=k.2.2 z hz
  have hyx:ky y=ky x:=e.trans e1
  have:=(h.2.1 x hx).unique (by rw [←hyx]; exact k.2.1 y hy)
  rw [ky_wt hyx.symm this]
  exact hy
 exact Ss.eq_of_mem h.1 k.1 (key h k) (key k h)
theorem Ss.inj:∀ {l:List Ac} {x y:Ac},Ss l→x∈l→y∈l→ky y=ky x→x=y
 | z::r,x,y,h,hx,hy,e=>by
  rcases List.mem_cons.1 hx with rfl | hx1
  ·rcases List.mem_cons.1 hy with rfl | hy1
   ·rfl
   ·have:=h.1 y hy1
    rw [e] at this
    exact absurd this (klt_irrefl _)
  ·rcases List.mem_cons.1 hy with rfl | hy1
   ·have:=h.1 x hx1
    rw [e] at this
    exact absurd this (klt_irrefl _)
   ·exact Ss.inj h.2 hx1 hy1 e
theorem Nf.self {l:List Ac} (h:Ss l):Nf l l:=by
 refine ⟨h,fun x hx=>⟨⟨x,hx,rfl,rfl⟩,fun y hy e=>?_⟩,fun x hx=>⟨x,hx,rfl⟩⟩
 rw [Ss.inj h hx hy e]
 exact twLe_refl _
theorem Nf.nil:Nf [] []:=⟨trivial,fun x h=>(by cases h),fun x h=>by cases h⟩
theorem LK.mono {l m:List Ac} {K:Ky} {v:Tw} (h:LK l K v) (hs:∀ x,x∈l↔x∈m):LK m K v:=by
 obtain ⟨⟨x,hx,h1⟩,h2⟩:=h
 exact ⟨⟨x,(hs x).1 hx,h1⟩,fun y hy=>h2 y ((hs y).2 hy)⟩
theorem Nf.mono {out l m:List Ac} (h:Nf out l) (hs:∀ x,x∈l↔x∈m):Nf out m :=
 ⟨h.1,fun x hx=>(h.2.1 x hx).mono hs,fun x hx=>h.2.2 x ((hs x).2 hx)⟩
theorem Nf.same {p r l:List Ac} {y x:Ac} (h:Nf (p++y::r) l) (hk:ky y=ky x):Nf (p++(y.1,y.2.1,y.2.2.1,twPlus (wt y) (wt x))::r) (l++[x]):=by
 obtain ⟨h1,h2,h3⟩:=h
 have hyk:ky (y.1,y.2.1,y.2.2.1,twPlus (wt y) (wt x))=ky y:=rfl
 have hs:Ss (p++(y.1,y.2.1,y.2.2.1,twPlus (wt y) (wt x))::r):=by
  clear h2 h3
  induction p with
  | nil=>exact ⟨fun z hz=>h1.1 z hz,h1.2⟩
  | cons q p ih =>
   refine ⟨fun z hz=>?_,ih h1.2⟩
   rcases List.mem_append.1 hz with hz | hz
   ·exact h1.1 z (List.mem_append_left _ hz)
   ·rcases List.mem_cons.1 hz with rfl | hz
    ·exact h1.1 y (List.mem_append_right _ List.mem_cons_self)
    ·exact h1.1 z (List.mem_append_right _ (List.mem_cons_of_mem _ hz))
 have old:∀ z∈p++r,z∈p++y::r:=fun z hz=>by
  rcases List.mem_append.1 hz with hz | hz
  ·exact List.mem_append_left _ hz
  ·exact List.mem_append_right _ (List.mem_cons_of_mem _ hz)
 have hdis:∀ {p:List Ac},Ss (p++y::r)→∀ z∈p,klt (ky z) (ky y):=fun {p}=>by
  induction p with
  | nil=>intro _ z hz; cases hz
  | cons q p ih =>
   intro h z hz
   rcases List.mem_cons.1 hz with rfl | hz
   ·exact h.1 y (List.mem_append_right _ List.mem_cons_self)
   ·exact ih h.2 z hz
 have hne:∀ z∈p++r,ky z≠ky x:=fun z hz e=>by
  rw [←hk] at e
  rcases List.mem_append.1 hz with hz | hz
  ·have:=hdis h1 z hz
   rw [e] at this
   exact klt_irrefl _ this
  ·have:=(Ss.right h1).1 z hz
   rw [e] at this
   exact klt_irrefl _ this
 refine ⟨hs,fun z hz=>?_,fun z hz=>?_⟩
 ·have hz':z∈p++r∨z=(y.1,y.2.1,y.2.2.1,twPlus (wt y) (wt x)):=by
   rcases List.mem_append.1 hz with hz | hz
   ·exact .inl (List.mem_append_left _ hz)
   ·rcases List.mem_cons.1 hz with rfl | hz
    ·exact .inr rfl
    ·exact .inl (List.mem_append_right _ hz)
  rcases hz' with hz1 | rfl
  ·obtain ⟨⟨u,hu,e1,e2⟩,hm⟩:=h2 z (old z hz1)
   refine ⟨⟨u,List.mem_append_left _ hu,e1,e2⟩,fun v hv e=>?_⟩
   rcases List.mem_append.1 hv with hv | hv
   ·exact hm v hv e
   ·obtain rfl:v=x:=by simpa using hv
    exact absurd e.symm (hne z hz1)
  ·obtain ⟨⟨u,hu,e1,e2⟩,hm⟩:=h2 y (List.mem_append_right _ List.mem_cons_self)
   show LK (l++[x]) (ky y) (twPlus (wt y) (wt x))
   refine ⟨?_,fun v hv e=>?_⟩
   ·rcases twPlus_cases (wt y) (wt x) with ⟨e,_⟩ | ⟨e,_⟩<;>rw [e]
    ·exact ⟨u,List.mem_append_left _ hu,e1,e2⟩
    ·exact ⟨x,List.mem_append_right _ List.mem_cons_self,hk.symm,rfl⟩
   ·rcases List.mem_append.1 hv with hv | hv
    ·exact twLe_trans (twPlus_le_left _ _) (hm v hv e)
    ·obtain rfl:v=x:=by simpa using hv
     exact twPlus_le_right _ _
 ·rcases List.mem_append.1 hz with hz | hz
  ·obtain ⟨u,hu,e⟩:=h3 z hz
   rcases List.mem_append.1 hu with hu | hu
   ·exact ⟨u,List.mem_append_left _ hu,e⟩
   ·rcases List.mem_cons.1 hu with rfl | hu
    ·exact ⟨_,List.mem_append_right _ List.mem_cons_self,by rw [hyk]; exact e⟩
    ·exact ⟨u,List.mem_append_right _ (List.mem_cons_of_mem _ hu),e⟩
  ·obtain rfl:z=x:=by simpa using hz
   exact ⟨_,List.mem_append_right _ List.mem_cons_self,by rw [hyk]; exact hk⟩
theorem Nf.new {p r l:List Ac} {x:Ac} (h:Nf (p++r) l) (hp:∀ y∈p,klt (ky y) (ky x)) (hr:∀ y∈r,klt (ky x) (ky y)):Nf (p++x::r) (l++[x]):=by
 obtain ⟨h1,h2,h3⟩:=h
 have hne:∀ z∈p++r,ky z≠ky x:=fun z hz e=>by
  rcases List.mem_append.1 hz with hz | hz
  ·have:=hp z hz; rw [e] at this; exact klt_irrefl _ this
  ·have:=hr z hz; rw [e] at this; exact klt_irrefl _ this
 refine ⟨Ss.append (Ss.left h1) ⟨hr,Ss.right h1⟩ fun a ha b hb=>?_,fun z hz=>?_,fun z hz=>?_⟩
 ·rcases List.mem_cons.1 hb with rfl | hb
  ·exact hp a ha
  ·exact klt_trans (hp a ha) (hr b hb)
 ·have hz':z∈p++r∨z=x:=by
   rcases List.mem_append.1 hz with hz | hz
   ·exact .inl (List.mem_append_left _ hz)
   ·rcases List.mem_cons.1 hz with rfl | hz
    ·exact .inr rfl
    ·exact .inl (List.mem_append_right _ hz)
  rcases hz' with hz1 | rfl
  ·obtain ⟨⟨u,hu,e1,e2⟩,hm⟩:=h2 z hz1
   refine ⟨⟨u,List.mem_append_left _ hu,e1,e2⟩,fun v hv e=>?_⟩
   rcases List.mem_append.1 hv with hv | hv
   ·exact hm v hv e
   ·obtain rfl:v=x:=by simpa using hv
    exact absurd e.symm (hne z hz1)
  ·refine ⟨⟨z,List.mem_append_right _ List.mem_cons_self,rfl,rfl⟩,fun v hv e=>?_⟩
   rcases List.mem_append.1 hv with hv | hv
   ·obtain ⟨u,hu,e'⟩:=h3 v hv
    exact absurd (e'.trans e) (hne u hu)
   ·obtain rfl:v=z:=by simpa using hv
    exact twLe_refl _
 ·rcases List.mem_append.1 hz with hz | hz
  ·obtain ⟨u,hu,e⟩:=h3 z hz
   rcases List.mem_append.1 hu with hu | hu
   ·exact ⟨u,List.mem_append_left _ hu,e⟩
   ·exact ⟨u,List.mem_append_right _ (List.mem_cons_of_mem _ hu),e⟩
  ·obtain rfl:z=x:=by simpa using hz
   exact ⟨z,List.mem_append_right _ List.mem_cons_self,rfl⟩
def nz (x:Ac):Bool:=(wt x).isSome
def NF (out l:List Ac):Prop:=∃ m,Nf m l∧out=m.filter nz
theorem NF.unique {a b l:List Ac} (h:NF a l) (k:NF b l):a=b:=by
 obtain ⟨m,h1,rfl⟩:=h
 obtain ⟨n,k1,rfl⟩:=k
 rw [h1.unique k1]
theorem NF.ss {a l:List Ac} (h:NF a l):Ss a:=by obtain ⟨m,h1,rfl⟩:=h; exact h1.1.filter _
theorem NF.self {l:List Ac} (h:Ss l) (hz:∀ x∈l,nz x=true):NF l l:=⟨l,Nf.self h,(List.filter_eq_self.2 hz).symm⟩
end
section
open Go.RowKit
set_option maxHeartbeats 1000000 in
theorem zeroT_any (w:World):Calls Tryz.prog 76 #[.agg #[.int .i64 2,.slice none 0 0]] w fun e w'=>e=.returned (.agg #[.bool false,.slice none 0 0,.slice none 0 0,.int .i64 0,.bool true,.int .u64 0,.slice none 0 0,.slice none 0 0])∧Below w.heap.size w w':=by
 obtain ⟨hb0,hA,hB⟩:=ring_box w 0 false
 go_enter Tryz.func76,Tryz.ntmps76
 go_wp2_with fail
 refine (validT_any _).mono ?_; rintro e w1 ⟨rfl,hb1⟩
 replace hA:=hA.next hb1
 replace hB:=hB.next hb1
 have hb:=below_chain hb0 hb1
 obtain ⟨r0,r1⟩:=hA.two
 clear hb0 hb1
 go_wp2_with fail
 refine (kindT_any _).mono ?_; rintro e w2 ⟨⟨u,p,rfl⟩,hb2⟩
 have hfl:=algF1 u p
 replace hA:=hA.next hb2
 replace hB:=hB.next hb2
 have hbb:=below_chain hb hb2
 clear r0 r1 hb2
 go_wp2_with fail
 refine (costs2_any _).mono ?_; rintro e w3 ⟨rfl,hb3⟩
 replace hB:=hB.next hb3
 have hbc:=below_chain hbb hb3
 have hO2:=hB.put8 (.bool false) (.slice none 0 0) (.slice none 0 0) (.int .i64 0) (.bool true) (.int .u64 0) (.slice none 0 0) (.slice none 0 0)
 have hbd:=below8 hbc (show w.heap.size≤w.heap.size+1 by omega) (.bool false) (.slice none 0 0) (.slice none 0 0) (.int .i64 0) (.bool true) (.int .u64 0) (.slice none 0 0) (.slice none 0 0)
 have HO:=hid hO2.eight
 obtain ⟨⟨f0,f1,f2,f3⟩,f4,f5,f6,f7⟩:=hB.free8
 obtain ⟨⟨o0,o1,o2,o3⟩,o4,o5,o6,o7⟩:=hB.eight
 clear hO2 hB hA hb hbb hbc hb3 hfl
 go_wp2_with fail
 obtain ⟨⟨e0,e1,e2,e3⟩,e4,e5,e6,e7⟩:=HO.out
 refine bodyPost_ret (v:=.agg #[.bool false,.slice none 0 0,.slice none 0 0,.int .i64 0,.bool true,.int .u64 0,.slice none 0 0,.slice none 0 0]) (by simp [results,Tryz.results76,go_sem,e0,e1,e2,e3,e4,e5,e6,e7]) rfl ?_
 exact ⟨rfl,hbd⟩
theorem box3 (w:World) (c d:Int) (i j:Bool):Below w.heap.size w (((w.alloc (.cells #[.int .i64 2,.slice none 0 0] 26)).alloc (.cells #[.bool false,.slice none 0 0,.slice none 0 0,.int .i64 c,.bool i,.int .u64 0,.slice none 0 0,.slice none 0 0] 45)).alloc (.cells #[.bool false,.slice none 0 0,.slice none 0 0,.int .i64 d,.bool j,.int .u64 0,.slice none 0 0,.slice none 0 0] 45)) ∧
  Bl w.heap.size [.int .i64 2,.slice none 0 0] 26 (((w.alloc (.cells #[.int .i64 2,.slice none 0 0] 26)).alloc (.cells #[.bool false,.slice none 0 0,.slice none 0 0,.int .i64 c,.bool i,.int .u64 0,.slice none 0 0,.slice none 0 0] 45)).alloc (.cells #[.bool false,.slice none 0 0,.slice none 0 0,.int .i64 d,.bool j,.int .u64 0,.slice none 0 0,.slice none 0 0] 45)) ∧
  Bl (w.heap.size+1) [.bool false,.slice none 0 0,.slice none 0 0,.int .i64 c,.bool i,.int .u64 0,.slice none 0 0,.slice none 0 0] 45 (((w.alloc (.cells #[.int .i64 2,.slice none 0 0] 26)).alloc (.cells #[.bool false,.slice none 0 0,.slice none 0 0,.int .i64 c,.bool i,.int .u64 0,.slice none 0 0,.slice none 0 0] 45)).alloc (.cells #[.bool false,.slice none 0 0,.slice none 0 0,.int .i64 d,.bool j,.int .u64 0,.slice none 0 0,.slice none 0 0] 45)) ∧
  Bl (w.heap.size+1+1) [.bool false,.slice none 0 0,.slice none 0 0,.int .i64 d,.bool j,.int .u64 0,.slice none 0 0,.slice none 0 0] 45 (((w.alloc (.cells #[.int .i64 2,.slice none 0 0] 26)).alloc (.cells #[.bool false,.slice none 0 0,.slice none 0 0,.int .i64 c,.bool i,.int .u64 0,.slice none 0 0,.slice none 0 0] 45)).alloc (.cells #[.bool false,.slice none 0 0,.slice none 0 0,.int .i64 d,.bool j,.int .u64 0,.slice none 0 0,.slice none 0 0] 45)):=by
 obtain ⟨h1,h2,h3⟩:=ring_box w c i
 exact ⟨below_chain h1 (below_alloc _),h2.new _,h3.new _,Bl.fresh' (G:=w.heap.size+1+1) ((w.alloc (.cells #[.int .i64 2,.slice none 0 0] 26)).alloc (.cells #[.bool false,.slice none 0 0,.slice none 0 0,.int .i64 c,.bool i,.int .u64 0,.slice none 0 0,.slice none 0 0] 45)) [.bool false,.slice none 0 0,.slice none 0 0,.int .i64 d,.bool j,.int .u64 0,.slice none 0 0,.slice none 0 0] 45 (by simp)⟩
set_option maxHeartbeats 1000000 in
theorem valueT_any (c:Nat) (i:Bool) (hc:c≤1099511627776) (hi:i=true→c=0) (w:World):Calls Tryz.prog 108 #[.agg #[.int .i64 2,.slice none 0 0],.agg #[.bool false,.slice none 0 0,.slice none 0 0,.int .i64 (c:Int),.bool i,.int .u64 0,.slice none 0 0,.slice none 0 0]] w fun e w'=>e=.returned (.agg #[.bool false,.slice none 0 0,.slice none 0 0,.int .i64 (c:Int),.bool i,.int .u64 0,.slice none 0 0,.slice none 0 0])∧Below w.heap.size w w':=by
 obtain ⟨hb0,hA,hB,hO⟩:=box3 w (c:Int) 0 i false
 go_enter Tryz.func108,Tryz.ntmps108
 go_wp2_with fail
 refine (checkT_any c i hc hi _).mono ?_; rintro e w1 ⟨rfl,hb1⟩
 replace hB:=hB.next hb1
 replace hO:=hO.next hb1
 have hb:=below_chain hb0 hb1
 have hO2:=hO.put8 (.bool false) (.slice none 0 0) (.slice none 0 0) (.int .i64 (c:Int)) (.bool i) (.int .u64 0) (.slice none 0 0) (.slice none 0 0)
 have hbd:=below8 hb (show w.heap.size≤w.heap.size+1+1 by omega) (.bool false) (.slice none 0 0) (.slice none 0 0) (.int .i64 (c:Int)) (.bool i) (.int .u64 0) (.slice none 0 0) (.slice none 0 0)
 have HO:=hid hO2.eight
 obtain ⟨⟨x0,x1,x2,x3⟩,x4,x5,x6,x7⟩:=hB.eight
 obtain ⟨⟨f0,f1,f2,f3⟩,f4,f5,f6,f7⟩:=hO.free8
 obtain ⟨⟨o0,o1,o2,o3⟩,o4,o5,o6,o7⟩:=hO.eight
 clear hO2 hB hA hb hb0 hb1 hO
 go_wp2_with fail
 obtain ⟨⟨e0,e1,e2,e3⟩,e4,e5,e6,e7⟩:=HO.out
 refine bodyPost_ret (v:=.agg #[.bool false,.slice none 0 0,.slice none 0 0,.int .i64 (c:Int),.bool i,.int .u64 0,.slice none 0 0,.slice none 0 0]) (by simp [results,Tryz.results108,go_sem,e0,e1,e2,e3,e4,e5,e6,e7]) rfl ?_
 exact ⟨rfl,hbd⟩
theorem box2r (w:World) (c d:Int) (i j:Bool):Below w.heap.size w (((w.alloc (.cells #[.bool false,.slice none 0 0,.slice none 0 0,.int .i64 c,.bool i,.int .u64 0,.slice none 0 0,.slice none 0 0] 45)).alloc (.cells #[.bool false,.slice none 0 0,.slice none 0 0,.int .i64 d,.bool j,.int .u64 0,.slice none 0 0,.slice none 0 0] 45)).alloc (.cells #[.bool false,.slice none 0 0,.slice none 0 0,.int .i64 0,.bool false,.int .u64 0,.slice none 0 0,.slice none 0 0] 45)) ∧
  Bl w.heap.size [.bool false,.slice none 0 0,.slice none 0 0,.int .i64 c,.bool i,.int .u64 0,.slice none 0 0,.slice none 0 0] 45 (((w.alloc (.cells #[.bool false,.slice none 0 0,.slice none 0 0,.int .i64 c,.bool i,.int .u64 0,.slice none 0 0,.slice none 0 0] 45)).alloc (.cells #[.bool false,.slice none 0 0,.slice none 0 0,.int .i64 d,.bool j,.int .u64 0,.slice none 0 0,.slice none 0 0] 45)).alloc (.cells #[.bool false,.slice none 0 0,.slice none 0 0,.int .i64 0,.bool false,.int .u64 0,.slice none 0 0,.slice none 0 0] 45)) ∧
  Bl (w.heap.size+1) [.bool false,.slice none 0 0,.slice none 0 0,.int .i64 d,.bool j,.int .u64 0,.slice none 0 0,.slice none 0 0] 45 (((w.alloc (.cells #[.bool false,.slice none 0 0,.slice none 0 0,.int .i64 c,.bool i,.int .u64 0,.slice none 0 0,.slice none 0 0] 45)).alloc (.cells #[.bool false,.slice none 0 0,.slice none 0 0,.int .i64 d,.bool j,.int .u64 0,.slice none 0 0,.slice none 0 0] 45)).alloc (.cells #[.bool false,.slice none 0 0,.slice none 0 0,.int .i64 0,.bool false,.int .u64 0,.slice none 0 0,.slice none 0 0] 45)) ∧
  Bl (w.heap.size+1+1) [.bool false,.slice none 0 0,.slice none 0 0,.int .i64 0,.bool false,.int .u64 0,.slice none 0 0,.slice none 0 0] 45 (((w.alloc (.cells #[.bool false,.slice none 0 0,.slice none 0 0,.int .i64 c,.bool i,.int .u64 0,.slice none 0 0,.slice none 0 0] 45)).alloc (.cells #[.bool false,.slice none 0 0,.slice none 0 0,.int .i64 d,.bool j,.int .u64 0,.slice none 0 0,.slice none 0 0] 45)).alloc (.cells #[.bool false,.slice none 0 0,.slice none 0 0,.int .i64 0,.bool false,.int .u64 0,.slice none 0 0,.slice none 0 0] 45)):=by
 obtain ⟨h1,h2,h3⟩:=two_boxes w c d i j
 exact ⟨below_chain h1 (below_alloc _),h2.new _,h3.new _,Bl.fresh' (G:=w.heap.size+1+1) ((w.alloc (.cells #[.bool false,.slice none 0 0,.slice none 0 0,.int .i64 c,.bool i,.int .u64 0,.slice none 0 0,.slice none 0 0] 45)).alloc (.cells #[.bool false,.slice none 0 0,.slice none 0 0,.int .i64 d,.bool j,.int .u64 0,.slice none 0 0,.slice none 0 0] 45)) [.bool false,.slice none 0 0,.slice none 0 0,.int .i64 0,.bool false,.int .u64 0,.slice none 0 0,.slice none 0 0] 45 (by simp)⟩
set_option maxHeartbeats 1000000 in
theorem costs4_any (c d:Nat) (i j:Bool) (w:World):Calls Tryz.prog 197 #[.agg #[.bool false,.slice none 0 0,.slice none 0 0,.int .i64 (c:Int),.bool i,.int .u64 0,.slice none 0 0,.slice none 0 0],.agg #[.bool false,.slice none 0 0,.slice none 0 0,.int .i64 (d:Int),.bool j,.int .u64 0,.slice none 0 0,.slice none 0 0]] w fun e w'=>e=.returned (if (!j&&(i||decide (d<c)))=true then .agg #[.bool false,.slice none 0 0,.slice none 0 0,.int .i64 (d:Int),.bool j,.int .u64 0,.slice none 0 0,.slice none 0 0] else .agg #[.bool false,.slice none 0 0,.slice none 0 0,.int .i64 (c:Int),.bool i,.int .u64 0,.slice none 0 0,.slice none 0 0])∧Below w.heap.size w w':=by
 obtain ⟨hb0,hA,hB,hO⟩:=box2r w (c:Int) (d:Int) i j
 have hle:=hid (fun W=>lessT_any d c j i W)
 obtain ⟨q,hq⟩:∃ q,(!j&&(i||decide (d<c)))=q:=⟨_,rfl⟩
 rw [hq] at hle ⊢
 clear hq
 go_enter Tryz.func197,Tryz.ntmps197
 go_wp2_with fail
 refine (hle.out _).mono ?_; rintro e w1 ⟨rfl,hb1⟩
 replace hA:=hA.next hb1
 replace hB:=hB.next hb1
 replace hO:=hO.next hb1
 have hb:=below_chain hb0 hb1
 obtain ⟨⟨x0,x1,x2,x3⟩,x4,x5,x6,x7⟩:=hA.eight
 obtain ⟨⟨y0,y1,y2,y3⟩,y4,y5,y6,y7⟩:=hB.eight
 clear hA hB hb0 hb1 hle
 cases q with
 | true =>
  have hO2:=hO.put8 (.bool false) (.slice none 0 0) (.slice none 0 0) (.int .i64 (d:Int)) (.bool j) (.int .u64 0) (.slice none 0 0) (.slice none 0 0)
  have hbd:=below8 hb (show w.heap.size≤w.heap.size+1+1 by omega) (.bool false) (.slice none 0 0) (.slice none 0 0) (.int .i64 (d:Int)) (.bool j) (.int .u64 0) (.slice none 0 0) (.slice none 0 0)
  have HO:=hid hO2.eight
  obtain ⟨⟨f0,f1,f2,f3⟩,f4,f5,f6,f7⟩:=hO.free8
  obtain ⟨⟨o0,o1,o2,o3⟩,o4,o5,o6,o7⟩:=hO.eight
  clear hO2 hb hO
  go_wp2_with fail
  obtain ⟨⟨e0,e1,e2,e3⟩,e4,e5,e6,e7⟩:=HO.out
  refine bodyPost_ret (v:=.agg #[.bool false,.slice none 0 0,.slice none 0 0,.int .i64 (d:Int),.bool j,.int .u64 0,.slice none 0 0,.slice none 0 0]) (by simp [results,Tryz.results197,go_sem,e0,e1,e2,e3,e4,e5,e6,e7]) rfl ?_
  exact ⟨rfl,hbd⟩
 | false =>
  have hO2:=hO.put8 (.bool false) (.slice none 0 0) (.slice none 0 0) (.int .i64 (c:Int)) (.bool i) (.int .u64 0) (.slice none 0 0) (.slice none 0 0)
  have hbd:=below8 hb (show w.heap.size≤w.heap.size+1+1 by omega) (.bool false) (.slice none 0 0) (.slice none 0 0) (.int .i64 (c:Int)) (.bool i) (.int .u64 0) (.slice none 0 0) (.slice none 0 0)
  have HO:=hid hO2.eight
  obtain ⟨⟨f0,f1,f2,f3⟩,f4,f5,f6,f7⟩:=hO.free8
  obtain ⟨⟨o0,o1,o2,o3⟩,o4,o5,o6,o7⟩:=hO.eight
  clear hO2 hb hO
  go_wp2_with fail
  obtain ⟨⟨e0,e1,e2,e3⟩,e4,e5,e6,e7⟩:=HO.out
  refine bodyPost_ret (v:=.agg #[.bool false,.slice none 0 0,.slice none 0 0,.int .i64 (c:Int),.bool i,.int .u64 0,.slice none 0 0,.slice none 0 0]) (by simp [results,Tryz.results197,go_sem,e0,e1,e2,e3,e4,e5,e6,e7]) rfl ?_
  exact ⟨rfl,hbd⟩
end
end Go.Proofs.YtnapapijhhldpaaGreatDoor

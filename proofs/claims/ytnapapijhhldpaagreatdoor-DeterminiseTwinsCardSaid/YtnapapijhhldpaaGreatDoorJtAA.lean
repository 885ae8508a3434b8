/-
  Texts joined by program: Da, Db, Dc, Dd. No condition of its own.
-/
import Derived.WalkKit
import Derived.WalkSpells
import Derived.WalkLawsBesides
import Derived.WalkSmall
import Derived.Deep.QuietTactic
import Derived.Laws.AppendOwnNone
import Derived.Laws.OwnMore
import Derived.Orders
import Derived.Deep.CutBlock
import Derived.Deep.DeepCutAuto
import Derived.OrdersHeld
import Derived.Deep.RegionLaw
import Derived.Laws.EntriesVeiled
import Derived.Shelf.SlSortCmp.NoneTotal
import Derived.Lib.SliceRun
import Derived.Laws.IdiomCopy
import Derived.Laws.Rows
import Derived.Shelf.Spec.SlicesGrow
import Derived.Deep.LoopGhost
import Derived.Shelf.Bits.Mul64
import Derived.Laws.CopyOwn
import Derived.Deep.RegionHeld3
import Derived.Shelf.LaysM
import Derived.Shelf.Strconv.Itoa3
import Derived.Lib.ItoaNum
import Derived.Lib.SmallJoins
import Derived.Shelf.Strings.Builder1
import Derived.Maps.OwnOps
import Derived.Maps.OwnSet
import Derived.StringKeys
import Derived.WideKeyEntry
import Derived.PinnedBridge
import Derived.Lay
import Derived.Stop.LaidErr
import Derived.Stop.Joined
import Derived.LaidMore
import Derived.ProofKit
import Derived.SliceStrings
import Derived.Deep.Strs
import Derived.Test.YtnapapijhhldpaaGreatDoorProg
namespace Go.Proofs.YtnapapijhhldpaaGreatDoor
set_option linter.unusedSimpArgs false
set_option linter.unusedVariables false
set_option maxRecDepth 100000
set_option maxHeartbeats 4000000
section
abbrev OA:=Option Addr
abbrev EP:=Exit->Act->World->Prop
abbrev Tw:=Option Nat
def twLess:Tw->Tw->Bool
 | some a,some b=>decide (a<b)
 | some _,none=>true
 | none,_=>false
def twLe:Tw->Tw->Prop
 | some a,some b=>a<=b
 | _,none=>True
 | none,some _=>False
def twPlus (v w:Tw):Tw:=if twLess w v then w else v
theorem twPlus_none (v:Tw):twPlus v none=v:=by cases v<;>rfl
theorem none_twPlus (v:Tw):twPlus none v=v:=by cases v<;>rfl
theorem twPlus_some (a b:Nat):twPlus (some a) (some b)=some (min a b):=by
 unfold twPlus twLess
 by_cases h:b<a
 ·rw [if_pos (decide_eq_true h)]; congr 1; omega
 ·rw [if_neg (by simp [h])]; congr 1; omega
theorem twPlus_cases (v w:Tw):(twPlus v w=v/\twLe v w)\/(twPlus v w=w/\twLe w v):=by
 cases v with
 | none=>exact .inr ⟨none_twPlus w,by cases w<;>trivial⟩
 | some a =>
  cases w with
  | none=>exact .inl ⟨rfl,trivial⟩
  | some b =>
   rw [twPlus_some]
   rcases Nat.le_total a b with h | h
   ·exact .inl ⟨by congr 1; omega,h⟩
   ·exact .inr ⟨by congr 1; omega,h⟩
theorem twLe_refl (v:Tw):twLe v v:=by cases v<;>simp [twLe]
theorem twLe_trans {u v w:Tw} (h:twLe u v) (k:twLe v w):twLe u w:=by
 cases u<;>cases v<;>cases w<;>simp [twLe] at*<;> omega
theorem twLe_antisymm {v w:Tw} (h:twLe v w) (k:twLe w v):v=w:=by
 cases v<;>cases w<;>simp [twLe] at*<;> omega
theorem twPlus_le_left (v w:Tw):twLe (twPlus v w) v:=by
 rcases twPlus_cases v w with ⟨h,k⟩ | ⟨h,k⟩<;>rw [h]
 ·exact twLe_refl v
 ·exact k
theorem twPlus_le_right (v w:Tw):twLe (twPlus v w) w:=by
 rcases twPlus_cases v w with ⟨h,k⟩ | ⟨h,k⟩<;>rw [h]
 ·exact k
 ·exact twLe_refl w
abbrev Ky:=Nat×Nat×Nat
abbrev Ac:=Nat×Nat×Nat×Tw
def ky (x:Ac):Ky:=(x.1,x.2.1,x.2.2.1)
def wt (x:Ac):Tw:=x.2.2.2
def klt (x y:Ky):Prop:=x.1<y.1\/(x.1=y.1/\(x.2.1<y.2.1\/(x.2.1=y.2.1/\x.2.2<y.2.2)))
instance (x y:Ky):Decidable (klt x y):=by unfold klt; exact inferInstance
theorem klt_trans {x y z:Ky} (h:klt x y) (k:klt y z):klt x z:=by unfold klt at *; omega
theorem klt_irrefl (x:Ky):¬ klt x x:=by unfold klt; omega
theorem klt_asymm {x y:Ky} (h:klt x y):¬ klt y x:=fun k=>klt_irrefl x (klt_trans h k)
theorem klt_tri (x y:Ky):klt x y\/x=y\/klt y x:=by
 obtain ⟨a,b,c⟩:=x
 obtain ⟨d,e,f⟩:=y
 unfold klt
 simp only [Prod.mk.injEq]
 omega
def cmpN (a b:Nat):Int:=if a<b then -1 else if b<a then 1 else 0
def cmpK (x y:Ky):Int:=if cmpN x.1 y.1≠0 then cmpN x.1 y.1 else if cmpN x.2.1 y.2.1≠0 then cmpN x.2.1 y.2.1 else cmpN x.2.2 y.2.2
theorem cmpN_zero {a b:Nat}:cmpN a b=0↔a=b:=by
 unfold cmpN
 split
 ·constructor<;>intro h<;>omega
 ·split
  ·constructor<;>intro h<;>omega
  ·constructor<;>intro h<;>omega
theorem cmpN_neg {a b:Nat}:cmpN a b<0↔a<b:=by
 unfold cmpN
 split
 ·constructor<;>intro h<;>omega
 ·split
  ·constructor<;>intro h<;>omega
  ·constructor<;>intro h<;>omega
theorem cmpK_zero {x y:Ky}:cmpK x y=0↔x=y:=by
 obtain ⟨a,b,c⟩:=x
 obtain ⟨d,e,f⟩:=y
 unfold cmpK
 simp only [Prod.mk.injEq]
 have h1:=@cmpN_zero a d
 have h2:=@cmpN_zero b e
 have h3:=@cmpN_zero c f
 split
 ·rename_i h; exact ⟨fun k=>absurd k h,fun k=>absurd (h1.2 k.1) h⟩
 ·rename_i h
  have e1:=h1.1 (Classical.not_not.1 h)
  split
  ·rename_i k; exact ⟨fun m=>absurd m k,fun m=>absurd (h2.2 m.2.1) k⟩
  ·rename_i k
   have e2:=h2.1 (Classical.not_not.1 k)
   exact ⟨fun m=>⟨e1,e2,h3.1 m⟩,fun m=>h3.2 m.2.2⟩
theorem cmpK_neg {x y:Ky}:cmpK x y<0↔klt x y:=by
 obtain ⟨a,b,c⟩:=x
 obtain ⟨d,e,f⟩:=y
 unfold cmpK klt
 simp only
 have h1:=@cmpN_zero a d
 have h2:=@cmpN_zero b e
 have n1:=@cmpN_neg a d
 have n2:=@cmpN_neg b e
 have n3:=@cmpN_neg c f
 split
 ·rename_i h
  have:a≠d:=fun k=>h (h1.2 k)
  rw [n1]; omega
 ·rename_i h
  have e1:=h1.1 (Classical.not_not.1 h)
  split
  ·rename_i k
   have:b≠e:=fun m=>k (h2.2 m)
   rw [n2]; omega
  ·rename_i k
   have e2:=h2.1 (Classical.not_not.1 k)
   rw [n3]; omega
def Ss:List Ac->Prop
 | []=>True
 | x::r=>(∀ y∈r,klt (ky x) (ky y))/\Ss r
theorem Ss.filter (p:Ac->Bool):∀ {l:List Ac},Ss l->Ss (l.filter p)
 | [],_=>trivial
 | x::r,h=>by
  rw [List.filter_cons]
  split
  ·exact ⟨fun y hy=>h.1 y (List.mem_filter.1 hy).1,Ss.filter p h.2⟩
  ·exact Ss.filter p h.2
theorem Ss.append:∀ {l m:List Ac},Ss l->Ss m->(∀ x∈l,∀ y∈m,klt (ky x) (ky y))->Ss (l++m)
 | [],m,_,hm,_=>hm
 | x::r,m,h,hm,hx=>⟨fun y hy=>by
   rcases List.mem_append.1 hy with hy | hy
   ·exact h.1 y hy
   ·exact hx x List.mem_cons_self y hy,Ss.append h.2 hm fun z hz=>hx z (List.mem_cons_of_mem _ hz)⟩
theorem Ss.left:∀ {l m:List Ac},Ss (l++m)->Ss l
 | [],_,_=>trivial
 | x::r,m,h=>⟨fun y hy=>h.1 y (List.mem_append_left _ hy),Ss.left h.2⟩
theorem Ss.right:∀ {l m:List Ac},Ss (l++m)->Ss m
 | [],_,h=>h
 | x::r,m,h=>Ss.right (l:=r) h.2
def LK (l:List Ac) (K:Ky) (v:Tw):Prop:=(∃ x∈l,ky x=K/\wt x=v)/\∀ x∈l,ky x=K->twLe v (wt x)
theorem LK.unique {l:List Ac} {K:Ky} {v w:Tw} (h:LK l K v) (k:LK l K w):v=w:=by
 obtain ⟨⟨x,hx,h1,h2⟩,h3⟩:=h
 obtain ⟨⟨y,hy,k1,k2⟩,k3⟩:=k
 exact twLe_antisymm (by rw [<-k2]; exact h3 y hy k1) (by rw [<-h2]; exact k3 x hx h1)
def Nf (out l:List Ac):Prop:=Ss out/\(∀ x∈out,LK l (ky x) (wt x))/\∀ x∈l,∃ y∈out,ky y=ky x
theorem ky_wt {x y:Ac} (h1:ky x=ky y) (h2:wt x=wt y):x=y:=by
 obtain ⟨a,b,c,d⟩:=x
 obtain ⟨e,f,g,h⟩:=y
 simp only [ky,wt,Prod.mk.injEq] at *
 simp [h1,h2]
theorem Ss.head {x y:Ac} {r s:List Ac} (h:Ss (x::r)) (k:Ss (y::s)) (h1:∃ z∈y::s,ky z=ky x) (h2:∃ z∈x::r,ky z=ky y):ky x=ky y:=by
 obtain ⟨z,hz,e⟩:=h1
 rcases List.mem_cons.1 hz with rfl | hz
 ·exact e.symm
 ·obtain ⟨u,hu,e'⟩:=h2
  rcases List.mem_cons.1 hu with rfl | hu
  ·exact e'
  ·have a:=k.1 z hz
   have b:=h.1 u hu
   rw [e] at a
   rw [e'] at b
   exact absurd a (klt_asymm b)
theorem Ss.eq_of_mem:∀ {l m:List Ac},Ss l->Ss m->(∀ x∈l,x∈m)->(∀ x∈m,x∈l)->l=m
 | [],[],_,_,_,_=>rfl
 | [],y::s,_,_,_,h=>by cases h y List.mem_cons_self
 | x::r,[],_,_,h,_=>by cases h x List.mem_cons_self
 | x::r,y::s,h,k,h1,h2=>by
  have hk:=Ss.head h k ⟨x,h1 x List.mem_cons_self,rfl⟩ ⟨y,h2 y List.mem_cons_self,rfl⟩
  have hxy:x=y:=by
   rcases List.mem_cons.1 (h1 x List.mem_cons_self) with e | e
   ·exact e
   ·have:=k.1 x e
    rw [hk] at this
    exact absurd this (klt_irrefl _)
  subst hxy
  congr 1
  refine Ss.eq_of_mem h.2 k.2 (fun z hz=>?_) fun z hz=>?_
  ·rcases List.mem_cons.1 (h1 z (List.mem_cons_of_mem _ hz)) with rfl | e
   ·exact absurd (h.1 z hz) (klt_irrefl _)
   ·exact e
  ·rcases List.mem_cons.1 (h2 z (List.mem_cons_of_mem _ hz)) with rfl | e
   ·exact absurd (k.1 z hz) (klt_irrefl _)
   ·exact e
theorem Nf.unique {a b l:List Ac} (h:Nf a l) (k:Nf b l):a=b:=by
 have key:∀ {a b:List Ac},Nf a l->Nf b l->∀ x∈a,x∈b:=fun {a b} h k x hx=>by
  obtain ⟨⟨z,hz,e1,e2⟩,_⟩:=h.2.1 x hx
  obtain ⟨y,hy,e⟩:=k.2.2 z hz
  have hyx:ky y=ky x:=e.trans e1
  have:=(h.2.1 x hx).unique (by rw [<-hyx]; exact k.2.1 y hy)
  rw [ky_wt hyx.symm this]
  exact hy
 exact Ss.eq_of_mem h.1 k.1 (key h k) (key k h)
theorem Ss.inj:∀ {l:List Ac} {x y:Ac},Ss l->x∈l->y∈l->ky y=ky x->x=y
 | z::r,x,y,h,hx,hy,e=>by
  rcases List.mem_cons.1 hx with rfl | hx1
  ·rcases List.mem_cons.1 hy with rfl | hy1
   ·rfl
   ·have:=h.1 y hy1
    rw [e] at this
    exact absurd this (klt_irrefl _)
  ·rcases List.mem_cons.1 hy with rfl | hy1
   ·have:=h.1 x hx1
    rw [e] at this
    exact absurd this (klt_irrefl _)
   ·exact Ss.inj h.2 hx1 hy1 e
theorem Nf.self {l:List Ac} (h:Ss l):Nf l l:=by
 refine ⟨h,fun x hx=>⟨⟨x,hx,rfl,rfl⟩,fun y hy e=>?_⟩,fun x hx=>⟨x,hx,rfl⟩⟩
 rw [Ss.inj h hx hy e]
 exact twLe_refl _
theorem Nf.nil:Nf [] []:=⟨trivial,fun x h=>(by cases h),fun x h=>by cases h⟩
theorem LK.mono {l m:List Ac} {K:Ky} {v:Tw} (h:LK l K v) (hs:∀ x,x∈l↔x∈m):LK m K v:=by
 obtain ⟨⟨x,hx,h1⟩,h2⟩:=h
 exact ⟨⟨x,(hs x).1 hx,h1⟩,fun y hy=>h2 y ((hs y).2 hy)⟩
theorem Nf.mono {out l m:List Ac} (h:Nf out l) (hs:∀ x,x∈l↔x∈m):Nf out m :=
 ⟨h.1,fun x hx=>(h.2.1 x hx).mono hs,fun x hx=>h.2.2 x ((hs x).2 hx)⟩
theorem Nf.same {p r l:List Ac} {y x:Ac} (h:Nf (p++y::r) l) (hk:ky y=ky x):Nf (p++(y.1,y.2.1,y.2.2.1,twPlus (wt y) (wt x))::r) (l++[x]):=by
 obtain ⟨h1,h2,h3⟩:=h
 have hyk:ky (y.1,y.2.1,y.2.2.1,twPlus (wt y) (wt x))=ky y:=rfl
 have hs:Ss (p++(y.1,y.2.1,y.2.2.1,twPlus (wt y) (wt x))::r):=by
  clear h2 h3
  induction p with
  | nil=>exact ⟨fun z hz=>h1.1 z hz,h1.2⟩
  | cons q p ih =>
   refine ⟨fun z hz=>?_,ih h1.2⟩
   rcases List.mem_append.1 hz with hz | hz
   ·exact h1.1 z (List.mem_append_left _ hz)
   ·rcases List.mem_cons.1 hz with rfl | hz
    ·exact h1.1 y (List.mem_append_right _ List.mem_cons_self)
    ·exact h1.1 z (List.mem_append_right _ (List.mem_cons_of_mem _ hz))
 have old:∀ z∈p++r,z∈p++y::r:=fun z hz=>by
  rcases List.mem_append.1 hz with hz | hz
  ·exact List.mem_append_left _ hz
  ·exact List.mem_append_right _ (List.mem_cons_of_mem _ hz)
 have hdis:∀ {p:List Ac},Ss (p++y::r)->∀ z∈p,klt (ky z) (ky y):=fun {p}=>by
  induction p with
  | nil=>intro _ z hz; cases hz
  | cons q p ih =>
   intro h z hz
   rcases List.mem_cons.1 hz with rfl | hz
   ·exact h.1 y (List.mem_append_right _ List.mem_cons_self)
   ·exact ih h.2 z hz
 have hne:∀ z∈p++r,ky z≠ky x:=fun z hz e=>by
  rw [<-hk] at e
  rcases List.mem_append.1 hz with hz | hz
  ·have:=hdis h1 z hz
   rw [e] at this
   exact klt_irrefl _ this
  ·have:=(Ss.right h1).1 z hz
   rw [e] at this
   exact klt_irrefl _ this
 refine ⟨hs,fun z hz=>?_,fun z hz=>?_⟩
 ·have hz':z∈p++r\/z=(y.1,y.2.1,y.2.2.1,twPlus (wt y) (wt x)):=by
   rcases List.mem_append.1 hz with hz | hz
   ·exact .inl (List.mem_append_left _ hz)
   ·rcases List.mem_cons.1 hz with rfl | hz
    ·exact .inr rfl
    ·exact .inl (List.mem_append_right _ hz)
  rcases hz' with hz1 | rfl
  ·obtain ⟨⟨u,hu,e1,e2⟩,hm⟩:=h2 z (old z hz1)
   refine ⟨⟨u,List.mem_append_left _ hu,e1,e2⟩,fun v hv e=>?_⟩
   rcases List.mem_append.1 hv with hv | hv
   ·exact hm v hv e
   ·obtain rfl:v=x:=by simpa using hv
    exact absurd e.symm (hne z hz1)
  ·obtain ⟨⟨u,hu,e1,e2⟩,hm⟩:=h2 y (List.mem_append_right _ List.mem_cons_self)
   show LK (l++[x]) (ky y) (twPlus (wt y) (wt x))
   refine ⟨?_,fun v hv e=>?_⟩
   ·rcases twPlus_cases (wt y) (wt x) with ⟨e,_⟩ | ⟨e,_⟩<;>rw [e]
    ·exact ⟨u,List.mem_append_left _ hu,e1,e2⟩
    ·exact ⟨x,List.mem_append_right _ List.mem_cons_self,hk.symm,rfl⟩
   ·rcases List.mem_append.1 hv with hv | hv
    ·exact twLe_trans (twPlus_le_left _ _) (hm v hv e)
    ·obtain rfl:v=x:=by simpa using hv
     exact twPlus_le_right _ _
 ·rcases List.mem_append.1 hz with hz | hz
  ·obtain ⟨u,hu,e⟩:=h3 z hz
   rcases List.mem_append.1 hu with hu | hu
   ·exact ⟨u,List.mem_append_left _ hu,e⟩
   ·rcases List.mem_cons.1 hu with rfl | hu
    ·exact ⟨_,List.mem_append_right _ List.mem_cons_self,by rw [hyk]; exact e⟩
    ·exact ⟨u,List.mem_append_right _ (List.mem_cons_of_mem _ hu),e⟩
  ·obtain rfl:z=x:=by simpa using hz
   exact ⟨_,List.mem_append_right _ List.mem_cons_self,by rw [hyk]; exact hk⟩
theorem Nf.new {p r l:List Ac} {x:Ac} (h:Nf (p++r) l) (hp:∀ y∈p,klt (ky y) (ky x)) (hr:∀ y∈r,klt (ky x) (ky y)):Nf (p++x::r) (l++[x]):=by
 obtain ⟨h1,h2,h3⟩:=h
 have hne:∀ z∈p++r,ky z≠ky x:=fun z hz e=>by
  rcases List.mem_append.1 hz with hz | hz
  ·have:=hp z hz; rw [e] at this; exact klt_irrefl _ this
  ·have:=hr z hz; rw [e] at this; exact klt_irrefl _ this
 refine ⟨Ss.append (Ss.left h1) ⟨hr,Ss.right h1⟩ fun a ha b hb=>?_,fun z hz=>?_,fun z hz=>?_⟩
 ·rcases List.mem_cons.1 hb with rfl | hb
  ·exact hp a ha
  ·exact klt_trans (hp a ha) (hr b hb)
 ·have hz':z∈p++r\/z=x:=by
   rcases List.mem_append.1 hz with hz | hz
   ·exact .inl (List.mem_append_left _ hz)
   ·rcases List.mem_cons.1 hz with rfl | hz
    ·exact .inr rfl
    ·exact .inl (List.mem_append_right _ hz)
  rcases hz' with hz1 | rfl
  ·obtain ⟨⟨u,hu,e1,e2⟩,hm⟩:=h2 z hz1
   refine ⟨⟨u,List.mem_append_left _ hu,e1,e2⟩,fun v hv e=>?_⟩
   rcases List.mem_append.1 hv with hv | hv
   ·exact hm v hv e
   ·obtain rfl:v=x:=by simpa using hv
    exact absurd e.symm (hne z hz1)
  ·refine ⟨⟨z,List.mem_append_right _ List.mem_cons_self,rfl,rfl⟩,fun v hv e=>?_⟩
   rcases List.mem_append.1 hv with hv | hv
   ·obtain ⟨u,hu,e'⟩:=h3 v hv
    exact absurd (e'.trans e) (hne u hu)
   ·obtain rfl:v=z:=by simpa using hv
    exact twLe_refl _
 ·rcases List.mem_append.1 hz with hz | hz
  ·obtain ⟨u,hu,e⟩:=h3 z hz
   rcases List.mem_append.1 hu with hu | hu
   ·exact ⟨u,List.mem_append_left _ hu,e⟩
   ·exact ⟨u,List.mem_append_right _ (List.mem_cons_of_mem _ hu),e⟩
  ·obtain rfl:z=x:=by simpa using hz
   exact ⟨z,List.mem_append_right _ List.mem_cons_self,rfl⟩
def nz (x:Ac):Bool:=(wt x).isSome
def NF (out l:List Ac):Prop:=∃ m,Nf m l/\out=m.filter nz
theorem NF.unique {a b l:List Ac} (h:NF a l) (k:NF b l):a=b:=by
 obtain ⟨m,h1,rfl⟩:=h
 obtain ⟨n,k1,rfl⟩:=k
 rw [h1.unique k1]
theorem NF.ss {a l:List Ac} (h:NF a l):Ss a:=by obtain ⟨m,h1,rfl⟩:=h; exact h1.1.filter _
theorem NF.self {l:List Ac} (h:Ss l) (hz:∀ x∈l,nz x=true):NF l l:=⟨l,Nf.self h,(List.filter_eq_self.2 hz).symm⟩
end
section
abbrev Vx:=List (Option Nat)
def noteV (S:Vx) (q r:Nat):Vx:=match S[q]? with
 | some (some u)=>if r<u then S.set q (some r) else S
 | _=>S.set q (some r)
def cst (x:Ac):Nat:=(wt x).getD 0
def stepQ (us:List Bool) (r:Nat):List Ac->Vx->Vx
 | [],S=>S
 | x::A,S=>stepQ us r A (if us.getD x.2.2.1 false then noteV S x.2.2.1 (r+cst x) else S)
def stp (N:List Ac) (q l:Nat):List Ac:=N.filter fun x=>decide (x.1=q)&&decide (x.2.1=l)
def nextTo (N:List Ac) (us:List Bool) (R:Vx) (l:Nat):Nat->Vx
 | 0=>List.replicate R.length none
 | q+1=>match R[q]? with
  | some (some r)=>stepQ us r (stp N q l) (nextTo N us R l q)
  | _=>nextTo N us R l q
def nextV (N:List Ac) (us:List Bool) (R:Vx) (l:Nat):Vx:=nextTo N us R l R.length
def leastV:Vx->Tw
 | []=>none
 | x::r=>twPlus x (leastV r)
def lowV (S:Vx) (m:Nat):Vx:=S.map fun o=>o.map (· - m)
def setl (S:Vx):Option (Nat×Vx):=match leastV S with
 | none=>none
 | some m=>some (m,lowV S m)
def ends1 (a:Option Nat) (b:Tw):Tw:=match a,b with
 | some r,some c=>some (r+c)
 | _,_=>none
def endV (fin:List Tw) (R:Vx):Tw:=leastV (List.zipWith ends1 R fin)
structure Ds where
 subs:List Vx
 arcs:List Ac
def oneS (N:List Ac) (us:List Bool) (k l:Nat) (X:Ds):Option Ds:=match setl (nextV N us (X.subs.getD k []) l) with
 | none=>some X
 | some (c,nx)=>match X.subs.findIdx? (· == nx) with
  | some num=>some ⟨X.subs,X.arcs++[(k,l,num,some c)]⟩
  | none=>if X.subs.length=64 then none else some ⟨X.subs++[nx],X.arcs++[(k,l,X.subs.length,some c)]⟩
def rowS (N:List Ac) (us:List Bool) (k:Nat):Nat->Nat->Ds->Option Ds
 | 0,_,X=>some X
 | n+1,l,X=>match oneS N us k l X with
  | none=>none
  | some Y=>rowS N us k n (l+1) Y
def runS (N:List Ac) (us:List Bool) (syms:Nat):Nat->Nat->Ds->Option Ds
 | 0,_,_=>none
 | f+1,k,X=>if X.subs.length<=k then some X else match rowS N us k syms 1 X with
  | none=>none
  | some Y=>runS N us syms f (k+1) Y
def firstV (us:List Bool) (ini:List Tw):Vx:=List.zipWith (fun u w=>if u then w else none) us ini
structure Au where
 st:Nat
 ini:List Tw
 fin:List Tw
 arcs:List Ac
def detP (syms:Nat) (us:List Bool) (A:Au):Option Au:=match setl (firstV us A.ini) with
 | none=>some ⟨0,[],[],[]⟩
 | some (c,f)=>match runS A.arcs us syms 66 0 ⟨[f],[]⟩ with
  | none=>none
  | some X=>some ⟨X.subs.length,some c::List.replicate (X.subs.length-1) none,X.subs.map (endV A.fin),X.arcs⟩
theorem noteV_len (S:Vx) (q r:Nat):(noteV S q r).length=S.length:=by
 unfold noteV
 split
 ·split
  ·rw [List.length_set]
  ·rfl
 ·rw [List.length_set]
theorem stepQ_len (us:List Bool) (r:Nat):∀ (A:List Ac) (S:Vx),(stepQ us r A S).length=S.length
 | [],S=>rfl
 | x::A,S=>by
  rw [stepQ,stepQ_len us r A]
  split
  ·exact noteV_len _ _ _
  ·rfl
theorem nextTo_len (N:List Ac) (us:List Bool) (R:Vx) (l:Nat):∀ q,(nextTo N us R l q).length=R.length
 | 0=>by simp [nextTo]
 | q+1=>by
  unfold nextTo
  split
  ·rw [stepQ_len]; exact nextTo_len N us R l q
  ·exact nextTo_len N us R l q
theorem nextV_len (N:List Ac) (us:List Bool) (R:Vx) (l:Nat):(nextV N us R l).length=R.length:=nextTo_len N us R l _
theorem lowV_len (S:Vx) (m:Nat):(lowV S m).length=S.length:=by simp [lowV]
def Bd (B:Nat) (S:Vx):Prop:=∀ r,some r∈S->r<=B
theorem Bd.mono {B C:Nat} {S:Vx} (h:Bd B S) (hB:B<=C):Bd C S:=fun r hr=>Nat.le_trans (h r hr) hB
theorem Bd.set {B:Nat} {S:Vx} (h:Bd B S) {q r:Nat} (hr:r<=B):Bd B (S.set q (some r)):=fun x hx=>by
 rcases List.mem_or_eq_of_mem_set hx with hx | hx
 ·exact h x hx
 ·cases hx; exact hr
theorem Bd.note {B:Nat} {S:Vx} (h:Bd B S) {q r:Nat} (hr:r<=B):Bd B (noteV S q r):=by
 unfold noteV
 split
 ·split
  ·exact h.set hr
  ·exact h
 ·exact h.set hr
theorem Bd.stepQ {B r:Nat} {us:List Bool}:∀ {A:List Ac} {S:Vx},Bd B S->(∀ x∈A,r+cst x<=B)->Bd B (stepQ us r A S)
 | [],S,h,_=>h
 | x::A,S,h,hA=>by
  rw [Go.Proofs.YtnapapijhhldpaaGreatDoor.stepQ]
  refine Bd.stepQ ?_ fun y hy=>hA y (List.mem_cons_of_mem _ hy)
  split
  ·exact h.note (hA x List.mem_cons_self)
  ·exact h
theorem bd_nextTo {N:List Ac} {us:List Bool} {R:Vx} {l B C:Nat} (hR:Bd B R) (hN:∀ x∈N,cst x<=C):∀ q,Bd (B+C) (nextTo N us R l q)
 | 0=>fun r hr=>by
  unfold nextTo at hr
  rw [List.mem_replicate] at hr
  cases hr.2
 | q+1=>by
  unfold nextTo
  split
  ·rename_i r hr
   have h1:=hR r (List.mem_of_getElem? hr)
   refine Bd.stepQ (bd_nextTo hR hN q) fun x hx=>?_
   have:=hN x (((List.mem_filter.1 hx).1))
   omega
  ·exact bd_nextTo hR hN q
theorem bd_low {B m:Nat} {S:Vx} (h:Bd B S):Bd B (lowV S m):=fun r hr=>by
 unfold lowV at hr
 obtain ⟨o,ho,e⟩:=List.mem_map.1 hr
 cases o with
 | none=>cases e
 | some u =>
  have:=h u ho
  simp at e
  omega
theorem least_mem:∀ {S:Vx} {m:Nat},leastV S=some m->some m∈S
 | [],m,h=>by cases h
 | x::S,m,h=>by
  unfold leastV at h
  rcases twPlus_cases x (leastV S) with ⟨e,_⟩ | ⟨e,_⟩<;>rw [e] at h
  ·rw [h]; exact List.mem_cons_self
  ·exact List.mem_cons_of_mem _ (least_mem h)
theorem least_le:∀ {S:Vx} {x:Tw},x∈S->twLe (leastV S) x
 | y::S,x,h=>by
  unfold leastV
  rcases List.mem_cons.1 h with rfl | h
  ·exact twPlus_le_left _ _
  ·exact twLe_trans (twPlus_le_right _ _) (least_le h)
theorem setl_some {S:Vx} {m:Nat} {T:Vx} (h:setl S=some (m,T)):leastV S=some m/\T=lowV S m:=by
 unfold setl at h
 split at h
 ·cases h
 ·rename_i k hk
  simp only [Option.some.injEq,Prod.mk.injEq] at h
  exact ⟨by rw [hk,h.1],by rw [<-h.2,h.1]⟩
theorem setl_none {S:Vx} (h:setl S=none):leastV S=none:=by
 unfold setl at h
 split at h
 ·assumption
 ·cases h
structure Dok (st C:Nat) (k:Nat) (X:Ds):Prop where
 len:∀ v∈X.subs,v.length=st
 num:X.subs.length<=64
 bd:∀ (i:Nat) v,X.subs[i]? = some v->Bd (C*(i+1)) v
 arc:∀ x∈X.arcs,x.1<=k/\x.1<X.subs.length/\x.2.2.1<X.subs.length/\∃ c,wt x=some c/\c<=C*66
theorem Dok.one {st C k:Nat} {N:List Ac} {us:List Bool} {l:Nat} {X Y:Ds} (h:Dok st C k X) (hk:k<X.subs.length) (hN:∀ x∈N,cst x<=C) (hs:oneS N us k l X=some Y):Dok st C k Y/\X.subs.length<=Y.subs.length:=by
 unfold oneS at hs
 obtain ⟨v,hv⟩:∃ v,X.subs[k]? = some v:=⟨_,List.getElem?_eq_getElem hk⟩
 have hget:X.subs.getD k []=v:=by rw [List.getD_eq_getElem?_getD,hv]; rfl
 rw [hget] at hs
 have hvl:=h.len v (List.mem_of_getElem? hv)
 have hb:=bd_nextTo (us:=us) (l:=l) (h.bd k v hv) hN v.length
 have hk64:=h.num
 split at hs
 ·cases hs; exact ⟨h,Nat.le_refl _⟩
 ·rename_i c nx hset
  obtain ⟨h1,h2⟩:=setl_some hset
  have hc:c<=C*(k+1)+C:=hb c (least_mem h1)
  have hc66:c<=C*66:=Nat.le_trans hc (by
   have:C*(k+1)+C=C*(k+2):=by rw [Nat.mul_add,Nat.mul_add]; omega
   rw [this]
   exact Nat.mul_le_mul_left _ (by omega))
  have hnx:nx.length=st:=by rw [h2,lowV_len,nextV_len,hvl]
  have hbn:Bd (C*(k+2)) nx:=by
   rw [h2]
   refine (bd_low hb).mono ?_
   rw [Nat.mul_add C k 1,Nat.mul_add C k 2]; omega
  split at hs
  ·rename_i num hnum
   cases hs
   have hlt:num<X.subs.length:=by
    have:=List.findIdx?_eq_some_iff_getElem.1 hnum
    exact this.1
   exact ⟨⟨h.len,h.num,h.bd,fun x hx=>by
    rcases List.mem_append.1 hx with hx | hx
    ·exact h.arc x hx
    ·obtain rfl:x=(k,l,num,some c):=by simpa using hx
     exact ⟨Nat.le_refl _,hk,hlt,c,rfl,hc66⟩⟩,Nat.le_refl _⟩
  ·split at hs
   ·cases hs
   ·rename_i h64
    cases hs
    refine ⟨⟨fun w hw=>?_,by simp; omega,fun i w hw=>?_,fun x hx=>?_⟩,by simp⟩
    ·rcases List.mem_append.1 hw with hw | hw
     ·exact h.len w hw
     ·obtain rfl:w=nx:=by simpa using hw
      exact hnx
    ·rw [List.getElem?_append] at hw
     split at hw
     ·exact h.bd i w hw
     ·rename_i hi
      have hi0:i-X.subs.length=0:=by
       have:=(List.getElem?_eq_some_iff.1 hw).1
       simp at this; omega
      rw [hi0] at hw
      simp at hw
      subst hw
      exact hbn.mono (Nat.mul_le_mul_left _ (by omega))
    ·simp only [List.length_append,List.length_cons,List.length_nil]
     rcases List.mem_append.1 hx with hx | hx
     ·obtain ⟨a,b,c',d⟩:=h.arc x hx
      exact ⟨a,by omega,by omega,d⟩
     ·obtain rfl:x=(k,l,X.subs.length,some c):=by simpa using hx
      exact ⟨Nat.le_refl _,by simp only; omega,by simp only; omega,c,rfl,hc66⟩
theorem Dok.next {st C k:Nat} {X:Ds} (h:Dok st C k X):Dok st C (k+1) X:=⟨h.len,h.num,h.bd,fun x hx=>by obtain ⟨a,b⟩:=h.arc x hx; exact ⟨by omega,b⟩⟩
end
section
def Has (S:Vx) (q r:Nat):Prop:=S[q]? = some (some r)
theorem Has.lt {S:Vx} {q r:Nat} (h:Has S q r):q<S.length:=(List.getElem?_eq_some_iff.1 h).1
theorem Has.unique {S:Vx} {q r s:Nat} (h:Has S q r) (k:Has S q s):r=s:=by unfold Has at *; rw [h] at k; simpa using k
theorem note_has {S:Vx} {q r:Nat} (hq:q<S.length) {j m:Nat}:Has (noteV S q r) j m↔(if j=q then ((∃ u,Has S q u/\m=min u r)\/((∀ u,¬ Has S q u)/\m=r)) else Has S j m):=by
 unfold Has noteV
 by_cases hj:j=q
 ·subst hj
  rw [if_pos rfl]
  cases hS:S[j]? with
  | none=>exact absurd hq (by have:=List.getElem?_eq_none_iff.1 hS; omega)
  | some o =>
   cases o with
   | none =>
    simp only [List.getElem?_set_self hq]
    constructor
    ·intro h; exact .inr ⟨fun u h'=>by simp at h',by simpa using h.symm⟩
    ·rintro (⟨u,h',_⟩ | ⟨_,rfl⟩)
     ·simp at h'
     ·rfl
   | some u =>
    simp only
    split
    ·rename_i hlt
     rw [List.getElem?_set_self hq]
     constructor
     ·intro h
      have:r=m:=by simpa using h
      exact .inl ⟨u,rfl,by omega⟩
     ·rintro (⟨v,h',rfl⟩ | ⟨h',_⟩)
      ·have:u=v:=by simpa using h'
       congr 2; omega
      ·exact absurd rfl (h' u)
    ·rename_i hlt
     rw [hS]
     constructor
     ·intro h
      have:u=m:=by simpa using h
      exact .inl ⟨u,rfl,by omega⟩
     ·rintro (⟨v,h',rfl⟩ | ⟨h',_⟩)
      ·have:u=v:=by simpa using h'
       congr 2; omega
      ·exact absurd rfl (h' u)
 ·rw [if_neg hj]
  have:∀ x,(S.set q x)[j]? = S[j]? := fun x=>List.getElem?_set_ne (fun e=>hj e.symm)
  split
  ·split
   ·rw [this]
   ·exact Iff.rfl
  ·rw [this]
def Bst (S:Vx) (C:Nat->Nat->Prop):Prop:=(∀ j m,Has S j m->C j m)/\∀ j m,C j m->∃ u,Has S j u/\u<=m
theorem Bst.note {S:Vx} {C:Nat->Nat->Prop} (h:Bst S C) {q r:Nat} (hq:q<S.length):Bst (noteV S q r) (fun j m=>C j m\/(j=q/\m=r)):=by
 constructor
 ·intro j m hm
  rw [note_has hq] at hm
  split at hm
  ·rename_i e
   subst e
   rcases hm with ⟨u,hu,rfl⟩ | ⟨_,rfl⟩
   ·rcases Nat.le_total u r with hl | hl
    ·rw [Nat.min_eq_left hl]; exact .inl (h.1 _ _ hu)
    ·rw [Nat.min_eq_right hl]; exact .inr ⟨rfl,rfl⟩
   ·exact .inr ⟨rfl,rfl⟩
  ·exact .inl (h.1 _ _ hm)
 ·rintro j m (hm | ⟨rfl,rfl⟩)
  ·obtain ⟨u,hu,hle⟩:=h.2 j m hm
   by_cases e:j=q
   ·subst e
    exact ⟨min u r,(note_has hq).2 (by rw [if_pos rfl]; exact .inl ⟨u,hu,rfl⟩),by omega⟩
   ·exact ⟨u,(note_has hq).2 (by rw [if_neg e]; exact hu),hle⟩
  ·by_cases hs:∃ u,Has S j u
   ·obtain ⟨u,hu⟩:=hs
    exact ⟨min u m,(note_has hq).2 (by rw [if_pos rfl]; exact .inl ⟨u,hu,rfl⟩),by omega⟩
   ·exact ⟨m,(note_has hq).2 (by rw [if_pos rfl]; exact .inr ⟨fun u hu=>hs ⟨u,hu⟩,rfl⟩),Nat.le_refl _⟩
theorem Bst.congr {S:Vx} {C D:Nat->Nat->Prop} (h:Bst S C) (he:∀ j m,C j m↔D j m):Bst S D :=
 ⟨fun j m hm=>(he j m).1 (h.1 j m hm),fun j m hm=>h.2 j m ((he j m).2 hm)⟩
theorem us_lt {us:List Bool} {j:Nat} (h:us.getD j false=true):j<us.length:=by
 rw [List.getD_eq_getElem?_getD] at h
 cases hh:us[j]? with
 | none=>rw [hh] at h; cases h
 | some _=>exact (List.getElem?_eq_some_iff.1 hh).1
theorem bst_stepQ {us:List Bool} {r:Nat}:∀ {A:List Ac} {S:Vx} {C:Nat->Nat->Prop},us.length<=S.length->Bst S C->Bst (stepQ us r A S) (fun j m=>C j m\/∃ x∈A,us.getD j false=true/\x.2.2.1=j/\m=r+cst x)
 | [],S,C,_,h=>h.congr fun j m=>⟨.inl,fun k=>by rcases k with k | ⟨x,hx,_⟩; exact k; cases hx⟩
 | x::A,S,C,hl,h=>by
  rw [stepQ]
  by_cases hu:us.getD x.2.2.1 false=true
  ·rw [if_pos hu]
   have h1:=h.note (q:=x.2.2.1) (r:=r+cst x) (Nat.lt_of_lt_of_le (us_lt hu) hl)
   refine (bst_stepQ (by rw [noteV_len]; exact hl) h1).congr fun j m=>?_
   constructor
   ·rintro ((k | ⟨rfl,rfl⟩) | ⟨y,hy,k⟩)
    ·exact .inl k
    ·exact .inr ⟨x,List.mem_cons_self,hu,rfl,rfl⟩
    ·exact .inr ⟨y,List.mem_cons_of_mem _ hy,k⟩
   ·rintro (k | ⟨y,hy,k1,k2,k3⟩)
    ·exact .inl (.inl k)
    ·rcases List.mem_cons.1 hy with rfl | hy
     ·exact .inl (.inr ⟨k2.symm,k3⟩)
     ·exact .inr ⟨y,hy,k1,k2,k3⟩
  ·rw [if_neg hu]
   refine (bst_stepQ hl h).congr fun j m=>?_
   constructor
   ·rintro (k | ⟨y,hy,k⟩)
    ·exact .inl k
    ·exact .inr ⟨y,List.mem_cons_of_mem _ hy,k⟩
   ·rintro (k | ⟨y,hy,k1,k2,k3⟩)
    ·exact .inl k
    ·rcases List.mem_cons.1 hy with rfl | hy
     ·exact absurd (by rw [k2]; exact k1) hu
     ·exact .inr ⟨y,hy,k1,k2,k3⟩
def Cand (N:List Ac) (us:List Bool) (R:Vx) (l:Nat) (j m:Nat):Prop:=∃ x∈N,x.2.1=l/\x.2.2.1=j/\us.getD j false=true/\∃ r,Has R x.1 r/\m=r+cst x
theorem bst_nextTo {N:List Ac} {us:List Bool} {R:Vx} {l:Nat} (hl:us.length<=R.length):∀ q,q<=R.length->Bst (nextTo N us R l q) (fun j m=>∃ x∈N,x.1<q/\x.2.1=l/\x.2.2.1=j/\us.getD j false=true/\∃ r,Has R x.1 r/\m=r+cst x)
 | 0,_=>by
  refine ⟨fun j m h=>?_,fun j m h=>?_⟩
  ·unfold nextTo Has at h
   rw [List.getElem?_replicate] at h
   split at h
   ·simp at h
   ·cases h
  ·obtain ⟨x,_,h,_⟩:=h
   exact absurd h (Nat.not_lt_zero _)
 | q+1,hq=>by
  have ih:=bst_nextTo (N:=N) (us:=us) (R:=R) (l:=l) hl q (by omega)
  unfold nextTo
  split
  ·rename_i r hr
   refine (bst_stepQ (us:=us) (r:=r) (A:=stp N q l) (by rw [nextTo_len]; exact hl) ih).congr fun j m=>?_
   constructor
   ·rintro (⟨x,hx,k1,k⟩ | ⟨x,hx,k1,k2,k3⟩)
    ·exact ⟨x,hx,by omega,k⟩
    ·obtain ⟨hx1,hx2⟩:=List.mem_filter.1 hx
     simp only [Bool.and_eq_true,decide_eq_true_eq] at hx2
     exact ⟨x,hx1,by omega,hx2.2,k2,k1,r,by rw [hx2.1]; exact hr,k3⟩
   ·rintro ⟨x,hx,k1,k2,k3,k4,s,k5,k6⟩
    by_cases e:x.1=q
    ·have:r=s:=by rw [e] at k5; exact Has.unique hr k5
     subst this
     exact .inr ⟨x,List.mem_filter.2 ⟨hx,by simp [e,k2]⟩,k4,k3,k6⟩
    ·exact .inl ⟨x,hx,by omega,k2,k3,k4,s,k5,k6⟩
  ·rename_i hno
   refine ih.congr fun j m=>?_
   constructor
   ·rintro ⟨x,hx,k1,k⟩
    exact ⟨x,hx,by omega,k⟩
   ·rintro ⟨x,hx,k1,k2,k3,k4,s,k5,k6⟩
    by_cases e:x.1=q
    ·rw [e] at k5
     exact absurd k5 (hno s)
    ·exact ⟨x,hx,by omega,k2,k3,k4,s,k5,k6⟩
theorem bst_nextV {N:List Ac} {us:List Bool} {R:Vx} {l:Nat} (hl:us.length<=R.length):Bst (nextV N us R l) (Cand N us R l) :=
 (bst_nextTo hl R.length (Nat.le_refl _)).congr fun j m=>⟨fun ⟨x,hx,_,k⟩=>⟨x,hx,k⟩,fun ⟨x,hx,k1,k2,k3,r,k4,k5⟩=>⟨x,hx,k4.lt,k1,k2,k3,r,k4,k5⟩⟩
theorem low_has {S:Vx} {m j r:Nat}:Has (lowV S m) j r↔∃ u,Has S j u/\r=u-m:=by
 unfold Has lowV
 rw [List.getElem?_map]
 cases S[j]? with
 | none=>simp
 | some o=>cases o<;>simp [eq_comm]
inductive ToEnd (N:List Ac) (fin:List Tw):Nat->Prop
 | here {q c:Nat}:fin[q]? = some (some c)->ToEnd N fin q
 | step {x:Ac}:x∈N->ToEnd N fin x.2.2.1->ToEnd N fin x.1
inductive FromS (N:List Ac) (ini:List Tw):Nat->Prop
 | here {q c:Nat}:ini[q]? = some (some c)->FromS N ini q
 | step {x:Ac}:x∈N->FromS N ini x.1->FromS N ini x.2.2.1
def UsOk (us:List Bool) (A:Au):Prop:=us.length=A.st/\∀ q,q<A.st->(us.getD q false=true↔FromS A.arcs A.ini q/\ToEnd A.arcs A.fin q)
theorem UsOk.unique {us us':List Bool} {A:Au} (h:UsOk us A) (k:UsOk us' A):us=us':=by
 refine List.ext_getElem (by rw [h.1,k.1]) fun q h1 h2=>?_
 have e:=(h.2 q (by rw [<-h.1]; exact h1)).trans (k.2 q (by rw [<-h.1]; exact h1)).symm
 rw [List.getD_eq_getElem?_getD,List.getElem?_eq_getElem h1,List.getD_eq_getElem?_getD,List.getElem?_eq_getElem h2] at e
 simp only [Option.getD_some] at e
 cases ha:us[q]<;>cases hb:us'[q]<;>simp [ha,hb] at e ⊢
structure Aok (A:Au) (syms:Nat):Prop where
 ini:A.ini.length=A.st
 fin:A.fin.length=A.st
 arc:∀ x∈A.arcs,x.1<A.st/\x.2.2.1<A.st/\1<=x.2.1/\x.2.1<=syms/\nz x=true
end
section
def bef (k l:Nat) (x:Ac):Prop:=x.1<k\/(x.1=k/\x.2.1<l)
def Sub (us:List Bool) (v:Vx):Prop:=(∀ q r,Has v q r->us.getD q false=true)/\∃ q,Has v q 0
theorem getElem?_app_left {α:Type} {l m:List α} {i:Nat} {x:α} (h:l[i]? = some x):(l++m)[i]? = some x:=by
 rw [List.getElem?_append_left (List.getElem?_eq_some_iff.1 h).1]; exact h
structure Dst (N:List Ac) (us:List Bool) (syms k l:Nat) (X:Ds):Prop where
 bef:∀ x∈X.arcs,bef k l x
 ss:Ss X.arcs
 sound:∀ x∈X.arcs,∃ v w c,X.subs[x.1]? = some v/\X.subs[x.2.2.1]? = some w/\wt x=some c/\1<=x.2.1/\x.2.1<=syms/\setl (nextV N us v x.2.1)=some (c,w)
 full:∀ i j v c nx,(i<k\/(i=k/\j<l))->1<=j->j<=syms->X.subs[i]? = some v->setl (nextV N us v j)=some (c,nx)->∃ num,(i,j,num,some c)∈X.arcs/\X.subs[num]? = some nx
 from_:∀ i,0<i->i<X.subs.length->∃ x∈X.arcs,x.2.2.1=i/\x.1<i
 sub:∀ v∈X.subs,Sub us v
theorem sub_setl {N:List Ac} {us:List Bool} {R:Vx} {l c:Nat} {nx:Vx} (hl:us.length<=R.length) (h:setl (nextV N us R l)=some (c,nx)):Sub us nx:=by
 obtain ⟨h1,rfl⟩:=setl_some h
 have hb:=bst_nextV (N:=N) (us:=us) (R:=R) (l:=l) hl
 constructor
 ·intro q r hr
  obtain ⟨u,hu,_⟩:=low_has.1 hr
  obtain ⟨x,_,_,_,k,_⟩:=hb.1 q u hu
  exact k
 ·obtain ⟨q,hq⟩:=List.getElem?_of_mem (least_mem h1)
  exact ⟨q,low_has.2 ⟨c,hq,by omega⟩⟩
theorem Dst.one {N:List Ac} {us:List Bool} {syms k l:Nat} {X Y:Ds} (h:Dst N us syms k l X) (hk:k<X.subs.length) (hl1:1<=l) (hls:l<=syms) (hlen:∀ v∈X.subs,us.length<=v.length) (hs:oneS N us k l X=some Y) :
  Dst N us syms k (l+1) Y/\(∃ B,Y.subs=X.subs++B)/\(Y.arcs=X.arcs\/∃ num c,Y.arcs=X.arcs++[(k,l,num,some c)]/\num<Y.subs.length):=by
 obtain ⟨v,hv⟩:∃ v,X.subs[k]? = some v:=⟨_,List.getElem?_eq_getElem hk⟩
 have hget:X.subs.getD k []=v:=by rw [List.getD_eq_getElem?_getD,hv]; rfl
 unfold oneS at hs
 rw [hget] at hs
 have hbef:∀ x∈X.arcs,Go.Proofs.YtnapapijhhldpaaGreatDoor.bef k (l+1) x:=fun x hx=>by
  rcases h.bef x hx with e | ⟨e1,e2⟩
  ·exact .inl e
  ·exact .inr ⟨e1,by omega⟩
 cases hset:setl (nextV N us v l) with
 | none =>
  rw [hset] at hs
  cases hs
  refine ⟨⟨hbef,h.ss,h.sound,fun i j w c nx hij h1 h2 hw hn=>?_,h.from_,h.sub⟩,⟨[],by simp⟩,.inl rfl⟩
  by_cases e:i=k/\j=l
  ·obtain ⟨rfl,rfl⟩:=e
   rw [hv] at hw
   cases hw
   rw [hset] at hn
   cases hn
  ·exact h.full i j w c nx (by omega) h1 h2 hw hn
 | some p =>
  obtain ⟨c,nx⟩:=p
  rw [hset] at hs
  simp only at hs
  have hsub:Sub us nx:=sub_setl (hlen v (List.mem_of_getElem? hv)) hset
  have hss:∀ num,Ss (X.arcs++[(k,l,num,some c)]):=fun num=>by
   refine Ss.append h.ss ⟨fun y hy=>(by cases hy),trivial⟩ fun x hx y hy=>?_
   obtain rfl:y=(k,l,num,some c):=by simpa using hy
   rcases h.bef x hx with e | ⟨e1,e2⟩
   ·exact .inl e
   ·exact .inr ⟨e1,.inl e2⟩
  split at hs
  ·rename_i num hnum
   cases hs
   obtain ⟨hlt,he,_⟩:=List.findIdx?_eq_some_iff_getElem.1 hnum
   have hnx:X.subs[num]? = some nx:=by
    rw [List.getElem?_eq_getElem hlt]
    congr 1
    simpa using he
   refine ⟨⟨fun x hx=>?_,hss num,fun x hx=>?_,fun i j w c' nx' hij h1 h2 hw hn=>?_,fun i h0 hi=>?_,h.sub⟩,⟨[],by simp⟩,.inr ⟨num,c,rfl,hlt⟩⟩
   ·rcases List.mem_append.1 hx with hx | hx
    ·exact hbef x hx
    ·obtain rfl:x=(k,l,num,some c):=by simpa using hx
     exact .inr ⟨rfl,by simp only; omega⟩
   ·rcases List.mem_append.1 hx with hx | hx
    ·exact h.sound x hx
    ·obtain rfl:x=(k,l,num,some c):=by simpa using hx
     exact ⟨v,nx,c,hv,hnx,rfl,hl1,hls,hset⟩
   ·by_cases e:i=k/\j=l
    ·obtain ⟨rfl,rfl⟩:=e
     rw [hv] at hw
     cases hw
     rw [hset] at hn
     cases hn
     exact ⟨num,List.mem_append_right _ (List.mem_singleton.2 rfl),hnx⟩
    ·obtain ⟨n',h3,h4⟩:=h.full i j w c' nx' (by omega) h1 h2 hw hn
     exact ⟨n',List.mem_append_left _ h3,h4⟩
   ·obtain ⟨x,h1,h2⟩:=h.from_ i h0 hi
    exact ⟨x,List.mem_append_left _ h1,h2⟩
  ·split at hs
   ·cases hs
   ·cases hs
    have hnew:(X.subs++[nx])[X.subs.length]? = some nx:=by simp
    refine ⟨⟨fun x hx=>?_,hss _,fun x hx=>?_,fun i j w c' nx' hij h1 h2 hw hn=>?_,fun i h0 hi=>?_,fun w hw=>?_⟩,⟨[nx],rfl⟩,.inr ⟨X.subs.length,c,rfl,by simp⟩⟩
    ·rcases List.mem_append.1 hx with hx | hx
     ·exact hbef x hx
     ·obtain rfl:x=(k,l,X.subs.length,some c):=by simpa using hx
      exact .inr ⟨rfl,by simp only; omega⟩
    ·rcases List.mem_append.1 hx with hx | hx
     ·obtain ⟨a,b,d,e1,e2,e3⟩:=h.sound x hx
      exact ⟨a,b,d,getElem?_app_left e1,getElem?_app_left e2,e3⟩
     ·obtain rfl:x=(k,l,X.subs.length,some c):=by simpa using hx
      exact ⟨v,nx,c,getElem?_app_left hv,hnew,rfl,hl1,hls,hset⟩
    ·have hik:i<X.subs.length:=by omega
     simp only at hw
     rw [List.getElem?_append_left hik] at hw
     by_cases e:i=k/\j=l
     ·obtain ⟨rfl,rfl⟩:=e
      rw [hv] at hw
      cases hw
      rw [hset] at hn
      cases hn
      exact ⟨X.subs.length,List.mem_append_right _ (List.mem_singleton.2 rfl),hnew⟩
     ·obtain ⟨n',h3,h4⟩:=h.full i j w c' nx' (by omega) h1 h2 hw hn
      exact ⟨n',List.mem_append_left _ h3,getElem?_app_left h4⟩
    ·simp only [List.length_append,List.length_cons,List.length_nil] at hi
     by_cases e:i<X.subs.length
     ·obtain ⟨x,h1,h2⟩:=h.from_ i h0 e
      exact ⟨x,List.mem_append_left _ h1,h2⟩
     ·exact ⟨_,List.mem_append_right _ (List.mem_singleton.2 rfl),by simp only; omega,by simp only; omega⟩
    ·rcases List.mem_append.1 hw with hw | hw
     ·exact h.sub w hw
     ·obtain rfl:w=nx:=by simpa using hw
      exact hsub
def uv (n i:Nat):Vx:=(List.replicate n none).set i (some 0)
def basis (n m:Nat):List Vx:=(List.range m).map (uv n)
theorem uv_has {n i j r:Nat}:Has (uv n i) j r↔i<n/\j=i/\r=0:=by
 unfold Has uv
 rw [List.getElem?_set]
 split
 ·rename_i e
  subst e
  simp only [List.length_replicate]
  split
  ·rename_i h
   constructor
   ·intro k; exact ⟨h,trivial,by simpa using k.symm⟩
   ·rintro ⟨_,_,rfl⟩; rfl
  ·rename_i h
   constructor
   ·intro k; cases k
   ·rintro ⟨k,_⟩; exact absurd k h
 ·rename_i e
  rw [List.getElem?_replicate]
  constructor
  ·intro k
   split at k
   ·simp at k
   ·cases k
  ·rintro ⟨_,k,_⟩; exact absurd k.symm e
theorem uv_len (n i:Nat):(uv n i).length=n:=by simp [uv]
theorem basis_len (n m:Nat):(basis n m).length=m:=by simp [basis]
theorem basis_get {n m i:Nat} (h:i<m):(basis n m)[i]? = some (uv n i):=by simp [basis,h]
theorem basis_succ (n m:Nat):basis n m++[uv n m]=basis n (m+1):=by simp [basis,List.range_succ]
theorem vx_ext {S T:Vx} (hl:S.length=T.length) (h:∀ j r,Has S j r↔Has T j r):S=T:=by
 refine List.ext_getElem hl fun j h1 h2=>?_
 have k:=h j
 unfold Has at k
 simp only [List.getElem?_eq_getElem h1,List.getElem?_eq_getElem h2,Option.some.injEq] at k
 cases hs:S[j] with
 | none =>
  cases ht:T[j] with
  | none=>rfl
  | some r=>have:=(k r).2 ht; rw [hs] at this; cases this
 | some r=>exact ((k r).1 hs).symm
theorem uv_inj {n i j:Nat} (hi:i<n) (h:uv n i=uv n j):i=j:=by
 have:Has (uv n i) i 0:=uv_has.2 ⟨hi,rfl,rfl⟩
 rw [h] at this
 exact (uv_has.1 this).2.1
theorem least_is {S:Vx} {m q:Nat} (h:Has S q m) (hm:∀ j r,Has S j r->m<=r):leastV S=some m:=by
 have h1:=least_le (List.mem_of_getElem? h)
 cases hl:leastV S with
 | none=>rw [hl] at h1; exact absurd h1 (by simp [twLe])
 | some u =>
  rw [hl] at h1
  obtain ⟨j,hj⟩:=List.getElem?_of_mem (least_mem hl)
  have:=hm j u hj
  have:u<=m:=h1
  congr 1
  omega
theorem least_none {S:Vx} (h:∀ j r,¬ Has S j r):leastV S=none:=by
 cases hl:leastV S with
 | none=>rfl
 | some u =>
  obtain ⟨j,hj⟩:=List.getElem?_of_mem (least_mem hl)
  exact absurd hj (h j u)
theorem setl_uv {F:List Ac} {n k l:Nat} (hk:k<n) :
  (stp F k l=[]->setl (nextV F (List.replicate n true) (uv n k) l)=none) /\
  (∀ num c,num<n->stp F k l=[(k,l,num,some c)]->setl (nextV F (List.replicate n true) (uv n k) l)=some (c,uv n num)):=by
 have hb:=bst_nextV (N:=F) (us:=List.replicate n true) (R:=uv n k) (l:=l) (by rw [uv_len]; simp)
 have hlen:(nextV F (List.replicate n true) (uv n k) l).length=n:=by rw [nextV_len,uv_len]
 have hmem:∀ x,x∈stp F k l↔(x∈F/\x.1=k/\x.2.1=l):=fun x=>by unfold stp; rw [List.mem_filter]; simp
 constructor
 ·intro h0
  have:leastV (nextV F (List.replicate n true) (uv n k) l)=none:=least_none fun j r hr=>by
   obtain ⟨x,hx,h1,_,_,s,h2,_⟩:=hb.1 j r hr
   have:=(hmem x).2 ⟨hx,(uv_has.1 h2).2.1,h1⟩
   rw [h0] at this
   cases this
  unfold setl
  rw [this]
 ·intro num c hnum h0
  have hin:((k,l,num,some c):Ac)∈stp F k l:=by rw [h0]; exact List.mem_singleton.2 rfl
  obtain ⟨hF,-, -⟩:=(hmem _).1 hin
  have hcand:∀ j r,Cand F (List.replicate n true) (uv n k) l j r↔(j=num/\r=c):=fun j r=>by
   constructor
   ·rintro ⟨x,hx,h1,h2,_,s,h3,h4⟩
    obtain ⟨_,h5,h6⟩:=uv_has.1 h3
    have:=(hmem x).2 ⟨hx,h5,h1⟩
    rw [h0] at this
    obtain rfl:x=(k,l,num,some c):=by simpa using this
    exact ⟨h2.symm,by rw [h4,h6]; simp [cst,wt]⟩
   ·rintro ⟨rfl,rfl⟩
    exact ⟨_,hF,rfl,rfl,by simp [List.getD_eq_getElem?_getD,hnum],0,uv_has.2 ⟨hk,rfl,rfl⟩,by simp [cst,wt]⟩
  have hhas:∀ j r,Has (nextV F (List.replicate n true) (uv n k) l) j r↔(j=num/\r=c):=fun j r=>by
   constructor
   ·intro h; exact (hcand j r).1 (hb.1 j r h)
   ·rintro ⟨rfl,rfl⟩
    obtain ⟨u,hu,_⟩:=hb.2 j r ((hcand j r).2 ⟨rfl,rfl⟩)
    obtain ⟨_,rfl⟩:=(hcand j u).1 (hb.1 j u hu)
    exact hu
  have hleast:leastV (nextV F (List.replicate n true) (uv n k) l)=some c:=least_is ((hhas num c).2 ⟨rfl,rfl⟩) fun j r hr=>by
   obtain ⟨_,rfl⟩:=(hhas j r).1 hr; exact Nat.le_refl _
  unfold setl
  rw [hleast]
  have hx:lowV (nextV F (List.replicate n true) (uv n k) l) c=uv n num:=by
   refine vx_ext (by rw [lowV_len,hlen,uv_len]) fun j r=>?_
   rw [low_has,uv_has]
   constructor
   ·rintro ⟨u,hu,rfl⟩
    obtain ⟨rfl,rfl⟩:=(hhas j u).1 hu
    exact ⟨hnum,rfl,by omega⟩
   ·rintro ⟨_,rfl,rfl⟩
    exact ⟨c,(hhas j c).2 ⟨rfl,rfl⟩,by omega⟩
  show some (c,lowV (nextV F (List.replicate n true) (uv n k) l) c)=_
  rw [hx]
theorem basis_find {n m num:Nat} (hm:m<=n) (hnum:num<n):(basis n m).findIdx? (· == uv n num)=if num<m then some num else none:=by
 split
 ·rename_i h
  rw [List.findIdx?_eq_some_iff_getElem]
  refine ⟨by rw [basis_len]; exact h,?_,fun j hj=>?_⟩
  ·simp [basis]
  ·simp only [basis,List.getElem_map,List.getElem_range]
   intro k
   have:=uv_inj (n:=n) (i:=j) (by omega) (by simpa using k)
   omega
 ·rename_i h
  rw [List.findIdx?_eq_none_iff]
  intro x hx
  obtain ⟨j,hj,rfl⟩:=List.mem_map.1 hx
  rw [List.mem_range] at hj
  rw [beq_eq_false_iff_ne]
  intro k
  have:=uv_inj (n:=n) (i:=j) (by omega) k
  omega
end
end Go.Proofs.YtnapapijhhldpaaGreatDoor

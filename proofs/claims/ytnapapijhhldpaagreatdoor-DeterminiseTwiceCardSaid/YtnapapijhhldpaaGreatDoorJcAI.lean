/-
  Texts joined by program: Twt. No condition of its own.
-/
import Derived.Test.YtnapapijhhldpaaGreatDoorJcAH
namespace Go.Proofs.YtnapapijhhldpaaGreatDoor
set_option linter.unusedSimpArgs false
set_option linter.unusedVariables false
section
open Go.RowKit
theorem exec_loadC {P:Program} {o:Oper} {a:Act} {w:World} (ty:TypeId) (x:Operand) (ho:o.op=.load ty x)
  (b off:Nat) (hx:a.eval x=.pointer (some ⟨b,off,none⟩)) (cs:List Value) (hc:Cs w b off cs) (d:TypeDesc)
  (hu:P.underlying ty=some d) (hd:(match d with | .struct _ | .array _ _=>true | _=>false)=true) (hi:(P.info? ty).map (·.size)=some cs.length) :
  (execOp a.eval o).run P w=.ok (.value (.agg cs.toArray)) w:=by
 unfold execOp
 simp only [ho,hx,Instr.loadAt,Instr.sureAddr,Sem.run_bind,Sem.run_pure,Result.andThen_ok,run_loadC w ty b off cs d hc hu hd hi]
theorem exec_loadArc {dst:Option Tmp} {ty:TypeId} {pos:String} {after:Array Edge} {guard:Option (Nat×Bool)} {x:Operand} {a:Act} {w:World}
  (b off:Nat) (hx:a.eval x=.pointer (some ⟨b,off,none⟩)) (y:Ac) (hc:Cs w b off (acC y)):(execOp a.eval ⟨dst,.load 54 x,ty,pos,after,guard⟩).run Tryz.prog w=.ok (.value (.agg (acC y).toArray)) w :=
 exec_loadC _ x rfl b off hx (acC y) hc _ Tryz.underlying54 rfl Tryz.sizeArc
theorem Fl.cs {k n cap g:Nat} {w:World} {css:List (List Value)} {i:Nat} {x:List Value} (h:Fl k w (some ⟨g,0,none⟩) n cap css) (hx:css[i]? = some x):Cs w g (i*k) x:=by
 obtain ⟨b,o,e2,hc⟩:=h.at_ i x hx
 injection e2 with e2
 injection e2 with e2 e3
 subst e2 e3
 rw [Nat.zero_add] at hc
 exact hc
theorem upA_get {xs:List Ac} (hu:UpA xs) {i j:Nat} (hij:i<j) {x y:Ac} (hx:xs[i]? = some x) (hy:xs[j]? = some y):¬ klt (ky y) (ky x):=by
 obtain ⟨hi,rfl⟩:=List.getElem?_eq_some_iff.1 hx
 obtain ⟨hj,rfl⟩:=List.getElem?_eq_some_iff.1 hy
 exact List.pairwise_iff_getElem.1 hu i j hi hj hij
theorem ordS_any (x y:Ac) (h:¬ klt (ky y) (ky x)) (w:World):Calls Tryz.prog 170 #[.agg #[.int .i64 ((y).1:Int),.int .i64 ((y).2.1:Int),.int .i64 ((y).2.2.1:Int),.bool false,.slice none 0 0,.slice none 0 0,.int .i64 (tc (wt y):Int),.bool (ti (wt y)),.int .u64 0,.slice none 0 0,.slice none 0 0],.agg #[.int .i64 ((x).1:Int),.int .i64 ((x).2.1:Int),.int .i64 ((x).2.2.1:Int),.bool false,.slice none 0 0,.slice none 0 0,.int .i64 (tc (wt x):Int),.bool (ti (wt x)),.int .u64 0,.slice none 0 0,.slice none 0 0]] w fun e w'=>(∃ c:Int,e=.returned (.int .i64 c)∧0≤c)∧Below w.heap.size w w' :=
 (order_any y x w).mono fun e w' ⟨h1,h2⟩=>⟨⟨cmpK (ky y) (ky x),h1,by
  have:=mt cmpK_neg.1 h; omega⟩,h2⟩
set_option maxRecDepth 100000 in
set_option maxHeartbeats 2000000 in
theorem sym_left (xs:List Ac) (hu:UpA xs) (g n cap a b:Nat) (hab:a+1<b) (hbn:b≤n) (hn:n≤4096) (w:World) (h:Fl 11 w (some ⟨g,0,none⟩) n cap (xs.map acC)) :
  Calls Tryz.prog 294 #[.slice (some ⟨g,0,none⟩) n cap,.int .i64 ((a:Int)),.int .i64 ((a:Int)+1),.int .i64 ((b:Int)),.func (.func 170) #[] #[]] w fun e w'=>e=.returned (.tuple #[])∧Below w.heap.size w w':=by
 have hlx:=hid h.lenMap
 have hu:=hid hu
 have hh:=hid h
 clear h
 have c1:((a:Int)+1-(a:Int)==1)=true:=by rw [beq_iff_eq]; omega
 go_enter Tryz.func294,Tryz.ntmps294
 go_wp2_with fail
 go_loopw [10,11] (fun iv jv wr=>iv=.int .i64 ((a:Int)+1)∧(∃ j:Nat,a+1≤j∧j≤b∧jv=.int .i64 (j:Int))∧Below w.heap.size w wr) (fun _ jv _=>(intOf jv).toNat)
 case atStart=>exact ⟨rfl,⟨b,by omega,by omega,rfl⟩,Below.refl _ _⟩
 case round =>
  obtain ⟨rfl,⟨j,hj1,hj2,rfl⟩,hb⟩:=hrel
  by_cases hlt:a+1<j
  ·obtain ⟨hm,hmid⟩:∃ hm:Nat,((a:Int)+1+(j:Int))/2=(hm:Int):=⟨(a+1+j)/2,by omega⟩
   have k1:(a:Int)+1<(j:Int):=by omega
   have k2:(0:Int)≤(hm:Int):=by omega
   have k3:(hm:Int)<(n:Int):=by omega
   have k4:(a:Int)<(n:Int):=by omega
   have k5:(0:Int)≤(a:Int):=by omega
   have k6:a+1≤hm∧hm<j:=by omega
   obtain ⟨x,hx⟩:∃ x,xs[a]? = some x:=⟨_,List.getElem?_eq_getElem (by have:=hlx.out; omega)⟩
   obtain ⟨y,hy⟩:∃ y,xs[hm]? = some y:=⟨_,List.getElem?_eq_getElem (by have:=hlx.out; omega)⟩
   have cx:Cs wr g (a*11) (acC x):=(hh.out.next hb).cs (by rw [List.getElem?_map,hx]; rfl)
   have cy:Cs wr g (hm*11) (acC y):=(hh.out.next hb).cs (by rw [List.getElem?_map,hy]; rfl)
   have hkl:¬ klt (ky y) (ky x):=upA_get hu.out (by omega) hx hy
   clear hx hy
   have Hmid:=hid hmid
   clear hmid
   go_upto_region 5 with fail
   have hmid:=Hmid.out
   rw [hmid]
   have hdr:=(Below.refl wr.heap.size wr).drew
   have hS:Cs wr.drew g (hm*11) (acC y)∧Cs wr.drew g (a*11) (acC x):=⟨cy.next hdr,cx.next hdr⟩
   refine wp_region_D (fun w'=>Cs w' g (hm*11) (acC y)∧Cs w' g (a*11) (acC x)) [9,10] (by kernel_rfl) ?_
   refine wpSp (i:=0) rfl hS ?_
   refine wpSp (i:=1) rfl hS ?_
   refine wpSp (i:=2) rfl hS ?_
   refine wpSp (i:=3) rfl hS ?_
   refine wpS (i:=4) (v:=?_) rfl (Or.inl ⟨by rfl,?_⟩) hS ?_
   rotate_left
   ·intro w hw; obtain ⟨c1',c2'⟩:=hw; refine exec_loadArc g (hm*11) ?_ y c1'; go_simp
   refine wpSp (i:=5) rfl hS ?_
   refine wpSp (i:=6) rfl hS ?_
   refine wpSp (i:=7) rfl hS ?_
   refine wpS (i:=8) (v:=?_) rfl (Or.inl ⟨by rfl,?_⟩) hS ?_
   rotate_left
   ·intro w hw; obtain ⟨c1',c2'⟩:=hw; refine exec_loadArc g (a*11) ?_ x c2'; go_simp
   refine wpAnyD_one (i:=9) (by kernel_rfl) rfl (fun KK hKK=>?_)
   go_simp
   go_at_call 170
   refine (ordS_any x y hkl _).mono ?_; rintro e w9 ⟨⟨c,rfl,hc0⟩,hb9⟩
   have hcn:¬ c<0:=by omega
   try go_simp
   refine hKK _ _ ⟨fun hn=>absurd (by simp) hn,?_⟩; clear hKK KK
   refine wpAnyD_one (i:=10) (by kernel_rfl) rfl (fun KK hKK=>?_)
   go_simp
   refine hKK _ _ ⟨fun hn=>absurd (by simp) hn,?_⟩; clear hKK KK
   refine wpAnyD_done (by kernel_rfl) ?_ _
   go_simp
   go_wp2_with fail
   go_roundw
   case rel=>exact ⟨rfl,⟨hm,by omega,by omega,rfl⟩,below_chain (below_chain hb hdr) hb9⟩
   case measure=>simp [intOf]; omega
  ·obtain rfl:j=a+1:=by omega
   have k1:¬ ((a:Int)+1<((a+1:Nat):Int)):=by omega
   have k2:¬ ((a:Int)<(a:Int)+1-1):=by omega
   go_wp2_with fail
   go_loopw [13] (fun kv wq=>kv=.int .i64 (a:Int)∧wq=wr) (fun _ _=>0)
   case atStart=>exact ⟨rfl,rfl⟩
   case round =>
    obtain ⟨rfl,rfl⟩:=hrel
    go_wp2_with fail
    exact bodyPost_ret (results_none rfl _ _ _) rfl ⟨rfl,hb⟩
set_option maxRecDepth 100000 in
set_option maxHeartbeats 2000000 in
theorem sym_right (xs:List Ac) (hu:UpA xs) (g n cap a m:Nat) (ham:a+1<m) (hmn:m<n) (hn:n≤4096) (w:World) (h:Fl 11 w (some ⟨g,0,none⟩) n cap (xs.map acC)) :
  Calls Tryz.prog 294 #[.slice (some ⟨g,0,none⟩) n cap,.int .i64 ((a:Int)),.int .i64 ((m:Int)),.int .i64 ((m:Int)+1),.func (.func 170) #[] #[]] w fun e w'=>e=.returned (.tuple #[])∧Below w.heap.size w w':=by
 have hlx:=hid h.lenMap
 have hu:=hid hu
 have hh:=hid h
 clear h
 have c1:((m:Int)-(a:Int)==1)=false:=by rw [beq_eq_false_iff_ne]; omega
 have c1':¬ ((m:Int)-(a:Int)=1):=by omega
 have c2:((m:Int)+1-(m:Int)==1)=true:=by rw [beq_iff_eq]; omega
 go_enter Tryz.func294,Tryz.ntmps294
 go_wp2_with fail
 go_loopw [14,15] (fun iv jv wr=>(∃ i:Nat,a≤i∧i≤m∧iv=.int .i64 (i:Int))∧jv=.int .i64 (m:Int)∧Below w.heap.size w wr) (fun iv _ _=>m-(intOf iv).toNat)
 case atStart=>exact ⟨⟨a,by omega,by omega,rfl⟩,rfl,Below.refl _ _⟩
 case round =>
  obtain ⟨⟨i,hi1,hi2,rfl⟩,rfl,hb⟩:=hrel
  by_cases hlt:i<m
  ·obtain ⟨hm,hmid⟩:∃ hm:Nat,((i:Int)+(m:Int))/2=(hm:Int):=⟨(i+m)/2,by omega⟩
   have k1:(i:Int)<(m:Int):=by omega
   have k2:(0:Int)≤(hm:Int):=by omega
   have k3:(hm:Int)<(n:Int):=by omega
   have k4:(m:Int)<(n:Int):=by omega
   have k5:(0:Int)≤(m:Int):=by omega
   have k6:i≤hm∧hm<m:=by omega
   obtain ⟨x,hx⟩:∃ x,xs[hm]? = some x:=⟨_,List.getElem?_eq_getElem (by have:=hlx.out; omega)⟩
   obtain ⟨y,hy⟩:∃ y,xs[m]? = some y:=⟨_,List.getElem?_eq_getElem (by have:=hlx.out; omega)⟩
   have cx:Cs wr g (hm*11) (acC x):=(hh.out.next hb).cs (by rw [List.getElem?_map,hx]; rfl)
   have cy:Cs wr g (m*11) (acC y):=(hh.out.next hb).cs (by rw [List.getElem?_map,hy]; rfl)
   have hkl:¬ klt (ky y) (ky x):=upA_get hu.out (by omega) hx hy
   clear hx hy
   have Hmid:=hid hmid
   clear hmid
   go_upto_region 17 with fail
   have hmid:=Hmid.out
   rw [hmid]
   have hdr:=(Below.refl wr.heap.size wr).drew
   have hS:Cs wr.drew g (m*11) (acC y)∧Cs wr.drew g (hm*11) (acC x):=⟨cy.next hdr,cx.next hdr⟩
   refine wp_region_D (fun w'=>Cs w' g (m*11) (acC y)∧Cs w' g (hm*11) (acC x)) [9,10,11] (by kernel_rfl) ?_
   refine wpSp (i:=0) rfl hS ?_
   refine wpSp (i:=1) rfl hS ?_
   refine wpSp (i:=2) rfl hS ?_
   refine wpSp (i:=3) rfl hS ?_
   refine wpS (i:=4) (v:=?_) rfl (Or.inl ⟨by rfl,?_⟩) hS ?_
   rotate_left
   ·intro w hw; obtain ⟨c1',c2'⟩:=hw; refine exec_loadArc g (m*11) ?_ y c1'; go_simp
   refine wpSp (i:=5) rfl hS ?_
   refine wpSp (i:=6) rfl hS ?_
   refine wpSp (i:=7) rfl hS ?_
   refine wpS (i:=8) (v:=?_) rfl (Or.inl ⟨by rfl,?_⟩) hS ?_
   rotate_left
   ·intro w hw; obtain ⟨c1',c2'⟩:=hw; refine exec_loadArc g (hm*11) ?_ x c2'; go_simp
   refine wpAnyD_one (i:=9) (by kernel_rfl) rfl (fun KK hKK=>?_)
   go_simp
   go_at_call 170
   refine (ordS_any x y hkl _).mono ?_; rintro e w9 ⟨⟨c,rfl,hc0⟩,hb9⟩
   have hcn:¬ c<0:=by omega
   try go_simp
   refine hKK _ _ ⟨fun hn=>absurd (by simp) hn,?_⟩; clear hKK KK
   refine wpAnyD_one (i:=10) (by kernel_rfl) rfl (fun KK hKK=>?_)
   go_simp
   refine hKK _ _ ⟨fun hn=>absurd (by simp) hn,?_⟩; clear hKK KK
   refine wpAnyD_one (i:=11) (by kernel_rfl) rfl (fun KK hKK=>?_)
   go_simp
   refine hKK _ _ ⟨fun hn=>absurd (by simp) hn,?_⟩; clear hKK KK
   refine wpAnyD_done (by kernel_rfl) ?_ _
   go_simp
   go_wp2_with fail
   go_roundw
   case rel=>exact ⟨⟨hm+1,by omega,by omega,by go_num⟩,rfl,below_chain (below_chain hb hdr) hb9⟩
   case measure=>simp [intOf]; omega
  ·obtain rfl:i=m:=by omega
   have k1:¬ ((i:Int)<(i:Int)):=by omega
   go_wp2_with fail
   go_loopw [17] (fun kv wq=>kv=.int .i64 (i:Int)∧wq=wr) (fun _ _=>0)
   case atStart=>exact ⟨rfl,rfl⟩
   case round =>
    obtain ⟨rfl,rfl⟩:=hrel
    go_wp2_with fail
    exact bodyPost_ret (results_none rfl _ _ _) rfl ⟨rfl,hb⟩
set_option maxRecDepth 100000 in
set_option maxHeartbeats 4000000 in
theorem sym_genA (xs:List Ac) (hu:UpA xs) (g n cap a m b mid:Nat) (ham:a+1<m) (hmb:m+1<b) (hbn:b≤n) (hn:n≤4096) (hmid:(a+b)/2=mid) (hcase:mid<m) (w:World) (h:Fl 11 w (some ⟨g,0,none⟩) n cap (xs.map acC))
  (hrec:∀ W,Fl 11 W (some ⟨g,0,none⟩) n cap (xs.map acC)→Calls Tryz.prog 294 #[.slice (some ⟨g,0,none⟩) n cap,.int .i64 (mid:Int),.int .i64 (m:Int),.int .i64 (b:Int),.func (.func 170) #[] #[]] W fun e w'=>e=.returned (.tuple #[])∧Below W.heap.size W w') :
  Calls Tryz.prog 294 #[.slice (some ⟨g,0,none⟩) n cap,.int .i64 ((a:Int)),.int .i64 ((m:Int)),.int .i64 ((b:Int)),.func (.func 170) #[] #[]] w fun e w'=>e=.returned (.tuple #[])∧Below w.heap.size w w':=by
 have hlx:=hid h.lenMap
 have hu:=hid hu
 have hh:=hid h
 have hrec:=hid hrec
 clear h
 have hmz:(((a:Int)+(b:Int))/2=(mid:Int))∧a<mid∧mid<b:=by omega
 obtain ⟨Hmz,hm1,hm2⟩:=hmz
 have Hmz:=hid Hmz
 clear hmid
 have c1:((m:Int)-(a:Int)==1)=false:=by rw [beq_eq_false_iff_ne]; omega
 have c2:((b:Int)-(m:Int)==1)=false:=by rw [beq_eq_false_iff_ne]; omega
 have c1':¬ ((m:Int)-(a:Int)=1):=by omega
 have c2':¬ ((b:Int)-(m:Int)=1):=by omega
 have c3:decide ((mid:Int)<(m:Int))=true:=decide_eq_true (by omega)
 have c4:(mid:Int)<(m:Int):=by omega
 go_enter Tryz.func294,Tryz.ntmps294
 go_wp2_with fail
 go_loopw [20,21] (fun iv jv wr=>(∃ i:Nat,mid+m-b≤i∧i≤mid∧iv=.int .i64 (i:Int))∧jv=.int .i64 (mid:Int)∧Below w.heap.size w wr) (fun iv _ _=>mid-(intOf iv).toNat)
 case atStart=>exact ⟨⟨mid+m-b,by omega,by omega,by first | rfl | exact congrArg (Value.int .i64) (by omega)⟩,rfl,Below.refl _ _⟩
 case round =>
  obtain ⟨⟨i,hi1,hi2,rfl⟩,rfl,hb⟩:=hrel
  by_cases hlt:i<mid
  ·obtain ⟨hm,hmid⟩:∃ hm:Nat,((i:Int)+(mid:Int))/2=(hm:Int):=⟨(i+mid)/2,by omega⟩
   obtain ⟨pc,hpc⟩:∃ pc:Nat,(mid:Int)+(m:Int)-1-(hm:Int)=(pc:Int):=⟨mid+m-1-hm,by omega⟩
   have k1:(i:Int)<(mid:Int):=by omega
   have k2:(0:Int)≤(hm:Int):=by omega
   have k3:(hm:Int)<(n:Int):=by omega
   have k4:(pc:Int)<(n:Int):=by omega
   have k5:(0:Int)≤(pc:Int):=by omega
   have k6:i≤hm∧hm<mid:=by omega
   have k7:(0:Int)≤(mid:Int)+(m:Int)-1-(hm:Int):=by omega
   have k8:(mid:Int)+(m:Int)-1-(hm:Int)<(n:Int):=by omega
   obtain ⟨x,hx⟩:∃ x,xs[hm]? = some x:=⟨_,List.getElem?_eq_getElem (by have:=hlx.out; omega)⟩
   obtain ⟨y,hy⟩:∃ y,xs[pc]? = some y:=⟨_,List.getElem?_eq_getElem (by have:=hlx.out; omega)⟩
   have cx:Cs wr g (hm*11) (acC x):=(hh.out.next hb).cs (by rw [List.getElem?_map,hx]; rfl)
   have cy:Cs wr g (pc*11) (acC y):=(hh.out.next hb).cs (by rw [List.getElem?_map,hy]; rfl)
   have hkl:¬ klt (ky y) (ky x):=upA_get hu.out (by omega) hx hy
   clear hx hy
   have Hmid:=hid hmid
   have Hpc:=hid hpc
   have w1:IntKind.i64.wrap (pc:Int)=(pc:Int):=IntWalk.i64_in _ (by omega)
   clear hmid hpc
   go_upto_region 35 with fail
   have hmid:=Hmid.out
   rw [hmid]
   have hpc:=Hpc.out
   have hdr:=(Below.refl wr.heap.size wr).drew
   have hS:Cs wr.drew g (pc*11) (acC y)∧Cs wr.drew g (hm*11) (acC x):=⟨cy.next hdr,cx.next hdr⟩
   refine wp_region_D (fun w'=>Cs w' g (pc*11) (acC y)∧Cs w' g (hm*11) (acC x)) [11,12,13] (by kernel_rfl) ?_
   refine wpSp (i:=0) rfl hS ?_
   refine wpSp (i:=1) rfl hS ?_
   refine wpSp (i:=2) rfl hS ?_
   refine wpSp (i:=3) rfl hS ?_
   refine wpSp (i:=4) rfl hS ?_
   refine wpSp (i:=5) rfl hS ?_
   refine wpS (i:=6) (v:=?_) rfl (Or.inl ⟨by rfl,?_⟩) hS ?_
   rotate_left
   ·intro w hw; obtain ⟨c1',c2'⟩:=hw; refine exec_loadArc g (pc*11) ?_ y c1'; go_simp
   refine wpSp (i:=7) rfl hS ?_
   refine wpSp (i:=8) rfl hS ?_
   refine wpSp (i:=9) rfl hS ?_
   refine wpS (i:=10) (v:=?_) rfl (Or.inl ⟨by rfl,?_⟩) hS ?_
   rotate_left
   ·intro w hw; obtain ⟨c1',c2'⟩:=hw; refine exec_loadArc g (hm*11) ?_ x c2'; go_simp
   refine wpAnyD_one (i:=11) (by kernel_rfl) rfl (fun KK hKK=>?_)
   go_simp
   go_at_call 170
   refine (ordS_any x y hkl _).mono ?_; rintro e w9 ⟨⟨c,rfl,hc0⟩,hb9⟩
   have hcn:¬ c<0:=by omega
   try go_simp
   refine hKK _ _ ⟨fun hn=>absurd (by simp) hn,?_⟩; clear hKK KK
   refine wpAnyD_one (i:=12) (by kernel_rfl) rfl (fun KK hKK=>?_)
   go_simp
   refine hKK _ _ ⟨fun hn=>absurd (by simp) hn,?_⟩; clear hKK KK
   refine wpAnyD_one (i:=13) (by kernel_rfl) rfl (fun KK hKK=>?_)
   go_simp
   refine hKK _ _ ⟨fun hn=>absurd (by simp) hn,?_⟩; clear hKK KK
   refine wpAnyD_done (by kernel_rfl) ?_ _
   go_simp
   go_wp2_with fail
   go_roundw
   case rel=>exact ⟨⟨hm+1,by omega,by omega,by go_num⟩,rfl,below_chain (below_chain hb hdr) hb9⟩
   case measure=>simp [intOf]; omega
  ·obtain rfl:i=mid:=by omega
   have z1:(i:Int)+(m:Int)-(i:Int)=(m:Int):=by omega
   have z2:decide ((i:Int)<(m:Int))=true:=c3
   have z3:decide ((m:Int)<(m:Int))=false:=decide_eq_false (by omega)
   have z4:decide ((a:Int)<(i:Int))=true:=decide_eq_true (by omega)
   have z5:decide ((i:Int)<(i:Int))=false:=decide_eq_false (by omega)
   have z6:decide ((m:Int)<(b:Int))=true:=decide_eq_true (by omega)
   have hf:=hid (hh.out.next hb)
   go_wp2_with fail
   refine (hrec.out _ hf.out).mono ?_; rintro e w5 ⟨rfl,hb5⟩
   go_wp2_with fail
   go_end0
   exact ⟨rfl,below_chain hb hb5⟩
set_option maxRecDepth 100000 in
set_option maxHeartbeats 4000000 in
theorem sym_genB (xs:List Ac) (hu:UpA xs) (g n cap a m b mid:Nat) (ham:a+1<m) (hmb:m+1<b) (hbn:b≤n) (hn:n≤4096) (hmid:(a+b)/2=mid) (hcase:m<mid) (w:World) (h:Fl 11 w (some ⟨g,0,none⟩) n cap (xs.map acC))
  (hrec:∀ W,Fl 11 W (some ⟨g,0,none⟩) n cap (xs.map acC)→Calls Tryz.prog 294 #[.slice (some ⟨g,0,none⟩) n cap,.int .i64 (a:Int),.int .i64 (m:Int),.int .i64 (mid:Int),.func (.func 170) #[] #[]] W fun e w'=>e=.returned (.tuple #[])∧Below W.heap.size W w') :
  Calls Tryz.prog 294 #[.slice (some ⟨g,0,none⟩) n cap,.int .i64 ((a:Int)),.int .i64 ((m:Int)),.int .i64 ((b:Int)),.func (.func 170) #[] #[]] w fun e w'=>e=.returned (.tuple #[])∧Below w.heap.size w w':=by
 have hlx:=hid h.lenMap
 have hu:=hid hu
 have hh:=hid h
 have hrec:=hid hrec
 clear h
 have hmz:(((a:Int)+(b:Int))/2=(mid:Int))∧a<mid∧mid<b:=by omega
 obtain ⟨Hmz,hm1,hm2⟩:=hmz
 have Hmz:=hid Hmz
 clear hmid
 have c1:((m:Int)-(a:Int)==1)=false:=by rw [beq_eq_false_iff_ne]; omega
 have c2:((b:Int)-(m:Int)==1)=false:=by rw [beq_eq_false_iff_ne]; omega
 have c1':¬ ((m:Int)-(a:Int)=1):=by omega
 have c2':¬ ((b:Int)-(m:Int)=1):=by omega
 have c3:decide ((mid:Int)<(m:Int))=false:=decide_eq_false (by omega)
 have c4:¬ (mid:Int)<(m:Int):=by omega
 go_enter Tryz.func294,Tryz.ntmps294
 go_wp2_with fail
 go_loopw [20,21] (fun iv jv wr=>(∃ i:Nat,a≤i∧i≤m∧iv=.int .i64 (i:Int))∧jv=.int .i64 (m:Int)∧Below w.heap.size w wr) (fun iv _ _=>m-(intOf iv).toNat)
 case atStart=>exact ⟨⟨a,by omega,by omega,by first | rfl | exact congrArg (Value.int .i64) (by omega)⟩,rfl,Below.refl _ _⟩
 case round =>
  obtain ⟨⟨i,hi1,hi2,rfl⟩,rfl,hb⟩:=hrel
  by_cases hlt:i<m
  ·obtain ⟨hm,hmid⟩:∃ hm:Nat,((i:Int)+(m:Int))/2=(hm:Int):=⟨(i+m)/2,by omega⟩
   obtain ⟨pc,hpc⟩:∃ pc:Nat,(mid:Int)+(m:Int)-1-(hm:Int)=(pc:Int):=⟨mid+m-1-hm,by omega⟩
   have k1:(i:Int)<(m:Int):=by omega
   have k2:(0:Int)≤(hm:Int):=by omega
   have k3:(hm:Int)<(n:Int):=by omega
   have k4:(pc:Int)<(n:Int):=by omega
   have k5:(0:Int)≤(pc:Int):=by omega
   have k6:i≤hm∧hm<m:=by omega
   have k7:(0:Int)≤(mid:Int)+(m:Int)-1-(hm:Int):=by omega
   have k8:(mid:Int)+(m:Int)-1-(hm:Int)<(n:Int):=by omega
   obtain ⟨x,hx⟩:∃ x,xs[hm]? = some x:=⟨_,List.getElem?_eq_getElem (by have:=hlx.out; omega)⟩
   obtain ⟨y,hy⟩:∃ y,xs[pc]? = some y:=⟨_,List.getElem?_eq_getElem (by have:=hlx.out; omega)⟩
   have cx:Cs wr g (hm*11) (acC x):=(hh.out.next hb).cs (by rw [List.getElem?_map,hx]; rfl)
   have cy:Cs wr g (pc*11) (acC y):=(hh.out.next hb).cs (by rw [List.getElem?_map,hy]; rfl)
   have hkl:¬ klt (ky y) (ky x):=upA_get hu.out (by omega) hx hy
   clear hx hy
   have Hmid:=hid hmid
   have Hpc:=hid hpc
   have w1:IntKind.i64.wrap (pc:Int)=(pc:Int):=IntWalk.i64_in _ (by omega)
   clear hmid hpc
   go_upto_region 35 with fail
   have hmid:=Hmid.out
   rw [hmid]
   have hpc:=Hpc.out
   have hdr:=(Below.refl wr.heap.size wr).drew
   have hS:Cs wr.drew g (pc*11) (acC y)∧Cs wr.drew g (hm*11) (acC x):=⟨cy.next hdr,cx.next hdr⟩
   refine wp_region_D (fun w'=>Cs w' g (pc*11) (acC y)∧Cs w' g (hm*11) (acC x)) [11,12,13] (by kernel_rfl) ?_
   refine wpSp (i:=0) rfl hS ?_
   refine wpSp (i:=1) rfl hS ?_
   refine wpSp (i:=2) rfl hS ?_
   refine wpSp (i:=3) rfl hS ?_
   refine wpSp (i:=4) rfl hS ?_
   refine wpSp (i:=5) rfl hS ?_
   refine wpS (i:=6) (v:=?_) rfl (Or.inl ⟨by rfl,?_⟩) hS ?_
   rotate_left
   ·intro w hw; obtain ⟨c1',c2'⟩:=hw; refine exec_loadArc g (pc*11) ?_ y c1'; go_simp
   refine wpSp (i:=7) rfl hS ?_
   refine wpSp (i:=8) rfl hS ?_
   refine wpSp (i:=9) rfl hS ?_
   refine wpS (i:=10) (v:=?_) rfl (Or.inl ⟨by rfl,?_⟩) hS ?_
   rotate_left
   ·intro w hw; obtain ⟨c1',c2'⟩:=hw; refine exec_loadArc g (hm*11) ?_ x c2'; go_simp
   refine wpAnyD_one (i:=11) (by kernel_rfl) rfl (fun KK hKK=>?_)
   go_simp
   go_at_call 170
   refine (ordS_any x y hkl _).mono ?_; rintro e w9 ⟨⟨c,rfl,hc0⟩,hb9⟩
   have hcn:¬ c<0:=by omega
   try go_simp
   refine hKK _ _ ⟨fun hn=>absurd (by simp) hn,?_⟩; clear hKK KK
   refine wpAnyD_one (i:=12) (by kernel_rfl) rfl (fun KK hKK=>?_)
   go_simp
   refine hKK _ _ ⟨fun hn=>absurd (by simp) hn,?_⟩; clear hKK KK
   refine wpAnyD_one (i:=13) (by kernel_rfl) rfl (fun KK hKK=>?_)
   go_simp
   refine hKK _ _ ⟨fun hn=>absurd (by simp) hn,?_⟩; clear hKK KK
   refine wpAnyD_done (by kernel_rfl) ?_ _
   go_simp
   go_wp2_with fail
   go_roundw
   case rel=>exact ⟨⟨hm+1,by omega,by omega,by go_num⟩,rfl,below_chain (below_chain hb hdr) hb9⟩
   case measure=>simp [intOf]; omega
  ·obtain rfl:i=m:=by omega
   have z1:(mid:Int)+(i:Int)-(i:Int)=(mid:Int):=by omega
   have z3:decide ((i:Int)<(i:Int))=false:=decide_eq_false (by omega)
   have z4:decide ((a:Int)<(i:Int))=true:=decide_eq_true (by omega)
   have z5:decide ((i:Int)<(mid:Int))=true:=decide_eq_true (by omega)
   have z6:decide ((mid:Int)<(mid:Int))=false:=decide_eq_false (by omega)
   have hf:=hid (hh.out.next hb)
   go_wp2_with fail
   refine (hrec.out _ hf.out).mono ?_; rintro e w5 ⟨rfl,hb5⟩
   go_wp2_with fail
   go_end0
   exact ⟨rfl,below_chain hb hb5⟩
set_option maxRecDepth 100000 in
set_option maxHeartbeats 4000000 in
theorem sym_genM (xs:List Ac) (hu:UpA xs) (g n cap a m b:Nat) (ham:a+1<m) (hmb:m+1<b) (hbn:b≤n) (hn:n≤4096) (hmid:(a+b)/2=m) (w:World) (h:Fl 11 w (some ⟨g,0,none⟩) n cap (xs.map acC)) :
  Calls Tryz.prog 294 #[.slice (some ⟨g,0,none⟩) n cap,.int .i64 ((a:Int)),.int .i64 ((m:Int)),.int .i64 ((b:Int)),.func (.func 170) #[] #[]] w fun e w'=>e=.returned (.tuple #[])∧Below w.heap.size w w':=by
 have hlx:=hid h.lenMap
 have hu:=hid hu
 have hh:=hid h
 clear h
 have hmz:(((a:Int)+(b:Int))/2=(m:Int))∧a<m∧m<b:=by omega
 obtain ⟨Hmz,hm1,hm2⟩:=hmz
 have Hmz:=hid Hmz
 clear hmid
 have c1:((m:Int)-(a:Int)==1)=false:=by rw [beq_eq_false_iff_ne]; omega
 have c2:((b:Int)-(m:Int)==1)=false:=by rw [beq_eq_false_iff_ne]; omega
 have c1':¬ ((m:Int)-(a:Int)=1):=by omega
 have c2':¬ ((b:Int)-(m:Int)=1):=by omega
 have c3:decide ((m:Int)<(m:Int))=false:=decide_eq_false (by omega)
 have c4:¬ (m:Int)<(m:Int):=by omega
 go_enter Tryz.func294,Tryz.ntmps294
 go_wp2_with fail
 go_loopw [20,21] (fun iv jv wr=>(∃ i:Nat,a≤i∧i≤m∧iv=.int .i64 (i:Int))∧jv=.int .i64 (m:Int)∧Below w.heap.size w wr) (fun iv _ _=>m-(intOf iv).toNat)
 case atStart=>exact ⟨⟨a,by omega,by omega,by first | rfl | exact congrArg (Value.int .i64) (by omega)⟩,rfl,Below.refl _ _⟩
 case round =>
  obtain ⟨⟨i,hi1,hi2,rfl⟩,rfl,hb⟩:=hrel
  by_cases hlt:i<m
  ·obtain ⟨hm,hmid⟩:∃ hm:Nat,((i:Int)+(m:Int))/2=(hm:Int):=⟨(i+m)/2,by omega⟩
   have k0:True:=trivial
   obtain ⟨pc,hpc⟩:∃ pc:Nat,(m:Int)+(m:Int)-1-(hm:Int)=(pc:Int):=⟨m+m-1-hm,by omega⟩
   have k1:(i:Int)<(m:Int):=by omega
   have k2:(0:Int)≤(hm:Int):=by omega
   have k3:(hm:Int)<(n:Int):=by omega
   have k4:(pc:Int)<(n:Int):=by omega
   have k5:(0:Int)≤(pc:Int):=by omega
   have k6:i≤hm∧hm<m:=by omega
   have k7:(0:Int)≤(m:Int)+(m:Int)-1-(hm:Int):=by omega
   have k8:(m:Int)+(m:Int)-1-(hm:Int)<(n:Int):=by omega
   obtain ⟨x,hx⟩:∃ x,xs[hm]? = some x:=⟨_,List.getElem?_eq_getElem (by have:=hlx.out; omega)⟩
   obtain ⟨y,hy⟩:∃ y,xs[pc]? = some y:=⟨_,List.getElem?_eq_getElem (by have:=hlx.out; omega)⟩
   have cx:Cs wr g (hm*11) (acC x):=(hh.out.next hb).cs (by rw [List.getElem?_map,hx]; rfl)
   have cy:Cs wr g (pc*11) (acC y):=(hh.out.next hb).cs (by rw [List.getElem?_map,hy]; rfl)
   have hkl:¬ klt (ky y) (ky x):=upA_get hu.out (by omega) hx hy
   clear hx hy
   have Hmid:=hid hmid
   have Hpc:=hid hpc
   have w1:IntKind.i64.wrap (pc:Int)=(pc:Int):=IntWalk.i64_in _ (by omega)
   clear hmid hpc
   go_upto_region 35 with fail
   have hmid:=Hmid.out
   rw [hmid]
   have hpc:=Hpc.out
   have hdr:=(Below.refl wr.heap.size wr).drew
   have hS:Cs wr.drew g (pc*11) (acC y)∧Cs wr.drew g (hm*11) (acC x):=⟨cy.next hdr,cx.next hdr⟩
   refine wp_region_D (fun w'=>Cs w' g (pc*11) (acC y)∧Cs w' g (hm*11) (acC x)) [11,12,13] (by kernel_rfl) ?_
   refine wpSp (i:=0) rfl hS ?_
   refine wpSp (i:=1) rfl hS ?_
   refine wpSp (i:=2) rfl hS ?_
   refine wpSp (i:=3) rfl hS ?_
   refine wpSp (i:=4) rfl hS ?_
   refine wpSp (i:=5) rfl hS ?_
   refine wpS (i:=6) (v:=?_) rfl (Or.inl ⟨by rfl,?_⟩) hS ?_
   rotate_left
   ·intro w hw; obtain ⟨c1',c2'⟩:=hw; refine exec_loadArc g (pc*11) ?_ y c1'; go_simp
   refine wpSp (i:=7) rfl hS ?_
   refine wpSp (i:=8) rfl hS ?_
   refine wpSp (i:=9) rfl hS ?_
   refine wpS (i:=10) (v:=?_) rfl (Or.inl ⟨by rfl,?_⟩) hS ?_
   rotate_left
   ·intro w hw; obtain ⟨c1',c2'⟩:=hw; refine exec_loadArc g (hm*11) ?_ x c2'; go_simp
   refine wpAnyD_one (i:=11) (by kernel_rfl) rfl (fun KK hKK=>?_)
   go_simp
   go_at_call 170
   refine (ordS_any x y hkl _).mono ?_; rintro e w9 ⟨⟨c,rfl,hc0⟩,hb9⟩
   have hcn:¬ c<0:=by omega
   try go_simp
   refine hKK _ _ ⟨fun hn=>absurd (by simp) hn,?_⟩; clear hKK KK
   refine wpAnyD_one (i:=12) (by kernel_rfl) rfl (fun KK hKK=>?_)
   go_simp
   refine hKK _ _ ⟨fun hn=>absurd (by simp) hn,?_⟩; clear hKK KK
   refine wpAnyD_one (i:=13) (by kernel_rfl) rfl (fun KK hKK=>?_)
   go_simp
   refine hKK _ _ ⟨fun hn=>absurd (by simp) hn,?_⟩; clear hKK KK
   refine wpAnyD_done (by kernel_rfl) ?_ _
   go_simp
   go_wp2_with fail
   go_roundw
   case rel=>exact ⟨⟨hm+1,by omega,by omega,by go_num⟩,rfl,below_chain (below_chain hb hdr) hb9⟩
   case measure=>simp [intOf]; omega
  ·obtain rfl:i=m:=by omega
   have z1:(i:Int)+(i:Int)-(i:Int)=(i:Int):=by omega
   have z3:decide ((i:Int)<(i:Int))=false:=decide_eq_false (by omega)
   have z4:decide ((a:Int)<(i:Int))=true:=decide_eq_true (by omega)
   have z5:decide ((i:Int)<(i:Int))=false:=decide_eq_false (by omega)
   have z6:decide ((i:Int)<(i:Int))=false:=decide_eq_false (by omega)
   have hf:=hid (hh.out.next hb)
   go_wp2_with fail
   go_end0
   exact ⟨rfl,hb⟩
theorem symS_any (xs:List Ac) (hu:UpA xs) (g n cap:Nat) (hn:n≤4096):∀ (d a m b:Nat),b-a≤d→a<m→m<b→b≤n→∀ (w:World),Fl 11 w (some ⟨g,0,none⟩) n cap (xs.map acC) →
  Calls Tryz.prog 294 #[.slice (some ⟨g,0,none⟩) n cap,.int .i64 ((a:Int)),.int .i64 ((m:Int)),.int .i64 ((b:Int)),.func (.func 170) #[] #[]] w fun e w'=>e=.returned (.tuple #[])∧Below w.heap.size w w'
 | 0,a,m,b,hd,h1,h2,_,_,_=>by omega
 | d+1,a,m,b,hd,h1,h2,h3,w,h=>by
  by_cases e1:a+1=m
  ·subst e1
   have:=sym_left xs hu g n cap a b (by omega) h3 hn w h
   exact this
  by_cases e2:b=m+1
  ·subst e2
   have:=sym_right xs hu g n cap a m (by omega) (by omega) hn w h
   exact this
  rcases Nat.lt_trichotomy ((a+b)/2) m with k | k | k
  ·exact sym_genA xs hu g n cap a m b _ (by omega) (by omega) h3 hn rfl k w h fun W hW=>symS_any xs hu g n cap hn d _ m b (by omega) k (by omega) h3 W hW
  ·exact sym_genM xs hu g n cap a m b (by omega) (by omega) h3 hn k w h
  ·exact sym_genB xs hu g n cap a m b _ (by omega) (by omega) h3 hn rfl k w h fun W hW=>symS_any xs hu g n cap hn d a m _ (by omega) h1 k (by omega) W hW
end
end Go.Proofs.YtnapapijhhldpaaGreatDoor
